/- What the program's searcher comes to. -/
import Derived.Test.YtfnfoecocicigaaYB
import Derived.Test.YtfnfoecocicigaaXMap
namespace Go.Proofs.YtfnfoecocicigaaX
open Go
set_option linter.unusedVariables false
set_option linter.unusedSimpArgs false
abbrev KV := List (S_impl_stateLeft × Bool)
/-- What is remembered is right. -/
def InvM (L : Nat) (kv : KV) : Prop := ∀ p ∈ kv, ∀ (x : Q4) (q : Nat), p.1 = ⟨sq x, (q : Int)⟩ → p.2 = canV L q x
theorem mSet_mem {kv : KV} {k : S_impl_stateLeft} {v : Bool} {p : S_impl_stateLeft × Bool} (h : p ∈ mSet kv k v) : p ∈ kv ∨ p = (k, v) := by
  unfold mSet at h
  cases hq : mIdx kv k with
  | some i =>
    rw [hq] at h
    exact List.mem_or_eq_of_mem_set h
  | none =>
    rw [hq] at h
    rcases List.mem_append.1 h with h | h
    · exact .inl h
    · exact .inr (List.mem_singleton.1 h)
theorem sq_inj {x y : Q4} (h : sq x = sq y) : x = y := by
  obtain ⟨h0, h1, h2, h3⟩ := SN_inj h
  obtain ⟨a, b, c, d⟩ := x
  obtain ⟨a', b', c', d'⟩ := y
  simp only at h0 h1 h2 h3
  subst h0 h1 h2 h3
  rfl
theorem InvM.set {L : Nat} {kv : KV} (h : InvM L kv) {x : Q4} {q : Nat} : InvM L (mSet kv ⟨sq x, (q : Int)⟩ (canV L q x)) := by
  intro p hp y r e
  rcases mSet_mem hp with hp | rfl
  · exact h p hp y r e
  · have e2 := congrArg S_impl_stateLeft.f_x e
    have e3 := congrArg S_impl_stateLeft.f_left e
    obtain rfl := sq_inj e2
    have e4 : (q : Int) = (r : Int) := e3
    have : q = r := by omega
    subst this; rfl
theorem InvM.get {L : Nat} {kv : KV} (h : InvM L kv) {x : Q4} {q : Nat} (hs : (mIdx kv (⟨sq x, (q : Int)⟩ : S_impl_stateLeft)).isSome = true) : mGet kv (⟨sq x, (q : Int)⟩ : S_impl_stateLeft) false = canV L q x := by
  cases hq : mIdx kv (⟨sq x, (q : Int)⟩ : S_impl_stateLeft) with
  | none => rw [hq] at hs; cases hs
  | some i =>
    obtain ⟨hi, he⟩ := List.findIdx?_eq_some_iff_getElem.1 hq
    unfold mGet
    rw [hq]
    simp only [List.getElem?_eq_getElem hi, Option.map_some, Option.getD_some]
    exact h _ (List.getElem_mem hi) x q (of_decide_eq_true he.1).symm
/-- What one that knows the answers for q questions tells of an ask. -/
def SelfOk (L q : Nat) (self : S_impl_searcher → S4 → Int → Option (Bool × KV)) : Prop :=
  ∀ (kv : KV) (x : Q4), InvM L kv → tot x ≤ 8 → ∃ kv', self ⟨L, kv⟩ (sq x) (q : Int) = some (canV L q x, kv') ∧ InvM L kv'
/-- The asks from one on. -/
def rest (x a : Q4) : List Q4 := tl3 x.2.2.2 a.1 a.2.1 a.2.2.1 a.2.2.2 ++ (tl2 x.2.2.1 x.2.2.2 a.1 a.2.1 (a.2.2.1 + 1) ++ (tl1 x.2.1 x.2.2.1 x.2.2.2 a.1 (a.2.1 + 1) ++ tl0 x.1 x.2.1 x.2.2.1 x.2.2.2 (a.1 + 1)))
theorem rest_zero (x : Q4) : rest x (0, 0, 0, 0) = asks x := by
  unfold rest asks
  rw [tl0_cons (Nat.zero_le _), tl1_cons (Nat.zero_le _), tl2_cons (Nat.zero_le _)]
  simp only [List.append_assoc]
/-- The next ask. -/
def nxt (x a : Q4) : Option Q4 :=
  if a.2.2.2 < x.2.2.2 then some (a.1, a.2.1, a.2.2.1, a.2.2.2 + 1)
  else if a.2.2.1 < x.2.2.1 then some (a.1, a.2.1, a.2.2.1 + 1, 0)
  else if a.2.1 < x.2.1 then some (a.1, a.2.1 + 1, 0, 0)
  else if a.1 < x.1 then some (a.1 + 1, 0, 0, 0) else none
theorem rest_step {x a : Q4} (h : le4 a x) : rest x a = a :: (match nxt x a with | some b => rest x b | none => []) := by
  obtain ⟨x0, x1, x2, x3⟩ := x
  obtain ⟨a0, a1, a2, a3⟩ := a
  obtain ⟨h0, h1, h2, h3⟩ := h
  simp only at h0 h1 h2 h3
  unfold nxt
  simp only
  by_cases c3 : a3 < x3
  · rw [if_pos c3]
    show rest (x0, x1, x2, x3) (a0, a1, a2, a3) = (a0, a1, a2, a3) :: rest (x0, x1, x2, x3) (a0, a1, a2, a3 + 1)
    unfold rest
    simp only
    rw [tl3_cons h3, List.cons_append]
  · rw [if_neg c3]
    have e3 : tl3 x3 a0 a1 a2 a3 = [(a0, a1, a2, a3)] := by rw [tl3_cons h3, tl3_nil (by omega)]
    by_cases c2 : a2 < x2
    · rw [if_pos c2]
      show rest (x0, x1, x2, x3) (a0, a1, a2, a3) = (a0, a1, a2, a3) :: rest (x0, x1, x2, x3) (a0, a1, a2 + 1, 0)
      unfold rest
      simp only
      rw [e3, tl2_cons (lo := a2 + 1) (by omega), List.append_assoc]
      rfl
    · rw [if_neg c2]
      have e2 : tl2 x2 x3 a0 a1 (a2 + 1) = [] := tl2_nil (by omega)
      by_cases c1 : a1 < x1
      · rw [if_pos c1]
        show rest (x0, x1, x2, x3) (a0, a1, a2, a3) = (a0, a1, a2, a3) :: rest (x0, x1, x2, x3) (a0, a1 + 1, 0, 0)
        unfold rest
        simp only
        rw [e3, e2, tl1_cons (lo := a1 + 1) (by omega), tl2_cons (lo := 0) (by omega)]
        simp
      · rw [if_neg c1]
        have e1 : tl1 x1 x2 x3 a0 (a1 + 1) = [] := tl1_nil (by omega)
        by_cases c0 : a0 < x0
        · rw [if_pos c0]
          show rest (x0, x1, x2, x3) (a0, a1, a2, a3) = (a0, a1, a2, a3) :: rest (x0, x1, x2, x3) (a0 + 1, 0, 0, 0)
          unfold rest
          simp only
          rw [e3, e2, e1, tl0_cons (lo := a0 + 1) (by omega), tl1_cons (lo := 0) (by omega), tl2_cons (lo := 0) (by omega)]
          simp
        · rw [if_neg c0]
          show rest (x0, x1, x2, x3) (a0, a1, a2, a3) = [(a0, a1, a2, a3)]
          unfold rest
          simp only
          rw [e3, e2, e1, tl0_nil (by omega)]
          rfl
theorem nxt_le {x a b : Q4} (h : le4 a x) (e : nxt x a = some b) : le4 b x := by
  obtain ⟨h0, h1, h2, h3⟩ := h
  unfold nxt at e
  split at e
  · obtain rfl := Option.some.inj e; exact ⟨h0, h1, h2, by simp only; omega⟩
  · split at e
    · obtain rfl := Option.some.inj e; exact ⟨h0, h1, by simp only; omega, by simp only; omega⟩
    · split at e
      · obtain rfl := Option.some.inj e; exact ⟨h0, by simp only; omega, by simp only; omega, by simp only; omega⟩
      · split at e
        · obtain rfl := Option.some.inj e; exact ⟨by simp only; omega, by simp only; omega, by simp only; omega, by simp only; omega⟩
        · cases e
abbrev R4 := S4 × Bool × KV
theorem b3_eq {N : Nat} {self : S_impl_searcher → S4 → Int → Option (Bool × KV)} {x m : S4} {i : Nat} (hi : i < 4) : _impl_searcher_ask.b3 N self x m (i : Int) = if m.get (i : Int) 0 = x.get (i : Int) 0 then some (.next (m.set (i : Int) 0, (i : Int) - 1)) else some (.out (.go (m, (i : Int)))) := by
  unfold _impl_searcher_ask.b3
  rw [if_pos (by omega), if_pos ⟨by omega, by omega⟩, if_pos ⟨by omega, by omega⟩]
  by_cases c : m.get (i : Int) 0 = x.get (i : Int) 0
  · rw [if_pos c, if_pos c, if_pos ⟨by omega, by omega⟩, i64w_id (by omega) (by omega)]
  · rw [if_neg c, if_neg c]
theorem a3_eq {N : Nat} {self : S_impl_searcher → S4 → Int → Option (Bool × KV)} {kv : KV} {m : S4} {i : Nat} (hi : i < 4) : _impl_searcher_ask.a3 N self kv m (i : Int) = some (.next (kv, m.set (i : Int) (i64w (m.get (i : Int) 0 + 1)))) := by
  unfold _impl_searcher_ask.a3
  rw [if_neg (by omega), if_pos ⟨by omega, by omega⟩, if_pos ⟨by omega, by omega⟩]
theorem j2_eq {M : Nat} {self : S_impl_searcher → S4 → Int → Option (Bool × KV)} {x a : Q4} {kv : KV} (h : le4 a x) (hx : tot x ≤ 8) :
    _impl_searcher_ask.j2 (M + 6) self (sq x) (sq a) kv = some (match nxt x a with | some b => .next (kv, sq b) | none => .out (.ret (Ar.rep 4 0, false, kv))) := by
  obtain ⟨x0, x1, x2, x3⟩ := x
  obtain ⟨a0, a1, a2, a3⟩ := a
  obtain ⟨h0, h1, h2, h3⟩ := h
  simp only [tot] at h0 h1 h2 h3 hx
  unfold _impl_searcher_ask.j2 nxt
  simp only
  have w : ∀ n : Nat, n ≤ 8 → i64w ((n : Int) + 1) = ((n + 1 : Nat) : Int) := fun n hn => i64w_id (by omega) (by omega)
  by_cases c3 : a3 < x3
  · rw [if_pos c3]
    have e : rounds (fun s => _impl_searcher_ask.b3 (M + 6) self (sq (x0, x1, x2, x3)) s.1 s.2) (M + 6) (sq (a0, a1, a2, a3), 3) = some (.go (sq (a0, a1, a2, a3), 3)) := by
      refine rounds_out ?_
      show _impl_searcher_ask.b3 (M + 6) self (sq (x0, x1, x2, x3)) (sq (a0, a1, a2, a3)) ((3 : Nat) : Int) = _
      rw [b3_eq (by omega)]
      exact if_neg (show ¬ ((a3 : Int) = (x3 : Int)) by omega)
    rw [e, Option.bind_some]
    show _impl_searcher_ask.a3 (M + 6) self kv (sq (a0, a1, a2, a3)) ((3 : Nat) : Int) = _
    rw [a3_eq (by omega)]
    show some (Bd.next (kv, SI (a0 : Int) a1 a2 (i64w ((a3 : Int) + 1)))) = _
    rw [w a3 (by omega)]
    rfl
  · rw [if_neg c3]
    have s3 : _impl_searcher_ask.b3 (M + 6) self (sq (x0, x1, x2, x3)) (sq (a0, a1, a2, a3)) 3 = some (.next (sq (a0, a1, a2, 0), 2)) := by
      show _impl_searcher_ask.b3 (M + 6) self (sq (x0, x1, x2, x3)) (sq (a0, a1, a2, a3)) ((3 : Nat) : Int) = _
      rw [b3_eq (by omega)]
      exact if_pos (show ((a3 : Int) = (x3 : Int)) by omega)
    by_cases c2 : a2 < x2
    · rw [if_pos c2]
      have e : rounds (fun s => _impl_searcher_ask.b3 (M + 6) self (sq (x0, x1, x2, x3)) s.1 s.2) (M + 6) (sq (a0, a1, a2, a3), 3) = some (.go (sq (a0, a1, a2, 0), 2)) := by
        refine (rounds_next s3).trans (rounds_out ?_)
        show _impl_searcher_ask.b3 (M + 6) self (sq (x0, x1, x2, x3)) (sq (a0, a1, a2, 0)) ((2 : Nat) : Int) = _
        rw [b3_eq (by omega)]
        exact if_neg (show ¬ ((a2 : Int) = (x2 : Int)) by omega)
      rw [e, Option.bind_some]
      show _impl_searcher_ask.a3 (M + 6) self kv (sq (a0, a1, a2, 0)) ((2 : Nat) : Int) = _
      rw [a3_eq (by omega)]
      show some (Bd.next (kv, SI (a0 : Int) a1 (i64w ((a2 : Int) + 1)) 0)) = _
      rw [w a2 (by omega)]
      rfl
    · rw [if_neg c2]
      have s2 : _impl_searcher_ask.b3 (M + 6) self (sq (x0, x1, x2, x3)) (sq (a0, a1, a2, 0)) 2 = some (.next (sq (a0, a1, 0, 0), 1)) := by
        show _impl_searcher_ask.b3 (M + 6) self (sq (x0, x1, x2, x3)) (sq (a0, a1, a2, 0)) ((2 : Nat) : Int) = _
        rw [b3_eq (by omega)]
        exact if_pos (show ((a2 : Int) = (x2 : Int)) by omega)
      by_cases c1 : a1 < x1
      · rw [if_pos c1]
        have e : rounds (fun s => _impl_searcher_ask.b3 (M + 6) self (sq (x0, x1, x2, x3)) s.1 s.2) (M + 6) (sq (a0, a1, a2, a3), 3) = some (.go (sq (a0, a1, 0, 0), 1)) := by
          refine (rounds_next s3).trans ((rounds_next s2).trans (rounds_out ?_))
          show _impl_searcher_ask.b3 (M + 6) self (sq (x0, x1, x2, x3)) (sq (a0, a1, 0, 0)) ((1 : Nat) : Int) = _
          rw [b3_eq (by omega)]
          exact if_neg (show ¬ ((a1 : Int) = (x1 : Int)) by omega)
        rw [e, Option.bind_some]
        show _impl_searcher_ask.a3 (M + 6) self kv (sq (a0, a1, 0, 0)) ((1 : Nat) : Int) = _
        rw [a3_eq (by omega)]
        show some (Bd.next (kv, SI (a0 : Int) (i64w ((a1 : Int) + 1)) 0 0)) = _
        rw [w a1 (by omega)]
        rfl
      · rw [if_neg c1]
        have s1 : _impl_searcher_ask.b3 (M + 6) self (sq (x0, x1, x2, x3)) (sq (a0, a1, 0, 0)) 1 = some (.next (sq (a0, 0, 0, 0), 0)) := by
          show _impl_searcher_ask.b3 (M + 6) self (sq (x0, x1, x2, x3)) (sq (a0, a1, 0, 0)) ((1 : Nat) : Int) = _
          rw [b3_eq (by omega)]
          exact if_pos (show ((a1 : Int) = (x1 : Int)) by omega)
        by_cases c0 : a0 < x0
        · rw [if_pos c0]
          have e : rounds (fun s => _impl_searcher_ask.b3 (M + 6) self (sq (x0, x1, x2, x3)) s.1 s.2) (M + 6) (sq (a0, a1, a2, a3), 3) = some (.go (sq (a0, 0, 0, 0), 0)) := by
            refine (rounds_next s3).trans ((rounds_next s2).trans ((rounds_next s1).trans (rounds_out ?_)))
            show _impl_searcher_ask.b3 (M + 6) self (sq (x0, x1, x2, x3)) (sq (a0, 0, 0, 0)) ((0 : Nat) : Int) = _
            rw [b3_eq (by omega)]
            exact if_neg (show ¬ ((a0 : Int) = (x0 : Int)) by omega)
          rw [e, Option.bind_some]
          show _impl_searcher_ask.a3 (M + 6) self kv (sq (a0, 0, 0, 0)) ((0 : Nat) : Int) = _
          rw [a3_eq (by omega)]
          show some (Bd.next (kv, SI (i64w ((a0 : Int) + 1)) 0 0 0)) = _
          rw [w a0 (by omega)]
          rfl
        · rw [if_neg c0]
          have s0 : _impl_searcher_ask.b3 (M + 6) self (sq (x0, x1, x2, x3)) (sq (a0, 0, 0, 0)) 0 = some (.next (sq (0, 0, 0, 0), -1)) := by
            show _impl_searcher_ask.b3 (M + 6) self (sq (x0, x1, x2, x3)) (sq (a0, 0, 0, 0)) ((0 : Nat) : Int) = _
            rw [b3_eq (by omega)]
            exact if_pos (show ((a0 : Int) = (x0 : Int)) by omega)
          have e : rounds (fun s => _impl_searcher_ask.b3 (M + 6) self (sq (x0, x1, x2, x3)) s.1 s.2) (M + 6) (sq (a0, a1, a2, a3), 3) = some (.go (sq (0, 0, 0, 0), -1)) := by
            refine (rounds_next s3).trans ((rounds_next s2).trans ((rounds_next s1).trans ((rounds_next s0).trans (rounds_out ?_))))
            show _impl_searcher_ask.b3 (M + 6) self (sq (x0, x1, x2, x3)) (sq (0, 0, 0, 0)) (-1) = _
            unfold _impl_searcher_ask.b3
            rw [if_neg (by omega)]
          rw [e, Option.bind_some]
          show _impl_searcher_ask.a3 (M + 6) self kv (sq (0, 0, 0, 0)) (-1) = _
          unfold _impl_searcher_ask.a3
          rw [if_pos (by omega)]
def ansA (o : Option Q4) : S4 × Bool := match o with | some b => (sq b, true) | none => (Ar.rep 4 0, false)
theorem ask_loop {M L q : Nat} {self : S_impl_searcher → S4 → Int → Option (Bool × KV)} (hself : SelfOk L q self) (hL : L ≤ 3) (hq : q ≤ 19) {x : Q4} (hx : tot x ≤ 8) (kv0 : KV) :
    ∀ (m : Nat) (a : Q4) (kv : KV), le4 a x → (rest x a).length < m → InvM L kv → ∃ kv', rounds (fun s => _impl_searcher_ask.b0 (M + 6) self (sq x) ⟨L, kv0⟩ ((q + 1 : Nat) : Int) s.1 s.2) m (kv, sq a) = some (.ret ((ansA ((rest x a).find? (good L q x))).1, (ansA ((rest x a).find? (good L q x))).2, kv')) ∧ InvM L kv' := by
  intro m
  induction m with
  | zero => intro a kv _ h; exact absurd h (Nat.not_lt_zero _)
  | succ m ih =>
    intro a kv ha hm hI
    have hstep := rest_step ha
    have hxx : x.1 ≤ 60 ∧ x.2.1 ≤ 60 ∧ x.2.2.1 ≤ 60 ∧ x.2.2.2 ≤ 60 := by unfold tot at hx; omega
    have hsp := split_impl (M := M) hL hxx ha.1 ha.2.1 ha.2.2.1 ha.2.2.2
    rw [qY_sq, qN_sq] at hsp
    have ht := tot_le (L := L) ha
    have eq1 : i64w (((q + 1 : Nat) : Int) - 1) = (q : Int) := by rw [i64w_id (by omega) (by omega)]; omega
    obtain ⟨kv1, e1, I1⟩ := hself kv (qY L x a) hI (by omega)
    obtain ⟨kv2, e2, I2⟩ := hself kv1 (qN L x a) I1 (by omega)
    have hb : _impl_searcher_ask.b0 (M + 6) self (sq x) ⟨L, kv0⟩ ((q + 1 : Nat) : Int) kv (sq a) = if good L q x a = true then some (.out (.ret (sq a, true, kv2))) else if canV L q (qY L x a) = true then _impl_searcher_ask.j2 (M + 6) self (sq x) (sq a) kv2 else _impl_searcher_ask.j2 (M + 6) self (sq x) (sq a) kv1 := by
      unfold _impl_searcher_ask.b0
      rw [show _impl_State_split.f (M + 6) (sq x) (⟨(L : Int), kv0⟩ : S_impl_searcher).f_lies (sq a) = some (sq (qY L x a), sq (qN L x a)) from hsp, Option.bind_some]
      show ((self (⟨L, kv⟩ : S_impl_searcher) (sq (qY L x a)) (i64w (((q + 1 : Nat) : Int) - 1))).bind _) = _
      rw [eq1, e1, Option.bind_some]
      unfold good
      cases c1 : canV L q (qY L x a) with
      | false => simp
      | true =>
        simp only [if_true, Bool.true_and]
        show ((self (⟨L, kv1⟩ : S_impl_searcher) (sq (qN L x a)) (q : Int)).bind _) = _
        rw [e2, Option.bind_some]
    by_cases g : good L q x a = true
    · rw [if_pos g] at hb
      refine ⟨kv2, ?_, I2⟩
      rw [hstep, List.find?_cons_of_pos g]
      exact rounds_out hb
    · rw [if_neg g] at hb
      rw [hstep, List.find?_cons_of_neg g]
      have main : ∀ kv3, InvM L kv3 → _impl_searcher_ask.b0 (M + 6) self (sq x) ⟨L, kv0⟩ ((q + 1 : Nat) : Int) kv (sq a) = _impl_searcher_ask.j2 (M + 6) self (sq x) (sq a) kv3 →
          ∃ kv', rounds (fun s => _impl_searcher_ask.b0 (M + 6) self (sq x) ⟨L, kv0⟩ ((q + 1 : Nat) : Int) s.1 s.2) (m + 1) (kv, sq a) = some (.ret ((ansA ((match nxt x a with | some b => rest x b | none => []).find? (good L q x))).1, (ansA ((match nxt x a with | some b => rest x b | none => []).find? (good L q x))).2, kv')) ∧ InvM L kv' := by
        intro kv3 I3 hb3
        rw [j2_eq ha hx] at hb3
        cases hn : nxt x a with
        | some b =>
          rw [hn] at hb3 hstep
          have hlen : (rest x b).length < m := by
            have := congrArg List.length hstep
            simp only [List.length_cons] at this
            omega
          obtain ⟨kv', h1, h2⟩ := ih b kv3 (nxt_le ha hn) hlen I3
          exact ⟨kv', (rounds_next hb3).trans h1, h2⟩
        | none =>
          rw [hn] at hb3
          exact ⟨kv3, rounds_out hb3, I3⟩
      by_cases c1 : canV L q (qY L x a) = true
      · rw [if_pos c1] at hb; exact main kv2 I2 hb
      · rw [if_neg c1] at hb; exact main kv1 I1 hb
theorem ask_eq {M L q : Nat} {self : S_impl_searcher → S4 → Int → Option (Bool × KV)} (hself : SelfOk L q self) (hL : L ≤ 3) (hq : q ≤ 19) (hM : 8000 ≤ M) {x : Q4} (hx : tot x ≤ 8) {kv : KV} (hI : InvM L kv) :
    ∃ kv', _impl_searcher_ask.f (M + 6) self ⟨L, kv⟩ (sq x) ((q + 1 : Nat) : Int) = some ((ansA ((asks x).find? (good L q x))).1, (ansA ((asks x).find? (good L q x))).2, kv') ∧ InvM L kv' := by
  have hlen : (rest x (0, 0, 0, 0)).length < M + 6 := by
    rw [rest_zero]
    unfold asks tot at *
    have := tl0_len (x0 := x.1) (x1 := x.2.1) (x2 := x.2.2.1) (x3 := x.2.2.2) (by omega) (by omega) (by omega) (by omega) 0
    omega
  obtain ⟨kv', h1, h2⟩ := ask_loop hself hL hq hx (M := M) kv (M + 6) (0, 0, 0, 0) kv ⟨Nat.zero_le _, Nat.zero_le _, Nat.zero_le _, Nat.zero_le _⟩ hlen hI
  rw [rest_zero] at h1
  refine ⟨kv', ?_, h2⟩
  unfold _impl_searcher_ask.f
  have h1' : rounds (fun s => _impl_searcher_ask.b0 (M + 6) self (sq x) ⟨L, kv⟩ ((q + 1 : Nat) : Int) s.1 s.2) (M + 6) ((⟨(L : Int), kv⟩ : S_impl_searcher).f_known, (Ar.rep 4 0)) = some (.ret ((ansA ((asks x).find? (good L q x))).1, (ansA ((asks x).find? (good L q x))).2, kv')) := h1
  rw [h1']
  rfl
theorem can_impl {M L : Nat} (hL : L ≤ 3) (hM : 8000 ≤ M) : ∀ (q : Nat), q ≤ 20 → ∀ kf, q < kf → SelfOk L q (_impl_searcher_can.g (M + 6) kf) := by
  intro q
  induction q with
  | zero =>
    intro _ kf hk kv x hI hx
    obtain ⟨kf, rfl⟩ : ∃ j, kf = j + 1 := ⟨kf - 1, by omega⟩
    refine ⟨kv, ?_, hI⟩
    show _impl_searcher_can.body (M + 6) (_impl_searcher_can.g (M + 6) kf) ⟨L, kv⟩ (sq x) ((0 : Nat) : Int) = _
    unfold _impl_searcher_can.body
    rw [show _impl_State_sum.f (M + 6) (sq x) = some ((tot x : Nat) : Int) from sum_impl _ (by unfold tot at hx; omega), Option.bind_some]
    by_cases c : tot x ≤ 1
    · rw [if_pos (by omega), show canV L 0 x = true from decide_eq_true c]
    · rw [if_neg (by omega), if_pos (show ((0 : Nat) : Int) = 0 from rfl), show canV L 0 x = false from decide_eq_false c]
  | succ q ih =>
    intro hq kf hk kv x hI hx
    obtain ⟨kf, rfl⟩ : ∃ j, kf = j + 1 := ⟨kf - 1, by omega⟩
    have hself := ih (by omega) kf (by omega)
    have hx8 : x.1 ≤ 8 ∧ x.2.1 ≤ 8 ∧ x.2.2.1 ≤ 8 ∧ x.2.2.2 ≤ 8 := by unfold tot at hx; omega
    have hw := weight_impl (N := M + 6) (by omega) hL hx8 hq
    have hp := pow_tab (q + 1) (by omega)
    show ∃ kv', _impl_searcher_can.body (M + 6) (_impl_searcher_can.g (M + 6) kf) ⟨L, kv⟩ (sq x) ((q + 1 : Nat) : Int) = some (canV L (q + 1) x, kv') ∧ InvM L kv'
    unfold _impl_searcher_can.body
    rw [show _impl_State_sum.f (M + 6) (sq x) = some ((tot x : Nat) : Int) from sum_impl _ (by unfold tot at hx; omega), Option.bind_some]
    by_cases c : tot x ≤ 1
    · rw [if_pos (by omega), show canV L (q + 1) x = true by unfold canV; rw [if_pos c]]
      exact ⟨kv, rfl, hI⟩
    · rw [if_neg (by omega), if_neg (by omega), show impl_weight.f (M + 6) (⟨(L : Int), kv⟩ : S_impl_searcher).f_lies (sq x) ((q + 1 : Nat) : Int) = some (Wt L x.1 x.2.1 x.2.2.1 x.2.2.2 (q + 1)) from hw, Option.bind_some, if_pos (by omega), hp.1]
      by_cases c2 : Wt L x.1 x.2.1 x.2.2.1 x.2.2.2 (q + 1) > (2 : Int) ^ (q + 1)
      · rw [if_pos c2, show canV L (q + 1) x = false by unfold canV; rw [if_neg c, if_pos c2]]
        exact ⟨kv, rfl, hI⟩
      · rw [if_neg c2]
        have hc : canV L (q + 1) x = ((asks x).find? (good L q x)).isSome := by
          show (if tot x ≤ 1 then true else if Wt L x.1 x.2.1 x.2.2.1 x.2.2.2 (q + 1) > (2 : Int) ^ (q + 1) then false else ((asks x).find? (good L q x)).isSome) = _
          rw [if_neg c, if_neg c2]
        by_cases c3 : (mIdx kv (⟨sq x, ((q + 1 : Nat) : Int)⟩ : S_impl_stateLeft)).isSome = true
        · rw [if_pos c3]
          exact ⟨kv, by rw [← hI.get c3], hI⟩
        · rw [if_neg c3]
          obtain ⟨kv', h1, h2⟩ := ask_eq hself hL (by omega) hM hx hI
          rw [show _impl_searcher_ask.f (M + 6) (_impl_searcher_can.g (M + 6) kf) (⟨(⟨(L : Int), kv⟩ : S_impl_searcher).f_lies, (⟨(L : Int), kv⟩ : S_impl_searcher).f_known⟩ : S_impl_searcher) (sq x) ((q + 1 : Nat) : Int) = some ((ansA ((asks x).find? (good L q x))).1, (ansA ((asks x).find? (good L q x))).2, kv') from h1, Option.bind_some]
          have hb : (ansA ((asks x).find? (good L q x))).2 = canV L (q + 1) x := by
            rw [hc]
            cases (asks x).find? (good L q x) <;> rfl
          refine ⟨mSet kv' ⟨sq x, ((q + 1 : Nat) : Int)⟩ (canV L (q + 1) x), ?_, h2.set⟩
          show some ((ansA ((asks x).find? (good L q x))).2, mSet kv' ⟨sq x, ((q + 1 : Nat) : Int)⟩ (ansA ((asks x).find? (good L q x))).2) = _
          rw [hb]
end Go.Proofs.YtfnfoecocicigaaX
