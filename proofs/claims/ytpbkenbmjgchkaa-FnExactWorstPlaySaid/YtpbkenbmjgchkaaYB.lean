/- Games of questions and lies, plainly: sorts, asks, sets. -/
import Derived.Test.YtpbkenbmjgchkaaYA
namespace Go.Proofs.YtpbkenbmjgchkaaX
open Go
set_option linter.unusedVariables false
set_option linter.unusedSimpArgs false
def srS (G : Ga) : Ar (List Int) 4 := ⟨[sl G (nG G) 0, sl G (nG G) 1, sl G (nG G) 2, sl G (nG G) 3], rfl⟩
theorem sorts_impl {N : Nat} {G : Ga} (h : OkG G) (hN : 70 < N) : _impl_Game_sorts.f N G = some (srS G) := by
  have hn := h.n60
  have hl := h.l3
  have hlen := h.len
  unfold B60 at hn
  have q := rounds_for (b := fun s => _impl_Game_sorts.b0 N G s.1 s.2.1 s.2.2.1 s.2.2.2.1 s.2.2.2.2) (e := .go (sl G (nG G) 0, sl G (nG G) 1, sl G (nG G) 2, sl G (nG G) 3)) (fun k => (sl G k 0, sl G k 1, sl G k 2, sl G k 3, (k : Int))) (nG G) 0 N (by omega) (by unfold nG; omega) (by
    intro i _ hi
    unfold nG at hi
    have hw : ((wr G (i : Int) G.f_Asked.length).length : Int) = W G (i : Int) := rfl
    simp only [_impl_Game_sorts.b0, _impl_Game_sorts.j2, i64w_id (x := G.f_Numbers) (by omega) (by omega), i64w_id (x := G.f_Lies) (by omega) (by omega), G_eta, wrong_impl hlen hN (m := (i : Int)) ⟨by omega, by omega⟩, Option.bind_some, hw]
    rw [if_pos (by omega), i64w_id (x := (i : Int) + 1) (by omega) (by omega), show (i : Int) + 1 = ((i + 1 : Nat) : Int) by omega]
    have h0 := sl_len G i 0
    have h1 := sl_len G i 1
    have h2 := sl_len G i 2
    have h3 := sl_len G i 3
    by_cases c : W G (i : Int) ≤ G.f_Lies
    · rcases W_four h c with e | e | e | e <;>
      · rw [e] at c
        simp only [e, if_pos c, sl_succ, List.length_singleton]
        simp [c]
        omega
    · rw [if_neg c]
      simp only [sl_succ, show ∀ j, ¬ (W G (i : Int) = j ∧ W G (i : Int) ≤ G.f_Lies) from fun j hj => c hj.2, if_false]) (by
    simp only [_impl_Game_sorts.b0, i64w_id (x := G.f_Numbers) (by omega) (by omega)]
    unfold nG
    rw [if_neg (by omega)])
  have q' : rounds (fun s => _impl_Game_sorts.b0 N G s.1 s.2.1 s.2.2.1 s.2.2.2.1 s.2.2.2.2) N ([], [], [], [], 0) = some (.go (sl G (nG G) 0, sl G (nG G) 1, sl G (nG G) 2, sl G (nG G) 3)) := q
  unfold _impl_Game_sorts.f
  rw [q']; rfl
theorem state_impl {N : Nat} {G : Ga} (h : OkG G) (hN : 70 < N) : _impl_Game_state.f N G = some (arS G (nG G)) := by
  obtain ⟨N, rfl⟩ : ∃ M, N = M + 5 := ⟨N - 5, by omega⟩
  simp only [_impl_Game_state.f, G_eta, sorts_impl h hN, Option.bind_some]
  have w1 : i64w (0 + 1) = 1 := by decide
  have w2 : i64w (1 + 1) = 2 := by decide
  have w3 : i64w (2 + 1) = 3 := by decide
  have w4 : i64w (3 + 1) = 4 := by decide
  have e0 : _impl_Game_state.b0 (N + 5) (srS G) (Ar.rep 4 0) 0 = some (.next (⟨[((sl G (nG G) 0).length : Int), 0, 0, 0], rfl⟩, 1)) := by
    simp only [_impl_Game_state.b0, _impl_Game_state.j2, impl_size_int64.f, w1]; rfl
  have e1 : _impl_Game_state.b0 (N + 5) (srS G) ⟨[((sl G (nG G) 0).length : Int), 0, 0, 0], rfl⟩ 1 = some (.next (⟨[((sl G (nG G) 0).length : Int), ((sl G (nG G) 1).length : Int), 0, 0], rfl⟩, 2)) := by
    simp only [_impl_Game_state.b0, _impl_Game_state.j2, impl_size_int64.f, w2]; rfl
  have e2 : _impl_Game_state.b0 (N + 5) (srS G) ⟨[((sl G (nG G) 0).length : Int), ((sl G (nG G) 1).length : Int), 0, 0], rfl⟩ 2 = some (.next (⟨[((sl G (nG G) 0).length : Int), ((sl G (nG G) 1).length : Int), ((sl G (nG G) 2).length : Int), 0], rfl⟩, 3)) := by
    simp only [_impl_Game_state.b0, _impl_Game_state.j2, impl_size_int64.f, w3]; rfl
  have e3 : _impl_Game_state.b0 (N + 5) (srS G) ⟨[((sl G (nG G) 0).length : Int), ((sl G (nG G) 1).length : Int), ((sl G (nG G) 2).length : Int), 0], rfl⟩ 3 = some (.next (arS G (nG G), 4)) := by
    simp only [_impl_Game_state.b0, _impl_Game_state.j2, impl_size_int64.f, w4]; rfl
  have e4 : _impl_Game_state.b0 (N + 5) (srS G) (arS G (nG G)) 4 = some (.out (.go (arS G (nG G)))) := by
    simp only [_impl_Game_state.b0]; rfl
  have q : rounds (fun s => _impl_Game_state.b0 (N + 5) (srS G) s.1 s.2) (N + 5) (Ar.rep 4 0, 0) = some (.go (arS G (nG G))) := by
    rw [rounds_next e0, rounds_next e1, rounds_next e2, rounds_next e3, rounds_out e4]
  rw [q]; rfl

/- half of a state -/
def halfR (x : Ar Int 4) (i : Int) (s : Ar Int 4 × Int × Int) (t : Ar Int 4 × Bool × Int) : Prop :=
  s.1 = t.1 ∧ s.2.1 = (if t.2.1 = true then 1 else 0) ∧ s.2.2 = t.2.2 ∧ 0 ≤ s.2.2 ∧ s.2.2 ≤ 4 ∧ (∀ j : Nat, j < 4 → 0 ≤ s.1.get j 0 ∧ s.1.get j 0 ≤ x.get j 0 ∧ (s.2.2 ≤ (j : Int) → s.1.get j 0 = 0))
theorem Ar_set_get {n : Nat} (a : Ar Int n) (i j : Nat) (v : Int) (hj : j < n) : (a.set (i : Int) v).get (j : Int) 0 = if i = j then v else a.get (j : Int) 0 := by
  unfold Ar.set Ar.get
  simp only [Int.toNat_natCast, List.getD_eq_getElem?_getD, List.getElem?_set]
  by_cases e : i = j
  · subst e
    have := a.h
    rw [if_pos rfl, if_pos (by omega), if_pos rfl]; rfl
  · rw [if_neg e, if_neg e]
theorem half_both {N : Nat} (hN : 70 < N) {x : Ar Int 4} (hx : ∀ j : Nat, j < 4 → 0 ≤ x.get j 0 ∧ x.get j 0 ≤ 1000) :
    ∃ r : Ar Int 4, spec_l06Half.f N x = some r ∧ _impl_State_half.f N x = some r ∧ ∀ j : Nat, j < 4 → 0 ≤ r.get j 0 ∧ r.get j 0 ≤ x.get j 0 := by
  obtain ⟨e, e', h1, h2, h3⟩ := rounds_both (b := fun s => spec_l06Half.b0 N x s.1 s.2.1 s.2.2) (b' := fun s => _impl_State_half.b0 N x s.1 s.2.1 s.2.2) (halfR x 0) (fun s => (4 - s.2.2).toNat) (fun e e' => ∃ r : Ar Int 4, e = .go r ∧ e' = .go r ∧ ∀ j : Nat, j < 4 → 0 ≤ r.get j 0 ∧ r.get j 0 ≤ x.get j 0) (by
    rintro ⟨a, u, i⟩ ⟨a', b, i'⟩ ⟨r1, r2, r3, r4, r5, r6⟩
    simp only at r1 r2 r3 r4 r5 r6
    subst r1 r3
    obtain ⟨i, rfl⟩ := Int.eq_ofNat_of_zero_le r4
    by_cases hi : i < 4
    · right
      have g1 : ((i : Nat) : Int) < 4 := by omega
      have g2 : (0 : Int) ≤ (i : Int) := by omega
      have hxi := hx i hi
      have hq : (x.get (i : Int) 0).tdiv 2 = x.get (i : Int) 0 / 2 := Int.tdiv_eq_ediv_of_nonneg hxi.1
      have hm : (x.get (i : Int) 0).tmod 2 = x.get (i : Int) 0 % 2 := Int.tmod_eq_emod_of_nonneg hxi.1
      have hs := i64w_id (x := x.get (i : Int) 0 / 2) (by omega) (by omega)
      have hs' := i64w_id (x := x.get (i : Int) 0 / 2 + 1) (by omega) (by omega)
      have hn : i64w ((i : Int) + 1) = ((i + 1 : Nat) : Int) := by rw [i64w_id (by omega) (by omega)]; omega
      have hg : ∀ v : Int, (a.set (i : Int) v).get (i : Int) 0 = v := fun v => by rw [Ar_set_get a i i v hi, if_pos rfl]
      have key : ∀ v : Int, 0 ≤ v → v ≤ x.get (i : Int) 0 → ∀ j : Nat, j < 4 → 0 ≤ (a.set (i : Int) v).get j 0 ∧ (a.set (i : Int) v).get j 0 ≤ x.get j 0 ∧ ((((i + 1 : Nat)) : Int) ≤ (j : Int) → (a.set (i : Int) v).get j 0 = 0) := by
        intro v v0 v1 j hj
        rw [Ar_set_get a i j v hj]
        by_cases e : i = j
        · subst e; rw [if_pos rfl]; exact ⟨v0, v1, fun h => by omega⟩
        · rw [if_neg e]; have := r6 j hj; exact ⟨this.1, this.2.1, fun h => this.2.2 (by omega)⟩
      have hset : ∀ v v' : Int, (a.set (i : Int) v).set (i : Int) v' = a.set (i : Int) v' := by
        intro v v'
        apply Ar.ext'
        simp [Ar.set]
      simp only [spec_l06Half.b0, _impl_State_half.b0, spec_l06Half.j2, _impl_State_half.j2, g1, g2, and_self, if_true, hq, hm, hs, hn, hg, hset]
      by_cases c : x.get (i : Int) 0 % 2 = 1
      · simp only [if_pos c]
        cases b with
        | true =>
          simp only [if_true] at r2
          subst r2
          simp only [if_true, hs', hset]
          refine ⟨_, _, rfl, rfl, ⟨rfl, show i64w (1 - 1) = 0 by decide, rfl, ?_, ?_, key _ ?_ ?_⟩, ?_⟩ <;> (try dsimp only) <;> omega
        | false =>
          simp only [Bool.false_eq_true, if_false] at r2
          subst r2
          simp only [Bool.false_eq_true, if_false, Int.add_zero, hs, hset]
          refine ⟨_, _, rfl, rfl, ⟨rfl, show i64w (1 - 0) = 1 by decide, rfl, ?_, ?_, key _ ?_ ?_⟩, ?_⟩ <;> (try dsimp only) <;> omega
      · simp only [if_neg c]
        refine ⟨_, _, rfl, rfl, ⟨rfl, r2, rfl, ?_, ?_, key _ ?_ ?_⟩, ?_⟩ <;> (try dsimp only) <;> omega
    · left
      have g1 : ¬ ((i : Nat) : Int) < 4 := by omega
      simp only [spec_l06Half.b0, _impl_State_half.b0, g1, if_false]
      exact ⟨_, _, rfl, rfl, _, rfl, rfl, fun j hj => ⟨(r6 j hj).1, (r6 j hj).2.1⟩⟩) N N (Ar.rep 4 0, 1, 0) (Ar.rep 4 0, true, 0) ⟨rfl, rfl, rfl, Int.le_refl _, by decide, fun j hj => by
        have : (Ar.rep 4 (0 : Int)).get (j : Int) 0 = 0 := by
          obtain rfl | rfl | rfl | rfl : j = 0 ∨ j = 1 ∨ j = 2 ∨ j = 3 := by omega
          all_goals rfl
        rw [this]
        exact ⟨Int.le_refl _, (hx j hj).1, fun _ => rfl⟩⟩ (by simp; omega) (by simp; omega)
  obtain ⟨r, rfl, rfl, hr⟩ := h3
  refine ⟨r, ?_, ?_, hr⟩
  · unfold spec_l06Half.f; rw [h1]; rfl
  · unfold _impl_State_half.f; rw [h2]; rfl

/- an ask within a state -/
end Go.Proofs.YtpbkenbmjgchkaaX
