/- AskThatDoes: the program and its reference answer alike. -/
import Derived.Test.YticgbaikkaaapaaYE
namespace Go.Proofs.YticgbaikkaaapaaX
open Go
set_option linter.unusedVariables false
set_option linter.unusedSimpArgs false
theorem toState_eq' {N : Nat} (a : S4) (hN : 4 < N) : laws_toState.f N a = some a := by
  obtain ⟨x, y, z, t, rfl⟩ := ar4' a
  obtain ⟨N, rfl⟩ : ∃ M, N = M + 5 := ⟨N - 5, by omega⟩
  rfl
theorem eqState_self {N : Nat} (a : S4) (hN : 4 < N) : laws_eqState.f N a a = some true := by
  have main : ∀ (m k : Nat), k ≤ 4 → 4 - k < m → rounds (fun s => laws_eqState.b0 N a a s) m (k : Int) = some (.go ()) := by
    intro m
    induction m with
    | zero => intro k _ h; exact absurd h (Nat.not_lt_zero _)
    | succ m ih =>
      intro k hk hm
      by_cases c : k < 4
      · have hw : i64w ((k : Int) + 1) = ((k + 1 : Nat) : Int) := i64w_id (by omega) (by omega)
        have hb : laws_eqState.b0 N a a (k : Int) = some (.next ((k + 1 : Nat) : Int)) := by
          unfold laws_eqState.b0
          rw [if_pos (by omega), if_pos ⟨by omega, by omega⟩, if_pos rfl, hw, if_pos ⟨by omega, by omega⟩]
        exact (rounds_next (n := m) (b := fun s => laws_eqState.b0 N a a s) (s := (k : Int)) hb).trans (ih (k + 1) (by omega) (by omega))
      · refine rounds_out ?_
        unfold laws_eqState.b0
        rw [if_neg (by omega)]
  unfold laws_eqState.f
  rw [show rounds (fun s => laws_eqState.b0 N a a s) N (0 : Int) = some (.go ()) from main N 0 (by omega) (by omega)]
  rfl
theorem laws_FnExactAskThatDoes.told (a0 : Int) (h0 : IntKind.min .i64 ≤ a0 ∧ a0 ≤ IntKind.max .i64) (a1 : Ar Int 4) (h1 : ∀ y ∈ a1.l, IntKind.min .i64 ≤ y ∧ y ≤ IntKind.max .i64) (a2 : Int) (h2 : IntKind.min .i64 ≤ a2 ∧ a2 ≤ IntKind.max .i64) : ∃ N, laws_FnExactAskThatDoes.f N a0 a1 a2 = some true := by
  refine ⟨9000 + 6, ?_⟩
  have key : ∃ r, spec_AskThatDoes.f (9000 + 6) a0 a1 a2 = some r ∧ impl_AskThatDoes.f (9000 + 6) a0 a1 a2 = some r := by
    unfold spec_AskThatDoes.f impl_AskThatDoes.f
    rcases start_same (N := 9000 + 6) (by omega) a0 a1 a2 with ⟨c, hc, e1, e2⟩ | ⟨e1, e2, hk, hL, x, rfl, hx⟩
    · rw [e1, e2, Option.bind_some, Option.bind_some]
      dsimp only
      rw [if_neg hc, if_neg hc]
      exact ⟨_, rfl, rfl⟩
    · rw [e1, e2, Option.bind_some, Option.bind_some]
      dsimp only
      rw [if_pos rfl, if_pos rfl]
      obtain ⟨L, rfl⟩ := Int.eq_ofNat_of_zero_le hL.1
      obtain ⟨k, rfl⟩ := Int.eq_ofNat_of_zero_le hk.1
      cases k with
      | zero => exact ⟨_, if_pos rfl, if_pos rfl⟩
      | succ q =>
        rw [if_neg (by omega), if_neg (by omega)]
        obtain ⟨kv', g1, _⟩ := ask_eq (M := 9000) (self := _impl_searcher_can.g (9000 + 6) (9000 + 6)) (can_impl (by omega) (by omega) q (by omega) _ (by omega)) (by omega) (by omega) (by omega) hx (invM_nil L)
        obtain ⟨s', g2, _, _⟩ := first_eq (M := 9000) (self := _spec_l06Finder_can.g (9000 + 6) (9000 + 6)) (can_spec (by omega) (by omega) q (by omega) _ (by omega)) (by omega) (by omega) (by omega) hx ((inv_start L).mono (by omega))
        refine ⟨(if (ansA ((asks x).find? (good L q x))).2 = true then ((ansA ((asks x).find? (good L q x))).1, (0 : Int)) else (Ar.rep 4 0, 6)), ?_, ?_⟩
        · rw [show _spec_l06Finder_first.f (9000 + 6) (_spec_l06Finder_can.f (9000 + 6)) (⟨(L : Int), List.replicate 137781 0⟩ : S_spec_l06Finder) (sq x) ((q + 1 : Nat) : Int) = _ from g2, Option.bind_some]
          cases h : (ansA ((asks x).find? (good L q x))).2 <;> simp [h]
        · rw [show _impl_searcher_ask.f (9000 + 6) (_impl_searcher_can.f (9000 + 6)) (⟨(L : Int), []⟩ : S_impl_searcher) (sq x) ((q + 1 : Nat) : Int) = _ from g1, Option.bind_some]
          cases h : (ansA ((asks x).find? (good L q x))).2 <;> simp [h]
  obtain ⟨r, e1, e2⟩ := key
  unfold laws_FnExactAskThatDoes.f
  rw [toState_eq' a1 (by omega), Option.bind_some, e1, Option.bind_some, Option.bind_some, e2, Option.bind_some, eqState_self r.1 (by omega), Option.bind_some, if_pos rfl, if_pos rfl]
end Go.Proofs.YticgbaikkaaapaaX
