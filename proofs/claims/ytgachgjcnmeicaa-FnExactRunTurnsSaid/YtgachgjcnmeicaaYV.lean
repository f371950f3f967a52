/- Plain laws: a run of turns is the same in the specification and in the code. -/
import Derived.Test.YtgachgjcnmeicaaYU
import Derived.Test.YtgachgjcnmeicaaXMark
namespace Go.Proofs.YtgachgjcnmeicaaX
open Go
set_option linter.unusedVariables false

theorem toBytes_eq {N : Nat} {a : List Int} (h : a.length ≤ 1048576) (hN : a.length < N) : laws_toByteS.f N a = some a := by
  unfold laws_toByteS.f
  rw [if_pos ⟨by omega, by omega⟩, Int.toNat_natCast, rounds_copy a 0 hN ?_ ?_]
  · rfl
  · intro x i hi hx
    simp only [laws_toByteS.b0]
    rw [if_pos (by omega), if_pos ⟨by omega, by omega⟩, if_pos ⟨by omega, by omega⟩, rdL_nat hi, stL_nat, i64w_succ hi (by omega)]
  · intro x hx
    simp only [laws_toByteS.b0]
    rw [if_neg (by omega)]

theorem eqBytes_eq {N : Nat} {a c : List Int} (h : a.length ≤ 1048576) (hN : a.length < N) : laws_eqByteS.f N a c = some (decide (a = c)) := by
  unfold laws_eqByteS.f
  by_cases hl : a.length = c.length
  · rw [if_pos (by omega), rounds_same a c hl hN ?_ ?_]
    · by_cases e : a = c
      · subst e; simp [Ex.fin, laws_eqByteS.a0]
      · simp [e, Ex.fin]
    · intro i hi
      simp only [laws_eqByteS.b0]
      rw [if_pos (by omega), if_pos ⟨by omega, by omega⟩, if_pos ⟨by omega, by omega⟩, rdL_nat hi, rdL_nat (hl ▸ hi), i64w_succ hi (by omega)]
    · simp only [laws_eqByteS.b0]
      rw [if_neg (by omega)]
  · rw [if_neg (by omega)]
    have : ¬ a = c := fun e => hl (by rw [e])
    simp [this]


theorem run_eq {N : Nat} {a p : List Int} {c : Ar Int 4} (hk : okT a c) (hb : ∀ x ∈ p, 0 ≤ x ∧ x ≤ 255) (hl : p.length ≤ 60) (hN : 80 < N) :
    ∃ e, rounds (fun s => spec_l07Run.b0 N p a s.1 s.2.1 s.2.2.1 s.2.2.2) N (c, ([] : List Int), 0, 0) = some e ∧
      rounds (fun s => impl_RunTurns.b0 N p a s.1 s.2.1 s.2.2.1 s.2.2.2) N (c, ([] : List Int), 0, 0) = some e ∧
      ((∃ k, e = .ret (([] : List Int), (Ar.rep 4 0), k) ∧ k ≠ 0) ∨ ∃ d l, e = .go (d, l) ∧ l.length ≤ 60) := by
  obtain ⟨l1, l4, ho⟩ := okT_len hk
  obtain ⟨e, e', he, he', hee, hq⟩ := rounds_both (b := fun s => spec_l07Run.b0 N p a s.1 s.2.1 s.2.2.1 s.2.2.2) (b' := fun s => impl_RunTurns.b0 N p a s.1 s.2.1 s.2.2.1 s.2.2.2)
    (R := fun s t => s = t ∧ fits a s.1 ∧ ∃ i : Nat, s.2.2.2 = i ∧ i ≤ p.length ∧ s.2.1.length = i ∧ 0 ≤ s.2.2.1 ∧ s.2.2.1 ≤ 40 * i) (m := fun s => p.length - s.2.2.2.toNat)
    (Q := fun e e' => e = e' ∧ ((∃ k, e = .ret (([] : List Int), (Ar.rep 4 0), k) ∧ k ≠ 0) ∨ ∃ d l, e = .go (d, l) ∧ l.length ≤ 60))
    (by
      rintro ⟨d, l, m, _⟩ _ ⟨rfl, hf, i, rfl, hi, hl', h0, h40⟩
      simp only at hf hl' h0 h40
      by_cases hlt : i < p.length
      · have g1 : (i : Int) < p.length := by omega
        have g2 : (0 : Int) ≤ i := by omega
        have hx := hb _ (List.getElem_mem hlt)
        obtain ⟨r, q1, q1', hfr⟩ := turn_eq (N := N) ho l4 hf hx.1 hx.2 (by omega)
        obtain ⟨w, q2, q2', hfw, w0, w40⟩ := wait_eq (N := N) ho hfr (by omega)
        have hs : spec_l07Run.b0 N p a d l m (i : Int) = if p[i] ≥ 2 ^ a.length then some (.out (.ret (([] : List Int), (Ar.rep 4 0), 2))) else if w.2 = 0 then some (.out (.ret (([] : List Int), (Ar.rep 4 0), 4))) else some (.next (w.1, l ++ [m + w.2], m + w.2, ((i + 1 : Nat) : Int))) := by
          simp only [spec_l07Run.b0, g1, g2, and_self, if_true, rdL_nat hlt, sets_eq l4, i64w_id (x := p[i]) (by omega) (by omega), q1, q2, Option.bind_some, i64w_succ hlt (by omega), i64w_id (x := m + w.2) (by omega) (by omega), List.length_singleton, if_pos (show l.length + 1 ≤ 17592186044416 by omega)]
        have hi' : impl_RunTurns.b0 N p a d l m (i : Int) = if p[i] < 2 ^ a.length then (if w.2 = 0 then some (.out (.ret (([] : List Int), (Ar.rep 4 0), 4))) else some (.next (w.1, l ++ [m + w.2], m + w.2, ((i + 1 : Nat) : Int)))) else some (.out (.ret (([] : List Int), (Ar.rep 4 0), 2))) := by
          simp only [impl_RunTurns.b0, g1, g2, and_self, if_true, rdL_nat hlt, isSet_eq l4 hx.1 hx.2, decide_eq_true_eq, q1', q2', Option.bind_some, i64w_succ hlt (by omega), i64w_id (x := m + w.2) (by omega) (by omega), List.length_singleton, if_pos (show l.length + 1 ≤ 17592186044416 by omega)]
        simp only [hs, hi']
        by_cases hp : p[i] < 2 ^ a.length
        · rw [if_pos hp, if_neg (by omega)]
          by_cases hw : w.2 = 0
          · rw [if_pos hw]
            exact .inl ⟨_, _, rfl, rfl, rfl, .inl ⟨4, rfl, by decide⟩⟩
          · rw [if_neg hw]
            exact .inr ⟨_, _, rfl, rfl, ⟨rfl, hfw, i + 1, rfl, by omega, by simp [hl'], by simp only; omega, by simp only; omega⟩, by simp only [Int.toNat_natCast]; omega⟩
        · rw [if_neg hp, if_pos (by omega)]
          exact .inl ⟨_, _, rfl, rfl, rfl, .inl ⟨2, rfl, by decide⟩⟩
      · left
        have g1 : ¬ (i : Int) < p.length := by omega
        exact ⟨.go (d, l), .go (d, l), by simp only [spec_l07Run.b0, if_neg g1], by simp only [impl_RunTurns.b0, if_neg g1], rfl, .inr ⟨d, l, rfl, by omega⟩⟩)
    N N (c, [], 0, 0) (c, [], 0, 0) ⟨rfl, hk.2, 0, rfl, Nat.zero_le _, rfl, Int.le_refl 0, Int.le_refl 0⟩ (by simp only [Int.toNat_zero]; omega) (by simp only [Int.toNat_zero]; omega)
  subst hee
  exact ⟨e, he, he', hq⟩

/-- The whole run, in the specification and in the code. -/
theorem Run_same {N : Nat} {a p : List Int} {c : Ar Int 4} (ha : ∀ x ∈ a, -32768 ≤ x ∧ x ≤ 32767) (h : a.length ≤ 1048576) (hk : okT a c) (hb : ∀ x ∈ p, 0 ≤ x ∧ x ≤ 255) (hN : a.length + 80 < N) :
    ∃ l d k, spec_l07Run.f N a c p = some (l, d, k) ∧ impl_RunTurns.f N a c p = some (l, d, k) ∧ l.length ≤ 60 := by
  classical
  simp only [spec_l07Run.f, impl_RunTurns.f, okT_impl ha h (show a.length + 5 < N by omega), Option.bind_some, decide_eq_true_eq, if_pos hk]
  by_cases hl : (p.length : Int) > 60
  · rw [if_pos hl, if_pos hl]
    exact ⟨_, _, _, rfl, rfl, by simp⟩
  · rw [if_neg hl, if_neg hl]
    obtain ⟨e, he, he', ⟨k, rfl, _⟩ | ⟨d, l, rfl, h60⟩⟩ := run_eq (N := N) hk hb (by omega) (by omega)
    · rw [he, he']
      exact ⟨_, _, _, rfl, rfl, by simp⟩
    · rw [he, he']
      exact ⟨_, _, _, rfl, rfl, h60⟩
end Go.Proofs.YtgachgjcnmeicaaX
