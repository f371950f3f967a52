/- How far the weights weigh, and with one less. -/
import Derived.Test.YtjagkhjbbdfkaaaYD
namespace Go.Proofs.YtjagkhjbbdfkaaaX
open Go
set_option linter.unusedVariables false
set_option linter.unusedSimpArgs false
section
variable {w : List Int} {N : Nat}
/-- Each mass from 1 to most is balanced. -/
def full (both : Bool) (w : List Int) (most : Int) : Prop := ∀ m : Nat, 1 ≤ m → (m : Int) ≤ most → bd (loOf both) (LOf both) w 0 (m : Int) ≠ none
theorem upTo_all (h : OkW w) (hN : 5000 < N) (both : Bool) {Q : Int → Prop} (hQ : ∀ r : Int, (∀ most : Int, 1 ≤ most → (r ≥ most ↔ full both w most)) → Q r) : _impl_Weights_upTo.f N w both Q := by
  unfold _impl_Weights_upTo.f _impl_Weights_weighed.f
  refine balances_all (N := N) h hN both fun xs r => ?_
  have rl := r.len
  obtain ⟨kv, k1, k2⟩ := r.row 0 (Nat.le_refl _) (Nat.zero_le _)
  have k1' : rdL xs 0 none = some kv := k1
  rw [if_pos ⟨by omega, by omega⟩, if_pos (by rw [k1']; rfl), show (rdL xs 0 none).getD [] = kv by rw [k1']; rfl]
  have main : ∀ (M k : Nat), k ≤ 2000 → 2000 - k < M → full both w (k : Int) → roundsD (fun s => _impl_Weights_upTo.b0 N s.1 s.2) M (kv, (k : Int)) (Ex.finD (fun s => _impl_Weights_upTo.a0 N s Q) Q) := by
    intro M
    induction M with
    | zero => intro k _ g; omega
    | succ M ih =>
      intro k hk hM ha
      have e1 : i64w ((k : Int) + 1) = ((k + 1 : Nat) : Int) := i64w_id (by omega) (by omega)
      show _impl_Weights_upTo.b0 N kv (k : Int) _
      unfold _impl_Weights_upTo.b0
      rw [e1]
      refine ⟨_, rfl, ?_⟩
      dsimp only
      cases e : bd (loOf both) (LOf both) w 0 ((k + 1 : Nat) : Int) with
      | none =>
        rw [if_neg (k2.at_none e)]
        refine hQ (k : Int) fun most hm => ⟨fun g m m1 m2 => ha m m1 (by omega), fun g => ?_⟩
        apply Classical.byContradiction
        intro c
        exact g (k + 1) (by omega) (by omega) e
      | some v =>
        rw [if_pos (k2.at_some e z_S_impl_balance).1]
        have := bd_range h (sdOf both) e
        refine ih (k + 1) (by omega) (by omega) fun m m1 m2 => ?_
        by_cases cm : m = k + 1
        · subst cm; rw [e]; exact fun z => by cases z
        · exact ha m m1 (by omega)
  exact main N 0 (by omega) (by omega) fun m a b => by omega
/-- The weights with one left out. -/
def less (w : List Int) (i : Nat) : List Int := w.take i ++ w.drop (i + 1)
theorem less_len {i : Nat} (hi : i < w.length) : (less w i).length = w.length - 1 := by simp [less]; omega
theorem less_ok (h : OkW w) {i : Nat} (hi : i < w.length) (h1 : 1 < w.length) : OkW (less w i) := by
  have e := less_len hi
  have h16 := h.l16
  have hs := h.sum
  refine ⟨by omega, by omega, fun x hx => ?_, ?_⟩
  · rcases List.mem_append.1 hx with g | g
    · exact h.pos x (List.mem_of_mem_take g)
    · exact h.pos x (List.mem_of_mem_drop g)
  · have h0 := h.pos _ (List.getElem_mem hi)
    have e3 : w.sum = (w.take i).sum + (w.drop i).sum := by rw [← List.sum_append, List.take_append_drop]
    rw [drop_at hi, List.sum_cons] at e3
    have e4 : (less w i).sum = (w.take i).sum + (w.drop (i + 1)).sum := by simp [less, List.sum_append]
    omega
end
end Go.Proofs.YtjagkhjbbdfkaaaX
