/- Which masses are balanced, as the bits of a number. -/
import Derived.Test.YtjagkhjbbdfkaaaYU
namespace Go.Proofs.YtjagkhjbbdfkaaaX
open Go
set_option linter.unusedVariables false
set_option linter.unusedSimpArgs false
/-- The bit m + off: whether m is balanced. -/
def msk (both : Bool) (off : Nat) : List Int → Nat
  | [] => 2 ^ off
  | x :: ws => let s := msk both off ws; (s ||| (s <<< x.toNat)) ||| (if both = true then s >>> x.toNat else 0)
theorem plus_some (o : Option Nat) (u : Nat) : (plus o u).isSome = o.isSome := by cases o <;> rfl
theorem om_some (x y : Option Nat) : (om x y).isSome = (x.isSome || y.isSome) := by
  cases x <;> cases y <;> simp [om]
theorem msk_bit (both : Bool) (off : Nat) : ∀ (ws : List Int), (∀ x ∈ ws, 1 ≤ x) → ws.sum ≤ off → ∀ m : Int, -(off : Int) ≤ m → (msk both off ws).testBit (m + off).toNat = (bal (loOf both) (LOf both) ws m).isSome := by
  intro ws
  induction ws with
  | nil =>
    intro _ _ m hm
    show (2 ^ off).testBit _ = (if m = 0 then some 0 else none : Option Nat).isSome
    rw [Nat.testBit_two_pow]
    by_cases c : m = 0
    · rw [if_pos c]; subst c; simp
    · rw [if_neg c]
      have : ¬ off = (m + off).toNat := by omega
      simp [this]
  | cons x ws ih =>
    intro hp hs m hm
    have hx := hp x List.mem_cons_self
    have hp' : ∀ y ∈ ws, 1 ≤ y := fun y hy => hp y (List.mem_cons_of_mem _ hy)
    rw [List.sum_cons] at hs
    have ih' := ih hp' (by omega)
    have low : ∀ j : Int, j < -(off : Int) → (bal (loOf both) (LOf both) ws j).isSome = false := by
      intro j hj
      cases e : bal (loOf both) (LOf both) ws j with
      | none => rfl
      | some v => have := (bal_range (sdOf both) hp' e).1; omega
    have b1 : ((msk both off ws) <<< x.toNat).testBit (m + off).toNat = (bal (loOf both) (LOf both) ws (m - x)).isSome := by
      rw [Nat.testBit_shiftLeft]
      by_cases c : -(off : Int) ≤ m - x
      · rw [← ih' (m - x) c, show (m - x + (off : Int)).toNat = (m + off).toNat - x.toNat by omega]
        have : (m + off).toNat ≥ x.toNat := by omega
        simp [this]
      · rw [low _ (by omega)]
        have : ¬ (m + off).toNat ≥ x.toNat := by omega
        simp [this]
    have b0 := ih' m hm
    cases both with
    | false =>
      have e : bal (loOf false) (LOf false) (x :: ws) m = Om tt (fun t => plus (bal (loOf false) (LOf false) ws (m - (loOf false + (t : Int)) * x)) (sq (loOf false + (t : Int)))) 2 := rfl
      rw [e]
      simp only [Om, tt, if_true, om_some, plus_some, loOf, Bool.false_eq_true, if_false]
      simp only [msk, Nat.testBit_or, b0, b1]
      simp [loOf]
    | true =>
      have b2 : ((msk true off ws) >>> x.toNat).testBit (m + off).toNat = (bal (loOf true) (LOf true) ws (m + x)).isSome := by
        rw [Nat.testBit_shiftRight, ← ih' (m + x) (by omega), show (m + x + (off : Int)).toNat = x.toNat + (m + off).toNat by omega]
      have e : bal (loOf true) (LOf true) (x :: ws) m = Om tt (fun t => plus (bal (loOf true) (LOf true) ws (m - (loOf true + (t : Int)) * x)) (sq (loOf true + (t : Int)))) 3 := rfl
      rw [e]
      simp only [Om, tt, if_true, om_some, plus_some]
      simp only [msk, Nat.testBit_or, b0, b1, b2, if_true]
      simp [loOf]
      generalize (bal (-1) (LOf true) ws m).isSome = p
      generalize (bal (-1) (LOf true) ws (m - x)).isSome = q
      generalize (bal (-1) (LOf true) ws (m + x)).isSome = r
      cases p <;> cases q <;> cases r <;> rfl
/-- Each mass from 1 to most is balanced, as a test. -/
def fullB (both : Bool) (w : List Int) (most : Nat) : Bool := (List.range most).all fun k => (msk both 128 w).testBit (129 + k)
theorem fullB_iff {both : Bool} {w : List Int} (hp : ∀ x ∈ w, 1 ≤ x) (hs : w.sum ≤ 128) {most : Nat} : fullB both w most = true ↔ full both w (most : Int) := by
  have key : ∀ k : Nat, (msk both 128 w).testBit (129 + k) = (bd (loOf both) (LOf both) w 0 ((k + 1 : Nat) : Int)).isSome := by
    intro k
    have := msk_bit both 128 w hp hs ((k + 1 : Nat) : Int) (by omega)
    rw [show (((k + 1 : Nat) : Int) + ((128 : Nat) : Int)).toNat = 129 + k by omega] at this
    exact this
  unfold fullB full
  rw [List.all_eq_true]
  constructor
  · intro h m m1 m2
    have := h (m - 1) (List.mem_range.2 (by omega))
    rw [key, show m - 1 + 1 = m by omega] at this
    intro e
    rw [e] at this
    cases this
  · intro h k hk
    rw [key]
    have := h (k + 1) (by omega) (by have := List.mem_range.1 hk; omega)
    cases e : bd (loOf both) (LOf both) w 0 ((k + 1 : Nat) : Int) with
    | none => exact absurd e this
    | some v => rfl
/-- What the law asks of the digits of 7 c - 900. -/
def digOk (c : Int) : Bool :=
  match spec_BalancedDigits.f 6000 (7 * c - 900) with
  | some (l, 0) => impl_BalancedDigits.f 6000 (7 * c - 900) == some (l, 0) && impl_FromBalanced.f 6000 l == some (7 * c - 900, 0) && (7 * c - 900 != 0 || l.length == 0) && (l.length == 0 || rdL l ((l.length : Int) - 1) 0 != 0) && impl_BalancedDigits.f 6000 (0 - (7 * c - 900)) == some (l.map (fun x => i8w (0 - x)), 0) && decide (l.length ≤ 30)
  | _ => false
/-- What it asks of the weights for 1 + c. -/
def leastOk (c : Nat) (b : Bool) : Bool :=
  match spec_LeastWeights.f 6000 (1 + (c : Int)) b with
  | some (w, 0) => impl_LeastWeights.f 6000 (1 + (c : Int)) b == some (w, 0) && decide (1 ≤ w.length) && decide (w.length ≤ 16) && w.all (fun x => decide (1 ≤ x)) && decide (w.sum = 1 + (c : Int)) && impl_ValidWeights.f 6000 w == some true && impl_SumOfWeights.f 6000 w == some (1 + (c : Int), 0) &&
    fullB b w (1 + c) && (List.range w.length).all (fun i => w.length == 1 || !(fullB b (less w i) (1 + c))) && decide ((if b = true then 3 else 2 : Int) ^ w.length > (if b = true then 2 * (1 + (c : Int)) else 1 + (c : Int))) && decide (((if b = true then 3 else 2 : Int) ^ w.length).tdiv (if b = true then 3 else 2) ≤ (if b = true then 2 * (1 + (c : Int)) else 1 + (c : Int)))
  | _ => false
theorem dig_all : ∀ c : Fin 256, digOk (c.val : Int) = true := by decide +kernel
theorem least_all : ∀ c : Fin 120, ∀ b : Bool, leastOk c.val b = true := by decide +kernel
end Go.Proofs.YtjagkhjbbdfkaaaX
