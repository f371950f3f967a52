/- Texts of numbers and of sets, and joined texts, plainly. -/
import Derived.Test.YtffjpapmmiennaaDoorXR
import Derived.Test.YtffjpapmmiennaaDoorXWalk
namespace Go.Proofs.YtffjpapmmiennaaDoorX
open Go
set_option linter.unusedVariables false
set_option linter.unusedSimpArgs false
theorem join_snoc (sep : List UInt8) (xs : List (List UInt8)) (y : List UInt8) : Lib.join (xs ++ [y]) sep = if xs = [] then y else Lib.join xs sep ++ sep ++ y := by
  cases xs with
  | nil => simp [Lib.join_one]
  | cons x r =>
    rw [if_neg (by simp), List.cons_append, Lib.join_cons, Lib.join_cons]
    simp [Lib.joinTail, List.append_assoc]
theorem ba_app (x y : List UInt8) : (⟨x.toArray⟩ : ByteArray) ++ (⟨y.toArray⟩ : ByteArray) = ⟨(x ++ y).toArray⟩ := by
  apply ByteArray.ext
  simp
theorem ba_size (x : List UInt8) : (⟨x.toArray⟩ : ByteArray).size = x.length := by simp [ByteArray.size]
theorem nd_le (u : Nat) : Lib.nDigits u ≤ u + 1 := by
  induction u using Nat.strongRecOn with
  | _ u ih =>
    by_cases h : u < 10
    · rw [Lib.nDigits_small h]; omega
    · rw [Lib.nDigits_big h]
      have := ih (u / 10) (by omega)
      omega
theorem dec_len (u : Nat) : (Lib.decDigits u).length ≤ u + 1 := by rw [Lib.decDigits_length]; exact nd_le u
theorem bs_digit {n : Nat} (h : n < 10) : bsOf ([u8w (i64w (48 + ((n : Nat) : Int)))]) = ⟨([UInt8.ofNat (48 + n)] : List UInt8).toArray⟩ := by
  have : ∀ n : Nat, n < 10 → bsOf ([u8w (i64w (48 + ((n : Nat) : Int)))]) = ⟨([UInt8.ofNat (48 + n)] : List UInt8).toArray⟩ := by decide +kernel
  exact this n h
theorem Decimal_step {N k n : Nat} (hb : n ≤ 1000000) (h10 : ¬ n < 10) (ih : spec_Decimal.g N k ((n / 10 : Nat) : Int) = some ⟨(Lib.decDigits (n / 10)).toArray⟩) : spec_Decimal.body N (spec_Decimal.g N k) (n : Int) = some ⟨(Lib.decDigits n).toArray⟩ := by
  have e1 : (n : Int).tmod 10 = ((n % 10 : Nat) : Int) := rfl
  have e2 : (n : Int).tdiv 10 = ((n / 10 : Nat) : Int) := rfl
  have e3 : Lib.decDigits n = Lib.decDigits (n / 10) ++ [UInt8.ofNat (48 + n % 10)] := by rw [Lib.decDigits, dif_neg h10]
  have hl := dec_len (n / 10)
  have g : ((Lib.decDigits (n / 10)).length : Int) + (([UInt8.ofNat (48 + n % 10)] : List UInt8).length : Int) ≤ 9223372036854775807 := by
    rw [List.length_singleton]; omega
  have e5 : i64w ((n / 10 : Nat) : Int) = ((n / 10 : Nat) : Int) := by rw [i64w_id (by omega) (by omega)]
  unfold spec_Decimal.body
  rw [e1, e2, bs_digit (show n % 10 < 10 by omega), if_neg (by omega), e5, ih, Option.bind_some, ba_size, ba_size, if_pos g, ba_app, e3]
theorem Decimal_low {N k n : Nat} (h10 : n < 10) : spec_Decimal.body N (spec_Decimal.g N k) (n : Int) = some ⟨(Lib.decDigits n).toArray⟩ := by
  have e1 : (n : Int).tmod 10 = ((n % 10 : Nat) : Int) := rfl
  unfold spec_Decimal.body
  rw [e1, bs_digit (show n % 10 < 10 by omega), if_pos (by omega), Lib.decDigits, dif_pos h10, Nat.mod_eq_of_lt h10]
theorem Decimal_g {N : Nat} (k : Nat) : ∀ n : Nat, n < k → n ≤ 1000000 → spec_Decimal.g N k (n : Int) = some ⟨(Lib.decDigits n).toArray⟩ := by
  induction k with
  | zero => intro n h _; exact absurd h (Nat.not_lt_zero _)
  | succ k ih =>
    intro n h hb
    by_cases h10 : n < 10
    · exact Decimal_low h10
    · exact Decimal_step hb h10 (ih (n / 10) (by omega) (by omega))
theorem Decimal_eq {N : Nat} {n : Int} (h0 : 0 ≤ n) (h1 : n ≤ 1000000) (hN : n < N) : spec_Decimal.f N n = some ⟨(Lib.decDigits n.toNat).toArray⟩ := by
  obtain ⟨m, rfl⟩ := Int.eq_ofNat_of_zero_le h0
  exact Decimal_g N m (by omega) (by omega)
theorem decimal_eq (N : Nat) {n : Int} (h0 : 0 ≤ n) (h1 : n ≤ 1000000) : impl_decimal.f N n = some ⟨(Lib.decDigits n.toNat).toArray⟩ := by
  have e : Lib.itoa n = Lib.decDigits n.toNat := by unfold Lib.itoa; rw [if_neg (by omega)]
  unfold impl_decimal.f strconv_FormatInt.f
  rw [if_pos ⟨⟨by omega, by omega⟩, rfl⟩, e]
  rfl
end Go.Proofs.YtffjpapmmiennaaDoorX
