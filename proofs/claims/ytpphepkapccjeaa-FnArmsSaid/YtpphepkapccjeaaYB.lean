/- Scales, plainly: what is seen; the search for a root; greatest divisors. -/
import Derived.Test.YtpphepkapccjeaaYA
namespace Go.Proofs.YtpphepkapccjeaaX
open Go
set_option linter.unusedVariables false
set_option linter.unusedSimpArgs false
theorem mulB {a b A B : Int} (a0 : 0 ≤ a) (a1 : a ≤ A) (b0 : 0 ≤ b) (b1 : b ≤ B) : 0 ≤ a * b ∧ a * b ≤ A * B :=
  ⟨Int.mul_nonneg a0 b0, Int.mul_le_mul a1 b1 b0 (by omega)⟩
def sg (x y : Int) : Int := if x > y then -1 else if x < y then 1 else 0
theorem seen_eq (N : Nat) (x y : Int) : impl_seen.f N x y = some (sg x y) := by
  unfold impl_seen.f sg
  by_cases c : x > y
  · rw [if_pos c, if_pos c]
  · rw [if_neg c, if_neg c]
    by_cases d : x < y
    · rw [if_pos d, if_pos d]
    · rw [if_neg d, if_neg d]
theorem sign_eq (N : Nat) (x y : Int) : laws_sign2.f N (y - x) = some (sg x y) := by
  unfold laws_sign2.f sg
  by_cases c : x > y
  · rw [if_pos (by omega), if_pos c]
  · rw [if_neg (by omega), if_neg c]
    by_cases d : x < y
    · rw [if_pos (by omega), if_pos d]
    · rw [if_neg (by omega), if_neg d]
theorem tilt_ok {N : Nat} {w p : List Int} (h : OkW w) (hp : p.length = w.length) (hr : ∀ x ∈ p, -1 ≤ x ∧ x ≤ 1) (hN : 100 < N) {a b m l r : Int} (hq : _impl_Weights_pans.f N w p = some (a, b)) (ha : 0 ≤ a ∧ a ≤ 32000) (hb : 0 ≤ b ∧ b ≤ 32000) (hm : 0 ≤ m ∧ m ≤ 1000000) (hl : 1 ≤ l ∧ l ≤ 100) (hr' : 1 ≤ r ∧ r ≤ 100) :
    impl_TiltOfArms.f N w p m l r = some (sg ((m + a) * l) (b * r), 0) := by
  have h1 := mulB (a := m + a) (b := l) (A := 1032000) (B := 100) (by omega) (by omega) (by omega) (by omega)
  have h2 := mulB (a := b) (b := r) (A := 32000) (B := 100) (by omega) (by omega) (by omega) (by omega)
  simp only [impl_TiltOfArms.f, valid_ok h hp hr hN, Option.bind_some, if_true, within_eq, decide_eq_true hm, decide_eq_true hl, decide_eq_true hr', hq, seen_eq, i64w_id (x := m + a) (by omega) (by omega), i64w_id (x := (m + a) * l) (by omega) (by omega), i64w_id (x := b * r) (by omega) (by omega)]
theorem sg_mul {x y c : Int} (hc : 1 ≤ c) : sg (x * c) (y * c) = sg x y := by
  have h1 : x * c > y * c ↔ x > y := Int.mul_lt_mul_right (by omega)
  have h2 : x * c < y * c ↔ x < y := Int.mul_lt_mul_right (by omega)
  unfold sg
  by_cases c1 : x > y
  · rw [if_pos c1, if_pos (h1.2 c1)]
  · rw [if_neg c1, if_neg (fun e => c1 (h1.1 e))]
    by_cases c2 : x < y
    · rw [if_pos c2, if_pos (h2.2 c2)]
    · rw [if_neg c2, if_neg (fun e => c2 (h2.1 e))]
/- the root -/
theorem by_two (N : Nat) (a b : Int) : spec_MassByTwo.f N a b = impl_MassByTwo.f N a b := by
  have e : (fun s : Int × Int => spec_MassByTwo.b0 N a b s.1 s.2) = (fun s => impl_MassByTwo.b0 N a b s.1 s.2) := by
    funext ⟨x, y⟩
    simp only [spec_MassByTwo.b0, impl_MassByTwo.b0]
    by_cases c : x < y
    · rw [if_pos c, if_pos c]
      by_cases d : (i64w ((i64w ((i64w (x + y)).tdiv 2)) * (i64w ((i64w (x + y)).tdiv 2)))) < (i64w (a * b))
      · rw [if_pos d, if_neg (by omega)]; rfl
      · rw [if_neg d, if_pos (by omega)]; rfl
    · rw [if_neg c, if_neg c]
  have hin : ∀ x y z, spec_l00In.f N x y z = impl_within.f N x y z := fun _ _ _ => rfl
  unfold spec_MassByTwo.f impl_MassByTwo.f
  rw [e]
  simp only [hin]
  rfl
theorem root_ok {N : Nat} {a b m : Int} (ha : 1 ≤ a ∧ a ≤ 1000000) (hb : 1 ≤ b ∧ b ≤ 1000000) (hm : 1 ≤ m ∧ m ≤ 1000000) (h : a * b = m * m) (hN : 1000000 < N) : impl_MassByTwo.f N a b = some (m, 0) := by
  have hmm := mulB (a := m) (b := m) (A := 1000000) (B := 1000000) (by omega) (by omega) (by omega) (by omega)
  have e0 : i64w (a * b) = m * m := by rw [h]; exact i64w_id (by omega) (by omega)
  obtain ⟨e, he, rfl⟩ := rounds_ends (b := fun s => impl_MassByTwo.b0 N a b s.1 s.2) (fun s => 1 ≤ s.1 ∧ s.1 ≤ m ∧ m ≤ s.2 ∧ s.2 ≤ 1000000) (fun s => (s.2 - s.1).toNat) (fun e => e = .go m) (by
    rintro ⟨x, y⟩ ⟨i1, i2, i3, i4⟩
    simp only at i1 i2 i3 i4
    by_cases c : x < y
    · right
      have e1 : i64w (x + y) = x + y := i64w_id (by omega) (by omega)
      have e2 : (x + y).tdiv 2 = (x + y) / 2 := Int.tdiv_eq_ediv_of_nonneg (by omega)
      have e3 : i64w ((x + y) / 2) = (x + y) / 2 := i64w_id (by omega) (by omega)
      generalize hz : (x + y) / 2 = z at e2 e3
      have hzz := mulB (a := z) (b := z) (A := 1000000) (B := 1000000) (by omega) (by omega) (by omega) (by omega)
      have e4 : i64w (z * z) = z * z := i64w_id (by omega) (by omega)
      have e5 : i64w (z + 1) = z + 1 := i64w_id (by omega) (by omega)
      simp only [impl_MassByTwo.b0, impl_MassByTwo.j2, if_pos c, e1, e2, e3, e4, e0, e5]
      by_cases d : z * z ≥ m * m
      · have hzm : m ≤ z := by
          apply Int.not_lt.1
          intro hlt
          have := Int.mul_lt_mul hlt (Int.le_of_lt hlt) (by omega) (by omega)
          omega
        rw [if_pos d]
        exact ⟨_, rfl, ⟨i1, i2, hzm, by dsimp only; omega⟩, by dsimp only; omega⟩
      · have hzm : z < m := by
          apply Int.not_le.1
          intro hle
          have := Int.mul_le_mul hle hle (by omega) (by omega)
          omega
        rw [if_neg d]
        exact ⟨_, rfl, ⟨by dsimp only; omega, by dsimp only; omega, i3, i4⟩, by dsimp only; omega⟩
    · left
      simp only [impl_MassByTwo.b0, if_neg c]
      have : x = m := by omega
      exact ⟨_, rfl, by rw [this]⟩) N (1, 1000000) ⟨by decide, by dsimp only; omega, by dsimp only; omega, by decide⟩ (by dsimp only; omega)
  have e1 : i64w (m * m) = m * m := i64w_id (by omega) (by omega)
  simp only [impl_MassByTwo.f, within_eq, decide_eq_true ha, decide_eq_true hb, Option.bind_some, if_true, he, Ex.fin, impl_MassByTwo.a0, e0, e1]
/- divisors -/
theorem div_impl {N : Nat} (a b : Nat) (hN : b < N) : impl_divisor.f N (a : Int) (b : Int) = some ((Nat.gcd a b : Nat) : Int) := by
  obtain ⟨e, he, rfl⟩ := rounds_ends (b := fun s => impl_divisor.b0 N s.1 s.2) (fun s => ∃ x y : Nat, s = ((x : Int), (y : Int)) ∧ Nat.gcd x y = Nat.gcd a b) (fun s => s.2.toNat) (fun e => e = .go ((Nat.gcd a b : Nat) : Int)) (by
    rintro s ⟨x, y, rfl, hg⟩
    by_cases c : (y : Int) = 0
    · left
      simp only [impl_divisor.b0, if_pos c]
      have : y = 0 := by omega
      subst this
      rw [Nat.gcd_zero_right] at hg
      exact ⟨_, rfl, by rw [hg]⟩
    · right
      have e1 : ((x : Int)).tmod (y : Int) = ((x % y : Nat) : Int) := by
        rw [Int.tmod_eq_emod_of_nonneg (by omega)]; simp
      simp only [impl_divisor.b0, if_neg c, if_pos c, e1]
      refine ⟨_, rfl, ⟨y, x % y, rfl, ?_⟩, ?_⟩
      · rw [← hg, Nat.gcd_comm, ← Nat.gcd_rec, Nat.gcd_comm]
      · have := Nat.mod_lt x (show y > 0 by omega)
        simp only [Int.toNat_natCast]; exact this) N ((a : Int), (b : Int)) ⟨a, b, rfl, rfl⟩ (by simpa using hN)
  unfold impl_divisor.f
  rw [he]; rfl
theorem div_spec {N : Nat} (a b : Nat) (hN : b < N) : spec_l01Gcd.f N (a : Int) (b : Int) = some ((Nat.gcd a b : Nat) : Int) := by
  have main : ∀ (k a b : Nat), b < k → spec_l01Gcd.g N k (a : Int) (b : Int) = some ((Nat.gcd a b : Nat) : Int) := by
    intro k
    induction k with
    | zero => intro a b h; omega
    | succ k ih =>
      intro a b h
      simp only [spec_l01Gcd.g, spec_l01Gcd.body]
      by_cases c : (b : Int) = 0
      · have : b = 0 := by omega
        subst this
        simp
      · have e1 : ((a : Int)).tmod (b : Int) = ((a % b : Nat) : Int) := by
          rw [Int.tmod_eq_emod_of_nonneg (by omega)]; simp
        have hlt := Nat.mod_lt a (show b > 0 by omega)
        rw [if_neg c, if_pos c, e1, ih b (a % b) (by omega)]
        simp only [Option.bind_some]
        rw [Nat.gcd_comm, ← Nat.gcd_rec, Nat.gcd_comm]
  exact main N a b hN
theorem arms_ok {N : Nat} {a b m : Int} (ha : 1 ≤ a ∧ a ≤ 1000000) (hb : 1 ≤ b ∧ b ≤ 1000000) (hm : 1 ≤ m ∧ m ≤ 1000000) (h : a * b = m * m) (hN : 1000000 < N) :
    ∃ u v g, impl_ArmsFrom.f N a b = some (u, v, 0) ∧ spec_ArmsFrom.f N a b = some (u, v, 0) ∧ 1 ≤ g ∧ a = u * g ∧ m = v * g ∧ 0 ≤ u ∧ u ≤ 1000000 ∧ 0 ≤ v ∧ v ≤ 1000000 := by
  obtain ⟨x, rfl⟩ := Int.eq_ofNat_of_zero_le (show 0 ≤ a by omega)
  obtain ⟨y, rfl⟩ := Int.eq_ofNat_of_zero_le (show 0 ≤ m by omega)
  have hroot := root_ok ha hb hm h hN
  have h1 := div_impl (N := N) x y (by omega)
  have h2 := div_spec (N := N) x y (by omega)
  have hg : 0 < Nat.gcd x y := Nat.gcd_pos_of_pos_left _ (by omega)
  obtain ⟨u, hu⟩ := Nat.gcd_dvd_left x y
  obtain ⟨v, hv⟩ := Nat.gcd_dvd_right x y
  generalize Nat.gcd x y = g at h1 h2 hg hu hv
  have du : ((x : Int)).tdiv (g : Int) = (u : Int) := by
    rw [Int.tdiv_eq_ediv_of_nonneg (by omega), hu, Int.natCast_mul, Int.mul_ediv_cancel_left _ (by omega)]
  have dv : ((y : Int)).tdiv (g : Int) = (v : Int) := by
    rw [Int.tdiv_eq_ediv_of_nonneg (by omega), hv, Int.natCast_mul, Int.mul_ediv_cancel_left _ (by omega)]
  have lu : u ≤ x := by rw [hu]; exact Nat.le_mul_of_pos_left _ hg
  have lv : v ≤ y := by rw [hv]; exact Nat.le_mul_of_pos_left _ hg
  have g0 : ¬ ((g : Int) = 0) := by omega
  refine ⟨(u : Int), (v : Int), (g : Int), ?_, ?_, by omega, by rw [hu, Int.natCast_mul, Int.mul_comm], by rw [hv, Int.natCast_mul, Int.mul_comm], by omega, by omega, by omega, by omega⟩
  · simp only [impl_ArmsFrom.f, hroot, Option.bind_some, if_true, h1, if_pos g0, du, dv, i64w_id (x := (u : Int)) (by omega) (by omega), i64w_id (x := (v : Int)) (by omega) (by omega)]
  · simp only [spec_ArmsFrom.f, by_two, hroot, Option.bind_some, if_true, h2, if_pos g0, du, dv, i64w_id (x := (u : Int)) (by omega) (by omega), i64w_id (x := (v : Int)) (by omega) (by omega)]
end Go.Proofs.YtpphepkapccjeaaX
