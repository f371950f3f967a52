/- FnArms is true on every input: the plain side. -/
import Derived.Test.YtpphepkapccjeaaYB
namespace Go.Proofs.YtpphepkapccjeaaX
open Go
set_option linter.unusedVariables false
set_option linter.unusedSimpArgs false
theorem at_ok {N : Nat} {a : List Int} (h : ∀ x ∈ a, 0 ≤ x ∧ x ≤ 255) (i : Nat) {n : Int} (hn : 1 ≤ n ∧ n ≤ 100) : ∃ r, laws_a2At.f N a (i : Int) n = some r ∧ 0 ≤ r ∧ r < n := by
  unfold laws_a2At.f
  by_cases c : (i : Int) ≥ (a.length : Int)
  · rw [if_pos c]
    exact ⟨0, rfl, by decide, by omega⟩
  · have hi : i < a.length := by omega
    have hx := h _ (List.getElem_mem hi)
    rw [if_neg c, if_neg (by omega), if_pos ⟨by omega, by omega⟩, if_pos (by omega), rdL_nat hi, i64w_id (by omega) (by omega)]
    exact ⟨_, rfl, Int.tmod_nonneg _ hx.1, Int.tmod_lt_of_pos _ (by omega)⟩
theorem laws_FnArms.told (a0 : List (Int)) (h0 : ∀ x ∈ a0, IntKind.min .u8 ≤ x ∧ x ≤ IntKind.max .u8) (l0 : a0.length ≤ 9223372036854775807) (a1 : List (Int)) (h1 : ∀ x ∈ a1, IntKind.min .u8 ≤ x ∧ x ≤ IntKind.max .u8) (l1 : a1.length ≤ 9223372036854775807) : ∃ N, laws_FnArms.f N a0 a1 = some true := by
  have h0 : ∀ x ∈ a0, 0 ≤ x ∧ x ≤ 255 := h0
  have h1 : ∀ x ∈ a1, 0 ≤ x ∧ x ≤ 255 := h1
  by_cases c0 : (a0.length : Int) > 3000
  · exact ⟨0, by simp only [laws_FnArms.f, laws_a2Long.f, if_pos c0, Option.bind_some, if_true]⟩
  by_cases c1 : (a1.length : Int) > 3000
  · exact ⟨0, by simp only [laws_FnArms.f, laws_a2Long.f, if_neg c0, decide_eq_true c1, Option.bind_some, if_true]⟩
  obtain ⟨N, hN⟩ : ∃ N, N = 2000000 := ⟨_, rfl⟩
  refine ⟨N, ?_⟩
  obtain ⟨w, ew, okw, lw⟩ := drawn_ok (N := N) h0 (by omega) (by omega)
  obtain ⟨p, ep, lp, rp⟩ := placing_ok (N := N) h1 (by omega) okw.len (by omega)
  obtain ⟨m, em, m0, m1⟩ := at_ok (N := N) h1 0 (n := 60) (by decide)
  obtain ⟨r, er, r0, r1⟩ := at_ok (N := N) h1 1 (n := 100) (by decide)
  obtain ⟨x, ex, x0, x1⟩ := at_ok (N := N) h0 0 (n := 30) (by decide)
  obtain ⟨y, ey, y0, y1⟩ := at_ok (N := N) h0 1 (n := 30) (by decide)
  obtain ⟨z, ez, z0, z1⟩ := at_ok (N := N) h1 2 (n := 20) (by decide)
  have em : laws_a2At.f N a1 0 60 = some m := em
  have er : laws_a2At.f N a1 1 100 = some r := er
  have ex : laws_a2At.f N a0 0 30 = some x := ex
  have ey : laws_a2At.f N a0 1 30 = some y := ey
  have ez : laws_a2At.f N a1 2 20 = some z := ez
  obtain ⟨a, b, hq, qa0, qa1, qb0, qb1⟩ := pans_ok (N := N) okw lp (by omega)
  have wr : i64w (1 + r) = 1 + r := i64w_id (by omega) (by omega)
  have t1 := tilt_ok okw lp rp (by omega) hq ⟨qa0, qa1⟩ ⟨qb0, qb1⟩ (m := m) (l := 1) (r := 1) (by omega) (by decide) (by decide)
  have t2 := tilt_ok okw lp rp (by omega) hq ⟨qa0, qa1⟩ ⟨qb0, qb1⟩ (m := m) (l := 1 + r) (r := 1 + r) (by omega) (by omega) (by omega)
  rw [Int.mul_one, Int.mul_one] at t1
  rw [sg_mul (by omega)] at t2
  obtain ⟨X, hXe⟩ : ∃ X, 1 + x = X := ⟨_, rfl⟩
  obtain ⟨Y, hYe⟩ : ∃ Y, 1 + y = Y := ⟨_, rfl⟩
  obtain ⟨Z, hZe⟩ : ∃ Z, 1 + z = Z := ⟨_, rfl⟩
  have wx : i64w (1 + x) = X := by rw [i64w_id (by omega) (by omega)]; exact hXe
  have wy : i64w (1 + y) = Y := by rw [i64w_id (by omega) (by omega)]; exact hYe
  have wz : i64w (1 + z) = Z := by rw [i64w_id (by omega) (by omega)]; exact hZe
  have hX : 1 ≤ X ∧ X ≤ 30 := by omega
  have hY : 1 ≤ Y ∧ Y ≤ 30 := by omega
  have hZ : 1 ≤ Z ∧ Z ≤ 20 := by omega
  clear hXe hYe hZe
  have one : ∀ {a b : Int}, 1 ≤ a → 1 ≤ b → 1 ≤ a * b := fun {a b} ha hb => by
    have := Int.mul_le_mul ha hb (by decide) (by omega)
    simpa using this
  have p1 := mulB (a := X) (b := Y) (A := 30) (B := 30) (by omega) (by omega) (by omega) (by omega)
  have p2 := mulB (a := X * Y) (b := Z) (A := 900) (B := 20) (by omega) (by omega) (by omega) (by omega)
  have p3 := mulB (a := X) (b := Z) (A := 30) (B := 20) (by omega) (by omega) (by omega) (by omega)
  have p4 := mulB (a := Y) (b := Z) (A := 30) (B := 20) (by omega) (by omega) (by omega) (by omega)
  have p5 := mulB (a := X * Z) (b := X) (A := 600) (B := 30) (by omega) (by omega) (by omega) (by omega)
  have p6 := mulB (a := Y * Z) (b := Y) (A := 600) (B := 30) (by omega) (by omega) (by omega) (by omega)
  have o1 := one hX.1 hY.1
  have o2 := one o1 hZ.1
  have o3 := one hX.1 hZ.1
  have o4 := one hY.1 hZ.1
  have o5 := one o3 hX.1
  have o6 := one o4 hY.1
  have w1 : i64w (X * Y) = X * Y := i64w_id (by omega) (by omega)
  have w2 : i64w (X * Y * Z) = X * Y * Z := i64w_id (by omega) (by omega)
  have d1 : (X * Y * Z).tdiv Y = X * Z := by
    rw [Int.tdiv_eq_ediv_of_nonneg (by omega), show X * Y * Z = X * Z * Y by rw [Int.mul_assoc, Int.mul_comm Y Z, ← Int.mul_assoc], Int.mul_ediv_cancel _ (by omega)]
  have d2 : (X * Y * Z).tdiv X = Y * Z := by
    rw [Int.tdiv_eq_ediv_of_nonneg (by omega), show X * Y * Z = X * (Y * Z) by rw [Int.mul_assoc], Int.mul_ediv_cancel_left _ (by omega)]
  have w3 : i64w (X * Z) = X * Z := i64w_id (by omega) (by omega)
  have w4 : i64w (Y * Z) = Y * Z := i64w_id (by omega) (by omega)
  have w5 : i64w (X * Z * X) = X * Z * X := i64w_id (by omega) (by omega)
  have w6 : i64w (Y * Z * Y) = Y * Z * Y := i64w_id (by omega) (by omega)
  have hsq : X * Z * X * (Y * Z * Y) = X * Y * Z * (X * Y * Z) := by
    simp only [Int.mul_comm, Int.mul_left_comm, Int.mul_assoc]
  have root := root_ok (N := N) (a := X * Z * X) (b := Y * Z * Y) (m := X * Y * Z) (by omega) (by omega) (by omega) hsq (by omega)
  obtain ⟨u, v, g, arms1, arms2, g1, hu, hv, u0, u1, v0, v1⟩ := arms_ok (N := N) (a := X * Z * X) (b := Y * Z * Y) (m := X * Y * Z) (by omega) (by omega) (by omega) hsq (by omega)
  have huv : u * Y = v * X := by
    apply Int.eq_of_mul_eq_mul_right (show g ≠ 0 by omega)
    have e1 : u * Y * g = X * Z * X * Y := by rw [hu]; simp only [Int.mul_comm, Int.mul_left_comm, Int.mul_assoc]
    have e2 : v * X * g = X * Y * Z * X := by rw [hv]; simp only [Int.mul_comm, Int.mul_left_comm, Int.mul_assoc]
    rw [e1, e2]
    simp only [Int.mul_comm, Int.mul_left_comm, Int.mul_assoc]
  have p7 := mulB (a := u) (b := Y) (A := 1000000) (B := 30) u0 u1 (by omega) (by omega)
  have w7 : i64w (u * Y) = u * Y := i64w_id (by omega) (by omega)
  have w8 : i64w (v * X) = v * X := by rw [← huv]; exact w7
  have tilt1 : impl_Tilt.f N w p m = some (sg (m + a) b, 0) := by
    simp only [impl_Tilt.f, t1, Option.bind_some]
  simp only [laws_FnArms.f, laws_a2Long.f, if_neg c0, decide_eq_false c1, Option.bind_some, Bool.false_eq_true, if_false, ew, ep, em, er, ex, ey, ez, wr, wx, wy, wz, tilt1, t2, if_true, if_pos (show ¬ Y = 0 by omega), if_pos (show ¬ X = 0 by omega), w1, w2, d1, d2, w3, w4, w5, w6, by_two, root, arms1, arms2, huv, w7, w8]
  by_cases c2 : X * Z * X > 2000
  · rw [if_pos c2]
  · rw [if_neg c2]
    have w9 : i16w (X * Z * X) = X * Z * X := i16w_id (by omega) (by omega)
    have oks : OkW [X * Z * X] := ⟨by simp, by simp, by simp, fun q hq => by rw [List.mem_singleton] at hq; subst hq; omega, by simp; omega⟩
    have hps : _impl_Weights_pans.f N [X * Z * X] [1] = some (0, X * Z * X) := by
      obtain ⟨M, hM⟩ : ∃ M, N = M + 2 := ⟨N - 2, by omega⟩
      have b1 : _impl_Weights_pans.b0 N [1] [X * Z * X] 0 0 0 = some (.next (0, X * Z * X, 1)) := by
        simp only [_impl_Weights_pans.b0, _impl_Weights_pans.j2, List.length_singleton]
        rw [if_pos (by decide), if_pos (by decide), if_neg (by decide), if_pos (by decide), if_pos (by decide)]
        have e1 : rdL [X * Z * X] 0 0 = X * Z * X := rfl
        rw [e1, i64w_id (x := X * Z * X) (by omega) (by omega), Int.zero_add, i64w_id (x := X * Z * X) (by omega) (by omega)]
        rfl
      have b2 : _impl_Weights_pans.b0 N [1] [X * Z * X] 0 (X * Z * X) 1 = some (.out (.go (0, X * Z * X))) := by
        simp only [_impl_Weights_pans.b0, List.length_singleton]
        rw [if_neg (by decide)]
      unfold _impl_Weights_pans.f
      have : rounds (fun s => _impl_Weights_pans.b0 N [1] [X * Z * X] s.1 s.2.1 s.2.2) N (0, 0, 0) = some (.go (0, X * Z * X)) := by
        conv => lhs; arg 2; rw [hM]
        rw [rounds_next (s' := _) b1, rounds_out b2]
      rw [this]; rfl
    have t3 := tilt_ok (N := N) (w := [X * Z * X]) (p := [1]) oks rfl (by intro q hq; rw [List.mem_singleton] at hq; subst hq; decide) (by omega) hps (by decide) (by omega) (m := X * Y * Z) (l := X) (r := Y) (by omega) (by omega) (by omega)
    rw [Int.add_zero] at t3
    have p9 := mulB (a := X * Z * X) (b := Y) (A := 2000) (B := 30) (by omega) (by omega) (by omega) (by omega)
    have p10 := mulB (a := X * Y * Z) (b := X) (A := 18000) (B := 30) (by omega) (by omega) (by omega) (by omega)
    have w10 : i64w (X * Z * X * Y) = X * Z * X * Y := i64w_id (by omega) (by omega)
    have w11 : i64w (X * Y * Z * X) = X * Y * Z * X := i64w_id (by omega) (by omega)
    have w12 : i64w (X * Z * X * Y - X * Y * Z * X) = X * Z * X * Y - X * Y * Z * X := i64w_id (by omega) (by omega)
    simp only [w9, t3, Option.bind_some, if_true, w10, w11, w12, sign_eq, beq_self_eq_true]
end Go.Proofs.YtpphepkapccjeaaX
