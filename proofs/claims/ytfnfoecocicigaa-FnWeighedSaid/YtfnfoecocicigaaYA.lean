/- States, plainly: their sums, weights, and what the answers leave. -/
import Derived.Test.YtfnfoecocicigaaXR
import Derived.Test.YtfnfoecocicigaaXWalk
namespace Go.Proofs.YtfnfoecocicigaaX
open Go
set_option linter.unusedVariables false
set_option linter.unusedSimpArgs false
abbrev S4 := Ar Int 4
/-- The state with these numbers. -/
def SI (a b c d : Int) : S4 := ⟨[a, b, c, d], rfl⟩
def SN (a b c d : Nat) : S4 := SI a b c d
theorem ar4' (a : S4) : ∃ x y z t, a = SI x y z t := by
  obtain ⟨l, h⟩ := a
  match l, h with
  | [x, y, z, t], _ => exact ⟨x, y, z, t, rfl⟩
theorem SN_inj {a b c d a' b' c' d' : Nat} (h : SN a b c d = SN a' b' c' d') : a = a' ∧ b = b' ∧ c = c' ∧ d = d' := by
  have := congrArg Ar.l h
  simp only [SN, SI, List.cons.injEq, and_true] at this
  omega
/-- How many there are. -/
theorem sum_impl (N : Nat) {a b c d : Nat} (h : a + b + c + d ≤ 300) : _impl_State_sum.f N (SN a b c d) = some ((a + b + c + d : Nat) : Int) := by
  show some (i64w ((i64w ((i64w ((a : Int) + (b : Int))) + (c : Int))) + (d : Int))) = _
  rw [i64w_id (x := (a : Int) + b) (by omega) (by omega), i64w_id (x := (a : Int) + b + c) (by omega) (by omega), i64w_id (by omega) (by omega)]
  rfl
theorem sum_spec (N : Nat) {a b c d : Nat} (h : a + b + c + d ≤ 300) : spec_l06Total.f N (SN a b c d) = some ((a + b + c + d : Nat) : Int) := by
  show some (i64w ((i64w ((i64w ((a : Int) + (b : Int))) + (c : Int))) + (d : Int))) = _
  rw [i64w_id (x := (a : Int) + b) (by omega) (by omega), i64w_id (x := (a : Int) + b + c) (by omega) (by omega), i64w_id (by omega) (by omega)]
  rfl
/-- What is left behind 'yes' and behind 'no'. -/
def spY (L : Nat) (x0 x1 x2 x3 a0 a1 a2 a3 : Nat) : S4 := match L with
  | 0 => SN a0 0 0 0
  | 1 => SN a0 (a1 + (x0 - a0)) 0 0
  | 2 => SN a0 (a1 + (x0 - a0)) (a2 + (x1 - a1)) 0
  | _ => SN a0 (a1 + (x0 - a0)) (a2 + (x1 - a1)) (a3 + (x2 - a2))
def spN (L : Nat) (x0 x1 x2 x3 a0 a1 a2 a3 : Nat) : S4 := match L with
  | 0 => SN (x0 - a0) 0 0 0
  | 1 => SN (x0 - a0) (x1 - a1 + a0) 0 0
  | 2 => SN (x0 - a0) (x1 - a1 + a0) (x2 - a2 + a1) 0
  | _ => SN (x0 - a0) (x1 - a1 + a0) (x2 - a2 + a1) (x3 - a3 + a2)
theorem SN_eq {a b c d : Nat} {a' b' c' d' : Int} (h0 : a' = a) (h1 : b' = b) (h2 : c' = c) (h3 : d' = d) : SI a' b' c' d' = SN a b c d := by
  subst h0 h1 h2 h3; rfl
theorem idw {x : Int} (h : -1000 ≤ x ∧ x ≤ 1000) : i64w x = x := i64w_id (by omega) (by omega)
theorem split_impl {M : Nat} {L : Nat} (hL : L ≤ 3) {x0 x1 x2 x3 a0 a1 a2 a3 : Nat} (hx : x0 ≤ 60 ∧ x1 ≤ 60 ∧ x2 ≤ 60 ∧ x3 ≤ 60) (h0 : a0 ≤ x0) (h1 : a1 ≤ x1) (h2 : a2 ≤ x2) (h3 : a3 ≤ x3) :
    _impl_State_split.f (M + 6) (SN x0 x1 x2 x3) (L : Int) (SN a0 a1 a2 a3) = some (spY L x0 x1 x2 x3 a0 a1 a2 a3, spN L x0 x1 x2 x3 a0 a1 a2 a3) := by
  match L, hL with
  | 0, _ =>
    show some (SI a0 0 0 0, SI (i64w ((x0 : Int) - a0)) 0 0 0) = _
    rw [idw (x := (x0 : Int) - a0) (by omega)]
    exact congrArg some (Prod.ext (SN_eq rfl rfl rfl rfl) (SN_eq (by omega) rfl rfl rfl))
  | 1, _ =>
    show some (SI a0 (i64w ((a1 : Int) + i64w ((x0 : Int) - a0))) 0 0, SI (i64w ((x0 : Int) - a0)) (i64w (i64w ((x1 : Int) - a1) + a0)) 0 0) = _
    rw [idw (x := (x0 : Int) - a0) (by omega), idw (x := (x1 : Int) - a1) (by omega), idw (x := (a1 : Int) + ((x0 : Int) - a0)) (by omega), idw (x := (x1 : Int) - a1 + a0) (by omega)]
    exact congrArg some (Prod.ext (SN_eq rfl (by omega) rfl rfl) (SN_eq (by omega) (by omega) rfl rfl))
  | 2, _ =>
    show some (SI a0 (i64w ((a1 : Int) + i64w ((x0 : Int) - a0))) (i64w ((a2 : Int) + i64w ((x1 : Int) - a1))) 0, SI (i64w ((x0 : Int) - a0)) (i64w (i64w ((x1 : Int) - a1) + a0)) (i64w (i64w ((x2 : Int) - a2) + a1)) 0) = _
    rw [idw (x := (x0 : Int) - a0) (by omega), idw (x := (x1 : Int) - a1) (by omega), idw (x := (x2 : Int) - a2) (by omega), idw (x := (a1 : Int) + ((x0 : Int) - a0)) (by omega), idw (x := (x1 : Int) - a1 + a0) (by omega), idw (x := (a2 : Int) + ((x1 : Int) - a1)) (by omega), idw (x := (x2 : Int) - a2 + a1) (by omega)]
    exact congrArg some (Prod.ext (SN_eq rfl (by omega) (by omega) rfl) (SN_eq (by omega) (by omega) (by omega) rfl))
  | 3, _ =>
    show some (SI a0 (i64w ((a1 : Int) + i64w ((x0 : Int) - a0))) (i64w ((a2 : Int) + i64w ((x1 : Int) - a1))) (i64w ((a3 : Int) + i64w ((x2 : Int) - a2))), SI (i64w ((x0 : Int) - a0)) (i64w (i64w ((x1 : Int) - a1) + a0)) (i64w (i64w ((x2 : Int) - a2) + a1)) (i64w (i64w ((x3 : Int) - a3) + a2))) = _
    rw [idw (x := (x0 : Int) - a0) (by omega), idw (x := (x1 : Int) - a1) (by omega), idw (x := (x2 : Int) - a2) (by omega), idw (x := (x3 : Int) - a3) (by omega), idw (x := (a1 : Int) + ((x0 : Int) - a0)) (by omega), idw (x := (x1 : Int) - a1 + a0) (by omega), idw (x := (a2 : Int) + ((x1 : Int) - a1)) (by omega), idw (x := (x2 : Int) - a2 + a1) (by omega), idw (x := (a3 : Int) + ((x2 : Int) - a2)) (by omega), idw (x := (x3 : Int) - a3 + a2) (by omega)]
    exact congrArg some (Prod.ext (SN_eq rfl (by omega) (by omega) (by omega)) (SN_eq (by omega) (by omega) (by omega) (by omega)))
theorem split_spec {M : Nat} {L : Nat} (hL : L ≤ 3) {x0 x1 x2 x3 a0 a1 a2 a3 : Nat} (hx : x0 ≤ 60 ∧ x1 ≤ 60 ∧ x2 ≤ 60 ∧ x3 ≤ 60) (h0 : a0 ≤ x0) (h1 : a1 ≤ x1) (h2 : a2 ≤ x2) (h3 : a3 ≤ x3) :
    spec_l06Split.f (M + 6) (L : Int) (SN x0 x1 x2 x3) (SN a0 a1 a2 a3) = some (spY L x0 x1 x2 x3 a0 a1 a2 a3, spN L x0 x1 x2 x3 a0 a1 a2 a3) := by
  match L, hL with
  | 0, _ =>
    show some (SI (i64w (0 + (a0 : Int))) 0 0 0, SI (i64w (0 + i64w ((x0 : Int) - a0))) 0 0 0) = _
    rw [idw (x := (x0 : Int) - a0) (by omega), idw (x := 0 + (a0 : Int)) (by omega), idw (x := 0 + ((x0 : Int) - a0)) (by omega)]
    exact congrArg some (Prod.ext (SN_eq (by omega) rfl rfl rfl) (SN_eq (by omega) rfl rfl rfl))
  | 1, _ =>
    show some (SI (i64w (0 + (a0 : Int))) (i64w (i64w (0 + i64w ((x0 : Int) - a0)) + a1)) 0 0, SI (i64w (0 + i64w ((x0 : Int) - a0))) (i64w (i64w (0 + (a0 : Int)) + i64w ((x1 : Int) - a1))) 0 0) = _
    rw [idw (x := (x0 : Int) - a0) (by omega), idw (x := (x1 : Int) - a1) (by omega), idw (x := 0 + (a0 : Int)) (by omega), idw (x := 0 + ((x0 : Int) - a0)) (by omega), idw (x := 0 + ((x0 : Int) - a0) + a1) (by omega), idw (x := 0 + (a0 : Int) + ((x1 : Int) - a1)) (by omega)]
    exact congrArg some (Prod.ext (SN_eq (by omega) (by omega) rfl rfl) (SN_eq (by omega) (by omega) rfl rfl))
  | 2, _ =>
    show some (SI (i64w (0 + (a0 : Int))) (i64w (i64w (0 + i64w ((x0 : Int) - a0)) + a1)) (i64w (i64w (0 + i64w ((x1 : Int) - a1)) + a2)) 0, SI (i64w (0 + i64w ((x0 : Int) - a0))) (i64w (i64w (0 + (a0 : Int)) + i64w ((x1 : Int) - a1))) (i64w (i64w (0 + (a1 : Int)) + i64w ((x2 : Int) - a2))) 0) = _
    rw [idw (x := (x0 : Int) - a0) (by omega), idw (x := (x1 : Int) - a1) (by omega), idw (x := (x2 : Int) - a2) (by omega), idw (x := 0 + (a0 : Int)) (by omega), idw (x := 0 + (a1 : Int)) (by omega), idw (x := 0 + ((x0 : Int) - a0)) (by omega), idw (x := 0 + ((x1 : Int) - a1)) (by omega), idw (x := 0 + ((x0 : Int) - a0) + a1) (by omega), idw (x := 0 + (a0 : Int) + ((x1 : Int) - a1)) (by omega), idw (x := 0 + ((x1 : Int) - a1) + a2) (by omega), idw (x := 0 + (a1 : Int) + ((x2 : Int) - a2)) (by omega)]
    exact congrArg some (Prod.ext (SN_eq (by omega) (by omega) (by omega) rfl) (SN_eq (by omega) (by omega) (by omega) rfl))
  | 3, _ =>
    show some (SI (i64w (0 + (a0 : Int))) (i64w (i64w (0 + i64w ((x0 : Int) - a0)) + a1)) (i64w (i64w (0 + i64w ((x1 : Int) - a1)) + a2)) (i64w (i64w (0 + i64w ((x2 : Int) - a2)) + a3)), SI (i64w (0 + i64w ((x0 : Int) - a0))) (i64w (i64w (0 + (a0 : Int)) + i64w ((x1 : Int) - a1))) (i64w (i64w (0 + (a1 : Int)) + i64w ((x2 : Int) - a2))) (i64w (i64w (0 + (a2 : Int)) + i64w ((x3 : Int) - a3)))) = _
    rw [idw (x := (x0 : Int) - a0) (by omega), idw (x := (x1 : Int) - a1) (by omega), idw (x := (x2 : Int) - a2) (by omega), idw (x := (x3 : Int) - a3) (by omega), idw (x := 0 + (a0 : Int)) (by omega), idw (x := 0 + (a1 : Int)) (by omega), idw (x := 0 + (a2 : Int)) (by omega), idw (x := 0 + ((x0 : Int) - a0)) (by omega), idw (x := 0 + ((x1 : Int) - a1)) (by omega), idw (x := 0 + ((x2 : Int) - a2)) (by omega), idw (x := 0 + ((x0 : Int) - a0) + a1) (by omega), idw (x := 0 + (a0 : Int) + ((x1 : Int) - a1)) (by omega), idw (x := 0 + ((x1 : Int) - a1) + a2) (by omega), idw (x := 0 + (a1 : Int) + ((x2 : Int) - a2)) (by omega), idw (x := 0 + ((x2 : Int) - a2) + a3) (by omega), idw (x := 0 + (a2 : Int) + ((x3 : Int) - a3)) (by omega)]
    exact congrArg some (Prod.ext (SN_eq (by omega) (by omega) (by omega) (by omega)) (SN_eq (by omega) (by omega) (by omega) (by omega)))
end Go.Proofs.YtfnfoecocicigaaX
