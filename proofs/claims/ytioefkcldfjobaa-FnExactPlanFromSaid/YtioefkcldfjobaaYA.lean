/- Moments, what can be next behind them, and their numbers. -/
import Derived.Test.YtioefkcldfjobaaYX
namespace Go.Proofs.YtioefkcldfjobaaX
open Go
set_option linter.unusedVariables false
set_option linter.unusedSimpArgs false
abbrev Mo := S_impl_moment
abbrev T4 := Ar Int 4
/-- Glasses that hold, with no more than 3000 tops. -/
structure Gl (a : List Int) : Prop where
  ok : okG a
  len : a.length ≤ 4
  few : prodR a ≤ 3000
/-- The tops at the next event, when a set is turned, and how long it takes. -/
def nxt (N : Nat) (a : List Int) (c : T4) (s : Nat) : T4 × Int := match spec_l07Turn.f N a c (s : Int) with
  | some r => (spec_l07Wait.f N r).getD (c, 0)
  | none => (c, 0)
theorem nxt_ok {N : Nat} {a : List Int} (G : Gl a) {c : T4} (hf : fits a c) {s : Nat} (hs : s ≤ 255) (hN : 5 < N) :
    ∃ r, spec_l07Turn.f N a c (s : Int) = some r ∧ _impl_Glasses_turned.f N a c (s : Int) = some r ∧ spec_l07Wait.f N r = some (nxt N a c s) ∧ impl_wait.f N r = some (nxt N a c s) ∧ fits a (nxt N a c s).1 ∧ 0 ≤ (nxt N a c s).2 ∧ (nxt N a c s).2 ≤ 40 := by
  obtain ⟨r, h1, h2, h3⟩ := turn_eq (N := N) (x := (s : Int)) G.ok G.len hf (by omega) (by omega) hN
  obtain ⟨w, g1, g2, g3, g4, g5⟩ := wait_eq (N := N) G.ok h3 hN
  have e : nxt N a c s = w := by unfold nxt; rw [h1]; simp only [g1]; rfl
  rw [e]
  exact ⟨r, h1, h2, g1, g2, g3, g4, g5⟩
/-- The moment that is next, if there is one in time. -/
def suc (N : Nat) (a : List Int) (T : Int) (x : Mo) (s : Nat) : Option Mo :=
  if (nxt N a x.f_tops s).2 > 0 then (if x.f_time + (nxt N a x.f_tops s).2 ≤ T then some ⟨x.f_time + (nxt N a x.f_tops s).2, (nxt N a x.f_tops s).1⟩ else none) else none
/-- A moment in time. -/
def okM (a : List Int) (T : Int) (x : Mo) : Prop := (0 ≤ x.f_time ∧ x.f_time ≤ T) ∧ fits a x.f_tops
theorem suc_ok {N : Nat} {a : List Int} (G : Gl a) {T : Int} {x y : Mo} (hx : okM a T x) {s : Nat} (hs : s ≤ 255) (hN : 5 < N) (h : suc N a T x s = some y) : okM a T y := by
  obtain ⟨r, _, _, _, _, h3, h4, _⟩ := nxt_ok G hx.2 hs hN
  unfold suc at h
  split at h
  · split at h
    · rename_i g1 g2
      cases h
      have := hx.1
      exact ⟨⟨by dsimp only; omega, g2⟩, h3⟩
    · cases h
  · cases h
theorem pow_le {n : Nat} (h : n ≤ 4) : 2 ^ n ≤ 16 ∧ 1 ≤ 2 ^ n := by
  match n, h with
  | 0, _ => decide
  | 1, _ => decide
  | 2, _ => decide
  | 3, _ => decide
  | 4, _ => decide
theorem pow_cast (n : Nat) : (2 : Int) ^ n = ((2 ^ n : Nat) : Int) := by simp
/-- Glasses, how many tops they have, and a time. -/
structure Se (a : List Int) (n T : Nat) : Prop where
  gl : Gl a
  n_eq : (n : Int) = prodR a
  n1 : 1 ≤ n
  n3 : n ≤ 3000
  t : T ≤ 120
/-- The moment with a number. -/
def Kx (a : List Int) (n : Nat) (i : Nat) : Mo := ⟨((i / n : Nat) : Int), atT a ((i % n : Nat) : Int)⟩
/-- The number of a moment. -/
def ix (a : List Int) (n : Nat) (y : Mo) : Nat := y.f_time.toNat * n + (hor a y.f_tops.l).toNat
section
variable {a : List Int} {n T : Nat}
theorem Kx_ok (h : Se a n T) {i : Nat} (hi : i < n * (T + 1)) : okM a (T : Int) (Kx a n i) := by
  have h1 : i / n < T + 1 := Nat.div_lt_of_lt_mul hi
  exact ⟨⟨Int.natCast_nonneg _, Int.ofNat_le.2 (show i / n ≤ T by omega)⟩, atT_fits h.gl.len h.gl.ok (Int.natCast_nonneg _)⟩
theorem ix_lt (h : Se a n T) {y : Mo} (hy : okM a (T : Int) y) : ix a n y < n * (T + 1) ∧ Kx a n (ix a n y) = y := by
  obtain ⟨⟨t0, t1⟩, hf⟩ := hy
  obtain ⟨h0, h1⟩ := hor_range h.gl.ok (fits_in h.gl.len hf)
  obtain ⟨t, et⟩ := Int.eq_ofNat_of_zero_le t0
  obtain ⟨q, eq⟩ := Int.eq_ofNat_of_zero_le h0
  have hq : q < n := by have := h.n_eq; omega
  have ht : t ≤ T := by omega
  have e : ix a n y = t * n + q := by unfold ix; rw [et, eq]; simp
  have hd : (t * n + q) / n = t := by rw [Nat.mul_comm, Nat.mul_add_div h.n1, Nat.div_eq_of_lt hq, Nat.add_zero]
  have hm : (t * n + q) % n = q := by rw [Nat.mul_comm, Nat.mul_add_mod, Nat.mod_eq_of_lt hq]
  rw [e]
  refine ⟨?_, ?_⟩
  · have := Nat.mul_le_mul_right n (show t + 1 ≤ T + 1 by omega)
    rw [Nat.mul_comm n (T + 1)]
    rw [Nat.add_mul] at this
    omega
  · unfold Kx
    rw [hd, hm, ← eq, atT_hor h.gl.len h.gl.ok hf]
    obtain ⟨yt, yc⟩ := y
    simp only at et
    rw [et]
theorem Kx_ix (h : Se a n T) (i : Nat) : ix a n (Kx a n i) = i := by
  have hm := Nat.mod_lt i (show 0 < n from h.n1)
  show ((i / n : Nat) : Int).toNat * n + (hor a (atT a ((i % n : Nat) : Int)).l).toNat = i
  rw [hor_atT h.gl.len h.gl.ok (by omega) (by rw [← h.n_eq]; omega), Int.toNat_natCast, Int.toNat_natCast, Nat.mul_comm, Nat.div_add_mod]
theorem Kx_inj (h : Se a n T) {i j : Nat} (e : Kx a n i = Kx a n j) : i = j := by rw [← Kx_ix h i, e, Kx_ix h j]
end
end Go.Proofs.YtioefkcldfjobaaX
