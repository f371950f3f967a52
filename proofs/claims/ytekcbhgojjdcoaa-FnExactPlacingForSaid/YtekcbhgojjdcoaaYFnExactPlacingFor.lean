/- FnExactPlacingFor is true on every input: the plain side. -/
import Derived.Test.YtekcbhgojjdcoaaYD
import Derived.Test.YtekcbhgojjdcoaaYH
namespace Go.Proofs.YtekcbhgojjdcoaaX
open Go
set_option linter.unusedVariables false
set_option linter.unusedSimpArgs false
theorem i8w_side {s : Int} (h1 : -1 ≤ s) (h2 : s ≤ 1) : i8w s = s := by
  have : s = -1 ∨ s = 0 ∨ s = 1 := by omega
  rcases this with rfl | rfl | rfl <;> decide
section
variable {w : List Int} {N : Nat}
/-- What a side comes to. -/
def cs (both : Bool) (w : List Int) (i : Nat) (mass : Int) (t : Nat) : Option Nat := plus (bd (loOf both) (LOf both) w (i + 1) (mass - (loOf both + (t : Int)) * w.getD i 0)) (sq (loOf both + (t : Int)))
abbrev Sx := Bd (List Int × Int) (Int × List Int) (Int × List Int × Int)
/-- A look at one side, in the specification. -/
theorem spec_side (h : OkW w) {both : Bool} {X : List (List Int)} (r : RepT 4001 w.length X (Frw (loOf both) (LOf both) w 0)) {i j : Nat} (hi : i < w.length) (hj : j < LOf both) {mass : Int} {v : Nat} (hv : bd (loOf both) (LOf both) w i mass = some v) {p : List Int} (hp : p.length ≤ 16) :
    spec_PlacingFor.b2 N (i : Int) w X (mass + 2000) p (loOf both + (j : Int)) = if cs both w i mass j = some v then some (.out (.go (mass - (loOf both + (j : Int)) * w[i] + 2000, p ++ [loOf both + (j : Int)]))) else some (.next (mass + 2000, p, loOf both + ((j + 1 : Nat) : Int))) := by
  have hs := sdOf both
  obtain ⟨q1, q2, q3, q4⟩ := sq_le hs hj
  have hx := w_range h hi
  have hl16 := h.l16
  have hm := mul_range q3 q4 hx
  have hg : w.getD i 0 = w[i] := by simp [List.getD, hi]
  have hl := r.len
  have hmr := bd_range h hs hv
  have e1 : i64w (loOf both + (j : Int) + 1) = loOf both + ((j + 1 : Nat) : Int) := by rw [i64w_id (by omega) (by omega)]; omega
  have e2 : i64w w[i] = w[i] := i64w_id (by omega) (by omega)
  have e3 : i64w ((loOf both + (j : Int)) * w[i]) = (loOf both + (j : Int)) * w[i] := i64w_id (by omega) (by omega)
  have e4 : i64w (mass + 2000 - (loOf both + (j : Int)) * w[i]) = mass + 2000 - (loOf both + (j : Int)) * w[i] := i64w_id (by omega) (by omega)
  have e5 : i64w ((loOf both + (j : Int)) * (loOf both + (j : Int))) = ((sq (loOf both + (j : Int)) : Nat) : Int) := by rw [← q2]; exact i64w_id (by omega) (by omega)
  have e7 : i64w ((i : Int) + 1) = ((i + 1 : Nat) : Int) := i64w_id (by omega) (by omega)
  unfold spec_PlacingFor.b2 spec_PlacingFor.j4
  rw [if_pos ((lo_le hs).1.2 hj), if_pos ⟨by omega, by omega⟩, rdL_nat hi, e1, e2, e3, e4, e5, e7]
  unfold spec_l00In.f
  have out : ¬ (0 ≤ mass + 2000 - (loOf both + (j : Int)) * w[i] ∧ mass + 2000 - (loOf both + (j : Int)) * w[i] ≤ 4000) → cs both w i mass j = none := by
    intro g
    unfold cs
    rw [hg]
    cases e : bd (loOf both) (LOf both) w (i + 1) (mass - (loOf both + (j : Int)) * w[i]) with
    | none => rfl
    | some u =>
      have := bd_range h hs e
      omega
  by_cases c1 : mass + 2000 - (loOf both + (j : Int)) * w[i] ≥ 0
  · rw [if_pos c1, Option.bind_some]
    by_cases c2 : mass + 2000 - (loOf both + (j : Int)) * w[i] ≤ 4000
    · rw [if_pos (decide_eq_true c2)]
      obtain ⟨q, eq⟩ := Int.eq_ofNat_of_zero_le c1
      obtain ⟨k, ek⟩ := Int.eq_ofNat_of_zero_le (show 0 ≤ mass + 2000 by omega)
      have r1 := r.row (i + 1) (by omega)
      have r2 := r.row i (by omega)
      have v1 := r.val (i + 1) (by omega) q (by omega)
      have v2 := r.val i (by omega) k (by omega)
      have f1 : Frw (loOf both) (LOf both) w 0 (i + 1) q = bd (loOf both) (LOf both) w (i + 1) (mass - (loOf both + (j : Int)) * w[i]) := by
        unfold Frw bdn
        rw [if_pos (Nat.zero_le _)]
        congr 1
        omega
      have f2 : Frw (loOf both) (LOf both) w 0 i k = some v := by
        unfold Frw bdn
        rw [if_pos (Nat.zero_le _), ← hv]
        congr 1
        omega
      have f3 : cs both w i mass j = plus (Frw (loOf both) (LOf both) w 0 (i + 1) q) (sq (loOf both + (j : Int))) := by unfold cs; rw [f1, hg]
      have eout : mass - (loOf both + (j : Int)) * w[i] + 2000 = (q : Int) := by omega
      rw [eq, eout, f3]
      rw [if_pos ⟨by omega, by omega⟩, if_pos ⟨by omega, by omega⟩, v1]
      cases e : Frw (loOf both) (LOf both) w 0 (i + 1) q with
      | none =>
        rw [if_neg (show ¬ vi none ≥ 0 by decide), if_neg (by unfold plus; simp)]
      | some u =>
        have hu : u ≤ 16 := (bd_range h hs (f1.symm.trans e)).2.2
        have hc : i64w (vi (some u) + ((sq (loOf both + (j : Int)) : Nat) : Int)) = ((u + sq (loOf both + (j : Int)) : Nat) : Int) := by
          show i64w ((u : Int) + _) = _
          rw [← Int.natCast_add]
          exact i64w_id (by omega) (by omega)
        rw [if_pos (show vi (some u) ≥ 0 by simp only [vi]; omega), if_pos ⟨by omega, by omega⟩, if_pos ⟨by omega, by omega⟩, if_pos ⟨by omega, by omega⟩, if_pos ⟨by omega, by omega⟩, hc, ek, v2, f2]
        by_cases c : u + sq (loOf both + (j : Int)) = v
        · rw [if_pos (show ((u + sq (loOf both + (j : Int)) : Nat) : Int) = vi (some v) by rw [c]; rfl), if_pos (show plus (some u) (sq (loOf both + (j : Int))) = some v by rw [← c]; rfl), if_pos (by simp; omega), i8w_side q3 q4]
        · rw [if_neg (show ¬ ((u + sq (loOf both + (j : Int)) : Nat) : Int) = vi (some v) by simp only [vi]; omega), if_neg (show ¬ plus (some u) (sq (loOf both + (j : Int))) = some v from fun g => c (Option.some.inj g))]
    · rw [if_neg (by simpa using c2), if_neg (by rw [out (fun g => c2 g.2)]; simp)]
  · rw [if_neg c1, Option.bind_some, if_neg Bool.false_ne_true, if_neg (by rw [out (fun g => c1 g.1)]; simp)]
theorem impl_side (h : OkW w) {both : Bool} {S : List Int} (hSl : S.length = LOf both) (hS : ∀ t : Nat, t < LOf both → rdL S (t : Int) 0 = loOf both + (t : Int)) {xs : List (Option Kb)} (r : RepB (loOf both) (LOf both) w xs 0) {i j : Nat} (hi : i < w.length) (hj : j < LOf both) {mass : Int} {v : Nat} (hv : bd (loOf both) (LOf both) w i mass = some v) {p : List Int} (hp : p.length ≤ 16) {Q : Bd (List Int × Int) (Int × List Int × Int) (Int × List Int × Int × Int) → Prop}
    (h1 : cs both w i mass j = some v → Q (.out (.go (mass - (loOf both + (j : Int)) * w[i], p ++ [loOf both + (j : Int)], (v : Int) - ((sq (loOf both + (j : Int)) : Nat) : Int))))) (h2 : ¬ cs both w i mass j = some v → Q (.next (mass, p, (v : Int), ((j + 1 : Nat) : Int)))) :
    impl_PlacingFor.b2 N S (i : Int) xs w mass p (v : Int) (j : Int) Q := by
  have hs := sdOf both
  obtain ⟨q1, q2, q3, q4⟩ := sq_le hs hj
  have hx := w_range h hi
  have hl16 := h.l16
  have hm := mul_range q3 q4 hx
  have hg : w.getD i 0 = w[i] := by simp [List.getD, hi]
  have hl := r.len
  have hmr := bd_range h hs hv
  have hL : LOf both ≤ 3 := by cases both <;> decide
  have e1 : i64w ((j : Int) + 1) = ((j + 1 : Nat) : Int) := i64w_id (by omega) (by omega)
  have e2 : i64w w[i] = w[i] := i64w_id (by omega) (by omega)
  have e3 : i64w ((loOf both + (j : Int)) * w[i]) = (loOf both + (j : Int)) * w[i] := i64w_id (by omega) (by omega)
  have e4 : i64w (mass - (loOf both + (j : Int)) * w[i]) = mass - (loOf both + (j : Int)) * w[i] := i64w_id (by omega) (by omega)
  have e5 : i64w ((loOf both + (j : Int)) * (loOf both + (j : Int))) = ((sq (loOf both + (j : Int)) : Nat) : Int) := by rw [← q2]; exact i64w_id (by omega) (by omega)
  have e6 : i64w (loOf both + (j : Int)) = loOf both + (j : Int) := i64w_id (by omega) (by omega)
  have e7 : i64w ((i : Int) + 1) = ((i + 1 : Nat) : Int) := i64w_id (by omega) (by omega)
  have e8 : i64w ((v : Int) - ((sq (loOf both + (j : Int)) : Nat) : Int)) = (v : Int) - ((sq (loOf both + (j : Int)) : Nat) : Int) := i64w_id (by omega) (by omega)
  obtain ⟨kv, k1, k2⟩ := r.row (i + 1) (Nat.zero_le _) (by omega)
  have hgd : (rdL xs ((i + 1 : Nat) : Int) none).getD [] = kv := by rw [k1]; rfl
  unfold impl_PlacingFor.b2 impl_PlacingFor.j4
  rw [if_pos (by omega), if_pos ⟨by omega, by omega⟩, e7, if_pos ⟨by omega, by omega⟩, hgd, hS j hj, rdL_nat hi, e6, e2, e3, e4, e5, e1, e8]
  have f3 : cs both w i mass j = plus (bd (loOf both) (LOf both) w (i + 1) (mass - (loOf both + (j : Int)) * w[i])) (sq (loOf both + (j : Int))) := by unfold cs; rw [hg]
  cases e : bd (loOf both) (LOf both) w (i + 1) (mass - (loOf both + (j : Int)) * w[i]) with
  | none =>
    rw [if_neg (k2.at_none e)]
    exact h2 (by rw [f3, e]; unfold plus; simp)
  | some u =>
    obtain ⟨a1, a2⟩ := k2.at_some e z_S_impl_balance
    have hu : u ≤ 16 := (bd_range h hs e).2.2
    have hc : i64w ((u : Int) + ((sq (loOf both + (j : Int)) : Nat) : Int)) = ((u + sq (loOf both + (j : Int)) : Nat) : Int) := by
      rw [← Int.natCast_add]
      exact i64w_id (by omega) (by omega)
    rw [if_pos a1, a2, hc]
    by_cases c : u + sq (loOf both + (j : Int)) = v
    · rw [if_pos (by rw [c]), if_pos (by simp; omega)]
      exact h1 (by rw [f3, e, ← c]; rfl)
    · rw [if_neg (by omega)]
      exact h2 (by rw [f3, e]; exact fun g => c (Option.some.inj g))
/-- The first side that does. -/
theorem sides_both (h : OkW w) {both : Bool} {S : List Int} (hSl : S.length = LOf both) (hS : ∀ t : Nat, t < LOf both → rdL S (t : Int) 0 = loOf both + (t : Int)) {X : List (List Int)} (r : RepT 4001 w.length X (Frw (loOf both) (LOf both) w 0)) {i : Nat} (hi : i < w.length) {mass : Int} {v : Nat} (hv : bd (loOf both) (LOf both) w i mass = some v) {p : List Int} (hp : p.length ≤ 16) {t0 : Nat} (ht0 : t0 < LOf both) (hc0 : cs both w i mass t0 = some v) :
    ∀ (m j : Nat), j ≤ t0 → LOf both - j < m → ∃ t, t < LOf both ∧ cs both w i mass t = some v ∧
      rounds (fun q => spec_PlacingFor.b2 N (i : Int) w X q.1 q.2.1 q.2.2) m (mass + 2000, p, loOf both + (j : Int)) = some (.go (mass - (loOf both + (t : Int)) * w[i] + 2000, p ++ [loOf both + (t : Int)])) ∧
      ∀ xs : List (Option Kb), RepB (loOf both) (LOf both) w xs 0 → ∀ Kf : Ex (List Int × Int) (Int × List Int × Int) → Prop, Kf (.go (mass - (loOf both + (t : Int)) * w[i], p ++ [loOf both + (t : Int)], (v : Int) - ((sq (loOf both + (t : Int)) : Nat) : Int))) → roundsD (fun q : Int × List Int × Int × Int => impl_PlacingFor.b2 N S (i : Int) xs w q.1 q.2.1 q.2.2.1 q.2.2.2) m (mass, p, (v : Int), (j : Int)) Kf := by
  intro m
  induction m with
  | zero => intro j _ hm; exact absurd hm (Nat.not_lt_zero _)
  | succ m ih =>
    intro j hj hm
    have hjL : j < LOf both := by omega
    have hsp := spec_side (N := N) h r hi hjL hv hp
    by_cases c : cs both w i mass j = some v
    · rw [if_pos c] at hsp
      refine ⟨j, hjL, c, rounds_out hsp, fun xs r' Kf hK => ?_⟩
      show impl_PlacingFor.b2 N S (i : Int) xs w mass p (v : Int) (j : Int) _
      exact impl_side h hSl hS r' hi hjL hv hp (fun _ => hK) (fun g => absurd c g)
    · rw [if_neg c] at hsp
      have hne : ¬ j = t0 := fun e => c (by rw [e]; exact hc0)
      obtain ⟨t, t1, t2, t3, t4⟩ := ih (j + 1) (by omega) (by omega)
      refine ⟨t, t1, t2, (rounds_next (b := fun q : Int × List Int × Int => spec_PlacingFor.b2 N (i : Int) w X q.1 q.2.1 q.2.2) (s := (mass + 2000, p, loOf both + (j : Int))) hsp).trans t3, fun xs r' Kf hK => ?_⟩
      show impl_PlacingFor.b2 N S (i : Int) xs w mass p (v : Int) (j : Int) _
      exact impl_side h hSl hS r' hi hjL hv hp (fun g => absurd g c) (fun _ => t4 xs r' Kf hK)
theorem b0_impl {both : Bool} {S : List Int} (hs : impl_sides.f N both = some S) {xs : List (Option Kb)} {i : Nat} (hi : i < w.length) (h16 : w.length ≤ 16) {mass : Int} {p : List Int} {v : Int} {Q : Bd (List Int × Int) (List Int) (Int × List Int × Int × Int) → Prop}
    (hK : roundsD (fun q : Int × List Int × Int × Int => impl_PlacingFor.b2 N S (i : Int) xs w q.1 q.2.1 q.2.2.1 q.2.2.2) N (mass, p, v, 0) (Ex.finBD (fun s => impl_PlacingFor.a2 N (i : Int) s.1 s.2.1 s.2.2 Q) Q)) : impl_PlacingFor.b0 N w both xs mass p v (i : Int) Q := by
  unfold impl_PlacingFor.b0
  rw [if_pos (by omega), if_pos ⟨by omega, by omega⟩]
  exact ⟨S, hs, hK⟩
theorem place_both (h : OkW w) (hN : 5000 < N) {both : Bool} {X : List (List Int)} (r : RepT 4001 w.length X (Frw (loOf both) (LOf both) w 0)) :
    ∀ (m i : Nat) (mass : Int) (v : Nat) (p : List Int), i ≤ w.length → w.length - i < m → p.length = i → bd (loOf both) (LOf both) w i mass = some v → ∃ pf : List Int, pf.length ≤ 16 ∧
      rounds (fun q => spec_PlacingFor.b0 N w both X q.1 q.2.1 q.2.2) m (mass + 2000, p, (i : Int)) = some (.go pf) ∧ ∀ xs : List (Option Kb), RepB (loOf both) (LOf both) w xs 0 → ∀ Kf : Ex (List Int × Int) (List Int) → Prop, Kf (.go pf) → roundsD (fun q : Int × List Int × Int × Int => impl_PlacingFor.b0 N w both xs q.1 q.2.1 q.2.2.1 q.2.2.2) m (mass, p, (v : Int), (i : Int)) Kf := by
  have h16 := h.l16
  intro m
  induction m with
  | zero => intro i _ _ _ _ hm; exact absurd hm (Nat.not_lt_zero _)
  | succ m ih =>
    intro i mass v p hi hm hp hv
    by_cases c : i < w.length
    · have e1 : i64w ((i : Int) + 1) = ((i + 1 : Nat) : Int) := i64w_id (by omega) (by omega)
      have hg : w.getD i 0 = w[i] := by simp [List.getD, c]
      have hL : LOf both ≤ 3 := by cases both <;> decide
      have hv' := hv
      rw [bd_step c] at hv'
      obtain ⟨t0, a1, a2⟩ := Om_at hv'
      have a2' : cs both w i mass t0 = some v := by unfold cs; rw [hg]; exact a2
      obtain ⟨S, s1, s2, s3⟩ := sides_of (N := N) both
      obtain ⟨t, t1, t2, t3, t4⟩ := sides_both (N := N) h s2 s3 r c hv (show p.length ≤ 16 by omega) a1 a2' N 0 (Nat.zero_le _) (by omega)
      have t2' := t2
      unfold cs at t2'
      rw [hg] at t2'
      obtain ⟨u, hu⟩ : ∃ u, bd (loOf both) (LOf both) w (i + 1) (mass - (loOf both + (t : Int)) * w[i]) = some u := by
        cases e : bd (loOf both) (LOf both) w (i + 1) (mass - (loOf both + (t : Int)) * w[i]) with
        | none => rw [e] at t2'; cases t2'
        | some u => exact ⟨u, rfl⟩
      rw [hu] at t2'
      have huv : u + sq (loOf both + (t : Int)) = v := Option.some.inj t2'
      obtain ⟨pf, f1, f2, f3⟩ := ih (i + 1) _ u (p ++ [loOf both + (t : Int)]) (by omega) (by omega) (by simp [hp]) hu
      refine ⟨pf, f1, ?_, fun xs r' Kf hK => ?_⟩
      · rw [rounds_next (s' := (mass - (loOf both + (t : Int)) * w[i] + 2000, p ++ [loOf both + (t : Int)], ((i + 1 : Nat) : Int)))]
        · exact f2
        · show spec_PlacingFor.b0 N w both X (mass + 2000) p (i : Int) = _
          unfold spec_PlacingFor.b0
          have t3' : rounds (fun s => spec_PlacingFor.b2 N (i : Int) w X s.1 s.2.1 s.2.2) N (mass + 2000, p, loOf both) = some (.go (mass - (loOf both + (t : Int)) * w[i] + 2000, p ++ [loOf both + (t : Int)])) := by rw [← Int.add_zero (loOf both)]; rw [Int.add_zero (loOf both)]; exact (by simpa using t3)
          rw [if_pos (by omega), least_of, Option.bind_some, t3', Option.bind_some]
          show spec_PlacingFor.a2 N (i : Int) _ _ = _
          unfold spec_PlacingFor.a2
          rw [e1]
      · show impl_PlacingFor.b0 N w both xs mass p (v : Int) (i : Int) _
        refine b0_impl s1 c h16 (t4 xs r' _ ?_)
        have e2 : (v : Int) - ((sq (loOf both + (t : Int)) : Nat) : Int) = (u : Int) := by omega
        rw [e2]
        show roundsD _ m (mass - (loOf both + (t : Int)) * w[i], p ++ [loOf both + (t : Int)], (u : Int), i64w ((i : Int) + 1)) Kf
        rw [e1]
        exact f3 xs r' Kf hK
    · have : i = w.length := by omega
      subst this
      refine ⟨p, by omega, rounds_out ?_, fun xs r' Kf hK => ?_⟩
      · show spec_PlacingFor.b0 N w both X (mass + 2000) p (w.length : Int) = _
        unfold spec_PlacingFor.b0
        rw [if_neg (by omega)]
      · show impl_PlacingFor.b0 N w both xs mass p (v : Int) (w.length : Int) _
        have e : ∀ Q, Q (.out (.go p)) → impl_PlacingFor.b0 N w both xs mass p (v : Int) (w.length : Int) Q := by
          intro Q hQ
          unfold impl_PlacingFor.b0
          rw [if_neg (by omega)]
          exact hQ
        exact e _ hK
end
theorem laws_FnExactPlacingFor.told (a0 : List (Int)) (h0 : ∀ x ∈ a0, IntKind.min .i16 ≤ x ∧ x ≤ IntKind.max .i16) (l0 : a0.length ≤ 9223372036854775807) (a1 : Int) (h1 : IntKind.min .i64 ≤ a1 ∧ a1 ≤ IntKind.max .i64) (a2 : Bool) : ∃ N, laws_FnExactPlacingFor.f N a0 a1 a2 (fun r => r = true) := by
  refine ⟨1152921504606846976, ?_⟩
  generalize hN : 1152921504606846976 = N
  unfold laws_FnExactPlacingFor.f
  by_cases hl : (a0.length : Int) > 1048576
  · rw [if_pos hl]
  · rw [if_neg hl]
    have hl' : a0.length ≤ 1048576 := by omega
    have hb : ∀ x ∈ a0, -32768 ≤ x ∧ x ≤ 32767 := h0
    have tg := toWeights_eq (N := N) hl' (by omega)
    have eg := eqWeights_same (N := N) hl' (by omega)
    have key : ∃ r8 : List Int × Int, spec_PlacingFor.f N a0 a1 a2 = some r8 ∧ r8.1.length ≤ 16 ∧ ∀ Q : List Int × Int → Prop, Q r8 → impl_PlacingFor.f N a0 a1 a2 Q := by
      unfold spec_PlacingFor.f impl_PlacingFor.f
      obtain ⟨c, c1, c2, c3⟩ := asked_both (N := N) hb a1 (by omega)
      rw [c1, Option.bind_some]
      by_cases hc : c = 0
      · obtain ⟨hw, m0, m1⟩ := c3 hc
        have h16 := hw.l16
        obtain ⟨X, x1, x2⟩ := table_eq (N := N) hw (by omega) a2
        have xl := x2.len
        have xr := x2.row 0 (Nat.zero_le _)
        have xr' : (rdL X 0 []).length = 4001 := xr
        obtain ⟨k, ek⟩ := Int.eq_ofNat_of_zero_le (show 0 ≤ 2000 + a1 by omega)
        have ew : i64w (2000 + a1) = 2000 + a1 := i64w_id (by omega) (by omega)
        have xv := x2.val 0 (Nat.zero_le _) k (by omega)
        have xf : Frw (loOf a2) (LOf a2) a0 0 0 k = bd (loOf a2) (LOf a2) a0 0 a1 := by
          unfold Frw bdn
          rw [if_pos (Nat.le_refl _)]
          congr 1
          omega
        rw [xf] at xv
        have xv' : rdL (rdL X 0 []) (2000 + a1) 0 = vi (bd (loOf a2) (LOf a2) a0 0 a1) := by rw [ek]; exact xv
        rw [if_pos hc, x1, Option.bind_some, if_pos ⟨by omega, by omega⟩, ew, if_pos ⟨by omega, by omega⟩, xv']
        cases e : bd (loOf a2) (LOf a2) a0 0 a1 with
        | none =>
          rw [if_pos (show vi none < 0 by decide)]
          refine ⟨_, rfl, by simp, fun Q hQ => ⟨c, c2, ?_⟩⟩
          rw [if_pos hc]
          refine balances_all (N := N) hw (by omega) a2 fun xs r => ?_
          have rl := r.len
          obtain ⟨kv, k1, k2⟩ := r.row 0 (Nat.le_refl _) (Nat.zero_le _)
          rw [if_pos ⟨by omega, by omega⟩, show (rdL xs 0 none).getD [] = kv by rw [show rdL xs 0 none = some kv from k1]; rfl, if_neg (k2.at_none e)]
          exact hQ
        | some v =>
          rw [if_neg (show ¬ vi (some v) < 0 by simp only [vi]; omega)]
          obtain ⟨pf, p1, p2, p3⟩ := place_both (N := N) hw (by omega) x2 N 0 a1 v [] (Nat.zero_le _) (by omega) rfl e
          have p2' : rounds (fun s => spec_PlacingFor.b0 N a0 a2 X s.1 s.2.1 s.2.2) N (2000 + a1, [], 0) = some (.go pf) := by rw [Int.add_comm]; exact p2
          rw [p2', Option.bind_some]
          refine ⟨(pf, 0), rfl, p1, fun Q hQ => ⟨c, c2, ?_⟩⟩
          rw [if_pos hc]
          refine balances_all (N := N) hw (by omega) a2 fun xs r => ?_
          have rl := r.len
          obtain ⟨kv, k1, k2⟩ := r.row 0 (Nat.le_refl _) (Nat.zero_le _)
          obtain ⟨q1, q2⟩ := k2.at_some e z_S_impl_balance
          rw [if_pos ⟨by omega, by omega⟩, show (rdL xs 0 none).getD [] = kv by rw [show rdL xs 0 none = some kv from k1]; rfl, if_pos q1, q2]
          exact p3 xs r (Ex.finD (fun s => impl_PlacingFor.a0 N s Q) Q) hQ
      · rw [if_neg hc]
        refine ⟨_, rfl, by simp, fun Q hQ => ⟨c, c2, ?_⟩⟩
        rw [if_neg hc]
        exact hQ
    obtain ⟨⟨l, d⟩, k1, k2, k3⟩ := key
    simp only at k2
    obtain ⟨l1, m1⟩ := markWeights_eq (N := N) (a := a0) (k := 1) (by omega) hl' (by omega)
    have es := eqPlacing_same (a := l) (N := N) (by omega) (by omega)
    have ms := markPlacing_eq (N := N) (a := l) (k := 1) (by omega) (by omega) (by omega)
    have hs := heldPlacing_eq (N := N) (n := l.length) (k := 1) (by omega) (by omega) (by omega)
    refine ⟨_, tg, _, k1, _, tg, k3 _ ⟨_, es, ?_⟩⟩
    rw [if_pos rfl, if_pos rfl]
    refine ⟨_, tg, _, eg, ?_⟩
    rw [if_pos (by simp)]
    refine ⟨_, m1, ?_⟩
    rw [if_neg (by simp only; omega)]
    refine ⟨_, es, ?_⟩
    rw [if_pos rfl, if_pos rfl]
    refine ⟨_, ms, _, hs, ?_⟩
    rw [if_neg (by omega), if_pos rfl]
    refine ⟨_, tg, k3 _ ⟨_, es, ?_⟩⟩
    rw [if_pos rfl, if_pos rfl]
    refine ⟨_, hs, ?_⟩
    rw [if_neg (by omega), if_pos rfl]
end Go.Proofs.YtekcbhgojjdcoaaX
