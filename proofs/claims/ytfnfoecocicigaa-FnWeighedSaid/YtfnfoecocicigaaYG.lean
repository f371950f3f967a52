/- Weights of up to 31 questions, Pascal's law, states that are valid, halves. -/
import Derived.Test.YtfnfoecocicigaaYF
namespace Go.Proofs.YtfnfoecocicigaaX
open Go
set_option linter.unusedVariables false
set_option linter.unusedSimpArgs false
theorem choose_tab2 : ∀ L : Nat, L < 4 → ∀ i : Nat, i < 4 → ∀ q : Nat, q < 32 → isGo (inS 0 L i q) (cI L i q) = true ∧ 0 ≤ cI L i q ∧ cI L i q ≤ 6000 := by decide +kernel
theorem pascal : ∀ L : Nat, L < 4 → ∀ i : Nat, i < 4 → ∀ q : Nat, q < 31 → i ≤ L → cI L i (q + 1) = cI L i q + cI L (i + 1) q := by decide +kernel
theorem at12 : ∀ L : Nat, L < 4 → ∀ i : Nat, i < 4 → cI L i 12 ≤ 400 := by decide +kernel
theorem choose_at2 {N L i q : Nat} (hN : 10 ≤ N) (hL : L ≤ 3) (hi : i ≤ 3) (hq : q ≤ 31) :
    rounds (fun s => impl_weight.b2 N (L : Int) (i : Int) (q : Int) s.1 s.2.1 s.2.2) N (1, 0, 0) = some (.go (cI L i q)) ∧ 0 ≤ cI L i q ∧ cI L i q ≤ 6000 := by
  obtain ⟨h1, h3⟩ := choose_tab2 L (by omega) i (by omega) q (by omega)
  refine ⟨?_, h3⟩
  have e := isGo_eq h1
  have e' : rounds (fun s => impl_weight.b2 N (L : Int) (i : Int) (q : Int) s.1 s.2.1 s.2.2) 10 (1, 0, 0) = some (.go (cI L i q)) := e
  exact rounds_mono e' hN
theorem mul_b2 {x : Nat} {c : Int} (hx : x ≤ 8) (h0 : 0 ≤ c) (h1 : c ≤ 6000) : 0 ≤ (x : Int) * c ∧ (x : Int) * c ≤ 48000 := by
  refine ⟨Int.mul_nonneg (by omega) h0, ?_⟩
  have := Int.mul_le_mul (show (x : Int) ≤ 8 by omega) h1 h0 (by omega)
  omega
theorem weight_impl2 {N L : Nat} (hN : 10 ≤ N) (hL : L ≤ 3) {x0 x1 x2 x3 q : Nat} (hx : x0 ≤ 8 ∧ x1 ≤ 8 ∧ x2 ≤ 8 ∧ x3 ≤ 8) (hq : q ≤ 31) : impl_weight.f N (L : Int) (SN x0 x1 x2 x3) (q : Int) = some (Wt L x0 x1 x2 x3 q) := by
  obtain ⟨a0, b0, d0⟩ := choose_at2 (N := N) (i := 0) hN hL (by omega) hq
  obtain ⟨a1, b1, d1⟩ := choose_at2 (N := N) (i := 1) hN hL (by omega) hq
  obtain ⟨a2, b2, d2⟩ := choose_at2 (N := N) (i := 2) hN hL (by omega) hq
  obtain ⟨a3, b3, d3⟩ := choose_at2 (N := N) (i := 3) hN hL (by omega) hq
  have m0 := mul_b2 hx.1 b0 d0
  have m1 := mul_b2 hx.2.1 b1 d1
  have m2 := mul_b2 hx.2.2.1 b2 d2
  have m3 := mul_b2 hx.2.2.2 b3 d3
  have st : ∀ (i : Nat) (x : Nat) (acc : Int), i < 4 → (SN x0 x1 x2 x3).get (i : Int) 0 = (x : Int) → rounds (fun s => impl_weight.b2 N (L : Int) (i : Int) (q : Int) s.1 s.2.1 s.2.2) N (1, 0, 0) = some (.go (cI L i q)) →
      impl_weight.b0 N (L : Int) (q : Int) (SN x0 x1 x2 x3) acc (i : Int) = some (.next (i64w (acc + i64w ((x : Int) * cI L i q)), ((i + 1 : Nat) : Int))) := by
    intro i x acc hi hg hr
    unfold impl_weight.b0
    rw [if_pos (by omega), if_pos ⟨by omega, by omega⟩, hr, Option.bind_some]
    show impl_weight.a2 N acc (SN x0 x1 x2 x3) (i : Int) (cI L i q) = _
    unfold impl_weight.a2
    rw [hg, idb (x := (i : Int) + 1) (by omega)]
    rfl
  have q0 := st 0 x0 0 (by omega) rfl a0
  have q1 := st 1 x1 (x0 * cI L 0 q) (by omega) rfl a1
  have q2 := st 2 x2 (x0 * cI L 0 q + x1 * cI L 1 q) (by omega) rfl a2
  have q3 := st 3 x3 (x0 * cI L 0 q + x1 * cI L 1 q + x2 * cI L 2 q) (by omega) rfl a3
  rw [idb (x := (x0 : Int) * cI L 0 q) (by omega), Int.zero_add, idb (x := (x0 : Int) * cI L 0 q) (by omega)] at q0
  rw [idb (x := (x1 : Int) * cI L 1 q) (by omega), idb (by omega)] at q1
  rw [idb (x := (x2 : Int) * cI L 2 q) (by omega), idb (by omega)] at q2
  rw [idb (x := (x3 : Int) * cI L 3 q) (by omega), idb (by omega)] at q3
  have q4 : impl_weight.b0 N (L : Int) (q : Int) (SN x0 x1 x2 x3) (Wt L x0 x1 x2 x3 q) 4 = some (.out (.go (Wt L x0 x1 x2 x3 q))) := by
    unfold impl_weight.b0
    rw [if_neg (by omega)]
  obtain ⟨N, rfl⟩ : ∃ M, N = M + 5 := ⟨N - 5, by omega⟩
  unfold impl_weight.f
  have r : rounds (fun s => impl_weight.b0 (N + 5) (L : Int) (q : Int) (SN x0 x1 x2 x3) s.1 s.2) (N + 5) (0, 0) = some (.go (Wt L x0 x1 x2 x3 q)) :=
    (rounds_next q0).trans ((rounds_next q1).trans ((rounds_next q2).trans ((rounds_next q3).trans (rounds_out q4))))
  rw [r]; rfl
theorem small {x : Q4} (h : tot x ≤ 8) : x.1 ≤ 8 ∧ x.2.1 ≤ 8 ∧ x.2.2.1 ≤ 8 ∧ x.2.2.2 ≤ 8 := by unfold tot at h; omega
abbrev WtQ (L : Nat) (x : Q4) (q : Nat) : Int := Wt L x.1 x.2.1 x.2.2.1 x.2.2.2 q
theorem wt_b {L : Nat} (hL : L ≤ 3) {x : Q4} (hx : tot x ≤ 8) {q : Nat} (hq : q ≤ 31) : 0 ≤ WtQ L x q ∧ WtQ L x q ≤ 200000 := by
  have g := small hx
  have t := fun i hi => (choose_tab2 L (by omega) i hi q (by omega)).2
  have m0 := mul_b2 g.1 (t 0 (by omega)).1 (t 0 (by omega)).2
  have m1 := mul_b2 g.2.1 (t 1 (by omega)).1 (t 1 (by omega)).2
  have m2 := mul_b2 g.2.2.1 (t 2 (by omega)).1 (t 2 (by omega)).2
  have m3 := mul_b2 g.2.2.2 (t 3 (by omega)).1 (t 3 (by omega)).2
  show 0 ≤ Wt L x.1 x.2.1 x.2.2.1 x.2.2.2 q ∧ Wt L x.1 x.2.1 x.2.2.1 x.2.2.2 q ≤ 200000
  unfold Wt
  omega
theorem cI_no {L i q : Nat} (h : L < i) : cI L i q = 0 := by unfold cI; rw [if_neg (by omega)]
/-- A question shares the weight out. -/
theorem shared {L : Nat} (hL : L ≤ 3) {x a : Q4} (hz : Zr L x) (ha : le4 a x) {q : Nat} (hq : q < 31) : WtQ L x (q + 1) = WtQ L (qY L x a) q + WtQ L (qN L x a) q := by
  obtain ⟨x0, x1, x2, x3⟩ := x
  obtain ⟨a0, a1, a2, a3⟩ := a
  obtain ⟨h0, h1, h2, h3⟩ := ha
  obtain ⟨z1, z2, z3⟩ := hz
  simp only at h0 h1 h2 h3 z1 z2 z3
  obtain ⟨d0, rfl⟩ : ∃ d, x0 = a0 + d := ⟨x0 - a0, by omega⟩
  obtain ⟨d1, rfl⟩ : ∃ d, x1 = a1 + d := ⟨x1 - a1, by omega⟩
  obtain ⟨d2, rfl⟩ : ∃ d, x2 = a2 + d := ⟨x2 - a2, by omega⟩
  obtain ⟨d3, rfl⟩ : ∃ d, x3 = a3 + d := ⟨x3 - a3, by omega⟩
  have p := fun i hi (hiL : i ≤ L) => pascal L (by omega) i hi q hq hiL
  have n := fun i (h : L < i) => cI_no (q := q) h
  have n' := fun i (h : L < i) => cI_no (q := q + 1) h
  match L, hL with
  | 0, _ =>
    have e1 := z1 (by omega); have e2 := z2 (by omega); have e3 := z3 (by omega)
    obtain ⟨rfl, rfl⟩ : a1 = 0 ∧ d1 = 0 := by omega
    obtain ⟨rfl, rfl⟩ : a2 = 0 ∧ d2 = 0 := by omega
    obtain ⟨rfl, rfl⟩ : a3 = 0 ∧ d3 = 0 := by omega
    simp only [WtQ, qY, qN, Wt, p 0 (by omega) (by omega), n 1 (by omega), n 2 (by omega), n 3 (by omega), n' 1 (by omega), n' 2 (by omega), n' 3 (by omega), Nat.zero_add, Nat.reduceAdd, Nat.add_sub_cancel_left, Int.natCast_add, Int.add_mul, Int.mul_add, Int.mul_zero]
    omega
  | 1, _ =>
    have e2 := z2 (by omega); have e3 := z3 (by omega)
    obtain ⟨rfl, rfl⟩ : a2 = 0 ∧ d2 = 0 := by omega
    obtain ⟨rfl, rfl⟩ : a3 = 0 ∧ d3 = 0 := by omega
    simp only [WtQ, qY, qN, Wt, p 0 (by omega) (by omega), p 1 (by omega) (by omega), n 2 (by omega), n 3 (by omega), n' 2 (by omega), n' 3 (by omega), Nat.zero_add, Nat.reduceAdd, Nat.add_sub_cancel_left, Int.natCast_add, Int.add_mul, Int.mul_add, Int.mul_zero]
    omega
  | 2, _ =>
    have e3 := z3 (by omega)
    obtain ⟨rfl, rfl⟩ : a3 = 0 ∧ d3 = 0 := by omega
    simp only [WtQ, qY, qN, Wt, p 0 (by omega) (by omega), p 1 (by omega) (by omega), p 2 (by omega) (by omega), n 3 (by omega), n' 3 (by omega), Nat.zero_add, Nat.reduceAdd, Nat.add_sub_cancel_left, Int.natCast_add, Int.add_mul, Int.mul_add, Int.mul_zero]
    omega
  | 3, _ =>
    simp only [WtQ, qY, qN, Wt, p 0 (by omega) (by omega), p 1 (by omega) (by omega), p 2 (by omega) (by omega), p 3 (by omega) (by omega), n 4 (by omega), Nat.zero_add, Nat.reduceAdd, Nat.add_sub_cancel_left, Int.natCast_add, Int.add_mul, Int.mul_add, Int.mul_zero]
    omega
theorem zr_split {L : Nat} (hL : L ≤ 3) (x a : Q4) : Zr L (qY L x a) ∧ Zr L (qN L x a) := by
  match L, hL with
  | 0, _ => exact ⟨⟨fun _ => rfl, fun _ => rfl, fun _ => rfl⟩, ⟨fun _ => rfl, fun _ => rfl, fun _ => rfl⟩⟩
  | 1, _ => exact ⟨⟨fun h => absurd h (by decide), fun _ => rfl, fun _ => rfl⟩, ⟨fun h => absurd h (by decide), fun _ => rfl, fun _ => rfl⟩⟩
  | 2, _ => exact ⟨⟨fun h => absurd h (by decide), fun h => absurd h (by decide), fun _ => rfl⟩, ⟨fun h => absurd h (by decide), fun h => absurd h (by decide), fun _ => rfl⟩⟩
  | 3, _ => exact ⟨⟨fun h => absurd h (by decide), fun h => absurd h (by decide), fun h => absurd h (by decide)⟩, ⟨fun h => absurd h (by decide), fun h => absurd h (by decide), fun h => absurd h (by decide)⟩⟩
theorem zr_get {L : Nat} {x : Q4} (h : Zr L x) {i : Nat} (hi : i < 4) (hl : L < i) : q4get x i = 0 := by
  match i, hi with
  | 0, _ => omega
  | 1, _ => exact h.1 hl
  | 2, _ => exact h.2.1 hl
  | 3, _ => exact h.2.2 hl
theorem pv_ok {L : Nat} {x : Q4} (hx : tot x ≤ 8) (hz : Zr L x) {i : Nat} (hi : i < 4) : pV (L : Int) (sq x) i := by
  have hxi : q4get x i ≤ 8 := by
    rw [tot_get] at hx
    match i, hi with
    | 0, _ => omega
    | 1, _ => omega
    | 2, _ => omega
    | 3, _ => omega
  refine ⟨by rw [sq_get hi]; omega, fun g => ?_⟩
  rw [sq_get hi, zr_get hz hi (by omega)]; rfl
theorem valid_true {N : Nat} (hN : 5 < N) {L : Nat} (hL : L ≤ 3) {x : Q4} (hx : tot x ≤ 8) (hz : Zr L x) : spec_l06Valid.f N (L : Int) (sq x) = some true ∧ impl_ValidState.f N (L : Int) (sq x) = some true := by
  unfold spec_l06Valid.f impl_ValidState.f
  rw [in_spec, in_impl, Option.bind_some, Option.bind_some, decide_eq_true (show 0 ≤ (L : Int) ∧ (L : Int) ≤ 3 by omega), if_pos rfl, if_pos rfl]
  have es : spec_l06Valid.b0 N (sq x) (L : Int) ((4 : Nat) : Int) = some (.out (.go ())) := by unfold spec_l06Valid.b0; rw [if_neg (by omega)]
  have ei : impl_ValidState.b0 N (sq x) (L : Int) ((4 : Nat) : Int) = some (.out (.go ())) := by unfold impl_ValidState.b0; rw [if_neg (by omega)]
  rcases rounds_alls (b := fun s => spec_l06Valid.b0 N (sq x) (L : Int) s) (p := pV (L : Int) (sq x)) (fun i hi => vb_spec hi) es (N := N) (by omega) with ⟨_, a2⟩ | ⟨a1, _⟩
  · rcases rounds_alls (b := fun s => impl_ValidState.b0 N (sq x) (L : Int) s) (p := pV (L : Int) (sq x)) (fun i hi => vb_impl hi) ei (N := N) (by omega) with ⟨_, b2⟩ | ⟨b1, _⟩
    · rw [a2, b2]
      constructor
      · show spec_l06Valid.a0 N (sq x) = _
        unfold spec_l06Valid.a0
        rw [show spec_l06Total.f N (sq x) = some ((tot x : Nat) : Int) from sum_spec N (by unfold tot at hx; omega), Option.bind_some, decide_eq_true (by omega)]
      · show impl_ValidState.a0 N (sq x) = _
        unfold impl_ValidState.a0
        rw [show _impl_State_sum.f N (sq x) = some ((tot x : Nat) : Int) from sum_impl N (by unfold tot at hx; omega), Option.bind_some, decide_eq_true (by omega)]
    · exact absurd (fun i hi => pv_ok hx hz hi) b1
  · exact absurd (fun i hi => pv_ok hx hz hi) a1
theorem ask_ok {N : Nat} (hN : 5 < N) {x a : Q4} (ha : le4 a x) : spec_l06Within.f N (sq a) (sq x) = some true ∧ impl_isAsk.f N (sq x) (sq a) = some true := by
  have hg : ∀ i : Nat, i < 4 → q4get a i ≤ q4get x i := fun i hi => by
    match i, hi with
    | 0, _ => exact ha.1
    | 1, _ => exact ha.2.1
    | 2, _ => exact ha.2.2.1
    | 3, _ => exact ha.2.2.2
  have s1 : ∀ (m i : Nat), i ≤ 4 → 4 - i < m → rounds (fun s => spec_l06Within.b0 N (sq a) (sq x) s) m (i : Int) = some (.go ()) := by
    intro m
    induction m with
    | zero => intro i _ h; exact absurd h (Nat.not_lt_zero _)
    | succ m ih =>
      intro i hi hm
      by_cases c : i < 4
      · have hb : spec_l06Within.b0 N (sq a) (sq x) (i : Int) = some (.next ((i + 1 : Nat) : Int)) := by
          have := hg i c
          unfold spec_l06Within.b0
          rw [if_pos (by omega), if_pos ⟨by omega, by omega⟩, if_pos ⟨by omega, by omega⟩, in_spec, Option.bind_some, sq_get c, sq_get c, decide_eq_true (by omega), if_pos rfl, idb (x := (i : Int) + 1) (by omega)]
          rfl
        exact (rounds_next (n := m) (b := fun s => spec_l06Within.b0 N (sq a) (sq x) s) (s := (i : Int)) hb).trans (ih (i + 1) (by omega) (by omega))
      · refine rounds_out ?_
        unfold spec_l06Within.b0
        rw [if_neg (by omega)]
  have s2 : ∀ (m i : Nat), i ≤ 4 → 4 - i < m → rounds (fun s => impl_isAsk.b0 N (sq a) (sq x) s) m (i : Int) = some (.go ()) := by
    intro m
    induction m with
    | zero => intro i _ h; exact absurd h (Nat.not_lt_zero _)
    | succ m ih =>
      intro i hi hm
      by_cases c : i < 4
      · have hb : impl_isAsk.b0 N (sq a) (sq x) (i : Int) = some (.next ((i + 1 : Nat) : Int)) := by
          have := hg i c
          unfold impl_isAsk.b0
          rw [if_pos (by omega), if_pos ⟨by omega, by omega⟩, if_pos ⟨by omega, by omega⟩, in_impl, Option.bind_some, sq_get c, sq_get c, decide_eq_true (by omega), if_pos rfl, idb (x := (i : Int) + 1) (by omega)]
          rfl
        exact (rounds_next (n := m) (b := fun s => impl_isAsk.b0 N (sq a) (sq x) s) (s := (i : Int)) hb).trans (ih (i + 1) (by omega) (by omega))
      · refine rounds_out ?_
        unfold impl_isAsk.b0
        rw [if_neg (by omega)]
  constructor
  · unfold spec_l06Within.f
    rw [show rounds (fun s => spec_l06Within.b0 N (sq a) (sq x) s) N (0 : Int) = _ from s1 N 0 (by omega) (by omega)]
    rfl
  · unfold impl_isAsk.f
    rw [show rounds (fun s => impl_isAsk.b0 N (sq a) (sq x) s) N (0 : Int) = _ from s2 N 0 (by omega) (by omega)]
    rfl
theorem split_ok {M : Nat} {L : Nat} (hL : L ≤ 3) {x a : Q4} (hx : tot x ≤ 8) (hz : Zr L x) (ha : le4 a x) :
    impl_SplitState.f (M + 6) (L : Int) (sq x) (sq a) = some (sq (qY L x a), sq (qN L x a), 0) ∧ spec_SplitState.f (M + 6) (L : Int) (sq x) (sq a) = some (sq (qY L x a), sq (qN L x a), 0) := by
  have v := valid_true (N := M + 6) (by omega) hL hx hz
  have k := ask_ok (N := M + 6) (by omega) ha
  have g := small hx
  constructor
  · unfold impl_SplitState.f
    rw [v.2, Option.bind_some, if_pos rfl, k.2, Option.bind_some, if_pos rfl, show _impl_State_split.f (M + 6) (sq x) (L : Int) (sq a) = _ from split_impl hL ⟨by omega, by omega, by omega, by omega⟩ ha.1 ha.2.1 ha.2.2.1 ha.2.2.2, Option.bind_some, qY_sq, qN_sq]
  · unfold spec_SplitState.f
    rw [v.1, Option.bind_some, if_pos rfl, k.1, Option.bind_some, if_pos rfl, show spec_l06Split.f (M + 6) (L : Int) (sq x) (sq a) = _ from split_spec hL ⟨by omega, by omega, by omega, by omega⟩ ha.1 ha.2.1 ha.2.2.1 ha.2.2.2, Option.bind_some, qY_sq, qN_sq]
theorem weightOf_ok {N : Nat} (hN : 10 ≤ N) {L : Nat} (hL : L ≤ 3) {x : Q4} (hx : tot x ≤ 8) (hz : Zr L x) {q : Nat} (hq : q ≤ 31) : impl_WeightOf.f N (L : Int) (sq x) (q : Int) = some (WtQ L x q, 0) := by
  unfold impl_WeightOf.f
  rw [(valid_true (by omega) hL hx hz).2, Option.bind_some, if_pos rfl, in_impl, Option.bind_some, decide_eq_true (by omega), if_pos rfl, show impl_weight.f N (L : Int) (sq x) (q : Int) = _ from weight_impl2 hN hL (small hx) hq, Option.bind_some]
/- halves -/
def half4 (x : Q4) : S4 := ((spec_l06Half.f 6 (sq x)).getD (Ar.rep 4 0))
def oddOf (h x : S4) : Option (Ex Bool Int) := rounds (fun s => laws_FnWeighed.b0 6 (h, 0) (0, x) s.1 s.2) 6 (0, 0)
def halfOk (x : Q4) : Bool := (match _impl_State_half.f 6 (sq x) with | some r => decide (r.l = (half4 x).l) | none => false) && (spec_l06Half.f 6 (sq x)).isSome && (match oddOf (half4 x) (sq x) with | some (.go v) => v == 0 || v == 1 | _ => false)
theorem half_tab : ∀ a : Nat, a < 9 → ∀ b : Nat, b < 9 - a → ∀ c : Nat, c < 9 - a - b → ∀ d : Nat, d < 9 - a - b - c → halfOk (a, b, c, d) = true := by decide +kernel
theorem half_ok {N : Nat} (hN : 6 ≤ N) {x : Q4} (hx : tot x ≤ 8) : _impl_State_half.f N (sq x) = some (half4 x) ∧ spec_l06Half.f N (sq x) = some (half4 x) ∧ ∀ (m c : Int), ∃ v, (v = 0 ∨ v = 1) ∧ rounds (fun s => laws_FnWeighed.b0 N (half4 x, m) (c, sq x) s.1 s.2) N (0, 0) = some (.go v) := by
  obtain ⟨a, b, c, d⟩ := x
  unfold tot at hx
  simp only at hx
  have h := half_tab a (by omega) b (by omega) c (by omega) d (by omega)
  unfold halfOk at h
  rw [Bool.and_eq_true, Bool.and_eq_true] at h
  obtain ⟨⟨h1, h2⟩, h3⟩ := h
  refine ⟨?_, ?_, ?_⟩
  · cases e : _impl_State_half.f 6 (sq (a, b, c, d)) with
    | none => rw [e] at h1; cases h1
    | some r =>
      rw [e] at h1
      have : r = half4 (a, b, c, d) := Ar.ext' (of_decide_eq_true h1)
      subst this
      unfold _impl_State_half.f at e ⊢
      obtain ⟨y, hy, hf⟩ := bind_get e
      rw [show (fun s : S4 × Bool × Int => _impl_State_half.b0 N (sq (a, b, c, d)) s.1 s.2.1 s.2.2) = (fun s => _impl_State_half.b0 6 (sq (a, b, c, d)) s.1 s.2.1 s.2.2) from rfl, rounds_mono hy hN]
      exact hf
  · cases e : spec_l06Half.f 6 (sq (a, b, c, d)) with
    | none => rw [e] at h2; cases h2
    | some r =>
      have e3 : half4 (a, b, c, d) = r := by unfold half4; rw [e]; rfl
      rw [e3]
      unfold spec_l06Half.f at e ⊢
      obtain ⟨y, hy, hf⟩ := bind_get e
      rw [show (fun s : S4 × Int × Int => spec_l06Half.b0 N (sq (a, b, c, d)) s.1 s.2.1 s.2.2) = (fun s => spec_l06Half.b0 6 (sq (a, b, c, d)) s.1 s.2.1 s.2.2) from rfl, rounds_mono hy hN]
      exact hf
  · intro m k
    cases e : oddOf (half4 (a, b, c, d)) (sq (a, b, c, d)) with
    | none => rw [e] at h3; cases h3
    | some r =>
      rw [e] at h3
      cases r with
      | ret _ => cases h3
      | go v =>
        refine ⟨v, ?_, ?_⟩
        · simpa using h3
        · have e' : rounds (fun s => laws_FnWeighed.b0 N (half4 (a, b, c, d), m) (k, sq (a, b, c, d)) s.1 s.2) 6 (0, 0) = some (.go v) := e
          exact rounds_mono e' hN
end Go.Proofs.YtfnfoecocicigaaX
