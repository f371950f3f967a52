/- Weights, the asks in their order, and what can be found. -/
import Derived.Test.YtfnfoecocicigaaYA
namespace Go.Proofs.YtfnfoecocicigaaX
open Go
set_option linter.unusedVariables false
set_option linter.unusedSimpArgs false
/-- The ways to choose up to m of q; none for m below nought. -/
def cI (L i q : Nat) : Int := if i ≤ L then ((spec_l06Choose.f 10 (q : Int) ((L : Int) - (i : Int))).getD 0) else 0
def inS (N : Nat) (L i q : Int) : Option (Ex Int Int) := rounds (fun s => impl_weight.b2 N L i q s.1 s.2.1 s.2.2) 10 (1, 0, 0)
def isGo (o : Option (Ex Int Int)) (v : Int) : Bool := match o with | some (.go x) => x == v | _ => false
theorem isGo_eq {o : Option (Ex Int Int)} {v : Int} (h : isGo o v = true) : o = some (.go v) := by
  unfold isGo at h
  split at h
  · rename_i x
    rw [beq_iff_eq] at h
    rw [h]
  · cases h
theorem choose_tab : ∀ L : Nat, L < 4 → ∀ i : Nat, i < 4 → ∀ q : Nat, q < 21 → isGo (inS 0 L i q) (cI L i q) = true ∧ (i ≤ L → spec_l06Choose.f 10 (q : Int) ((L : Int) - (i : Int)) = some (cI L i q)) ∧ 0 ≤ cI L i q ∧ cI L i q ≤ 2000 := by decide +kernel
theorem choose_at {N L i q : Nat} (hN : 10 ≤ N) (hL : L ≤ 3) (hi : i ≤ 3) (hq : q ≤ 20) :
    rounds (fun s => impl_weight.b2 N (L : Int) (i : Int) (q : Int) s.1 s.2.1 s.2.2) N (1, 0, 0) = some (.go (cI L i q)) ∧ (i ≤ L → spec_l06Choose.f N (q : Int) ((L : Int) - (i : Int)) = some (cI L i q)) ∧ 0 ≤ cI L i q ∧ cI L i q ≤ 2000 := by
  obtain ⟨h1, h2, h3⟩ := choose_tab L (by omega) i (by omega) q (by omega)
  refine ⟨?_, ?_, h3⟩
  · have e := isGo_eq h1
    have e' : rounds (fun s => impl_weight.b2 N (L : Int) (i : Int) (q : Int) s.1 s.2.1 s.2.2) 10 (1, 0, 0) = some (.go (cI L i q)) := e
    exact rounds_mono e' hN
  · intro hiL
    have e := h2 hiL
    unfold spec_l06Choose.f at e ⊢
    obtain ⟨x, hx, hf⟩ := bind_get e
    rw [show (fun s : Int × Int × Int => spec_l06Choose.b0 N ((L : Int) - (i : Int)) (q : Int) s.1 s.2.1 s.2.2) = (fun s => spec_l06Choose.b0 10 ((L : Int) - (i : Int)) (q : Int) s.1 s.2.1 s.2.2) from rfl, rounds_mono hx hN]
    exact hf
/-- The weight of a state. -/
def Wt (L : Nat) (x0 x1 x2 x3 : Nat) (q : Nat) : Int := x0 * cI L 0 q + x1 * cI L 1 q + x2 * cI L 2 q + x3 * cI L 3 q
theorem mul_b {x : Nat} {c : Int} (hx : x ≤ 8) (h0 : 0 ≤ c) (h1 : c ≤ 2000) : 0 ≤ (x : Int) * c ∧ (x : Int) * c ≤ 16000 := by
  refine ⟨Int.mul_nonneg (by omega) h0, ?_⟩
  have := Int.mul_le_mul (show (x : Int) ≤ 8 by omega) h1 h0 (by omega)
  omega
theorem idb {x : Int} (h : -1000000 ≤ x ∧ x ≤ 1000000) : i64w x = x := i64w_id (by omega) (by omega)
theorem weight_impl {N L : Nat} (hN : 10 ≤ N) (hL : L ≤ 3) {x0 x1 x2 x3 q : Nat} (hx : x0 ≤ 8 ∧ x1 ≤ 8 ∧ x2 ≤ 8 ∧ x3 ≤ 8) (hq : q ≤ 20) : impl_weight.f N (L : Int) (SN x0 x1 x2 x3) (q : Int) = some (Wt L x0 x1 x2 x3 q) := by
  obtain ⟨a0, _, b0, d0⟩ := choose_at (N := N) (i := 0) hN hL (by omega) hq
  obtain ⟨a1, _, b1, d1⟩ := choose_at (N := N) (i := 1) hN hL (by omega) hq
  obtain ⟨a2, _, b2, d2⟩ := choose_at (N := N) (i := 2) hN hL (by omega) hq
  obtain ⟨a3, _, b3, d3⟩ := choose_at (N := N) (i := 3) hN hL (by omega) hq
  have m0 := mul_b hx.1 b0 d0
  have m1 := mul_b hx.2.1 b1 d1
  have m2 := mul_b hx.2.2.1 b2 d2
  have m3 := mul_b hx.2.2.2 b3 d3
  have st : ∀ (i : Nat) (x : Nat) (acc : Int), i < 4 → (SN x0 x1 x2 x3).get (i : Int) 0 = (x : Int) → rounds (fun s => impl_weight.b2 N (L : Int) (i : Int) (q : Int) s.1 s.2.1 s.2.2) N (1, 0, 0) = some (.go (cI L i q)) →
      impl_weight.b0 N (L : Int) (q : Int) (SN x0 x1 x2 x3) acc (i : Int) = some (.next (i64w (acc + i64w ((x : Int) * cI L i q)), ((i + 1 : Nat) : Int))) := by
    intro i x acc hi hg hr
    unfold impl_weight.b0
    rw [if_pos (by omega), if_pos ⟨by omega, by omega⟩, hr, Option.bind_some]
    show impl_weight.a2 N acc (SN x0 x1 x2 x3) (i : Int) (cI L i q) = _
    unfold impl_weight.a2
    rw [hg, idb (x := (i : Int) + 1) (by omega)]
    rfl
  have q0 := st 0 x0 0 (by omega) rfl a0
  have q1 := st 1 x1 (x0 * cI L 0 q) (by omega) rfl a1
  have q2 := st 2 x2 (x0 * cI L 0 q + x1 * cI L 1 q) (by omega) rfl a2
  have q3 := st 3 x3 (x0 * cI L 0 q + x1 * cI L 1 q + x2 * cI L 2 q) (by omega) rfl a3
  rw [idb (x := (x0 : Int) * cI L 0 q) (by omega), Int.zero_add, idb (x := (x0 : Int) * cI L 0 q) (by omega)] at q0
  rw [idb (x := (x1 : Int) * cI L 1 q) (by omega), idb (by omega)] at q1
  rw [idb (x := (x2 : Int) * cI L 2 q) (by omega), idb (by omega)] at q2
  rw [idb (x := (x3 : Int) * cI L 3 q) (by omega), idb (by omega)] at q3
  have q4 : impl_weight.b0 N (L : Int) (q : Int) (SN x0 x1 x2 x3) (Wt L x0 x1 x2 x3 q) 4 = some (.out (.go (Wt L x0 x1 x2 x3 q))) := by
    unfold impl_weight.b0
    rw [if_neg (by omega)]
  obtain ⟨N, rfl⟩ : ∃ M, N = M + 5 := ⟨N - 5, by omega⟩
  unfold impl_weight.f
  have r : rounds (fun s => impl_weight.b0 (N + 5) (L : Int) (q : Int) (SN x0 x1 x2 x3) s.1 s.2) (N + 5) (0, 0) = some (.go (Wt L x0 x1 x2 x3 q)) :=
    (rounds_next q0).trans ((rounds_next q1).trans ((rounds_next q2).trans ((rounds_next q3).trans (rounds_out q4))))
  rw [r]; rfl
theorem weight_spec {N L : Nat} (hN : 10 ≤ N) (hL : L ≤ 3) {x0 x1 x2 x3 q : Nat} (hx : x0 ≤ 8 ∧ x1 ≤ 8 ∧ x2 ≤ 8 ∧ x3 ≤ 8) (hq : q ≤ 20) : spec_l06Weight.f N (L : Int) (SN x0 x1 x2 x3) (q : Int) = some (Wt L x0 x1 x2 x3 q) := by
  obtain ⟨_, a0, b0, d0⟩ := choose_at (N := N) (i := 0) hN hL (by omega) hq
  obtain ⟨_, a1, b1, d1⟩ := choose_at (N := N) (i := 1) hN hL (by omega) hq
  obtain ⟨_, a2, b2, d2⟩ := choose_at (N := N) (i := 2) hN hL (by omega) hq
  obtain ⟨_, a3, b3, d3⟩ := choose_at (N := N) (i := 3) hN hL (by omega) hq
  have m0 := mul_b hx.1 b0 d0
  have m1 := mul_b hx.2.1 b1 d1
  have m2 := mul_b hx.2.2.1 b2 d2
  have m3 := mul_b hx.2.2.2 b3 d3
  have st : ∀ (i : Nat) (x : Nat) (acc : Int), i < 4 → i ≤ L → (SN x0 x1 x2 x3).get (i : Int) 0 = (x : Int) → (i ≤ L → spec_l06Choose.f N (q : Int) ((L : Int) - (i : Int)) = some (cI L i q)) →
      spec_l06Weight.b0 N (L : Int) (q : Int) (SN x0 x1 x2 x3) acc (i : Int) = some (.next (i64w (acc + i64w ((x : Int) * cI L i q)), ((i + 1 : Nat) : Int))) := by
    intro i x acc hi hiL hg hr
    unfold spec_l06Weight.b0
    rw [if_pos (by omega), if_pos ⟨by omega, by omega⟩, idb (x := (L : Int) - i) (by omega), hr hiL, Option.bind_some, hg, idb (x := (i : Int) + 1) (by omega)]
    rfl
  have fi : ∀ (i : Nat) (acc : Int), L < i → spec_l06Weight.b0 N (L : Int) (q : Int) (SN x0 x1 x2 x3) acc (i : Int) = some (.out (.go acc)) := by
    intro i acc h
    unfold spec_l06Weight.b0
    rw [if_neg (by omega)]
  have z : ∀ i : Nat, L < i → cI L i q = 0 := fun i h => by unfold cI; rw [if_neg (by omega)]
  have q0 := st 0 x0 0 (by omega) (by omega) rfl a0
  rw [idb (x := (x0 : Int) * cI L 0 q) (by omega), Int.zero_add, idb (x := (x0 : Int) * cI L 0 q) (by omega)] at q0
  obtain ⟨N, rfl⟩ : ∃ M, N = M + 5 := ⟨N - 5, by omega⟩
  unfold spec_l06Weight.f
  have r : rounds (fun s => spec_l06Weight.b0 (N + 5) (L : Int) (q : Int) (SN x0 x1 x2 x3) s.1 s.2) (N + 5) (0, 0) = some (.go (Wt L x0 x1 x2 x3 q)) := by
    refine (rounds_next q0).trans ?_
    by_cases h1 : L < 1
    · have e : Wt L x0 x1 x2 x3 q = x0 * cI L 0 q := by unfold Wt; rw [z 1 h1, z 2 (by omega), z 3 (by omega)]; omega
      rw [e]
      exact rounds_out (fi 1 _ h1)
    · have q1 := st 1 x1 (x0 * cI L 0 q) (by omega) (by omega) rfl a1
      rw [idb (x := (x1 : Int) * cI L 1 q) (by omega), idb (by omega)] at q1
      refine (rounds_next q1).trans ?_
      by_cases h2 : L < 2
      · have e : Wt L x0 x1 x2 x3 q = x0 * cI L 0 q + x1 * cI L 1 q := by unfold Wt; rw [z 2 h2, z 3 (by omega)]; omega
        rw [e]
        exact rounds_out (fi 2 _ h2)
      · have q2 := st 2 x2 (x0 * cI L 0 q + x1 * cI L 1 q) (by omega) (by omega) rfl a2
        rw [idb (x := (x2 : Int) * cI L 2 q) (by omega), idb (by omega)] at q2
        refine (rounds_next q2).trans ?_
        by_cases h3 : L < 3
        · have e : Wt L x0 x1 x2 x3 q = x0 * cI L 0 q + x1 * cI L 1 q + x2 * cI L 2 q := by unfold Wt; rw [z 3 h3]; omega
          rw [e]
          exact rounds_out (fi 3 _ h3)
        · have q3 := st 3 x3 (x0 * cI L 0 q + x1 * cI L 1 q + x2 * cI L 2 q) (by omega) (by omega) rfl a3
          rw [idb (x := (x3 : Int) * cI L 3 q) (by omega), idb (by omega)] at q3
          refine (rounds_next q3).trans ?_
          exact rounds_out (fi 4 _ (by omega))
  rw [r]; rfl
theorem pow_tab : ∀ q : Nat, q < 21 → shlI .i64 1 (q : Int) = (2 : Int) ^ q ∧ shlI .i64 1 (u64w (q : Int)) = (2 : Int) ^ q ∧ 0 ≤ u64w (q : Int) := by decide +kernel
/- the asks in their order -/
def rg (lo hi : Nat) : List Nat := List.range' lo (hi + 1 - lo)
theorem rg_cons {lo hi : Nat} (h : lo ≤ hi) : rg lo hi = lo :: rg (lo + 1) hi := by
  unfold rg
  rw [show hi + 1 - lo = (hi + 1 - (lo + 1)) + 1 by omega, List.range'_succ]
theorem rg_nil {lo hi : Nat} (h : hi < lo) : rg lo hi = [] := by
  unfold rg
  rw [show hi + 1 - lo = 0 by omega]; rfl
abbrev Q4 := Nat × Nat × Nat × Nat
def tl3 (x3 a0 a1 a2 lo : Nat) : List Q4 := (rg lo x3).map fun a3 => (a0, a1, a2, a3)
def tl2 (x2 x3 a0 a1 lo : Nat) : List Q4 := (rg lo x2).flatMap fun a2 => tl3 x3 a0 a1 a2 0
def tl1 (x1 x2 x3 a0 lo : Nat) : List Q4 := (rg lo x1).flatMap fun a1 => tl2 x2 x3 a0 a1 0
def tl0 (x0 x1 x2 x3 lo : Nat) : List Q4 := (rg lo x0).flatMap fun a0 => tl1 x1 x2 x3 a0 0
theorem tl3_cons {x3 a0 a1 a2 lo : Nat} (h : lo ≤ x3) : tl3 x3 a0 a1 a2 lo = (a0, a1, a2, lo) :: tl3 x3 a0 a1 a2 (lo + 1) := by unfold tl3; rw [rg_cons h]; rfl
theorem tl3_nil {x3 a0 a1 a2 lo : Nat} (h : x3 < lo) : tl3 x3 a0 a1 a2 lo = [] := by unfold tl3; rw [rg_nil h]; rfl
theorem tl2_cons {x2 x3 a0 a1 lo : Nat} (h : lo ≤ x2) : tl2 x2 x3 a0 a1 lo = tl3 x3 a0 a1 lo 0 ++ tl2 x2 x3 a0 a1 (lo + 1) := by unfold tl2; rw [rg_cons h, List.flatMap_cons]
theorem tl2_nil {x2 x3 a0 a1 lo : Nat} (h : x2 < lo) : tl2 x2 x3 a0 a1 lo = [] := by unfold tl2; rw [rg_nil h]; rfl
theorem tl1_cons {x1 x2 x3 a0 lo : Nat} (h : lo ≤ x1) : tl1 x1 x2 x3 a0 lo = tl2 x2 x3 a0 lo 0 ++ tl1 x1 x2 x3 a0 (lo + 1) := by unfold tl1; rw [rg_cons h, List.flatMap_cons]
theorem tl1_nil {x1 x2 x3 a0 lo : Nat} (h : x1 < lo) : tl1 x1 x2 x3 a0 lo = [] := by unfold tl1; rw [rg_nil h]; rfl
theorem tl0_cons {x0 x1 x2 x3 lo : Nat} (h : lo ≤ x0) : tl0 x0 x1 x2 x3 lo = tl1 x1 x2 x3 lo 0 ++ tl0 x0 x1 x2 x3 (lo + 1) := by unfold tl0; rw [rg_cons h, List.flatMap_cons]
theorem tl0_nil {x0 x1 x2 x3 lo : Nat} (h : x0 < lo) : tl0 x0 x1 x2 x3 lo = [] := by unfold tl0; rw [rg_nil h]; rfl
theorem flat_len {α : Type} {f : Nat → List α} {c : Nat} (h : ∀ a, (f a).length ≤ c) : ∀ l : List Nat, (l.flatMap f).length ≤ l.length * c
  | [] => by simp
  | a :: l => by
    rw [List.flatMap_cons, List.length_append, List.length_cons, Nat.add_mul, Nat.one_mul]
    have := h a
    have := flat_len h l
    omega
theorem rg_len {lo hi : Nat} (h : hi ≤ 8) : (rg lo hi).length ≤ 9 := by unfold rg; rw [List.length_range']; omega
theorem tl3_len {x3 : Nat} (h : x3 ≤ 8) (a0 a1 a2 lo : Nat) : (tl3 x3 a0 a1 a2 lo).length ≤ 9 := by unfold tl3; rw [List.length_map]; exact rg_len h
theorem tl2_len {x2 x3 : Nat} (h2 : x2 ≤ 8) (h3 : x3 ≤ 8) (a0 a1 lo : Nat) : (tl2 x2 x3 a0 a1 lo).length ≤ 81 := by
  have := flat_len (f := fun a2 => tl3 x3 a0 a1 a2 0) (fun a => tl3_len h3 a0 a1 a 0) (rg lo x2)
  have := rg_len (lo := lo) h2
  unfold tl2
  omega
theorem tl1_len {x1 x2 x3 : Nat} (h1 : x1 ≤ 8) (h2 : x2 ≤ 8) (h3 : x3 ≤ 8) (a0 lo : Nat) : (tl1 x1 x2 x3 a0 lo).length ≤ 729 := by
  have := flat_len (f := fun a1 => tl2 x2 x3 a0 a1 0) (fun a => tl2_len h2 h3 a0 a 0) (rg lo x1)
  have := rg_len (lo := lo) h1
  unfold tl1
  omega
theorem tl0_len {x0 x1 x2 x3 : Nat} (h0 : x0 ≤ 8) (h1 : x1 ≤ 8) (h2 : x2 ≤ 8) (h3 : x3 ≤ 8) (lo : Nat) : (tl0 x0 x1 x2 x3 lo).length ≤ 6561 := by
  have := flat_len (f := fun a0 => tl1 x1 x2 x3 a0 0) (fun a => tl1_len h1 h2 h3 a 0) (rg lo x0)
  have := rg_len (lo := lo) h0
  unfold tl0
  omega
/-- The states behind the answers, by their numbers. -/
def qY (L : Nat) (x a : Q4) : Q4 := match L with
  | 0 => (a.1, 0, 0, 0)
  | 1 => (a.1, a.2.1 + (x.1 - a.1), 0, 0)
  | 2 => (a.1, a.2.1 + (x.1 - a.1), a.2.2.1 + (x.2.1 - a.2.1), 0)
  | _ => (a.1, a.2.1 + (x.1 - a.1), a.2.2.1 + (x.2.1 - a.2.1), a.2.2.2 + (x.2.2.1 - a.2.2.1))
def qN (L : Nat) (x a : Q4) : Q4 := match L with
  | 0 => (x.1 - a.1, 0, 0, 0)
  | 1 => (x.1 - a.1, x.2.1 - a.2.1 + a.1, 0, 0)
  | 2 => (x.1 - a.1, x.2.1 - a.2.1 + a.1, x.2.2.1 - a.2.2.1 + a.2.1, 0)
  | _ => (x.1 - a.1, x.2.1 - a.2.1 + a.1, x.2.2.1 - a.2.2.1 + a.2.1, x.2.2.2 - a.2.2.2 + a.2.2.1)
def sq (x : Q4) : S4 := SN x.1 x.2.1 x.2.2.1 x.2.2.2
def tot (x : Q4) : Nat := x.1 + x.2.1 + x.2.2.1 + x.2.2.2
def le4 (a x : Q4) : Prop := a.1 ≤ x.1 ∧ a.2.1 ≤ x.2.1 ∧ a.2.2.1 ≤ x.2.2.1 ∧ a.2.2.2 ≤ x.2.2.2
theorem qY_sq {L : Nat} (x a : Q4) : spY L x.1 x.2.1 x.2.2.1 x.2.2.2 a.1 a.2.1 a.2.2.1 a.2.2.2 = sq (qY L x a) := by
  match L with
  | 0 => rfl
  | 1 => rfl
  | 2 => rfl
  | n + 3 => rfl
theorem qN_sq {L : Nat} (x a : Q4) : spN L x.1 x.2.1 x.2.2.1 x.2.2.2 a.1 a.2.1 a.2.2.1 a.2.2.2 = sq (qN L x a) := by
  match L with
  | 0 => rfl
  | 1 => rfl
  | 2 => rfl
  | n + 3 => rfl
theorem tot_le {L : Nat} {x a : Q4} (h : le4 a x) : tot (qY L x a) ≤ tot x ∧ tot (qN L x a) ≤ tot x := by
  obtain ⟨h0, h1, h2, h3⟩ := h
  unfold tot qY qN
  split <;> (simp only; omega)
def asks (x : Q4) : List Q4 := tl0 x.1 x.2.1 x.2.2.1 x.2.2.2 0
/-- Whether so many questions can find the number. -/
def canV (L : Nat) : Nat → Q4 → Bool
  | 0, x => decide (tot x ≤ 1)
  | q + 1, x => if tot x ≤ 1 then true else if Wt L x.1 x.2.1 x.2.2.1 x.2.2.2 (q + 1) > (2 : Int) ^ (q + 1) then false else ((asks x).find? fun a => canV L q (qY L x a) && canV L q (qN L x a)).isSome
def good (L q : Nat) (x a : Q4) : Bool := canV L q (qY L x a) && canV L q (qN L x a)
end Go.Proofs.YtfnfoecocicigaaX
