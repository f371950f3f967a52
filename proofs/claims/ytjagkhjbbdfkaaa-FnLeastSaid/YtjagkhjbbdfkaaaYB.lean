/- How few weights balance a mass. -/
import Derived.Test.YtjagkhjbbdfkaaaYA
namespace Go.Proofs.YtjagkhjbbdfkaaaX
open Go
set_option linter.unusedVariables false
set_option linter.unusedSimpArgs false
theorem Om_at {c : Nat → Option Nat} : ∀ {m v : Nat}, Om tt c m = some v → ∃ t, t < m ∧ c t = some v
  | 0, _, h => by cases h
  | m + 1, v, h => by
    rw [Om_step] at h
    cases e1 : Om tt c m with
    | none =>
      rw [e1] at h
      exact ⟨m, by omega, h⟩
    | some u =>
      rw [e1] at h
      cases e2 : c m with
      | none =>
        rw [e2, om_none] at h
        obtain ⟨t, ht, hc⟩ := Om_at (e1.trans h)
        exact ⟨t, by omega, hc⟩
      | some w =>
        rw [e2] at h
        have h' : min u w = v := Option.some.inj h
        by_cases g : u ≤ w
        · rw [Nat.min_eq_left g] at h'
          subst h'
          obtain ⟨t, ht, hc⟩ := Om_at e1
          exact ⟨t, by omega, hc⟩
        · rw [Nat.min_eq_right (by omega)] at h'
          subst h'
          exact ⟨m, by omega, e2⟩
theorem Om_one {c d : Nat → Option Nat} {j : Nat} (hj : c j = none) (h : ∀ t, ¬ t = j → d t = c t) : ∀ m, Om tt d m = om (Om tt c m) (if j < m then d j else none)
  | 0 => by simp [Om, om]
  | m + 1 => by
    rw [Om_step, Om_step, Om_one hj h m]
    by_cases e : m = j
    · subst e
      rw [if_neg (Nat.lt_irrefl _), if_pos (Nat.lt_succ_self _), hj, om_none]
    · rw [h m e]
      by_cases c1 : j < m
      · rw [if_pos c1, if_pos (show j < m + 1 by omega), om_assoc, om_assoc, om_comm (d j)]
      · rw [if_neg c1, if_neg (show ¬ j < m + 1 by omega), om_none, om_none]
/-- Where a weight can be: from lo on, so many. -/
def Sd (lo : Int) (L : Nat) : Prop := (lo = -1 ∧ L = 3) ∨ (lo = 0 ∧ L = 2)
def sq (s : Int) : Nat := (s * s).toNat
theorem sq_le {lo : Int} {L t : Nat} (h : Sd lo L) (ht : t < L) : sq (lo + (t : Int)) ≤ 1 ∧ ((sq (lo + (t : Int)) : Nat) : Int) = (lo + (t : Int)) * (lo + (t : Int)) ∧ -1 ≤ lo + (t : Int) ∧ lo + (t : Int) ≤ 1 := by
  rcases h with ⟨rfl, rfl⟩ | ⟨rfl, rfl⟩
  · have : t = 0 ∨ t = 1 ∨ t = 2 := by omega
    rcases this with rfl | rfl | rfl <;> decide
  · have : t = 0 ∨ t = 1 := by omega
    rcases this with rfl | rfl <;> decide
def plus (o : Option Nat) (u : Nat) : Option Nat := match o with
  | some v => some (v + u)
  | none => none
/-- How few weights balance a mass. -/
def bal (lo : Int) (L : Nat) : List Int → Int → Option Nat
  | [], m => if m = 0 then some 0 else none
  | x :: ws, m => Om tt (fun t => plus (bal lo L ws (m - (lo + (t : Int)) * x)) (sq (lo + (t : Int)))) L
/-- Weights that are valid. -/
structure OkW (w : List Int) : Prop where
  l1 : 1 ≤ w.length
  l16 : w.length ≤ 16
  pos : ∀ x ∈ w, 1 ≤ x
  sum : w.sum ≤ 2000
theorem bal_range {lo : Int} {L : Nat} (h : Sd lo L) : ∀ {ws : List Int} {m : Int} {v : Nat}, (∀ x ∈ ws, 1 ≤ x) → bal lo L ws m = some v → -ws.sum ≤ m ∧ m ≤ ws.sum ∧ v ≤ ws.length
  | [], m, v, _, hv => by
    unfold bal at hv
    split at hv
    · cases hv; rename_i e; subst e; simp
    · cases hv
  | x :: ws, m, v, hp, hv => by
    unfold bal at hv
    obtain ⟨t, ht, hc⟩ := Om_at hv
    obtain ⟨s1, s2, s3, s4⟩ := sq_le h ht
    have hx := hp x List.mem_cons_self
    cases e : bal lo L ws (m - (lo + (t : Int)) * x) with
    | none => rw [e] at hc; cases hc
    | some u =>
      rw [e] at hc
      have hu := bal_range h (fun y hy => hp y (List.mem_cons_of_mem _ hy)) e
      have hv' : u + sq (lo + (t : Int)) = v := Option.some.inj hc
      have hmul : -x ≤ (lo + (t : Int)) * x ∧ (lo + (t : Int)) * x ≤ x := by
        have : lo + (t : Int) = -1 ∨ lo + (t : Int) = 0 ∨ lo + (t : Int) = 1 := by omega
        rcases this with g | g | g <;> rw [g] <;> omega
      simp only [List.sum_cons, List.length_cons]
      omega
theorem sum_drop {w : List Int} (h : ∀ x ∈ w, 1 ≤ x) : ∀ i, (w.drop i).sum ≤ w.sum := by
  induction w with
  | nil => intro i; simp
  | cons x ws ih =>
    intro i
    have hx := h x List.mem_cons_self
    cases i with
    | zero => exact Int.le_refl _
    | succ i =>
      have := ih (fun y hy => h y (List.mem_cons_of_mem _ hy)) i
      simp only [List.drop_succ_cons, List.sum_cons]
      omega
section
variable {w : List Int} {lo : Int} {L : Nat}
/-- The weights from i on. -/
def bd (lo : Int) (L : Nat) (w : List Int) (i : Nat) (m : Int) : Option Nat := bal lo L (w.drop i) m
theorem bd_range (h : OkW w) (hs : Sd lo L) {i : Nat} {m : Int} {v : Nat} (hv : bd lo L w i m = some v) : -2000 ≤ m ∧ m ≤ 2000 ∧ v ≤ 16 := by
  have h1 := bal_range hs (fun x hx => h.pos x (List.mem_of_mem_drop hx)) hv
  have h2 := sum_drop h.pos i
  have h3 := h.sum
  have h4 := h.l16
  have h5 : (w.drop i).length ≤ w.length := by simp
  omega
theorem drop_at {i : Nat} (hi : i < w.length) : w.drop i = w[i] :: w.drop (i + 1) := List.drop_eq_getElem_cons hi
theorem bd_step {i : Nat} (hi : i < w.length) (m : Int) : bd lo L w i m = Om tt (fun t => plus (bd lo L w (i + 1) (m - (lo + (t : Int)) * w[i])) (sq (lo + (t : Int)))) L := by
  unfold bd
  rw [drop_at hi]
  rfl
theorem bd_last (m : Int) : bd lo L w w.length m = if m = 0 then some 0 else none := by
  unfold bd
  rw [List.drop_length]
  rfl
theorem w_range (h : OkW w) {i : Nat} (hi : i < w.length) : 1 ≤ w[i] ∧ w[i] ≤ 2000 := by
  have h1 := h.pos _ (List.getElem_mem hi)
  have h2 := sum_drop h.pos i
  rw [drop_at hi, List.sum_cons] at h2
  have h3 := h.sum
  have h4 : ∀ l : List Int, (∀ x ∈ l, 1 ≤ x) → 0 ≤ l.sum := by
    intro l
    induction l with
    | nil => intro _; simp
    | cons x l ih => intro g; have := ih (fun y hy => g y (List.mem_cons_of_mem _ hy)); have := g x List.mem_cons_self; simp only [List.sum_cons]; omega
  have h5 := h4 (w.drop (i + 1)) (fun x hx => h.pos x (List.mem_of_mem_drop hx))
  omega
end
end Go.Proofs.YtjagkhjbbdfkaaaX
