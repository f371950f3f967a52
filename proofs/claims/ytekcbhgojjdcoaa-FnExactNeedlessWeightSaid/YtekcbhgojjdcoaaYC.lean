/- The specification's table of how few weights balance each mass. -/
import Derived.Test.YtekcbhgojjdcoaaYB
namespace Go.Proofs.YtekcbhgojjdcoaaX
open Go
set_option linter.unusedVariables false
set_option linter.unusedSimpArgs false
theorem RepT.congr {n T : Nat} {L : List (List Int)} {F G : Tb} (r : RepT n T L F) (h : ∀ t k, t ≤ T → k < n → F t k = G t k) : RepT n T L G := ⟨r.len, r.row, fun t ht k hk => by rw [r.val t ht k hk, h t k ht hk]⟩
section
variable {w : List Int} {lo : Int} {L N : Nat}
def bdn (lo : Int) (L : Nat) (w : List Int) (t m : Nat) : Option Nat := bd lo L w t ((m : Int) - 2000)
def slot (lo : Int) (L : Nat) (w : List Int) (i k t : Nat) : Option Nat := plus (bd lo L w (i + 1) ((k : Int) - 2000 - (lo + (t : Int)) * w.getD i 0)) (sq (lo + (t : Int)))
def Fs (lo : Int) (L : Nat) (w : List Int) (i k j : Nat) : Tb := fun t m => if i < t then bdn lo L w t m else if t = i then (if m < k then bdn lo L w i m else if m = k then Om tt (slot lo L w i k) j else none) else none
def Frw (lo : Int) (L : Nat) (w : List Int) (i : Nat) : Tb := fun t m => if i ≤ t then bdn lo L w t m else none
theorem lo_le {j : Nat} (hs : Sd lo L) : (lo + (j : Int) ≤ 1 ↔ j < L) ∧ -1 ≤ lo ∧ lo ≤ 0 := by
  rcases hs with ⟨rfl, rfl⟩ | ⟨rfl, rfl⟩ <;> omega
theorem mul_range {s x : Int} (h1 : -1 ≤ s) (h2 : s ≤ 1) (hx : 1 ≤ x ∧ x ≤ 2000) : -2000 ≤ s * x ∧ s * x ≤ 2000 := by
  have : s = -1 ∨ s = 0 ∨ s = 1 := by omega
  rcases this with g | g | g <;> rw [g] <;> omega
theorem fs_next {i k j : Nat} : Fs lo L w i k (j + 1) = fun t m => if t = i ∧ m = k then om (Fs lo L w i k j t m) (slot lo L w i k j) else Fs lo L w i k j t m := by
  funext t m
  unfold Fs
  by_cases c : t = i ∧ m = k
  · obtain ⟨rfl, rfl⟩ := c
    simp only [Nat.lt_irrefl, if_false, if_true, and_self]
    rw [Om_step]
  · rw [if_neg c]
    by_cases c1 : i < t
    · rw [if_pos c1, if_pos c1]
    · rw [if_neg c1, if_neg c1]
      by_cases c2 : t = i
      · rw [if_pos c2, if_pos c2]
        by_cases c3 : m < k
        · rw [if_pos c3, if_pos c3]
        · rw [if_neg c3, if_neg c3, if_neg (fun e => c ⟨c2, e⟩), if_neg (fun e => c ⟨c2, e⟩)]
      · rw [if_neg c2, if_neg c2]
theorem tb_step (h : OkW w) (hs : Sd lo L) {i k j : Nat} (hi : i < w.length) (hk : k < 4001) (hj : j < L) {X : List (List Int)} (r : RepT 4001 w.length X (Fs lo L w i k j)) :
    ∃ X', spec_l01Fewest.b6 N (i : Int) w (k : Int) X (lo + (j : Int)) = some (.next (X', lo + ((j + 1 : Nat) : Int))) ∧ RepT 4001 w.length X' (Fs lo L w i k (j + 1)) := by
  obtain ⟨q1, q2, q3, q4⟩ := sq_le hs hj
  have hx := w_range h hi
  have hl16 := h.l16
  have hm := mul_range q3 q4 hx
  have hg : w.getD i 0 = w[i] := by simp [List.getD, hi]
  have hl := r.len
  have e1 : i64w (lo + (j : Int) + 1) = lo + ((j + 1 : Nat) : Int) := by rw [i64w_id (by omega) (by omega)]; omega
  have e2 : i64w w[i] = w[i] := i64w_id (by omega) (by omega)
  have e3 : i64w ((lo + (j : Int)) * w[i]) = (lo + (j : Int)) * w[i] := i64w_id (by omega) (by omega)
  have e4 : i64w ((k : Int) - (lo + (j : Int)) * w[i]) = (k : Int) - (lo + (j : Int)) * w[i] := i64w_id (by omega) (by omega)
  have e5 : i64w ((lo + (j : Int)) * (lo + (j : Int))) = ((sq (lo + (j : Int)) : Nat) : Int) := by rw [← q2]; exact i64w_id (by omega) (by omega)
  have e6 : i64w (4001 - 1) = 4000 := by decide
  have e7 : i64w ((i : Int) + 1) = ((i + 1 : Nat) : Int) := i64w_id (by omega) (by omega)
  have keep : slot lo L w i k j = none → RepT 4001 w.length X (Fs lo L w i k (j + 1)) := by
    intro g
    rw [fs_next]
    refine r.congr fun t m _ _ => ?_
    rw [g, om_none]
    split <;> rfl
  unfold spec_l01Fewest.b6 spec_l01Fewest.j8
  rw [if_pos ((lo_le hs).1.2 hj), if_pos ⟨by omega, by omega⟩, rdL_nat hi, e1, e2, e3, e4, e5, e6, e7]
  unfold spec_l00In.f
  have out : ¬ (0 ≤ (k : Int) - (lo + (j : Int)) * w[i] ∧ (k : Int) - (lo + (j : Int)) * w[i] ≤ 4000) → slot lo L w i k j = none := by
    intro g
    unfold slot
    rw [hg]
    cases e : bd lo L w (i + 1) ((k : Int) - 2000 - (lo + (j : Int)) * w[i]) with
    | none => rfl
    | some v =>
      have := bd_range h hs e
      omega
  by_cases c1 : (k : Int) - (lo + (j : Int)) * w[i] ≥ 0
  · rw [if_pos c1, Option.bind_some]
    by_cases c2 : (k : Int) - (lo + (j : Int)) * w[i] ≤ 4000
    · rw [if_pos (decide_eq_true c2)]
      obtain ⟨q, eq⟩ := Int.eq_ofNat_of_zero_le c1
      rw [eq]
      have hq : q < 4001 := by omega
      have r1 := r.row (i + 1) (by omega)
      have r2 := r.row i (by omega)
      have v1 := r.val (i + 1) (by omega) q hq
      have v2 := r.val i (by omega) k hk
      have f1 : Fs lo L w i k j (i + 1) q = bd lo L w (i + 1) ((k : Int) - 2000 - (lo + (j : Int)) * w[i]) := by
        unfold Fs bdn
        rw [if_pos (by omega)]
        congr 1
        omega
      have f2 : slot lo L w i k j = plus (Fs lo L w i k j (i + 1) q) (sq (lo + (j : Int))) := by unfold slot; rw [f1, hg]
      rw [if_pos ⟨by omega, by omega⟩, if_pos ⟨by omega, by omega⟩, v1, v2]
      cases e : Fs lo L w i k j (i + 1) q with
      | none =>
        rw [if_pos (show vi none < 0 by decide)]
        exact ⟨X, rfl, keep (by rw [f2, e]; rfl)⟩
      | some u =>
        have hu : u ≤ 16 := (bd_range h hs (f1.symm.trans e)).2.2
        have hsl : slot lo L w i k j = some (u + sq (lo + (j : Int))) := by rw [f2, e]; rfl
        have hc : i64w (vi (some u) + ((sq (lo + (j : Int)) : Nat) : Int)) = ((u + sq (lo + (j : Int)) : Nat) : Int) := by
          show i64w ((u : Int) + _) = _
          rw [← Int.natCast_add]
          exact i64w_id (by omega) (by omega)
        have setit : om (Fs lo L w i k j i k) (some (u + sq (lo + (j : Int)))) = some (u + sq (lo + (j : Int))) → RepT 4001 w.length (stL X (i : Int) (stL (rdL X (i : Int) []) (k : Int) ((u + sq (lo + (j : Int)) : Nat) : Int))) (Fs lo L w i k (j + 1)) := by
          intro g
          refine r.set (by omega) hk (o := some (u + sq (lo + (j : Int)))) rfl fun t m => ?_
          rw [fs_next]
          dsimp only
          by_cases c : t = i ∧ m = k
          · rw [if_pos c, if_pos c, hsl, c.1, c.2, g]
          · rw [if_neg c, if_neg c]
        rw [if_neg (show ¬ vi (some u) < 0 by simp only [vi]; omega), if_pos ⟨by omega, by omega⟩, if_pos ⟨by omega, by omega⟩, if_pos ⟨by omega, by omega⟩, if_pos ⟨by omega, by omega⟩, hc]
        cases e2 : Fs lo L w i k j i k with
        | none =>
          rw [if_pos (show vi none < 0 by decide), if_pos ⟨by omega, by omega⟩, if_pos ⟨by omega, by omega⟩]
          exact ⟨_, rfl, setit (by rw [e2]; rfl)⟩
        | some z =>
          rw [if_neg (show ¬ vi (some z) < 0 by simp only [vi]; omega), if_pos ⟨by omega, by omega⟩, if_pos ⟨by omega, by omega⟩]
          by_cases cl : ((u + sq (lo + (j : Int)) : Nat) : Int) < vi (some z)
          · rw [if_pos cl, if_pos ⟨by omega, by omega⟩, if_pos ⟨by omega, by omega⟩]
            refine ⟨_, rfl, setit ?_⟩
            rw [e2]
            simp only [vi] at cl
            show some (min z _) = _
            rw [Nat.min_eq_right (by omega)]
          · rw [if_neg cl]
            refine ⟨X, rfl, ?_⟩
            rw [fs_next]
            refine r.congr fun t m _ _ => ?_
            by_cases c : t = i ∧ m = k
            · rw [if_pos c, hsl, c.1, c.2, e2]
              simp only [vi] at cl
              show _ = some (min z _)
              rw [Nat.min_eq_left (by omega)]
            · rw [if_neg c]
    · rw [if_neg (by simpa using c2)]
      exact ⟨X, rfl, keep (out (fun g => c2 g.2))⟩
  · rw [if_neg c1, Option.bind_some, if_neg Bool.false_ne_true]
    exact ⟨X, rfl, keep (out (fun g => c1 g.1))⟩
theorem tb_sides (h : OkW w) (hs : Sd lo L) {i k : Nat} (hi : i < w.length) (hk : k < 4001) :
    ∀ (m j : Nat) (X : List (List Int)), j ≤ L → L - j < m → RepT 4001 w.length X (Fs lo L w i k j) →
    ∃ X', rounds (fun q => spec_l01Fewest.b6 N (i : Int) w (k : Int) q.1 q.2) m (X, lo + (j : Int)) = some (.go X') ∧ RepT 4001 w.length X' (Fs lo L w i k L) := by
  intro m
  induction m with
  | zero => intro j X _ hm; exact absurd hm (Nat.not_lt_zero _)
  | succ m ih =>
    intro j X hj hm r
    by_cases c : j < L
    · obtain ⟨X1, g1, g2⟩ := tb_step (N := N) h hs hi hk c r
      obtain ⟨X', f1, f2⟩ := ih (j + 1) X1 (by omega) (by omega) g2
      exact ⟨X', (rounds_next (b := fun q : List (List Int) × Int => spec_l01Fewest.b6 N (i : Int) w (k : Int) q.1 q.2) (s := (X, lo + (j : Int))) g1).trans f1, f2⟩
    · have : j = L := by omega
      subst this
      refine ⟨X, rounds_out ?_, r⟩
      show spec_l01Fewest.b6 N (i : Int) w (k : Int) X (lo + (j : Int)) = _
      unfold spec_l01Fewest.b6
      rw [if_neg (fun g => c ((lo_le hs).1.1 g))]
theorem fs_done {i k : Nat} (hi : i < w.length) (t m : Nat) : Fs lo L w i k L t m = Fs lo L w i (k + 1) 0 t m := by
  have hg : w.getD i 0 = w[i] := by simp [List.getD, hi]
  unfold Fs
  by_cases c1 : i < t
  · rw [if_pos c1, if_pos c1]
  · rw [if_neg c1, if_neg c1]
    by_cases c2 : t = i
    · rw [if_pos c2, if_pos c2]
      by_cases c3 : m < k
      · rw [if_pos c3, if_pos (by omega)]
      · rw [if_neg c3]
        by_cases c4 : m = k
        · rw [if_pos c4, if_pos (by omega), c4]
          unfold bdn
          rw [bd_step hi]
          unfold slot
          rw [hg]
        · rw [if_neg c4, if_neg (by omega)]
          split <;> rfl
    · rw [if_neg c2, if_neg c2]
/-- The lower end, as the specification tells it. -/
def loOf (both : Bool) : Int := if both = true then -1 else 0
def LOf (both : Bool) : Nat := if both = true then 3 else 2
theorem sdOf (both : Bool) : Sd (loOf both) (LOf both) := by cases both <;> simp [Sd, loOf, LOf]
theorem least_of (both : Bool) : spec_l01Least.f N both = some (loOf both) := by cases both <;> rfl
theorem tb_row (h : OkW w) (hN : 5000 < N) {both : Bool} {i : Nat} (hi : i < w.length) :
    ∀ (m k : Nat) (X : List (List Int)), k ≤ 4001 → 4001 - k < m → RepT 4001 w.length X (Fs (loOf both) (LOf both) w i k 0) →
    ∃ X', rounds (fun q => spec_l01Fewest.b4 N both (i : Int) w q.1 q.2) m (X, (k : Int)) = some (.go X') ∧ RepT 4001 w.length X' (Fs (loOf both) (LOf both) w i 4001 0) := by
  intro m
  induction m with
  | zero => intro k X _ hm; exact absurd hm (Nat.not_lt_zero _)
  | succ m ih =>
    intro k X hk hm r
    by_cases c : k < 4001
    · have e1 : i64w ((k : Int) + 1) = ((k + 1 : Nat) : Int) := i64w_id (by omega) (by omega)
      obtain ⟨X1, g1, g2⟩ := tb_sides (N := N) h (sdOf both) hi c N 0 X (Nat.zero_le _) (by have : LOf both ≤ 3 := by { cases both <;> decide }; omega) r
      have s1 : spec_l01Fewest.b4 N both (i : Int) w X (k : Int) = some (.next (X1, ((k + 1 : Nat) : Int))) := by
        unfold spec_l01Fewest.b4
        have g1' : rounds (fun s => spec_l01Fewest.b6 N (i : Int) w (k : Int) s.1 s.2) N (X, loOf both) = some (.go X1) := by rw [← Int.add_zero (loOf both)]; exact g1
        rw [if_pos (by omega), least_of, Option.bind_some, g1', Option.bind_some]
        show spec_l01Fewest.a6 N (k : Int) X1 = _
        unfold spec_l01Fewest.a6
        rw [e1]
      obtain ⟨X', f1, f2⟩ := ih (k + 1) X1 (by omega) (by omega) (g2.congr fun t m _ _ => fs_done hi t m)
      exact ⟨X', (rounds_next (b := fun q : List (List Int) × Int => spec_l01Fewest.b4 N both (i : Int) w q.1 q.2) (s := (X, (k : Int))) s1).trans f1, f2⟩
    · have : k = 4001 := by omega
      subst this
      refine ⟨X, rounds_out ?_, r⟩
      show spec_l01Fewest.b4 N both (i : Int) w X ((4001 : Nat) : Int) = _
      unfold spec_l01Fewest.b4
      rw [if_neg (by omega)]
theorem tb_rows (h : OkW w) (hN : 5000 < N) {both : Bool} :
    ∀ (i m : Nat) (X : List (List Int)), i ≤ w.length → i < m → RepT 4001 w.length X (Frw (loOf both) (LOf both) w i) →
    ∃ X', rounds (fun q => spec_l01Fewest.b2 N both w q.1 q.2) m (X, (i : Int) - 1) = some (.go X') ∧ RepT 4001 w.length X' (Frw (loOf both) (LOf both) w 0) := by
  have h16 := h.l16
  intro i
  induction i with
  | zero =>
    intro m X _ hm r
    obtain ⟨m, rfl⟩ : ∃ j, m = j + 1 := ⟨m - 1, by omega⟩
    refine ⟨X, rounds_out ?_, r⟩
    show spec_l01Fewest.b2 N both w X (((0 : Nat) : Int) - 1) = _
    unfold spec_l01Fewest.b2
    rw [if_neg (by omega)]
  | succ i ih =>
    intro m X hi hm r
    obtain ⟨m, rfl⟩ : ∃ j, m = j + 1 := ⟨m - 1, by omega⟩
    have e0 : ((i + 1 : Nat) : Int) - 1 = (i : Int) := by omega
    have e1 : i64w ((i : Int) - 1) = (i : Int) - 1 := i64w_id (by omega) (by omega)
    obtain ⟨X1, g1, g2⟩ := tb_row (N := N) (both := both) h hN (show i < w.length by omega) N 0 X (Nat.zero_le _) (by omega) (r.congr fun t m _ _ => by
      unfold Frw Fs
      by_cases c : i < t
      · rw [if_pos (by omega), if_pos c]
      · rw [if_neg (by omega), if_neg c]
        by_cases c2 : t = i
        · rw [if_pos c2, if_neg (Nat.not_lt_zero _)]
          split <;> rfl
        · rw [if_neg c2])
    have s1 : spec_l01Fewest.b2 N both w X (i : Int) = some (.next (X1, (i : Int) - 1)) := by
      unfold spec_l01Fewest.b2
      rw [if_pos (by omega), show rounds (fun s => spec_l01Fewest.b4 N both (i : Int) w s.1 s.2) N (X, 0) = _ from g1, Option.bind_some]
      show spec_l01Fewest.a4 N (i : Int) X1 = _
      unfold spec_l01Fewest.a4
      rw [e1]
    obtain ⟨X', f1, f2⟩ := ih m X1 (by omega) (by omega) (g2.congr fun t m _ hm4 => by
      unfold Frw Fs
      by_cases c : i < t
      · rw [if_pos c, if_pos (by omega)]
      · rw [if_neg c]
        by_cases c2 : t = i
        · rw [if_pos c2, if_pos hm4, if_pos (by omega), c2]
        · rw [if_neg c2, if_neg (by omega)])
    rw [e0]
    exact ⟨X', (rounds_next (b := fun q : List (List Int) × Int => spec_l01Fewest.b2 N both w q.1 q.2) (s := (X, (i : Int))) s1).trans f1, f2⟩
theorem tb_fill {T : Nat} {t : Nat} (ht : t ≤ T) : ∀ (m k : Nat) (X : List (List Int)), k ≤ 4001 → 4001 - k < m → X.length = T + 1 → (rdL X (t : Int) []).length = 4001 → (∀ j : Nat, j < k → rdL (rdL X (t : Int) []) (j : Int) 0 = -1) →
    ∃ X', rounds (fun q => spec_l01Fewest.b9 N (t : Int) q.1 q.2) m (X, (k : Int)) = some (.go X') ∧ X'.length = T + 1 ∧ (rdL X' (t : Int) []).length = 4001 ∧ (∀ j : Nat, j < 4001 → rdL (rdL X' (t : Int) []) (j : Int) 0 = -1) ∧ ∀ t2 : Nat, ¬ t2 = t → rdL X' (t2 : Int) [] = rdL X (t2 : Int) [] := by
  intro m
  induction m with
  | zero => intro k X _ hm; exact absurd hm (Nat.not_lt_zero _)
  | succ m ih =>
    intro k X hk hm hl hr hv
    by_cases c : k < 4001
    · have e1 : i64w ((k : Int) + 1) = ((k + 1 : Nat) : Int) := i64w_id (by omega) (by omega)
      have s1 : spec_l01Fewest.b9 N (t : Int) X (k : Int) = some (.next (stL X (t : Int) (stL (rdL X (t : Int) []) (k : Int) (-1)), ((k + 1 : Nat) : Int))) := by
        unfold spec_l01Fewest.b9
        rw [if_pos (by omega), if_pos ⟨by omega, by omega⟩, if_pos ⟨by omega, by omega⟩, e1]
      obtain ⟨X', f1, f2, f3, f4, f5⟩ := ih (k + 1) (stL X (t : Int) (stL (rdL X (t : Int) []) (k : Int) (-1))) (by omega) (by omega) (by rw [len_stL]; exact hl) (by rw [rdL_stL, if_pos ⟨rfl, by omega⟩, len_stL]; exact hr) (fun j hj => by
        rw [rdL_stL, if_pos ⟨rfl, by omega⟩, rdL_stL]
        by_cases e : k = j
        · rw [if_pos ⟨e, by omega⟩]
        · rw [if_neg (fun g => e g.1)]; exact hv j (by omega))
      refine ⟨X', (rounds_next (b := fun q : List (List Int) × Int => spec_l01Fewest.b9 N (t : Int) q.1 q.2) (s := (X, (k : Int))) s1).trans f1, f2, f3, f4, fun t2 h2 => ?_⟩
      rw [f5 t2 h2, rdL_stL, if_neg (fun g => h2 g.1.symm)]
    · have : k = 4001 := by omega
      subst this
      refine ⟨X, rounds_out ?_, hl, hr, hv, fun _ _ => rfl⟩
      show spec_l01Fewest.b9 N (t : Int) X ((4001 : Nat) : Int) = _
      unfold spec_l01Fewest.b9
      rw [if_neg (by omega)]
theorem tb_make (h : w.length ≤ 16) (hN : 5000 < N) : ∀ (m t : Nat) (X : List (List Int)), t ≤ w.length + 1 → w.length + 1 - t < m → X.length = w.length + 1 → (∀ t2 : Nat, t2 < t → (rdL X (t2 : Int) []).length = 4001 ∧ ∀ j : Nat, j < 4001 → rdL (rdL X (t2 : Int) []) (j : Int) 0 = -1) →
    ∃ X', rounds (fun q => spec_l01Fewest.b0 N w q.1 q.2) m (X, (t : Int)) = some (.go X') ∧ RepT 4001 w.length X' (fun _ _ => none) := by
  intro m
  induction m with
  | zero => intro t X _ hm; exact absurd hm (Nat.not_lt_zero _)
  | succ m ih =>
    intro t X ht hm hl hv
    by_cases c : t ≤ w.length
    · have e1 : i64w ((t : Int) + 1) = ((t + 1 : Nat) : Int) := i64w_id (by omega) (by omega)
      obtain ⟨X1, g1, g2, g3, g4, g5⟩ := tb_fill (N := N) c N 0 (stL X (t : Int) (List.replicate 4001 0)) (Nat.zero_le _) (by omega) (by rw [len_stL]; exact hl) (by rw [rdL_stL, if_pos ⟨rfl, by omega⟩, List.length_replicate]) (fun j hj => absurd hj (Nat.not_lt_zero _))
      have s1 : spec_l01Fewest.b0 N w X (t : Int) = some (.next (X1, ((t + 1 : Nat) : Int))) := by
        unfold spec_l01Fewest.b0
        rw [if_pos (by omega), if_pos ⟨by decide, by decide⟩, if_pos ⟨by omega, by omega⟩, show rounds (fun s => spec_l01Fewest.b9 N (t : Int) s.1 s.2) N (stL X (t : Int) (List.replicate (4001 : Int).toNat 0), 0) = _ from g1, Option.bind_some]
        show spec_l01Fewest.a9 N (t : Int) X1 = _
        unfold spec_l01Fewest.a9
        rw [e1]
      obtain ⟨X', f1, f2⟩ := ih (t + 1) X1 (by omega) (by omega) g2 (fun t2 h2 => by
        by_cases e : t2 = t
        · subst e; exact ⟨g3, g4⟩
        · rw [g5 t2 e, rdL_stL, if_neg (fun g => e g.1.symm)]; exact hv t2 (by omega))
      exact ⟨X', (rounds_next (b := fun q : List (List Int) × Int => spec_l01Fewest.b0 N w q.1 q.2) (s := (X, (t : Int))) s1).trans f1, f2⟩
    · have : t = w.length + 1 := by omega
      subst this
      refine ⟨X, rounds_out ?_, hl, fun t2 h2 => (hv t2 (by omega)).1, fun t2 h2 k2 g2 => (hv t2 (by omega)).2 k2 g2⟩
      show spec_l01Fewest.b0 N w X ((w.length + 1 : Nat) : Int) = _
      unfold spec_l01Fewest.b0
      rw [if_neg (by omega)]
/-- The specification's table. -/
theorem table_eq (h : OkW w) (hN : 5000 < N) (both : Bool) : ∃ X, spec_l01Fewest.f N w both = some X ∧ RepT 4001 w.length X (Frw (loOf both) (LOf both) w 0) := by
  have h16 := h.l16
  have e1 : i64w ((w.length : Int) + 1) = ((w.length + 1 : Nat) : Int) := i64w_id (by omega) (by omega)
  have e2 : i64w ((w.length : Int) - 1) = (w.length : Int) - 1 := i64w_id (by omega) (by omega)
  obtain ⟨X0, g1, g2⟩ := tb_make (N := N) h16 hN N 0 (List.replicate (w.length + 1) []) (Nat.zero_le _) (by omega) (by simp) (fun t2 h2 => absurd h2 (Nat.not_lt_zero _))
  have r0 := g2.row w.length (Nat.le_refl _)
  have l0 := g2.len
  have r1 := g2.set (Nat.le_refl w.length) (show 2000 < 4001 by decide) (o := some 0) (x := 0) rfl (F' := fun t2 k2 => if t2 = w.length ∧ k2 = 2000 then some 0 else none) fun t2 k2 => rfl
  have r2 : RepT 4001 w.length _ (Frw (loOf both) (LOf both) w w.length) := r1.congr fun t m ht _ => by
    unfold Frw bdn
    by_cases c : w.length ≤ t
    · have : t = w.length := by omega
      subst this
      rw [if_pos c, bd_last]
      by_cases c2 : m = 2000
      · rw [if_pos ⟨rfl, c2⟩, if_pos (by omega)]
      · rw [if_neg (fun g => c2 g.2), if_neg (by omega)]
    · rw [if_neg c, if_neg (fun g => c (by omega))]
  obtain ⟨X', f1, f2⟩ := tb_rows (N := N) (both := both) h hN w.length N _ (Nat.le_refl _) (by omega) r2
  refine ⟨X', ?_, f2⟩
  unfold spec_l01Fewest.f
  rw [e1, if_pos ⟨by omega, by omega⟩, Int.toNat_natCast, show rounds (fun s => spec_l01Fewest.b0 N w s.1 s.2) N (List.replicate (w.length + 1) [], 0) = _ from g1, Option.bind_some]
  show spec_l01Fewest.a0 N w both X0 = _
  unfold spec_l01Fewest.a0
  rw [if_pos ⟨by omega, by omega⟩, if_pos ⟨by decide, by omega⟩, e2, show rounds (fun s => spec_l01Fewest.b2 N both w s.1 s.2) N (stL X0 (w.length : Int) (stL (rdL X0 (w.length : Int) []) 2000 0), (w.length : Int) - 1) = _ from f1]
  rfl
end
end Go.Proofs.YtekcbhgojjdcoaaX
