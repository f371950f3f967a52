/- The specification's table of the fewest turns. -/
import Derived.Test.YtioefkcldfjobaaYR
namespace Go.Proofs.YtioefkcldfjobaaX
open Go
set_option linter.unusedVariables false
set_option linter.unusedSimpArgs false
/-- A number that may be none, as the table has it. -/
def vi : Option Nat → Int
  | none => -1
  | some v => (v : Int)
theorem rdL_stL {α : Type} {L : List α} {i j : Nat} {v z : α} : rdL (stL L (i : Int) v) (j : Int) z = if i = j ∧ i < L.length then v else rdL L (j : Int) z := by
  simp only [rdL, stL, Int.toNat_natCast, List.getD, List.getElem?_set]
  by_cases e : i = j
  · subst e
    by_cases c : i < L.length
    · simp [c]
    · simp [c]
  · simp [e]
theorem len_stL {α : Type} {L : List α} {i : Int} {v : α} : (stL L i v).length = L.length := by simp [stL]
/-- A table that tells F. -/
structure RepT (n T : Nat) (L : List (List Int)) (F : Tb) : Prop where
  len : L.length = T + 1
  row : ∀ t : Nat, t ≤ T → (rdL L (t : Int) []).length = n
  val : ∀ t : Nat, t ≤ T → ∀ k : Nat, k < n → rdL (rdL L (t : Int) []) (k : Int) 0 = vi (F t k)
theorem RepT.set {n T : Nat} {L : List (List Int)} {F F' : Tb} (r : RepT n T L F) {t k : Nat} (ht : t ≤ T) (hk : k < n) {x : Int} {o : Option Nat} (hx : x = vi o) (hF : ∀ t2 k2, F' t2 k2 = if t2 = t ∧ k2 = k then o else F t2 k2) :
    RepT n T (stL L (t : Int) (stL (rdL L (t : Int) []) (k : Int) x)) F' := by
  have hl := r.len
  refine ⟨by rw [len_stL]; exact hl, fun t2 h2 => ?_, fun t2 h2 k2 g2 => ?_⟩
  · rw [rdL_stL]
    by_cases e : t = t2
    · rw [if_pos ⟨e, by omega⟩, len_stL]; exact r.row t ht
    · rw [if_neg (fun g => e g.1)]; exact r.row t2 h2
  · rw [rdL_stL, hF]
    by_cases e : t = t2
    · subst e
      rw [if_pos ⟨rfl, by omega⟩, rdL_stL, r.row t ht]
      by_cases e2 : k = k2
      · subst e2
        rw [if_pos ⟨rfl, hk⟩, if_pos ⟨rfl, rfl⟩, hx]
      · rw [if_neg (fun g => e2 g.1), if_neg (fun g => e2 g.2.symm)]
        exact r.val t ht k2 g2
    · rw [if_neg (fun g => e g.1), if_neg (fun g => e g.1.symm)]
      exact r.val t2 h2 k2 g2
section
variable {a : List Int} {n T N : Nat}
theorem tb_step (h : Se a n T) (hN : 10 < N) {t k s v : Nat} (ht : t ≤ T) (hk : k < n) (hs : s < 2 ^ a.length) {L : List (List Int)} {F : Tb} (r : RepT n T L F) (hv : F t k = some v) (hlow : v ≤ 4 * t) :
    ∃ L', spec_l07Table.b7 N a (atT a (k : Int)) (t : Int) (T : Int) (k : Int) L (s : Int) = some (.next (L', ((s + 1 : Nat) : Int))) ∧ RepT n T L' (stp1 N a T F (Mk a t k) v s) := by
  have hp := pow_le h.gl.len
  have hT := h.t
  have hm := Mk_ok h ht hk
  obtain ⟨q, h1, _, h3, _, h5, h6, h7⟩ := nxt_ok (N := N) (s := s) h.gl hm.2 (by omega) (by omega)
  have e1 : i64w ((s : Int) + 1) = ((s + 1 : Nat) : Int) := i64w_id (by omega) (by omega)
  have hw : i64w ((t : Int) + (nxt N a (Mk a t k).f_tops s).2) = (t : Int) + (nxt N a (Mk a t k).f_tops s).2 := i64w_id (by omega) (by omega)
  unfold spec_l07Table.b7
  rw [sets_eq h.gl.len, Option.bind_some, if_pos (by rw [pow_cast]; omega), u8w_id (x := (s : Int)) (by omega) (by omega)]
  rw [show spec_l07Turn.f N a (atT a (k : Int)) (s : Int) = some q from h1, Option.bind_some, h3, Option.bind_some]
  unfold stp1 suc spec_l07Table.j9
  rw [e1]
  have hft : (Mk a t k).f_time = (t : Int) := rfl
  by_cases c0 : (nxt N a (Mk a t k).f_tops s).2 = 0
  · rw [if_pos c0, if_neg (show ¬ (nxt N a (Mk a t k).f_tops s).2 > 0 by omega)]
    exact ⟨L, rfl, r⟩
  · rw [if_neg c0, if_pos (show (nxt N a (Mk a t k).f_tops s).2 > 0 by omega), hw, hft]
    by_cases c1 : (t : Int) + (nxt N a (Mk a t k).f_tops s).2 > (T : Int)
    · rw [if_pos c1, if_neg (show ¬ (t : Int) + (nxt N a (Mk a t k).f_tops s).2 ≤ (T : Int) by omega)]
      exact ⟨L, rfl, r⟩
    · rw [if_neg c1, if_pos (show (t : Int) + (nxt N a (Mk a t k).f_tops s).2 ≤ (T : Int) by omega), index_eq h.gl.ok h.gl.len h.gl.few h5 (by omega), Option.bind_some]
      have hy : okM a (T : Int) (⟨(t : Int) + (nxt N a (Mk a t k).f_tops s).2, (nxt N a (Mk a t k).f_tops s).1⟩ : Mo) := ⟨⟨by show (0 : Int) ≤ _ + _; omega, by show _ + _ ≤ (T : Int); omega⟩, h5⟩
      obtain ⟨y1, y2, _⟩ := Mk_of h hy
      have f1 : (t : Int) + (nxt N a (Mk a t k).f_tops s).2 = ((tOf ⟨(t : Int) + (nxt N a (Mk a t k).f_tops s).2, (nxt N a (Mk a t k).f_tops s).1⟩ : Nat) : Int) := by unfold tOf; simp only; omega
      have f2 : hor a (nxt N a (Mk a t k).f_tops s).1.l = ((kOf a ⟨(t : Int) + (nxt N a (Mk a t k).f_tops s).2, (nxt N a (Mk a t k).f_tops s).1⟩ : Nat) : Int) := by
        have := (hor_range h.gl.ok (fits_in h.gl.len h5)).1
        unfold kOf; simp only; omega
      generalize (⟨(t : Int) + (nxt N a (Mk a t k).f_tops s).2, (nxt N a (Mk a t k).f_tops s).1⟩ : Mo) = y at hy y1 y2 f1 f2 ⊢
      rw [f1, f2]
      have hl := r.len
      have r1 := r.row t ht
      have r2 := r.row (tOf y) y1
      have v1 := r.val t ht k hk
      have v2 := r.val (tOf y) y1 (kOf a y) y2
      have hpc := (pc_all s (by omega)).2.2
      rw [if_pos ⟨by omega, by omega⟩, if_pos ⟨by omega, by omega⟩, turns_pc (by omega) (by omega), Option.bind_some, if_pos ⟨by omega, by omega⟩, if_pos ⟨by omega, by omega⟩, v1, v2, hv]
      have hc : i64w (vi (some v) + ((pc s : Nat) : Int)) = ((v + pc s : Nat) : Int) := by
        show i64w ((v : Int) + ((pc s : Nat) : Int)) = _
        rw [← Int.natCast_add]
        exact i64w_id (by omega) (by omega)
      rw [hc]
      cases e : F (tOf y) (kOf a y) with
      | none =>
        rw [if_pos (show vi none < 0 by decide), if_pos ⟨by omega, by omega⟩, if_pos ⟨by omega, by omega⟩]
        refine ⟨_, rfl, r.set y1 y2 (o := some (v + pc s)) rfl fun t2 k2 => ?_⟩
        dsimp only
        by_cases c : t2 = tOf y ∧ k2 = kOf a y
        · rw [if_pos c, if_pos c, c.1, c.2, e]; rfl
        · rw [if_neg c, if_neg c]
      | some u =>
        rw [if_neg (show ¬ vi (some u) < 0 by simp only [vi]; omega), if_pos ⟨by omega, by omega⟩, if_pos ⟨by omega, by omega⟩]
        by_cases cl : ((v + pc s : Nat) : Int) < vi (some u)
        · rw [if_pos cl, if_pos ⟨by omega, by omega⟩, if_pos ⟨by omega, by omega⟩]
          refine ⟨_, rfl, r.set y1 y2 (o := some (v + pc s)) rfl fun t2 k2 => ?_⟩
          dsimp only
          by_cases c : t2 = tOf y ∧ k2 = kOf a y
          · rw [if_pos c, if_pos c, c.1, c.2, e]
            simp only [vi] at cl
            show some (min u (v + pc s)) = some (v + pc s)
            rw [Nat.min_eq_right (by omega)]
          · rw [if_neg c, if_neg c]
        · rw [if_neg cl]
          refine ⟨L, rfl, r.len, r.row, fun t2 h2 k2 g2 => ?_⟩
          rw [r.val t2 h2 k2 g2]
          dsimp only
          by_cases c : t2 = tOf y ∧ k2 = kOf a y
          · rw [if_pos c, c.1, c.2, e]
            simp only [vi] at cl
            show vi (some u) = vi (some (min u (v + pc s)))
            rw [Nat.min_eq_left (by omega)]
          · rw [if_neg c]
theorem tb_sets (h : Se a n T) (hN : 20 < N) {t k v : Nat} (ht : t ≤ T) (hk : k < n) {F : Tb} (hv : F t k = some v) (hlow : v ≤ 4 * t) :
    ∀ (m s : Nat) (L : List (List Int)), s ≤ 2 ^ a.length → 2 ^ a.length - s < m → RepT n T L (stpS N a T F (Mk a t k) v s) →
    ∃ L', rounds (fun q => spec_l07Table.b7 N a (atT a (k : Int)) (t : Int) (T : Int) (k : Int) q.1 q.2) m (L, (s : Int)) = some (.go L') ∧ RepT n T L' (stpS N a T F (Mk a t k) v (2 ^ a.length)) := by
  intro m
  induction m with
  | zero => intro s L _ hm; exact absurd hm (Nat.not_lt_zero _)
  | succ m ih =>
    intro s L hs hm r
    by_cases c : s < 2 ^ a.length
    · have hv' : stpS N a T F (Mk a t k) v s t k = some v := by
        unfold stpS
        rw [cd_later (Nat.le_refl t), om_none, hv]
      obtain ⟨L1, g1, g2⟩ := tb_step (N := N) h (by omega) ht hk c r hv' hlow
      rw [stpS_step] at g2
      obtain ⟨L', f1, f2⟩ := ih (s + 1) L1 (by omega) (by omega) g2
      exact ⟨L', (rounds_next (b := fun q : List (List Int) × Int => spec_l07Table.b7 N a (atT a (k : Int)) (t : Int) (T : Int) (k : Int) q.1 q.2) (s := (L, (s : Int))) g1).trans f1, f2⟩
    · have : s = 2 ^ a.length := by omega
      subst this
      refine ⟨L, rounds_out ?_, r⟩
      show spec_l07Table.b7 N a (atT a (k : Int)) (t : Int) (T : Int) (k : Int) L ((2 ^ a.length : Nat) : Int) = _
      unfold spec_l07Table.b7
      rw [sets_eq h.gl.len, Option.bind_some, if_neg (by rw [pow_cast]; omega)]
/-- The first entries of a time are done. -/
def FdK (N : Nat) (a : List Int) (T : Nat) (F : Tb) (t1 m : Nat) : Tb := fun t k => om (F t k) (Om tt (give N a T F t1 t k) m)
theorem FdK_now {F : Tb} {t1 m : Nat} (k : Nat) : FdK N a T F t1 m t1 k = F t1 k := by
  unfold FdK
  rw [Om_nil, om_none]
  intro i _
  unfold give
  split
  · exact cd_later (Nat.le_refl _) _
  · rfl
theorem FdK_none {F : Tb} {t1 m : Nat} (hv : F t1 m = none) : FdK N a T F t1 (m + 1) = FdK N a T F t1 m := by
  funext t k
  unfold FdK
  rw [Om_step, show give N a T F t1 t k m = none by unfold give; rw [hv], om_none]
theorem FdK_some {F : Tb} {t1 m v : Nat} (hv : F t1 m = some v) : FdK N a T F t1 (m + 1) = stpS N a T (FdK N a T F t1 m) (Mk a t1 m) v (2 ^ a.length) := by
  funext t k
  unfold FdK stpS
  rw [Om_step, om_assoc, show give N a T F t1 t k m = cd N a T (Mk a t1 m) v t k (2 ^ a.length) by unfold give; rw [hv]]
theorem tb_row (h : Se a n T) (hN : 20 < N) {t : Nat} (ht : t ≤ T) {F : Tb} (hlow : low F) :
    ∀ (m k : Nat) (L : List (List Int)), k ≤ n → n - k < m → RepT n T L (FdK N a T F t k) →
    ∃ L', rounds (fun q => spec_l07Table.b4 N (n : Int) (t : Int) a (T : Int) q.1 q.2) m (L, (k : Int)) = some (.go L') ∧ RepT n T L' (FdK N a T F t n) := by
  have hn := h.n3
  intro m
  induction m with
  | zero => intro k L _ hm; exact absurd hm (Nat.not_lt_zero _)
  | succ m ih =>
    intro k L hk hm r
    by_cases c : k < n
    · have e1 : i64w ((k : Int) + 1) = ((k + 1 : Nat) : Int) := i64w_id (by omega) (by omega)
      have hl := r.len
      have r1 := r.row t ht
      have step : ∃ L1, spec_l07Table.b4 N (n : Int) (t : Int) a (T : Int) L (k : Int) = some (.next (L1, ((k + 1 : Nat) : Int))) ∧ RepT n T L1 (FdK N a T F t (k + 1)) := by
        unfold spec_l07Table.b4
        rw [if_pos (by omega), if_pos ⟨by omega, by omega⟩, if_pos ⟨by omega, by omega⟩, r.val t ht k c, FdK_now]
        cases e : F t k with
        | none =>
          rw [if_pos (show vi none < 0 by decide)]
          unfold spec_l07Table.j6
          rw [e1]
          exact ⟨L, rfl, by rw [FdK_none e]; exact r⟩
        | some v =>
          rw [if_neg (show ¬ vi (some v) < 0 by simp only [vi]; omega), at_eq h.gl.ok h.gl.len (Int.natCast_nonneg _) (by omega) (by omega), Option.bind_some]
          obtain ⟨L1, g1, g2⟩ := tb_sets (N := N) h hN ht c (F := FdK N a T F t k) (by rw [FdK_now]; exact e) (hlow t k v e) N 0 L (Nat.zero_le _) (by have := pow_le h.gl.len; omega) (by rw [stpS_zero]; exact r)
          rw [show rounds (fun s => spec_l07Table.b7 N a (atT a (k : Int)) (t : Int) (T : Int) (k : Int) s.1 s.2) N (L, 0) = _ from g1, Option.bind_some]
          show ∃ L1_1, spec_l07Table.a7 N (k : Int) L1 = _ ∧ _
          unfold spec_l07Table.a7 spec_l07Table.j6
          rw [e1]
          exact ⟨L1, rfl, by rw [FdK_some e]; exact g2⟩
      obtain ⟨L1, s1, s2⟩ := step
      obtain ⟨L', f1, f2⟩ := ih (k + 1) L1 (by omega) (by omega) s2
      exact ⟨L', (rounds_next (b := fun q : List (List Int) × Int => spec_l07Table.b4 N (n : Int) (t : Int) a (T : Int) q.1 q.2) (s := (L, (k : Int))) s1).trans f1, f2⟩
    · have : k = n := by omega
      subst this
      refine ⟨L, rounds_out ?_, r⟩
      show spec_l07Table.b4 N (k : Int) (t : Int) a (T : Int) L (k : Int) = _
      unfold spec_l07Table.b4
      rw [if_neg (by omega)]
theorem FdK_all {F : Tb} {t1 : Nat} : FdK N a T F t1 n = Fd N a n T F t1 tt := rfl
theorem tb_times (h : Se a n T) (hN : 4000 < N) {c : T4} :
    ∀ (m t : Nat) (L : List (List Int)), t ≤ T + 1 → T + 1 - t < m → RepT n T L (Gt N a n T c t) →
    ∃ L', rounds (fun q => spec_l07Table.b2 N (T : Int) (n : Int) a q.1 q.2) m (L, (t : Int)) = some (.go L') ∧ RepT n T L' (Gt N a n T c (T + 1)) := by
  have hT := h.t
  have hn := h.n3
  intro m
  induction m with
  | zero => intro t L _ hm; exact absurd hm (Nat.not_lt_zero _)
  | succ m ih =>
    intro t L ht hm r
    by_cases ct : t ≤ T
    · have e1 : i64w ((t : Int) + 1) = ((t + 1 : Nat) : Int) := i64w_id (by omega) (by omega)
      have z : FdK N a T (Gt N a n T c t) t 0 = Gt N a n T c t := by funext t2 k2; exact om_none _
      obtain ⟨L1, g1, g2⟩ := tb_row (N := N) h (by omega) ct (Gt_low h.gl.len t) N 0 L (Nat.zero_le _) (by omega) (by rw [z]; exact r)
      have s1 : spec_l07Table.b2 N (T : Int) (n : Int) a L (t : Int) = some (.next (L1, ((t + 1 : Nat) : Int))) := by
        unfold spec_l07Table.b2
        rw [if_pos (by omega), show rounds (fun s => spec_l07Table.b4 N (n : Int) (t : Int) a (T : Int) s.1 s.2) N (L, 0) = _ from g1, Option.bind_some]
        show spec_l07Table.a4 N (t : Int) L1 = _
        unfold spec_l07Table.a4
        rw [e1]
      obtain ⟨L', f1, f2⟩ := ih (t + 1) L1 (by omega) (by omega) g2
      exact ⟨L', (rounds_next (b := fun q : List (List Int) × Int => spec_l07Table.b2 N (T : Int) (n : Int) a q.1 q.2) (s := (L, (t : Int))) s1).trans f1, f2⟩
    · have : t = T + 1 := by omega
      subst this
      refine ⟨L, rounds_out ?_, r⟩
      show spec_l07Table.b2 N (T : Int) (n : Int) a L ((T + 1 : Nat) : Int) = _
      unfold spec_l07Table.b2
      rw [if_neg (by omega)]
/-- The first k of a row are -1. -/
theorem tb_fill (h : Se a n T) {t : Nat} (ht : t ≤ T) : ∀ (m k : Nat) (L : List (List Int)), k ≤ n → n - k < m → L.length = T + 1 → (rdL L (t : Int) []).length = n → (∀ j : Nat, j < k → rdL (rdL L (t : Int) []) (j : Int) 0 = -1) →
    ∃ L', rounds (fun q => spec_l07Table.b10 N (n : Int) (t : Int) q.1 q.2) m (L, (k : Int)) = some (.go L') ∧ L'.length = T + 1 ∧ (rdL L' (t : Int) []).length = n ∧ (∀ j : Nat, j < n → rdL (rdL L' (t : Int) []) (j : Int) 0 = -1) ∧ ∀ t2 : Nat, ¬ t2 = t → rdL L' (t2 : Int) [] = rdL L (t2 : Int) [] := by
  have hn := h.n3
  intro m
  induction m with
  | zero => intro k L _ hm; exact absurd hm (Nat.not_lt_zero _)
  | succ m ih =>
    intro k L hk hm hl hr hv
    by_cases c : k < n
    · have e1 : i64w ((k : Int) + 1) = ((k + 1 : Nat) : Int) := i64w_id (by omega) (by omega)
      have s1 : spec_l07Table.b10 N (n : Int) (t : Int) L (k : Int) = some (.next (stL L (t : Int) (stL (rdL L (t : Int) []) (k : Int) (-1)), ((k + 1 : Nat) : Int))) := by
        unfold spec_l07Table.b10
        rw [if_pos (by omega), if_pos ⟨by omega, by omega⟩, if_pos ⟨by omega, by omega⟩, e1]
      obtain ⟨L', f1, f2, f3, f4, f5⟩ := ih (k + 1) (stL L (t : Int) (stL (rdL L (t : Int) []) (k : Int) (-1))) (by omega) (by omega) (by rw [len_stL]; exact hl) (by rw [rdL_stL, if_pos ⟨rfl, by omega⟩, len_stL]; exact hr) (fun j hj => by
        rw [rdL_stL, if_pos ⟨rfl, by omega⟩, rdL_stL]
        by_cases e : k = j
        · rw [if_pos ⟨e, by omega⟩]
        · rw [if_neg (fun g => e g.1)]; exact hv j (by omega))
      refine ⟨L', (rounds_next (b := fun q : List (List Int) × Int => spec_l07Table.b10 N (n : Int) (t : Int) q.1 q.2) (s := (L, (k : Int))) s1).trans f1, f2, f3, f4, fun t2 h2 => ?_⟩
      rw [f5 t2 h2, rdL_stL, if_neg (fun g => h2 g.1.symm)]
    · have : k = n := by omega
      subst this
      refine ⟨L, rounds_out ?_, hl, hr, hv, fun _ _ => rfl⟩
      show spec_l07Table.b10 N (k : Int) (t : Int) L (k : Int) = _
      unfold spec_l07Table.b10
      rw [if_neg (by omega)]
theorem tb_make (h : Se a n T) (hN : 4000 < N) : ∀ (m t : Nat) (L : List (List Int)), t ≤ T + 1 → T + 1 - t < m → L.length = T + 1 → (∀ t2 : Nat, t2 < t → (rdL L (t2 : Int) []).length = n ∧ ∀ j : Nat, j < n → rdL (rdL L (t2 : Int) []) (j : Int) 0 = -1) →
    ∃ L', rounds (fun q => spec_l07Table.b0 N (T : Int) (n : Int) q.1 q.2) m (L, (t : Int)) = some (.go L') ∧ RepT n T L' (fun _ _ => none) := by
  have hT := h.t
  have hn := h.n3
  intro m
  induction m with
  | zero => intro t L _ hm; exact absurd hm (Nat.not_lt_zero _)
  | succ m ih =>
    intro t L ht hm hl hv
    by_cases c : t ≤ T
    · have e1 : i64w ((t : Int) + 1) = ((t + 1 : Nat) : Int) := i64w_id (by omega) (by omega)
      obtain ⟨L1, g1, g2, g3, g4, g5⟩ := tb_fill (N := N) h c N 0 (stL L (t : Int) (List.replicate n 0)) (Nat.zero_le _) (by omega) (by rw [len_stL]; exact hl) (by rw [rdL_stL, if_pos ⟨rfl, by omega⟩]; simp) (fun j hj => absurd hj (Nat.not_lt_zero _))
      have s1 : spec_l07Table.b0 N (T : Int) (n : Int) L (t : Int) = some (.next (L1, ((t + 1 : Nat) : Int))) := by
        unfold spec_l07Table.b0
        rw [if_pos (by omega), if_pos ⟨by omega, by omega⟩, if_pos ⟨by omega, by omega⟩, Int.toNat_natCast, show rounds (fun s => spec_l07Table.b10 N (n : Int) (t : Int) s.1 s.2) N (stL L (t : Int) (List.replicate n 0), 0) = _ from g1, Option.bind_some]
        show spec_l07Table.a10 N (t : Int) L1 = _
        unfold spec_l07Table.a10
        rw [e1]
      obtain ⟨L', f1, f2⟩ := ih (t + 1) L1 (by omega) (by omega) g2 (fun t2 h2 => by
        by_cases e : t2 = t
        · subst e; exact ⟨g3, g4⟩
        · rw [g5 t2 e, rdL_stL, if_neg (fun g => e g.1.symm)]; exact hv t2 (by omega))
      exact ⟨L', (rounds_next (b := fun q : List (List Int) × Int => spec_l07Table.b0 N (T : Int) (n : Int) q.1 q.2) (s := (L, (t : Int))) s1).trans f1, f2⟩
    · have : t = T + 1 := by omega
      subst this
      refine ⟨L, rounds_out ?_, hl, fun t2 h2 => (hv t2 (by omega)).1, fun t2 h2 k2 g2 => (hv t2 (by omega)).2 k2 g2⟩
      show spec_l07Table.b0 N (T : Int) (n : Int) L ((T + 1 : Nat) : Int) = _
      unfold spec_l07Table.b0
      rw [if_neg (by omega)]
/-- The specification's table. -/
theorem table_eq (h : Se a n T) (hN : 4000 < N) {c : T4} (hf : fits a c) (hst : spec_l07States.f N a = some (n : Int)) : ∃ L, spec_l07Table.f N a c (T : Int) = some L ∧ RepT n T L (Gt N a n T c T) := by
  have hT := h.t
  have hn1 := h.n1
  have e1 : i64w ((T : Int) + 1) = ((T + 1 : Nat) : Int) := i64w_id (by omega) (by omega)
  obtain ⟨L0, g1, g2⟩ := tb_make (N := N) h hN N 0 (List.replicate (T + 1) []) (Nat.zero_le _) (by omega) (by simp) (fun t2 h2 => absurd h2 (Nat.not_lt_zero _))
  obtain ⟨x0, x1⟩ := hor_range h.gl.ok (fits_in h.gl.len hf)
  have hk : (hor a c.l).toNat < n := by have := h.n_eq; omega
  have ek : hor a c.l = (((hor a c.l).toNat : Nat) : Int) := by omega
  have r0 := g2.row 0 (Nat.zero_le _)
  have l0 := g2.len
  have r1 : RepT n T (stL L0 ((0 : Nat) : Int) (stL (rdL L0 ((0 : Nat) : Int) []) (((hor a c.l).toNat : Nat) : Int) 0)) (Gt N a n T c 0) := g2.set (Nat.zero_le _) hk (o := some 0) rfl fun t2 k2 => rfl
  obtain ⟨L', f1, f2⟩ := tb_times (N := N) h hN N 0 _ (Nat.zero_le _) (by omega) r1
  refine ⟨L', ?_, by rw [← Gt_last h hk (by omega)]; exact f2⟩
  unfold spec_l07Table.f
  rw [hst, Option.bind_some, e1, if_pos ⟨by omega, by omega⟩, Int.toNat_natCast, show rounds (fun s => spec_l07Table.b0 N (T : Int) (n : Int) s.1 s.2) N (List.replicate (T + 1) [], 0) = _ from g1, Option.bind_some]
  show spec_l07Table.a0 N a c (T : Int) (n : Int) L0 = _
  unfold spec_l07Table.a0
  have r0' : (rdL L0 0 []).length = n := r0
  rw [if_pos ⟨by omega, by omega⟩, index_eq h.gl.ok h.gl.len h.gl.few hf (by omega), Option.bind_some, if_pos ⟨by omega, by omega⟩, ek]
  rw [show rounds (fun s => spec_l07Table.b2 N (T : Int) (n : Int) a s.1 s.2) N (stL L0 0 (stL (rdL L0 0 []) (((hor a c.l).toNat : Nat) : Int) 0), 0) = _ from f1, Option.bind_some]
  rfl
end
end Go.Proofs.YtioefkcldfjobaaX
