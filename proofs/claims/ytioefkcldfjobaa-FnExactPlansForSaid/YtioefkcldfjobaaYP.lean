/- The specification's ways by numbers of moments, and the program's by maps: the same. -/
import Derived.Test.YtioefkcldfjobaaYO
namespace Go.Proofs.YtioefkcldfjobaaX
open Go
set_option linter.unusedVariables false
set_option linter.unusedSimpArgs false
section
variable {a : List Int} {n T N : Nat}
/-- What a round of the sets does to the next list. -/
def put1 (N : Nat) (a : List Int) (n T : Nat) (x : Mo) (v : Int) (X : List Int) (s : Nat) : List Int := match suc N a (T : Int) x s with
  | some y => X.set (ix a n y) (i64w (X.getD (ix a n y) 0 + v))
  | none => X
theorem ix_at (h : Se a n T) {y : Mo} (hy : okM a (T : Int) y) : i64w ((i64w (y.f_time * (n : Int))) + hor a y.f_tops.l) = ((ix a n y : Nat) : Int) ∧ y.f_time * (n : Int) ≤ 360000 := by
  obtain ⟨⟨t0, t1⟩, hf⟩ := hy
  obtain ⟨h0, h1⟩ := hor_range h.gl.ok (fits_in h.gl.len hf)
  obtain ⟨t, et⟩ := Int.eq_ofNat_of_zero_le t0
  obtain ⟨q, eq⟩ := Int.eq_ofNat_of_zero_le h0
  have hq : q < n := by have := h.n_eq; omega
  have ht : t ≤ 120 := by have := h.t; omega
  have hm : t * n ≤ 120 * 3000 := Nat.mul_le_mul ht h.n3
  have hm2 : (t : Int) * (n : Int) = ((t * n : Nat) : Int) := by simp
  have e : ix a n y = t * n + q := by unfold ix; rw [et, eq]; simp
  have n3 := h.n3
  rw [et, eq, e, hm2]
  have w1 : i64w ((t * n : Nat) : Int) = ((t * n : Nat) : Int) := i64w_id (by omega) (by omega)
  rw [w1]
  exact ⟨i64w_id (by omega) (by omega), by omega⟩
theorem b8_step (h : Se a n T) (hN : 5 < N) {i s : Nat} (hi : i < n * (T + 1)) (hs : s < 2 ^ a.length) {L X : List Int} (hL : i < L.length) (hX : X.length = n * (T + 1)) :
    spec_PlansFor.b8 N a (atT a ((i % n : Nat) : Int)) (n : Int) (i : Int) (T : Int) L X (s : Int) = some (.next (put1 N a n T (Kx a n i) (L.getD i 0) X s, ((s + 1 : Nat) : Int))) := by
  have hp := pow_le h.gl.len
  have hk := Kx_ok h hi
  obtain ⟨r, h1, _, h3, _, h5, h6, h7⟩ := nxt_ok (N := N) (s := s) h.gl hk.2 (by omega) hN
  have e1 : i64w ((s : Int) + 1) = ((s + 1 : Nat) : Int) := i64w_id (by omega) (by omega)
  have hn0 : ¬ (n : Int) = 0 := by have := h.n1; omega
  have hd : (i : Int).tdiv (n : Int) = ((i / n : Nat) : Int) := (Int.ofNat_tdiv i n).symm
  have hdT : i / n < T + 1 := Nat.div_lt_of_lt_mul hi
  have hT := h.t
  have hd120 : i / n ≤ 120 := by omega
  have hk1 : ((i / n : Nat) : Int) ≤ 120 := Int.ofNat_le.2 hd120
  have hk0 : 0 ≤ ((i / n : Nat) : Int) := Int.natCast_nonneg (i / n)
  have hd1 : i64w ((i / n : Nat) : Int) = ((i / n : Nat) : Int) := i64w_id (by omega) (by omega)
  have hw1 : i64w (((i / n : Nat) : Int) + (nxt N a (Kx a n i).f_tops s).2) = ((i / n : Nat) : Int) + (nxt N a (Kx a n i).f_tops s).2 := i64w_id (by omega) (by omega)
  unfold spec_PlansFor.b8
  rw [sets_eq h.gl.len, Option.bind_some, if_pos (by rw [pow_cast]; omega), u8w_id (x := (s : Int)) (by omega) (by omega)]
  rw [show spec_l07Turn.f N a (atT a ((i % n : Nat) : Int)) (s : Int) = some r from h1, Option.bind_some, h3, Option.bind_some]
  unfold put1 suc spec_PlansFor.j10
  rw [e1]
  have hft : (Kx a n i).f_time = ((i / n : Nat) : Int) := rfl
  by_cases c1 : (nxt N a (Kx a n i).f_tops s).2 > 0
  · rw [if_pos c1, if_pos c1, if_pos hn0, hd, hd1, hw1, hft]
    by_cases c2 : ((i / n : Nat) : Int) + (nxt N a (Kx a n i).f_tops s).2 ≤ (T : Int)
    · rw [if_pos c2, if_pos c2, if_pos hn0, index_eq h.gl.ok h.gl.len h.gl.few h5 hN, Option.bind_some]
      have hy : okM a (T : Int) (⟨((i / n : Nat) : Int) + (nxt N a (Kx a n i).f_tops s).2, (nxt N a (Kx a n i).f_tops s).1⟩ : Mo) := ⟨⟨by show (0 : Int) ≤ _ + _; omega, c2⟩, h5⟩
      have hix := (ix_at h hy).1
      have hlt := (ix_lt h hy).1
      dsimp only at hix ⊢
      rw [hix]
      rw [if_pos ⟨Int.natCast_nonneg _, by omega⟩, if_pos ⟨by omega, by omega⟩, if_pos ⟨Int.natCast_nonneg _, by omega⟩]
      simp only [stL, rdL, Int.toNat_natCast]
    · rw [if_neg c2, if_neg c2]
  · rw [if_neg c1, if_neg c1]
theorem put1_len {x : Mo} {v : Int} {X : List Int} {s : Nat} : (put1 N a n T x v X s).length = X.length := by
  unfold put1
  split <;> simp
theorem put1_get (h : Se a n T) (hN : 5 < N) {i s : Nat} (hi : i < n * (T + 1)) (hs : s < 2 ^ a.length) {v : Int} {X : List Int} (hX : X.length = n * (T + 1)) {j : Nat} (hj : j < n * (T + 1)) :
    (put1 N a n T (Kx a n i) v X s).getD j 0 = if suc N a (T : Int) (Kx a n i) s = some (Kx a n j) then i64w (X.getD j 0 + v) else X.getD j 0 := by
  have hp := pow_le h.gl.len
  unfold put1
  cases e : suc N a (T : Int) (Kx a n i) s with
  | none => simp
  | some y =>
    have hy := suc_ok h.gl (Kx_ok h hi) (show s ≤ 255 by omega) hN e
    obtain ⟨h1, h2⟩ := ix_lt h hy
    dsimp only
    by_cases c : y = Kx a n j
    · subst c
      rw [if_pos rfl, Kx_ix h j]
      simp [List.getD, hX, hj]
    · have : ¬ ix a n y = j := fun g => c (by rw [← g, h2])
      rw [if_neg (fun g => c (Option.some.inj g))]
      simp [List.getD, List.getElem?_set_ne this]
theorem b8_loop (h : Se a n T) (hN : 20 < N) {i : Nat} (hi : i < n * (T + 1)) {L X0 : List Int} (hL : i < L.length) (hX0 : X0.length = n * (T + 1)) (hw : ∀ j, j < n * (T + 1) → i64w (X0.getD j 0) = X0.getD j 0) :
    ∀ (m s : Nat) (X : List Int), s ≤ 2 ^ a.length → 2 ^ a.length - s < m → X.length = n * (T + 1) → (∀ j, j < n * (T + 1) → X.getD j 0 = i64w (X0.getD j 0 + cnt N a (T : Int) (Kx a n i) (Kx a n j) s * L.getD i 0)) →
    ∃ X', rounds (fun q => spec_PlansFor.b8 N a (atT a ((i % n : Nat) : Int)) (n : Int) (i : Int) (T : Int) L q.1 q.2) m (X, (s : Int)) = some (.go X') ∧ X'.length = n * (T + 1) ∧
      ∀ j, j < n * (T + 1) → X'.getD j 0 = i64w (X0.getD j 0 + cnt N a (T : Int) (Kx a n i) (Kx a n j) (2 ^ a.length) * L.getD i 0) := by
  have hp := pow_le h.gl.len
  intro m
  induction m with
  | zero => intro s X _ hm; exact absurd hm (Nat.not_lt_zero _)
  | succ m ih =>
    intro s X hs hm hX hv
    by_cases c : s < 2 ^ a.length
    · have hb := b8_step (N := N) h (by omega) hi c hL hX
      have hnx := rounds_next (n := m) (b := fun q : List Int × Int => spec_PlansFor.b8 N a (atT a ((i % n : Nat) : Int)) (n : Int) (i : Int) (T : Int) L q.1 q.2) (s := (X, (s : Int))) hb
      obtain ⟨X', g1, g2⟩ := ih (s + 1) _ (by omega) (by omega) (put1_len.trans hX) (fun j hj => by
        rw [put1_get (N := N) h (by omega) hi c hX hj, hv j hj, cnt]
        by_cases cs : suc N a (T : Int) (Kx a n i) s = some (Kx a n j)
        · rw [if_pos cs, if_pos cs, i64w_add, Int.add_mul, Int.one_mul, Int.add_assoc]
        · rw [if_neg cs, if_neg cs, Int.add_zero])
      exact ⟨X', hnx.trans g1, g2⟩
    · have : s = 2 ^ a.length := by omega
      subst this
      refine ⟨X, rounds_out ?_, hX, hv⟩
      show spec_PlansFor.b8 N a (atT a ((i % n : Nat) : Int)) (n : Int) (i : Int) (T : Int) L X ((2 ^ a.length : Nat) : Int) = _
      unfold spec_PlansFor.b8
      rw [sets_eq h.gl.len, Option.bind_some, if_neg (by rw [pow_cast]; omega)]
/-- A list with these ways. -/
structure RepS (n T : Nat) (L : List Int) (F : Nat → Int) : Prop where
  len : L.length = n * (T + 1)
  val : ∀ i, i < n * (T + 1) → L.getD i 0 = F i
theorem Sm_step {c : Nat → Int} (m : Nat) : Sm tt c (m + 1) = Sm tt c m + c m := by simp [Sm, tt]
theorem b5_loop (h : Se a n T) (hN : 20 < N) {L : List Int} {F : Nat → Int} (r : RepS n T L F) :
    ∀ (m i : Nat) (X : List Int), i ≤ n * (T + 1) → n * (T + 1) - i < m → X.length = n * (T + 1) → (∀ j, j < n * (T + 1) → X.getD j 0 = i64w (Sm tt (cc N a n T F j) i)) →
    ∃ X', rounds (fun q => spec_PlansFor.b5 N L (n : Int) a (T : Int) q.1 q.2) m (X, (i : Int)) = some (.go X') ∧ RepS n T X' (stp N a n T F) := by
  have hM : n * (T + 1) ≤ 3000 * 121 := Nat.mul_le_mul h.n3 (by have := h.t; omega)
  intro m
  induction m with
  | zero => intro i X _ hm; exact absurd hm (Nat.not_lt_zero _)
  | succ m ih =>
    intro i X hi hm hX hv
    by_cases c : i < n * (T + 1)
    · have hl : i < L.length := by rw [r.len]; exact c
      have e1 : i64w ((i : Int) + 1) = ((i + 1 : Nat) : Int) := i64w_id (by omega) (by omega)
      have hr : rdL L (i : Int) 0 = F i := by rw [← r.val i c]; simp [rdL]
      have hn0 : ¬ (n : Int) = 0 := by have := h.n1; omega
      have step : ∃ X1, spec_PlansFor.b5 N L (n : Int) a (T : Int) X (i : Int) = some (.next (X1, ((i + 1 : Nat) : Int))) ∧ X1.length = n * (T + 1) ∧ ∀ j, j < n * (T + 1) → X1.getD j 0 = i64w (Sm tt (cc N a n T F j) (i + 1)) := by
        unfold spec_PlansFor.b5
        rw [if_pos (by omega), if_pos ⟨by omega, by omega⟩, hr]
        by_cases c0 : F i = 0
        · rw [if_pos c0]
          refine ⟨X, by unfold spec_PlansFor.j7; rw [e1], hX, fun j hj => ?_⟩
          rw [hv j hj, Sm_step]
          have : cc N a n T F j i = 0 := by unfold cc; rw [c0, Int.mul_zero]
          rw [this, Int.add_zero]
        · rw [if_neg c0, if_pos hn0]
          have hmod : (i : Int).tmod (n : Int) = ((i % n : Nat) : Int) := (Int.ofNat_tmod i n).symm
          have hml := Nat.mod_lt i (show 0 < n from h.n1)
          have h3 := h.n3
          rw [hmod, at_eq h.gl.ok h.gl.len (Int.natCast_nonneg _) (Int.ofNat_le.2 (show i % n ≤ 3000 by omega)) (by omega), Option.bind_some]
          obtain ⟨X1, g1, g2, g3⟩ := b8_loop h hN c hl hX (fun j hj => by rw [hv j hj, i64w_idem]) N 0 X (Nat.zero_le _) (by have := pow_le h.gl.len; omega) hX (fun j hj => by rw [cnt, Int.zero_mul, Int.add_zero, hv j hj, i64w_idem])
          refine ⟨X1, ?_, g2, fun j hj => ?_⟩
          · rw [show rounds (fun s => spec_PlansFor.b8 N a (atT a ((i % n : Nat) : Int)) (n : Int) (i : Int) (T : Int) L s.1 s.2) N (X, 0) = _ from g1, Option.bind_some]
            show spec_PlansFor.a8 N (i : Int) X1 = _
            unfold spec_PlansFor.a8 spec_PlansFor.j7
            rw [e1]
          · rw [g3 j hj, hv j hj, i64w_add, Sm_step, r.val i c]
            rfl
      obtain ⟨X1, s1, s2, s3⟩ := step
      obtain ⟨X', g1, g2⟩ := ih (i + 1) X1 (by omega) (by omega) s2 s3
      exact ⟨X', (rounds_next (b := fun q : List Int × Int => spec_PlansFor.b5 N L (n : Int) a (T : Int) q.1 q.2) (s := (X, (i : Int))) s1).trans g1, g2⟩
    · have : i = n * (T + 1) := by omega
      subst this
      refine ⟨X, rounds_out ?_, hX, fun j hj => hv j hj⟩
      show spec_PlansFor.b5 N L (n : Int) a (T : Int) X ((n * (T + 1) : Nat) : Int) = _
      unfold spec_PlansFor.b5
      rw [if_neg (by rw [r.len]; omega)]
/-- The ways behind so many events. -/
def Fk (N : Nat) (a : List Int) (n T : Nat) (c : T4) : Nat → Nat → Int
  | 0 => fun i => if i = ix a n ⟨0, c⟩ then 1 else 0
  | k + 1 => stp N a n T (Fk N a n T c k)
theorem many_w (h : Se a n T) : i64w ((n : Int) * (i64w ((T : Int) + 1))) = ((n * (T + 1) : Nat) : Int) := by
  have hT := h.t
  have hM : n * (T + 1) ≤ 3000 * 121 := Nat.mul_le_mul h.n3 (by omega)
  rw [i64w_id (x := (T : Int) + 1) (by omega) (by omega)]
  have : (n : Int) * ((T : Int) + 1) = ((n * (T + 1) : Nat) : Int) := by simp
  rw [this]
  exact i64w_id (by omega) (by omega)
theorem zeros_get {m j : Nat} : (List.replicate m (0 : Int)).getD j 0 = 0 := by
  simp [List.getD, List.getElem?_replicate]
  split <;> rfl
theorem b1_loop (h : Se a n T) (hN : 400000 < N) {c : T4} {E : Nat} (hE : E ≤ 12) :
    ∀ (m k : Nat) (L : List Int), k ≤ E → E - k < m → RepS n T L (Fk N a n T c k) →
    ∃ L', rounds (fun q => spec_PlansFor.b1 N (E : Int) (n : Int) (T : Int) a q.1 q.2) m (L, (k : Int)) = some (.go L') ∧ RepS n T L' (Fk N a n T c E) := by
  have hM : n * (T + 1) ≤ 3000 * 121 := Nat.mul_le_mul h.n3 (by have := h.t; omega)
  intro m
  induction m with
  | zero => intro k L _ hm; exact absurd hm (Nat.not_lt_zero _)
  | succ m ih =>
    intro k L hk hm r
    by_cases ck : k < E
    · have e1 : i64w ((k : Int) + 1) = ((k + 1 : Nat) : Int) := i64w_id (by omega) (by omega)
      obtain ⟨X', g1, g2⟩ := b5_loop (N := N) h (by omega) r N 0 (List.replicate (n * (T + 1)) 0) (Nat.zero_le _) (by omega) (by simp) (fun j hj => by rw [zeros_get]; simp [Sm]; rfl)
      have s1 : spec_PlansFor.b1 N (E : Int) (n : Int) (T : Int) a L (k : Int) = some (.next (X', ((k + 1 : Nat) : Int))) := by
        unfold spec_PlansFor.b1
        rw [if_pos (by omega), many_w h, if_pos ⟨by omega, by omega⟩, Int.toNat_natCast]
        rw [show rounds (fun s => spec_PlansFor.b5 N L (n : Int) a (T : Int) s.1 s.2) N (List.replicate (n * (T + 1)) 0, 0) = _ from g1, Option.bind_some]
        show spec_PlansFor.a5 N (k : Int) X' = _
        unfold spec_PlansFor.a5
        rw [e1]
      obtain ⟨L', f1, f2⟩ := ih (k + 1) X' (by omega) (by omega) g2
      exact ⟨L', (rounds_next (b := fun q : List Int × Int => spec_PlansFor.b1 N (E : Int) (n : Int) (T : Int) a q.1 q.2) (s := (L, (k : Int))) s1).trans f1, f2⟩
    · have : k = E := by omega
      subst this
      refine ⟨L, rounds_out ?_, r⟩
      show spec_PlansFor.b1 N (k : Int) (n : Int) (T : Int) a L (k : Int) = _
      unfold spec_PlansFor.b1
      rw [if_neg (by omega)]
/-- The sum of the last ones. -/
theorem Sm_end {F : Nat → Int} (hn : 1 ≤ n) : ∀ m, m ≤ n → Sm tt (atEnd n T F) (T * n + m) = Sm tt (fun k => F (T * n + k)) m
  | 0, _ => by
    have : ∀ q, q ≤ T * n → Sm tt (atEnd n T F) q = 0 := by
      intro q
      induction q with
      | zero => intro _; rfl
      | succ q ih =>
        intro hq
        rw [Sm_step, ih (by omega)]
        have : ¬ q / n = T := by
          have : q / n < T := Nat.div_lt_of_lt_mul (by rw [Nat.mul_comm]; omega)
          omega
        unfold atEnd
        rw [if_neg this]; rfl
    exact this _ (Nat.le_refl _)
  | m + 1, hm => by
    rw [← Nat.add_assoc, Sm_step, Sm_step, Sm_end hn m (by omega)]
    congr 1
    have : (T * n + m) / n = T := by rw [Nat.mul_comm, Nat.mul_add_div hn, Nat.div_eq_of_lt (by omega), Nat.add_zero]
    unfold atEnd
    rw [if_pos this]
theorem b3_loop (h : Se a n T) {L : List Int} {F : Nat → Int} (r : RepS n T L F) :
    ∀ (m k : Nat), k ≤ n → n - k < m → rounds (fun q => spec_PlansFor.b3 N (n : Int) (T : Int) L q.1 q.2) m (i64w (Sm tt (fun k => F (T * n + k)) k), (k : Int)) = some (.go (i64w (Sm tt (fun k => F (T * n + k)) n))) := by
  have hM : T * n ≤ 120 * 3000 := Nat.mul_le_mul h.t h.n3
  have h3 := h.n3
  intro m
  induction m with
  | zero => intro k _ hm; exact absurd hm (Nat.not_lt_zero _)
  | succ m ih =>
    intro k hk hm
    by_cases c : k < n
    · have e1 : i64w ((k : Int) + 1) = ((k + 1 : Nat) : Int) := i64w_id (by omega) (by omega)
      have e2 : (T : Int) * (n : Int) = ((T * n : Nat) : Int) := by simp
      have e3 : i64w (((T * n : Nat) : Int)) = ((T * n : Nat) : Int) := i64w_id (by omega) (by omega)
      have e4 : i64w (((T * n : Nat) : Int) + (k : Int)) = ((T * n + k : Nat) : Int) := i64w_id (by omega) (by omega)
      have hlt : T * n + k < n * (T + 1) := by rw [Nat.mul_add, Nat.mul_comm n T]; omega
      have hl := r.len
      rw [rounds_next (s' := (i64w (Sm tt (fun k => F (T * n + k)) (k + 1)), ((k + 1 : Nat) : Int)))]
      · exact ih (k + 1) (by omega) (by omega)
      · show spec_PlansFor.b3 N (n : Int) (T : Int) L (i64w (Sm tt (fun k => F (T * n + k)) k)) (k : Int) = _
        unfold spec_PlansFor.b3
        rw [if_pos (by omega), e2, e3, e4, if_pos ⟨Int.natCast_nonneg _, by omega⟩, e1, i64w_add, Sm_step]
        have : rdL L ((T * n + k : Nat) : Int) 0 = F (T * n + k) := by rw [← r.val _ hlt]; unfold rdL; rw [Int.toNat_natCast]
        rw [this]
    · have : k = n := by omega
      subst this
      refine rounds_out ?_
      show spec_PlansFor.b3 N (k : Int) (T : Int) L _ (k : Int) = _
      unfold spec_PlansFor.b3
      rw [if_neg (by omega)]
/-- The specification's answer. -/
theorem spec_ways (h : Se a n T) (hN : 400000 < N) {c : T4} (hf : fits a c) {E : Nat} (hE : E ≤ 12) (hst : spec_l07States.f N a = some (n : Int)) :
    spec_PlansFor.j0 N a (T : Int) c (E : Int) 0 = some (i64w (Sm tt (atEnd n T (Fk N a n T c E)) (n * (T + 1))), 0) := by
  have hM : n * (T + 1) ≤ 3000 * 121 := Nat.mul_le_mul h.n3 (by have := h.t; omega)
  have h0 : okM a (T : Int) (⟨0, c⟩ : Mo) := ⟨⟨Int.le_refl _, Int.natCast_nonneg _⟩, hf⟩
  obtain ⟨x1, x2⟩ := ix_lt h h0
  have hix : hor a c.l = ((ix a n ⟨0, c⟩ : Nat) : Int) := by
    have := (hor_range h.gl.ok (fits_in h.gl.len hf)).1
    unfold ix; simp; omega
  unfold spec_PlansFor.j0
  rw [if_pos rfl, hst, Option.bind_some, many_w h, if_pos ⟨by omega, by omega⟩, index_eq h.gl.ok h.gl.len h.gl.few hf (by omega), Option.bind_some, hix, Int.toNat_natCast]
  rw [if_pos ⟨Int.natCast_nonneg _, by rw [List.length_replicate]; omega⟩]
  have r0 : RepS n T (stL (List.replicate (n * (T + 1)) 0) ((ix a n ⟨0, c⟩ : Nat) : Int) 1) (Fk N a n T c 0) := by
    refine ⟨by simp [stL], fun i hi => ?_⟩
    simp only [stL, Int.toNat_natCast]
    by_cases e : i = ix a n ⟨0, c⟩
    · subst e
      simp [List.getD, x1, Fk]
    · have e' : ¬ ix a n ⟨0, c⟩ = i := fun g => e g.symm
      show ((List.replicate (n * (T + 1)) (0 : Int)).set (ix a n ⟨0, c⟩) 1).getD i 0 = if i = ix a n ⟨0, c⟩ then 1 else 0
      rw [if_neg e]
      simp only [List.getD, List.getElem?_set_ne e', List.getElem?_replicate, hi, if_true, Option.getD_some]
  obtain ⟨L', f1, f2⟩ := b1_loop (c := c) h hN hE N 0 _ (Nat.zero_le _) (by omega) r0
  rw [show rounds (fun s => spec_PlansFor.b1 N (E : Int) (n : Int) (T : Int) a s.1 s.2) N (stL (List.replicate (n * (T + 1)) 0) ((ix a n ⟨0, c⟩ : Nat) : Int) 1, 0) = _ from f1, Option.bind_some]
  show spec_PlansFor.a1 N (n : Int) (T : Int) L' = _
  unfold spec_PlansFor.a1
  have g := b3_loop (N := N) h f2 N 0 (Nat.zero_le _) (by have := h.n3; omega)
  have hz : i64w (Sm tt (fun k => Fk N a n T c E (T * n + k)) 0) = 0 := rfl
  rw [hz] at g
  rw [show rounds (fun s => spec_PlansFor.b3 N (n : Int) (T : Int) L' s.1 s.2) N (0, 0) = _ from g, Option.bind_some]
  show spec_PlansFor.a3 N _ = _
  unfold spec_PlansFor.a3
  have hsum := Sm_end (T := T) (F := Fk N a n T c E) h.n1 n (Nat.le_refl _)
  rw [show T * n + n = n * (T + 1) by rw [Nat.mul_add, Nat.mul_comm n T]; omega] at hsum
  rw [hsum]
end
end Go.Proofs.YtioefkcldfjobaaX
