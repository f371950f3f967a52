/- Two searches side by side: what they have found. -/
import Derived.Test.YtioefkcldfjobaaYR
import Derived.Test.YtioefkcldfjobaaYM
namespace Go.Proofs.YtioefkcldfjobaaX
open Go
set_option linter.unusedVariables false
set_option linter.unusedSimpArgs false
theorem nat_few : ∀ (n : Nat) (l : List Nat), l.Nodup → (∀ x ∈ l, x < n) → l.length ≤ n
  | 0, l, _, h => by
    cases l with
    | nil => simp
    | cons x l => exact absurd (h x List.mem_cons_self) (Nat.not_lt_zero _)
  | n + 1, l, hd, h => by
    have h1 := nat_few n (l.erase n) (hd.erase n) (fun x hx => by
      have h2 := (hd.mem_erase_iff).1 hx
      have h3 := h x h2.2
      have h4 : x ≠ n := h2.1
      omega)
    have h2 := List.length_erase (a := n) (l := l)
    split at h2 <;> omega
theorem stL_len {α : Type} {L : List α} {i : Int} {v : α} : (stL L i v).length = L.length := by simp [stL]
/- turning round -/
def rvf (xs : List Int) (k m : Nat) : Int := if m < k ∨ xs.length - k ≤ m then xs.getD (xs.length - 1 - m) 0 else xs.getD m 0
def rv (xs : List Int) (k : Nat) : List Int := (List.range xs.length).map (rvf xs k)
theorem rv_len (xs : List Int) (k : Nat) : (rv xs k).length = xs.length := by simp [rv]
theorem rv_rd {xs : List Int} {k m : Nat} (hm : m < xs.length) : rdL (rv xs k) (m : Int) 0 = rvf xs k m := by
  rw [rdL_nat (by rw [rv_len]; exact hm)]
  simp [rv]
theorem map_set (f : Nat → Int) (n k : Nat) (v : Int) : ((List.range n).map f).set k v = (List.range n).map fun m => if m = k then v else f m := by
  apply List.ext_getElem
  · simp
  · intro m h1 h2
    rw [List.getElem_set]
    simp only [List.getElem_map, List.getElem_range]
    by_cases c : k = m
    · rw [if_pos c, if_pos c.symm]
    · rw [if_neg c, if_neg (fun e => c e.symm)]
theorem rev_eq {N : Nat} (xs : List Int) (hl : xs.length ≤ 1000000) (hN : 2000000 < N) : slices_Reverse_uint8_uint8.f N xs = some xs.reverse := by
  have q := rounds_for (b := fun s => slices_Reverse_uint8_uint8.b0 N s.1 s.2.1 s.2.2) (e := .go xs.reverse) (fun k => (rv xs k, (k : Int), (xs.length : Int) - 1 - (k : Int))) (xs.length / 2) 0 N (by omega) (by omega) (by
    intro k _ hk
    have g0 : (k : Int) < (xs.length : Int) - 1 - (k : Int) := by omega
    have gk : (0 : Int) ≤ (k : Int) ∧ (k : Int) < ((rv xs k).length : Int) := ⟨by omega, by rw [rv_len]; omega⟩
    obtain ⟨j, hj⟩ : ∃ j : Nat, (xs.length : Int) - 1 - (k : Int) = (j : Int) := ⟨xs.length - 1 - k, by omega⟩
    have gj : (0 : Int) ≤ (j : Int) ∧ (j : Int) < ((rv xs k).length : Int) := ⟨by omega, by rw [rv_len]; omega⟩
    have gj2 : ∀ v, (0 : Int) ≤ (j : Int) ∧ (j : Int) < ((stL (rv xs k) (k : Int) v).length : Int) := fun v => ⟨by omega, by rw [stL_len, rv_len]; omega⟩
    rw [hj] at g0 ⊢
    simp only [slices_Reverse_uint8_uint8.b0, if_pos g0, if_pos gk, if_pos gj, if_pos (gj2 _)]
    rw [rv_rd (by omega), rv_rd (by omega), i64w_id (by omega) (by omega), i64w_id (by omega) (by omega)]
    have e1 : stL (stL (rv xs k) (k : Int) (rvf xs k j)) (j : Int) (rvf xs k k) = rv xs (k + 1) := by
      rw [stL_nat, stL_nat]
      unfold rv
      rw [map_set, map_set]
      apply List.map_congr_left
      intro m hm
      have := List.mem_range.1 hm
      have hjn : j = xs.length - 1 - k := by omega
      unfold rvf
      by_cases c1 : m = j
      · rw [if_pos c1, if_neg (by omega), if_pos (by omega)]
        congr 1; omega
      · rw [if_neg c1]
        by_cases c2 : m = k
        · rw [if_pos c2, if_neg (by omega), if_pos (by omega)]
          congr 1; omega
        · rw [if_neg c2]
          by_cases c3 : m < k ∨ xs.length - k ≤ m
          · rw [if_pos c3, if_pos (by omega)]
          · rw [if_neg c3, if_neg (by omega)]
    rw [e1, show (k : Int) + 1 = ((k + 1 : Nat) : Int) by omega, show (j : Int) - 1 = (xs.length : Int) - 1 - ((k + 1 : Nat) : Int) by omega]) (by
    simp only [slices_Reverse_uint8_uint8.b0]
    rw [if_neg (by omega)]
    have : rv xs (xs.length / 2) = xs.reverse := by
      apply List.ext_getElem
      · simp [rv]
      · intro m h1 h2
        rw [rv_len] at h1
        simp only [rv, List.getElem_map, List.getElem_range, List.getElem_reverse]
        unfold rvf
        by_cases c : m < xs.length / 2 ∨ xs.length - xs.length / 2 ≤ m
        · rw [if_pos c]
          simp [List.getD_eq_getElem?_getD, List.getElem?_eq_getElem (show xs.length - 1 - m < xs.length by omega)]
        · rw [if_neg c]
          have e : xs.length - 1 - m = m := by omega
          simp only [e]
          simp [List.getD_eq_getElem?_getD, List.getElem?_eq_getElem h1]
    rw [this])
  have e0 : rv xs 0 = xs := by
    apply List.ext_getElem
    · simp [rv]
    · intro m h1 h2
      simp only [rv, List.getElem_map, List.getElem_range]
      unfold rvf
      rw [if_neg (by omega)]
      simp [List.getD_eq_getElem?_getD, List.getElem?_eq_getElem h2]
  have q' : rounds (fun s => slices_Reverse_uint8_uint8.b0 N s.1 s.2.1 s.2.2) N (xs, 0, i64w ((xs.length : Int) - 1)) = some (.go xs.reverse) := by
    rw [i64w_id (by omega) (by omega)]
    have := q
    simp only [e0] at this
    simpa using this
  unfold slices_Reverse_uint8_uint8.f
  rw [q']; rfl
section
variable {a : List Int} {n T N : Nat}
theorem ix_at (h : Se a n T) {y : Mo} (hy : okM a (T : Int) y) : i64w ((i64w (y.f_time * (n : Int))) + hor a y.f_tops.l) = ((ix a n y : Nat) : Int) ∧ y.f_time * (n : Int) ≤ 360000 := by
  obtain ⟨⟨t0, t1⟩, hf⟩ := hy
  obtain ⟨h0, h1⟩ := hor_range h.gl.ok (fits_in h.gl.len hf)
  obtain ⟨t, et⟩ := Int.eq_ofNat_of_zero_le t0
  obtain ⟨q, eq⟩ := Int.eq_ofNat_of_zero_le h0
  have hq : q < n := by have := h.n_eq; omega
  have ht : t ≤ 120 := by have := h.t; omega
  have hm : t * n ≤ 120 * 3000 := Nat.mul_le_mul ht h.n3
  have hm2 : (t : Int) * (n : Int) = ((t * n : Nat) : Int) := by simp
  have e : ix a n y = t * n + q := by unfold ix; rw [et, eq]; simp
  have n3 := h.n3
  rw [et, eq, e, hm2]
  have w1 : i64w ((t * n : Nat) : Int) = ((t * n : Nat) : Int) := i64w_id (by omega) (by omega)
  rw [w1]
  exact ⟨i64w_id (by omega) (by omega), by omega⟩
abbrev Nd := S_spec_l07Node
abbrev Sp := S_impl_step
abbrev KB := List (Mo × Bool)
/-- A moment that is to be found. -/
def mom (x : Nd) : Mo := ⟨x.f_time, x.f_tops⟩
theorem rdL_n {α : Type} {L : List α} {i : Nat} (h : i < L.length) (z : α) : rdL L (i : Int) z = L[i] := by simp [rdL, List.getD, h]
/-- The two queues, what is seen, what is met. -/
structure Qr (a : List Int) (n T : Nat) (S : List Bool) (X : List Nd) (Y : List Sp) (kv : KB) : Prop where
  sl : S.length = n * (T + 1)
  len : X.length = Y.length
  pos : 1 ≤ X.length
  same : ∀ (i : Nat) (h : i < X.length) (h' : i < Y.length), Y[i].f_moment = mom X[i] ∧ Y[i].f_set = X[i].f_set ∧ (0 ≤ X[i].f_set ∧ X[i].f_set ≤ 255) ∧ okM a (T : Int) (mom X[i])
  first : ∀ (i : Nat) (h : i < X.length) (h' : i < Y.length), (i = 0 ∧ X[i].f_first = true ∧ Y[i].f_before = -1) ∨ (0 < i ∧ X[i].f_first = false ∧ ∃ j : Nat, j < i ∧ X[i].f_from = (j : Int) ∧ Y[i].f_before = (j : Int))
  nd : (X.map mom).Nodup
  seen : ∀ y, okM a (T : Int) y → (rdL S ((ix a n y : Nat) : Int) false = true ↔ y ∈ X.map mom)
  kn : (kv.map (·.1)).Nodup
  met : ∀ y, mGet kv y false = true ↔ y ∈ X.map mom
theorem Qr.few (h : Se a n T) {S : List Bool} {X : List Nd} {Y : List Sp} {kv : KB} (q : Qr a n T S X Y kv) : X.length ≤ n * (T + 1) := by
  have h1 : ((X.map mom).map (ix a n)).Nodup := by
    have hd := q.nd
    unfold List.Nodup at hd ⊢
    rw [List.pairwise_map]
    refine hd.imp_of_mem fun {x y} hx hy hne e => hne ?_
    have ok : ∀ z, z ∈ X.map mom → okM a (T : Int) z := by
      intro z hz
      obtain ⟨w, hw, rfl⟩ := List.mem_map.1 hz
      obtain ⟨i, hi, rfl⟩ := List.mem_iff_getElem.1 hw
      exact (q.same i hi (by rw [← q.len]; exact hi)).2.2.2
    have e1 := (ix_lt h (ok x hx)).2
    have e2 := (ix_lt h (ok y hy)).2
    rw [← e1, ← e2, e]
  have h2 := nat_few (n * (T + 1)) _ h1 (fun x hx => by
    obtain ⟨z, hz, rfl⟩ := List.mem_map.1 hx
    obtain ⟨w, hw, rfl⟩ := List.mem_map.1 hz
    obtain ⟨i, hi, rfl⟩ := List.mem_iff_getElem.1 hw
    exact (ix_lt h (q.same i hi (by rw [← q.len]; exact hi)).2.2.2).1)
  simpa using h2
/-- One more. -/
theorem Qr.add (h : Se a n T) {S : List Bool} {X : List Nd} {Y : List Sp} {kv : KB} (q : Qr a n T S X Y kv) {k : Nat} (hk : k < X.length) {s : Nat} (hs : s ≤ 255) {y : Mo} (hy : okM a (T : Int) y) (hn : y ∉ X.map mom) :
    Qr a n T (stL S ((ix a n y : Nat) : Int) true) (X ++ [(⟨y.f_time, y.f_tops, (k : Int), (s : Int), false⟩ : Nd)]) (Y ++ [(⟨y, (k : Int), (s : Int)⟩ : Sp)]) (mSet kv y true) := by
  have hm : mom (⟨y.f_time, y.f_tops, (k : Int), (s : Int), false⟩ : Nd) = y := rfl
  have hl := q.len
  refine ⟨by rw [stL_len]; exact q.sl, by simp [hl], by simp, fun i h1 h2 => ?_, fun i h1 h2 => ?_, ?_, fun z hz => ?_, mSet_nodup q.kn y true, fun z => ?_⟩
  · by_cases c : i < X.length
    · rw [List.getElem_append_left c, List.getElem_append_left (by omega)]
      exact q.same i c (by omega)
    · have e : i = X.length := by simp at h1; omega
      subst e
      rw [List.getElem_append_right (Nat.le_refl _), List.getElem_append_right (by omega)]
      simp only [Nat.sub_self, hl, List.getElem_cons_zero]
      exact ⟨rfl, trivial, ⟨by omega, by omega⟩, hy⟩
  · by_cases c : i < X.length
    · rw [List.getElem_append_left c, List.getElem_append_left (by omega)]
      exact q.first i c (by omega)
    · have e : i = X.length := by simp at h1; omega
      subst e
      rw [List.getElem_append_right (Nat.le_refl _), List.getElem_append_right (by omega)]
      simp only [Nat.sub_self, hl, List.getElem_cons_zero]
      exact .inr ⟨by have := q.pos; omega, trivial, k, by omega, rfl, rfl⟩
  · rw [List.map_append, List.map_cons, List.map_nil, hm, List.nodup_append]
    refine ⟨q.nd, by simp, fun x hx b hb e => ?_⟩
    rw [List.mem_singleton] at hb
    subst hb e
    exact hn hx
  · rw [List.map_append, List.map_cons, List.map_nil, hm, List.mem_append, List.mem_singleton]
    obtain ⟨z1, z2⟩ := ix_lt h hz
    obtain ⟨y1, y2⟩ := ix_lt h hy
    have e : rdL (stL S ((ix a n y : Nat) : Int) true) ((ix a n z : Nat) : Int) false = if ix a n y = ix a n z then true else rdL S ((ix a n z : Nat) : Int) false := by
      simp only [rdL, stL, Int.toNat_natCast, List.getD, List.getElem?_set]
      by_cases c : ix a n y = ix a n z
      · rw [if_pos c, if_pos c, if_pos (by rw [q.sl]; exact y1)]; rfl
      · rw [if_neg c, if_neg c]
    rw [e]
    by_cases c : ix a n y = ix a n z
    · have : z = y := by rw [← z2, ← y2, c]
      rw [if_pos c]
      exact ⟨fun _ => .inr this, fun _ => rfl⟩
    · rw [if_neg c, q.seen z hz]
      exact ⟨.inl, fun g => g.elim id fun g => absurd (by rw [g]) c⟩
  · rw [List.map_append, List.map_cons, List.map_nil, hm, List.mem_append, List.mem_singleton, mGet_set q.kn]
    by_cases c : z = y
    · rw [if_pos c]; exact ⟨fun _ => .inr c, fun _ => rfl⟩
    · rw [if_neg c, q.met z]; exact ⟨.inl, fun g => g.resolve_right c⟩
/-- The way back from an entry. -/
theorem back_both (h : Se a n T) {S : List Bool} {X : List Nd} {Y : List Sp} {kv : KB} (q : Qr a n T S X Y kv) : ∀ (k : Nat) (hk : k < X.length), ∃ p : List Int, p.length ≤ k ∧
    (∀ m l, k < m → l.length + k ≤ 1000000 → rounds (fun s => spec_PlanFrom.b2 N X s.1 s.2) m (X[k], l) = some (.go (p ++ l))) ∧
    (∀ m l, k < m → l.length + k ≤ 1000000 → rounds (fun s => impl_PlanFrom.b2 N Y s.1 s.2) m (l, (k : Int)) = some (.go (l ++ p.reverse))) := by
  intro k
  induction k using Nat.strongRecOn with
  | ind k ih =>
    intro hk
    have hl := q.len
    have hk' : k < Y.length := by omega
    obtain ⟨s1, s2, s3, s4⟩ := q.same k hk hk'
    rcases q.first k hk hk' with ⟨rfl, f1, f2⟩ | ⟨f0, f1, j, hj, f2, f3⟩
    · refine ⟨[], Nat.le_refl _, fun m l hm hlen => ?_, fun m l hm hlen => ?_⟩
      · obtain ⟨m, rfl⟩ : ∃ j, m = j + 1 := ⟨m - 1, by omega⟩
        refine rounds_out ?_
        show spec_PlanFrom.b2 N X X[0] l = _
        unfold spec_PlanFrom.b2
        rw [if_pos f1]; rfl
      · obtain ⟨m, rfl⟩ : ∃ j, m = j + 1 := ⟨m - 1, by omega⟩
        refine rounds_out ?_
        show impl_PlanFrom.b2 N Y l ((0 : Nat) : Int) = _
        unfold impl_PlanFrom.b2
        rw [if_pos ⟨by omega, by omega⟩, rdL_n hk', f2, if_neg (by decide)]
        simp
    · obtain ⟨p, p1, p2, p3⟩ := ih j hj (by omega)
      have hj' : j < X.length := by omega
      refine ⟨p ++ [X[k].f_set], by simp; omega, fun m l hm hlen => ?_, fun m l hm hlen => ?_⟩
      · obtain ⟨m, rfl⟩ : ∃ j, m = j + 1 := ⟨m - 1, by omega⟩
        rw [rounds_next (s' := (X[j], [X[k].f_set] ++ l))]
        · rw [p2 m _ (by omega) (by simp; omega)]
          simp
        · show spec_PlanFrom.b2 N X X[k] l = _
          unfold spec_PlanFrom.b2
          rw [if_neg (by rw [f1]; exact Bool.false_ne_true), if_pos (by simp; omega), f2, if_pos ⟨by omega, by omega⟩, rdL_n hj']
      · obtain ⟨m, rfl⟩ : ∃ j, m = j + 1 := ⟨m - 1, by omega⟩
        rw [rounds_next (s' := (l ++ [X[k].f_set], (j : Int)))]
        · rw [p3 m _ (by omega) (by simp; omega)]
          simp
        · show impl_PlanFrom.b2 N Y l (k : Int) = _
          unfold impl_PlanFrom.b2
          rw [if_pos ⟨by omega, by omega⟩, rdL_n hk', f3, if_pos (by omega), if_pos ⟨by omega, by omega⟩, s2, if_pos (by simp; omega), if_pos ⟨by omega, by omega⟩]
/-- All sets of one entry. -/
theorem sets_both (h : Se a n T) (hN : 20 < N) {X0 : List Nd} {k : Nat} (hk : k < X0.length) (hx : okM a (T : Int) (mom X0[k])) :
    ∀ (m s : Nat) (S : List Bool) (X : List Nd) (Y : List Sp) (kv : KB), s ≤ 2 ^ a.length → 2 ^ a.length - s < m → k < X.length → Qr a n T S X Y kv →
    ∃ S' X' Y' kv', rounds (fun q => spec_PlanFrom.b4 N a X0 (k : Int) (T : Int) (n : Int) q.1 q.2.1 q.2.2) m (S, X, (s : Int)) = some (.go (S', X')) ∧
      rounds (fun q => _impl_Glasses_events_at_impl_PlanFrom_1.b0 N a (mom X0[k]) (T : Int) q.1 q.2.1 q.2.2.1 q.2.2.2) m (kv, Y, (k : Int), (s : Int)) = some (.go (kv', Y', (k : Int))) ∧ Qr a n T S' X' Y' kv' ∧ X.length ≤ X'.length ∧ ∀ (i : Nat) (h1 : i < X.length) (h2 : i < X'.length), X'[i] = X[i] := by
  have hp := pow_le h.gl.len
  have hT := h.t
  intro m
  induction m with
  | zero => intro s _ _ _ _ _ hm; exact absurd hm (Nat.not_lt_zero _)
  | succ m ih =>
    intro s S X Y kv hs hm hkX q
    by_cases c : s < 2 ^ a.length
    · obtain ⟨r, h1, h2, h3, h4, h5, h6, h7⟩ := nxt_ok (N := N) (s := s) h.gl hx.2 (by omega) (by omega)
      have e1 : i64w ((s : Int) + 1) = ((s + 1 : Nat) : Int) := i64w_id (by omega) (by omega)
      have ht := hx.1
      have hw : i64w ((mom X0[k]).f_time + (nxt N a (mom X0[k]).f_tops s).2) = (mom X0[k]).f_time + (nxt N a (mom X0[k]).f_tops s).2 := i64w_id (by omega) (by omega)
      have fin : ∀ S1 X1 Y1 kv1, spec_PlanFrom.b4 N a X0 (k : Int) (T : Int) (n : Int) S X (s : Int) = some (.next (S1, X1, ((s + 1 : Nat) : Int))) → _impl_Glasses_events_at_impl_PlanFrom_1.b0 N a (mom X0[k]) (T : Int) kv Y (k : Int) (s : Int) = some (.next (kv1, Y1, (k : Int), ((s + 1 : Nat) : Int))) → Qr a n T S1 X1 Y1 kv1 → X.length ≤ X1.length → (∀ (i : Nat) (h1 : i < X.length) (h2 : i < X1.length), X1[i] = X[i]) →
          ∃ S' X' Y' kv', rounds (fun q => spec_PlanFrom.b4 N a X0 (k : Int) (T : Int) (n : Int) q.1 q.2.1 q.2.2) (m + 1) (S, X, (s : Int)) = some (.go (S', X')) ∧
            rounds (fun q => _impl_Glasses_events_at_impl_PlanFrom_1.b0 N a (mom X0[k]) (T : Int) q.1 q.2.1 q.2.2.1 q.2.2.2) (m + 1) (kv, Y, (k : Int), (s : Int)) = some (.go (kv', Y', (k : Int))) ∧ Qr a n T S' X' Y' kv' ∧ X.length ≤ X'.length ∧ ∀ (i : Nat) (h1 : i < X.length) (h2 : i < X'.length), X'[i] = X[i] := by
        intro S1 X1 Y1 kv1 b1 b2 q1 l1 g1
        obtain ⟨S', X', Y', kv', r1, r2, r3, r4, r5⟩ := ih (s + 1) S1 X1 Y1 kv1 (by omega) (by omega) (by omega) q1
        refine ⟨S', X', Y', kv', (rounds_next (b := fun q : List Bool × List Nd × Int => spec_PlanFrom.b4 N a X0 (k : Int) (T : Int) (n : Int) q.1 q.2.1 q.2.2) (s := (S, X, (s : Int))) b1).trans r1, (rounds_next (b := fun q : KB × List Sp × Int × Int => _impl_Glasses_events_at_impl_PlanFrom_1.b0 N a (mom X0[k]) (T : Int) q.1 q.2.1 q.2.2.1 q.2.2.2) (s := (kv, Y, (k : Int), (s : Int))) b2).trans r2, r3, by omega, fun i i1 i2 => ?_⟩
        rw [r5 i (by omega) i2, g1 i i1 (by omega)]
      have hsp : ∀ (α : Type) (Z W : α), (if (s : Int) < (2 : Int) ^ a.length then Z else W) = Z := fun _ Z W => if_pos (by rw [pow_cast]; omega)
      have nospec : (nxt N a (mom X0[k]).f_tops s).2 = 0 ∨ (mom X0[k]).f_time + (nxt N a (mom X0[k]).f_tops s).2 > (T : Int) → spec_PlanFrom.b4 N a X0 (k : Int) (T : Int) (n : Int) S X (s : Int) = some (.next (S, X, ((s + 1 : Nat) : Int))) ∧ _impl_Glasses_events_at_impl_PlanFrom_1.b0 N a (mom X0[k]) (T : Int) kv Y (k : Int) (s : Int) = some (.next (kv, Y, (k : Int), ((s + 1 : Nat) : Int))) := by
        intro g
        constructor
        · unfold spec_PlanFrom.b4 spec_PlanFrom.j6
          rw [sets_eq h.gl.len, Option.bind_some, hsp, rdL_n hk, u8w_id (x := (s : Int)) (by omega) (by omega), show spec_l07Turn.f N a X0[k].f_tops (s : Int) = some r from h1, Option.bind_some, h3, Option.bind_some, e1]
          by_cases g0 : (nxt N a (mom X0[k]).f_tops s).2 = 0
          · rw [if_pos g0]
          · rw [if_neg g0, if_pos (by rw [show X0[k].f_time = (mom X0[k]).f_time from rfl, hw]; omega)]
        · unfold _impl_Glasses_events_at_impl_PlanFrom_1.b0 _impl_Glasses_events_at_impl_PlanFrom_1.j2
          rw [if_pos (by rw [sets_all _ h.gl.len, pow_cast]; omega), u8w_id (x := (s : Int)) (by omega) (by omega), h2, Option.bind_some, h4, Option.bind_some, hw, e1]
          by_cases g0 : (nxt N a (mom X0[k]).f_tops s).2 > 0
          · rw [if_pos g0, if_neg (by omega)]
          · rw [if_neg g0]
      by_cases g : (nxt N a (mom X0[k]).f_tops s).2 = 0 ∨ (mom X0[k]).f_time + (nxt N a (mom X0[k]).f_tops s).2 > (T : Int)
      · obtain ⟨b1, b2⟩ := nospec g
        exact fin _ _ _ _ b1 b2 q (Nat.le_refl _) fun _ _ _ => rfl
      · have g0 : ¬ (nxt N a (mom X0[k]).f_tops s).2 = 0 := fun e => g (.inl e)
        have g1 : ¬ (mom X0[k]).f_time + (nxt N a (mom X0[k]).f_tops s).2 > (T : Int) := fun e => g (.inr e)
        have hy : okM a (T : Int) (⟨(mom X0[k]).f_time + (nxt N a (mom X0[k]).f_tops s).2, (nxt N a (mom X0[k]).f_tops s).1⟩ : Mo) := ⟨⟨by show (0 : Int) ≤ _ + _; omega, by show _ + _ ≤ (T : Int); omega⟩, h5⟩
        have hi := (ix_at h hy).1
        obtain ⟨y1, y2⟩ := ix_lt h hy
        have hfew := q.few h
        have hM : n * (T + 1) ≤ 3000 * 121 := Nat.mul_le_mul h.n3 (by omega)
        have sl := q.sl
        have hl := q.len
        have hse := q.seen _ hy
        have hme := q.met (⟨(mom X0[k]).f_time + (nxt N a (mom X0[k]).f_tops s).2, (nxt N a (mom X0[k]).f_tops s).1⟩ : Mo)
        dsimp only at hi
        by_cases cm : (⟨(mom X0[k]).f_time + (nxt N a (mom X0[k]).f_tops s).2, (nxt N a (mom X0[k]).f_tops s).1⟩ : Mo) ∈ X.map mom
        · refine fin S X Y kv ?_ ?_ q (Nat.le_refl _) fun _ _ _ => rfl
          · unfold spec_PlanFrom.b4 spec_PlanFrom.j6
            rw [sets_eq h.gl.len, Option.bind_some, hsp, rdL_n hk, u8w_id (x := (s : Int)) (by omega) (by omega), show spec_l07Turn.f N a X0[k].f_tops (s : Int) = some r from h1, Option.bind_some, h3, Option.bind_some, e1, if_neg g0, show X0[k].f_time = (mom X0[k]).f_time from rfl, hw, if_neg g1, index_eq h.gl.ok h.gl.len h.gl.few h5 (by omega), Option.bind_some, hi, if_pos ⟨by omega, by omega⟩, if_pos (hse.2 cm)]
          · unfold _impl_Glasses_events_at_impl_PlanFrom_1.b0 _impl_Glasses_events_at_impl_PlanFrom_1.j2 impl_PlanFrom_1.f
            rw [if_pos (by rw [sets_all _ h.gl.len, pow_cast]; omega), u8w_id (x := (s : Int)) (by omega) (by omega), h2, Option.bind_some, h4, Option.bind_some, hw, e1, if_pos (by omega), if_pos (by omega), if_pos (hme.2 cm), Option.bind_some]
        · refine fin _ _ _ _ ?_ ?_ (q.add h hkX (show s ≤ 255 by omega) hy cm) (by simp) fun i i1 i2 => List.getElem_append_left i1
          · unfold spec_PlanFrom.b4 spec_PlanFrom.j6
            rw [sets_eq h.gl.len, Option.bind_some, hsp, rdL_n hk, u8w_id (x := (s : Int)) (by omega) (by omega), show spec_l07Turn.f N a X0[k].f_tops (s : Int) = some r from h1, Option.bind_some, h3, Option.bind_some, e1, if_neg g0, show X0[k].f_time = (mom X0[k]).f_time from rfl, hw, if_neg g1, index_eq h.gl.ok h.gl.len h.gl.few h5 (by omega), Option.bind_some, hi, if_pos ⟨by omega, by omega⟩, if_neg (fun e => cm (hse.1 e)), if_pos ⟨by omega, by omega⟩, if_pos (by simp; omega)]
          · unfold _impl_Glasses_events_at_impl_PlanFrom_1.b0 _impl_Glasses_events_at_impl_PlanFrom_1.j2 impl_PlanFrom_1.f
            rw [if_pos (by rw [sets_all _ h.gl.len, pow_cast]; omega), u8w_id (x := (s : Int)) (by omega) (by omega), h2, Option.bind_some, h4, Option.bind_some, hw, e1, if_pos (by omega), if_pos (by omega), if_neg (fun e => cm (hme.1 e)), if_pos (by simp; omega), Option.bind_some]
    · have : s = 2 ^ a.length := by omega
      subst this
      refine ⟨S, X, Y, kv, rounds_out ?_, rounds_out ?_, q, Nat.le_refl _, fun _ _ _ => rfl⟩
      · show spec_PlanFrom.b4 N a X0 (k : Int) (T : Int) (n : Int) S X ((2 ^ a.length : Nat) : Int) = _
        unfold spec_PlanFrom.b4
        rw [sets_eq h.gl.len, Option.bind_some, if_neg (by rw [pow_cast]; omega)]
      · show _impl_Glasses_events_at_impl_PlanFrom_1.b0 N a (mom X0[k]) (T : Int) kv Y (k : Int) ((2 ^ a.length : Nat) : Int) = _
        unfold _impl_Glasses_events_at_impl_PlanFrom_1.b0
        rw [if_neg (by rw [sets_all _ h.gl.len, pow_cast]; omega)]
end
end Go.Proofs.YtioefkcldfjobaaX
