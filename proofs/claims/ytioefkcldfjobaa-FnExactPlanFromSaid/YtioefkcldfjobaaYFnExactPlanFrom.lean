/- FnExactPlanFrom is true on every input: the plain side. -/
import Derived.Test.YtioefkcldfjobaaYJ
import Derived.Test.YtioefkcldfjobaaYHB
namespace Go.Proofs.YtioefkcldfjobaaX
open Go
set_option linter.unusedVariables false
set_option linter.unusedSimpArgs false
section
variable {a : List Int} {n T N : Nat}
theorem find_both (h : Se a n T) (hN : 3000000 < N) : ∀ (m k : Nat) (S : List Bool) (X : List Nd) (Y : List Sp) (kv : KB), k ≤ X.length → n * (T + 1) + 1 - k < m → Qr a n T S X Y kv →
    ((∃ p : List Int, p.length ≤ 400000 ∧ rounds (fun q => spec_PlanFrom.b0 N (T : Int) a (n : Int) q.1 q.2.1 q.2.2) m (S, X, (k : Int)) = some (.ret (p, 0)) ∧ rounds (fun q => impl_PlanFrom.b0 N (T : Int) a q.1 q.2.1 q.2.2) m (Y, kv, (k : Int)) = some (.ret (p, 0))) ∨
      (rounds (fun q => spec_PlanFrom.b0 N (T : Int) a (n : Int) q.1 q.2.1 q.2.2) m (S, X, (k : Int)) = some (.go ()) ∧ rounds (fun q => impl_PlanFrom.b0 N (T : Int) a q.1 q.2.1 q.2.2) m (Y, kv, (k : Int)) = some (.go ()))) := by
  have hp := pow_le h.gl.len
  have hT := h.t
  have hM : n * (T + 1) ≤ 3000 * 121 := Nat.mul_le_mul h.n3 (by omega)
  intro m
  induction m with
  | zero => intro k _ _ _ _ _ hm; exact absurd hm (Nat.not_lt_zero _)
  | succ m ih =>
    intro k S X Y kv hk hm q
    have hfew := q.few h
    have hl := q.len
    by_cases c : k < X.length
    · have hk' : k < Y.length := by omega
      obtain ⟨s1, s2, s3, s4⟩ := q.same k c hk'
      have e1 : i64w ((k : Int) + 1) = ((k + 1 : Nat) : Int) := i64w_id (by omega) (by omega)
      by_cases ct : X[k].f_time = (T : Int)
      · left
        obtain ⟨p, p1, p2, p3⟩ := back_both (N := N) h q k c
        refine ⟨p, by omega, rounds_out ?_, rounds_out ?_⟩
        · show spec_PlanFrom.b0 N (T : Int) a (n : Int) S X (k : Int) = _
          unfold spec_PlanFrom.b0
          rw [if_pos (by omega), if_pos ⟨by omega, by omega⟩, rdL_n c, if_pos ct, p2 N [] (by omega) (by simp; omega), Option.bind_some]
          show spec_PlanFrom.a2 N (p ++ []) = _
          rw [List.append_nil]
          rfl
        · show impl_PlanFrom.b0 N (T : Int) a Y kv (k : Int) = _
          unfold impl_PlanFrom.b0
          rw [if_pos (by omega), if_pos ⟨by omega, by omega⟩, rdL_n hk', s1, if_pos (show (mom X[k]).f_time = _ from ct), p3 N [] (by omega) (by simp; omega), Option.bind_some]
          show impl_PlanFrom.a2 N ([] ++ p.reverse) = _
          unfold impl_PlanFrom.a2
          rw [List.nil_append, rev_eq p.reverse (by simp; omega) (by omega), Option.bind_some, List.reverse_reverse]
      · obtain ⟨S', X', Y', kv', r1, r2, r3, r4, r5⟩ := sets_both (N := N) h (by omega) c s4 N 0 S X Y kv (Nat.zero_le _) (by omega) c q
        have b1 : spec_PlanFrom.b0 N (T : Int) a (n : Int) S X (k : Int) = some (.next (S', X', ((k + 1 : Nat) : Int))) := by
          unfold spec_PlanFrom.b0
          rw [if_pos (by omega), if_pos ⟨by omega, by omega⟩, rdL_n c, if_neg ct, show rounds (fun s => spec_PlanFrom.b4 N a X (k : Int) (T : Int) (n : Int) s.1 s.2.1 s.2.2) N (S, X, 0) = _ from r1, Option.bind_some]
          show spec_PlanFrom.a4 N (k : Int) S' X' = _
          unfold spec_PlanFrom.a4
          rw [e1]
        have b2 : impl_PlanFrom.b0 N (T : Int) a Y kv (k : Int) = some (.next (Y', kv', ((k + 1 : Nat) : Int))) := by
          unfold impl_PlanFrom.b0 _impl_Glasses_events_at_impl_PlanFrom_1.f
          rw [if_pos (by omega), if_pos ⟨by omega, by omega⟩, rdL_n hk', s1, if_neg (show ¬ (mom X[k]).f_time = _ from ct), if_pos ⟨by omega, by omega⟩, if_pos (by omega), show rounds (fun s => _impl_Glasses_events_at_impl_PlanFrom_1.b0 N a (mom X[k]) (T : Int) s.1 s.2.1 s.2.2.1 s.2.2.2) N (kv, Y, (k : Int), 0) = _ from r2, Option.bind_some]
          show (some (kv', kv', Y', Y', (k : Int))).bind _ = _
          rw [Option.bind_some]
          simp only
          rw [e1]
        have := ih (k + 1) S' X' Y' kv' (by omega) (by omega) r3
        rw [rounds_next (b := fun q : List Bool × List Nd × Int => spec_PlanFrom.b0 N (T : Int) a (n : Int) q.1 q.2.1 q.2.2) (s := (S, X, (k : Int))) b1, rounds_next (b := fun q : List Sp × KB × Int => impl_PlanFrom.b0 N (T : Int) a q.1 q.2.1 q.2.2) (s := (Y, kv, (k : Int))) b2]
        exact this
    · right
      refine ⟨rounds_out ?_, rounds_out ?_⟩
      · show spec_PlanFrom.b0 N (T : Int) a (n : Int) S X (k : Int) = _
        unfold spec_PlanFrom.b0
        rw [if_neg (by omega)]
      · show impl_PlanFrom.b0 N (T : Int) a Y kv (k : Int) = _
        unfold impl_PlanFrom.b0
        rw [if_neg (by omega)]
theorem many_w (h : Se a n T) : i64w ((n : Int) * (i64w ((T : Int) + 1))) = ((n * (T + 1) : Nat) : Int) := by
  have hT := h.t
  have hM : n * (T + 1) ≤ 3000 * 121 := Nat.mul_le_mul h.n3 (by omega)
  rw [i64w_id (x := (T : Int) + 1) (by omega) (by omega)]
  have : (n : Int) * ((T : Int) + 1) = ((n * (T + 1) : Nat) : Int) := by simp
  rw [this]
  exact i64w_id (by omega) (by omega)
theorem start (h : Se a n T) {c : T4} (hf : fits a c) : Qr a n T (stL (List.replicate (n * (T + 1)) false) ((ix a n ⟨0, c⟩ : Nat) : Int) true) [(⟨0, c, 0, 0, true⟩ : Nd)] [(⟨(⟨0, c⟩ : Mo), -1, 0⟩ : Sp)] (mSet ([] : KB) (⟨0, c⟩ : Mo) true) := by
  have h0 : okM a (T : Int) (⟨0, c⟩ : Mo) := ⟨⟨Int.le_refl _, Int.natCast_nonneg _⟩, hf⟩
  obtain ⟨x1, x2⟩ := ix_lt h h0
  refine ⟨by simp [stL], rfl, Nat.le_refl _, fun i h1 h2 => ?_, fun i h1 h2 => ?_, by simp, fun y hy => ?_, by simp [mSet, mIdx], fun y => ?_⟩
  · have : i = 0 := by simp at h1; exact h1
    subst this
    exact ⟨rfl, rfl, ⟨Int.le_refl 0, show (0 : Int) ≤ 255 by decide⟩, h0⟩
  · have : i = 0 := by simp at h1; exact h1
    subst this
    exact .inl ⟨rfl, rfl, rfl⟩
  · obtain ⟨y1, y2⟩ := ix_lt h hy
    have e : rdL (stL (List.replicate (n * (T + 1)) false) ((ix a n ⟨0, c⟩ : Nat) : Int) true) ((ix a n y : Nat) : Int) false = decide (ix a n ⟨0, c⟩ = ix a n y) := by
      simp only [rdL, stL, Int.toNat_natCast, List.getD, List.getElem?_set, List.length_replicate, List.getElem?_replicate]
      by_cases q : ix a n ⟨0, c⟩ = ix a n y
      · rw [if_pos q, if_pos x1]; simp [q]
      · rw [if_neg q, if_pos y1]; simp [q]
    rw [e, decide_eq_true_eq]
    show _ ↔ y ∈ [(⟨0, c⟩ : Mo)]
    rw [List.mem_singleton]
    exact ⟨fun g => by rw [← y2, ← x2, g], fun g => by rw [g]⟩
  · rw [mGet_set (kv := ([] : KB)) (by simp)]
    show _ ↔ y ∈ [(⟨0, c⟩ : Mo)]
    rw [List.mem_singleton]
    by_cases g : y = ⟨0, c⟩
    · rw [if_pos g]; exact ⟨fun _ => g, fun _ => rfl⟩
    · rw [if_neg g]; exact ⟨fun e => (by cases e), fun e => absurd e g⟩
end
theorem laws_FnExactPlanFrom.told (a0 : List (Int)) (h0 : ∀ x ∈ a0, IntKind.min .i16 ≤ x ∧ x ≤ IntKind.max .i16) (l0 : a0.length ≤ 9223372036854775807) (a1 : Ar Int 4) (h1 : ∀ y ∈ a1.l, IntKind.min .i16 ≤ y ∧ y ≤ IntKind.max .i16) (a2 : Int) (h2 : IntKind.min .i64 ≤ a2 ∧ a2 ≤ IntKind.max .i64) : ∃ N, laws_FnExactPlanFrom.f N a0 a1 a2 = some true := by
  refine ⟨1152921504606846976, ?_⟩
  generalize hN : 1152921504606846976 = N
  unfold laws_FnExactPlanFrom.f
  by_cases hl : (a0.length : Int) > 1048576
  · rw [if_pos hl]
  · rw [if_neg hl]
    have hl' : a0.length ≤ 1048576 := by omega
    have hb : ∀ x ∈ a0, -32768 ≤ x ∧ x ≤ 32767 := h0
    have tg := toGlasses_eq (N := N) hl' (by omega)
    have tt4 := toTops_eq (N := N) a1 (by omega)
    have eg := eqGlasses_eq (N := N) (c := a0) hl' (by omega)
    have key : ∃ r11 : List Int × Int, spec_PlanFrom.f N a0 a1 a2 = some r11 ∧ impl_PlanFrom.f N a0 a1 a2 = some r11 ∧ r11.1.length ≤ 400000 := by
      unfold spec_PlanFrom.f impl_PlanFrom.f
      rw [asked_spec hb (by omega), asked_impl (N := N) (c := a1) (t := a2) hb hl' (by omega), Option.bind_some, Option.bind_some]
      by_cases hc : askedC a0 a1 a2 = 0
      · obtain ⟨hk, t0, t1⟩ := asked_ok hc
        obtain ⟨n, T, hn, hT, hse⟩ := okT_se hk t0 t1
        subst hT
        have hM : n * (T + 1) ≤ 3000 * 121 := Nat.mul_le_mul hse.n3 (by have := hse.t; omega)
        have x0 : okM a0 (T : Int) (⟨0, a1⟩ : Mo) := ⟨⟨Int.le_refl _, Int.natCast_nonneg _⟩, hk.2⟩
        have x1 := (ix_lt hse x0).1
        have hix : hor a0 a1.l = ((ix a0 n ⟨0, a1⟩ : Nat) : Int) := by
          have := (hor_range hse.gl.ok (fits_in hse.gl.len hk.2)).1
          unfold ix; simp; omega
        rw [if_pos hc, if_pos hc, states_eq hb (by omega), Option.bind_some, hn, many_w hse, if_pos ⟨by omega, by omega⟩, index_eq hse.gl.ok hse.gl.len hse.gl.few hk.2 (by omega), Option.bind_some, hix, Int.toNat_natCast, if_pos ⟨by omega, by rw [List.length_replicate]; omega⟩]
        rcases find_both (N := N) hse (by omega) N 0 _ _ _ _ (Nat.zero_le _) (by omega) (start hse hk.2) with ⟨p, p1, p2, p3⟩ | ⟨p2, p3⟩
        · refine ⟨(p, 0), ?_, ?_, p1⟩
          · rw [show rounds (fun s => spec_PlanFrom.b0 N (T : Int) a0 (n : Int) s.1 s.2.1 s.2.2) N (stL (List.replicate (n * (T + 1)) false) ((ix a0 n ⟨0, a1⟩ : Nat) : Int) true, [(⟨0, a1, 0, 0, true⟩ : Nd)], 0) = _ from p2]; rfl
          · rw [show rounds (fun s => impl_PlanFrom.b0 N (T : Int) a0 s.1 s.2.1 s.2.2) N ([(⟨(⟨0, a1⟩ : Mo), -1, 0⟩ : Sp)], mSet ([] : KB) (⟨0, a1⟩ : Mo) true, 0) = _ from p3]; rfl
        · refine ⟨([], 6), ?_, ?_, by simp⟩
          · rw [show rounds (fun s => spec_PlanFrom.b0 N (T : Int) a0 (n : Int) s.1 s.2.1 s.2.2) N (stL (List.replicate (n * (T + 1)) false) ((ix a0 n ⟨0, a1⟩ : Nat) : Int) true, [(⟨0, a1, 0, 0, true⟩ : Nd)], 0) = _ from p2]; rfl
          · rw [show rounds (fun s => impl_PlanFrom.b0 N (T : Int) a0 s.1 s.2.1 s.2.2) N ([(⟨(⟨0, a1⟩ : Mo), -1, 0⟩ : Sp)], mSet ([] : KB) (⟨0, a1⟩ : Mo) true, 0) = _ from p3]; rfl
      · rw [if_neg hc, if_neg hc]
        exact ⟨_, rfl, rfl, by simp⟩
    obtain ⟨⟨l, d⟩, k1, k2, k3⟩ := key
    simp only at k3
    obtain ⟨l1, m1⟩ := markGlasses_eq (N := N) (a := a0) (k := 1) (by omega) hl' (by omega)
    have es := eqBytes_eq (a := l) (c := l) (N := N) (by omega) (by omega)
    rw [decide_eq_true rfl] at es
    have ms := markByteS_eq (N := N) (a := l) (k := 1) (by omega) (by omega) (by omega)
    have hs := heldByteS_eq (N := N) (n := l.length) (k := 1) (by omega) (by omega) (by omega)
    simp only [tg, tt4, k1, k2, es, eg, m1, ms, hs, Option.bind_some, decide_true, if_true, if_neg (show ¬ (1 + (a0.length : Int) < 0) by omega), if_neg (show ¬ (1 + (l.length : Int) < 0) by omega)]
end Go.Proofs.YtioefkcldfjobaaX
