/- FnExactPlansFor is true on every input: the plain side. -/
import Derived.Test.YtioefkcldfjobaaYQ
namespace Go.Proofs.YtioefkcldfjobaaX
open Go
set_option linter.unusedVariables false
set_option linter.unusedSimpArgs false
section
variable {a : List Int} {n T N : Nat}
theorem b1_ways (h : Se a n T) (hN : 300000000000000 < N) {c : T4} {E : Nat} (hE : E ≤ 12) {k : Nat} (ck : k < E) {kv : KM} (r : RepI a n T kv (Fk N a n T c k)) (hl : kv.length ≤ 16 ^ k) {Q : Bd (Int × Int) KM (KM × Int) → Prop}
    (hQ : ∀ kv', RepI a n T kv' (Fk N a n T c (k + 1)) → kv'.length ≤ 16 ^ (k + 1) → Q (.next (kv', ((k + 1 : Nat) : Int)))) : impl_PlansFor.b1 N (E : Int) a (T : Int) kv (k : Int) Q := by
  unfold impl_PlansFor.b1
  rw [if_pos (by omega)]
  have hp : 16 ^ k ≤ 16 ^ 12 := Nat.pow_le_pow_right (by omega) (by omega)
  refine walk_ways (N := N) (F := Fk N a n T c k) (B := 16 * 16 ^ k) h (by omega) ?_ N [] kv (fun _ => false) (by omega) ⟨by simp, fun x hx => by simp at hx⟩ (fun j hj => by rw [Sm_none]; rfl) (r.lf h) (by simp; omega)
  intro kv' r' hl'
  show Q (.next (kv', i64w ((k : Int) + 1)))
  have e1 : i64w ((k : Int) + 1) = ((k + 1 : Nat) : Int) := i64w_id (by omega) (by omega)
  rw [e1]
  exact hQ kv' r' (by rw [Nat.pow_succ, Nat.mul_comm]; exact hl')
theorem walk_events (h : Se a n T) (hN : 300000000000000 < N) {c : T4} {E : Nat} (hE : E ≤ 12) {Kf : Ex (Int × Int) KM → Prop} (hK : ∀ kv, RepI a n T kv (Fk N a n T c E) → kv.length ≤ 16 ^ E → Kf (.go kv)) :
    ∀ (m k : Nat) (kv : KM), k ≤ E → E - k < m → RepI a n T kv (Fk N a n T c k) → kv.length ≤ 16 ^ k → roundsD (fun s : KM × Int => impl_PlansFor.b1 N (E : Int) a (T : Int) s.1 s.2) m (kv, (k : Int)) Kf := by
  intro m
  induction m with
  | zero => intro k kv _ hm; exact absurd hm (Nat.not_lt_zero _)
  | succ m ih =>
    intro k kv hk hm r hl
    by_cases ck : k < E
    · exact b1_ways h hN hE ck r hl fun kv' r' hl' => ih (k + 1) kv' (by omega) (by omega) r' hl'
    · have : k = E := by omega
      subst this
      show impl_PlansFor.b1 N (k : Int) a (T : Int) kv (k : Int) _
      have e : ∀ Q, Q (.out (.go kv)) → impl_PlansFor.b1 N (k : Int) a (T : Int) kv (k : Int) Q := by
        intro Q hQ
        unfold impl_PlansFor.b1
        rw [if_neg (by omega)]
        exact hQ
      exact e _ (hK kv r hl)
theorem impl_ways (h : Se a n T) (hN : 300000000000000 < N) {c : T4} (hf : fits a c) {E : Nat} (hE : E ≤ 12) {Q : Int × Int → Prop} (hQ : Q (i64w (Sm tt (atEnd n T (Fk N a n T c E)) (n * (T + 1))), 0)) :
    impl_PlansFor.j0 N (E : Int) a (T : Int) c 0 Q := by
  unfold impl_PlansFor.j0
  rw [if_pos rfl]
  have h0 : okM a (T : Int) (⟨0, c⟩ : Mo) := ⟨⟨Int.le_refl _, Int.natCast_nonneg _⟩, hf⟩
  obtain ⟨x1, x2⟩ := ix_lt h h0
  refine walk_events (c := c) h hN hE ?_ N 0 _ (Nat.zero_le _) (by omega) ⟨⟨by simp [mSet, mIdx], fun k hk => by
      have : k = ⟨0, c⟩ := by simpa [mSet, mIdx] using hk
      subst this; exact h0⟩, fun i hi => ?_⟩ (by simp [mSet, mIdx])
  · intro kv r hl
    have hp : 16 ^ E ≤ 16 ^ 12 := Nat.pow_le_pow_right (by omega) (by omega)
    show impl_PlansFor.a1 N (T : Int) kv Q
    unfold impl_PlansFor.a1
    refine walk_sum h (F := Fk N a n T c E) ?_ N 0 kv (fun _ => false) (by omega) (by rw [Sm_none]; rfl) (r.lf h)
    exact hQ
  · have e := mGet_set (kv := ([] : KM)) (by simp) (⟨0, c⟩ : Mo) 1 (Kx a n i) 0
    rw [e]
    show _ = if i = ix a n ⟨0, c⟩ then 1 else 0
    by_cases ci : i = ix a n ⟨0, c⟩
    · rw [if_pos ci, if_pos (by rw [ci, x2])]
    · rw [if_neg ci, if_neg (fun g => ci (by rw [← g, Kx_ix h]))]
      rfl
end
theorem laws_FnExactPlansFor.told (a0 : List (Int)) (h0 : ∀ x ∈ a0, IntKind.min .i16 ≤ x ∧ x ≤ IntKind.max .i16) (l0 : a0.length ≤ 9223372036854775807) (a1 : Ar Int 4) (h1 : ∀ y ∈ a1.l, IntKind.min .i16 ≤ y ∧ y ≤ IntKind.max .i16) (a2 : Int) (h2 : IntKind.min .i64 ≤ a2 ∧ a2 ≤ IntKind.max .i64) (a3 : Int) (h3 : IntKind.min .i64 ≤ a3 ∧ a3 ≤ IntKind.max .i64) : ∃ N, laws_FnExactPlansFor.f N a0 a1 a2 a3 (fun r => r = true) := by
  refine ⟨1152921504606846976, ?_⟩
  generalize hN : 1152921504606846976 = N
  unfold laws_FnExactPlansFor.f
  by_cases hl : (a0.length : Int) > 1048576
  · rw [if_pos hl]
  · rw [if_neg hl]
    have hl' : a0.length ≤ 1048576 := by omega
    have hb : ∀ x ∈ a0, -32768 ≤ x ∧ x ≤ 32767 := h0
    have tg := toGlasses_eq (N := N) hl' (by omega)
    have tt4 := toTops_eq (N := N) a1 (by omega)
    have eg := eqGlasses_eq (N := N) (c := a0) hl' (by omega)
    have key : ∃ r12, spec_PlansFor.f N a0 a1 a2 a3 = some r12 ∧ ∀ Q : Int × Int → Prop, Q r12 → impl_PlansFor.f N a0 a1 a2 a3 Q := by
      unfold spec_PlansFor.f impl_PlansFor.f
      rw [asked_spec hb (by omega), Option.bind_some]
      have hi := asked_impl (N := N) (c := a1) (t := a2) hb hl' (by omega)
      by_cases hc : askedC a0 a1 a2 = 0
      · obtain ⟨hk, t0, t1⟩ := asked_ok hc
        obtain ⟨n, T, hn, hT, hse⟩ := okT_se hk t0 t1
        subst hT
        rw [if_pos hc]
        by_cases he : 0 ≤ a3 ∧ a3 ≤ 12
        · obtain ⟨E, hE⟩ := Int.eq_ofNat_of_zero_le he.1
          have hin : spec_l00In.f N a3 0 12 = some true := by unfold spec_l00In.f; rw [if_pos he.1, decide_eq_true he.2]
          have hwi : impl_within.f N a3 0 12 = some true := by unfold impl_within.f; rw [if_pos he.1, decide_eq_true he.2]
          rw [hin, Option.bind_some, if_pos rfl, hc]
          subst hE
          rw [spec_ways hse (by omega) hk.2 (show E ≤ 12 by omega) (by rw [states_eq hb (by omega), hn])]
          refine ⟨_, rfl, fun Q hQ => ⟨0, by rw [hi, hc], ?_⟩⟩
          rw [if_pos rfl]
          refine ⟨true, hwi, 0, rfl, ?_⟩
          exact impl_ways hse (by omega) hk.2 (show E ≤ 12 by omega) hQ
        · have hin : spec_l00In.f N a3 0 12 = some false := by
            unfold spec_l00In.f
            by_cases g : a3 ≥ 0
            · rw [if_pos g, decide_eq_false (fun g2 => he ⟨g, g2⟩)]
            · rw [if_neg g]
          have hwi : impl_within.f N a3 0 12 = some false := by
            unfold impl_within.f
            by_cases g : 0 ≤ a3
            · rw [if_pos g, decide_eq_false (fun g2 => he ⟨g, g2⟩)]
            · rw [if_neg g]
          rw [hin, Option.bind_some, if_neg Bool.false_ne_true]
          refine ⟨(0, 2), rfl, fun Q hQ => ⟨0, by rw [hi, hc], ?_⟩⟩
          rw [if_pos rfl]
          exact ⟨false, hwi, 2, rfl, hQ⟩
      · rw [if_neg hc]
        refine ⟨(0, askedC a0 a1 a2), by unfold spec_PlansFor.j0; rw [if_neg hc], fun Q hQ => ⟨_, hi, ?_⟩⟩
        rw [if_neg hc]
        unfold impl_PlansFor.j0
        rw [if_neg hc]
        exact hQ
    obtain ⟨r12, k1, k2⟩ := key
    refine ⟨_, tg, _, tt4, _, k1, _, tg, _, tt4, k2 _ ?_⟩
    rw [if_pos rfl, if_pos rfl]
    refine ⟨_, tg, _, eg, ?_⟩
    rw [if_pos (by simp)]
end Go.Proofs.YtioefkcldfjobaaX
