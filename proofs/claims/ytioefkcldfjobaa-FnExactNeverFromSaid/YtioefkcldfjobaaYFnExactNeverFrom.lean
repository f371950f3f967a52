/- FnExactNeverFrom is true on every input: the plain side. -/
import Derived.Test.YtioefkcldfjobaaYW
namespace Go.Proofs.YtioefkcldfjobaaX
open Go
set_option linter.unusedVariables false
set_option linter.unusedSimpArgs false
theorem laws_FnExactNeverFrom.told (a0 : List (Int)) (h0 : ∀ x ∈ a0, IntKind.min .i16 ≤ x ∧ x ≤ IntKind.max .i16) (l0 : a0.length ≤ 9223372036854775807) (a1 : Ar Int 4) (h1 : ∀ y ∈ a1.l, IntKind.min .i16 ≤ y ∧ y ≤ IntKind.max .i16) (a2 : Int) (h2 : IntKind.min .i64 ≤ a2 ∧ a2 ≤ IntKind.max .i64) : ∃ N, laws_FnExactNeverFrom.f N a0 a1 a2 (fun r => r = true) := by
  refine ⟨1152921504606846976, ?_⟩
  generalize hN : 1152921504606846976 = N
  unfold laws_FnExactNeverFrom.f
  by_cases hl : (a0.length : Int) > 1048576
  · rw [if_pos hl]
  · rw [if_neg hl]
    have hl' : a0.length ≤ 1048576 := by omega
    have hb : ∀ x ∈ a0, -32768 ≤ x ∧ x ≤ 32767 := h0
    have tg := toGlasses_eq (N := N) hl' (by omega)
    have tt4 := toTops_eq (N := N) a1 (by omega)
    have eg := eqGlasses_eq (N := N) (c := a0) hl' (by omega)
    have key : ∃ r11 : List Int × Int, spec_NeverFrom.f N a0 a1 a2 = some r11 ∧ r11.1.length ≤ 200 ∧ ∀ Q : List Int × Int → Prop, Q r11 → impl_NeverFrom.f N a0 a1 a2 Q := by
      unfold spec_NeverFrom.f impl_NeverFrom.f
      rw [asked_spec hb (by omega), Option.bind_some]
      have hi := asked_impl (N := N) (c := a1) (t := a2) hb hl' (by omega)
      by_cases hc : askedC a0 a1 a2 = 0
      · obtain ⟨hk, t0, t1⟩ := asked_ok hc
        obtain ⟨n, T, hn, hT, hse⟩ := okT_se hk t0 t1
        subst hT
        obtain ⟨L, g1, g2⟩ := table_eq (N := N) hse (by omega) hk.2 (by rw [states_eq hb (by omega), hn])
        have hTT := hse.t
        have hst : spec_l07Times.f N a0 a1 1 (T : Int) false = some (tms n (Gt N a0 n T a1 T) false (T + 1)) := by
          unfold spec_l07Times.f
          rw [g1, Option.bind_some]
          have g := spec_tms (N := N) hse (by omega) g2 false N 1 (by omega) (by omega)
          have z : tms n (Gt N a0 n T a1 T) false 1 = [] := by
            show [] ++ (if pr n (Gt N a0 n T a1 T) 0 = false then [((0 : Nat) : Int)] else []) = []
            rw [pr_zero hse hk.2]
            rfl
          rw [z] at g
          rw [show rounds (fun s => spec_l07Times.b0 N (T : Int) L false s.1 s.2) N (([] : List Int), 1) = _ from g]
          rfl
        rw [if_pos hc, hst, Option.bind_some]
        refine ⟨_, rfl, Nat.le_trans (tms_len _) (by omega), fun Q hQ => ⟨0, by rw [hi, hc], ?_⟩⟩
        rw [if_pos rfl]
        exact times_all hse (by omega) hk.2 false hQ
      · rw [if_neg hc]
        refine ⟨_, rfl, by simp, fun Q hQ => ⟨_, hi, ?_⟩⟩
        rw [if_neg hc]
        exact hQ
    obtain ⟨⟨l, d⟩, k1, k2, k3⟩ := key
    simp only at k2
    obtain ⟨l1, m1⟩ := markGlasses_eq (N := N) (a := a0) (k := 1) (by omega) hl' (by omega)
    have es := eqInt64S_same (a := l) (N := N) (by omega) (by omega)
    have ms := markInt64S_eq (N := N) (a := l) (k := 1) (by omega) (by omega) (by omega)
    have hs := heldInt64S_eq (N := N) (n := l.length) (k := 1) (by omega) (by omega) (by omega)
    refine ⟨_, tg, _, tt4, _, k1, _, tg, _, tt4, k3 _ ⟨_, es, ?_⟩⟩
    rw [if_pos rfl, if_pos rfl]
    refine ⟨_, tg, _, eg, ?_⟩
    rw [if_pos (by simp)]
    refine ⟨_, m1, ?_⟩
    rw [if_neg (by simp only; omega)]
    refine ⟨_, es, ?_⟩
    rw [if_pos rfl, if_pos rfl]
    refine ⟨_, ms, _, hs, ?_⟩
    rw [if_neg (by omega), if_pos rfl]
    refine ⟨_, tg, _, tt4, _, k3 _ rfl, _, es, ?_⟩
    rw [if_pos rfl, if_pos rfl]
    refine ⟨_, hs, ?_⟩
    rw [if_neg (by omega), if_pos rfl]
end Go.Proofs.YtioefkcldfjobaaX
