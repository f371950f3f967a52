/- FnExactRunsDown is true on every input: the plain side. -/
import Derived.Test.YtgachgjcnmeicaaYU
namespace Go.Proofs.YtgachgjcnmeicaaX
open Go
set_option linter.unusedVariables false

theorem max_spec (N : Nat) (x y : Int) : spec_l00Max.f N x y = some (max x y) := by
  simp only [spec_l00Max.f]
  split <;> simp <;> omega
theorem max_impl (x y : Int) : mxI x y = max x y := by
  unfold mxI
  split <;> omega
theorem RunsDown_same {N : Nat} {a : List Int} {c : Ar Int 4} (hb : ∀ x ∈ a, -32768 ≤ x ∧ x ≤ 32767) (h : a.length ≤ 1048576) (hN : a.length + 10 < N) : ∃ r, spec_RunsDown.f N a c = some r ∧ impl_RunsDown.f N a c = some r := by
  classical
  simp only [spec_RunsDown.f, impl_RunsDown.f, okT_spec hb (show 5 < N by omega), okT_impl hb h (show a.length + 5 < N by omega), Option.bind_some, decide_eq_true_eq]
  by_cases hk : okT a c
  · rw [if_pos hk, if_pos hk]
    obtain ⟨l1, l4, ho⟩ := okT_len hk
    have hf := hk.2
    obtain ⟨x, y, z, t, rfl⟩ := four c
    have f0 := hf 0 (by decide)
    have f1 := hf 1 (by decide)
    have f2 := hf 2 (by decide)
    have f3 := hf 3 (by decide)
    have b0 := getD_le ho 0
    have b1 := getD_le ho 1
    have b2 := getD_le ho 2
    have b3 := getD_le ho 3
    simp only [List.getD_cons_zero, List.getD_cons_succ] at f0 f1 f2 f3
    obtain ⟨M, rfl⟩ : ∃ M, N = M + 6 := ⟨N - 6, by omega⟩
    have i1 : slices_Max_int16_int16.f (M + 6) [x, y, z, t] = some (max (max (max x y) z) t) := by
      simp only [← max_impl]
      rfl
    rw [i1]
    have s : ∀ (acc v : Int) (i : Nat), i < 4 → i < a.length → (Ar.mk [x, y, z, t] rfl : Ar Int 4).get (i : Int) 0 = v → 0 ≤ v → v ≤ 40 → spec_RunsDown.b0 (M + 6) a ⟨[x, y, z, t], rfl⟩ acc (i : Int) = some (.next (max acc v, ((i + 1 : Nat) : Int))) := by
      intro acc v i h4 hl hv h0 h40
      have g1 : (i : Int) < a.length := by omega
      have g2 : (0 : Int) ≤ i := by omega
      have g3 : (i : Int) < 4 := by omega
      simp only [spec_RunsDown.b0, g1, g2, g3, and_self, if_true, hv, i64w_id (x := v) (by omega) (by omega), max_spec, Option.bind_some, i64w_succ h4 (by decide)]
    have o : ∀ (n : Nat) (acc : Int), a.length = n → spec_RunsDown.b0 (M + 6) a ⟨[x, y, z, t], rfl⟩ acc (n : Int) = some (.out (.go acc)) := by
      intro n acc hn
      simp only [spec_RunsDown.b0]
      rw [if_neg (by omega)]
    have hlen : a.length = 1 ∨ a.length = 2 ∨ a.length = 3 ∨ a.length = 4 := by omega
    have fin : ∀ m : Int, rounds (fun s => spec_RunsDown.b0 (M + 6) a ⟨[x, y, z, t], rfl⟩ s.1 s.2) (M + 6) (0, 0) = some (.go m) → 0 ≤ m → m ≤ 40 → m = max (max (max x y) z) t →
        ∃ r, (rounds (fun s => spec_RunsDown.b0 (M + 6) a ⟨[x, y, z, t], rfl⟩ s.1 s.2) (M + 6) (0, 0)).bind (Ex.fin fun s => spec_RunsDown.a0 (M + 6) s) = some r ∧
          (some (max (max (max x y) z) t)).bind (fun r7 => some (i64w r7, (0 : Int))) = some r := by
      intro m h1 h0 h40 hm
      refine ⟨(m, 0), by rw [h1]; rfl, ?_⟩
      rw [← hm]
      simp only [Option.bind_some, i64w_id (x := m) (by omega) (by omega)]
    rcases hlen with e | e | e | e
    · have d1 := getD_out (a := a) (i := 1) (by omega)
      have d2 := getD_out (a := a) (i := 2) (by omega)
      have d3 := getD_out (a := a) (i := 3) (by omega)
      refine fin (max 0 x) ?_ (by omega) (by omega) (by omega)
      rw [rounds_next (s := (0, 0)) (s 0 x 0 (by decide) (by omega) rfl (by omega) (by omega))]
      exact rounds_out (s := (_, _)) (o _ _ e)
    · have d2 := getD_out (a := a) (i := 2) (by omega)
      have d3 := getD_out (a := a) (i := 3) (by omega)
      refine fin (max (max 0 x) y) ?_ (by omega) (by omega) (by omega)
      rw [rounds_next (s := (0, 0)) (s 0 x 0 (by decide) (by omega) rfl (by omega) (by omega)),
        rounds_next (s := (_, _)) (s _ y 1 (by decide) (by omega) rfl (by omega) (by omega))]
      exact rounds_out (s := (_, _)) (o _ _ e)
    · have d3 := getD_out (a := a) (i := 3) (by omega)
      refine fin (max (max (max 0 x) y) z) ?_ (by omega) (by omega) (by omega)
      rw [rounds_next (s := (0, 0)) (s 0 x 0 (by decide) (by omega) rfl (by omega) (by omega)),
        rounds_next (s := (_, _)) (s _ y 1 (by decide) (by omega) rfl (by omega) (by omega)),
        rounds_next (s := (_, _)) (s _ z 2 (by decide) (by omega) rfl (by omega) (by omega))]
      exact rounds_out (s := (_, _)) (o _ _ e)
    · refine fin (max (max (max (max 0 x) y) z) t) ?_ (by omega) (by omega) (by omega)
      rw [rounds_next (s := (0, 0)) (s 0 x 0 (by decide) (by omega) rfl (by omega) (by omega)),
        rounds_next (s := (_, _)) (s _ y 1 (by decide) (by omega) rfl (by omega) (by omega)),
        rounds_next (s := (_, _)) (s _ z 2 (by decide) (by omega) rfl (by omega) (by omega)),
        rounds_next (s := (_, _)) (s _ t 3 (by decide) (by omega) rfl (by omega) (by omega))]
      exact rounds_out (s := (_, _)) (o _ _ e)
  · rw [if_neg hk, if_neg hk]
    exact ⟨_, rfl, rfl⟩

theorem laws_FnExactRunsDown.told (a0 : List Int) (h0 : ∀ x ∈ a0, IntKind.min .i16 ≤ x ∧ x ≤ IntKind.max .i16) (l0 : a0.length ≤ 9223372036854775807) (a1 : Ar Int 4) (h1 : ∀ x ∈ a1.l, IntKind.min .i16 ≤ x ∧ x ≤ IntKind.max .i16) : ∃ N, laws_FnExactRunsDown.f N a0 a1 = some true := by
  rw [min_i16, max_i16] at h0
  by_cases h : (a0.length : Int) > 1048576
  · exact ⟨0, by simp only [laws_FnExactRunsDown.f, if_pos h]⟩
  · refine ⟨a0.length + 80, ?_⟩
    have hl : a0.length ≤ 1048576 := by omega
    obtain ⟨r, e1, e2⟩ := RunsDown_same (c := a1) h0 hl (show a0.length + 10 < a0.length + 80 by omega)
    simp only [laws_FnExactRunsDown.f, if_neg h, toGlasses_eq hl (show a0.length < a0.length + 80 by omega), toTops_eq a1 (show 4 < a0.length + 80 by omega), Option.bind_some, e1, e2, eqGlasses_eq (c := a0) hl (show a0.length < a0.length + 80 by omega)]
    simp
end Go.Proofs.YtgachgjcnmeicaaX
