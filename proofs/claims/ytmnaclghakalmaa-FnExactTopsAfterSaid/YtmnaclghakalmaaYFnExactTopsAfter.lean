/- FnExactTopsAfter is true on every input: the plain side. -/
import Derived.Test.YtmnaclghakalmaaYD
import Derived.Test.YtmnaclghakalmaaXMark
namespace Go.Proofs.YtmnaclghakalmaaX
open Go
set_option linter.unusedVariables false
set_option linter.unusedSimpArgs false
theorem markGlasses_eq {N : Nat} {a : List Int} {k : Int} (hk : 0 ≤ k ∧ k ≤ 1048578) (h : a.length ≤ 1048576) (hN : a.length < N) : ∃ l, laws_markGlasses.f N a k = some (k + a.length, l) := by
  refine ⟨marked i16w k a.length, ?_⟩
  unfold laws_markGlasses.f
  rw [rounds_mark i16w a k hN ?_ ?_]
  · rfl
  · intro x i hi hx
    simp only [laws_markGlasses.b0]
    rw [if_pos (by omega), if_pos ⟨by omega, by omega⟩, stL_nat, i64w_succ hi (by omega), i64w_id (x := k + (i : Int) + 1) (by omega) (by omega), show k + (i : Int) + 1 = k + ((i + 1 : Nat) : Int) by omega]
  · intro x hx
    simp only [laws_markGlasses.b0]
    rw [if_neg (by omega)]
theorem laws_FnExactTopsAfter.told (a0 : List (Int)) (h0 : ∀ x ∈ a0, IntKind.min .i16 ≤ x ∧ x ≤ IntKind.max .i16) (l0 : a0.length ≤ 9223372036854775807) (a1 : Ar Int 4) (h1 : ∀ y ∈ a1.l, IntKind.min .i16 ≤ y ∧ y ≤ IntKind.max .i16) (a2 : Int) (h2 : IntKind.min .i64 ≤ a2 ∧ a2 ≤ IntKind.max .i64) : ∃ N, laws_FnExactTopsAfter.f N a0 a1 a2 (fun r => r = true) := by
  refine ⟨1152921504606846976, ?_⟩
  generalize hN : 1152921504606846976 = N
  unfold laws_FnExactTopsAfter.f
  by_cases hl : (a0.length : Int) > 1048576
  · rw [if_pos hl]
  · rw [if_neg hl]
    have hl' : a0.length ≤ 1048576 := by omega
    have hb : ∀ x ∈ a0, -32768 ≤ x ∧ x ≤ 32767 := h0
    have tg := toGlasses_eq (N := N) hl' (by omega)
    have tt4 := toTops_eq (N := N) a1 (by omega)
    have eg := eqGlasses_eq (N := N) (c := a0) hl' (by omega)
    have key : ∃ r11 : List (Ar Int 4) × Int, spec_TopsAfter.f N a0 a1 a2 = some r11 ∧ r11.1.length ≤ 3000 ∧ ∀ Q : List (Ar Int 4) × Int → Prop, Q r11 → impl_TopsAfter.f N a0 a1 a2 Q := by
      unfold spec_TopsAfter.f impl_TopsAfter.f
      rw [asked_spec hb (by omega), Option.bind_some]
      have hi := asked_impl (N := N) (c := a1) (t := a2) hb hl' (by omega)
      by_cases hc : askedC a0 a1 a2 = 0
      · obtain ⟨hk, t0, t1⟩ := asked_ok hc
        obtain ⟨n, T, hn, hT, hse⟩ := okT_se hk t0 t1
        subst hT
        obtain ⟨L, g1, g2⟩ := table_eq (N := N) hse (by omega) hk.2 (by rw [states_eq hb (by omega), hn])
        have gl := g2.len
        have hn3 := hse.n3
        obtain ⟨R, q1, q2, q3⟩ := spec_rows (N := N) hse (by omega) g2 (Nat.le_refl T)
        have hRn := rise_nodup q2
        rw [if_pos hc, g1, Option.bind_some, if_pos ⟨by omega, by omega⟩, q1, Option.bind_some]
        have hRl : R.length ≤ 3000 := by
          have := hRn.length_le_of_subset (l₂ := (List.range n).map fun k : Nat => atT a0 (k : Int)) fun z hz => by
            obtain ⟨k, k1, _, k3⟩ := (q3 z).1 hz
            exact List.mem_map.2 ⟨k, List.mem_range.2 k1, k3.symm⟩
          simp at this
          omega
        refine ⟨_, rfl, hRl, fun Q hQ => ⟨0, by rw [hi, hc], ?_⟩⟩
        rw [if_pos rfl]
        refine turns_all (N := N) hse (by omega) hk.2 fun xs r => ?_
        have xl := r.len
        obtain ⟨kv, k1, k2⟩ := r.row T (Nat.le_refl T)
        have hkl := k2.len hse
        rw [if_pos ⟨by omega, by omega⟩, if_pos (by rw [k1]; rfl)]
        have e0 : (rdL xs (T : Int) none).getD [] = kv := by rw [k1]; rfl
        rw [e0]
        refine impl_rows (N := N) hse k1 (by omega) (fun X hX => ?_) N [] kv (by omega) (by simp)
        show impl_TopsAfter.a0 N X Q
        unfold impl_TopsAfter.a0 slices_SortFunc_impl_Tops_impl_Tops.f
        have hXl := hX.length_eq
        simp only [List.length_map] at hXl
        have hXn : X.Nodup := hX.nodup_iff.2 k2.nd
        obtain ⟨s1, s2⟩ := sorted_rises hXn
        have hsame : tSorted X = R := by
          refine rise_eq _ _ s1 q2 fun z => ?_
          rw [s2, q3, hX.mem_iff]
          constructor
          · intro hz
            obtain ⟨p, hp, rfl⟩ := List.mem_map.1 hz
            obtain ⟨k, v, j1, j2, j3⟩ := k2.el p hp
            exact ⟨k, j1, by rw [j3]; simp, by rw [j2]⟩
          · rintro ⟨k, j1, j2, rfl⟩
            cases e : Gt N a0 n T a1 T T k with
            | none => exact absurd e j2
            | some v => exact List.mem_map.2 ⟨_, k2.so k v j1 e, rfl⟩
        refine ⟨tSorted X, if_pos (by omega), ?_⟩
        rw [hsame]
        exact hQ
      · rw [if_neg hc]
        refine ⟨_, rfl, by simp, fun Q hQ => ⟨_, hi, ?_⟩⟩
        rw [if_neg hc]
        exact hQ
    obtain ⟨⟨l, d⟩, k1, k2, k3⟩ := key
    simp only at k2
    obtain ⟨l1, m1⟩ := markGlasses_eq (N := N) (a := a0) (k := 1) (by omega) hl' (by omega)
    have es := eqTopsS_self (N := N) l k2 (by omega)
    have ms := mark_tops (N := N) l k2 (by omega)
    have hs := held_tops (N := N) (n := l.length) k2 (by omega)
    refine ⟨_, tg, _, tt4, _, k1, _, tg, _, tt4, k3 _ ⟨_, es, ?_⟩⟩
    rw [if_pos rfl, if_pos rfl]
    refine ⟨_, tg, _, eg, ?_⟩
    rw [if_pos (by simp)]
    refine ⟨_, m1, ?_⟩
    rw [if_neg (by simp only; omega)]
    refine ⟨_, es, ?_⟩
    rw [if_pos rfl, if_pos rfl]
    refine ⟨_, ms, _, hs, ?_⟩
    rw [if_neg (by omega), if_pos rfl]
    refine ⟨_, tg, _, tt4, _, k3 _ rfl, _, es, ?_⟩
    rw [if_pos rfl, if_pos rfl]
    refine ⟨_, hs, ?_⟩
    rw [if_neg (by omega), if_pos rfl]
end Go.Proofs.YtmnaclghakalmaaX
