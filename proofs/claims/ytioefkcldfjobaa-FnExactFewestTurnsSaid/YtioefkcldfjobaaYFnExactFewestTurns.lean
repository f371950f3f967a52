/- FnExactFewestTurns is true on every input: the plain side. -/
import Derived.Test.YtioefkcldfjobaaYL
namespace Go.Proofs.YtioefkcldfjobaaX
open Go
set_option linter.unusedVariables false
set_option linter.unusedSimpArgs false
section
variable {a : List Int} {n T N : Nat}
theorem walk_least (h : Se a n T) {f : Nat → Option Nat} {kv0 : KT} {xs : List (Option KT)} (h0 : rdL xs (T : Int) none = some kv0) {Kf : Ex (Int × Int) Int → Prop} (hK : Kf (.go (vi (Om tt f n)))) :
    ∀ (m : Nat) (x : Int) (l : KT) (don : Nat → Bool), l.length < m → x = vi (Om don f n) → Lt a n f don l → roundsD (fun s : Int × KT => impl_FewestTurns.b0 N xs (T : Int) s.1 s.2) m (x, l) Kf := by
  intro m
  induction m with
  | zero => intro x l don hm; exact absurd hm (Nat.not_lt_zero _)
  | succ m ih =>
    intro x l don hm hx hl
    show impl_FewestTurns.b0 N xs (T : Int) x l _
    unfold impl_FewestTurns.b0
    refine ⟨by rw [h0]; rfl, fun e => ?_, fun p rest hp => ?_⟩
    · show Kf (.go x)
      rw [hx, Om_all (don := don) fun i hi hd => ?_]
      · exact hK
      · cases e2 : f i with
        | none => rfl
        | some v =>
          have := hl.so i v hi e2 hd
          rw [e] at this
          cases this
    · obtain ⟨k, v, hk, rfl, hv, hd, hl'⟩ := hl.step h hp
      have hlen := hp.length_eq
      simp only [List.length_cons] at hlen
      have hnew : vi (Om (fun j => don j || (j == k)) f n) = if x < 0 then (v : Int) else if (v : Int) < x then (v : Int) else x := by
        rw [Om_more hd, if_pos hk, hv, hx]
        cases e : Om don f n with
        | none => rw [if_pos (show vi none < 0 by decide)]; rfl
        | some u =>
          rw [if_neg (show ¬ vi (some u) < 0 by simp only [vi]; omega)]
          show ((min u v : Nat) : Int) = if (v : Int) < (u : Int) then (v : Int) else (u : Int)
          split
          · rw [Nat.min_eq_right (by omega)]
          · rw [Nat.min_eq_left (by omega)]
      have go : ∀ y, y = vi (Om (fun j => don j || (j == k)) f n) → roundsD (fun s : Int × KT => impl_FewestTurns.b0 N xs (T : Int) s.1 s.2) m (y, rest) Kf := fun y hy => ih y rest _ (by omega) hy hl'
      dsimp only
      by_cases c1 : x < 0
      · rw [if_pos c1]
        exact go _ (by rw [hnew, if_pos c1])
      · rw [if_neg c1]
        by_cases c2 : (v : Int) < x
        · rw [if_pos c2]
          exact go _ (by rw [hnew, if_neg c1, if_pos c2])
        · rw [if_neg c2]
          exact go _ (by rw [hnew, if_neg c1, if_neg c2])
end
theorem laws_FnExactFewestTurns.told (a0 : List (Int)) (h0 : ∀ x ∈ a0, IntKind.min .i16 ≤ x ∧ x ≤ IntKind.max .i16) (l0 : a0.length ≤ 9223372036854775807) (a1 : Ar Int 4) (h1 : ∀ y ∈ a1.l, IntKind.min .i16 ≤ y ∧ y ≤ IntKind.max .i16) (a2 : Int) (h2 : IntKind.min .i64 ≤ a2 ∧ a2 ≤ IntKind.max .i64) : ∃ N, laws_FnExactFewestTurns.f N a0 a1 a2 (fun r => r = true) := by
  refine ⟨1152921504606846976, ?_⟩
  generalize hN : 1152921504606846976 = N
  unfold laws_FnExactFewestTurns.f
  by_cases hl : (a0.length : Int) > 1048576
  · rw [if_pos hl]
  · rw [if_neg hl]
    have hl' : a0.length ≤ 1048576 := by omega
    have hb : ∀ x ∈ a0, -32768 ≤ x ∧ x ≤ 32767 := h0
    have tg := toGlasses_eq (N := N) hl' (by omega)
    have tt4 := toTops_eq (N := N) a1 (by omega)
    have eg := eqGlasses_eq (N := N) (c := a0) hl' (by omega)
    have key : ∃ r11, spec_FewestTurns.f N a0 a1 a2 = some r11 ∧ ∀ Q : Int × Int → Prop, Q r11 → impl_FewestTurns.f N a0 a1 a2 Q := by
      unfold spec_FewestTurns.f impl_FewestTurns.f
      rw [asked_spec hb (by omega), Option.bind_some]
      have hi := asked_impl (N := N) (c := a1) (t := a2) hb hl' (by omega)
      by_cases hc : askedC a0 a1 a2 = 0
      · obtain ⟨hk, t0, t1⟩ := asked_ok hc
        obtain ⟨n, T, hn, hT, hse⟩ := okT_se hk t0 t1
        subst hT
        obtain ⟨L, g1, g2⟩ := table_eq (N := N) hse (by omega) hk.2 (by rw [states_eq hb (by omega), hn])
        have gl := g2.len
        rw [if_pos hc, g1, Option.bind_some, if_pos ⟨by omega, by omega⟩, least_row (N := N) hse (by omega) g2 (Nat.le_refl T), Option.bind_some]
        have main : ∀ Q : Int × Int → Prop, Q (if vi (Om tt (Gt N a0 n T a1 T T) n) < 0 then (0, 6) else (vi (Om tt (Gt N a0 n T a1 T T) n), 0)) → ∃ r7, impl_timeCode.f N a0 a1 (T : Int) = some r7 ∧ (if r7 = 0 then (_impl_Glasses_turns.f N a0 a1 (T : Int) fun r8 => (if (0 : Int) ≤ (T : Int) ∧ (T : Int) < (r8.length : Int) then (if (rdL r8 (T : Int) none).isSome = true then (roundsD (fun s => impl_FewestTurns.b0 N r8 (T : Int) s.1 s.2) N ((-1), (rdL r8 (T : Int) none).getD []) (Ex.finD (fun s => impl_FewestTurns.a0 N s Q) Q)) else (False)) else (False))) else (Q (0, r7))) := by
          intro Q hQ
          refine ⟨0, by rw [hi, hc], ?_⟩
          rw [if_pos rfl]
          refine turns_all (N := N) hse (by omega) hk.2 fun xs r => ?_
          have xl := r.len
          obtain ⟨kv, k1, k2⟩ := r.row T (Nat.le_refl T)
          have hkl := k2.len hse
          have hn3 := hse.n3
          rw [if_pos ⟨by omega, by omega⟩, if_pos (by rw [k1]; rfl)]
          have e0 : (rdL xs (T : Int) none).getD [] = kv := by rw [k1]; rfl
          rw [e0]
          refine walk_least (N := N) hse (f := Gt N a0 n T a1 T T) k1 ?_ N (-1) kv (fun _ => false) (by omega) (by rw [Om_no]; rfl) k2.lt
          show impl_FewestTurns.a0 N _ Q
          unfold impl_FewestTurns.a0
          by_cases c : vi (Om tt (Gt N a0 n T a1 T T) n) < 0
          · rw [if_pos c] at hQ ⊢; exact hQ
          · rw [if_neg c] at hQ ⊢; exact hQ
        by_cases c : vi (Om tt (Gt N a0 n T a1 T T) n) < 0
        · rw [if_pos c]
          exact ⟨_, rfl, fun Q hQ => main Q (by rw [if_pos c]; exact hQ)⟩
        · rw [if_neg c]
          exact ⟨_, rfl, fun Q hQ => main Q (by rw [if_neg c]; exact hQ)⟩
      · rw [if_neg hc]
        refine ⟨_, rfl, fun Q hQ => ⟨_, hi, ?_⟩⟩
        rw [if_neg hc]
        exact hQ
    obtain ⟨r11, k1, k2⟩ := key
    refine ⟨_, tg, _, tt4, _, k1, _, tg, _, tt4, k2 _ ?_⟩
    rw [if_pos rfl, if_pos rfl]
    refine ⟨_, tg, _, eg, ?_⟩
    rw [if_pos (by simp)]
end Go.Proofs.YtioefkcldfjobaaX
