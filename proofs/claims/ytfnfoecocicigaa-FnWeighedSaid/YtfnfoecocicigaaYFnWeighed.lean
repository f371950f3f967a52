/- FnWeighed: weights are shared out; the weight's bound holds; the ask that does leaves states for which one question fewer can. -/
import Derived.Test.YtfnfoecocicigaaYH
namespace Go.Proofs.YtfnfoecocicigaaX
open Go
set_option linter.unusedVariables false
set_option linter.unusedSimpArgs false
theorem tot_w {x : Q4} (hx : tot x ≤ 8) : i64w ((i64w ((i64w (((sq x).get 0 0) + ((sq x).get 1 0))) + ((sq x).get 2 0))) + ((sq x).get 3 0)) = ((tot x : Nat) : Int) := by
  have g := small hx
  show i64w ((i64w ((i64w ((x.1 : Int) + (x.2.1 : Int))) + (x.2.2.1 : Int))) + (x.2.2.2 : Int)) = _
  rw [idb (x := (x.1 : Int) + (x.2.1 : Int)) (by omega), idb (x := (x.1 : Int) + (x.2.1 : Int) + (x.2.2.1 : Int)) (by omega), idb (by omega)]
  unfold tot; omega
theorem j4_ok {M L : Nat} (hL : L ≤ 3) (hM : 8000 ≤ M) {x : Q4} (hx : tot x ≤ 8) (hz : Zr L x) {k : Nat} (hk : k ≤ 20) (h1 : canV L k x = true) (h2 : ∀ j, j < k → canV L j x = false) (e : Int) : laws_FnWeighed.j4 (M + 6) ((L : Int), sq x) ((k : Int), e) = some true := by
  unfold laws_FnWeighed.j4
  dsimp only
  rw [find_ok hL hM hx hz hk, Option.bind_some]
  dsimp only
  rw [if_pos rfl, if_pos h1]
  cases k with
  | zero => rfl
  | succ q =>
    have hw : i64w (((q + 1 : Nat) : Int) - 1) = ((q : Nat) : Int) := (idb (by omega)).trans (by omega)
    have hn : canV L q x = false := h2 q (by omega)
    have ht : ¬ tot x ≤ 1 := by
      intro g
      have : canV L q x = true := by
        cases q with
        | zero => exact decide_eq_true g
        | succ q => unfold canV; rw [if_pos g]
      rw [this] at hn; cases hn
    have hs : ((asks x).find? (good L q x)).isSome = true := by
      have h := h1
      unfold canV at h
      rw [if_neg ht] at h
      split at h
      · cases h
      · exact h
    obtain ⟨b, hb⟩ := Option.isSome_iff_exists.1 hs
    have hg := List.find?_some hb
    unfold good at hg
    rw [Bool.and_eq_true] at hg
    have hle := mem_asks (List.mem_of_find?_eq_some hb)
    have tl := tot_le (L := L) hle
    have zs := zr_split hL x b
    obtain ⟨a1, a2⟩ := ask_same hL hM hx hz hk hb
    rw [if_neg (by omega), hw, find_ok hL hM hx hz (by omega), Option.bind_some, a1, Option.bind_some, a2, Option.bind_some]
    dsimp only
    rw [(split_ok (M := M) hL hx hz hle).2, Option.bind_some]
    dsimp only
    rw [if_pos rfl, hn, if_neg Bool.false_ne_true, if_pos rfl, if_pos rfl, if_pos rfl, if_pos rfl, find_ok hL hM (by omega) zs.1 (by omega), Option.bind_some, find_ok hL hM (by omega) zs.2 (by omega), Option.bind_some]
    dsimp only
    rw [if_pos rfl, if_pos hg.1, if_pos rfl, hg.2]
theorem j2_ok {M L : Nat} (hL : L ≤ 3) (hM : 8000 ≤ M) {x : Q4} (hx : tot x ≤ 8) (hz : Zr L x) : laws_FnWeighed.j2 (M + 6) ((L : Int), sq x) = some true := by
  obtain ⟨w, e1, hw⟩ := byWeight_ok (N := M + 6) (by omega) hL hx hz
  unfold laws_FnWeighed.j2
  dsimp only
  rw [e1, Option.bind_some]
  rcases least_ok hL hM hx hz with ⟨r, ⟨r1, r2, r3⟩, g1, g2⟩ | ⟨g1, g2⟩
  · rw [g1, g2, Option.bind_some, Option.bind_some]
    dsimp only
    rw [if_pos rfl, if_pos rfl, if_pos rfl, if_pos rfl]
    unfold laws_FnWeighed.j3
    dsimp only
    rw [if_pos ⟨by decide, by decide⟩, if_pos ⟨by decide, by decide⟩, if_pos ⟨by decide, by decide⟩, if_pos ⟨by decide, by decide⟩, if_neg (by decide), tot_w hx, j4_ok hL hM hx hz r1 r2 r3]
    by_cases ht : tot x ≤ 1
    · have : r = 0 := by
        cases r with
        | zero => rfl
        | succ r =>
          have h0 : canV L 0 x = true := decide_eq_true ht
          rw [r3 0 (by omega)] at h0; cases h0
      subst this
      rw [if_neg (by omega), if_pos (by omega)]; exact if_pos rfl
    · have hwr : w ≤ r := by
        by_cases c : w ≤ r
        · exact c
        · have h1 := hw r (by omega)
          cases r with
          | zero => exact absurd (of_decide_eq_true r2) ht
          | succ r =>
            have h := r2
            unfold canV at h
            rw [if_neg ht, if_pos h1] at h
            cases h
      rw [if_pos (by omega), if_neg (by omega), if_neg (by omega)]
  · rw [g1, g2, Option.bind_some, Option.bind_some]
    dsimp only
    rw [if_pos rfl, if_pos rfl, if_pos rfl, if_neg (by decide), if_pos rfl]
    unfold laws_FnWeighed.j3
    rw [if_pos ⟨by decide, by decide⟩, if_pos ⟨by decide, by decide⟩, if_pos ⟨by decide, by decide⟩, if_pos ⟨by decide, by decide⟩, if_pos rfl]
theorem laws_FnWeighed.told (a0 : List (Int)) (h0 : ∀ x ∈ a0, IntKind.min .u8 ≤ x ∧ x ≤ IntKind.max .u8) (l0 : a0.length ≤ 9223372036854775807) (a1 : List (Int)) (h1 : ∀ x ∈ a1, IntKind.min .u8 ≤ x ∧ x ≤ IntKind.max .u8) (l1 : a1.length ≤ 9223372036854775807) : ∃ N, laws_FnWeighed.f N a0 a1 = some true := by
  refine ⟨9000 + 6, ?_⟩
  unfold laws_FnWeighed.f
  rw [big_ok, Option.bind_some]
  by_cases c0 : (a0.length : Int) > 4096
  · rw [decide_eq_true c0, if_pos rfl]
  rw [decide_eq_false c0, if_neg Bool.false_ne_true, big_ok, Option.bind_some]
  by_cases c1 : (a1.length : Int) > 4096
  · rw [decide_eq_true c1, if_pos rfl]
  rw [decide_eq_false c1, if_neg Bool.false_ne_true]
  obtain ⟨L, x, e1, hL, hx, hz⟩ := state_ok (N := 9000 + 6) (by omega) h0 (by omega)
  obtain ⟨a, e2, ha⟩ := within_ok (N := 9000 + 6) (by omega) h1 (by omega) hx
  obtain ⟨q, e3, hq⟩ := pick30 (N := 9000 + 6) h1 (by omega)
  obtain ⟨s1, s2⟩ := split_ok (M := 9000) hL hx hz ha
  have tl := tot_le (L := L) ha
  have zs := zr_split hL x a
  have w1 : i64w (1 + (q : Int)) = ((q + 1 : Nat) : Int) := (idb (by omega)).trans (by omega)
  have w2 : i64w (((q + 1 : Nat) : Int) - 1) = (q : Int) := (idb (by omega)).trans (by omega)
  have b1 := wt_b hL (show tot (qY L x a) ≤ 8 by omega) (q := q) (by omega)
  have b2 := wt_b hL (show tot (qN L x a) ≤ 8 by omega) (q := q) (by omega)
  obtain ⟨f1, f2, f3⟩ := half_ok (N := 9000 + 6) (by omega) hx
  obtain ⟨v, hv, f3⟩ := f3 0 (L : Int)
  have hi : impl_HalfOf.f (9000 + 6) (L : Int) (sq x) = some (half4 x, 0) := by
    unfold impl_HalfOf.f
    rw [(valid_true (by omega) hL hx hz).2, Option.bind_some, if_pos rfl, f1, Option.bind_some]
  have hs : spec_HalfOf.f (9000 + 6) (L : Int) (sq x) = some (half4 x, 0) := by
    unfold spec_HalfOf.f
    rw [(valid_true (by omega) hL hx hz).1, Option.bind_some, if_pos rfl, f2, Option.bind_some]
  rw [e1, Option.bind_some]
  dsimp only
  rw [e2, Option.bind_some, e3, Option.bind_some, s1, Option.bind_some, s2, Option.bind_some]
  dsimp only
  rw [w1, w2, weightOf_ok (by omega) hL hx hz (by omega), Option.bind_some, weightOf_ok (by omega) hL (by omega) zs.1 (by omega), Option.bind_some, weightOf_ok (by omega) hL (by omega) zs.2 (by omega), Option.bind_some]
  dsimp only
  rw [if_pos rfl, if_pos rfl, if_pos rfl, if_pos rfl, if_pos rfl, if_pos rfl, if_pos rfl, if_pos ((shared hL hz ha (by omega)).trans (idb (by omega)).symm), (valid_true (by omega) hL hx hz).2, Option.bind_some, if_pos rfl, (valid_true (by omega) hL (by omega) zs.1).2, Option.bind_some, if_pos rfl, (valid_true (by omega) hL (by omega) zs.2).2, Option.bind_some, if_pos rfl, hi, Option.bind_some, hs, Option.bind_some]
  dsimp only
  rw [if_pos rfl, if_pos rfl, if_pos rfl, f3]
  show laws_FnWeighed.a0 (9000 + 6) ((L : Int), sq x) v = some true
  unfold laws_FnWeighed.a0
  rw [j2_ok hL (by omega) hx hz]
  rcases hv with rfl | rfl
  · rw [if_pos rfl]
  · rw [if_neg (by decide), if_pos rfl]
end Go.Proofs.YtfnfoecocicigaaX
