/- The program's comparison of two tops: what its operations come to, in whatever world. -/
import Derived.Sort.Grow
import Derived.Shelf.SlSortCmp.NoneTotal
import Derived.Deep.RegionHeld3
import Derived.WalkKit
import Derived.Test.YtmnaclghakalmaaProg
import Derived.Test.YtmnaclghakalmaaTCP
namespace Go.Proofs
open Go.RowKit Go.Sort
set_option linter.unusedVariables false
theorem TC.isNaN (x : Int) (W : World) : Calls Try.prog 54 #[.int .i16 x] W fun e w' => e = .returned (.bool false) ∧ w' = W := by
  go_enter Try.func54, Try.ntmps54
  go_wp2
  go_ret
  exact ⟨by simp, rfl⟩
theorem TC.cmp (x y : Int) (W : World) : Calls Try.prog 39 #[.int .i16 x, .int .i16 y] W fun e w' => e = .returned (.int .i64 (if x < y then -1 else if y < x then 1 else 0)) ∧ w' = W := by
  go_enter Try.func39, Try.ntmps39
  go_wp2_with (go_at_call 54; refine (TC.isNaN _ _).mono ?_; rintro e w' ⟨rfl, rfl⟩)
  all_goals go_ret
  all_goals exact ⟨rfl, rfl⟩
theorem TC.lex_step {xs ys : List Int} {k : Nat} (h1 : k < xs.length) (h2 : k < ys.length) : TC.lex (xs.drop k) (ys.drop k) = if xs[k]?.getD 0 < ys[k]?.getD 0 then -1 else if ys[k]?.getD 0 < xs[k]?.getD 0 then 1 else TC.lex (xs.drop (k + 1)) (ys.drop (k + 1)) := by
  rw [List.drop_eq_getElem_cons h1, List.drop_eq_getElem_cons h2]
  simp [TC.lex, h1, h2]
set_option maxHeartbeats 1000000 in
theorem TC.compare (b1 o1 c1 b2 o2 c2 : Nat) (xs ys : List Int) (l1 : xs.length = 4) (l2 : ys.length = 4) (W : World)
    (h1 : ∀ j, j < 4 → W.cell? ⟨b1, o1 + j, none⟩ = some (.int .i16 (xs[j]?.getD 0))) (h2 : ∀ j, j < 4 → W.cell? ⟨b2, o2 + j, none⟩ = some (.int .i16 (ys[j]?.getD 0))) :
    Calls Try.prog 21 #[.slice (some ⟨b1, o1, none⟩) 4 c1, .slice (some ⟨b2, o2, none⟩) 4 c2] W fun e w' => e = .returned (.int .i64 (TC.lex xs ys)) ∧ w' = W := by
  go_enter Try.func21, Try.ntmps21
  go_wp2
  go_loopw [11] (fun i wr => ∃ k : Nat, k ≤ 4 ∧ i = .int .i64 k ∧ wr = W ∧ TC.lex (xs.drop k) (ys.drop k) = TC.lex xs ys) (fun i _ => 4 - (intOf i).toNat)
  case atStart => exact ⟨0, by omega, rfl, rfl, rfl⟩
  case round =>
    obtain ⟨k, hk, rfl, rfl, hl⟩ := hrel
    have hcx : (k : Int) < 4 → wr.cell? ⟨b1, o1 + k, none⟩ = some (.int .i16 (xs[k]?.getD 0)) := fun h => h1 k (by omega)
    have hcy : (k : Int) < 4 → wr.cell? ⟨b2, o2 + k, none⟩ = some (.int .i16 (ys[k]?.getD 0)) := fun h => h2 k (by omega)
    go_wp2_with (go_at_call 39; refine (TC.cmp _ _ _).mono ?_; rintro e w' ⟨rfl, rfl⟩)
    · go_ret
      refine ⟨?_, rfl⟩
      rw [← hl, TC.lex_step (by omega) (by omega), if_pos h]; rfl
    · go_ret
      refine ⟨?_, rfl⟩
      rw [← hl, TC.lex_step (by omega) (by omega), if_neg (by omega), if_pos h]; rfl
    · rename_i hne h0
      exfalso
      rw [if_neg (by omega), if_neg (by omega)] at hne
      cases hne
    · rename_i heq
      go_roundw
      case rel =>
        refine ⟨k + 1, by omega, by go_num, trivial, ?_⟩
        rw [← hl, TC.lex_step (k := k) (by omega) (by omega)]
        by_cases q1 : xs[k]?.getD 0 < ys[k]?.getD 0
        · rw [if_pos q1] at heq; cases heq
        · rw [if_neg q1] at heq ⊢
          by_cases q2 : ys[k]?.getD 0 < xs[k]?.getD 0
          · rw [if_pos q2] at heq; cases heq
          · rw [if_neg q2]
      case measure => simp [intOf]; omega
    · obtain rfl : k = 4 := by omega
      go_ret
      refine ⟨?_, rfl⟩
      rw [← hl, List.drop_eq_nil_of_le (by omega)]
      rfl
set_option maxHeartbeats 1000000 in
theorem TC.closure (x0 x1 x2 x3 y0 y1 y2 y3 : Int) (W : World) : Calls Try.prog 20 #[.agg #[.int .i16 x0, .int .i16 x1, .int .i16 x2, .int .i16 x3], .agg #[.int .i16 y0, .int .i16 y1, .int .i16 y2, .int .i16 y3]] W fun e w' =>
    e = .returned (.int .i64 (TC.lex [x0, x1, x2, x3] [y0, y1, y2, y3])) ∧ ∃ q os', w' = grow (W.drewN q) os' := by
  have hcon : ∀ W3, (∀ a, W3.cell? a = ((W.alloc (.cells #[.int .i16 x0, .int .i16 x1, .int .i16 x2, .int .i16 x3] 30)).alloc (.cells #[.int .i16 y0, .int .i16 y1, .int .i16 y2, .int .i16 y3] 30)).cell? a) →
      Calls Try.prog 21 #[.slice (some ⟨W.heap.size, 0, none⟩) 4 4, .slice (some ⟨W.heap.size + 1, 0, none⟩) 4 4] W3 fun e w' => e = .returned (.int .i64 (TC.lex [x0, x1, x2, x3] [y0, y1, y2, y3])) ∧ w' = W3 := by
    intro W3 h3
    have e1 : ((W.alloc (.cells #[.int .i16 x0, .int .i16 x1, .int .i16 x2, .int .i16 x3] 30)).alloc (.cells #[.int .i16 y0, .int .i16 y1, .int .i16 y2, .int .i16 y3] 30)).heap[W.heap.size]? = some (.cells #[.int .i16 x0, .int .i16 x1, .int .i16 x2, .int .i16 x3] 30) :=
      (Below.heap_alloc _ _ _ (by simp)).trans (heap_alloc_new W _)
    have e2 : ((W.alloc (.cells #[.int .i16 x0, .int .i16 x1, .int .i16 x2, .int .i16 x3] 30)).alloc (.cells #[.int .i16 y0, .int .i16 y1, .int .i16 y2, .int .i16 y3] 30)).heap[W.heap.size + 1]? = some (.cells #[.int .i16 y0, .int .i16 y1, .int .i16 y2, .int .i16 y3] 30) := by
      have := heap_alloc_new (W.alloc (.cells #[.int .i16 x0, .int .i16 x1, .int .i16 x2, .int .i16 x3] 30)) (.cells #[.int .i16 y0, .int .i16 y1, .int .i16 y2, .int .i16 y3] 30)
      rwa [World.size_alloc] at this
    refine TC.compare _ 0 4 _ 0 4 _ _ rfl rfl W3 (fun j hj => ?_) (fun j hj => ?_) <;> rw [h3]
    · obtain rfl | rfl | rfl | rfl : j = 0 ∨ j = 1 ∨ j = 2 ∨ j = 3 := by omega
      all_goals (simp only [World.cell?, e1, Nat.zero_add]; rfl)
    · obtain rfl | rfl | rfl | rfl : j = 0 ∨ j = 1 ∨ j = 2 ∨ j = 3 := by omega
      all_goals (simp only [World.cell?, e2, Nat.zero_add]; rfl)
  have hcon := hcon ((W.alloc (.cells #[.int .i16 x0, .int .i16 x1, .int .i16 x2, .int .i16 x3] 30)).alloc (.cells #[.int .i16 y0, .int .i16 y1, .int .i16 y2, .int .i16 y3] 30)).drew (fun _ => rfl)
  generalize TC.lex [x0, x1, x2, x3] [y0, y1, y2, y3] = r at hcon ⊢
  go_enter Try.func20, Try.ntmps20
  go_wp2
  go_region_held3 (fun _ => True) (trivial) (first | (go_at_call 21; refine hcon.mono ?_; rintro e w' ⟨rfl, rfl⟩))
  all_goals go_wp2
  go_ret
  exact ⟨rfl, 1, _, by rw [alloc_eq_grow, alloc_eq_grow, grow_grow, drew_grow]; rfl⟩
theorem TC.lex_self : ∀ a : List Int, TC.lex a a = 0
  | [] => rfl
  | x :: a => by simp only [TC.lex]; rw [if_neg (by omega), if_neg (by omega)]; exact TC.lex_self a
theorem TC.lex_neg : ∀ a b : List Int, TC.lex b a = - TC.lex a b
  | [], [] => rfl
  | [], _ :: _ => rfl
  | _ :: _, [] => rfl
  | x :: a, y :: b => by
    simp only [TC.lex]
    by_cases h1 : x < y
    · rw [if_neg (by omega), if_pos h1, if_pos h1]; rfl
    · by_cases h2 : y < x
      · rw [if_pos h2, if_neg h1, if_pos h2]
      · rw [if_neg h2, if_neg h1, if_neg h1, if_neg h2]; exact TC.lex_neg a b
theorem TC.lex_zero : ∀ a b : List Int, a.length = b.length → TC.lex a b = 0 → a = b
  | [], [], _, _ => rfl
  | [], _ :: _, h, _ => by cases h
  | _ :: _, [], h, _ => by cases h
  | x :: a, y :: b, hl, h => by
    simp only [TC.lex] at h
    by_cases h1 : x < y
    · rw [if_pos h1] at h; cases h
    · by_cases h2 : y < x
      · rw [if_neg h1, if_pos h2] at h; cases h
      · rw [if_neg h1, if_neg h2] at h
        rw [TC.lex_zero a b (by simpa using hl) h, show x = y by omega]
theorem TC.lex_trans : ∀ a b c : List Int, a.length = b.length → b.length = c.length → TC.lex a b < 0 → TC.lex b c < 0 → TC.lex a c < 0
  | [], [], _, _, _, h, _ => by cases h
  | [], _ :: _, _, h, _, _, _ => by cases h
  | _ :: _, [], _, h, _, _, _ => by cases h
  | _ :: _, _ :: _, [], _, h, _, _ => by cases h
  | x :: a, y :: b, z :: c, hl, hm, h1, h2 => by
    simp only [TC.lex] at h1 h2 ⊢
    by_cases g1 : x < y
    · by_cases g2 : z < y
      · rw [if_neg (by omega), if_pos g2] at h2; omega
      · rw [if_pos (by omega)]; omega
    · by_cases g3 : y < x
      · rw [if_neg g1, if_pos g3] at h1; omega
      · rw [if_neg g1, if_neg g3] at h1
        have : x = y := by omega
        subst this
        by_cases g4 : x < z
        · rw [if_pos g4]; omega
        · by_cases g5 : z < x
          · rw [if_neg g4, if_pos g5] at h2; omega
          · rw [if_neg g4, if_neg g5] at h2 ⊢
            exact TC.lex_trans a b c (by simpa using hl) (by simpa using hm) h1 h2
theorem TC.lex_le {a b : List Int} : TC.lex a b < 0 ∨ TC.lex a b = 0 ∨ TC.lex b a < 0 := by
  have := TC.lex_neg a b
  omega
end Go.Proofs
