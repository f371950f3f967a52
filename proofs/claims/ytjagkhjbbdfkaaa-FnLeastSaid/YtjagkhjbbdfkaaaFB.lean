/- The program's FromBalanced, which ranges over slices.Backward: what its operations come to. -/
import Derived.RangeFuncBox
import Derived.RangeFuncLeaves
import Derived.Shelf.Abstract
import Derived.WalkKit
import Derived.OwnWalkIn
import Derived.TacticsInMore
import Derived.LoopNIn
import Derived.LoopIn
import Derived.Test.YtjagkhjbbdfkaaaFBP
import Derived.Test.YtjagkhjbbdfkaaaProg
namespace Go.Proofs
open Go.RowKit Go.Shelf
set_option linter.unusedVariables false
attribute [local go_sem] Oper.semAt_some
theorem FB.upto_succ {α : Type} (f : Nat → α) (k : Nat) : FB.upto f (k + 1) = FB.upto f k ++ [f k] := by simp [FB.upto, List.range_succ]
theorem FB.upto_length {α : Type} (f : Nat → α) (k : Nat) : (FB.upto f k).length = k := by simp [FB.upto]
/-- What lay below n₀ lies as it lay, and the box Bs holds what it held. -/
def FB.Kp (n₀ Bs : Nat) (A B : World) : Prop := Below n₀ A B ∧ ∀ v, A.cell? ⟨Bs, 0, none⟩ = some v → B.cell? ⟨Bs, 0, none⟩ = some v
theorem FB.Kp.refl (n₀ Bs : Nat) (A : World) : FB.Kp n₀ Bs A A := ⟨Below.refl _ _, fun _ h => h⟩
theorem FB.Kp.trans {n₀ Bs : Nat} {A B C : World} (h : FB.Kp n₀ Bs A B) (k : FB.Kp n₀ Bs B C) : FB.Kp n₀ Bs A C := ⟨h.1.trans k.1, fun v e => k.2 v (h.2 v e)⟩
set_option maxRecDepth 100000 in
set_option maxHeartbeats 2000000 in
/-- slices.Backward's closure, for every loop body that keeps what lay below n₀. -/
theorem FB.back1_in (F : Fence) (n : Nat) (h33 : F.fn 33) (hro : F.round = none) (hn : 1 ≤ n) (l Bs n₀ b off cap : Nat) (zs : List Int) (hreach : zs.length ≤ 30) (hb : b < n₀) (J Jx : List (Nat × Int) → World → Prop)
    (hY : ∀ pre x W, J pre W → pre.length < zs.length → YieldAt F (n - 1) Try.prog l #[.int .i64 (x.1 : Int), .int .i8 x.2] W fun e W' =>
      (e = .returned (.bool true) ∧ J (pre ++ [x]) W' ∧ FB.Kp n₀ Bs W W') ∨ (e = .returned (.bool false) ∧ Jx (pre ++ [x]) W'))
    (W : World) (hBs : W.cell? ⟨Bs, 0, none⟩ = some (.slice (some ⟨b, off, none⟩) zs.length cap)) (hc : ∀ j, j < zs.length → W.cell? ⟨b, off + j, none⟩ = some (.int .i8 (zs[j]?.getD 0))) (h0 : J [] W) :
    CallsIn F n Try.prog 33 #[.func (.yield l) #[] #[], .pointer (some ⟨Bs, 0, none⟩)] W fun e W' => (∃ v, e = .returned v) ∧
      ((∃ ys, ys = FB.upto (FB.at zs) zs.length ∧ J ys W') ∨ (∃ pre, (∃ k, k ≤ zs.length ∧ pre = FB.upto (FB.at zs) k) ∧ Jx pre W')) := by
  refine callsIn_of_wp Try.func33 rfl h33 ?_ hro
  simp only [Try.ntmps33, List.size_toArray, List.length_cons, List.length_nil, Nat.reduceAdd, Nat.reduceSub, Array.replicate_succ, Array.replicate_zero, List.push_toArray, List.append_toArray, List.nil_append, List.cons_append]
  gi_wp2
  gi_loopw [3] (fun i wr => ∃ k : Nat, k ≤ zs.length ∧ i = .int .i64 ((zs.length : Int) - 1 - k) ∧ J (FB.upto (FB.at zs) k) wr ∧ FB.Kp n₀ Bs W wr)
    (fun i _ => (intOf i + 1).toNat)
  case atStart => exact ⟨0, Nat.zero_le _, by simp, h0, FB.Kp.refl _ _ _⟩
  case round =>
    obtain ⟨k, hk, rfl, hJs, hnx⟩ := hrel
    have hBs' := hnx.2 _ hBs
    by_cases hlt : k < zs.length
    · have hcx : wr.cell? ⟨b, off + (zs.length - 1 - k), none⟩ = some (.int .i8 (zs[zs.length - 1 - k]?.getD 0)) := (hnx.1.cell (p := ⟨b, off + (zs.length - 1 - k), none⟩) hb).trans (hc _ (by omega))
      obtain ⟨fn, tmps, assign, body, hy, hR⟩ := hY _ (FB.at zs k) wr hJs (by rw [FB.upto_length]; exact hlt)
      dsimp only [FB.at] at hy
      have ei : ((zs.length : Int) - 1 - k) = ((zs.length - 1 - k : Nat) : Int) := by omega
      rw [ei]
      gi_wp2
      refine hR.mono ?_
      rintro e W3 (⟨rfl, hJ3, hk3⟩ | ⟨rfl, hJx3⟩)
      · gi_wp2
        go_roundw
        case rel => exact ⟨k + 1, by omega, by simp; omega, by rw [FB.upto_succ]; exact hJ3, hnx.trans hk3⟩
        case measure => simp [intOf]
      · gi_wp2
        refine bodyPost_ret (results_none rfl _ _ _) rfl ?_
        exact ⟨⟨_, rfl⟩, .inr ⟨_, ⟨k + 1, by omega, (FB.upto_succ _ _).symm⟩, hJx3⟩⟩
    · obtain rfl : k = zs.length := by omega
      have ei : ((zs.length : Int) - 1 - (zs.length : Int)) = -1 := by omega
      rw [ei]
      gi_wp2
      go_end0
      exact ⟨⟨_, rfl⟩, .inl ⟨_, rfl, hJs⟩⟩
set_option maxRecDepth 100000 in
set_option maxHeartbeats 1000000 in
/-- .. at a slice without elements: no round. -/
theorem FB.back1_nil_in (F : Fence) (n : Nat) (h33 : F.fn 33) (hro : F.round = none) (l Bs cap : Nat) (a : Option Addr) (J : List (Nat × Int) → World → Prop) (W : World) (hBs : W.cell? ⟨Bs, 0, none⟩ = some (.slice a 0 cap)) (h0 : J [] W) :
    CallsIn F n Try.prog 33 #[.func (.yield l) #[] #[], .pointer (some ⟨Bs, 0, none⟩)] W fun e W' => (∃ v, e = .returned v) ∧ J [] W' := by
  refine callsIn_of_wp Try.func33 rfl h33 ?_ hro
  simp only [Try.ntmps33, List.size_toArray, List.length_cons, List.length_nil, Nat.reduceAdd, Nat.reduceSub, Array.replicate_succ, Array.replicate_zero, List.push_toArray, List.append_toArray, List.nil_append, List.cons_append]
  gi_wp2
  gi_loopw [3] (fun i wr => i = .int .i64 (-1) ∧ J [] wr) (fun _ _ => 0)
  case atStart => exact ⟨by simp, h0⟩
  case round =>
    obtain ⟨rfl, hJs⟩ := hrel
    gi_wp2
    go_end0
    exact ⟨⟨_, rfl⟩, hJs⟩
set_option maxHeartbeats 1000000 in
/-- slices.Backward: the slice is boxed; the function that is handed back captures the box. -/
theorem FB.back_in (F : Fence) (n : Nat) (h26 : F.fn 26) (hro : F.round = none) (a : Option Addr) (len cap : Nat) (w : World) :
    CallsIn F n Try.prog 26 #[.slice a len cap] w fun e w' => e = .returned (.func (.func 33) #[] #[.pointer (some ⟨w.heap.size, 0, none⟩)]) ∧ w' = w.alloc (.cells #[.slice a len cap] 34) := by
  refine callsIn_of_wp Try.func26 rfl h26 ?_ hro
  simp only [Try.ntmps26, List.size_toArray, List.length_cons, List.length_nil, Nat.reduceAdd, Nat.reduceSub, Array.replicate_succ, Array.replicate_zero, List.push_toArray, List.append_toArray, List.nil_append, List.cons_append]
  gi_wp2
  go_ret
  exact ⟨rfl, rfl⟩
/-- The slice value holds zs, in a block below n₀; or there are none. -/
def FB.Ints (n₀ : Nat) (W : World) (sv : Value) (zs : List Int) : Prop :=
  (∃ a cap, sv = .slice a 0 cap ∧ zs = []) ∨ ∃ b off cap, sv = .slice (some ⟨b, off, none⟩) zs.length cap ∧ b < n₀ ∧ ∀ j, j < zs.length → W.cell? ⟨b, off + j, none⟩ = some (.int .i8 (zs[j]?.getD 0))
theorem FB.Ints.below {n₀ : Nat} {A B : World} (h : Below n₀ A B) {sv : Value} {zs : List Int} : FB.Ints n₀ A sv zs → FB.Ints n₀ B sv zs
  | .inl e => .inl e
  | .inr ⟨b, off, cap, e, hb, hc⟩ => .inr ⟨b, off, cap, e, hb, fun j hj => (h.cell (p := ⟨b, off + j, none⟩) hb).trans (hc j hj)⟩
/-- What slices.Backward hands back gives the elements from behind. -/
theorem FB.back_stops (F : Fence) (n : Nat) (h33 : F.fn 33) (hro : F.round = none) (hn : 1 ≤ n) (Bs n₀ : Nat) (sv : Value) (zs : List Int) (hreach : zs.length ≤ 30) (w : World) (hBs : Bs < w.heap.size) (hn₀ : n₀ ≤ w.heap.size)
    (hc : w.cell? ⟨Bs, 0, none⟩ = some sv) (hI : FB.Ints n₀ w sv zs) :
    SeqStopsK F n Try.prog 33 #[.pointer (some ⟨Bs, 0, none⟩)] (fun x : Nat × Int => #[Value.int .i64 (x.1 : Int), Value.int .i8 x.2]) (FB.Kp n₀ Bs) (fun ys => ys = FB.upto (FB.at zs) zs.length)
      (fun pre => ∃ k, k ≤ zs.length ∧ pre = FB.upto (FB.at zs) k) zs.length w := fun l J Jx W hW _ _ hY h0 => by
  have hc' := (hW.cell (p := ⟨Bs, 0, none⟩) hBs).trans hc
  rcases hI.below (hW.mono hn₀) with ⟨a, cap, rfl, rfl⟩ | ⟨b, off, cap, rfl, hb, hcs⟩
  · exact (FB.back1_nil_in F n h33 hro l Bs cap a J W hc' h0).mono fun e W' ⟨he, hj⟩ => ⟨he, .inl ⟨_, rfl, hj⟩⟩
  · exact FB.back1_in F n h33 hro hn l Bs n₀ b off cap zs hreach hb J Jx hY W hc' hcs h0
theorem FB.fold_snoc (pre : List (Nat × Int)) (x : Nat × Int) : FB.fold (pre ++ [x]) = wrap64 (wrap64 (3 * FB.fold pre) + wrap64 x.2) := by simp [FB.fold, FB.w64, wrap64]
theorem FB.Kp_b {n₀ Bs : Nat} {w : World} (hn : n₀ ≤ w.heap.size) (W : World) (l : Nat) (o o' : Obj) (hl : w.heap.size ≤ l) (h : W.heap[l]? = some o) (hc : o.isCells = false) (hw : o.isWalk = false) : FB.Kp n₀ Bs W (W.putObj l o') := by
  refine ⟨belowK_b hn W l o o' hl h hc hw, fun v hv => ?_⟩
  by_cases e : l = Bs
  · subst e
    simp only [World.cell?, h] at hv
    cases o <;> simp_all [Obj.isCells]
  · rw [← hv]
    have := World.putObj_heap_other (w := W) (o := o') (fun g => e g.symm : ¬ Bs = l)
    simp only [World.cell?, this]
theorem FB.cell_other {W : World} {p q : Addr} {v : Value} (h : ¬ p.block = q.block) : (W.setCell q v).cell? p = W.cell? p := by
  have : (W.setCell q v).heap[p.block]? = W.heap[p.block]? := by
    simp only [World.setCell, Array.getElem?_modify]
    rw [if_neg (fun e => h e.symm)]
  simp only [World.cell?, this]
set_option maxRecDepth 100000 in
set_option maxHeartbeats 4000000 in
theorem FB.From_in (F : Fence) (n : Nat) (h14 : F.fn 14) (h24 : F.fn 24) (h26 : F.fn 26) (h33 : F.fn 33) (hro : F.round = none) (hn : 3 ≤ n) (a : Option Addr) (cap : Nat) (zs : List Int) (w : World) (hI : FB.Ints w.heap.size w (.slice a zs.length cap) zs)
    (c : Bool) (hcf : CallsIn F (n - 1) Try.prog 24 #[.slice a zs.length cap, .func (.func 25) #[] #[]] w fun e w' => e = .returned (.bool c) ∧ Below w.heap.size w w') :
    CallsIn F n Try.prog 14 #[.slice a zs.length cap] w fun e W' => e = .returned (.tuple #[.int .i64 (FB.res c zs).1, .int .i64 (FB.res c zs).2]) ∧ Below w.heap.size w W' := by
  have h1 : 1 ≤ n := by omega
  refine callsIn_of_wp_marks Try.func14 rfl h14 ?_ hro
  simp only [Try.ntmps14, List.size_toArray, List.length_cons, List.length_nil, Nat.reduceAdd, Nat.reduceSub, Array.replicate_succ, Array.replicate_zero, List.push_toArray, List.append_toArray, List.nil_append, List.cons_append]
  gi_wp2_with (gi_at_call 24; refine hcf.mono ?_; rintro e w1 ⟨rfl, hB1⟩)
  · rename_i hc1
    subst hc1
    refine ⟨.tuple #[.int .i64 0, .int .i64 2], ?_, rfl, hB1⟩
    simp [results, Try.f14, go_sem]
  · rename_i hc1 hl1
    have hl2 : 30 < zs.length := by omega
    have : c = false := by simpa using hc1
    subst this
    refine ⟨.tuple #[.int .i64 0, .int .i64 3], ?_, by simp [FB.res, hl2], hB1⟩
    simp [results, Try.f14, go_sem]
  · gi_wp2_with (gi_at_call 26; refine (FB.back_in F (n - 1) h26 hro _ _ _ _).mono ?_; rintro e w' ⟨rfl, rfl⟩)
    rename_i hc1 hl1 K9 hK9
    have hl2 : zs.length ≤ 30 := by omega
    subst hc1
    have hs1 : w.heap.size ≤ w1.heap.size := hB1.size
    have bS := Boxed.new w1 2 (.int .i64 0)
    have bN := Boxed.new (w1.alloc (.cells #[.int .i64 0] 2)) 34 (.slice a zs.length cap)
    rw [World.size_alloc] at bN
    have hB0 : Below w.heap.size w1 ((w1.alloc (.cells #[.int .i64 0] 2)).alloc (.cells #[.slice a zs.length cap] 34)) := ((Below.refl _ w1).alloc hs1 _).alloc (by simp; omega) _
    have hne : w1.heap.size ≠ w1.heap.size + 1 := by omega
    refine wpIn_rangeFunc_ownG hro h1 (gf := 33) (lb := #[.pointer (some ⟨w1.heap.size + 1, 0, none⟩)]) rfl h33 (enters_of Try.func33 (by kernel_rfl) rfl)
      (FB.back_stops F (n - 1) h33 hro (by omega) (w1.heap.size + 1) w.heap.size _ zs hl2 _ (by simp) (by simp; omega) bN.cell (hI.below (hB1.trans hB0))) FB.Kp.trans (FB.Kp_b (by simp; omega)) (Below.refl _ _) (fun _ => rfl)
      (fun pre W => (W.cell? ⟨w1.heap.size, 0, none⟩ = some (.int .i64 (FB.fold pre)) ∧ W.frozen? ⟨w1.heap.size, 0, none⟩ = false) ∧ Below w.heap.size w1 W)
      (fun _ _ _ => False)
      (OwnFrom.and (Own.from (fun s A B row hs hg hr => ⟨cell_kept hs.1 hg hr, (frozen_kept hs.1 hg hr).trans hs.2⟩) _) (ownFrom_below hs1 (by simp; omega)))
      (fun _ _ _ _ _ hs _ _ => hs)
      ⟨⟨(bS.alloc _).cell, (bS.alloc _).frozen⟩, hB0⟩
      (fun x => { tmps := #[.slice a zs.length cap, undef, .int .i64 0, .int .i64 0, .pointer (some ⟨w1.heap.size, 0, none⟩), undef, .int .i8 x.2, .bool false, .slice a zs.length cap, .bool false, .bool (decide (30 < (zs.length : Int))), .slice a zs.length cap, .int .i64 zs.length, .bool (decide (30 < (zs.length : Int))), .slice a zs.length cap, .func (.func 33) #[] #[.pointer (some ⟨w1.heap.size + 1, 0, none⟩)], .int .i64 (x.1 : Int), .int .i8 x.2, undef, undef, undef, undef, undef, undef], defers := [] }) ?assign ?body ?done ?stop
    case assign =>
      intro l x W K hK
      gi_wp2
      exact hK
    case body =>
      rintro l pre x W ⟨⟨hc, hf⟩, hB⟩ _
      gi_wp2
      exact ⟨(KeepsOthers.setCell _ _ _).from _, ⟨(Below.refl w.heap.size W).setCell (p := ⟨w1.heap.size, 0, none⟩) hs1 _, fun v hv => by rw [FB.cell_other (by simp)]; exact hv⟩,
        ⟨by rw [FB.fold_snoc]; exact World.cell?_setCell_same' _ _ _ (by rw [hc]; rfl), by rw [World.frozen?_setCell]; exact hf⟩, hB.setCell (p := ⟨w1.heap.size, 0, none⟩) hs1 _⟩
    case done =>
      rintro D ys W hD rfl ⟨⟨hc, _⟩, hB⟩ hK
      gi_wp2
      refine ⟨by simp, .inl ⟨_, _, rfl, run_takeDeferred hK, ?_⟩⟩
      refine ⟨.tuple #[.int .i64 (FB.fold (FB.upto (FB.at zs) zs.length)), .int .i64 0], ?_, by simp [FB.res, show ¬ 30 < zs.length by omega], hB1.trans (hB.trans (belowK_b (w := w1) hs1 W D _ _ (by simp at hD; omega) hK rfl rfl))⟩
      simp [results, Try.f14, go_sem]
    case stop =>
      rintro D c pre W _ _ h _
      exact h.elim
end Go.Proofs
