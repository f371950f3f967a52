/- Contracts, printed by gen.py. -/
import Derived.Test.YtcaokmnajnfpiaaXT
import Derived.Test.YtcaokmnajnfpiaaProg
import Derived.Test.YtcaokmnajnfpiaaXRowR
import Derived.Test.YtcaokmnajnfpiaaXSq
import Derived.Test.YtcaokmnajnfpiaaXSeg
import Derived.Test.YtcaokmnajnfpiaaXKey
import Derived.Test.YtcaokmnajnfpiaaXC2
import Derived.Test.YtcaokmnajnfpiaaXC3
import Derived.Test.YtcaokmnajnfpiaaXC9
namespace Go.Proofs.YtcaokmnajnfpiaaX
open Go Go.RowKit Go.Proofs
set_option linter.unusedVariables false
set_option linter.unusedSimpArgs false
/- function 33 impl_setCode -/
def impl_setCode.post (w0 : World) (r : Int) (v : Value) (w : World) : Prop := v = Value.int .i64 r ∧ St w0 [] w
set_option maxHeartbeats 8000000 in
set_option maxRecDepth 100000 in
theorem impl_setCode.calls {N : Nat} {a1 : S_impl_Ferry} {a4 : Int} {v2 : Value} {w0 : World} {r : Int} (hr3 : RdRow (K.int .u16) w0 v2 a1.f_Rules) (H : impl_setCode.f N a1 a4 = some r) :
    Calls Try.prog 33 #[Value.agg (([Value.int .i8 a1.f_Things, Value.int .i8 a1.f_Boat, v2] : List Value)).toArray, Value.int .u16 a4] w0 fun e w => ∃ v, e = .returned v ∧ impl_setCode.post w0 r v w := by
  unfold impl_setCode.f at H
  have hs : St w0 [] w0 := St.refl w0
  refine calls_of_g (n := 11) Try.func33 rfl rfl ?_
  show G _ _ _ _ [_,_,_,_,_,_,_,_,_,_,_,_,_] _
  refine g_seq (g_region ?_)
  show G _ _ _ (.inRegion _ [0, 1] :: _) _ _
  refine s_box hs rfl rfl (cs := (([Value.int .i8 a1.f_Things, Value.int .i8 a1.f_Boat, v2] : List Value))) rfl rfl ?_
  intro b5 w hs
  show G _ _ _ _ [_,_,_,_,_,_,_,_,_,_,_,_,_] _
  refine g_op (v := Value.int .i64 0) rfl rfl rfl ?_
  show G _ _ _ _ [_,_,_,_,_,_,_,_,_,_,_,_,_] _
  refine g_ops_nil (g_seq (g_seq (g_region ?_)))
  show G _ _ _ (.inRegion _ [0, 1, 2] :: _) _ _
  refine s_loadA rfl rfl (es := (([Value.int .i8 a1.f_Things, Value.int .i8 a1.f_Boat, v2] : List Value))) rfl rfl (fun _ => rfl) (n := 3) (fun _ => rfl) rfl (cells_all (hs.cells 0 rfl)) ?_
  show G _ _ _ _ [_,_,_,_,_,_,_,_,_,_,_,_,_] _
  obtain ⟨r7, Hr7, H⟩ := bind_get H
  refine s_call (args := [Value.agg (([Value.int .i8 a1.f_Things, Value.int .i8 a1.f_Boat, v2] : List Value)).toArray]) rfl rfl (x_call rfl (callFunc_enter Try.func23 rfl rfl) rfl) (impl_ValidFerry.calls (a1 := (⟨a1.f_Things, a1.f_Boat, a1.f_Rules⟩ : S_impl_Ferry)) (hs.rd hr3) Hr7) ?_
  rintro _ w ⟨rfl, hs2⟩
  have hs : St _ [_] _ := hs.call hs2
  cases r7 with
  | true =>
    rw [if_pos rfl] at H
    show G _ _ _ _ [_,_,_,_,_,_,_,_,_,_,_,_,_] _
    refine g_op (v := Value.bool false) rfl rfl rfl ?_
    show G _ _ _ _ [_,_,_,_,_,_,_,_,_,_,_,_,_] _
    refine g_ops_nil (g_cond_false rfl (g_skip (g_seq (g_region ?_))))
    show G _ _ _ (.inRegion _ [0, 1, 2, 3, 4, 5] :: _) _ _
    refine g_op (v := Value.int .u16 a4) rfl rfl rfl ?_
    show G _ _ _ _ [_,_,_,_,_,_,_,_,_,_,_,_,_] _
    refine s_loadA rfl rfl (es := (([Value.int .i8 a1.f_Things, Value.int .i8 a1.f_Boat, v2] : List Value))) rfl rfl (fun _ => rfl) (n := 3) (fun _ => rfl) rfl (cells_all (hs.cells 0 rfl)) ?_
    show G _ _ _ _ [_,_,_,_,_,_,_,_,_,_,_,_,_] _
    obtain ⟨r8, Hr8, H⟩ := bind_get H
    refine s_call (args := [Value.agg (([Value.int .i8 a1.f_Things, Value.int .i8 a1.f_Boat, v2] : List Value)).toArray]) rfl rfl (x_call rfl (callFunc_enter Try.func27 rfl rfl) rfl) (_impl_Ferry_all.calls (a1 := (⟨a1.f_Things, a1.f_Boat, a1.f_Rules⟩ : S_impl_Ferry)) (hs.rd hr3) Hr8) ?_
    rintro _ w ⟨rfl, hs2⟩
    have hs : St _ [_] _ := hs.call hs2
    show G _ _ _ _ [_,_,_,_,_,_,_,_,_,_,_,_,_] _
    obtain ⟨r9, Hr9, H⟩ := bind_get H
    refine s_call (args := [Value.int .u16 a4, Value.int .u16 r8]) rfl rfl (x_call rfl (callFunc_enter Try.func49 rfl rfl) rfl) (impl_inside.calls (a1 := a4) (a2 := r8) Hr9) ?_
    rintro _ w ⟨rfl, hs2⟩
    have hs : St _ [_] _ := hs.call hs2
    show G _ _ _ _ [_,_,_,_,_,_,_,_,_,_,_,_,_] _
    obtain ⟨r10, Hr10, H⟩ := bind_get H
    refine s_call (args := [Value.bool r9, Value.int .i64 2]) rfl rfl (x_call rfl (callFunc_enter Try.func56 rfl rfl) rfl) (impl_unless.calls (a1 := r9) (a2 := 2) Hr10) ?_
    rintro _ w ⟨rfl, hs2⟩
    have hs : St _ [_] _ := hs.call hs2
    show G _ _ _ _ [_,_,_,_,_,_,_,_,_,_,_,_,_] _
    refine g_op (v := Value.int .i64 r10) rfl rfl rfl ?_
    show G _ _ _ _ [_,_,_,_,_,_,_,_,_,_,_,_,_] _
    refine g_ops_nil ?_
    obtain rfl := Option.some.inj H
    refine g_ret Try.func33 (v := Value.int .i64 r10) (res1 rfl rfl) ?_
    have hs : St _ [] _ := St.take (Γ' := [_]) hs
    exact ⟨_, rfl, rfl, hs⟩
  | false =>
    rw [if_neg Bool.false_ne_true] at H
    show G _ _ _ _ [_,_,_,_,_,_,_,_,_,_,_,_,_] _
    refine g_op (v := Value.bool true) rfl rfl rfl ?_
    show G _ _ _ _ [_,_,_,_,_,_,_,_,_,_,_,_,_] _
    refine g_ops_nil (g_cond_true rfl (g_seq (g_region ?_)))
    show G _ _ _ (.inRegion _ [0] :: _) _ _
    refine g_op (v := Value.int .i64 1) rfl rfl rfl ?_
    show G _ _ _ _ [_,_,_,_,_,_,_,_,_,_,_,_,_] _
    refine g_ops_nil ?_
    obtain rfl := Option.some.inj H
    refine g_ret Try.func33 (v := Value.int .i64 1) (res1 rfl rfl) ?_
    have hs : St _ [] _ := St.take (Γ' := [_]) hs
    exact ⟨_, rfl, rfl, hs⟩

/- function 11 impl_IsCover -/
def impl_IsCover.post (w0 : World) (r : (Bool × Int)) (v : Value) (w : World) : Prop := v = Value.tuple #[Value.bool r.1, Value.int .i64 r.2] ∧ St w0 [] w
set_option maxHeartbeats 8000000 in
set_option maxRecDepth 100000 in
theorem impl_IsCover.calls {N : Nat} {a1 : S_impl_Ferry} {a4 : Int} {v2 : Value} {w0 : World} {r : (Bool × Int)} (hr3 : RdRow (K.int .u16) w0 v2 a1.f_Rules) (H : impl_IsCover.f N a1 a4 = some r) :
    Calls Try.prog 11 #[Value.agg (([Value.int .i8 a1.f_Things, Value.int .i8 a1.f_Boat, v2] : List Value)).toArray, Value.int .u16 a4] w0 fun e w => ∃ v, e = .returned v ∧ impl_IsCover.post w0 r v w := by
  unfold impl_IsCover.f at H
  have hs : St w0 [] w0 := St.refl w0
  refine calls_of_g (n := 14) Try.func11 rfl rfl ?_
  show G _ _ _ _ [_,_,_,_,_,_,_,_,_,_,_,_,_,_,_,_] _
  refine g_seq (g_region ?_)
  show G _ _ _ (.inRegion _ [0, 1, 2] :: _) _ _
  refine s_box hs rfl rfl (cs := (([Value.int .i8 a1.f_Things, Value.int .i8 a1.f_Boat, v2] : List Value))) rfl rfl ?_
  intro b5 w hs
  show G _ _ _ _ [_,_,_,_,_,_,_,_,_,_,_,_,_,_,_,_] _
  refine g_op (v := Value.bool false) rfl rfl rfl ?_
  show G _ _ _ _ [_,_,_,_,_,_,_,_,_,_,_,_,_,_,_,_] _
  refine g_op (v := Value.int .i64 0) rfl rfl rfl ?_
  show G _ _ _ _ [_,_,_,_,_,_,_,_,_,_,_,_,_,_,_,_] _
  refine g_ops_nil (g_seq (g_seq (g_region ?_)))
  show G _ _ _ (.inRegion _ [0, 1, 2, 3] :: _) _ _
  refine s_loadA rfl rfl (es := (([Value.int .i8 a1.f_Things, Value.int .i8 a1.f_Boat, v2] : List Value))) rfl rfl (fun _ => rfl) (n := 3) (fun _ => rfl) rfl (cells_all (hs.cells 0 rfl)) ?_
  show G _ _ _ _ [_,_,_,_,_,_,_,_,_,_,_,_,_,_,_,_] _
  refine g_op (v := Value.int .u16 a4) rfl rfl rfl ?_
  show G _ _ _ _ [_,_,_,_,_,_,_,_,_,_,_,_,_,_,_,_] _
  obtain ⟨r7, Hr7, H⟩ := bind_get H
  refine s_call (args := [Value.agg (([Value.int .i8 a1.f_Things, Value.int .i8 a1.f_Boat, v2] : List Value)).toArray, Value.int .u16 a4]) rfl rfl (x_call rfl (callFunc_enter Try.func33 rfl rfl) rfl) (impl_setCode.calls (a1 := (⟨a1.f_Things, a1.f_Boat, a1.f_Rules⟩ : S_impl_Ferry)) (a4 := a4) (hs.rd hr3) Hr7) ?_
  rintro _ w ⟨rfl, hs2⟩
  have hs : St _ [_] _ := hs.call hs2
  show G _ _ _ _ [_,_,_,_,_,_,_,_,_,_,_,_,_,_,_,_] _
  refine g_op (v := Value.int .i64 r7) rfl rfl rfl ?_
  show G _ _ _ _ [_,_,_,_,_,_,_,_,_,_,_,_,_,_,_,_] _
  refine g_ops_nil (g_seq (g_region ?_))
  show G _ _ _ (.inRegion _ [0, 1] :: _) _ _
  refine g_op (v := Value.int .i64 r7) rfl rfl rfl ?_
  show G _ _ _ _ [_,_,_,_,_,_,_,_,_,_,_,_,_,_,_,_] _
  refine g_op_b (B := r7 != 0) rfl rfl rfl ?_ ?_
  ·
   intro hb
   rw [if_neg (b_bne_t hb)] at H
   show G _ _ _ _ [_,_,_,_,_,_,_,_,_,_,_,_,_,_,_,_] _
   refine g_ops_nil (g_cond_true rfl (g_seq (g_region ?_)))
   show G _ _ _ (.inRegion _ [0, 1, 2] :: _) _ _
   refine g_op (v := Value.int .i64 r7) rfl rfl rfl ?_
   show G _ _ _ _ [_,_,_,_,_,_,_,_,_,_,_,_,_,_,_,_] _
   refine g_op (v := Value.bool false) rfl rfl rfl ?_
   show G _ _ _ _ [_,_,_,_,_,_,_,_,_,_,_,_,_,_,_,_] _
   refine g_op (v := Value.int .i64 r7) rfl rfl rfl ?_
   show G _ _ _ _ [_,_,_,_,_,_,_,_,_,_,_,_,_,_,_,_] _
   refine g_ops_nil ?_
   obtain rfl := Option.some.inj H
   refine g_ret Try.func11 (v := Value.tuple #[Value.bool false, Value.int .i64 r7]) (resN (l := Try.f11.results.toList) (vs := [Value.bool false, Value.int .i64 r7]) rfl ⟨rfl, rfl, trivial⟩ (by simp)) ?_
   have hs : St _ [] _ := St.take (Γ' := [_]) hs
   exact ⟨_, rfl, rfl, hs⟩
  intro hb
  rw [if_pos (b_bne_f hb)] at H
  show G _ _ _ _ [_,_,_,_,_,_,_,_,_,_,_,_,_,_,_,_] _
  refine g_ops_nil (g_cond_false rfl (g_skip (g_seq (g_region ?_))))
  show G _ _ _ (.inRegion _ [0, 1, 2, 3, 4] :: _) _ _
  refine s_loadA rfl rfl (es := (([Value.int .i8 a1.f_Things, Value.int .i8 a1.f_Boat, v2] : List Value))) rfl rfl (fun _ => rfl) (n := 3) (fun _ => rfl) rfl (cells_all (hs.cells 0 rfl)) ?_
  show G _ _ _ _ [_,_,_,_,_,_,_,_,_,_,_,_,_,_,_,_] _
  refine g_op (v := Value.int .u16 a4) rfl rfl rfl ?_
  show G _ _ _ _ [_,_,_,_,_,_,_,_,_,_,_,_,_,_,_,_] _
  obtain ⟨r8, Hr8, H⟩ := bind_get H
  refine s_call (args := [Value.agg (([Value.int .i8 a1.f_Things, Value.int .i8 a1.f_Boat, v2] : List Value)).toArray, Value.int .u16 a4]) rfl rfl (x_call rfl (callFunc_enter Try.func28 rfl rfl) rfl) (_impl_Ferry_isCover.calls (a1 := (⟨a1.f_Things, a1.f_Boat, a1.f_Rules⟩ : S_impl_Ferry)) (a4 := a4) (hs.rd hr3) Hr8) ?_
  rintro _ w ⟨rfl, hs2⟩
  have hs : St _ [_] _ := hs.call hs2
  show G _ _ _ _ [_,_,_,_,_,_,_,_,_,_,_,_,_,_,_,_] _
  refine g_op (v := Value.bool r8) rfl rfl rfl ?_
  show G _ _ _ _ [_,_,_,_,_,_,_,_,_,_,_,_,_,_,_,_] _
  refine g_op (v := Value.int .i64 0) rfl rfl rfl ?_
  show G _ _ _ _ [_,_,_,_,_,_,_,_,_,_,_,_,_,_,_,_] _
  refine g_ops_nil ?_
  obtain rfl := Option.some.inj H
  refine g_ret Try.func11 (v := Value.tuple #[Value.bool r8, Value.int .i64 0]) (resN (l := Try.f11.results.toList) (vs := [Value.bool r8, Value.int .i64 0]) rfl ⟨rfl, rfl, trivial⟩ (by simp)) ?_
  have hs : St _ [] _ := St.take (Γ' := [_]) hs
  exact ⟨_, rfl, rfl, hs⟩

/- function 12 impl_IsSafe -/
def impl_IsSafe.post (w0 : World) (r : (Bool × Int)) (v : Value) (w : World) : Prop := v = Value.tuple #[Value.bool r.1, Value.int .i64 r.2] ∧ St w0 [] w
set_option maxHeartbeats 8000000 in
set_option maxRecDepth 100000 in
theorem impl_IsSafe.calls {N : Nat} {a1 : S_impl_Ferry} {a4 : Int} {v2 : Value} {w0 : World} {r : (Bool × Int)} (hr3 : RdRow (K.int .u16) w0 v2 a1.f_Rules) (H : impl_IsSafe.f N a1 a4 = some r) :
    Calls Try.prog 12 #[Value.agg (([Value.int .i8 a1.f_Things, Value.int .i8 a1.f_Boat, v2] : List Value)).toArray, Value.int .u16 a4] w0 fun e w => ∃ v, e = .returned v ∧ impl_IsSafe.post w0 r v w := by
  unfold impl_IsSafe.f at H
  have hs : St w0 [] w0 := St.refl w0
  refine calls_of_g (n := 14) Try.func12 rfl rfl ?_
  show G _ _ _ _ [_,_,_,_,_,_,_,_,_,_,_,_,_,_,_,_] _
  refine g_seq (g_region ?_)
  show G _ _ _ (.inRegion _ [0, 1, 2] :: _) _ _
  refine s_box hs rfl rfl (cs := (([Value.int .i8 a1.f_Things, Value.int .i8 a1.f_Boat, v2] : List Value))) rfl rfl ?_
  intro b5 w hs
  show G _ _ _ _ [_,_,_,_,_,_,_,_,_,_,_,_,_,_,_,_] _
  refine g_op (v := Value.bool false) rfl rfl rfl ?_
  show G _ _ _ _ [_,_,_,_,_,_,_,_,_,_,_,_,_,_,_,_] _
  refine g_op (v := Value.int .i64 0) rfl rfl rfl ?_
  show G _ _ _ _ [_,_,_,_,_,_,_,_,_,_,_,_,_,_,_,_] _
  refine g_ops_nil (g_seq (g_seq (g_region ?_)))
  show G _ _ _ (.inRegion _ [0, 1, 2, 3] :: _) _ _
  refine s_loadA rfl rfl (es := (([Value.int .i8 a1.f_Things, Value.int .i8 a1.f_Boat, v2] : List Value))) rfl rfl (fun _ => rfl) (n := 3) (fun _ => rfl) rfl (cells_all (hs.cells 0 rfl)) ?_
  show G _ _ _ _ [_,_,_,_,_,_,_,_,_,_,_,_,_,_,_,_] _
  refine g_op (v := Value.int .u16 a4) rfl rfl rfl ?_
  show G _ _ _ _ [_,_,_,_,_,_,_,_,_,_,_,_,_,_,_,_] _
  obtain ⟨r7, Hr7, H⟩ := bind_get H
  refine s_call (args := [Value.agg (([Value.int .i8 a1.f_Things, Value.int .i8 a1.f_Boat, v2] : List Value)).toArray, Value.int .u16 a4]) rfl rfl (x_call rfl (callFunc_enter Try.func33 rfl rfl) rfl) (impl_setCode.calls (a1 := (⟨a1.f_Things, a1.f_Boat, a1.f_Rules⟩ : S_impl_Ferry)) (a4 := a4) (hs.rd hr3) Hr7) ?_
  rintro _ w ⟨rfl, hs2⟩
  have hs : St _ [_] _ := hs.call hs2
  show G _ _ _ _ [_,_,_,_,_,_,_,_,_,_,_,_,_,_,_,_] _
  refine g_op (v := Value.int .i64 r7) rfl rfl rfl ?_
  show G _ _ _ _ [_,_,_,_,_,_,_,_,_,_,_,_,_,_,_,_] _
  refine g_ops_nil (g_seq (g_region ?_))
  show G _ _ _ (.inRegion _ [0, 1] :: _) _ _
  refine g_op (v := Value.int .i64 r7) rfl rfl rfl ?_
  show G _ _ _ _ [_,_,_,_,_,_,_,_,_,_,_,_,_,_,_,_] _
  refine g_op_b (B := r7 != 0) rfl rfl rfl ?_ ?_
  ·
   intro hb
   rw [if_neg (b_bne_t hb)] at H
   show G _ _ _ _ [_,_,_,_,_,_,_,_,_,_,_,_,_,_,_,_] _
   refine g_ops_nil (g_cond_true rfl (g_seq (g_region ?_)))
   show G _ _ _ (.inRegion _ [0, 1, 2] :: _) _ _
   refine g_op (v := Value.int .i64 r7) rfl rfl rfl ?_
   show G _ _ _ _ [_,_,_,_,_,_,_,_,_,_,_,_,_,_,_,_] _
   refine g_op (v := Value.bool false) rfl rfl rfl ?_
   show G _ _ _ _ [_,_,_,_,_,_,_,_,_,_,_,_,_,_,_,_] _
   refine g_op (v := Value.int .i64 r7) rfl rfl rfl ?_
   show G _ _ _ _ [_,_,_,_,_,_,_,_,_,_,_,_,_,_,_,_] _
   refine g_ops_nil ?_
   obtain rfl := Option.some.inj H
   refine g_ret Try.func12 (v := Value.tuple #[Value.bool false, Value.int .i64 r7]) (resN (l := Try.f12.results.toList) (vs := [Value.bool false, Value.int .i64 r7]) rfl ⟨rfl, rfl, trivial⟩ (by simp)) ?_
   have hs : St _ [] _ := St.take (Γ' := [_]) hs
   exact ⟨_, rfl, rfl, hs⟩
  intro hb
  rw [if_pos (b_bne_f hb)] at H
  show G _ _ _ _ [_,_,_,_,_,_,_,_,_,_,_,_,_,_,_,_] _
  refine g_ops_nil (g_cond_false rfl (g_skip (g_seq (g_region ?_))))
  show G _ _ _ (.inRegion _ [0, 1, 2, 3, 4] :: _) _ _
  refine s_loadA rfl rfl (es := (([Value.int .i8 a1.f_Things, Value.int .i8 a1.f_Boat, v2] : List Value))) rfl rfl (fun _ => rfl) (n := 3) (fun _ => rfl) rfl (cells_all (hs.cells 0 rfl)) ?_
  show G _ _ _ _ [_,_,_,_,_,_,_,_,_,_,_,_,_,_,_,_] _
  refine g_op (v := Value.int .u16 a4) rfl rfl rfl ?_
  show G _ _ _ _ [_,_,_,_,_,_,_,_,_,_,_,_,_,_,_,_] _
  obtain ⟨r8, Hr8, H⟩ := bind_get H
  refine s_call (args := [Value.agg (([Value.int .i8 a1.f_Things, Value.int .i8 a1.f_Boat, v2] : List Value)).toArray, Value.int .u16 a4]) rfl rfl (x_call rfl (callFunc_enter Try.func34 rfl rfl) rfl) (_impl_Ferry_isSafe.calls (a1 := (⟨a1.f_Things, a1.f_Boat, a1.f_Rules⟩ : S_impl_Ferry)) (a4 := a4) (hs.rd hr3) Hr8) ?_
  rintro _ w ⟨rfl, hs2⟩
  have hs : St _ [_] _ := hs.call hs2
  show G _ _ _ _ [_,_,_,_,_,_,_,_,_,_,_,_,_,_,_,_] _
  refine g_op (v := Value.bool r8) rfl rfl rfl ?_
  show G _ _ _ _ [_,_,_,_,_,_,_,_,_,_,_,_,_,_,_,_] _
  refine g_op (v := Value.int .i64 0) rfl rfl rfl ?_
  show G _ _ _ _ [_,_,_,_,_,_,_,_,_,_,_,_,_,_,_,_] _
  refine g_ops_nil ?_
  obtain rfl := Option.some.inj H
  refine g_ret Try.func12 (v := Value.tuple #[Value.bool r8, Value.int .i64 0]) (resN (l := Try.f12.results.toList) (vs := [Value.bool r8, Value.int .i64 0]) rfl ⟨rfl, rfl, trivial⟩ (by simp)) ?_
  have hs : St _ [] _ := St.take (Γ' := [_]) hs
  exact ⟨_, rfl, rfl, hs⟩

/- function 13 impl_SafeSets -/
def impl_SafeSets.post (w0 : World) (r : (Int × Int)) (v : Value) (w : World) : Prop := v = Value.tuple #[Value.int .i64 r.1, Value.int .i64 r.2] ∧ St w0 [] w
set_option maxHeartbeats 8000000 in
set_option maxRecDepth 100000 in
theorem impl_SafeSets.calls {N : Nat} {a1 : S_impl_Ferry} {v2 : Value} {w0 : World} {r : (Int × Int)} (hr3 : RdRow (K.int .u16) w0 v2 a1.f_Rules) (H : impl_SafeSets.f N a1 = some r) :
    Calls Try.prog 13 #[Value.agg (([Value.int .i8 a1.f_Things, Value.int .i8 a1.f_Boat, v2] : List Value)).toArray] w0 fun e w => ∃ v, e = .returned v ∧ impl_SafeSets.post w0 r v w := by
  unfold impl_SafeSets.f at H
  have hs : St w0 [] w0 := St.refl w0
  refine calls_of_g (n := 21) Try.func13 rfl rfl ?_
  show G _ _ _ _ [_,_,_,_,_,_,_,_,_,_,_,_,_,_,_,_,_,_,_,_,_,_] _
  refine g_seq (g_region ?_)
  show G _ _ _ (.inRegion _ [0, 1, 2] :: _) _ _
  refine s_box hs rfl rfl (cs := (([Value.int .i8 a1.f_Things, Value.int .i8 a1.f_Boat, v2] : List Value))) rfl rfl ?_
  intro b4 w hs
  show G _ _ _ _ [_,_,_,_,_,_,_,_,_,_,_,_,_,_,_,_,_,_,_,_,_,_] _
  refine g_op (v := Value.int .i64 0) rfl rfl rfl ?_
  show G _ _ _ _ [_,_,_,_,_,_,_,_,_,_,_,_,_,_,_,_,_,_,_,_,_,_] _
  refine g_op (v := Value.int .i64 0) rfl rfl rfl ?_
  show G _ _ _ _ [_,_,_,_,_,_,_,_,_,_,_,_,_,_,_,_,_,_,_,_,_,_] _
  refine g_ops_nil (g_seq (g_seq (g_region ?_)))
  show G _ _ _ (.inRegion _ [0, 1, 2] :: _) _ _
  refine s_loadA rfl rfl (es := (([Value.int .i8 a1.f_Things, Value.int .i8 a1.f_Boat, v2] : List Value))) rfl rfl (fun _ => rfl) (n := 3) (fun _ => rfl) rfl (cells_all (hs.cells 0 rfl)) ?_
  show G _ _ _ _ [_,_,_,_,_,_,_,_,_,_,_,_,_,_,_,_,_,_,_,_,_,_] _
  obtain ⟨r6, Hr6, H⟩ := bind_get H
  refine s_call (args := [Value.agg (([Value.int .i8 a1.f_Things, Value.int .i8 a1.f_Boat, v2] : List Value)).toArray]) rfl rfl (x_call rfl (callFunc_enter Try.func23 rfl rfl) rfl) (impl_ValidFerry.calls (a1 := (⟨a1.f_Things, a1.f_Boat, a1.f_Rules⟩ : S_impl_Ferry)) (hs.rd hr3) Hr6) ?_
  rintro _ w ⟨rfl, hs2⟩
  have hs : St _ [_] _ := hs.call hs2
  cases r6 with
  | true =>
    rw [if_pos rfl] at H
    show G _ _ _ _ [_,_,_,_,_,_,_,_,_,_,_,_,_,_,_,_,_,_,_,_,_,_] _
    refine g_op (v := Value.bool false) rfl rfl rfl ?_
    show G _ _ _ _ [_,_,_,_,_,_,_,_,_,_,_,_,_,_,_,_,_,_,_,_,_,_] _
    refine g_ops_nil (g_cond_false rfl (g_skip (g_seq (g_region ?_))))
    show G _ _ _ (.inRegion _ [0] :: _) _ _
    refine g_op (v := Value.int .i64 0) rfl rfl rfl ?_
    show G _ _ _ _ [_,_,_,_,_,_,_,_,_,_,_,_,_,_,_,_,_,_,_,_,_,_] _
    refine g_ops_nil (g_seq (g_seq (g_region ?_)))
    show G _ _ _ (.inRegion _ [0, 1, 2, 3] :: _) _ _
    refine s_loadA rfl rfl (es := (([Value.int .i8 a1.f_Things, Value.int .i8 a1.f_Boat, v2] : List Value))) rfl rfl (fun _ => rfl) (n := 3) (fun _ => rfl) rfl (cells_all (hs.cells 0 rfl)) ?_
    show G _ _ _ _ [_,_,_,_,_,_,_,_,_,_,_,_,_,_,_,_,_,_,_,_,_,_] _
    obtain ⟨r7, Hr7, H⟩ := bind_get H
    refine s_call (args := [Value.agg (([Value.int .i8 a1.f_Things, Value.int .i8 a1.f_Boat, v2] : List Value)).toArray]) rfl rfl (x_call rfl (callFunc_enter Try.func27 rfl rfl) rfl) (_impl_Ferry_all.calls (a1 := (⟨a1.f_Things, a1.f_Boat, a1.f_Rules⟩ : S_impl_Ferry)) (hs.rd hr3) Hr7) ?_
    rintro _ w ⟨rfl, hs2⟩
    have hs : St _ [_] _ := hs.call hs2
    show G _ _ _ _ [_,_,_,_,_,_,_,_,_,_,_,_,_,_,_,_,_,_,_,_,_,_] _
    refine g_op (v := Value.int .u16 (u16w (r7 + 1))) rfl rfl rfl ?_
    show G _ _ _ _ [_,_,_,_,_,_,_,_,_,_,_,_,_,_,_,_,_,_,_,_,_,_] _
    refine g_op (v := Value.int .u16 0) rfl rfl rfl ?_
    show G _ _ _ _ [_,_,_,_,_,_,_,_,_,_,_,_,_,_,_,_,_,_,_,_,_,_] _
    refine g_ops_nil ?_
    obtain ⟨o1_, Ho, Hr1_⟩ := bind_get H
    refine g_block_join (J := fun t w => ∃ x12 : Int, impl_SafeSets.a0 N x12 = some r ∧ Fr t (fun O => ([O 0, O 1, O 2, O 3, Value.int .i64 x12, O 5, O 6, O 7, O 8, O 9, O 10, O 11, O 12, O 13, O 14, O 15, O 16, O 17, O 18, O 19, O 20, O 21] : List Value)) ∧ St w0 [] w) ?_ ?_
    ·
     rintro t w ⟨x12, H, hf, hs⟩
     obtain ⟨O, rfl⟩ := hf.open
     show G _ _ _ _ [_,_,_,_,_,_,_,_,_,_,_,_,_,_,_,_,_,_,_,_,_,_] _
     unfold impl_SafeSets.a0 at H
     refine g_seq (g_region ?_)
     show G _ _ _ (.inRegion _ [0, 1, 2] :: _) _ _
     refine g_op (v := Value.int .i64 x12) rfl rfl rfl ?_
     show G _ _ _ _ [_,_,_,_,_,_,_,_,_,_,_,_,_,_,_,_,_,_,_,_,_,_] _
     refine g_op (v := Value.int .i64 x12) rfl rfl rfl ?_
     show G _ _ _ _ [_,_,_,_,_,_,_,_,_,_,_,_,_,_,_,_,_,_,_,_,_,_] _
     refine g_op (v := Value.int .i64 0) rfl rfl rfl ?_
     show G _ _ _ _ [_,_,_,_,_,_,_,_,_,_,_,_,_,_,_,_,_,_,_,_,_,_] _
     refine g_ops_nil ?_
     obtain rfl := Option.some.inj H
     refine g_ret Try.func13 (v := Value.tuple #[Value.int .i64 x12, Value.int .i64 0]) (resN (l := Try.f13.results.toList) (vs := [Value.int .i64 x12, Value.int .i64 0]) rfl ⟨rfl, rfl, trivial⟩ (by simp)) ?_
     have hs : St _ [] _ := St.take (Γ' := []) hs
     exact ⟨_, rfl, rfl, hs⟩
    intro ha1_
    have hs := hs.pull 0 rfl
    have hs : St _ [_] _ := St.take (Γ' := []) hs
    refine g_loop_fuel (I := fun n_ t w => ∃ x8 : Int, ∃ x9 : Int, rounds (fun s => impl_SafeSets.b0 N r7 a1 s.1 s.2) n_ (x8, x9) = some o1_ ∧ Fr t (fun O => ([O 0, Value.pointer (some ⟨b4, 0, none⟩), O 2, O 3, Value.int .i64 x8, O 5, O 6, O 7, O 8, O 9, O 10, Value.int .u16 (u16w (r7 + 1)), Value.int .u16 x9, O 13, O 14, O 15, O 16, O 17, O 18, O 19, O 20, O 21] : List Value)) ∧ St w0 [Cells b4 (([Value.int .i8 a1.f_Things, Value.int .i8 a1.f_Boat, v2] : List Value)) 27] w) N ⟨0, 0, Ho, rfl, hs⟩ ?_ ?_
    ·
     rintro _ _ ⟨x8, x9, h, _⟩
     exact rounds_zero h
    intro n_ ih1_
    rintro t w ⟨x8, x9, Ho, hf, hs⟩
    obtain ⟨O, rfl⟩ := hf.open
    show G _ _ _ _ [_,_,_,_,_,_,_,_,_,_,_,_,_,_,_,_,_,_,_,_,_,_] _
    obtain ⟨x1_, H, Hx1_⟩ := rounds_succ Ho
    have H : impl_SafeSets.b0 N r7 a1 x8 x9 = some x1_ := H
    unfold impl_SafeSets.b0 at H
    refine g_seq (g_region ?_)
    show G _ _ _ (.inRegion _ [0] :: _) _ _
    refine g_op_b (B := decide (x9 < (u16w (r7 + 1)))) rfl rfl rfl ?_ ?_
    ·
     intro hb
     rw [if_pos (b_dec_t hb)] at H
     show G _ _ _ _ [_,_,_,_,_,_,_,_,_,_,_,_,_,_,_,_,_,_,_,_,_,_] _
     refine g_ops_nil (g_seq (g_cond_true rfl (g_skip (g_seq ?_))))
     refine g_block_join (J := (fun t w => ∃ x11 : Int, impl_SafeSets.j2 N x9 x11 = some x1_ ∧ Fr t (fun O => ([O 0, Value.pointer (some ⟨b4, 0, none⟩), O 2, O 3, Value.int .i64 x11, O 5, O 6, O 7, O 8, O 9, O 10, Value.int .u16 (u16w (r7 + 1)), Value.int .u16 x9, O 13, O 14, O 15, O 16, O 17, O 18, O 19, O 20, O 21] : List Value)) ∧ St w0 [Cells b4 (([Value.int .i8 a1.f_Things, Value.int .i8 a1.f_Boat, v2] : List Value)) 27] w)) ?_ ?_
     ·
      rintro t w ⟨x11, H, hf, hs⟩
      obtain ⟨O, rfl⟩ := hf.open
      show G _ _ _ _ [_,_,_,_,_,_,_,_,_,_,_,_,_,_,_,_,_,_,_,_,_,_] _
      unfold impl_SafeSets.j2 at H
      refine g_region ?_
      show G _ _ _ (.inRegion _ [0, 1] :: _) _ _
      refine g_op (v := Value.int .u16 (u16w (x9 + 1))) rfl rfl rfl ?_
      show G _ _ _ _ [_,_,_,_,_,_,_,_,_,_,_,_,_,_,_,_,_,_,_,_,_,_] _
      refine g_op (v := Value.int .u16 (u16w (x9 + 1))) rfl rfl rfl ?_
      show G _ _ _ _ [_,_,_,_,_,_,_,_,_,_,_,_,_,_,_,_,_,_,_,_,_,_] _
      refine g_ops_nil ?_
      obtain rfl := Option.some.inj H
      have hs := hs.pull 0 rfl
      have hs : St _ [_] _ := St.take (Γ' := []) hs
      exact ih1_ _ _ ⟨x11, u16w (x9 + 1), Hx1_, rfl, hs⟩
     intro ha
     refine g_seq (g_region ?_)
     show G _ _ _ (.inRegion _ [0, 1] :: _) _ _
     refine g_op (v := Value.int .u16 x9) rfl rfl rfl ?_
     show G _ _ _ _ [_,_,_,_,_,_,_,_,_,_,_,_,_,_,_,_,_,_,_,_,_,_] _
     refine g_op (v := Value.int .u16 x9) rfl rfl rfl ?_
     show G _ _ _ _ [_,_,_,_,_,_,_,_,_,_,_,_,_,_,_,_,_,_,_,_,_,_] _
     refine g_ops_nil (g_seq (g_region ?_))
     show G _ _ _ (.inRegion _ [0, 1, 2] :: _) _ _
     refine s_loadA rfl rfl (es := (([Value.int .i8 a1.f_Things, Value.int .i8 a1.f_Boat, v2] : List Value))) rfl rfl (fun _ => rfl) (n := 3) (fun _ => rfl) rfl (cells_all (hs.cells 0 rfl)) ?_
     show G _ _ _ _ [_,_,_,_,_,_,_,_,_,_,_,_,_,_,_,_,_,_,_,_,_,_] _
     refine g_op (v := Value.int .u16 x9) rfl rfl rfl ?_
     show G _ _ _ _ [_,_,_,_,_,_,_,_,_,_,_,_,_,_,_,_,_,_,_,_,_,_] _
     obtain ⟨r10, Hr10, H⟩ := bind_get H
     refine s_call (args := [Value.agg (([Value.int .i8 a1.f_Things, Value.int .i8 a1.f_Boat, v2] : List Value)).toArray, Value.int .u16 x9]) rfl rfl (x_call rfl (callFunc_enter Try.func34 rfl rfl) rfl) (_impl_Ferry_isSafe.calls (a1 := (⟨a1.f_Things, a1.f_Boat, a1.f_Rules⟩ : S_impl_Ferry)) (a4 := x9) (hs.rd hr3) Hr10) ?_
     rintro _ w ⟨rfl, hs2⟩
     have hs : St _ [_] _ := hs.call hs2
     cases r10 with
     | true =>
       rw [if_pos rfl] at H
       show G _ _ _ _ [_,_,_,_,_,_,_,_,_,_,_,_,_,_,_,_,_,_,_,_,_,_] _
       refine g_ops_nil (g_cond_true rfl (g_region ?_))
       show G _ _ _ (.inRegion _ [0, 1, 2] :: _) _ _
       refine g_op (v := Value.int .i64 x8) rfl rfl rfl ?_
       show G _ _ _ _ [_,_,_,_,_,_,_,_,_,_,_,_,_,_,_,_,_,_,_,_,_,_] _
       refine g_op (v := Value.int .i64 (i64w (x8 + 1))) rfl rfl rfl ?_
       show G _ _ _ _ [_,_,_,_,_,_,_,_,_,_,_,_,_,_,_,_,_,_,_,_,_,_] _
       refine g_op (v := Value.int .i64 (i64w (x8 + 1))) rfl rfl rfl ?_
       show G _ _ _ _ [_,_,_,_,_,_,_,_,_,_,_,_,_,_,_,_,_,_,_,_,_,_] _
       refine g_ops_nil ?_
       refine g_inBlock ?_
       have hs := hs.pull 0 rfl
       have hs : St _ [_] _ := St.take (Γ' := []) hs
       exact ha _ _ ⟨i64w (x8 + 1), H, rfl, hs⟩
     | false =>
       rw [if_neg Bool.false_ne_true] at H
       show G _ _ _ _ [_,_,_,_,_,_,_,_,_,_,_,_,_,_,_,_,_,_,_,_,_,_] _
       refine g_ops_nil (g_cond_false rfl (g_skip ?_))
       refine g_inBlock ?_
       have hs := hs.pull 0 rfl
       have hs : St _ [_] _ := St.take (Γ' := []) hs
       exact ha _ _ ⟨x8, H, rfl, hs⟩
    intro hb
    rw [if_neg (b_dec_f hb)] at H
    show G _ _ _ _ [_,_,_,_,_,_,_,_,_,_,_,_,_,_,_,_,_,_,_,_,_,_] _
    refine g_ops_nil (g_seq (g_cond_false rfl ?_))
    obtain rfl := Option.some.inj H
    subst Hx1_
    have hs : St _ [] _ := St.take (Γ' := [_]) hs
    refine g_exit rfl ?_
    exact ha1_ _ _ ⟨x8, Hr1_, rfl, hs⟩
  | false =>
    rw [if_neg Bool.false_ne_true] at H
    show G _ _ _ _ [_,_,_,_,_,_,_,_,_,_,_,_,_,_,_,_,_,_,_,_,_,_] _
    refine g_op (v := Value.bool true) rfl rfl rfl ?_
    show G _ _ _ _ [_,_,_,_,_,_,_,_,_,_,_,_,_,_,_,_,_,_,_,_,_,_] _
    refine g_ops_nil (g_cond_true rfl (g_seq (g_region ?_)))
    show G _ _ _ (.inRegion _ [0, 1] :: _) _ _
    refine g_op (v := Value.int .i64 0) rfl rfl rfl ?_
    show G _ _ _ _ [_,_,_,_,_,_,_,_,_,_,_,_,_,_,_,_,_,_,_,_,_,_] _
    refine g_op (v := Value.int .i64 1) rfl rfl rfl ?_
    show G _ _ _ _ [_,_,_,_,_,_,_,_,_,_,_,_,_,_,_,_,_,_,_,_,_,_] _
    refine g_ops_nil ?_
    obtain rfl := Option.some.inj H
    refine g_ret Try.func13 (v := Value.tuple #[Value.int .i64 0, Value.int .i64 1]) (resN (l := Try.f13.results.toList) (vs := [Value.int .i64 0, Value.int .i64 1]) rfl ⟨rfl, rfl, trivial⟩ (by simp)) ?_
    have hs : St _ [] _ := St.take (Γ' := [_]) hs
    exact ⟨_, rfl, rfl, hs⟩

/- function 15 laws_a2At -/
def laws_a2At.post (w0 : World) (r : Int) (v : Value) (w : World) : Prop := v = Value.int .i64 r ∧ St w0 [] w
set_option maxHeartbeats 8000000 in
set_option maxRecDepth 100000 in
theorem laws_a2At.calls {N : Nat} {a1 : (List Int)} {a3 : Int} {a4 : Int} {v2 : Value} {w0 : World} {r : Int} (hr0 : RdRow (K.int .u8) w0 v2 a1) (H : laws_a2At.f N a1 a3 a4 = some r) :
    Calls Try.prog 15 #[v2, Value.int .i64 a3, Value.int .i64 a4] w0 fun e w => ∃ v, e = .returned v ∧ laws_a2At.post w0 r v w := by
  unfold laws_a2At.f at H
  have hs : St w0 [] w0 := St.refl w0
  refine calls_of_g (n := 19) Try.func15 rfl rfl ?_
  show G _ _ _ _ [_,_,_,_,_,_,_,_,_,_,_,_,_,_,_,_,_,_,_,_,_,_] _
  refine g_seq (g_region ?_)
  show G _ _ _ (.inRegion _ [0] :: _) _ _
  refine g_op (v := Value.int .i64 0) rfl rfl rfl ?_
  show G _ _ _ _ [_,_,_,_,_,_,_,_,_,_,_,_,_,_,_,_,_,_,_,_,_,_] _
  refine g_ops_nil (g_seq (g_seq (g_region ?_)))
  show G _ _ _ (.inRegion _ [0, 1, 2, 3, 4, 5, 6, 7] :: _) _ _
  refine g_op (v := Value.int .i64 a3) rfl rfl rfl ?_
  show G _ _ _ _ [_,_,_,_,_,_,_,_,_,_,_,_,_,_,_,_,_,_,_,_,_,_] _
  refine g_op (v := v2) rfl rfl rfl ?_
  show G _ _ _ _ [_,_,_,_,_,_,_,_,_,_,_,_,_,_,_,_,_,_,_,_,_,_] _
  refine s_len (hs.rd hr0) rfl rfl rfl rfl rfl ?_
  show G _ _ _ _ [_,_,_,_,_,_,_,_,_,_,_,_,_,_,_,_,_,_,_,_,_,_] _
  refine g_op_b (B := decide (a3 ≥ (a1.length : Int))) rfl rfl rfl ?_ ?_
  ·
   intro hb
   rw [if_pos (b_dec_t hb)] at H
   show G _ _ _ _ [_,_,_,_,_,_,_,_,_,_,_,_,_,_,_,_,_,_,_,_,_,_] _
   refine g_op (v := Value.bool true) rfl rfl rfl ?_
   show G _ _ _ _ [_,_,_,_,_,_,_,_,_,_,_,_,_,_,_,_,_,_,_,_,_,_] _
   refine g_op_not rfl rfl ?_
   show G _ _ _ _ [_,_,_,_,_,_,_,_,_,_,_,_,_,_,_,_,_,_,_,_,_,_] _
   refine g_op_not rfl rfl ?_
   show G _ _ _ _ [_,_,_,_,_,_,_,_,_,_,_,_,_,_,_,_,_,_,_,_,_,_] _
   refine g_op (v := Value.bool true) rfl rfl rfl ?_
   show G _ _ _ _ [_,_,_,_,_,_,_,_,_,_,_,_,_,_,_,_,_,_,_,_,_,_] _
   refine g_ops_nil (g_cond_true rfl (g_seq (g_region ?_)))
   show G _ _ _ (.inRegion _ [0] :: _) _ _
   refine g_op (v := Value.int .i64 0) rfl rfl rfl ?_
   show G _ _ _ _ [_,_,_,_,_,_,_,_,_,_,_,_,_,_,_,_,_,_,_,_,_,_] _
   refine g_ops_nil ?_
   obtain rfl := Option.some.inj H
   refine g_ret Try.func15 (v := Value.int .i64 0) (res1 rfl rfl) ?_
   have hs : St _ [] _ := St.take (Γ' := []) hs
   exact ⟨_, rfl, rfl, hs⟩
  intro hb
  rw [if_neg (b_dec_f hb)] at H
  show G _ _ _ _ [_,_,_,_,_,_,_,_,_,_,_,_,_,_,_,_,_,_,_,_,_,_] _
  refine g_op (v := Value.bool false) rfl rfl rfl ?_
  show G _ _ _ _ [_,_,_,_,_,_,_,_,_,_,_,_,_,_,_,_,_,_,_,_,_,_] _
  refine g_op (v := Value.int .i64 a4) rfl rfl rfl ?_
  show G _ _ _ _ [_,_,_,_,_,_,_,_,_,_,_,_,_,_,_,_,_,_,_,_,_,_] _
  refine g_op_b (B := decide (a4 < 1)) rfl rfl rfl ?_ ?_
  ·
   intro hb
   rw [if_pos (b_dec_t hb)] at H
   show G _ _ _ _ [_,_,_,_,_,_,_,_,_,_,_,_,_,_,_,_,_,_,_,_,_,_] _
   refine g_op (v := Value.bool true) rfl rfl rfl ?_
   show G _ _ _ _ [_,_,_,_,_,_,_,_,_,_,_,_,_,_,_,_,_,_,_,_,_,_] _
   refine g_ops_nil (g_cond_true rfl (g_seq (g_region ?_)))
   show G _ _ _ (.inRegion _ [0] :: _) _ _
   refine g_op (v := Value.int .i64 0) rfl rfl rfl ?_
   show G _ _ _ _ [_,_,_,_,_,_,_,_,_,_,_,_,_,_,_,_,_,_,_,_,_,_] _
   refine g_ops_nil ?_
   obtain rfl := Option.some.inj H
   refine g_ret Try.func15 (v := Value.int .i64 0) (res1 rfl rfl) ?_
   have hs : St _ [] _ := St.take (Γ' := []) hs
   exact ⟨_, rfl, rfl, hs⟩
  intro hb
  rw [if_neg (b_dec_f hb)] at H
  show G _ _ _ _ [_,_,_,_,_,_,_,_,_,_,_,_,_,_,_,_,_,_,_,_,_,_] _
  refine g_op (v := Value.bool false) rfl rfl rfl ?_
  show G _ _ _ _ [_,_,_,_,_,_,_,_,_,_,_,_,_,_,_,_,_,_,_,_,_,_] _
  refine g_ops_nil (g_cond_false rfl (g_skip (g_seq (g_region ?_))))
  show G _ _ _ (.inRegion _ [0, 1, 2, 3, 4, 5, 6, 7] :: _) _ _
  refine g_op (v := v2) rfl rfl rfl ?_
  show G _ _ _ _ [_,_,_,_,_,_,_,_,_,_,_,_,_,_,_,_,_,_,_,_,_,_] _
  refine g_op (v := Value.int .i64 a3) rfl rfl rfl ?_
  show G _ _ _ _ [_,_,_,_,_,_,_,_,_,_,_,_,_,_,_,_,_,_,_,_,_,_] _
  obtain ⟨g1, H⟩ := ite_get H
  refine s_idx (fkI .u8) 0 (hs.rd hr0) rfl (fun _ => rfl) g1.1 g1.2 rfl rfl rfl rfl rfl ?_
  intro p5 hp5 lp5 op5
  show G _ _ _ _ [_,_,_,_,_,_,_,_,_,_,_,_,_,_,_,_,_,_,_,_,_,_] _
  refine s_load1 rfl rfl (v := Value.int .u8 (rdL a1 a3 0)) rfl rfl (fun _ => rfl) hp5 ?_
  show G _ _ _ _ [_,_,_,_,_,_,_,_,_,_,_,_,_,_,_,_,_,_,_,_,_,_] _
  refine g_op (v := Value.int .i64 (i64w (rdL a1 a3 0))) rfl rfl rfl ?_
  show G _ _ _ _ [_,_,_,_,_,_,_,_,_,_,_,_,_,_,_,_,_,_,_,_,_,_] _
  refine g_op (v := Value.int .i64 a4) rfl rfl rfl ?_
  show G _ _ _ _ [_,_,_,_,_,_,_,_,_,_,_,_,_,_,_,_,_,_,_,_,_,_] _
  obtain ⟨g2, H⟩ := ite_get H
  refine g_op (v := Value.int .i64 ((i64w (rdL a1 a3 0)).tmod a4)) rfl rfl (x_divrem rfl rfl rfl g2) ?_
  show G _ _ _ _ [_,_,_,_,_,_,_,_,_,_,_,_,_,_,_,_,_,_,_,_,_,_] _
  refine g_op (v := Value.int .i64 ((i64w (rdL a1 a3 0)).tmod a4)) rfl rfl rfl ?_
  show G _ _ _ _ [_,_,_,_,_,_,_,_,_,_,_,_,_,_,_,_,_,_,_,_,_,_] _
  refine g_ops_nil ?_
  obtain rfl := Option.some.inj H
  refine g_ret Try.func15 (v := Value.int .i64 ((i64w (rdL a1 a3 0)).tmod a4)) (res1 rfl rfl) ?_
  have hs : St _ [] _ := St.take (Γ' := []) hs
  exact ⟨_, rfl, rfl, hs⟩

/- function 16 impl_WithoutThing -/
def impl_WithoutThing.post (w0 : World) (r : (S_impl_Ferry × Int)) (v : Value) (w : World) : Prop := ∃ u1 : Value, v = Value.tuple #[Value.agg (([Value.int .i8 r.1.f_Things, Value.int .i8 r.1.f_Boat, u1] : List Value)).toArray, Value.int .i64 r.2] ∧ St w0 [Row 31 (K.int .u16) u1 r.1.f_Rules] w
set_option maxHeartbeats 8000000 in
set_option maxRecDepth 100000 in
theorem impl_WithoutThing.calls {N : Nat} {a1 : S_impl_Ferry} {a4 : Int} {v2 : Value} {w0 : World} {r : (S_impl_Ferry × Int)} (hr3 : RdRow (K.int .u16) w0 v2 a1.f_Rules) (H : impl_WithoutThing.f N a1 a4 = some r) :
    Calls Try.prog 16 #[Value.agg (([Value.int .i8 a1.f_Things, Value.int .i8 a1.f_Boat, v2] : List Value)).toArray, Value.int .i64 a4] w0 fun e w => ∃ v, e = .returned v ∧ impl_WithoutThing.post w0 r v w := by
  unfold impl_WithoutThing.f at H
  have hs : St w0 [] w0 := St.refl w0
  refine calls_of_g (n := 67) Try.func16 rfl rfl ?_
  show G _ _ _ _ (_::_::_::_::_::_::_::_::_::_::_::_::_::_::_::_::_::_::_::_::_::_::_::_::_::_::_::_::_::_::_::_::_::_::_::_::_::_::_::_::_::_::_::_::_::_::_::_::_::_::_::_::_::_::_::_::_::_::_::_::_::_::_::_::_::_::_::_::_::[]) _
  refine g_seq (g_region ?_)
  show G _ _ _ (.inRegion _ [0, 1, 2] :: _) _ _
  refine s_box hs rfl rfl (cs := (([Value.int .i8 a1.f_Things, Value.int .i8 a1.f_Boat, v2] : List Value))) rfl rfl ?_
  intro b5 w hs
  refine g_d rfl ?_
  try dsimp only [set0,setS]
  refine s_alloc hs rfl rfl (z := (Value.agg #[Value.int .i8 0, Value.int .i8 0, Value.slice none 0 0])) (cs := (([Value.int .i8 0, Value.int .i8 0, Value.slice none 0 0] : List Value))) rfl (fun _ => rfl) rfl ?_
  intro b7 w hs
  refine g_d rfl ?_
  try dsimp only [set0,setS]
  refine g_op (v := Value.int .i64 0) rfl rfl rfl (g_d rfl ?_)
  try dsimp only [set0,setS]
  refine g_ops_nil (g_seq ?_)
  refine g_block (g_seq (g_region ?_))
  show G _ _ _ (.inRegion _ [0, 1, 2, 3] :: _) _ _
  refine s_loadA rfl rfl (es := (([Value.int .i8 a1.f_Things, Value.int .i8 a1.f_Boat, v2] : List Value))) rfl rfl (fun _ => rfl) (n := 3) (fun _ => rfl) rfl (cells_all (hs.cells 1 rfl)) (g_d rfl ?_)
  try dsimp only [set0,setS]
  obtain ⟨r9, Hr9, H⟩ := bind_get H
  refine s_call (args := [Value.agg (([Value.int .i8 a1.f_Things, Value.int .i8 a1.f_Boat, v2] : List Value)).toArray]) rfl rfl (x_call rfl (callFunc_enter Try.func23 rfl rfl) rfl) (impl_ValidFerry.calls (a1 := (⟨a1.f_Things, a1.f_Boat, a1.f_Rules⟩ : S_impl_Ferry)) (hs.rd hr3) Hr9) ?_
  rintro _ w ⟨rfl, hs2⟩
  have hs : St _ [_,_] _ := hs.call hs2
  cases r9 with
  | true =>
    rw [if_pos rfl] at H
    refine g_d rfl ?_
    try dsimp only [set0,setS]
    refine g_op (v := Value.bool false) rfl rfl rfl (g_d rfl ?_)
    try dsimp only [set0,setS]
    refine g_op (v := Value.bool false) rfl rfl rfl (g_d rfl ?_)
    try dsimp only [set0,setS]
    refine g_ops_nil (g_cond_false rfl (g_seq (g_region ?_)))
    show G _ _ _ (.inRegion _ [0, 1, 2, 3, 4, 5, 6, 7] :: _) _ _
    refine g_op (v := Value.int .i64 a4) rfl rfl rfl (g_d rfl ?_)
    refine g_op (v := Value.pointer (some ⟨b5, 0, none⟩)) rfl rfl rfl (g_d rfl ?_)
    refine s_load1 rfl rfl (v := Value.int .i8 a1.f_Things) rfl rfl (fun _ => rfl) (cells_load (hs.cells 1 rfl) 0 1 rfl) (g_d rfl ?_)
    try dsimp only [set0,setS]
    refine g_op (v := Value.int .i64 (i64w a1.f_Things)) rfl rfl rfl (g_d rfl ?_)
    refine g_op (v := Value.int .i64 (i64w ((i64w a1.f_Things) - 1))) rfl rfl rfl (g_d rfl ?_)
    try dsimp only [set0,setS]
    obtain ⟨r10, Hr10, H⟩ := bind_get H
    refine s_call (args := [Value.int .i64 a4, Value.int .i64 0, Value.int .i64 (i64w ((i64w a1.f_Things) - 1))]) rfl rfl (x_call rfl (callFunc_enter Try.func39 rfl rfl) rfl) (impl_within.calls (a1 := a4) (a2 := 0) (a3 := i64w ((i64w a1.f_Things) - 1)) Hr10) ?_
    rintro _ w ⟨rfl, hs2⟩
    have hs : St _ [_,_] _ := hs.call hs2
    cases r10 with
    | true =>
      rw [if_pos rfl] at H
      refine g_d rfl ?_
      try dsimp only [set0,setS]
      refine g_op (v := Value.bool false) rfl rfl rfl (g_d rfl ?_)
      try dsimp only [set0,setS]
      refine g_op (v := Value.bool false) rfl rfl rfl (g_d rfl ?_)
      try dsimp only [set0,setS]
      refine g_ops_nil (g_cond_false rfl (g_seq (g_region ?_)))
      show G _ _ _ (.inRegion _ [0, 1, 2, 3] :: _) _ _
      refine g_op (v := Value.pointer (some ⟨b5, 0, none⟩)) rfl rfl rfl (g_d rfl ?_)
      refine s_load1 rfl rfl (v := Value.int .i8 a1.f_Things) rfl rfl (fun _ => rfl) (cells_load (hs.cells 1 rfl) 0 1 rfl) (g_d rfl ?_)
      try dsimp only [set0,setS]
      refine g_op_b (B := a1.f_Things == 1) rfl rfl rfl ?_ ?_
      ·
       intro hb
       rw [if_pos (b_beq_t hb)] at H
       refine g_d rfl ?_
       try dsimp only [set0,setS]
       refine g_op (v := Value.bool true) rfl rfl rfl (g_d rfl ?_)
       try dsimp only [set0,setS]
       refine g_ops_nil (g_cond_true rfl (g_seq (g_region ?_)))
       show G _ _ _ (.inRegion _ [0, 1, 2] :: _) _ _
       refine g_op (v := Value.agg (([Value.int .i8 0, Value.int .i8 0, Value.slice none 0 0] : List Value)).toArray) rfl rfl (x_buildS (cs := (([Value.int .i8 0, Value.int .i8 0, Value.slice none 0 0] : List Value))) (segs := [[Value.int .i8 0], [Value.int .i8 0], [Value.slice none 0 0]]) rfl rfl (fun _ => rfl) ⟨rfl, (fun _ => rfl), rfl, (fun _ => rfl), rfl, (fun _ => rfl), trivial⟩ (by simp) (by first | rfl | (simp [ev, encA]; done) | (simp [ev, encA]; rfl))) ?_
       refine g_d rfl ?_
       try dsimp only [set0,setS]
       refine s_storeAll (n := 3) hs rfl rfl rfl (vs := (([Value.int .i8 0, Value.int .i8 0, Value.slice none 0 0] : List Value))) rfl rfl rfl (fun _ => rfl) rfl (by simp [Value.oneCell']) ?_
       intro w hs
       refine g_n rfl ?_
       refine g_op (v := Value.int .i64 4) rfl rfl rfl (g_d rfl ?_)
       try dsimp only [set0,setS]
       refine g_ops_nil ?_
       obtain rfl := Option.some.inj H
       refine g_ret Try.func16 (v := Value.tuple #[Value.agg (([Value.int .i8 0, Value.int .i8 0, Value.slice none 0 0] : List Value)).toArray, Value.int .i64 4]) (resN (l := Try.f16.results.toList) (vs := [Value.agg (([Value.int .i8 0, Value.int .i8 0, Value.slice none 0 0] : List Value)).toArray, Value.int .i64 4]) rfl ⟨⟨_, rfl, (run_loadVar_agg (es := (([Value.int .i8 0, Value.int .i8 0, Value.slice none 0 0] : List Value))) rfl rfl (cells_all (hs.cells 0 rfl)))⟩, rfl, trivial⟩ (by simp)) ?_
       have hs := hs.nil 31 (K.int .u16)
       have hs := hs.pull 0 rfl
       have hs : St _ [_] _ := St.take (Γ' := [_,_]) hs
       exact ⟨_, rfl, (Value.slice none 0 0), rfl, hs⟩
      intro hb
      rw [if_neg (b_beq_f hb)] at H
      refine g_d rfl ?_
      try dsimp only [set0,setS]
      refine g_op (v := Value.bool false) rfl rfl rfl (g_d rfl ?_)
      try dsimp only [set0,setS]
      refine g_ops_nil (g_cond_false rfl (g_skip ?_))
      refine g_inBlock (g_seq (g_region ?_))
      show G _ _ _ (.inRegion _ [0, 1, 2, 3, 4, 5, 6, 7, 8, 9, 10, 11] :: _) _ _
      refine g_op (v := Value.pointer (some ⟨b5, 0, none⟩)) rfl rfl rfl (g_d rfl ?_)
      refine s_load1 rfl rfl (v := Value.int .i8 a1.f_Things) rfl rfl (fun _ => rfl) (cells_load (hs.cells 1 rfl) 0 1 rfl) (g_d rfl ?_)
      try dsimp only [set0,setS]
      refine g_op (v := Value.int .i8 (i8w (a1.f_Things - 1))) rfl rfl rfl (g_d rfl ?_)
      try dsimp only [set0,setS]
      refine g_op (v := Value.pointer (some ⟨b5, 1, none⟩)) rfl rfl rfl (g_d rfl ?_)
      refine s_load1 rfl rfl (v := Value.int .i8 a1.f_Boat) rfl rfl (fun _ => rfl) (cells_load (hs.cells 1 rfl) 1 1 rfl) (g_d rfl ?_)
      try dsimp only [set0,setS]
      refine g_op (v := Value.pointer (some ⟨b5, 0, none⟩)) rfl rfl rfl (g_d rfl ?_)
      refine s_load1 rfl rfl (v := Value.int .i8 a1.f_Things) rfl rfl (fun _ => rfl) (cells_load (hs.cells 1 rfl) 0 1 rfl) (g_d rfl ?_)
      try dsimp only [set0,setS]
      refine g_op (v := Value.int .i8 (i8w (a1.f_Things - 1))) rfl rfl rfl (g_d rfl ?_)
      try dsimp only [set0,setS]
      refine g_op (v := Value.int .i8 (mnI a1.f_Boat (i8w (a1.f_Things - 1)))) rfl rfl (x_min rfl rfl rfl) (g_d rfl ?_)
      try dsimp only [set0,setS]
      refine g_op (v := Value.agg (([Value.int .i8 (i8w (a1.f_Things - 1)), Value.int .i8 (mnI a1.f_Boat (i8w (a1.f_Things - 1))), Value.slice none 0 0] : List Value)).toArray) rfl rfl (x_buildS (cs := (([Value.int .i8 (i8w (a1.f_Things - 1)), Value.int .i8 (mnI a1.f_Boat (i8w (a1.f_Things - 1))), Value.slice none 0 0] : List Value))) (segs := [[Value.int .i8 0], [Value.int .i8 0], [Value.slice none 0 0]]) rfl rfl (fun _ => rfl) ⟨rfl, (fun _ => rfl), rfl, (fun _ => rfl), rfl, (fun _ => rfl), trivial⟩ (by simp only [List.map_cons, List.map_nil, List.forall_mem_cons, List.not_mem_nil, false_implies, implies_true, and_true]; exact ⟨⟨_, rfl, rfl⟩, ⟨_, rfl, rfl⟩, ⟨_, rfl, rfl⟩⟩) (by first | rfl | (simp [ev, encA]; done) | (simp [ev, encA]; rfl))) ?_
      refine g_d rfl ?_
      try dsimp only [set0,setS]
      refine s_alloc hs rfl rfl (z := (Value.agg #[Value.int .i8 0, Value.int .i8 0, Value.slice none 0 0])) (cs := (([Value.int .i8 0, Value.int .i8 0, Value.slice none 0 0] : List Value))) rfl (fun _ => rfl) rfl ?_
      intro b11 w hs
      refine g_d rfl ?_
      try dsimp only [set0,setS]
      refine s_storeAll (n := 3) hs rfl rfl rfl (vs := (([Value.int .i8 (i8w (a1.f_Things - 1)), Value.int .i8 (mnI a1.f_Boat (i8w (a1.f_Things - 1))), Value.slice none 0 0] : List Value))) rfl rfl rfl (fun _ => rfl) rfl (by simp [Value.oneCell']) ?_
      intro w hs
      refine g_n rfl (g_ops_nil (g_seq (g_seq (g_region ?_))))
      show G _ _ _ (.inRegion _ [0, 1, 2, 3] :: _) _ _
      refine g_op (v := Value.pointer (some ⟨b5, 2, none⟩)) rfl rfl rfl (g_d rfl ?_)
      refine s_load1 rfl rfl (v := v2) rfl rfl (fun _ => rfl) (cells_load (hs.cells 2 rfl) 2 1 rfl) (g_d rfl ?_)
      try dsimp only [set0,setS]
      refine s_len (hs.rd hr3) rfl rfl rfl rfl rfl (g_d rfl ?_)
      try dsimp only [set0,setS]
      refine g_op (v := Value.int .i64 0) rfl rfl rfl (g_d rfl (g_ops_nil ?_))
      obtain ⟨o1_, Ho, Hr1_⟩ := bind_get H
      refine g_block_join (J := fun t w => ∃ x37 : Int, ∃ x38 : Int, ∃ v39 : Value, ∃ x40 : (List Int), impl_WithoutThing.a0 N x37 x38 x40 = some r ∧ Fr t (fun O => (O 0::O 1::O 2::O 3::Value.pointer (some ⟨b7, 0, none⟩)::O 5::Value.pointer (some ⟨b11, 0, none⟩)::O 7::O 8::O 9::O 10::O 11::O 12::O 13::O 14::O 15::O 16::O 17::O 18::O 19::O 20::O 21::O 22::O 23::O 24::O 25::O 26::O 27::O 28::O 29::O 30::O 31::O 32::O 33::O 34::O 35::O 36::O 37::O 38::O 39::O 40::O 41::O 42::O 43::O 44::O 45::O 46::O 47::O 48::O 49::O 50::O 51::O 52::O 53::O 54::O 55::O 56::O 57::O 58::O 59::O 60::O 61::O 62::O 63::O 64::O 65::O 66::O 67::O 68::[] : List Value)) ∧ St w0 [Cells b7 (([Value.int .i8 0, Value.int .i8 0, Value.slice none 0 0] : List Value)) 27, Cells b11 (([Value.int .i8 x37, Value.int .i8 x38, v39] : List Value)) 27, Row 31 (K.int .u16) v39 x40] w) ?_ ?_
      ·
       rintro t w ⟨x37, x38, v39, x40, H, hf, hs⟩
       obtain ⟨O, rfl⟩ := hf.open
       try dsimp only
       unfold impl_WithoutThing.a0 at H
       refine g_seq (g_region ?_)
       show G _ _ _ (.inRegion _ [0, 1, 2] :: _) _ _
       refine s_loadA rfl rfl (es := (([Value.int .i8 x37, Value.int .i8 x38, v39] : List Value))) rfl rfl (fun _ => rfl) (n := 3) (fun _ => rfl) rfl (cells_all (hs.cells 1 rfl)) (g_d rfl ?_)
       try dsimp only [set0,setS]
       refine s_storeAll (n := 3) hs rfl rfl rfl (vs := (([Value.int .i8 x37, Value.int .i8 x38, v39] : List Value))) rfl rfl rfl (fun _ => rfl) rfl (by intro v hv; simp only [List.mem_append, List.mem_cons, List.not_mem_nil, or_false] at hv; repeat (first | (subst hv; first | rfl | exact slOne (hs.row 2 rfl)) | (rcases hv with hv | hv))) ?_
       intro w hs
       refine g_n rfl ?_
       refine g_op (v := Value.int .i64 0) rfl rfl rfl (g_d rfl ?_)
       try dsimp only [set0,setS]
       refine g_ops_nil ?_
       obtain rfl := Option.some.inj H
       refine g_ret Try.func16 (v := Value.tuple #[Value.agg (([Value.int .i8 x37, Value.int .i8 x38, v39] : List Value)).toArray, Value.int .i64 0]) (resN (l := Try.f16.results.toList) (vs := [Value.agg (([Value.int .i8 x37, Value.int .i8 x38, v39] : List Value)).toArray, Value.int .i64 0]) rfl ⟨⟨_, rfl, (run_loadVar_agg (es := (([Value.int .i8 x37, Value.int .i8 x38, v39] : List Value))) rfl rfl (cells_all (hs.cells 0 rfl)))⟩, rfl, trivial⟩ (by simp)) ?_
       have hs := hs.pull 2 rfl
       have hs : St _ [_] _ := St.take (Γ' := [_,_]) hs
       exact ⟨_, rfl, v39, rfl, hs⟩
      intro ha1_
      have hs := hs.nil 31 (K.int .u16)
      have hs := hs.pull 1 rfl
      have hs := hs.pull 1 rfl
      have hs := hs.pull 2 rfl
      have hs : St _ [_,_,_] _ := St.take (Γ' := [_]) hs
      refine g_loop_fuel (I := fun n_ t w => ∃ x23 : Int, ∃ x24 : Int, ∃ v26 : Value, ∃ x27 : (List Int), ∃ x28 : Int, rounds (fun s => impl_WithoutThing.b0 N a1 a4 s.1 s.2.1 s.2.2.1 s.2.2.2) n_ (x23, x24, x27, x28) = some o1_ ∧ Fr t (fun O => (O 0::Value.int .i64 a4::O 2::O 3::Value.pointer (some ⟨b7, 0, none⟩)::O 5::Value.pointer (some ⟨b11, 0, none⟩)::O 7::O 8::O 9::O 10::O 11::O 12::O 13::O 14::O 15::O 16::O 17::O 18::O 19::O 20::O 21::O 22::O 23::O 24::O 25::O 26::O 27::O 28::O 29::O 30::O 31::O 32::O 33::O 34::O 35::O 36::O 37::O 38::O 39::v2::Value.int .i64 (a1.f_Rules.length : Int)::Value.int .i64 x28::O 43::O 44::O 45::O 46::O 47::O 48::O 49::O 50::O 51::O 52::O 53::O 54::O 55::O 56::O 57::O 58::O 59::O 60::O 61::O 62::O 63::O 64::O 65::O 66::O 67::O 68::[] : List Value)) ∧ St w0 [Cells b7 (([Value.int .i8 0, Value.int .i8 0, Value.slice none 0 0] : List Value)) 27, Row 31 (K.int .u16) v26 x27, Cells b11 (([Value.int .i8 x23, Value.int .i8 x24, v26] : List Value)) 27] w) N ⟨i8w (a1.f_Things - 1), mnI a1.f_Boat (i8w (a1.f_Things - 1)), Value.slice none 0 0, [], 0, Ho, rfl, hs⟩ ?_ ?_
      ·
       rintro _ _ ⟨x23, x24, v26, x27, x28, h, _⟩
       exact rounds_zero h
      intro n_ ih1_
      rintro t w ⟨x23, x24, v26, x27, x28, Ho, hf, hs⟩
      obtain ⟨O, rfl⟩ := hf.open
      try dsimp only
      obtain ⟨x7_, H, Hx1_⟩ := rounds_succ Ho
      have H : impl_WithoutThing.b0 N a1 a4 x23 x24 x27 x28 = some x7_ := H
      unfold impl_WithoutThing.b0 at H
      refine g_seq (g_region ?_)
      show G _ _ _ (.inRegion _ [0] :: _) _ _
      refine g_op_b (B := decide (x28 < (a1.f_Rules.length : Int))) rfl rfl rfl ?_ ?_
      ·
       intro hb
       rw [if_pos (b_dec_t hb)] at H
       refine g_d rfl ?_
       try dsimp only [set0,setS]
       refine g_ops_nil (g_seq (g_cond_true rfl (g_skip (g_seq ?_))))
       refine g_block_join (J := (fun t w => ∃ v34 : Value, ∃ x35 : (List Int), impl_WithoutThing.j2 N x23 x24 x28 x35 = some x7_ ∧ Fr t (fun O => (O 0::Value.int .i64 a4::O 2::O 3::Value.pointer (some ⟨b7, 0, none⟩)::O 5::Value.pointer (some ⟨b11, 0, none⟩)::O 7::O 8::O 9::O 10::O 11::O 12::O 13::O 14::O 15::O 16::O 17::O 18::O 19::O 20::O 21::O 22::O 23::O 24::O 25::O 26::O 27::O 28::O 29::O 30::O 31::O 32::O 33::O 34::O 35::O 36::O 37::O 38::O 39::v2::Value.int .i64 (a1.f_Rules.length : Int)::Value.int .i64 x28::O 43::O 44::O 45::O 46::O 47::O 48::O 49::O 50::O 51::O 52::O 53::O 54::O 55::O 56::O 57::O 58::O 59::O 60::O 61::O 62::O 63::O 64::O 65::O 66::O 67::O 68::[] : List Value)) ∧ St w0 [Cells b7 (([Value.int .i8 0, Value.int .i8 0, Value.slice none 0 0] : List Value)) 27, Cells b11 (([Value.int .i8 x23, Value.int .i8 x24, v34] : List Value)) 27, Row 31 (K.int .u16) v34 x35] w)) ?_ ?_
       ·
        rintro t w ⟨v34, x35, H, hf, hs⟩
        obtain ⟨O, rfl⟩ := hf.open
        try dsimp only
        unfold impl_WithoutThing.j2 at H
        refine g_region ?_
        show G _ _ _ (.inRegion _ [0, 1] :: _) _ _
        refine g_op (v := Value.int .i64 (i64w (x28 + 1))) rfl rfl rfl (g_d rfl ?_)
        try dsimp only [set0,setS]
        refine g_op (v := Value.int .i64 (i64w (x28 + 1))) rfl rfl rfl (g_d rfl (g_ops_nil ?_))
        obtain rfl := Option.some.inj H
        have hs := hs.pull 1 rfl
        have hs := hs.pull 2 rfl
        have hs := hs.pull 2 rfl
        have hs : St _ [_,_,_] _ := St.take (Γ' := []) hs
        exact ih1_ _ _ ⟨x23, x24, v34, x35, i64w (x28 + 1), Hx1_, rfl, hs⟩
       intro ha
       refine g_seq (g_region ?_)
       show G _ _ _ (.inRegion _ [0, 1, 2] :: _) _ _
       obtain ⟨g4, H⟩ := ite_get H
       refine s_idx (fkI .u16) 0 (hs.rd hr3) rfl (fun _ => rfl) g4.1 g4.2 rfl rfl rfl rfl rfl ?_
       intro p29 hp29 lp29 op29
       refine g_d rfl ?_
       try dsimp only [set0,setS]
       refine s_load1 rfl rfl (v := Value.int .u16 (rdL a1.f_Rules x28 0)) rfl rfl (fun _ => rfl) hp29 (g_d rfl ?_)
       try dsimp only [set0,setS]
       refine g_op (v := Value.int .u16 (rdL a1.f_Rules x28 0)) rfl rfl rfl (g_d rfl ?_)
       try dsimp only [set0,setS]
       refine g_ops_nil (g_seq (g_region ?_))
       show G _ _ _ (.inRegion _ [0, 1, 2, 3, 4] :: _) _ _
       refine g_op (v := Value.int .u16 (rdL a1.f_Rules x28 0)) rfl rfl rfl (g_d rfl ?_)
       refine g_op (v := Value.int .i64 a4) rfl rfl rfl (g_d rfl ?_)
       obtain ⟨g5, H⟩ := ite_get H
       refine g_op (v := Value.int .u16 (shrI .u16 (rdL a1.f_Rules x28 0) a4)) rfl rfl (x_shr rfl rfl rfl g5) (g_d rfl ?_)
       try dsimp only [set0,setS]
       refine g_op (v := Value.int .u16 (bAnd .u16 (shrI .u16 (rdL a1.f_Rules x28 0) a4) 1)) rfl rfl rfl (g_d rfl ?_)
       try dsimp only [set0,setS]
       refine g_op_b (B := (bAnd .u16 (shrI .u16 (rdL a1.f_Rules x28 0) a4) 1) == 0) rfl rfl rfl ?_ ?_
       ·
        intro hb
        rw [if_pos (b_beq_t hb)] at H
        refine g_d rfl ?_
        try dsimp only [set0,setS]
        refine g_ops_nil (g_cond_true rfl (g_seq (g_region ?_)))
        show G _ _ _ (.inRegion _ [0, 1, 2, 3, 4, 5] :: _) _ _
        refine g_op (v := Value.int .u16 (rdL a1.f_Rules x28 0)) rfl rfl rfl (g_d rfl ?_)
        refine g_op (v := Value.int .i64 a4) rfl rfl rfl (g_d rfl ?_)
        obtain ⟨g6, H⟩ := ite_get H
        refine g_op (v := Value.int .u16 (shlI .u16 1 a4)) rfl rfl (x_shl rfl rfl rfl g6) (g_d rfl ?_)
        try dsimp only [set0,setS]
        refine g_op (v := Value.int .u16 (u16w ((shlI .u16 1 a4) - 1))) rfl rfl rfl (g_d rfl ?_)
        try dsimp only [set0,setS]
        refine g_op (v := Value.int .u16 (bAnd .u16 (rdL a1.f_Rules x28 0) (u16w ((shlI .u16 1 a4) - 1)))) rfl rfl rfl (g_d rfl ?_)
        try dsimp only [set0,setS]
        refine g_op (v := Value.int .u16 (bAnd .u16 (rdL a1.f_Rules x28 0) (u16w ((shlI .u16 1 a4) - 1)))) rfl rfl rfl (g_d rfl ?_)
        try dsimp only [set0,setS]
        refine g_ops_nil (g_region ?_)
        show G _ _ _ (.inRegion _ [0, 1, 2, 3, 4, 5, 6, 7, 8, 9, 10, 11] :: _) _ _
        refine g_op (v := Value.pointer (some ⟨b11, 2, none⟩)) rfl rfl rfl (g_d rfl ?_)
        refine s_load1 rfl rfl (v := v26) rfl rfl (fun _ => rfl) (cells_load (hs.cells 2 rfl) 2 1 rfl) (g_d rfl ?_)
        try dsimp only [set0,setS]
        refine g_op (v := Value.int .u16 (bAnd .u16 (rdL a1.f_Rules x28 0) (u16w ((shlI .u16 1 a4) - 1)))) rfl rfl rfl (g_d rfl ?_)
        refine g_op (v := Value.int .u16 (rdL a1.f_Rules x28 0)) rfl rfl rfl (g_d rfl ?_)
        refine g_op (v := Value.int .u16 (bAnd .u16 (rdL a1.f_Rules x28 0) (u16w ((shlI .u16 1 a4) - 1)))) rfl rfl rfl (g_d rfl ?_)
        refine g_op (v := Value.int .u16 (bAndNot .u16 (rdL a1.f_Rules x28 0) (bAnd .u16 (rdL a1.f_Rules x28 0) (u16w ((shlI .u16 1 a4) - 1))))) rfl rfl rfl (g_d rfl ?_)
        try dsimp only [set0,setS]
        refine g_op (v := Value.int .u16 (shrI .u16 (bAndNot .u16 (rdL a1.f_Rules x28 0) (bAnd .u16 (rdL a1.f_Rules x28 0) (u16w ((shlI .u16 1 a4) - 1)))) 1)) rfl rfl rfl (g_d rfl ?_)
        try dsimp only [set0,setS]
        refine g_op (v := Value.int .u16 (bOr .u16 (bAnd .u16 (rdL a1.f_Rules x28 0) (u16w ((shlI .u16 1 a4) - 1))) (shrI .u16 (bAndNot .u16 (rdL a1.f_Rules x28 0) (bAnd .u16 (rdL a1.f_Rules x28 0) (u16w ((shlI .u16 1 a4) - 1)))) 1))) rfl rfl rfl (g_d rfl ?_)
        try dsimp only [set0,setS]
        refine s_lit1 (fkI .u16) (y := bOr .u16 (bAnd .u16 (rdL a1.f_Rules x28 0) (u16w ((shlI .u16 1 a4) - 1))) (shrI .u16 (bAndNot .u16 (rdL a1.f_Rules x28 0) (bAnd .u16 (rdL a1.f_Rules x28 0) (u16w ((shlI .u16 1 a4) - 1)))) 1)) hs rfl rfl rfl rfl (fun _ => rfl) (zv := (Value.int .u16 0)) (fun _ => rfl) rfl (by decide) (by decide) rfl ?_
        intro v30 w hs
        refine g_d rfl ?_
        try dsimp only [set0,setS]
        have hs := hs.pull 2 rfl
        have hs : St _ [_,_,_,_] _ := hs
        obtain ⟨g, H⟩ := ite_get H
        refine s_append (fkI .u16) (zv := (Value.int .u16 0)) (B := 2) hs (hs.row 1 rfl) rfl rfl rfl rfl rfl rfl rfl rfl rfl (by decide) rfl rfl (by decide) (by omega) ?_
        intro v32 w hs
        refine g_d rfl ?_
        try dsimp only [set0,setS]
        refine g_op (v := Value.pointer (some ⟨b11, 2, none⟩)) rfl rfl rfl (g_d rfl ?_)
        have hs := hs.pull 3 rfl
        have hs : St _ [_,_,_,_] _ := hs
        refine s_store hs rfl rfl (vs := [v32]) (cs' := (([Value.int .i8 x23, Value.int .i8 x24, v32] : List Value))) rfl rfl (slCells (hs.row 1 rfl)) (n := 1) (fun _ => rfl) rfl (by first | exact Nat.le_of_ble_eq_true rfl | simp [encAI_len, encAB_len, encA_len]) (by intro v hv; simp only [List.mem_cons, List.not_mem_nil, or_false] at hv; subst hv; exact slOne (hs.row 1 rfl)) rfl ?_
        intro w hs
        refine g_n rfl (g_ops_nil ?_)
        refine g_inBlock ?_
        have hs := hs.pull 1 rfl
        have hs := hs.pull 1 rfl
        have hs := hs.pull 3 rfl
        have hs : St _ [_,_,_] _ := St.take (Γ' := [_]) hs
        exact ha _ _ ⟨v32, x27 ++ ([bOr .u16 (bAnd .u16 (rdL a1.f_Rules x28 0) (u16w ((shlI .u16 1 a4) - 1))) (shrI .u16 (bAndNot .u16 (rdL a1.f_Rules x28 0) (bAnd .u16 (rdL a1.f_Rules x28 0) (u16w ((shlI .u16 1 a4) - 1)))) 1)]), H, rfl, hs⟩
       intro hb
       rw [if_neg (b_beq_f hb)] at H
       refine g_d rfl ?_
       try dsimp only [set0,setS]
       refine g_ops_nil (g_cond_false rfl (g_skip ?_))
       refine g_inBlock ?_
       have hs := hs.pull 1 rfl
       have hs := hs.pull 2 rfl
       have hs := hs.pull 2 rfl
       have hs : St _ [_,_,_] _ := St.take (Γ' := []) hs
       exact ha _ _ ⟨v26, x27, H, rfl, hs⟩
      intro hb
      rw [if_neg (b_dec_f hb)] at H
      refine g_d rfl ?_
      try dsimp only [set0,setS]
      refine g_ops_nil (g_seq (g_cond_false rfl ?_))
      obtain rfl := Option.some.inj H
      subst Hx1_
      have hs := hs.pull 1 rfl
      have hs := hs.pull 2 rfl
      have hs := hs.pull 2 rfl
      have hs : St _ [_,_,_] _ := St.take (Γ' := []) hs
      refine g_exit rfl ?_
      exact ha1_ _ _ ⟨x23, x24, v26, x27, Hr1_, rfl, hs⟩
    | false =>
      rw [if_neg Bool.false_ne_true] at H
      refine g_d rfl ?_
      try dsimp only [set0,setS]
      refine g_op (v := Value.bool true) rfl rfl rfl (g_d rfl ?_)
      try dsimp only [set0,setS]
      refine g_op (v := Value.bool true) rfl rfl rfl (g_d rfl ?_)
      try dsimp only [set0,setS]
      refine g_ops_nil (g_cond_true rfl (g_seq (g_region ?_)))
      show G _ _ _ (.inRegion _ [0, 1, 2] :: _) _ _
      refine g_op (v := Value.agg (([Value.int .i8 0, Value.int .i8 0, Value.slice none 0 0] : List Value)).toArray) rfl rfl (x_buildS (cs := (([Value.int .i8 0, Value.int .i8 0, Value.slice none 0 0] : List Value))) (segs := [[Value.int .i8 0], [Value.int .i8 0], [Value.slice none 0 0]]) rfl rfl (fun _ => rfl) ⟨rfl, (fun _ => rfl), rfl, (fun _ => rfl), rfl, (fun _ => rfl), trivial⟩ (by simp) (by first | rfl | (simp [ev, encA]; done) | (simp [ev, encA]; rfl))) ?_
      refine g_d rfl ?_
      try dsimp only [set0,setS]
      refine s_storeAll (n := 3) hs rfl rfl rfl (vs := (([Value.int .i8 0, Value.int .i8 0, Value.slice none 0 0] : List Value))) rfl rfl rfl (fun _ => rfl) rfl (by simp [Value.oneCell']) ?_
      intro w hs
      refine g_n rfl ?_
      refine g_op (v := Value.int .i64 2) rfl rfl rfl (g_d rfl ?_)
      try dsimp only [set0,setS]
      refine g_ops_nil ?_
      obtain rfl := Option.some.inj H
      refine g_ret Try.func16 (v := Value.tuple #[Value.agg (([Value.int .i8 0, Value.int .i8 0, Value.slice none 0 0] : List Value)).toArray, Value.int .i64 2]) (resN (l := Try.f16.results.toList) (vs := [Value.agg (([Value.int .i8 0, Value.int .i8 0, Value.slice none 0 0] : List Value)).toArray, Value.int .i64 2]) rfl ⟨⟨_, rfl, (run_loadVar_agg (es := (([Value.int .i8 0, Value.int .i8 0, Value.slice none 0 0] : List Value))) rfl rfl (cells_all (hs.cells 0 rfl)))⟩, rfl, trivial⟩ (by simp)) ?_
      have hs := hs.nil 31 (K.int .u16)
      have hs := hs.pull 0 rfl
      have hs : St _ [_] _ := St.take (Γ' := [_,_]) hs
      exact ⟨_, rfl, (Value.slice none 0 0), rfl, hs⟩
  | false =>
    rw [if_neg Bool.false_ne_true] at H
    refine g_d rfl ?_
    try dsimp only [set0,setS]
    refine g_op (v := Value.bool true) rfl rfl rfl (g_d rfl ?_)
    try dsimp only [set0,setS]
    refine g_op (v := Value.bool true) rfl rfl rfl (g_d rfl ?_)
    try dsimp only [set0,setS]
    refine g_ops_nil (g_cond_true rfl (g_seq (g_region ?_)))
    show G _ _ _ (.inRegion _ [0, 1, 2] :: _) _ _
    refine g_op (v := Value.agg (([Value.int .i8 0, Value.int .i8 0, Value.slice none 0 0] : List Value)).toArray) rfl rfl (x_buildS (cs := (([Value.int .i8 0, Value.int .i8 0, Value.slice none 0 0] : List Value))) (segs := [[Value.int .i8 0], [Value.int .i8 0], [Value.slice none 0 0]]) rfl rfl (fun _ => rfl) ⟨rfl, (fun _ => rfl), rfl, (fun _ => rfl), rfl, (fun _ => rfl), trivial⟩ (by simp) (by first | rfl | (simp [ev, encA]; done) | (simp [ev, encA]; rfl))) ?_
    refine g_d rfl ?_
    try dsimp only [set0,setS]
    refine s_storeAll (n := 3) hs rfl rfl rfl (vs := (([Value.int .i8 0, Value.int .i8 0, Value.slice none 0 0] : List Value))) rfl rfl rfl (fun _ => rfl) rfl (by simp [Value.oneCell']) ?_
    intro w hs
    refine g_n rfl ?_
    refine g_op (v := Value.int .i64 1) rfl rfl rfl (g_d rfl ?_)
    try dsimp only [set0,setS]
    refine g_ops_nil ?_
    obtain rfl := Option.some.inj H
    refine g_ret Try.func16 (v := Value.tuple #[Value.agg (([Value.int .i8 0, Value.int .i8 0, Value.slice none 0 0] : List Value)).toArray, Value.int .i64 1]) (resN (l := Try.f16.results.toList) (vs := [Value.agg (([Value.int .i8 0, Value.int .i8 0, Value.slice none 0 0] : List Value)).toArray, Value.int .i64 1]) rfl ⟨⟨_, rfl, (run_loadVar_agg (es := (([Value.int .i8 0, Value.int .i8 0, Value.slice none 0 0] : List Value))) rfl rfl (cells_all (hs.cells 0 rfl)))⟩, rfl, trivial⟩ (by simp)) ?_
    have hs := hs.nil 31 (K.int .u16)
    have hs := hs.pull 0 rfl
    have hs : St _ [_] _ := St.take (Γ' := [_,_]) hs
    exact ⟨_, rfl, (Value.slice none 0 0), rfl, hs⟩

/- function 41 spec_l00Min -/
def spec_l00Min.post (w0 : World) (r : Int) (v : Value) (w : World) : Prop := v = Value.int .i64 r ∧ St w0 [] w
set_option maxHeartbeats 8000000 in
set_option maxRecDepth 100000 in
theorem spec_l00Min.calls {N : Nat} {a1 : Int} {a2 : Int} {w0 : World} {r : Int} (H : spec_l00Min.f N a1 a2 = some r) :
    Calls Try.prog 41 #[Value.int .i64 a1, Value.int .i64 a2] w0 fun e w => ∃ v, e = .returned v ∧ spec_l00Min.post w0 r v w := by
  unfold spec_l00Min.f at H
  have hs : St w0 [] w0 := St.refl w0
  refine calls_of_g (n := 8) Try.func41 rfl rfl ?_
  show G _ _ _ _ [_,_,_,_,_,_,_,_,_,_] _
  refine g_seq (g_region ?_)
  show G _ _ _ (.inRegion _ [0] :: _) _ _
  refine g_op (v := Value.int .i64 0) rfl rfl rfl ?_
  show G _ _ _ _ [_,_,_,_,_,_,_,_,_,_] _
  refine g_ops_nil (g_seq (g_seq (g_region ?_)))
  show G _ _ _ (.inRegion _ [0, 1, 2] :: _) _ _
  refine g_op (v := Value.int .i64 a1) rfl rfl rfl ?_
  show G _ _ _ _ [_,_,_,_,_,_,_,_,_,_] _
  refine g_op (v := Value.int .i64 a2) rfl rfl rfl ?_
  show G _ _ _ _ [_,_,_,_,_,_,_,_,_,_] _
  refine g_op_b (B := decide (a1 < a2)) rfl rfl rfl ?_ ?_
  ·
   intro hb
   rw [if_pos (b_dec_t hb)] at H
   show G _ _ _ _ [_,_,_,_,_,_,_,_,_,_] _
   refine g_ops_nil (g_cond_true rfl (g_seq (g_region ?_)))
   show G _ _ _ (.inRegion _ [0, 1] :: _) _ _
   refine g_op (v := Value.int .i64 a1) rfl rfl rfl ?_
   show G _ _ _ _ [_,_,_,_,_,_,_,_,_,_] _
   refine g_op (v := Value.int .i64 a1) rfl rfl rfl ?_
   show G _ _ _ _ [_,_,_,_,_,_,_,_,_,_] _
   refine g_ops_nil ?_
   obtain rfl := Option.some.inj H
   refine g_ret Try.func41 (v := Value.int .i64 a1) (res1 rfl rfl) ?_
   have hs : St _ [] _ := St.take (Γ' := []) hs
   exact ⟨_, rfl, rfl, hs⟩
  intro hb
  rw [if_neg (b_dec_f hb)] at H
  show G _ _ _ _ [_,_,_,_,_,_,_,_,_,_] _
  refine g_ops_nil (g_cond_false rfl (g_skip (g_seq (g_region ?_))))
  show G _ _ _ (.inRegion _ [0, 1] :: _) _ _
  refine g_op (v := Value.int .i64 a2) rfl rfl rfl ?_
  show G _ _ _ _ [_,_,_,_,_,_,_,_,_,_] _
  refine g_op (v := Value.int .i64 a2) rfl rfl rfl ?_
  show G _ _ _ _ [_,_,_,_,_,_,_,_,_,_] _
  refine g_ops_nil ?_
  obtain rfl := Option.some.inj H
  refine g_ret Try.func41 (v := Value.int .i64 a2) (res1 rfl rfl) ?_
  have hs : St _ [] _ := St.take (Γ' := []) hs
  exact ⟨_, rfl, rfl, hs⟩

end Go.Proofs.YtcaokmnajnfpiaaX
