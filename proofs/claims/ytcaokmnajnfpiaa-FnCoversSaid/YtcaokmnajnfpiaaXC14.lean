/- Contracts, printed by gen.py. -/
import Derived.Test.YtcaokmnajnfpiaaXT
import Derived.Test.YtcaokmnajnfpiaaProg
import Derived.Test.YtcaokmnajnfpiaaXRowR
import Derived.Test.YtcaokmnajnfpiaaXSq
import Derived.Test.YtcaokmnajnfpiaaXSeg
import Derived.Test.YtcaokmnajnfpiaaXKey
import Derived.Test.YtcaokmnajnfpiaaXC1
import Derived.Test.YtcaokmnajnfpiaaXC2
import Derived.Test.YtcaokmnajnfpiaaXC5
import Derived.Test.YtcaokmnajnfpiaaXC9
import Derived.Test.YtcaokmnajnfpiaaXC10
import Derived.Test.YtcaokmnajnfpiaaXC13
namespace Go.Proofs.YtcaokmnajnfpiaaX
open Go Go.RowKit Go.Proofs
set_option linter.unusedVariables false
set_option linter.unusedSimpArgs false
/- function 3 laws_FnCovers -/
set_option maxHeartbeats 8000000 in
set_option maxRecDepth 100000 in
theorem laws_FnCovers.calls {N : Nat} {a1 : (List Int)} {a3 : (List Int)} {v2 : Value} {v4 : Value} {w0 : World} {r : Bool} (hr0 : RdRow (K.int .u8) w0 v2 a1) (hr1 : RdRow (K.int .u8) w0 v4 a3) (H : laws_FnCovers.f N a1 a3 = some r) :
    Calls Try.prog 3 #[v2, v4] w0 fun e w => ∃ v, e = .returned v ∧ laws_FnCovers.post w0 r v w := by
  unfold laws_FnCovers.f at H
  have hs : St w0 [] w0 := St.refl w0
  refine calls_of_g (n := 260) Try.func3 rfl rfl ?_
  show G _ _ _ _ (_::_::_::_::_::_::_::_::_::_::_::_::_::_::_::_::_::_::_::_::_::_::_::_::_::_::_::_::_::_::_::_::_::_::_::_::_::_::_::_::_::_::_::_::_::_::_::_::_::_::_::_::_::_::_::_::_::_::_::_::_::_::_::_::_::_::_::_::_::_::_::_::_::_::_::_::_::_::_::_::_::_::_::_::_::_::_::_::_::_::_::_::_::_::_::_::_::_::_::_::_::_::_::_::_::_::_::_::_::_::_::_::_::_::_::_::_::_::_::_::_::_::_::_::_::_::_::_::_::_::_::_::_::_::_::_::_::_::_::_::_::_::_::_::_::_::_::_::_::_::_::_::_::_::_::_::_::_::_::_::_::_::_::_::_::_::_::_::_::_::_::_::_::_::_::_::_::_::_::_::_::_::_::_::_::_::_::_::_::_::_::_::_::_::_::_::_::_::_::_::_::_::_::_::_::_::_::_::_::_::_::_::_::_::_::_::_::_::_::_::_::_::_::_::_::_::_::_::_::_::_::_::_::_::_::_::_::_::_::_::_::_::_::_::_::_::_::_::_::_::_::_::_::_::_::_::_::_::_::_::_::_::[]) _
  refine g_seq (g_region ?_)
  show G _ _ _ (.inRegion _ [0] :: _) _ _
  refine g_op (v := Value.bool false) rfl rfl rfl (g_d rfl ?_)
  try dsimp only [set0,setS]
  refine g_ops_nil (g_seq (g_seq (g_region ?_)))
  show G _ _ _ (.inRegion _ [0, 1, 2] :: _) _ _
  refine g_op (v := v2) rfl rfl rfl (g_d rfl ?_)
  refine g_op (v := v4) rfl rfl rfl (g_d rfl ?_)
  obtain ⟨r5, Hr5, H⟩ := bind_get H
  refine s_call (args := [v2, v4]) rfl rfl (x_call rfl (callFunc_enter Try.func4 rfl rfl) rfl) (laws_a2Long.calls (a1 := a1) (a3 := a3) (hs.rd hr0) (hs.rd hr1) Hr5) ?_
  rintro _ w ⟨rfl, hs2⟩
  have hs : St _ [] _ := hs.call hs2
  cases r5 with
  | true =>
    rw [if_pos rfl] at H
    refine g_d rfl ?_
    try dsimp only [set0,setS]
    refine g_ops_nil (g_cond_true rfl (g_seq (g_region ?_)))
    show G _ _ _ (.inRegion _ [0] :: _) _ _
    refine g_op (v := Value.bool true) rfl rfl rfl (g_d rfl ?_)
    try dsimp only [set0,setS]
    refine g_ops_nil ?_
    obtain rfl := Option.some.inj H
    refine g_ret Try.func3 (v := Value.bool true) (res1 rfl rfl) ?_
    have hs : St _ [] _ := St.take (Γ' := []) hs
    exact ⟨_, rfl, rfl, hs⟩
  | false =>
    rw [if_neg Bool.false_ne_true] at H
    refine g_d rfl ?_
    try dsimp only [set0,setS]
    refine g_ops_nil (g_cond_false rfl (g_skip (g_seq (g_region ?_))))
    show G _ _ _ (.inRegion _ [0, 1, 2, 3] :: _) _ _
    refine g_op (v := v2) rfl rfl rfl (g_d rfl ?_)
    obtain ⟨r6, Hr6, H⟩ := bind_get H
    refine s_call (args := [v2]) rfl rfl (x_call rfl (callFunc_enter Try.func5 rfl rfl) rfl) (spec_A2Ferry.calls (a1 := a1) (hs.rd hr0) Hr6) ?_
    rintro _ w ⟨v7, rfl, hs2⟩
    have hs : St _ [_] _ := hs.call hs2
    refine g_d rfl ?_
    try dsimp only [set0,setS]
    refine s_alloc hs rfl rfl (z := (Value.agg #[Value.int .i8 0, Value.int .i8 0, Value.slice none 0 0])) (cs := (([Value.int .i8 0, Value.int .i8 0, Value.slice none 0 0] : List Value))) rfl (fun _ => rfl) rfl ?_
    intro b9 w hs
    refine g_d rfl ?_
    try dsimp only [set0,setS]
    refine s_storeAll (n := 3) hs rfl rfl rfl (vs := (([Value.int .i8 r6.f_Things, Value.int .i8 r6.f_Boat, v7] : List Value))) rfl rfl rfl (fun _ => rfl) rfl (by intro v hv; simp only [List.mem_append, List.mem_cons, List.not_mem_nil, or_false] at hv; repeat (first | (subst hv; first | rfl | exact slOne (hs.row 1 rfl)) | (rcases hv with hv | hv))) ?_
    intro w hs
    refine g_n rfl (g_ops_nil (g_seq (g_region ?_)))
    show G _ _ _ (.inRegion _ [0, 1, 2, 3, 4, 5, 6] :: _) _ _
    refine s_loadA rfl rfl (es := (([Value.int .i8 r6.f_Things, Value.int .i8 r6.f_Boat, v7] : List Value))) rfl rfl (fun _ => rfl) (n := 3) (fun _ => rfl) rfl (cells_all (hs.cells 0 rfl)) (g_d rfl ?_)
    try dsimp only [set0,setS]
    obtain ⟨r11, Hr11, H⟩ := bind_get H
    refine s_call (args := [Value.agg (([Value.int .i8 r6.f_Things, Value.int .i8 r6.f_Boat, v7] : List Value)).toArray]) rfl rfl (x_call rfl (callFunc_enter Try.func6 rfl rfl) rfl) (impl_LeastBoat.calls (a1 := (⟨r6.f_Things, r6.f_Boat, r6.f_Rules⟩ : S_impl_Ferry)) (hs.row 1 rfl) Hr11) ?_
    rintro _ w ⟨rfl, hs2⟩
    have hs : St _ [_,_] _ := hs.call hs2
    refine g_d rfl ?_
    try dsimp only [set0,setS]
    refine g_op (v := Value.tuple #[Value.int .i64 r11.1, Value.int .i64 r11.2]) rfl rfl rfl (g_d rfl ?_)
    refine g_op (v := Value.int .i64 r11.1) rfl rfl rfl (g_d rfl ?_)
    refine g_op (v := Value.int .i64 r11.2) rfl rfl rfl (g_d rfl ?_)
    refine g_op (v := Value.int .i64 r11.1) rfl rfl rfl (g_d rfl ?_)
    try dsimp only [set0,setS]
    refine g_op (v := Value.int .i64 r11.2) rfl rfl rfl (g_d rfl ?_)
    try dsimp only [set0,setS]
    refine g_ops_nil (g_seq (g_region ?_))
    show G _ _ _ (.inRegion _ [0, 1, 2, 3, 4, 5, 6] :: _) _ _
    refine s_loadA rfl rfl (es := (([Value.int .i8 r6.f_Things, Value.int .i8 r6.f_Boat, v7] : List Value))) rfl rfl (fun _ => rfl) (n := 3) (fun _ => rfl) rfl (cells_all (hs.cells 0 rfl)) (g_d rfl ?_)
    try dsimp only [set0,setS]
    obtain ⟨r12, Hr12, H⟩ := bind_get H
    refine s_call (args := [Value.agg (([Value.int .i8 r6.f_Things, Value.int .i8 r6.f_Boat, v7] : List Value)).toArray]) rfl rfl (x_call rfl (callFunc_enter Try.func7 rfl rfl) rfl) (spec_LeastBoat.calls (a1 := (⟨r6.f_Things, r6.f_Boat, r6.f_Rules⟩ : S_impl_Ferry)) (hs.row 1 rfl) Hr12) ?_
    rintro _ w ⟨rfl, hs2⟩
    have hs : St _ [_,_] _ := hs.call hs2
    refine g_d rfl ?_
    try dsimp only [set0,setS]
    refine g_op (v := Value.tuple #[Value.int .i64 r12.1, Value.int .i64 r12.2]) rfl rfl rfl (g_d rfl ?_)
    refine g_op (v := Value.int .i64 r12.1) rfl rfl rfl (g_d rfl ?_)
    refine g_op (v := Value.int .i64 r12.2) rfl rfl rfl (g_d rfl ?_)
    refine g_op (v := Value.int .i64 r12.1) rfl rfl rfl (g_d rfl ?_)
    try dsimp only [set0,setS]
    refine g_op (v := Value.int .i64 r12.2) rfl rfl rfl (g_d rfl ?_)
    try dsimp only [set0,setS]
    refine g_ops_nil (g_seq (g_region ?_))
    show G _ _ _ (.inRegion _ [0, 1, 2, 3, 4, 5, 6] :: _) _ _
    refine s_loadA rfl rfl (es := (([Value.int .i8 r6.f_Things, Value.int .i8 r6.f_Boat, v7] : List Value))) rfl rfl (fun _ => rfl) (n := 3) (fun _ => rfl) rfl (cells_all (hs.cells 0 rfl)) (g_d rfl ?_)
    try dsimp only [set0,setS]
    obtain ⟨r13, Hr13, H⟩ := bind_get H
    refine s_call (args := [Value.agg (([Value.int .i8 r6.f_Things, Value.int .i8 r6.f_Boat, v7] : List Value)).toArray]) rfl rfl (x_call rfl (callFunc_enter Try.func8 rfl rfl) rfl) (impl_LeastCover.calls (a1 := (⟨r6.f_Things, r6.f_Boat, r6.f_Rules⟩ : S_impl_Ferry)) (hs.row 1 rfl) Hr13) ?_
    rintro _ w ⟨rfl, hs2⟩
    have hs : St _ [_,_] _ := hs.call hs2
    refine g_d rfl ?_
    try dsimp only [set0,setS]
    refine g_op (v := Value.tuple #[Value.int .u16 r13.1, Value.int .i64 r13.2]) rfl rfl rfl (g_d rfl ?_)
    refine g_op (v := Value.int .u16 r13.1) rfl rfl rfl (g_d rfl ?_)
    refine g_op (v := Value.int .i64 r13.2) rfl rfl rfl (g_d rfl ?_)
    refine g_op (v := Value.int .u16 r13.1) rfl rfl rfl (g_d rfl ?_)
    try dsimp only [set0,setS]
    refine g_op (v := Value.int .i64 r13.2) rfl rfl rfl (g_d rfl ?_)
    try dsimp only [set0,setS]
    refine g_ops_nil (g_seq (g_region ?_))
    show G _ _ _ (.inRegion _ [0, 1, 2, 3, 4, 5, 6] :: _) _ _
    refine s_loadA rfl rfl (es := (([Value.int .i8 r6.f_Things, Value.int .i8 r6.f_Boat, v7] : List Value))) rfl rfl (fun _ => rfl) (n := 3) (fun _ => rfl) rfl (cells_all (hs.cells 0 rfl)) (g_d rfl ?_)
    try dsimp only [set0,setS]
    obtain ⟨r14, Hr14, H⟩ := bind_get H
    refine s_call (args := [Value.agg (([Value.int .i8 r6.f_Things, Value.int .i8 r6.f_Boat, v7] : List Value)).toArray]) rfl rfl (x_call rfl (callFunc_enter Try.func9 rfl rfl) rfl) (spec_LeastCover.calls (a1 := (⟨r6.f_Things, r6.f_Boat, r6.f_Rules⟩ : S_impl_Ferry)) (hs.row 1 rfl) Hr14) ?_
    rintro _ w ⟨rfl, hs2⟩
    have hs : St _ [_,_] _ := hs.call hs2
    refine g_d rfl ?_
    try dsimp only [set0,setS]
    refine g_op (v := Value.tuple #[Value.int .u16 r14.1, Value.int .i64 r14.2]) rfl rfl rfl (g_d rfl ?_)
    refine g_op (v := Value.int .u16 r14.1) rfl rfl rfl (g_d rfl ?_)
    refine g_op (v := Value.int .i64 r14.2) rfl rfl rfl (g_d rfl ?_)
    refine g_op (v := Value.int .u16 r14.1) rfl rfl rfl (g_d rfl ?_)
    try dsimp only [set0,setS]
    refine g_op (v := Value.int .i64 r14.2) rfl rfl rfl (g_d rfl ?_)
    try dsimp only [set0,setS]
    refine g_ops_nil (g_seq (g_region ?_))
    show G _ _ _ (.inRegion _ [0, 1, 2] :: _) _ _
    refine g_op (v := Value.int .u16 r14.1) rfl rfl rfl (g_d rfl ?_)
    obtain ⟨r15, Hr15, H⟩ := bind_get H
    refine s_call (args := [Value.int .u16 r14.1]) rfl rfl (x_call rfl (callFunc_enter Try.func10 rfl rfl) rfl) (spec_A2Count.calls (a1 := r14.1) Hr15) ?_
    rintro _ w ⟨rfl, hs2⟩
    have hs : St _ [_,_] _ := hs.call hs2
    refine g_d rfl ?_
    try dsimp only [set0,setS]
    refine g_op (v := Value.int .i64 r15) rfl rfl rfl (g_d rfl ?_)
    try dsimp only [set0,setS]
    refine g_ops_nil (g_seq (g_seq (g_region ?_)))
    show G _ _ _ (.inRegion _ [0, 1, 2, 3, 4, 5, 6, 7, 8, 9, 10, 11, 12, 13, 14, 15, 16, 17, 18, 19, 20, 21, 22, 23, 24, 25, 26, 27, 28, 29, 30, 31, 32, 33, 34, 35, 36] :: _) _ _
    refine g_op (v := Value.int .i64 r11.2) rfl rfl rfl (g_d rfl ?_)
    refine g_op (v := Value.int .i64 r12.2) rfl rfl rfl (g_d rfl ?_)
    refine g_op_b (B := r11.2 != r12.2) rfl rfl rfl ?_ ?_
    ·
     intro hb
     rw [if_neg (b_bne_t hb)] at H
     refine g_d rfl ?_
     try dsimp only [set0,setS]
     refine g_op (v := Value.bool true) rfl rfl rfl (g_d rfl (g_op_not rfl rfl (g_d rfl (g_op_not rfl rfl (g_d rfl ?_)))))
     try dsimp only [set0,setS]
     refine g_op (v := Value.bool true) rfl rfl rfl (g_d rfl ?_)
     try dsimp only [set0,setS]
     refine g_op (v := Value.bool true) rfl rfl rfl (g_d rfl (g_op_not rfl rfl (g_d rfl (g_op_not rfl rfl (g_d rfl (g_op_not rfl rfl (g_d rfl ?_)))))))
     try dsimp only [set0,setS]
     refine g_op (v := Value.bool true) rfl rfl rfl (g_d rfl ?_)
     try dsimp only [set0,setS]
     refine g_op (v := Value.bool true) rfl rfl rfl (g_d rfl (g_op_not rfl rfl (g_d rfl (g_op_not rfl rfl (g_d rfl (g_op_not rfl rfl (g_d rfl ?_)))))))
     try dsimp only [set0,setS]
     refine g_op (v := Value.bool true) rfl rfl rfl (g_d rfl ?_)
     try dsimp only [set0,setS]
     refine g_op (v := Value.bool true) rfl rfl rfl (g_d rfl (g_op_not rfl rfl (g_d rfl (g_op_not rfl rfl (g_d rfl ?_)))))
     try dsimp only [set0,setS]
     refine g_op (v := Value.bool true) rfl rfl rfl (g_d rfl ?_)
     try dsimp only [set0,setS]
     refine g_op (v := Value.bool true) rfl rfl rfl (g_d rfl (g_op_not rfl rfl (g_d rfl (g_op_not rfl rfl (g_d rfl (g_op_not rfl rfl (g_d rfl ?_)))))))
     try dsimp only [set0,setS]
     refine g_op (v := Value.bool true) rfl rfl rfl (g_d rfl ?_)
     try dsimp only [set0,setS]
     refine g_op (v := Value.bool true) rfl rfl rfl (g_d rfl (g_op_not rfl rfl (g_d rfl (g_op_not rfl rfl (g_d rfl (g_op_not rfl rfl (g_d rfl ?_)))))))
     try dsimp only [set0,setS]
     refine g_op (v := Value.bool true) rfl rfl rfl (g_d rfl ?_)
     try dsimp only [set0,setS]
     refine g_op (v := Value.bool true) rfl rfl rfl (g_d rfl (g_op_not rfl rfl (g_d rfl (g_op_not rfl rfl (g_d rfl (g_op_not rfl rfl (g_d rfl ?_)))))))
     try dsimp only [set0,setS]
     refine g_op_not rfl rfl (g_d rfl ?_)
     try dsimp only [set0,setS]
     refine g_op (v := Value.bool true) rfl rfl rfl (g_d rfl ?_)
     try dsimp only [set0,setS]
     refine g_ops_nil (g_cond_true rfl (g_seq (g_region ?_)))
     show G _ _ _ (.inRegion _ [0] :: _) _ _
     refine g_op (v := Value.bool false) rfl rfl rfl (g_d rfl ?_)
     try dsimp only [set0,setS]
     refine g_ops_nil ?_
     obtain rfl := Option.some.inj H
     refine g_ret Try.func3 (v := Value.bool false) (res1 rfl rfl) ?_
     have hs : St _ [] _ := St.take (Γ' := [_,_]) hs
     exact ⟨_, rfl, rfl, hs⟩
    intro hb
    rw [if_pos (b_bne_f hb)] at H
    refine g_d rfl ?_
    try dsimp only [set0,setS]
    refine g_op (v := Value.bool false) rfl rfl rfl (g_d rfl ?_)
    refine g_op (v := Value.int .i64 r11.2) rfl rfl rfl (g_d rfl ?_)
    refine g_op (v := Value.bool (r11.2 != 0)) rfl rfl rfl (g_d rfl ?_)
    try dsimp only [set0,setS]
    refine g_op_b (B := r11.2 != 0) rfl rfl rfl ?_ ?_
    ·
     intro hb
     rw [if_neg (b_bne_t hb)] at H
     refine g_d rfl ?_
     try dsimp only [set0,setS]
     refine g_op (v := Value.bool true) rfl rfl rfl (g_d rfl (g_op_not rfl rfl (g_d rfl (g_op_not rfl rfl (g_d rfl (g_op_not rfl rfl (g_d rfl ?_)))))))
     try dsimp only [set0,setS]
     refine g_op (v := Value.bool true) rfl rfl rfl (g_d rfl ?_)
     try dsimp only [set0,setS]
     refine g_op (v := Value.bool true) rfl rfl rfl (g_d rfl (g_op_not rfl rfl (g_d rfl (g_op_not rfl rfl (g_d rfl (g_op_not rfl rfl (g_d rfl ?_)))))))
     try dsimp only [set0,setS]
     refine g_op (v := Value.bool true) rfl rfl rfl (g_d rfl ?_)
     try dsimp only [set0,setS]
     refine g_op (v := Value.bool true) rfl rfl rfl (g_d rfl (g_op_not rfl rfl (g_d rfl (g_op_not rfl rfl (g_d rfl ?_)))))
     try dsimp only [set0,setS]
     refine g_op (v := Value.bool true) rfl rfl rfl (g_d rfl ?_)
     try dsimp only [set0,setS]
     refine g_op (v := Value.bool true) rfl rfl rfl (g_d rfl (g_op_not rfl rfl (g_d rfl (g_op_not rfl rfl (g_d rfl (g_op_not rfl rfl (g_d rfl ?_)))))))
     try dsimp only [set0,setS]
     refine g_op (v := Value.bool true) rfl rfl rfl (g_d rfl ?_)
     try dsimp only [set0,setS]
     refine g_op (v := Value.bool true) rfl rfl rfl (g_d rfl (g_op_not rfl rfl (g_d rfl (g_op_not rfl rfl (g_d rfl (g_op_not rfl rfl (g_d rfl ?_)))))))
     try dsimp only [set0,setS]
     refine g_op (v := Value.bool true) rfl rfl rfl (g_d rfl ?_)
     try dsimp only [set0,setS]
     refine g_op (v := Value.bool true) rfl rfl rfl (g_d rfl (g_op_not rfl rfl (g_d rfl (g_op_not rfl rfl (g_d rfl (g_op_not rfl rfl (g_d rfl ?_)))))))
     try dsimp only [set0,setS]
     refine g_op_not rfl rfl (g_d rfl ?_)
     try dsimp only [set0,setS]
     refine g_op (v := Value.bool true) rfl rfl rfl (g_d rfl ?_)
     try dsimp only [set0,setS]
     refine g_ops_nil (g_cond_true rfl (g_seq (g_region ?_)))
     show G _ _ _ (.inRegion _ [0] :: _) _ _
     refine g_op (v := Value.bool false) rfl rfl rfl (g_d rfl ?_)
     try dsimp only [set0,setS]
     refine g_ops_nil ?_
     obtain rfl := Option.some.inj H
     refine g_ret Try.func3 (v := Value.bool false) (res1 rfl rfl) ?_
     have hs : St _ [] _ := St.take (Γ' := [_,_]) hs
     exact ⟨_, rfl, rfl, hs⟩
    intro hb
    rw [if_pos (b_bne_f hb)] at H
    refine g_d rfl ?_
    try dsimp only [set0,setS]
    refine g_op (v := Value.bool false) rfl rfl rfl (g_d rfl ?_)
    refine g_op (v := Value.int .i64 r11.1) rfl rfl rfl (g_d rfl ?_)
    refine g_op (v := Value.int .i64 r12.1) rfl rfl rfl (g_d rfl ?_)
    refine g_op (v := Value.bool (r11.1 != r12.1)) rfl rfl rfl (g_d rfl ?_)
    try dsimp only [set0,setS]
    refine g_op_b (B := r11.1 != r12.1) rfl rfl rfl ?_ ?_
    ·
     intro hb
     rw [if_neg (b_bne_t hb)] at H
     refine g_d rfl ?_
     try dsimp only [set0,setS]
     refine g_op (v := Value.bool true) rfl rfl rfl (g_d rfl (g_op_not rfl rfl (g_d rfl (g_op_not rfl rfl (g_d rfl (g_op_not rfl rfl (g_d rfl ?_)))))))
     try dsimp only [set0,setS]
     refine g_op (v := Value.bool true) rfl rfl rfl (g_d rfl ?_)
     try dsimp only [set0,setS]
     refine g_op (v := Value.bool true) rfl rfl rfl (g_d rfl (g_op_not rfl rfl (g_d rfl (g_op_not rfl rfl (g_d rfl ?_)))))
     try dsimp only [set0,setS]
     refine g_op (v := Value.bool true) rfl rfl rfl (g_d rfl ?_)
     try dsimp only [set0,setS]
     refine g_op (v := Value.bool true) rfl rfl rfl (g_d rfl (g_op_not rfl rfl (g_d rfl (g_op_not rfl rfl (g_d rfl (g_op_not rfl rfl (g_d rfl ?_)))))))
     try dsimp only [set0,setS]
     refine g_op (v := Value.bool true) rfl rfl rfl (g_d rfl ?_)
     try dsimp only [set0,setS]
     refine g_op (v := Value.bool true) rfl rfl rfl (g_d rfl (g_op_not rfl rfl (g_d rfl (g_op_not rfl rfl (g_d rfl (g_op_not rfl rfl (g_d rfl ?_)))))))
     try dsimp only [set0,setS]
     refine g_op (v := Value.bool true) rfl rfl rfl (g_d rfl ?_)
     try dsimp only [set0,setS]
     refine g_op (v := Value.bool true) rfl rfl rfl (g_d rfl (g_op_not rfl rfl (g_d rfl (g_op_not rfl rfl (g_d rfl (g_op_not rfl rfl (g_d rfl ?_)))))))
     try dsimp only [set0,setS]
     refine g_op_not rfl rfl (g_d rfl ?_)
     try dsimp only [set0,setS]
     refine g_op (v := Value.bool true) rfl rfl rfl (g_d rfl ?_)
     try dsimp only [set0,setS]
     refine g_ops_nil (g_cond_true rfl (g_seq (g_region ?_)))
     show G _ _ _ (.inRegion _ [0] :: _) _ _
     refine g_op (v := Value.bool false) rfl rfl rfl (g_d rfl ?_)
     try dsimp only [set0,setS]
     refine g_ops_nil ?_
     obtain rfl := Option.some.inj H
     refine g_ret Try.func3 (v := Value.bool false) (res1 rfl rfl) ?_
     have hs : St _ [] _ := St.take (Γ' := [_,_]) hs
     exact ⟨_, rfl, rfl, hs⟩
    intro hb
    rw [if_pos (b_bne_f hb)] at H
    refine g_d rfl ?_
    try dsimp only [set0,setS]
    refine g_op (v := Value.bool false) rfl rfl rfl (g_d rfl ?_)
    refine g_op (v := Value.int .i64 r13.2) rfl rfl rfl (g_d rfl ?_)
    refine g_op (v := Value.int .i64 r14.2) rfl rfl rfl (g_d rfl ?_)
    refine g_op (v := Value.bool (r13.2 != r14.2)) rfl rfl rfl (g_d rfl ?_)
    try dsimp only [set0,setS]
    refine g_op_b (B := r13.2 != r14.2) rfl rfl rfl ?_ ?_
    ·
     intro hb
     rw [if_neg (b_bne_t hb)] at H
     refine g_d rfl ?_
     try dsimp only [set0,setS]
     refine g_op (v := Value.bool true) rfl rfl rfl (g_d rfl (g_op_not rfl rfl (g_d rfl (g_op_not rfl rfl (g_d rfl ?_)))))
     try dsimp only [set0,setS]
     refine g_op (v := Value.bool true) rfl rfl rfl (g_d rfl ?_)
     try dsimp only [set0,setS]
     refine g_op (v := Value.bool true) rfl rfl rfl (g_d rfl (g_op_not rfl rfl (g_d rfl (g_op_not rfl rfl (g_d rfl (g_op_not rfl rfl (g_d rfl ?_)))))))
     try dsimp only [set0,setS]
     refine g_op (v := Value.bool true) rfl rfl rfl (g_d rfl ?_)
     try dsimp only [set0,setS]
     refine g_op (v := Value.bool true) rfl rfl rfl (g_d rfl (g_op_not rfl rfl (g_d rfl (g_op_not rfl rfl (g_d rfl (g_op_not rfl rfl (g_d rfl ?_)))))))
     try dsimp only [set0,setS]
     refine g_op (v := Value.bool true) rfl rfl rfl (g_d rfl ?_)
     try dsimp only [set0,setS]
     refine g_op (v := Value.bool true) rfl rfl rfl (g_d rfl (g_op_not rfl rfl (g_d rfl (g_op_not rfl rfl (g_d rfl (g_op_not rfl rfl (g_d rfl ?_)))))))
     try dsimp only [set0,setS]
     refine g_op_not rfl rfl (g_d rfl ?_)
     try dsimp only [set0,setS]
     refine g_op (v := Value.bool true) rfl rfl rfl (g_d rfl ?_)
     try dsimp only [set0,setS]
     refine g_ops_nil (g_cond_true rfl (g_seq (g_region ?_)))
     show G _ _ _ (.inRegion _ [0] :: _) _ _
     refine g_op (v := Value.bool false) rfl rfl rfl (g_d rfl ?_)
     try dsimp only [set0,setS]
     refine g_ops_nil ?_
     obtain rfl := Option.some.inj H
     refine g_ret Try.func3 (v := Value.bool false) (res1 rfl rfl) ?_
     have hs : St _ [] _ := St.take (Γ' := [_,_]) hs
     exact ⟨_, rfl, rfl, hs⟩
    intro hb
    rw [if_pos (b_bne_f hb)] at H
    refine g_d rfl ?_
    try dsimp only [set0,setS]
    refine g_op (v := Value.bool false) rfl rfl rfl (g_d rfl ?_)
    refine g_op (v := Value.int .i64 r13.2) rfl rfl rfl (g_d rfl ?_)
    refine g_op (v := Value.bool (r13.2 != 0)) rfl rfl rfl (g_d rfl ?_)
    try dsimp only [set0,setS]
    refine g_op_b (B := r13.2 != 0) rfl rfl rfl ?_ ?_
    ·
     intro hb
     rw [if_neg (b_bne_t hb)] at H
     refine g_d rfl ?_
     try dsimp only [set0,setS]
     refine g_op (v := Value.bool true) rfl rfl rfl (g_d rfl (g_op_not rfl rfl (g_d rfl (g_op_not rfl rfl (g_d rfl (g_op_not rfl rfl (g_d rfl ?_)))))))
     try dsimp only [set0,setS]
     refine g_op (v := Value.bool true) rfl rfl rfl (g_d rfl ?_)
     try dsimp only [set0,setS]
     refine g_op (v := Value.bool true) rfl rfl rfl (g_d rfl (g_op_not rfl rfl (g_d rfl (g_op_not rfl rfl (g_d rfl (g_op_not rfl rfl (g_d rfl ?_)))))))
     try dsimp only [set0,setS]
     refine g_op (v := Value.bool true) rfl rfl rfl (g_d rfl ?_)
     try dsimp only [set0,setS]
     refine g_op (v := Value.bool true) rfl rfl rfl (g_d rfl (g_op_not rfl rfl (g_d rfl (g_op_not rfl rfl (g_d rfl (g_op_not rfl rfl (g_d rfl ?_)))))))
     try dsimp only [set0,setS]
     refine g_op_not rfl rfl (g_d rfl ?_)
     try dsimp only [set0,setS]
     refine g_op (v := Value.bool true) rfl rfl rfl (g_d rfl ?_)
     try dsimp only [set0,setS]
     refine g_ops_nil (g_cond_true rfl (g_seq (g_region ?_)))
     show G _ _ _ (.inRegion _ [0] :: _) _ _
     refine g_op (v := Value.bool false) rfl rfl rfl (g_d rfl ?_)
     try dsimp only [set0,setS]
     refine g_ops_nil ?_
     obtain rfl := Option.some.inj H
     refine g_ret Try.func3 (v := Value.bool false) (res1 rfl rfl) ?_
     have hs : St _ [] _ := St.take (Γ' := [_,_]) hs
     exact ⟨_, rfl, rfl, hs⟩
    intro hb
    rw [if_pos (b_bne_f hb)] at H
    refine g_d rfl ?_
    try dsimp only [set0,setS]
    refine g_op (v := Value.bool false) rfl rfl rfl (g_d rfl ?_)
    refine g_op (v := Value.int .u16 r13.1) rfl rfl rfl (g_d rfl ?_)
    refine g_op (v := Value.int .u16 r14.1) rfl rfl rfl (g_d rfl ?_)
    refine g_op (v := Value.bool (r13.1 != r14.1)) rfl rfl rfl (g_d rfl ?_)
    try dsimp only [set0,setS]
    refine g_op_b (B := r13.1 != r14.1) rfl rfl rfl ?_ ?_
    ·
     intro hb
     rw [if_neg (b_bne_t hb)] at H
     refine g_d rfl ?_
     try dsimp only [set0,setS]
     refine g_op (v := Value.bool true) rfl rfl rfl (g_d rfl (g_op_not rfl rfl (g_d rfl (g_op_not rfl rfl (g_d rfl (g_op_not rfl rfl (g_d rfl ?_)))))))
     try dsimp only [set0,setS]
     refine g_op (v := Value.bool true) rfl rfl rfl (g_d rfl ?_)
     try dsimp only [set0,setS]
     refine g_op (v := Value.bool true) rfl rfl rfl (g_d rfl (g_op_not rfl rfl (g_d rfl (g_op_not rfl rfl (g_d rfl (g_op_not rfl rfl (g_d rfl ?_)))))))
     try dsimp only [set0,setS]
     refine g_op_not rfl rfl (g_d rfl ?_)
     try dsimp only [set0,setS]
     refine g_op (v := Value.bool true) rfl rfl rfl (g_d rfl ?_)
     try dsimp only [set0,setS]
     refine g_ops_nil (g_cond_true rfl (g_seq (g_region ?_)))
     show G _ _ _ (.inRegion _ [0] :: _) _ _
     refine g_op (v := Value.bool false) rfl rfl rfl (g_d rfl ?_)
     try dsimp only [set0,setS]
     refine g_ops_nil ?_
     obtain rfl := Option.some.inj H
     refine g_ret Try.func3 (v := Value.bool false) (res1 rfl rfl) ?_
     have hs : St _ [] _ := St.take (Γ' := [_,_]) hs
     exact ⟨_, rfl, rfl, hs⟩
    intro hb
    rw [if_pos (b_bne_f hb)] at H
    refine g_d rfl ?_
    try dsimp only [set0,setS]
    refine g_op (v := Value.bool false) rfl rfl rfl (g_d rfl ?_)
    refine g_op (v := Value.int .i64 r12.1) rfl rfl rfl (g_d rfl ?_)
    refine g_op (v := Value.int .i64 r15) rfl rfl rfl (g_d rfl ?_)
    refine g_op (v := Value.bool (decide (r12.1 < r15))) rfl rfl rfl (g_d rfl ?_)
    try dsimp only [set0,setS]
    refine g_op_b (B := decide (r12.1 < r15)) rfl rfl rfl ?_ ?_
    ·
     intro hb
     rw [if_pos (b_dec_t hb)] at H
     refine g_d rfl ?_
     try dsimp only [set0,setS]
     refine g_op (v := Value.bool true) rfl rfl rfl (g_d rfl (g_op_not rfl rfl (g_d rfl (g_op_not rfl rfl (g_d rfl (g_op_not rfl rfl (g_d rfl ?_)))))))
     try dsimp only [set0,setS]
     refine g_op_not rfl rfl (g_d rfl ?_)
     try dsimp only [set0,setS]
     refine g_op (v := Value.bool true) rfl rfl rfl (g_d rfl ?_)
     try dsimp only [set0,setS]
     refine g_ops_nil (g_cond_true rfl (g_seq (g_region ?_)))
     show G _ _ _ (.inRegion _ [0] :: _) _ _
     refine g_op (v := Value.bool false) rfl rfl rfl (g_d rfl ?_)
     try dsimp only [set0,setS]
     refine g_ops_nil ?_
     obtain rfl := Option.some.inj H
     refine g_ret Try.func3 (v := Value.bool false) (res1 rfl rfl) ?_
     have hs : St _ [] _ := St.take (Γ' := [_,_]) hs
     exact ⟨_, rfl, rfl, hs⟩
    intro hb
    rw [if_neg (b_dec_f hb)] at H
    refine g_d rfl ?_
    try dsimp only [set0,setS]
    refine g_op (v := Value.bool false) rfl rfl rfl (g_d rfl ?_)
    refine g_op (v := Value.int .i64 r12.1) rfl rfl rfl (g_d rfl ?_)
    refine g_op (v := Value.int .i64 r15) rfl rfl rfl (g_d rfl ?_)
    refine g_op (v := Value.int .i64 (i64w (r15 + 1))) rfl rfl rfl (g_d rfl ?_)
    try dsimp only [set0,setS]
    refine g_op_b (B := decide (r12.1 > (i64w (r15 + 1)))) rfl rfl rfl ?_ ?_
    ·
     intro hb
     rw [if_pos (b_dec_t hb)] at H
     refine g_d rfl ?_
     try dsimp only [set0,setS]
     refine g_op (v := Value.bool true) rfl rfl rfl (g_d rfl ?_)
     try dsimp only [set0,setS]
     refine g_ops_nil (g_cond_true rfl (g_seq (g_region ?_)))
     show G _ _ _ (.inRegion _ [0] :: _) _ _
     refine g_op (v := Value.bool false) rfl rfl rfl (g_d rfl ?_)
     try dsimp only [set0,setS]
     refine g_ops_nil ?_
     obtain rfl := Option.some.inj H
     refine g_ret Try.func3 (v := Value.bool false) (res1 rfl rfl) ?_
     have hs : St _ [] _ := St.take (Γ' := [_,_]) hs
     exact ⟨_, rfl, rfl, hs⟩
    intro hb
    rw [if_neg (b_dec_f hb)] at H
    refine g_d rfl ?_
    try dsimp only [set0,setS]
    refine g_op (v := Value.bool false) rfl rfl rfl (g_d rfl ?_)
    try dsimp only [set0,setS]
    refine g_ops_nil (g_cond_false rfl (g_skip (g_seq (g_region ?_))))
    show G _ _ _ (.inRegion _ [0, 1, 2, 3, 4, 5] :: _) _ _
    refine g_op (v := Value.pointer (some ⟨b9, 0, none⟩)) rfl rfl rfl (g_d rfl ?_)
    refine s_load1 rfl rfl (v := Value.int .i8 r6.f_Things) rfl rfl (fun _ => rfl) (cells_load (hs.cells 0 rfl) 0 1 rfl) (g_d rfl ?_)
    try dsimp only [set0,setS]
    refine g_op (v := Value.int .u64 (u64w r6.f_Things)) rfl rfl rfl (g_d rfl ?_)
    obtain ⟨g1, H⟩ := ite_get H
    refine g_op (v := Value.int .u16 (shlI .u16 1 (u64w r6.f_Things))) rfl rfl (x_shl rfl rfl rfl g1) (g_d rfl ?_)
    try dsimp only [set0,setS]
    refine g_op (v := Value.int .u16 (u16w ((shlI .u16 1 (u64w r6.f_Things)) - 1))) rfl rfl rfl (g_d rfl ?_)
    try dsimp only [set0,setS]
    refine g_op (v := Value.int .u16 (u16w ((shlI .u16 1 (u64w r6.f_Things)) - 1))) rfl rfl rfl (g_d rfl ?_)
    try dsimp only [set0,setS]
    refine g_ops_nil (g_seq (g_region ?_))
    show G _ _ _ (.inRegion _ [0] :: _) _ _
    refine g_op (v := Value.int .i64 0) rfl rfl rfl (g_d rfl ?_)
    try dsimp only [set0,setS]
    refine g_ops_nil (g_seq (g_seq (g_region ?_)))
    show G _ _ _ (.inRegion _ [0] :: _) _ _
    refine g_op (v := Value.int .u16 0) rfl rfl rfl (g_d rfl ?_)
    try dsimp only [set0,setS]
    refine g_ops_nil ?_
    obtain ⟨o1_, Ho, Hr1_⟩ := bind_get H
    refine g_block_join (J := fun t w => ∃ x33 : Int, laws_FnCovers.a0 N r6 r12 a3 r14 x33 = some r ∧ Fr t (fun O => (O 0::v4::O 2::O 3::O 4::Value.pointer (some ⟨b9, 0, none⟩)::O 6::O 7::Value.int .i64 r12.1::O 9::O 10::O 11::Value.int .u16 r14.1::O 13::O 14::O 15::Value.int .i64 x33::O 17::O 18::O 19::O 20::O 21::O 22::O 23::O 24::O 25::O 26::O 27::O 28::O 29::O 30::O 31::O 32::O 33::O 34::O 35::O 36::O 37::O 38::O 39::O 40::O 41::O 42::O 43::O 44::O 45::O 46::O 47::O 48::O 49::O 50::O 51::O 52::O 53::O 54::O 55::O 56::O 57::O 58::O 59::O 60::O 61::O 62::O 63::O 64::O 65::O 66::O 67::O 68::O 69::O 70::O 71::O 72::O 73::O 74::O 75::O 76::O 77::O 78::O 79::O 80::O 81::O 82::O 83::O 84::O 85::O 86::O 87::O 88::O 89::O 90::O 91::O 92::O 93::O 94::O 95::O 96::O 97::O 98::O 99::O 100::O 101::O 102::O 103::O 104::O 105::O 106::O 107::O 108::O 109::O 110::O 111::O 112::O 113::O 114::O 115::O 116::O 117::O 118::O 119::O 120::O 121::O 122::O 123::O 124::O 125::O 126::O 127::O 128::O 129::O 130::O 131::O 132::O 133::O 134::O 135::O 136::O 137::O 138::O 139::O 140::O 141::O 142::O 143::O 144::O 145::O 146::O 147::O 148::O 149::O 150::O 151::O 152::O 153::O 154::O 155::O 156::O 157::O 158::O 159::O 160::O 161::O 162::O 163::O 164::O 165::O 166::O 167::O 168::O 169::O 170::O 171::O 172::O 173::O 174::O 175::O 176::O 177::O 178::O 179::O 180::O 181::O 182::O 183::O 184::O 185::O 186::O 187::O 188::O 189::O 190::O 191::O 192::O 193::O 194::O 195::O 196::O 197::O 198::O 199::O 200::O 201::O 202::O 203::O 204::O 205::O 206::O 207::O 208::O 209::O 210::O 211::O 212::O 213::O 214::O 215::O 216::O 217::O 218::O 219::O 220::O 221::O 222::O 223::O 224::O 225::O 226::O 227::O 228::O 229::O 230::O 231::O 232::O 233::O 234::O 235::O 236::O 237::O 238::O 239::O 240::O 241::O 242::O 243::O 244::O 245::O 246::O 247::O 248::O 249::O 250::O 251::O 252::O 253::O 254::O 255::O 256::O 257::O 258::O 259::O 260::O 261::[] : List Value)) ∧ St w0 [Cells b9 (([Value.int .i8 r6.f_Things, Value.int .i8 r6.f_Boat, v7] : List Value)) 27, Row 31 (K.int .u16) v7 r6.f_Rules] w) ?_ ?_
    · exact laws_FnCovers.seg1 hr0 hr1
    intro ha1_
    have hs := hs.pull 0 rfl
    have hs := hs.pull 1 rfl
    have hs : St _ [_,_] _ := St.take (Γ' := []) hs
    refine g_loop_fuel (I := fun n_ t w => ∃ x16 : Int, ∃ x17 : Int, rounds (fun s => laws_FnCovers.b0 N r6 r15 r14 s.1 s.2) n_ (x16, x17) = some o1_ ∧ Fr t (fun O => (O 0::v4::O 2::O 3::O 4::Value.pointer (some ⟨b9, 0, none⟩)::O 6::O 7::Value.int .i64 r12.1::O 9::O 10::O 11::Value.int .u16 r14.1::O 13::Value.int .i64 r15::Value.int .u16 (u16w ((shlI .u16 1 (u64w r6.f_Things)) - 1))::Value.int .i64 x16::Value.int .u16 x17::O 18::O 19::O 20::O 21::O 22::O 23::O 24::O 25::O 26::O 27::O 28::O 29::O 30::O 31::O 32::O 33::O 34::O 35::O 36::O 37::O 38::O 39::O 40::O 41::O 42::O 43::O 44::O 45::O 46::O 47::O 48::O 49::O 50::O 51::O 52::O 53::O 54::O 55::O 56::O 57::O 58::O 59::O 60::O 61::O 62::O 63::O 64::O 65::O 66::O 67::O 68::O 69::O 70::O 71::O 72::O 73::O 74::O 75::O 76::O 77::O 78::O 79::O 80::O 81::O 82::O 83::O 84::O 85::O 86::O 87::O 88::O 89::O 90::O 91::O 92::O 93::O 94::O 95::O 96::O 97::O 98::O 99::O 100::O 101::O 102::O 103::O 104::O 105::O 106::O 107::O 108::O 109::O 110::O 111::O 112::O 113::O 114::O 115::O 116::O 117::O 118::O 119::O 120::O 121::O 122::O 123::O 124::O 125::O 126::O 127::O 128::O 129::O 130::O 131::O 132::O 133::O 134::O 135::O 136::O 137::O 138::O 139::O 140::O 141::O 142::O 143::O 144::O 145::O 146::O 147::O 148::O 149::O 150::O 151::O 152::O 153::O 154::O 155::O 156::O 157::O 158::O 159::O 160::O 161::O 162::O 163::O 164::O 165::O 166::O 167::O 168::O 169::O 170::O 171::O 172::O 173::O 174::O 175::O 176::O 177::O 178::O 179::O 180::O 181::O 182::O 183::O 184::O 185::O 186::O 187::O 188::O 189::O 190::O 191::O 192::O 193::O 194::O 195::O 196::O 197::O 198::O 199::O 200::O 201::O 202::O 203::O 204::O 205::O 206::O 207::O 208::O 209::O 210::O 211::O 212::O 213::O 214::O 215::O 216::O 217::O 218::O 219::O 220::O 221::O 222::O 223::O 224::O 225::O 226::O 227::O 228::O 229::O 230::O 231::O 232::O 233::O 234::O 235::O 236::O 237::O 238::O 239::O 240::O 241::O 242::O 243::O 244::O 245::O 246::O 247::O 248::O 249::O 250::O 251::O 252::O 253::O 254::O 255::O 256::O 257::O 258::O 259::O 260::O 261::[] : List Value)) ∧ St w0 [Row 31 (K.int .u16) v7 r6.f_Rules, Cells b9 (([Value.int .i8 r6.f_Things, Value.int .i8 r6.f_Boat, v7] : List Value)) 27] w) N ⟨0, 0, Ho, rfl, hs⟩ ?_ ?_
    ·
     rintro _ _ ⟨x16, x17, h, _⟩
     exact rounds_zero h
    intro n_ ih1_
    rintro t w ⟨x16, x17, Ho, hf, hs⟩
    obtain ⟨O, rfl⟩ := hf.open
    try dsimp only
    obtain ⟨x2_, H, Hx1_⟩ := rounds_succ Ho
    have H : laws_FnCovers.b0 N r6 r15 r14 x16 x17 = some x2_ := H
    unfold laws_FnCovers.b0 at H
    refine g_seq (g_seq (g_region ?_))
    show G _ _ _ (.inRegion _ [0, 1, 2] :: _) _ _
    refine g_op (v := Value.int .u16 x17) rfl rfl rfl (g_d rfl ?_)
    refine g_op (v := Value.int .u16 (u16w ((shlI .u16 1 (u64w r6.f_Things)) - 1))) rfl rfl rfl (g_d rfl ?_)
    refine g_op_b (B := decide (x17 ≤ (u16w ((shlI .u16 1 (u64w r6.f_Things)) - 1)))) rfl rfl rfl ?_ ?_
    ·
     intro hb
     rw [if_pos (b_dec_t hb)] at H
     refine g_d rfl ?_
     try dsimp only [set0,setS]
     refine g_ops_nil (g_cond_true rfl (g_skip (g_seq ?_)))
     refine g_block_join (J := (fun t w => ∃ x25 : Int, ∃ x26 : Int, ∃ x27 : Bool, ∃ x28 : Bool, ∃ x29 : Bool, ∃ x30 : Bool, ∃ x31 : Bool, laws_FnCovers.j3 N x17 x25 x26 x27 x28 x29 x30 x31 = some x2_ ∧ Fr t (fun O => (O 0::v4::O 2::O 3::O 4::Value.pointer (some ⟨b9, 0, none⟩)::O 6::O 7::Value.int .i64 r12.1::O 9::O 10::O 11::Value.int .u16 r14.1::O 13::Value.int .i64 r15::Value.int .u16 (u16w ((shlI .u16 1 (u64w r6.f_Things)) - 1))::Value.int .i64 x25::Value.int .u16 x17::O 18::O 19::O 20::O 21::O 22::O 23::O 24::O 25::O 26::O 27::O 28::O 29::O 30::O 31::O 32::O 33::O 34::O 35::O 36::O 37::O 38::O 39::O 40::O 41::O 42::O 43::O 44::O 45::O 46::O 47::O 48::O 49::O 50::O 51::O 52::O 53::O 54::O 55::O 56::O 57::O 58::O 59::O 60::O 61::O 62::O 63::O 64::O 65::O 66::O 67::O 68::O 69::O 70::O 71::O 72::O 73::O 74::O 75::O 76::O 77::O 78::O 79::O 80::O 81::O 82::O 83::O 84::O 85::O 86::O 87::O 88::O 89::O 90::O 91::O 92::O 93::O 94::O 95::O 96::O 97::O 98::O 99::O 100::O 101::O 102::O 103::O 104::O 105::O 106::O 107::O 108::O 109::O 110::O 111::O 112::O 113::O 114::O 115::O 116::O 117::O 118::O 119::O 120::O 121::O 122::O 123::O 124::O 125::O 126::O 127::O 128::O 129::Value.int .i64 x26::Value.bool x27::O 132::O 133::Value.bool x28::Value.bool x29::Value.bool x30::O 137::O 138::Value.bool x31::Value.bool x31::O 141::O 142::O 143::O 144::O 145::O 146::O 147::O 148::O 149::O 150::O 151::O 152::O 153::O 154::O 155::Value.bool false::O 157::O 158::O 159::O 160::O 161::O 162::O 163::O 164::O 165::O 166::O 167::O 168::O 169::O 170::O 171::O 172::O 173::O 174::O 175::O 176::O 177::O 178::O 179::O 180::O 181::O 182::O 183::O 184::O 185::O 186::O 187::O 188::O 189::O 190::O 191::O 192::O 193::O 194::O 195::O 196::O 197::O 198::O 199::O 200::O 201::O 202::O 203::O 204::O 205::O 206::O 207::O 208::O 209::O 210::O 211::O 212::O 213::O 214::O 215::O 216::O 217::O 218::O 219::O 220::O 221::O 222::O 223::O 224::O 225::O 226::O 227::O 228::O 229::O 230::O 231::O 232::O 233::O 234::O 235::O 236::O 237::O 238::O 239::O 240::O 241::O 242::O 243::O 244::O 245::O 246::O 247::O 248::O 249::O 250::O 251::O 252::O 253::O 254::O 255::O 256::O 257::O 258::O 259::O 260::O 261::[] : List Value)) ∧ St w0 [Cells b9 (([Value.int .i8 r6.f_Things, Value.int .i8 r6.f_Boat, v7] : List Value)) 27, Row 31 (K.int .u16) v7 r6.f_Rules] w)) ?_ ?_
     ·
      rintro t w ⟨x25, x26, x27, x28, x29, x30, x31, H, hf, hs⟩
      obtain ⟨O, rfl⟩ := hf.open
      try dsimp only
      unfold laws_FnCovers.j3 at H
      refine g_region ?_
      show G _ _ _ (.inRegion _ [0, 1, 2] :: _) _ _
      refine g_op (v := Value.int .u16 x17) rfl rfl rfl (g_d rfl ?_)
      refine g_op (v := Value.int .u16 (u16w (x17 + 1))) rfl rfl rfl (g_d rfl ?_)
      try dsimp only [set0,setS]
      refine g_op (v := Value.int .u16 (u16w (x17 + 1))) rfl rfl rfl (g_d rfl ?_)
      try dsimp only [set0,setS]
      refine g_ops_nil ?_
      obtain rfl := Option.some.inj H
      have hs := hs.pull 0 rfl
      have hs := hs.pull 1 rfl
      have hs : St _ [_,_] _ := St.take (Γ' := []) hs
      exact ih1_ _ _ ⟨x25, u16w (x17 + 1), Hx1_, rfl, hs⟩
     intro ha
     refine g_seq (g_region ?_)
     show G _ _ _ (.inRegion _ [0, 1, 2, 3, 4, 5, 6, 7] :: _) _ _
     refine s_loadA rfl rfl (es := (([Value.int .i8 r6.f_Things, Value.int .i8 r6.f_Boat, v7] : List Value))) rfl rfl (fun _ => rfl) (n := 3) (fun _ => rfl) rfl (cells_all (hs.cells 1 rfl)) (g_d rfl ?_)
     try dsimp only [set0,setS]
     refine g_op (v := Value.int .u16 x17) rfl rfl rfl (g_d rfl ?_)
     obtain ⟨r18, Hr18, H⟩ := bind_get H
     refine s_call (args := [Value.agg (([Value.int .i8 r6.f_Things, Value.int .i8 r6.f_Boat, v7] : List Value)).toArray, Value.int .u16 x17]) rfl rfl (x_call rfl (callFunc_enter Try.func11 rfl rfl) rfl) (impl_IsCover.calls (a1 := (⟨r6.f_Things, r6.f_Boat, r6.f_Rules⟩ : S_impl_Ferry)) (a4 := x17) (hs.row 0 rfl) Hr18) ?_
     rintro _ w ⟨rfl, hs2⟩
     have hs : St _ [_,_] _ := hs.call hs2
     refine g_d rfl ?_
     try dsimp only [set0,setS]
     refine g_op (v := Value.tuple #[Value.bool r18.1, Value.int .i64 r18.2]) rfl rfl rfl (g_d rfl ?_)
     refine g_op (v := Value.bool r18.1) rfl rfl rfl (g_d rfl ?_)
     refine g_op (v := Value.int .i64 r18.2) rfl rfl rfl (g_d rfl ?_)
     refine g_op (v := Value.bool r18.1) rfl rfl rfl (g_d rfl ?_)
     try dsimp only [set0,setS]
     refine g_op (v := Value.int .i64 r18.2) rfl rfl rfl (g_d rfl ?_)
     try dsimp only [set0,setS]
     refine g_ops_nil (g_seq (g_region ?_))
     show G _ _ _ (.inRegion _ [0, 1, 2, 3, 4, 5, 6, 7, 8, 9] :: _) _ _
     refine s_loadA rfl rfl (es := (([Value.int .i8 r6.f_Things, Value.int .i8 r6.f_Boat, v7] : List Value))) rfl rfl (fun _ => rfl) (n := 3) (fun _ => rfl) rfl (cells_all (hs.cells 1 rfl)) (g_d rfl ?_)
     try dsimp only [set0,setS]
     refine g_op (v := Value.int .u16 (u16w ((shlI .u16 1 (u64w r6.f_Things)) - 1))) rfl rfl rfl (g_d rfl ?_)
     refine g_op (v := Value.int .u16 x17) rfl rfl rfl (g_d rfl ?_)
     refine g_op (v := Value.int .u16 (bAndNot .u16 (u16w ((shlI .u16 1 (u64w r6.f_Things)) - 1)) x17)) rfl rfl rfl (g_d rfl ?_)
     try dsimp only [set0,setS]
     obtain ⟨r19, Hr19, H⟩ := bind_get H
     refine s_call (args := [Value.agg (([Value.int .i8 r6.f_Things, Value.int .i8 r6.f_Boat, v7] : List Value)).toArray, Value.int .u16 (bAndNot .u16 (u16w ((shlI .u16 1 (u64w r6.f_Things)) - 1)) x17)]) rfl rfl (x_call rfl (callFunc_enter Try.func12 rfl rfl) rfl) (impl_IsSafe.calls (a1 := (⟨r6.f_Things, r6.f_Boat, r6.f_Rules⟩ : S_impl_Ferry)) (a4 := bAndNot .u16 (u16w ((shlI .u16 1 (u64w r6.f_Things)) - 1)) x17) (hs.row 0 rfl) Hr19) ?_
     rintro _ w ⟨rfl, hs2⟩
     have hs : St _ [_,_] _ := hs.call hs2
     refine g_d rfl ?_
     try dsimp only [set0,setS]
     refine g_op (v := Value.tuple #[Value.bool r19.1, Value.int .i64 r19.2]) rfl rfl rfl (g_d rfl ?_)
     refine g_op (v := Value.bool r19.1) rfl rfl rfl (g_d rfl ?_)
     refine g_op (v := Value.int .i64 r19.2) rfl rfl rfl (g_d rfl ?_)
     refine g_op (v := Value.bool r19.1) rfl rfl rfl (g_d rfl ?_)
     try dsimp only [set0,setS]
     refine g_op (v := Value.int .i64 r19.2) rfl rfl rfl (g_d rfl ?_)
     try dsimp only [set0,setS]
     refine g_ops_nil (g_seq (g_seq ?_))
     refine g_join2 (J := (fun t w => ∃ x23 : Bool, laws_FnCovers.j4 N r19 x17 x16 r18 x23 = some x2_ ∧ Fr t (fun O => (O 0::v4::O 2::O 3::O 4::Value.pointer (some ⟨b9, 0, none⟩)::O 6::O 7::Value.int .i64 r12.1::O 9::O 10::O 11::Value.int .u16 r14.1::O 13::Value.int .i64 r15::Value.int .u16 (u16w ((shlI .u16 1 (u64w r6.f_Things)) - 1))::Value.int .i64 x16::Value.int .u16 x17::O 18::O 19::Value.bool r19.1::O 21::O 22::O 23::O 24::O 25::O 26::O 27::O 28::O 29::O 30::O 31::O 32::O 33::O 34::O 35::O 36::O 37::O 38::O 39::O 40::O 41::O 42::O 43::O 44::O 45::O 46::O 47::O 48::O 49::O 50::O 51::O 52::O 53::O 54::O 55::O 56::O 57::O 58::O 59::O 60::O 61::O 62::O 63::O 64::O 65::O 66::O 67::O 68::O 69::O 70::O 71::O 72::O 73::O 74::O 75::O 76::O 77::O 78::O 79::O 80::O 81::O 82::O 83::O 84::O 85::O 86::O 87::O 88::O 89::O 90::O 91::O 92::O 93::O 94::O 95::O 96::O 97::O 98::O 99::O 100::O 101::O 102::O 103::O 104::O 105::O 106::O 107::O 108::O 109::O 110::O 111::O 112::O 113::O 114::O 115::O 116::O 117::O 118::O 119::O 120::O 121::O 122::O 123::O 124::O 125::O 126::O 127::O 128::O 129::Value.int .i64 r19.2::Value.bool (r19.2 != 0)::O 132::O 133::Value.bool r18.1::Value.bool r19.1::Value.bool (r18.1 != r19.1)::O 137::O 138::Value.bool x23::Value.bool x23::O 141::O 142::O 143::O 144::O 145::O 146::O 147::O 148::O 149::O 150::O 151::O 152::O 153::O 154::O 155::Value.bool false::O 157::O 158::O 159::O 160::O 161::O 162::O 163::O 164::O 165::O 166::O 167::O 168::O 169::O 170::O 171::O 172::O 173::O 174::O 175::O 176::O 177::O 178::O 179::O 180::O 181::O 182::O 183::O 184::O 185::O 186::O 187::O 188::O 189::O 190::O 191::O 192::O 193::O 194::O 195::O 196::O 197::O 198::O 199::O 200::O 201::O 202::O 203::O 204::O 205::O 206::O 207::O 208::O 209::O 210::O 211::O 212::O 213::O 214::O 215::O 216::O 217::O 218::O 219::O 220::O 221::O 222::O 223::O 224::O 225::O 226::O 227::O 228::O 229::O 230::O 231::O 232::O 233::O 234::O 235::O 236::O 237::O 238::O 239::O 240::O 241::O 242::O 243::O 244::O 245::O 246::O 247::O 248::O 249::O 250::O 251::O 252::O 253::O 254::O 255::O 256::O 257::O 258::O 259::O 260::O 261::[] : List Value)) ∧ St w0 [Cells b9 (([Value.int .i8 r6.f_Things, Value.int .i8 r6.f_Boat, v7] : List Value)) 27, Row 31 (K.int .u16) v7 r6.f_Rules] w)) ?_ ?_
     ·
      rintro t w ⟨x23, H, hf, hs⟩
      obtain ⟨O, rfl⟩ := hf.open
      try dsimp only
      unfold laws_FnCovers.j4 at H
      refine g_seq (g_region ?_)
      show G _ _ _ (.inRegion _ [0] :: _) _ _
      refine g_op_b (B := r19.1) rfl rfl rfl ?_ ?_
      ·
       intro hb
       rw [if_pos (b_var_t hb)] at H
       refine g_d rfl (g_ops_nil (g_cond_true rfl (g_region ?_)))
       show G _ _ _ (.inRegion _ [0, 1, 2] :: _) _ _
       refine g_op (v := Value.int .i64 x16) rfl rfl rfl (g_d rfl ?_)
       refine g_op (v := Value.int .i64 (i64w (x16 + 1))) rfl rfl rfl (g_d rfl ?_)
       try dsimp only [set0,setS]
       refine g_op (v := Value.int .i64 (i64w (x16 + 1))) rfl rfl rfl (g_d rfl ?_)
       try dsimp only [set0,setS]
       refine g_ops_nil ?_
       refine g_inBlock ?_
       have hs := hs.pull 1 rfl
       have hs := hs.pull 1 rfl
       have hs : St _ [_,_] _ := St.take (Γ' := []) hs
       exact ha _ _ ⟨i64w (x16 + 1), r19.2, r19.2 != 0, r18.1, r19.1, r18.1 != r19.1, x23, H, rfl, hs⟩
      intro hb
      rw [if_neg (b_var_f hb)] at H
      refine g_d rfl (g_ops_nil (g_cond_false rfl (g_skip ?_)))
      refine g_inBlock ?_
      have hs := hs.pull 1 rfl
      have hs := hs.pull 1 rfl
      have hs : St _ [_,_] _ := St.take (Γ' := []) hs
      exact ha _ _ ⟨x16, r19.2, r19.2 != 0, r18.1, r19.1, r18.1 != r19.1, x23, H, rfl, hs⟩
     intro ha
     refine g_region ?_
     show G _ _ _ (.inRegion _ [0, 1, 2, 3, 4, 5, 6, 7, 8, 9, 10, 11, 12, 13, 14, 15, 16, 17, 18, 19, 20, 21, 22, 23, 24, 25, 26, 27, 28, 29, 30] :: _) _ _
     refine g_op (v := Value.int .i64 r18.2) rfl rfl rfl (g_d rfl ?_)
     refine g_op_b (B := r18.2 != 0) rfl rfl rfl ?_ ?_
     ·
      intro hb
      rw [if_neg (b_bne_t hb)] at H
      refine g_d rfl ?_
      try dsimp only [set0,setS]
      refine g_op (v := Value.bool true) rfl rfl rfl (g_d rfl (g_op_not rfl rfl (g_d rfl (g_op_not rfl rfl (g_d rfl ?_)))))
      try dsimp only [set0,setS]
      refine g_op (v := Value.bool true) rfl rfl rfl (g_d rfl ?_)
      try dsimp only [set0,setS]
      refine g_op (v := Value.bool true) rfl rfl rfl (g_d rfl (g_op_not rfl rfl (g_d rfl (g_op_not rfl rfl (g_d rfl (g_op_not rfl rfl (g_d rfl ?_)))))))
      try dsimp only [set0,setS]
      refine g_op (v := Value.bool true) rfl rfl rfl (g_d rfl ?_)
      try dsimp only [set0,setS]
      refine g_op (v := Value.bool true) rfl rfl rfl (g_d rfl (g_op_not rfl rfl (g_d rfl (g_op_not rfl rfl (g_d rfl (g_op_not rfl rfl (g_d rfl ?_)))))))
      refine g_op_not rfl rfl (g_d rfl ?_)
      try dsimp only [set0,setS]
      refine g_op_not rfl rfl (g_d rfl (g_op_not rfl rfl (g_d rfl ?_)))
      try dsimp only [set0,setS]
      refine g_op_not rfl rfl (g_d rfl (g_op_not rfl rfl (g_d rfl (g_op_not rfl rfl (g_d rfl ?_)))))
      try dsimp only [set0,setS]
      refine g_op_not rfl rfl (g_d rfl (g_op_not rfl rfl (g_d rfl ?_)))
      try dsimp only [set0,setS]
      refine g_op_not rfl rfl (g_d rfl (g_op_not rfl rfl (g_d rfl (g_op_not rfl rfl (g_d rfl (g_op_not rfl rfl (g_d rfl ?_)))))))
      try dsimp only [set0,setS]
      refine g_op_not rfl rfl (g_d rfl ?_)
      try dsimp only [set0,setS]
      refine g_op_not rfl rfl (g_d rfl ?_)
      try dsimp only [set0,setS]
      refine g_op_not rfl rfl (g_d rfl ?_)
      try dsimp only [set0,setS]
      refine g_op (v := Value.bool true) rfl rfl rfl (g_d rfl ?_)
      try dsimp only [set0,setS]
      refine g_ops_nil (g_cond_true rfl (g_seq (g_region ?_)))
      show G _ _ _ (.inRegion _ [0] :: _) _ _
      refine g_op (v := Value.bool false) rfl rfl rfl (g_d rfl ?_)
      try dsimp only [set0,setS]
      refine g_ops_nil ?_
      obtain rfl := Option.some.inj H
      subst Hx1_
      have H := Option.some.inj Hr1_
      subst H
      refine g_ret Try.func3 (v := Value.bool false) (res1 rfl rfl) ?_
      have hs : St _ [] _ := St.take (Γ' := [_,_]) hs
      exact ⟨_, rfl, rfl, hs⟩
     intro hb
     rw [if_pos (b_bne_f hb)] at H
     refine g_d rfl ?_
     try dsimp only [set0,setS]
     refine g_op (v := Value.bool false) rfl rfl rfl (g_d rfl ?_)
     refine g_op (v := Value.int .i64 r19.2) rfl rfl rfl (g_d rfl ?_)
     refine g_op (v := Value.bool (r19.2 != 0)) rfl rfl rfl (g_d rfl ?_)
     try dsimp only [set0,setS]
     refine g_op_b (B := r19.2 != 0) rfl rfl rfl ?_ ?_
     ·
      intro hb
      rw [if_neg (b_bne_t hb)] at H
      refine g_d rfl ?_
      try dsimp only [set0,setS]
      refine g_op (v := Value.bool true) rfl rfl rfl (g_d rfl (g_op_not rfl rfl (g_d rfl (g_op_not rfl rfl (g_d rfl (g_op_not rfl rfl (g_d rfl ?_)))))))
      try dsimp only [set0,setS]
      refine g_op (v := Value.bool true) rfl rfl rfl (g_d rfl ?_)
      try dsimp only [set0,setS]
      refine g_op (v := Value.bool true) rfl rfl rfl (g_d rfl (g_op_not rfl rfl (g_d rfl (g_op_not rfl rfl (g_d rfl (g_op_not rfl rfl (g_d rfl ?_)))))))
      refine g_op_not rfl rfl (g_d rfl ?_)
      try dsimp only [set0,setS]
      refine g_op_not rfl rfl (g_d rfl (g_op_not rfl rfl (g_d rfl ?_)))
      try dsimp only [set0,setS]
      refine g_op_not rfl rfl (g_d rfl (g_op_not rfl rfl (g_d rfl (g_op_not rfl rfl (g_d rfl ?_)))))
      try dsimp only [set0,setS]
      refine g_op_not rfl rfl (g_d rfl (g_op_not rfl rfl (g_d rfl ?_)))
      try dsimp only [set0,setS]
      refine g_op_not rfl rfl (g_d rfl (g_op_not rfl rfl (g_d rfl (g_op_not rfl rfl (g_d rfl (g_op_not rfl rfl (g_d rfl ?_)))))))
      try dsimp only [set0,setS]
      refine g_op_not rfl rfl (g_d rfl ?_)
      try dsimp only [set0,setS]
      refine g_op_not rfl rfl (g_d rfl ?_)
      try dsimp only [set0,setS]
      refine g_op_not rfl rfl (g_d rfl ?_)
      try dsimp only [set0,setS]
      refine g_op (v := Value.bool true) rfl rfl rfl (g_d rfl ?_)
      try dsimp only [set0,setS]
      refine g_ops_nil (g_cond_true rfl (g_seq (g_region ?_)))
      show G _ _ _ (.inRegion _ [0] :: _) _ _
      refine g_op (v := Value.bool false) rfl rfl rfl (g_d rfl ?_)
      try dsimp only [set0,setS]
      refine g_ops_nil ?_
      obtain rfl := Option.some.inj H
      subst Hx1_
      have H := Option.some.inj Hr1_
      subst H
      refine g_ret Try.func3 (v := Value.bool false) (res1 rfl rfl) ?_
      have hs : St _ [] _ := St.take (Γ' := [_,_]) hs
      exact ⟨_, rfl, rfl, hs⟩
     intro hb
     rw [if_pos (b_bne_f hb)] at H
     refine g_d rfl ?_
     try dsimp only [set0,setS]
     refine g_op (v := Value.bool false) rfl rfl rfl (g_d rfl ?_)
     refine g_op (v := Value.bool r18.1) rfl rfl rfl (g_d rfl ?_)
     refine g_op (v := Value.bool r19.1) rfl rfl rfl (g_d rfl ?_)
     refine g_op (v := Value.bool (r18.1 != r19.1)) rfl rfl rfl (g_d rfl ?_)
     try dsimp only [set0,setS]
     refine g_op_b (B := r18.1 != r19.1) rfl rfl rfl ?_ ?_
     ·
      intro hb
      rw [if_neg (b_bne_t hb)] at H
      refine g_d rfl ?_
      try dsimp only [set0,setS]
      refine g_op (v := Value.bool true) rfl rfl rfl (g_d rfl (g_op_not rfl rfl (g_d rfl (g_op_not rfl rfl (g_d rfl (g_op_not rfl rfl (g_d rfl ?_)))))))
      refine g_op_not rfl rfl (g_d rfl ?_)
      try dsimp only [set0,setS]
      refine g_op_not rfl rfl (g_d rfl (g_op_not rfl rfl (g_d rfl ?_)))
      try dsimp only [set0,setS]
      refine g_op_not rfl rfl (g_d rfl (g_op_not rfl rfl (g_d rfl (g_op_not rfl rfl (g_d rfl ?_)))))
      try dsimp only [set0,setS]
      refine g_op_not rfl rfl (g_d rfl (g_op_not rfl rfl (g_d rfl ?_)))
      try dsimp only [set0,setS]
      refine g_op_not rfl rfl (g_d rfl (g_op_not rfl rfl (g_d rfl (g_op_not rfl rfl (g_d rfl (g_op_not rfl rfl (g_d rfl ?_)))))))
      try dsimp only [set0,setS]
      refine g_op_not rfl rfl (g_d rfl ?_)
      try dsimp only [set0,setS]
      refine g_op_not rfl rfl (g_d rfl ?_)
      try dsimp only [set0,setS]
      refine g_op_not rfl rfl (g_d rfl ?_)
      try dsimp only [set0,setS]
      refine g_op (v := Value.bool true) rfl rfl rfl (g_d rfl ?_)
      try dsimp only [set0,setS]
      refine g_ops_nil (g_cond_true rfl (g_seq (g_region ?_)))
      show G _ _ _ (.inRegion _ [0] :: _) _ _
      refine g_op (v := Value.bool false) rfl rfl rfl (g_d rfl ?_)
      try dsimp only [set0,setS]
      refine g_ops_nil ?_
      obtain rfl := Option.some.inj H
      subst Hx1_
      have H := Option.some.inj Hr1_
      subst H
      refine g_ret Try.func3 (v := Value.bool false) (res1 rfl rfl) ?_
      have hs : St _ [] _ := St.take (Γ' := [_,_]) hs
      exact ⟨_, rfl, rfl, hs⟩
     intro hb
     rw [if_pos (b_bne_f hb)] at H
     refine g_d rfl ?_
     try dsimp only [set0,setS]
     refine g_op (v := Value.bool false) rfl rfl rfl (g_d rfl ?_)
     refine g_op_b (B := r18.1) rfl rfl rfl ?_ ?_
     ·
      intro hb
      rw [if_pos (b_var_t hb)] at H
      refine g_d rfl ?_
      refine g_op (v := Value.bool true) rfl rfl rfl (g_d rfl ?_)
      refine g_op (v := Value.int .u16 x17) rfl rfl rfl (g_d rfl ?_)
      obtain ⟨r20, Hr20, H⟩ := bind_get H
      refine s_call (args := [Value.int .u16 x17]) rfl rfl (x_call rfl (callFunc_enter Try.func10 rfl rfl) rfl) (spec_A2Count.calls (a1 := x17) Hr20) ?_
      rintro _ w ⟨rfl, hs2⟩
      have hs : St _ [_,_] _ := hs.call hs2
      refine g_d rfl ?_
      try dsimp only [set0,setS]
      refine g_op (v := Value.int .i64 r15) rfl rfl rfl (g_d rfl ?_)
      refine g_op_b (B := decide (r20 < r15)) rfl rfl rfl ?_ ?_
      ·
       intro hb
       rw [if_pos (b_dec_t hb)] at H
       refine g_d rfl ?_
       try dsimp only [set0,setS]
       refine g_op (v := Value.bool true) rfl rfl rfl (g_d rfl (g_op_not rfl rfl (g_d rfl (g_op_not rfl rfl (g_d rfl ?_)))))
       try dsimp only [set0,setS]
       refine g_op_not rfl rfl (g_d rfl (g_op_not rfl rfl (g_d rfl ?_)))
       try dsimp only [set0,setS]
       refine g_op_not rfl rfl (g_d rfl (g_op_not rfl rfl (g_d rfl (g_op_not rfl rfl (g_d rfl (g_op_not rfl rfl (g_d rfl ?_)))))))
       try dsimp only [set0,setS]
       refine g_op_not rfl rfl (g_d rfl ?_)
       try dsimp only [set0,setS]
       refine g_op (v := Value.bool true) rfl rfl rfl (g_d rfl ?_)
       try dsimp only [set0,setS]
       refine g_op (v := Value.bool true) rfl rfl rfl (g_d rfl ?_)
       try dsimp only [set0,setS]
       refine g_op (v := Value.bool true) rfl rfl rfl (g_d rfl ?_)
       try dsimp only [set0,setS]
       refine g_ops_nil (g_cond_true rfl (g_seq (g_region ?_)))
       show G _ _ _ (.inRegion _ [0] :: _) _ _
       refine g_op (v := Value.bool false) rfl rfl rfl (g_d rfl ?_)
       try dsimp only [set0,setS]
       refine g_ops_nil ?_
       obtain rfl := Option.some.inj H
       subst Hx1_
       have H := Option.some.inj Hr1_
       subst H
       refine g_ret Try.func3 (v := Value.bool false) (res1 rfl rfl) ?_
       have hs : St _ [] _ := St.take (Γ' := [_,_]) hs
       exact ⟨_, rfl, rfl, hs⟩
      intro hb
      rw [if_neg (b_dec_f hb)] at H
      refine g_d rfl ?_
      try dsimp only [set0,setS]
      refine g_op (v := Value.bool false) rfl rfl rfl (g_d rfl ?_)
      refine g_op (v := Value.int .u16 x17) rfl rfl rfl (g_d rfl ?_)
      obtain ⟨r21, Hr21, H⟩ := bind_get H
      refine s_call (args := [Value.int .u16 x17]) rfl rfl (x_call rfl (callFunc_enter Try.func10 rfl rfl) rfl) (spec_A2Count.calls (a1 := x17) Hr21) ?_
      rintro _ w ⟨rfl, hs2⟩
      have hs : St _ [_,_] _ := hs.call hs2
      refine g_d rfl ?_
      try dsimp only [set0,setS]
      refine g_op (v := Value.int .i64 r15) rfl rfl rfl (g_d rfl ?_)
      refine g_op_b (B := r21 == r15) rfl rfl rfl ?_ ?_
      ·
       intro hb
       rw [if_pos (b_beq_t hb)] at H
       refine g_d rfl ?_
       try dsimp only [set0,setS]
       refine g_op (v := Value.bool true) rfl rfl rfl (g_d rfl ?_)
       refine g_op (v := Value.int .u16 x17) rfl rfl rfl (g_d rfl ?_)
       refine g_op (v := Value.int .u16 r14.1) rfl rfl rfl (g_d rfl ?_)
       refine g_op (v := Value.bool (decide (x17 < r14.1))) rfl rfl rfl (g_d rfl ?_)
       try dsimp only [set0,setS]
       refine g_op (v := Value.bool (decide (x17 < r14.1))) rfl rfl rfl (g_d rfl ?_)
       try dsimp only [set0,setS]
       refine g_op (v := Value.bool (decide (x17 < r14.1))) rfl rfl rfl (g_d rfl ?_)
       try dsimp only [set0,setS]
       refine g_op_b (B := decide (x17 < r14.1)) rfl rfl rfl ?_ ?_
       ·
        intro hb
        rw [if_pos (b_dec_t hb)] at H
        refine g_d rfl ?_
        try dsimp only [set0,setS]
        refine g_op (v := Value.bool true) rfl rfl rfl (g_d rfl ?_)
        try dsimp only [set0,setS]
        refine g_ops_nil (g_cond_true rfl (g_seq (g_region ?_)))
        show G _ _ _ (.inRegion _ [0] :: _) _ _
        refine g_op (v := Value.bool false) rfl rfl rfl (g_d rfl ?_)
        try dsimp only [set0,setS]
        refine g_ops_nil ?_
        obtain rfl := Option.some.inj H
        subst Hx1_
        have H := Option.some.inj Hr1_
        subst H
        refine g_ret Try.func3 (v := Value.bool false) (res1 rfl rfl) ?_
        have hs : St _ [] _ := St.take (Γ' := [_,_]) hs
        exact ⟨_, rfl, rfl, hs⟩
       intro hb
       rw [if_neg (b_dec_f hb)] at H
       refine g_d rfl ?_
       try dsimp only [set0,setS]
       refine g_op (v := Value.bool false) rfl rfl rfl (g_d rfl ?_)
       try dsimp only [set0,setS]
       refine g_ops_nil (g_cond_false rfl (g_skip ?_))
       have hs := hs.pull 0 rfl
       have hs := hs.pull 1 rfl
       have hs : St _ [_,_] _ := St.take (Γ' := []) hs
       exact ha _ _ ⟨true, H, rfl, hs⟩
      intro hb
      rw [if_neg (b_beq_f hb)] at H
      refine g_d rfl ?_
      try dsimp only [set0,setS]
      refine g_op (v := Value.bool false) rfl rfl rfl (g_d rfl (g_op_not rfl rfl (g_d rfl (g_op_not rfl rfl (g_d rfl (g_op_not rfl rfl (g_d rfl ?_)))))))
      try dsimp only [set0,setS]
      refine g_op (v := Value.bool false) rfl rfl rfl (g_d rfl ?_)
      try dsimp only [set0,setS]
      refine g_op (v := Value.bool false) rfl rfl rfl (g_d rfl ?_)
      try dsimp only [set0,setS]
      refine g_op (v := Value.bool false) rfl rfl rfl (g_d rfl ?_)
      try dsimp only [set0,setS]
      refine g_op (v := Value.bool false) rfl rfl rfl (g_d rfl ?_)
      try dsimp only [set0,setS]
      refine g_ops_nil (g_cond_false rfl (g_skip ?_))
      have hs := hs.pull 0 rfl
      have hs := hs.pull 1 rfl
      have hs : St _ [_,_] _ := St.take (Γ' := []) hs
      exact ha _ _ ⟨true, H, rfl, hs⟩
     intro hb
     rw [if_neg (b_var_f hb)] at H
     refine g_d rfl ?_
     refine g_op (v := Value.bool false) rfl rfl rfl (g_d rfl (g_op_not rfl rfl (g_d rfl (g_op_not rfl rfl (g_d rfl ?_)))))
     try dsimp only [set0,setS]
     refine g_op_not rfl rfl (g_d rfl (g_op_not rfl rfl (g_d rfl ?_)))
     try dsimp only [set0,setS]
     refine g_op_not rfl rfl (g_d rfl (g_op_not rfl rfl (g_d rfl (g_op_not rfl rfl (g_d rfl ?_)))))
     try dsimp only [set0,setS]
     refine g_op_not rfl rfl (g_d rfl (g_op_not rfl rfl (g_d rfl ?_)))
     try dsimp only [set0,setS]
     refine g_op_not rfl rfl (g_d rfl (g_op_not rfl rfl (g_d rfl (g_op_not rfl rfl (g_d rfl (g_op_not rfl rfl (g_d rfl ?_)))))))
     try dsimp only [set0,setS]
     refine g_op_not rfl rfl (g_d rfl ?_)
     try dsimp only [set0,setS]
     refine g_op_not rfl rfl (g_d rfl ?_)
     try dsimp only [set0,setS]
     refine g_op (v := Value.bool false) rfl rfl rfl (g_d rfl ?_)
     try dsimp only [set0,setS]
     refine g_op (v := Value.bool false) rfl rfl rfl (g_d rfl ?_)
     try dsimp only [set0,setS]
     refine g_ops_nil (g_cond_false rfl (g_skip ?_))
     have hs := hs.pull 0 rfl
     have hs := hs.pull 1 rfl
     have hs : St _ [_,_] _ := St.take (Γ' := []) hs
     exact ha _ _ ⟨false, H, rfl, hs⟩
    intro hb
    rw [if_neg (b_dec_f hb)] at H
    refine g_d rfl ?_
    try dsimp only [set0,setS]
    refine g_ops_nil (g_cond_false rfl ?_)
    obtain rfl := Option.some.inj H
    subst Hx1_
    have hs := hs.pull 0 rfl
    have hs := hs.pull 1 rfl
    have hs : St _ [_,_] _ := St.take (Γ' := []) hs
    refine g_exit rfl ?_
    exact ha1_ _ _ ⟨x16, Hr1_, rfl, hs⟩

end Go.Proofs.YtcaokmnajnfpiaaX
