/- Contracts, printed by gen.py. -/
import Derived.Test.YtjagkhjbbdfkaaaXT
import Derived.Test.YtjagkhjbbdfkaaaProg
import Derived.Test.YtjagkhjbbdfkaaaXRowR
import Derived.Test.YtjagkhjbbdfkaaaXSeg
import Derived.Test.YtjagkhjbbdfkaaaXKey
import Derived.Test.YtjagkhjbbdfkaaaXIter
import Derived.Test.YtjagkhjbbdfkaaaXRow2
import Derived.Test.YtjagkhjbbdfkaaaFBX
import Derived.Test.YtjagkhjbbdfkaaaXDel
import Derived.Test.YtjagkhjbbdfkaaaXShelf
import Derived.Test.YtjagkhjbbdfkaaaXC0
import Derived.Test.YtjagkhjbbdfkaaaXC2
import Derived.Test.YtjagkhjbbdfkaaaXC3
import Derived.Test.YtjagkhjbbdfkaaaXC6
import Derived.Test.YtjagkhjbbdfkaaaXC7
namespace Go.Proofs.YtjagkhjbbdfkaaaX
open Go Go.RowKit Go.Proofs
set_option linter.unusedVariables false
set_option linter.unusedSimpArgs false
/- function 3 laws_FnLeast -/
def laws_FnLeast.post (w0 : World) (r : Bool) (v : Value) (w : World) : Prop := v = Value.bool r ∧ St w0 [] w
set_option maxHeartbeats 8000000 in
set_option maxRecDepth 100000 in
theorem laws_FnLeast.calls {N : Nat} {a1 : (List Int)} {a3 : (List Int)} {v2 : Value} {v4 : Value} {w0 : World} {Q : Bool → Prop} (hr0 : RdRow (K.int .u8) w0 v2 a1) (hr1 : RdRow (K.int .u8) w0 v4 a3) (H : laws_FnLeast.f N a1 a3 Q) :
    Calls Try.prog 3 #[v2, v4] w0 fun e w => ∃ v, e = .returned v ∧ ∃ r, Q r ∧ laws_FnLeast.post w0 r v w := by
  unfold laws_FnLeast.f at H
  have hs : St w0 [] w0 := St.refl w0
  refine calls_of_g (n := 217) Try.func3 rfl rfl ?_
  show G _ _ _ _ (_::_::_::_::_::_::_::_::_::_::_::_::_::_::_::_::_::_::_::_::_::_::_::_::_::_::_::_::_::_::_::_::_::_::_::_::_::_::_::_::_::_::_::_::_::_::_::_::_::_::_::_::_::_::_::_::_::_::_::_::_::_::_::_::_::_::_::_::_::_::_::_::_::_::_::_::_::_::_::_::_::_::_::_::_::_::_::_::_::_::_::_::_::_::_::_::_::_::_::_::_::_::_::_::_::_::_::_::_::_::_::_::_::_::_::_::_::_::_::_::_::_::_::_::_::_::_::_::_::_::_::_::_::_::_::_::_::_::_::_::_::_::_::_::_::_::_::_::_::_::_::_::_::_::_::_::_::_::_::_::_::_::_::_::_::_::_::_::_::_::_::_::_::_::_::_::_::_::_::_::_::_::_::_::_::_::_::_::_::_::_::_::_::_::_::_::_::_::_::_::_::_::_::_::_::_::_::_::_::_::_::_::_::_::_::_::_::_::_::[]) _
  refine g_seq ?_
  refine g_region ?_
  show G _ _ _ (.inRegion _ [0] :: _) _ _
  refine g_op (v := Value.bool false) rfl rfl rfl ?_
  refine g_d rfl ?_
  try dsimp only [set0,setS]
  refine g_ops_nil ?_
  refine g_seq ?_
  refine g_seq ?_
  refine g_region ?_
  show G _ _ _ (.inRegion _ [0, 1, 2] :: _) _ _
  refine g_op (v := v2) rfl rfl rfl ?_
  refine g_d rfl ?_
  refine g_op (v := v4) rfl rfl rfl ?_
  refine g_d rfl ?_
  obtain ⟨r5, Hr5, H⟩ := H
  refine s_call (args := [v2, v4]) rfl rfl (x_call rfl (callFunc_enter Try.func4 rfl rfl) rfl) (laws_a2Long.calls (a1 := a1) (a3 := a3) (hs.rd hr0) (hs.rd hr1) Hr5) ?_
  rintro _ w ⟨rfl, hs2⟩
  have hs : St _ [] _ := hs.call hs2
  cases r5 with
  | true =>
    rw [if_pos rfl] at H
    refine g_d rfl ?_
    try dsimp only [set0,setS]
    refine g_ops_nil ?_
    refine g_cond_true rfl ?_
    refine g_seq ?_
    refine g_region ?_
    show G _ _ _ (.inRegion _ [0] :: _) _ _
    refine g_op (v := Value.bool true) rfl rfl rfl ?_
    refine g_d rfl ?_
    try dsimp only [set0,setS]
    refine g_ops_nil ?_
    refine g_ret Try.func3 (v := Value.bool true) (res1 rfl rfl) ?_
    have hs : St _ [] _ := St.take (Γ' := []) hs
    exact ⟨_, rfl, _, H, rfl, hs⟩
  | false =>
    rw [if_neg Bool.false_ne_true] at H
    refine g_d rfl ?_
    try dsimp only [set0,setS]
    refine g_ops_nil ?_
    refine g_cond_false rfl ?_
    refine g_skip ?_
    refine g_seq ?_
    refine g_region ?_
    show G _ _ _ (.inRegion _ [0, 1, 2, 3] :: _) _ _
    refine g_op (v := v2) rfl rfl rfl ?_
    refine g_d rfl ?_
    obtain ⟨r6, Hr6, H⟩ := H
    refine s_call (args := [v2, Value.int .i64 0, Value.int .i64 120]) rfl rfl (x_call rfl (callFunc_enter Try.func5 rfl rfl) rfl) (laws_a2At.calls (a1 := a1) (a3 := 0) (a4 := 120) (hs.rd hr0) Hr6) ?_
    rintro _ w ⟨rfl, hs2⟩
    have hs : St _ [] _ := hs.call hs2
    refine g_d rfl ?_
    try dsimp only [set0,setS]
    refine g_op (v := Value.int .i64 (i64w (1 + r6))) rfl rfl rfl ?_
    refine g_d rfl ?_
    try dsimp only [set0,setS]
    refine g_op (v := Value.int .i64 (i64w (1 + r6))) rfl rfl rfl ?_
    refine g_d rfl ?_
    try dsimp only [set0,setS]
    refine g_ops_nil ?_
    refine g_seq ?_
    refine g_region ?_
    show G _ _ _ (.inRegion _ [0, 1, 2, 3] :: _) _ _
    refine g_op (v := v4) rfl rfl rfl ?_
    refine g_d rfl ?_
    obtain ⟨r7, Hr7, H⟩ := H
    refine s_call (args := [v4, Value.int .i64 0, Value.int .i64 2]) rfl rfl (x_call rfl (callFunc_enter Try.func5 rfl rfl) rfl) (laws_a2At.calls (a1 := a3) (a3 := 0) (a4 := 2) (hs.rd hr1) Hr7) ?_
    rintro _ w ⟨rfl, hs2⟩
    have hs : St _ [] _ := hs.call hs2
    refine g_d rfl ?_
    try dsimp only [set0,setS]
    refine g_op (v := Value.bool (r7 == 1)) rfl rfl rfl ?_
    refine g_d rfl ?_
    try dsimp only [set0,setS]
    refine g_op (v := Value.bool (r7 == 1)) rfl rfl rfl ?_
    refine g_d rfl ?_
    try dsimp only [set0,setS]
    refine g_ops_nil ?_
    refine g_seq ?_
    refine g_region ?_
    show G _ _ _ (.inRegion _ [0, 1, 2, 3, 4, 5, 6, 7] :: _) _ _
    refine g_op (v := Value.int .i64 (i64w (1 + r6))) rfl rfl rfl ?_
    refine g_d rfl ?_
    refine g_op (v := Value.bool (r7 == 1)) rfl rfl rfl ?_
    refine g_d rfl ?_
    obtain ⟨r8, Hr8, H⟩ := H
    refine s_call (args := [Value.int .i64 (i64w (1 + r6)), Value.bool (r7 == 1)]) rfl rfl (x_call rfl (callFunc_enter Try.func6 rfl rfl) rfl) (impl_LeastWeights.calls (a1 := i64w (1 + r6)) (a2 := r7 == 1) Hr8) ?_
    rintro _ w ⟨v9, rfl, hs2⟩
    have hs : St _ [_] _ := hs.call hs2
    refine g_d rfl ?_
    try dsimp only [set0,setS]
    refine g_op (v := Value.tuple #[v9, Value.int .i64 r8.2]) rfl rfl rfl ?_
    refine g_d rfl ?_
    refine g_op (v := v9) rfl rfl rfl ?_
    refine g_d rfl ?_
    refine g_op (v := Value.int .i64 r8.2) rfl rfl rfl ?_
    refine g_d rfl ?_
    refine g_op (v := v9) rfl rfl rfl ?_
    refine g_d rfl ?_
    try dsimp only [set0,setS]
    refine g_op (v := Value.int .i64 r8.2) rfl rfl rfl ?_
    refine g_d rfl ?_
    try dsimp only [set0,setS]
    refine g_ops_nil ?_
    refine g_seq ?_
    refine g_region ?_
    show G _ _ _ (.inRegion _ [0, 1, 2, 3, 4, 5, 6, 7] :: _) _ _
    refine g_op (v := Value.int .i64 (i64w (1 + r6))) rfl rfl rfl ?_
    refine g_d rfl ?_
    refine g_op (v := Value.bool (r7 == 1)) rfl rfl rfl ?_
    refine g_d rfl ?_
    obtain ⟨r11, Hr11, H⟩ := H
    refine s_call (args := [Value.int .i64 (i64w (1 + r6)), Value.bool (r7 == 1)]) rfl rfl (x_call rfl (callFunc_enter Try.func7 rfl rfl) rfl) (spec_LeastWeights.calls (a1 := i64w (1 + r6)) (a2 := r7 == 1) Hr11) ?_
    rintro _ w ⟨v12, rfl, hs2⟩
    have hs : St _ [_,_] _ := hs.call hs2
    refine g_d rfl ?_
    try dsimp only [set0,setS]
    refine g_op (v := Value.tuple #[v12, Value.int .i64 r11.2]) rfl rfl rfl ?_
    refine g_d rfl ?_
    refine g_op (v := v12) rfl rfl rfl ?_
    refine g_d rfl ?_
    refine g_op (v := Value.int .i64 r11.2) rfl rfl rfl ?_
    refine g_d rfl ?_
    refine g_op (v := v12) rfl rfl rfl ?_
    refine g_d rfl ?_
    try dsimp only [set0,setS]
    refine g_op (v := Value.int .i64 r11.2) rfl rfl rfl ?_
    refine g_d rfl ?_
    try dsimp only [set0,setS]
    refine g_ops_nil ?_
    refine g_seq ?_
    refine g_region ?_
    show G _ _ _ (.inRegion _ [0, 1, 2, 3, 4, 5, 6, 7] :: _) _ _
    refine g_op (v := v12) rfl rfl rfl ?_
    refine g_d rfl ?_
    refine g_op (v := Value.bool (r7 == 1)) rfl rfl rfl ?_
    refine g_d rfl ?_
    refine s_call (args := [v12, Value.bool (r7 == 1)]) rfl rfl (x_call rfl (callFunc_enter Try.func8 rfl rfl) rfl) (impl_AllUpTo.calls (a1 := r11.1) (a3 := r7 == 1) (hs.row 0 rfl) H) ?_
    rintro _ w ⟨r14, H, rfl, hs2⟩
    try dsimp only at H
    have hs : St _ [_,_] _ := hs.call hs2
    refine g_d rfl ?_
    try dsimp only [set0,setS]
    refine g_op (v := Value.tuple #[Value.int .i64 r14.1, Value.int .i64 r14.2]) rfl rfl rfl ?_
    refine g_d rfl ?_
    refine g_op (v := Value.int .i64 r14.1) rfl rfl rfl ?_
    refine g_d rfl ?_
    refine g_op (v := Value.int .i64 r14.2) rfl rfl rfl ?_
    refine g_d rfl ?_
    refine g_op (v := Value.int .i64 r14.1) rfl rfl rfl ?_
    refine g_d rfl ?_
    try dsimp only [set0,setS]
    refine g_op (v := Value.int .i64 r14.2) rfl rfl rfl ?_
    refine g_d rfl ?_
    try dsimp only [set0,setS]
    refine g_ops_nil ?_
    refine g_seq ?_
    refine g_region ?_
    show G _ _ _ (.inRegion _ [0, 1, 2, 3, 4, 5, 6, 7, 8] :: _) _ _
    refine g_op (v := v12) rfl rfl rfl ?_
    refine g_d rfl ?_
    refine g_op (v := Value.int .i64 (i64w (1 + r6))) rfl rfl rfl ?_
    refine g_d rfl ?_
    refine g_op (v := Value.bool (r7 == 1)) rfl rfl rfl ?_
    refine g_d rfl ?_
    refine s_call (args := [v12, Value.int .i64 (i64w (1 + r6)), Value.bool (r7 == 1)]) rfl rfl (x_call rfl (callFunc_enter Try.func9 rfl rfl) rfl) (impl_NeedlessWeight.calls (a1 := r11.1) (a3 := i64w (1 + r6)) (a4 := r7 == 1) (hs.row 0 rfl) H) ?_
    rintro _ w ⟨r15, H, rfl, hs2⟩
    try dsimp only at H
    have hs : St _ [_,_] _ := hs.call hs2
    refine g_d rfl ?_
    try dsimp only [set0,setS]
    refine g_op (v := Value.tuple #[Value.int .i64 r15.1, Value.int .i64 r15.2]) rfl rfl rfl ?_
    refine g_d rfl ?_
    refine g_op (v := Value.int .i64 r15.1) rfl rfl rfl ?_
    refine g_d rfl ?_
    refine g_op (v := Value.int .i64 r15.2) rfl rfl rfl ?_
    refine g_d rfl ?_
    refine g_op (v := Value.int .i64 r15.1) rfl rfl rfl ?_
    refine g_d rfl ?_
    try dsimp only [set0,setS]
    refine g_op (v := Value.int .i64 r15.2) rfl rfl rfl ?_
    refine g_d rfl ?_
    try dsimp only [set0,setS]
    refine g_ops_nil ?_
    refine g_seq ?_
    refine g_region ?_
    show G _ _ _ (.inRegion _ [0, 1, 2, 3, 4, 5, 6] :: _) _ _
    refine g_op (v := v12) rfl rfl rfl ?_
    refine g_d rfl ?_
    obtain ⟨r16, Hr16, H⟩ := H
    refine s_call (args := [v12]) rfl rfl (x_call rfl (callFunc_enter Try.func10 rfl rfl) rfl) (impl_SumOfWeights.calls (a1 := r11.1) (hs.row 0 rfl) Hr16) ?_
    rintro _ w ⟨rfl, hs2⟩
    have hs : St _ [_,_] _ := hs.call hs2
    refine g_d rfl ?_
    try dsimp only [set0,setS]
    refine g_op (v := Value.tuple #[Value.int .i64 r16.1, Value.int .i64 r16.2]) rfl rfl rfl ?_
    refine g_d rfl ?_
    refine g_op (v := Value.int .i64 r16.1) rfl rfl rfl ?_
    refine g_d rfl ?_
    refine g_op (v := Value.int .i64 r16.2) rfl rfl rfl ?_
    refine g_d rfl ?_
    refine g_op (v := Value.int .i64 r16.1) rfl rfl rfl ?_
    refine g_d rfl ?_
    try dsimp only [set0,setS]
    refine g_op (v := Value.int .i64 r16.2) rfl rfl rfl ?_
    refine g_d rfl ?_
    try dsimp only [set0,setS]
    refine g_ops_nil ?_
    refine g_seq ?_
    refine g_seq ?_
    refine g_region ?_
    show G _ _ _ (.inRegion _ [0, 1, 2, 3, 4, 5, 6, 7, 8, 9, 10, 11, 12, 13, 14, 15, 16, 17, 18, 19, 20, 21, 22, 23, 24, 25, 26, 27, 28, 29, 30, 31, 32, 33, 34] :: _) _ _
    refine g_op (v := Value.int .i64 r8.2) rfl rfl rfl ?_
    refine g_d rfl ?_
    refine g_op (v := Value.int .i64 r11.2) rfl rfl rfl ?_
    refine g_d rfl ?_
    refine g_op_b (B := r8.2 != r11.2) rfl rfl rfl ?_ ?_
    ·
     intro hb
     rw [if_neg (b_bne_t hb)] at H
     refine g_d rfl ?_
     try dsimp only [set0,setS]
     refine g_op (v := Value.bool true) rfl rfl rfl ?_
     refine g_d rfl ?_
     refine g_op_not rfl rfl ?_
     refine g_d rfl ?_
     refine g_op_not rfl rfl ?_
     refine g_d rfl ?_
     try dsimp only [set0,setS]
     refine g_op (v := Value.bool true) rfl rfl rfl ?_
     refine g_d rfl ?_
     try dsimp only [set0,setS]
     refine g_op (v := Value.bool true) rfl rfl rfl ?_
     refine g_d rfl ?_
     refine g_op_not rfl rfl ?_
     refine g_d rfl ?_
     refine g_op_not rfl rfl ?_
     refine g_d rfl ?_
     refine g_op_not rfl rfl ?_
     refine g_d rfl ?_
     try dsimp only [set0,setS]
     refine g_op_not rfl rfl ?_
     refine g_d rfl ?_
     try dsimp only [set0,setS]
     refine g_op (v := Value.bool true) rfl rfl rfl ?_
     refine g_d rfl ?_
     try dsimp only [set0,setS]
     refine g_op (v := Value.bool true) rfl rfl rfl ?_
     refine g_d rfl ?_
     refine g_op_not rfl rfl ?_
     refine g_d rfl ?_
     refine g_op_not rfl rfl ?_
     refine g_d rfl ?_
     try dsimp only [set0,setS]
     refine g_op (v := Value.bool true) rfl rfl rfl ?_
     refine g_d rfl ?_
     try dsimp only [set0,setS]
     refine g_op (v := Value.bool true) rfl rfl rfl ?_
     refine g_d rfl ?_
     refine g_op_not rfl rfl ?_
     refine g_d rfl ?_
     refine g_op_not rfl rfl ?_
     refine g_d rfl ?_
     refine g_op_not rfl rfl ?_
     refine g_d rfl ?_
     try dsimp only [set0,setS]
     refine g_op (v := Value.bool true) rfl rfl rfl ?_
     refine g_d rfl ?_
     try dsimp only [set0,setS]
     refine g_op (v := Value.bool true) rfl rfl rfl ?_
     refine g_d rfl ?_
     refine g_op_not rfl rfl ?_
     refine g_d rfl ?_
     refine g_op_not rfl rfl ?_
     refine g_d rfl ?_
     try dsimp only [set0,setS]
     refine g_op (v := Value.bool true) rfl rfl rfl ?_
     refine g_d rfl ?_
     try dsimp only [set0,setS]
     refine g_op (v := Value.bool true) rfl rfl rfl ?_
     refine g_d rfl ?_
     refine g_op_not rfl rfl ?_
     refine g_d rfl ?_
     refine g_op_not rfl rfl ?_
     refine g_d rfl ?_
     try dsimp only [set0,setS]
     refine g_op (v := Value.bool true) rfl rfl rfl ?_
     refine g_d rfl ?_
     try dsimp only [set0,setS]
     refine g_op (v := Value.bool true) rfl rfl rfl ?_
     refine g_d rfl ?_
     refine g_op_not rfl rfl ?_
     refine g_d rfl ?_
     refine g_op_not rfl rfl ?_
     refine g_d rfl ?_
     refine g_op_not rfl rfl ?_
     refine g_d rfl ?_
     try dsimp only [set0,setS]
     refine g_op (v := Value.bool true) rfl rfl rfl ?_
     refine g_d rfl ?_
     try dsimp only [set0,setS]
     refine g_ops_nil ?_
     refine g_cond_true rfl ?_
     refine g_seq ?_
     refine g_region ?_
     show G _ _ _ (.inRegion _ [0] :: _) _ _
     refine g_op (v := Value.bool false) rfl rfl rfl ?_
     refine g_d rfl ?_
     try dsimp only [set0,setS]
     refine g_ops_nil ?_
     refine g_ret Try.func3 (v := Value.bool false) (res1 rfl rfl) ?_
     have hs : St _ [] _ := St.take (Γ' := [_,_]) hs
     exact ⟨_, rfl, _, H, rfl, hs⟩
    ·
     intro hb
     rw [if_pos (b_bne_f hb)] at H
     refine g_d rfl ?_
     try dsimp only [set0,setS]
     refine g_op (v := Value.bool false) rfl rfl rfl ?_
     refine g_d rfl ?_
     refine g_op (v := Value.int .i64 r8.2) rfl rfl rfl ?_
     refine g_d rfl ?_
     refine g_op (v := Value.bool (r8.2 != 0)) rfl rfl rfl ?_
     refine g_d rfl ?_
     try dsimp only [set0,setS]
     refine g_op_b (B := r8.2 != 0) rfl rfl rfl ?_ ?_
     ·
      intro hb
      rw [if_neg (b_bne_t hb)] at H
      refine g_d rfl ?_
      try dsimp only [set0,setS]
      refine g_op (v := Value.bool true) rfl rfl rfl ?_
      refine g_d rfl ?_
      refine g_op_not rfl rfl ?_
      refine g_d rfl ?_
      refine g_op_not rfl rfl ?_
      refine g_d rfl ?_
      refine g_op_not rfl rfl ?_
      refine g_d rfl ?_
      try dsimp only [set0,setS]
      refine g_op_not rfl rfl ?_
      refine g_d rfl ?_
      try dsimp only [set0,setS]
      refine g_op (v := Value.bool true) rfl rfl rfl ?_
      refine g_d rfl ?_
      try dsimp only [set0,setS]
      refine g_op (v := Value.bool true) rfl rfl rfl ?_
      refine g_d rfl ?_
      refine g_op_not rfl rfl ?_
      refine g_d rfl ?_
      refine g_op_not rfl rfl ?_
      refine g_d rfl ?_
      try dsimp only [set0,setS]
      refine g_op (v := Value.bool true) rfl rfl rfl ?_
      refine g_d rfl ?_
      try dsimp only [set0,setS]
      refine g_op (v := Value.bool true) rfl rfl rfl ?_
      refine g_d rfl ?_
      refine g_op_not rfl rfl ?_
      refine g_d rfl ?_
      refine g_op_not rfl rfl ?_
      refine g_d rfl ?_
      refine g_op_not rfl rfl ?_
      refine g_d rfl ?_
      try dsimp only [set0,setS]
      refine g_op (v := Value.bool true) rfl rfl rfl ?_
      refine g_d rfl ?_
      try dsimp only [set0,setS]
      refine g_op (v := Value.bool true) rfl rfl rfl ?_
      refine g_d rfl ?_
      refine g_op_not rfl rfl ?_
      refine g_d rfl ?_
      refine g_op_not rfl rfl ?_
      refine g_d rfl ?_
      try dsimp only [set0,setS]
      refine g_op (v := Value.bool true) rfl rfl rfl ?_
      refine g_d rfl ?_
      try dsimp only [set0,setS]
      refine g_op (v := Value.bool true) rfl rfl rfl ?_
      refine g_d rfl ?_
      refine g_op_not rfl rfl ?_
      refine g_d rfl ?_
      refine g_op_not rfl rfl ?_
      refine g_d rfl ?_
      try dsimp only [set0,setS]
      refine g_op (v := Value.bool true) rfl rfl rfl ?_
      refine g_d rfl ?_
      try dsimp only [set0,setS]
      refine g_op (v := Value.bool true) rfl rfl rfl ?_
      refine g_d rfl ?_
      refine g_op_not rfl rfl ?_
      refine g_d rfl ?_
      refine g_op_not rfl rfl ?_
      refine g_d rfl ?_
      refine g_op_not rfl rfl ?_
      refine g_d rfl ?_
      try dsimp only [set0,setS]
      refine g_op (v := Value.bool true) rfl rfl rfl ?_
      refine g_d rfl ?_
      try dsimp only [set0,setS]
      refine g_ops_nil ?_
      refine g_cond_true rfl ?_
      refine g_seq ?_
      refine g_region ?_
      show G _ _ _ (.inRegion _ [0] :: _) _ _
      refine g_op (v := Value.bool false) rfl rfl rfl ?_
      refine g_d rfl ?_
      try dsimp only [set0,setS]
      refine g_ops_nil ?_
      refine g_ret Try.func3 (v := Value.bool false) (res1 rfl rfl) ?_
      have hs : St _ [] _ := St.take (Γ' := [_,_]) hs
      exact ⟨_, rfl, _, H, rfl, hs⟩
     ·
      intro hb
      rw [if_pos (b_bne_f hb)] at H
      refine g_d rfl ?_
      try dsimp only [set0,setS]
      refine g_op (v := Value.bool false) rfl rfl rfl ?_
      refine g_d rfl ?_
      refine g_op (v := v9) rfl rfl rfl ?_
      refine g_d rfl ?_
      refine g_op (v := v12) rfl rfl rfl ?_
      refine g_d rfl ?_
      obtain ⟨r17, Hr17, H⟩ := H
      refine s_call (args := [v9, v12]) rfl rfl (x_call rfl (callFunc_enter Try.func11 rfl rfl) rfl) (spec_A2SameWeights.calls (a1 := r8.1) (a3 := r11.1) (hs.row 1 rfl) (hs.row 0 rfl) Hr17) ?_
      rintro _ w ⟨rfl, hs2⟩
      have hs : St _ [_,_] _ := hs.call hs2
      refine g_d rfl ?_
      try dsimp only [set0,setS]
      refine g_op (v := Value.bool (!r17)) rfl rfl rfl ?_
      refine g_d rfl ?_
      try dsimp only [set0,setS]
      refine g_op_b (B := !r17) rfl rfl rfl ?_ ?_
      ·
       intro hb
       rw [if_neg (b_not_t hb)] at H
       refine g_d rfl ?_
       try dsimp only [set0,setS]
       refine g_op (v := Value.bool true) rfl rfl rfl ?_
       refine g_d rfl ?_
       refine g_op_not rfl rfl ?_
       refine g_d rfl ?_
       refine g_op_not rfl rfl ?_
       refine g_d rfl ?_
       try dsimp only [set0,setS]
       refine g_op (v := Value.bool true) rfl rfl rfl ?_
       refine g_d rfl ?_
       try dsimp only [set0,setS]
       refine g_op (v := Value.bool true) rfl rfl rfl ?_
       refine g_d rfl ?_
       refine g_op_not rfl rfl ?_
       refine g_d rfl ?_
       refine g_op_not rfl rfl ?_
       refine g_d rfl ?_
       refine g_op_not rfl rfl ?_
       refine g_d rfl ?_
       try dsimp only [set0,setS]
       refine g_op (v := Value.bool true) rfl rfl rfl ?_
       refine g_d rfl ?_
       try dsimp only [set0,setS]
       refine g_op (v := Value.bool true) rfl rfl rfl ?_
       refine g_d rfl ?_
       refine g_op_not rfl rfl ?_
       refine g_d rfl ?_
       refine g_op_not rfl rfl ?_
       refine g_d rfl ?_
       try dsimp only [set0,setS]
       refine g_op (v := Value.bool true) rfl rfl rfl ?_
       refine g_d rfl ?_
       try dsimp only [set0,setS]
       refine g_op (v := Value.bool true) rfl rfl rfl ?_
       refine g_d rfl ?_
       refine g_op_not rfl rfl ?_
       refine g_d rfl ?_
       refine g_op_not rfl rfl ?_
       refine g_d rfl ?_
       try dsimp only [set0,setS]
       refine g_op (v := Value.bool true) rfl rfl rfl ?_
       refine g_d rfl ?_
       try dsimp only [set0,setS]
       refine g_op (v := Value.bool true) rfl rfl rfl ?_
       refine g_d rfl ?_
       refine g_op_not rfl rfl ?_
       refine g_d rfl ?_
       refine g_op_not rfl rfl ?_
       refine g_d rfl ?_
       refine g_op_not rfl rfl ?_
       refine g_d rfl ?_
       try dsimp only [set0,setS]
       refine g_op (v := Value.bool true) rfl rfl rfl ?_
       refine g_d rfl ?_
       try dsimp only [set0,setS]
       refine g_ops_nil ?_
       refine g_cond_true rfl ?_
       refine g_seq ?_
       refine g_region ?_
       show G _ _ _ (.inRegion _ [0] :: _) _ _
       refine g_op (v := Value.bool false) rfl rfl rfl ?_
       refine g_d rfl ?_
       try dsimp only [set0,setS]
       refine g_ops_nil ?_
       refine g_ret Try.func3 (v := Value.bool false) (res1 rfl rfl) ?_
       have hs : St _ [] _ := St.take (Γ' := [_,_]) hs
       exact ⟨_, rfl, _, H, rfl, hs⟩
      ·
       intro hb
       rw [if_pos (b_not_f hb)] at H
       refine g_d rfl ?_
       try dsimp only [set0,setS]
       refine g_op (v := Value.bool false) rfl rfl rfl ?_
       refine g_d rfl ?_
       refine g_op (v := Value.int .i64 r14.2) rfl rfl rfl ?_
       refine g_d rfl ?_
       refine g_op (v := Value.bool (r14.2 != 0)) rfl rfl rfl ?_
       refine g_d rfl ?_
       try dsimp only [set0,setS]
       refine g_op_b (B := r14.2 != 0) rfl rfl rfl ?_ ?_
       ·
        intro hb
        rw [if_neg (b_bne_t hb)] at H
        refine g_d rfl ?_
        try dsimp only [set0,setS]
        refine g_op (v := Value.bool true) rfl rfl rfl ?_
        refine g_d rfl ?_
        refine g_op_not rfl rfl ?_
        refine g_d rfl ?_
        refine g_op_not rfl rfl ?_
        refine g_d rfl ?_
        refine g_op_not rfl rfl ?_
        refine g_d rfl ?_
        try dsimp only [set0,setS]
        refine g_op (v := Value.bool true) rfl rfl rfl ?_
        refine g_d rfl ?_
        try dsimp only [set0,setS]
        refine g_op (v := Value.bool true) rfl rfl rfl ?_
        refine g_d rfl ?_
        refine g_op_not rfl rfl ?_
        refine g_d rfl ?_
        refine g_op_not rfl rfl ?_
        refine g_d rfl ?_
        try dsimp only [set0,setS]
        refine g_op (v := Value.bool true) rfl rfl rfl ?_
        refine g_d rfl ?_
        try dsimp only [set0,setS]
        refine g_op (v := Value.bool true) rfl rfl rfl ?_
        refine g_d rfl ?_
        refine g_op_not rfl rfl ?_
        refine g_d rfl ?_
        refine g_op_not rfl rfl ?_
        refine g_d rfl ?_
        try dsimp only [set0,setS]
        refine g_op (v := Value.bool true) rfl rfl rfl ?_
        refine g_d rfl ?_
        try dsimp only [set0,setS]
        refine g_op (v := Value.bool true) rfl rfl rfl ?_
        refine g_d rfl ?_
        refine g_op_not rfl rfl ?_
        refine g_d rfl ?_
        refine g_op_not rfl rfl ?_
        refine g_d rfl ?_
        refine g_op_not rfl rfl ?_
        refine g_d rfl ?_
        try dsimp only [set0,setS]
        refine g_op (v := Value.bool true) rfl rfl rfl ?_
        refine g_d rfl ?_
        try dsimp only [set0,setS]
        refine g_ops_nil ?_
        refine g_cond_true rfl ?_
        refine g_seq ?_
        refine g_region ?_
        show G _ _ _ (.inRegion _ [0] :: _) _ _
        refine g_op (v := Value.bool false) rfl rfl rfl ?_
        refine g_d rfl ?_
        try dsimp only [set0,setS]
        refine g_ops_nil ?_
        refine g_ret Try.func3 (v := Value.bool false) (res1 rfl rfl) ?_
        have hs : St _ [] _ := St.take (Γ' := [_,_]) hs
        exact ⟨_, rfl, _, H, rfl, hs⟩
       ·
        intro hb
        rw [if_pos (b_bne_f hb)] at H
        refine g_d rfl ?_
        try dsimp only [set0,setS]
        refine g_op (v := Value.bool false) rfl rfl rfl ?_
        refine g_d rfl ?_
        refine g_op (v := Value.int .i64 r14.1) rfl rfl rfl ?_
        refine g_d rfl ?_
        refine g_op (v := Value.int .i64 (i64w (1 + r6))) rfl rfl rfl ?_
        refine g_d rfl ?_
        refine g_op (v := Value.bool (r14.1 != (i64w (1 + r6)))) rfl rfl rfl ?_
        refine g_d rfl ?_
        try dsimp only [set0,setS]
        refine g_op_b (B := r14.1 != (i64w (1 + r6))) rfl rfl rfl ?_ ?_
        ·
         intro hb
         rw [if_neg (b_bne_t hb)] at H
         refine g_d rfl ?_
         try dsimp only [set0,setS]
         refine g_op (v := Value.bool true) rfl rfl rfl ?_
         refine g_d rfl ?_
         refine g_op_not rfl rfl ?_
         refine g_d rfl ?_
         refine g_op_not rfl rfl ?_
         refine g_d rfl ?_
         try dsimp only [set0,setS]
         refine g_op (v := Value.bool true) rfl rfl rfl ?_
         refine g_d rfl ?_
         try dsimp only [set0,setS]
         refine g_op (v := Value.bool true) rfl rfl rfl ?_
         refine g_d rfl ?_
         refine g_op_not rfl rfl ?_
         refine g_d rfl ?_
         refine g_op_not rfl rfl ?_
         refine g_d rfl ?_
         try dsimp only [set0,setS]
         refine g_op (v := Value.bool true) rfl rfl rfl ?_
         refine g_d rfl ?_
         try dsimp only [set0,setS]
         refine g_op (v := Value.bool true) rfl rfl rfl ?_
         refine g_d rfl ?_
         refine g_op_not rfl rfl ?_
         refine g_d rfl ?_
         refine g_op_not rfl rfl ?_
         refine g_d rfl ?_
         refine g_op_not rfl rfl ?_
         refine g_d rfl ?_
         try dsimp only [set0,setS]
         refine g_op (v := Value.bool true) rfl rfl rfl ?_
         refine g_d rfl ?_
         try dsimp only [set0,setS]
         refine g_ops_nil ?_
         refine g_cond_true rfl ?_
         refine g_seq ?_
         refine g_region ?_
         show G _ _ _ (.inRegion _ [0] :: _) _ _
         refine g_op (v := Value.bool false) rfl rfl rfl ?_
         refine g_d rfl ?_
         try dsimp only [set0,setS]
         refine g_ops_nil ?_
         refine g_ret Try.func3 (v := Value.bool false) (res1 rfl rfl) ?_
         have hs : St _ [] _ := St.take (Γ' := [_,_]) hs
         exact ⟨_, rfl, _, H, rfl, hs⟩
        ·
         intro hb
         rw [if_pos (b_bne_f hb)] at H
         refine g_d rfl ?_
         try dsimp only [set0,setS]
         refine g_op (v := Value.bool false) rfl rfl rfl ?_
         refine g_d rfl ?_
         refine g_op (v := Value.int .i64 r15.2) rfl rfl rfl ?_
         refine g_d rfl ?_
         refine g_op (v := Value.bool (r15.2 != 6)) rfl rfl rfl ?_
         refine g_d rfl ?_
         try dsimp only [set0,setS]
         refine g_op_b (B := r15.2 != 6) rfl rfl rfl ?_ ?_
         ·
          intro hb
          rw [if_neg (b_bne_t hb)] at H
          refine g_d rfl ?_
          try dsimp only [set0,setS]
          refine g_op (v := Value.bool true) rfl rfl rfl ?_
          refine g_d rfl ?_
          refine g_op_not rfl rfl ?_
          refine g_d rfl ?_
          refine g_op_not rfl rfl ?_
          refine g_d rfl ?_
          try dsimp only [set0,setS]
          refine g_op (v := Value.bool true) rfl rfl rfl ?_
          refine g_d rfl ?_
          try dsimp only [set0,setS]
          refine g_op (v := Value.bool true) rfl rfl rfl ?_
          refine g_d rfl ?_
          refine g_op_not rfl rfl ?_
          refine g_d rfl ?_
          refine g_op_not rfl rfl ?_
          refine g_d rfl ?_
          refine g_op_not rfl rfl ?_
          refine g_d rfl ?_
          try dsimp only [set0,setS]
          refine g_op (v := Value.bool true) rfl rfl rfl ?_
          refine g_d rfl ?_
          try dsimp only [set0,setS]
          refine g_ops_nil ?_
          refine g_cond_true rfl ?_
          refine g_seq ?_
          refine g_region ?_
          show G _ _ _ (.inRegion _ [0] :: _) _ _
          refine g_op (v := Value.bool false) rfl rfl rfl ?_
          refine g_d rfl ?_
          try dsimp only [set0,setS]
          refine g_ops_nil ?_
          refine g_ret Try.func3 (v := Value.bool false) (res1 rfl rfl) ?_
          have hs : St _ [] _ := St.take (Γ' := [_,_]) hs
          exact ⟨_, rfl, _, H, rfl, hs⟩
         ·
          intro hb
          rw [if_pos (b_bne_f hb)] at H
          refine g_d rfl ?_
          try dsimp only [set0,setS]
          refine g_op (v := Value.bool false) rfl rfl rfl ?_
          refine g_d rfl ?_
          refine g_op (v := Value.int .i64 r16.2) rfl rfl rfl ?_
          refine g_d rfl ?_
          refine g_op (v := Value.bool (r16.2 != 0)) rfl rfl rfl ?_
          refine g_d rfl ?_
          try dsimp only [set0,setS]
          refine g_op_b (B := r16.2 != 0) rfl rfl rfl ?_ ?_
          ·
           intro hb
           rw [if_neg (b_bne_t hb)] at H
           refine g_d rfl ?_
           try dsimp only [set0,setS]
           refine g_op (v := Value.bool true) rfl rfl rfl ?_
           refine g_d rfl ?_
           refine g_op_not rfl rfl ?_
           refine g_d rfl ?_
           refine g_op_not rfl rfl ?_
           refine g_d rfl ?_
           refine g_op_not rfl rfl ?_
           refine g_d rfl ?_
           try dsimp only [set0,setS]
           refine g_op (v := Value.bool true) rfl rfl rfl ?_
           refine g_d rfl ?_
           try dsimp only [set0,setS]
           refine g_ops_nil ?_
           refine g_cond_true rfl ?_
           refine g_seq ?_
           refine g_region ?_
           show G _ _ _ (.inRegion _ [0] :: _) _ _
           refine g_op (v := Value.bool false) rfl rfl rfl ?_
           refine g_d rfl ?_
           try dsimp only [set0,setS]
           refine g_ops_nil ?_
           refine g_ret Try.func3 (v := Value.bool false) (res1 rfl rfl) ?_
           have hs : St _ [] _ := St.take (Γ' := [_,_]) hs
           exact ⟨_, rfl, _, H, rfl, hs⟩
          ·
           intro hb
           rw [if_pos (b_bne_f hb)] at H
           refine g_d rfl ?_
           try dsimp only [set0,setS]
           refine g_op (v := Value.bool false) rfl rfl rfl ?_
           refine g_d rfl ?_
           refine g_op (v := Value.int .i64 r16.1) rfl rfl rfl ?_
           refine g_d rfl ?_
           refine g_op (v := Value.int .i64 (i64w (1 + r6))) rfl rfl rfl ?_
           refine g_d rfl ?_
           refine g_op_b (B := r16.1 != (i64w (1 + r6))) rfl rfl rfl ?_ ?_
           ·
            intro hb
            rw [if_neg (b_bne_t hb)] at H
            refine g_d rfl ?_
            try dsimp only [set0,setS]
            refine g_op (v := Value.bool true) rfl rfl rfl ?_
            refine g_d rfl ?_
            try dsimp only [set0,setS]
            refine g_ops_nil ?_
            refine g_cond_true rfl ?_
            refine g_seq ?_
            refine g_region ?_
            show G _ _ _ (.inRegion _ [0] :: _) _ _
            refine g_op (v := Value.bool false) rfl rfl rfl ?_
            refine g_d rfl ?_
            try dsimp only [set0,setS]
            refine g_ops_nil ?_
            refine g_ret Try.func3 (v := Value.bool false) (res1 rfl rfl) ?_
            have hs : St _ [] _ := St.take (Γ' := [_,_]) hs
            exact ⟨_, rfl, _, H, rfl, hs⟩
           ·
            intro hb
            rw [if_pos (b_bne_f hb)] at H
            refine g_d rfl ?_
            try dsimp only [set0,setS]
            refine g_op (v := Value.bool false) rfl rfl rfl ?_
            refine g_d rfl ?_
            try dsimp only [set0,setS]
            refine g_ops_nil ?_
            refine g_cond_false rfl ?_
            refine g_skip ?_
            refine g_seq ?_
            refine g_region ?_
            show G _ _ _ (.inRegion _ [0] :: _) _ _
            refine g_op (v := Value.int .i64 2) rfl rfl rfl ?_
            refine g_d rfl ?_
            try dsimp only [set0,setS]
            refine g_ops_nil ?_
            refine g_seq ?_
            refine g_region ?_
            show G _ _ _ (.inRegion _ [0, 1] :: _) _ _
            refine g_op (v := Value.int .i64 (i64w (1 + r6))) rfl rfl rfl ?_
            refine g_d rfl ?_
            refine g_op (v := Value.int .i64 (i64w (1 + r6))) rfl rfl rfl ?_
            refine g_d rfl ?_
            try dsimp only [set0,setS]
            refine g_ops_nil ?_
            refine g_seq ?_
            refine g_seq ?_
            refine g_join2 (J := (fun t w => ∃ x19 : Int, ∃ x20 : Int, laws_FnLeast.j0 N r11 a1 x19 x20 Q ∧ Fr t (fun O => (v2::O 1::O 2::O 3::O 4::O 5::O 6::O 7::O 8::v12::O 10::O 11::O 12::O 13::O 14::O 15::O 16::Value.int .i64 x19::Value.int .i64 x20::O 19::O 20::O 21::O 22::O 23::O 24::O 25::O 26::O 27::O 28::O 29::O 30::O 31::O 32::O 33::O 34::O 35::O 36::O 37::O 38::O 39::O 40::O 41::O 42::O 43::O 44::O 45::O 46::O 47::O 48::O 49::O 50::O 51::O 52::O 53::O 54::O 55::O 56::O 57::O 58::O 59::O 60::O 61::O 62::O 63::O 64::O 65::O 66::O 67::O 68::O 69::O 70::O 71::O 72::O 73::O 74::O 75::O 76::O 77::O 78::O 79::O 80::O 81::O 82::O 83::O 84::O 85::O 86::O 87::O 88::O 89::O 90::O 91::O 92::O 93::O 94::O 95::O 96::O 97::O 98::O 99::O 100::O 101::O 102::O 103::O 104::O 105::O 106::O 107::O 108::O 109::O 110::O 111::O 112::O 113::O 114::O 115::O 116::O 117::O 118::O 119::O 120::O 121::O 122::O 123::O 124::O 125::O 126::O 127::O 128::O 129::O 130::O 131::O 132::O 133::O 134::O 135::O 136::O 137::O 138::O 139::O 140::O 141::O 142::O 143::O 144::O 145::O 146::O 147::O 148::O 149::O 150::O 151::O 152::O 153::O 154::O 155::O 156::O 157::O 158::O 159::O 160::O 161::O 162::O 163::O 164::O 165::O 166::O 167::O 168::O 169::O 170::O 171::O 172::O 173::O 174::O 175::O 176::O 177::O 178::O 179::O 180::O 181::O 182::O 183::O 184::O 185::O 186::O 187::O 188::O 189::O 190::O 191::O 192::O 193::O 194::O 195::O 196::O 197::O 198::O 199::O 200::O 201::O 202::O 203::O 204::O 205::O 206::O 207::O 208::O 209::O 210::O 211::O 212::O 213::O 214::O 215::O 216::O 217::O 218::[] : List Value)) ∧ St w0 [Row 41 (K.int .i16) v12 r11.1] w)) ?_ ?_
            ·
             rintro t w ⟨x19, x20, H, hf, hs⟩
             obtain ⟨O, rfl⟩ := hf.open
             try dsimp only
             unfold laws_FnLeast.j0 at H
             refine g_seq ?_
             refine g_region ?_
             show G _ _ _ (.inRegion _ [0] :: _) _ _
             refine g_op (v := Value.int .i64 1) rfl rfl rfl ?_
             refine g_d rfl ?_
             try dsimp only [set0,setS]
             refine g_ops_nil ?_
             refine g_seq ?_
             refine g_seq ?_
             refine g_region ?_
             show G _ _ _ (.inRegion _ [0] :: _) _ _
             refine g_op (v := Value.int .i64 0) rfl rfl rfl ?_
             refine g_d rfl ?_
             try dsimp only [set0,setS]
             refine g_ops_nil ?_
             have Ho := H
             refine g_block_join (J := fun t w => ∃ x23 : Int, laws_FnLeast.a1 N x20 x19 a1 x23 Q ∧ Fr t (fun O => (v2::O 1::O 2::O 3::O 4::O 5::O 6::O 7::O 8::O 9::O 10::O 11::O 12::O 13::O 14::O 15::O 16::Value.int .i64 x19::Value.int .i64 x20::Value.int .i64 x23::O 20::O 21::O 22::O 23::O 24::O 25::O 26::O 27::O 28::O 29::O 30::O 31::O 32::O 33::O 34::O 35::O 36::O 37::O 38::O 39::O 40::O 41::O 42::O 43::O 44::O 45::O 46::O 47::O 48::O 49::O 50::O 51::O 52::O 53::O 54::O 55::O 56::O 57::O 58::O 59::O 60::O 61::O 62::O 63::O 64::O 65::O 66::O 67::O 68::O 69::O 70::O 71::O 72::O 73::O 74::O 75::O 76::O 77::O 78::O 79::O 80::O 81::O 82::O 83::O 84::O 85::O 86::O 87::O 88::O 89::O 90::O 91::O 92::O 93::O 94::O 95::O 96::O 97::O 98::O 99::O 100::O 101::O 102::O 103::O 104::O 105::O 106::O 107::O 108::O 109::O 110::O 111::O 112::O 113::O 114::O 115::O 116::O 117::O 118::O 119::O 120::O 121::O 122::O 123::O 124::O 125::O 126::O 127::O 128::O 129::O 130::O 131::O 132::O 133::O 134::O 135::O 136::O 137::O 138::O 139::O 140::O 141::O 142::O 143::O 144::O 145::O 146::O 147::O 148::O 149::O 150::O 151::O 152::O 153::O 154::O 155::O 156::O 157::O 158::O 159::O 160::O 161::O 162::O 163::O 164::O 165::O 166::O 167::O 168::O 169::O 170::O 171::O 172::O 173::O 174::O 175::O 176::O 177::O 178::O 179::O 180::O 181::O 182::O 183::O 184::O 185::O 186::O 187::O 188::O 189::O 190::O 191::O 192::O 193::O 194::O 195::O 196::O 197::O 198::O 199::O 200::O 201::O 202::O 203::O 204::O 205::O 206::O 207::O 208::O 209::O 210::O 211::O 212::O 213::O 214::O 215::O 216::O 217::O 218::[] : List Value)) ∧ St w0 [] w) ?_ ?_
             ·
              rintro t w ⟨x23, H, hf, hs⟩
              obtain ⟨O, rfl⟩ := hf.open
              try dsimp only
              unfold laws_FnLeast.a1 at H
              refine g_seq ?_
              refine g_seq ?_
              refine g_region ?_
              show G _ _ _ (.inRegion _ [0, 1, 2, 3, 4, 5, 6, 7, 8, 9] :: _) _ _
              refine g_op (v := Value.int .i64 x23) rfl rfl rfl ?_
              refine g_d rfl ?_
              refine g_op (v := Value.int .i64 x20) rfl rfl rfl ?_
              refine g_d rfl ?_
              refine g_op_b (B := decide (x23 ≤ x20)) rfl rfl rfl ?_ ?_
              ·
               intro hb
               rw [if_pos (b_dec_t hb)] at H
               refine g_d rfl ?_
               try dsimp only [set0,setS]
               refine g_op (v := Value.bool true) rfl rfl rfl ?_
               refine g_d rfl ?_
               refine g_op_not rfl rfl ?_
               refine g_d rfl ?_
               refine g_op_not rfl rfl ?_
               refine g_d rfl ?_
               refine g_op_not rfl rfl ?_
               refine g_d rfl ?_
               try dsimp only [set0,setS]
               refine g_op_not rfl rfl ?_
               refine g_d rfl ?_
               refine g_op_not rfl rfl ?_
               refine g_d rfl ?_
               try dsimp only [set0,setS]
               refine g_op (v := Value.bool true) rfl rfl rfl ?_
               refine g_d rfl ?_
               try dsimp only [set0,setS]
               refine g_ops_nil ?_
               refine g_cond_true rfl ?_
               refine g_seq ?_
               refine g_region ?_
               show G _ _ _ (.inRegion _ [0] :: _) _ _
               refine g_op (v := Value.bool false) rfl rfl rfl ?_
               refine g_d rfl ?_
               try dsimp only [set0,setS]
               refine g_ops_nil ?_
               refine g_ret Try.func3 (v := Value.bool false) (res1 rfl rfl) ?_
               have hs : St _ [] _ := St.take (Γ' := []) hs
               exact ⟨_, rfl, _, H, rfl, hs⟩
              ·
               intro hb
               rw [if_neg (b_dec_f hb)] at H
               refine g_d rfl ?_
               try dsimp only [set0,setS]
               refine g_op (v := Value.bool false) rfl rfl rfl ?_
               refine g_d rfl ?_
               refine g_op (v := Value.int .i64 x23) rfl rfl rfl ?_
               refine g_d rfl ?_
               refine g_op (v := Value.int .i64 x19) rfl rfl rfl ?_
               refine g_d rfl ?_
               obtain ⟨g1, H⟩ := ite_getD H
               refine g_op (v := Value.int .i64 (i64w (x23.tdiv x19))) rfl rfl (x_divquo rfl rfl rfl g1) ?_
               refine g_d rfl ?_
               try dsimp only [set0,setS]
               refine g_op (v := Value.int .i64 x20) rfl rfl rfl ?_
               refine g_d rfl ?_
               refine g_op_b (B := decide ((i64w (x23.tdiv x19)) > x20)) rfl rfl rfl ?_ ?_
               ·
                intro hb
                rw [if_pos (b_dec_t hb)] at H
                refine g_d rfl ?_
                try dsimp only [set0,setS]
                refine g_op (v := Value.bool true) rfl rfl rfl ?_
                refine g_d rfl ?_
                try dsimp only [set0,setS]
                refine g_ops_nil ?_
                refine g_cond_true rfl ?_
                refine g_seq ?_
                refine g_region ?_
                show G _ _ _ (.inRegion _ [0] :: _) _ _
                refine g_op (v := Value.bool false) rfl rfl rfl ?_
                refine g_d rfl ?_
                try dsimp only [set0,setS]
                refine g_ops_nil ?_
                refine g_ret Try.func3 (v := Value.bool false) (res1 rfl rfl) ?_
                have hs : St _ [] _ := St.take (Γ' := []) hs
                exact ⟨_, rfl, _, H, rfl, hs⟩
               ·
                intro hb
                rw [if_neg (b_dec_f hb)] at H
                refine g_d rfl ?_
                try dsimp only [set0,setS]
                refine g_op (v := Value.bool false) rfl rfl rfl ?_
                refine g_d rfl ?_
                try dsimp only [set0,setS]
                refine g_ops_nil ?_
                refine g_cond_false rfl ?_
                refine g_skip ?_
                refine g_seq ?_
                refine g_region ?_
                show G _ _ _ (.inRegion _ [0, 1, 2, 3, 4] :: _) _ _
                refine g_op (v := v2) rfl rfl rfl ?_
                refine g_d rfl ?_
                obtain ⟨r24, Hr24, H⟩ := H
                refine s_call (args := [v2, Value.int .i64 1, Value.int .i64 256]) rfl rfl (x_call rfl (callFunc_enter Try.func5 rfl rfl) rfl) (laws_a2At.calls (a1 := a1) (a3 := 1) (a4 := 256) (hs.rd hr0) Hr24) ?_
                rintro _ w ⟨rfl, hs2⟩
                have hs : St _ [] _ := hs.call hs2
                refine g_d rfl ?_
                try dsimp only [set0,setS]
                refine g_op (v := Value.int .i64 (i64w (7 * r24))) rfl rfl rfl ?_
                refine g_d rfl ?_
                try dsimp only [set0,setS]
                refine g_op (v := Value.int .i64 (i64w ((i64w (7 * r24)) - 900))) rfl rfl rfl ?_
                refine g_d rfl ?_
                try dsimp only [set0,setS]
                refine g_op (v := Value.int .i64 (i64w ((i64w (7 * r24)) - 900))) rfl rfl rfl ?_
                refine g_d rfl ?_
                try dsimp only [set0,setS]
                refine g_ops_nil ?_
                refine g_seq ?_
                refine g_region ?_
                show G _ _ _ (.inRegion _ [0, 1, 2, 3, 4, 5, 6] :: _) _ _
                refine g_op (v := Value.int .i64 (i64w ((i64w (7 * r24)) - 900))) rfl rfl rfl ?_
                refine g_d rfl ?_
                obtain ⟨r25, Hr25, H⟩ := H
                refine s_call (args := [Value.int .i64 (i64w ((i64w (7 * r24)) - 900))]) rfl rfl (x_call rfl (callFunc_enter Try.func12 rfl rfl) rfl) (impl_BalancedDigits.calls (a1 := i64w ((i64w (7 * r24)) - 900)) Hr25) ?_
                rintro _ w ⟨v26, rfl, hs2⟩
                have hs : St _ [_] _ := hs.call hs2
                refine g_d rfl ?_
                try dsimp only [set0,setS]
                refine g_op (v := Value.tuple #[v26, Value.int .i64 r25.2]) rfl rfl rfl ?_
                refine g_d rfl ?_
                refine g_op (v := v26) rfl rfl rfl ?_
                refine g_d rfl ?_
                refine g_op (v := Value.int .i64 r25.2) rfl rfl rfl ?_
                refine g_d rfl ?_
                refine g_op (v := v26) rfl rfl rfl ?_
                refine g_d rfl ?_
                try dsimp only [set0,setS]
                refine g_op (v := Value.int .i64 r25.2) rfl rfl rfl ?_
                refine g_d rfl ?_
                try dsimp only [set0,setS]
                refine g_ops_nil ?_
                refine g_seq ?_
                refine g_region ?_
                show G _ _ _ (.inRegion _ [0, 1, 2, 3, 4, 5, 6] :: _) _ _
                refine g_op (v := Value.int .i64 (i64w ((i64w (7 * r24)) - 900))) rfl rfl rfl ?_
                refine g_d rfl ?_
                obtain ⟨r28, Hr28, H⟩ := H
                refine s_call (args := [Value.int .i64 (i64w ((i64w (7 * r24)) - 900))]) rfl rfl (x_call rfl (callFunc_enter Try.func13 rfl rfl) rfl) (spec_BalancedDigits.calls (a1 := i64w ((i64w (7 * r24)) - 900)) Hr28) ?_
                rintro _ w ⟨v29, rfl, hs2⟩
                have hs : St _ [_,_] _ := hs.call hs2
                refine g_d rfl ?_
                try dsimp only [set0,setS]
                refine g_op (v := Value.tuple #[v29, Value.int .i64 r28.2]) rfl rfl rfl ?_
                refine g_d rfl ?_
                refine g_op (v := v29) rfl rfl rfl ?_
                refine g_d rfl ?_
                refine g_op (v := Value.int .i64 r28.2) rfl rfl rfl ?_
                refine g_d rfl ?_
                refine g_op (v := v29) rfl rfl rfl ?_
                refine g_d rfl ?_
                try dsimp only [set0,setS]
                refine g_op (v := Value.int .i64 r28.2) rfl rfl rfl ?_
                refine g_d rfl ?_
                try dsimp only [set0,setS]
                refine g_ops_nil ?_
                refine g_seq ?_
                refine g_region ?_
                show G _ _ _ (.inRegion _ [0, 1, 2, 3, 4, 5, 6] :: _) _ _
                refine g_op (v := v29) rfl rfl rfl ?_
                refine g_d rfl ?_
                obtain ⟨r31, Hr31, H⟩ := H
                refine s_call (args := [v29]) rfl rfl (x_call rfl (callFunc_enter Try.func14 rfl rfl) rfl) (impl_FromBalanced.calls (a1 := r28.1) (hs.row 0 rfl) Hr31) ?_
                rintro _ w ⟨rfl, hs2⟩
                have hs : St _ [_,_] _ := hs.call hs2
                refine g_d rfl ?_
                try dsimp only [set0,setS]
                refine g_op (v := Value.tuple #[Value.int .i64 r31.1, Value.int .i64 r31.2]) rfl rfl rfl ?_
                refine g_d rfl ?_
                refine g_op (v := Value.int .i64 r31.1) rfl rfl rfl ?_
                refine g_d rfl ?_
                refine g_op (v := Value.int .i64 r31.2) rfl rfl rfl ?_
                refine g_d rfl ?_
                refine g_op (v := Value.int .i64 r31.1) rfl rfl rfl ?_
                refine g_d rfl ?_
                try dsimp only [set0,setS]
                refine g_op (v := Value.int .i64 r31.2) rfl rfl rfl ?_
                refine g_d rfl ?_
                try dsimp only [set0,setS]
                refine g_ops_nil ?_
                refine g_seq ?_
                refine g_seq ?_
                refine g_join2 (J := (fun t w => laws_FnLeast.j3 N r28 r24 Q ∧ Fr t (fun O => (O 0::O 1::O 2::O 3::O 4::O 5::O 6::O 7::O 8::O 9::O 10::O 11::O 12::O 13::O 14::O 15::O 16::O 17::O 18::O 19::O 20::Value.int .i64 (i64w ((i64w (7 * r24)) - 900))::O 22::O 23::v29::O 25::O 26::O 27::O 28::O 29::O 30::O 31::O 32::O 33::O 34::O 35::O 36::O 37::O 38::O 39::O 40::O 41::O 42::O 43::O 44::O 45::O 46::O 47::O 48::O 49::O 50::O 51::O 52::O 53::O 54::O 55::O 56::O 57::O 58::O 59::O 60::O 61::O 62::O 63::O 64::O 65::O 66::O 67::O 68::O 69::O 70::O 71::O 72::O 73::O 74::O 75::O 76::O 77::O 78::O 79::O 80::O 81::O 82::O 83::O 84::O 85::O 86::O 87::O 88::O 89::O 90::O 91::O 92::O 93::O 94::O 95::O 96::O 97::O 98::O 99::O 100::O 101::O 102::O 103::O 104::O 105::O 106::O 107::O 108::O 109::O 110::O 111::O 112::O 113::O 114::O 115::O 116::O 117::O 118::O 119::O 120::O 121::O 122::O 123::O 124::O 125::O 126::O 127::O 128::O 129::O 130::O 131::O 132::O 133::O 134::O 135::O 136::O 137::O 138::O 139::O 140::O 141::O 142::O 143::O 144::O 145::O 146::O 147::O 148::O 149::O 150::O 151::O 152::O 153::O 154::O 155::O 156::O 157::O 158::O 159::O 160::O 161::O 162::O 163::O 164::O 165::O 166::O 167::O 168::O 169::O 170::O 171::O 172::O 173::O 174::O 175::O 176::O 177::O 178::O 179::O 180::O 181::O 182::O 183::O 184::O 185::O 186::O 187::O 188::O 189::O 190::O 191::O 192::O 193::O 194::O 195::O 196::O 197::O 198::O 199::O 200::O 201::O 202::O 203::O 204::O 205::O 206::O 207::O 208::O 209::O 210::O 211::O 212::O 213::O 214::O 215::O 216::O 217::O 218::[] : List Value)) ∧ St w0 [Row 39 (K.int .i8) v29 r28.1] w)) ?_ ?_
                ·
                 rintro t w ⟨H, hf, hs⟩
                 obtain ⟨O, rfl⟩ := hf.open
                 try dsimp only
                 unfold laws_FnLeast.j3 at H
                 refine g_seq ?_
                 refine g_seq ?_
                 refine g_join2 (J := (fun t w => laws_FnLeast.j4 N r28 r24 Q ∧ Fr t (fun O => (O 0::O 1::O 2::O 3::O 4::O 5::O 6::O 7::O 8::O 9::O 10::O 11::O 12::O 13::O 14::O 15::O 16::O 17::O 18::O 19::O 20::Value.int .i64 (i64w ((i64w (7 * r24)) - 900))::O 22::O 23::v29::O 25::O 26::O 27::O 28::O 29::O 30::O 31::O 32::O 33::O 34::O 35::O 36::O 37::O 38::O 39::O 40::O 41::O 42::O 43::O 44::O 45::O 46::O 47::O 48::O 49::O 50::O 51::O 52::O 53::O 54::O 55::O 56::O 57::O 58::O 59::O 60::O 61::O 62::O 63::O 64::O 65::O 66::O 67::O 68::O 69::O 70::O 71::O 72::O 73::O 74::O 75::O 76::O 77::O 78::O 79::O 80::O 81::O 82::O 83::O 84::O 85::O 86::O 87::O 88::O 89::O 90::O 91::O 92::O 93::O 94::O 95::O 96::O 97::O 98::O 99::O 100::O 101::O 102::O 103::O 104::O 105::O 106::O 107::O 108::O 109::O 110::O 111::O 112::O 113::O 114::O 115::O 116::O 117::O 118::O 119::O 120::O 121::O 122::O 123::O 124::O 125::O 126::O 127::O 128::O 129::O 130::O 131::O 132::O 133::O 134::O 135::O 136::O 137::O 138::O 139::O 140::O 141::O 142::O 143::O 144::O 145::O 146::O 147::O 148::O 149::O 150::O 151::O 152::O 153::O 154::O 155::O 156::O 157::O 158::O 159::O 160::O 161::O 162::O 163::O 164::O 165::O 166::O 167::O 168::O 169::O 170::O 171::O 172::O 173::O 174::O 175::O 176::O 177::O 178::O 179::O 180::O 181::O 182::O 183::O 184::O 185::O 186::O 187::O 188::O 189::O 190::O 191::O 192::O 193::O 194::O 195::O 196::O 197::O 198::O 199::O 200::O 201::O 202::O 203::O 204::O 205::O 206::O 207::O 208::O 209::O 210::O 211::O 212::O 213::O 214::O 215::O 216::O 217::O 218::[] : List Value)) ∧ St w0 [Row 39 (K.int .i8) v29 r28.1] w)) ?_ ?_
                 ·
                  rintro t w ⟨H, hf, hs⟩
                  obtain ⟨O, rfl⟩ := hf.open
                  try dsimp only
                  unfold laws_FnLeast.j4 at H
                  refine g_seq ?_
                  refine g_region ?_
                  show G _ _ _ (.inRegion _ [0, 1] :: _) _ _
                  refine s_lit0 (κ := (K.int .i8)) hs rfl rfl rfl rfl (fun _ => rfl) ?_
                  intro v36 w hs
                  refine g_d rfl ?_
                  try dsimp only [set0,setS]
                  refine g_op (v := v36) rfl rfl rfl ?_
                  refine g_d rfl ?_
                  try dsimp only [set0,setS]
                  refine g_ops_nil ?_
                  refine g_seq ?_
                  refine g_seq ?_
                  refine g_region ?_
                  show G _ _ _ (.inRegion _ [0] :: _) _ _
                  refine g_op (v := Value.int .i64 0) rfl rfl rfl ?_
                  refine g_d rfl ?_
                  try dsimp only [set0,setS]
                  refine g_ops_nil ?_
                  have Ho := H
                  refine g_block_join (J := fun t w => ∃ v47 : Value, ∃ x48 : (List Int), laws_FnLeast.a5 N r24 x48 Q ∧ Fr t (fun O => (O 0::O 1::O 2::O 3::O 4::O 5::O 6::O 7::O 8::O 9::O 10::O 11::O 12::O 13::O 14::O 15::O 16::O 17::O 18::O 19::O 20::Value.int .i64 (i64w ((i64w (7 * r24)) - 900))::O 22::O 23::O 24::O 25::O 26::O 27::v47::O 29::O 30::O 31::O 32::O 33::O 34::O 35::O 36::O 37::O 38::O 39::O 40::O 41::O 42::O 43::O 44::O 45::O 46::O 47::O 48::O 49::O 50::O 51::O 52::O 53::O 54::O 55::O 56::O 57::O 58::O 59::O 60::O 61::O 62::O 63::O 64::O 65::O 66::O 67::O 68::O 69::O 70::O 71::O 72::O 73::O 74::O 75::O 76::O 77::O 78::O 79::O 80::O 81::O 82::O 83::O 84::O 85::O 86::O 87::O 88::O 89::O 90::O 91::O 92::O 93::O 94::O 95::O 96::O 97::O 98::O 99::O 100::O 101::O 102::O 103::O 104::O 105::O 106::O 107::O 108::O 109::O 110::O 111::O 112::O 113::O 114::O 115::O 116::O 117::O 118::O 119::O 120::O 121::O 122::O 123::O 124::O 125::O 126::O 127::O 128::O 129::O 130::O 131::O 132::O 133::O 134::O 135::O 136::O 137::O 138::O 139::O 140::O 141::O 142::O 143::O 144::O 145::O 146::O 147::O 148::O 149::O 150::O 151::O 152::O 153::O 154::O 155::O 156::O 157::O 158::O 159::O 160::O 161::O 162::O 163::O 164::O 165::O 166::O 167::O 168::O 169::O 170::O 171::O 172::O 173::O 174::O 175::O 176::O 177::O 178::O 179::O 180::O 181::O 182::O 183::O 184::O 185::O 186::O 187::O 188::O 189::O 190::O 191::O 192::O 193::O 194::O 195::O 196::O 197::O 198::O 199::O 200::O 201::O 202::O 203::O 204::O 205::O 206::O 207::O 208::O 209::O 210::O 211::O 212::O 213::O 214::O 215::O 216::O 217::O 218::[] : List Value)) ∧ St w0 [Row 39 (K.int .i8) v47 x48] w) ?_ ?_
                  ·
                   rintro t w ⟨v47, x48, H, hf, hs⟩
                   obtain ⟨O, rfl⟩ := hf.open
                   try dsimp only
                   unfold laws_FnLeast.a5 at H
                   refine g_seq ?_
                   refine g_region ?_
                   show G _ _ _ (.inRegion _ [0, 1, 2, 3, 4, 5, 6, 7] :: _) _ _
                   refine g_op (v := Value.int .i64 (i64w ((i64w (7 * r24)) - 900))) rfl rfl rfl ?_
                   refine g_d rfl ?_
                   refine g_op (v := Value.int .i64 (i64w (0 - (i64w ((i64w (7 * r24)) - 900))))) rfl rfl rfl ?_
                   refine g_d rfl ?_
                   try dsimp only [set0,setS]
                   obtain ⟨r50, Hr50, H⟩ := H
                   refine s_call (args := [Value.int .i64 (i64w (0 - (i64w ((i64w (7 * r24)) - 900))))]) rfl rfl (x_call rfl (callFunc_enter Try.func12 rfl rfl) rfl) (impl_BalancedDigits.calls (a1 := i64w (0 - (i64w ((i64w (7 * r24)) - 900)))) Hr50) ?_
                   rintro _ w ⟨v51, rfl, hs2⟩
                   have hs : St _ [_,_] _ := hs.call hs2
                   refine g_d rfl ?_
                   try dsimp only [set0,setS]
                   refine g_op (v := Value.tuple #[v51, Value.int .i64 r50.2]) rfl rfl rfl ?_
                   refine g_d rfl ?_
                   refine g_op (v := v51) rfl rfl rfl ?_
                   refine g_d rfl ?_
                   refine g_op (v := Value.int .i64 r50.2) rfl rfl rfl ?_
                   refine g_d rfl ?_
                   refine g_op (v := v51) rfl rfl rfl ?_
                   refine g_d rfl ?_
                   try dsimp only [set0,setS]
                   refine g_op (v := Value.int .i64 r50.2) rfl rfl rfl ?_
                   refine g_d rfl ?_
                   try dsimp only [set0,setS]
                   refine g_ops_nil ?_
                   refine g_seq ?_
                   refine g_region ?_
                   show G _ _ _ (.inRegion _ [0, 1, 2, 3, 4, 5, 6, 7] :: _) _ _
                   refine g_op (v := Value.int .i64 r50.2) rfl rfl rfl ?_
                   refine g_d rfl ?_
                   refine g_op_b (B := r50.2 == 0) rfl rfl rfl ?_ ?_
                   ·
                    intro hb
                    rw [if_pos (b_beq_t hb)] at H
                    refine g_d rfl ?_
                    try dsimp only [set0,setS]
                    refine g_op (v := Value.bool true) rfl rfl rfl ?_
                    refine g_d rfl ?_
                    refine g_op (v := v51) rfl rfl rfl ?_
                    refine g_d rfl ?_
                    refine g_op (v := v47) rfl rfl rfl ?_
                    refine g_d rfl ?_
                    obtain ⟨r53, Hr53, H⟩ := H
                    refine s_call (args := [v51, v47]) rfl rfl (x_call rfl (callFunc_enter Try.func15 rfl rfl) rfl) (spec_A2Placed.calls (a1 := r50.1) (a3 := x48) (hs.row 0 rfl) (hs.row 1 rfl) Hr53) ?_
                    rintro _ w ⟨rfl, hs2⟩
                    have hs : St _ [_,_] _ := hs.call hs2
                    refine g_d rfl ?_
                    try dsimp only [set0,setS]
                    refine g_op (v := Value.bool r53) rfl rfl rfl ?_
                    refine g_d rfl ?_
                    try dsimp only [set0,setS]
                    refine g_op (v := Value.bool r53) rfl rfl rfl ?_
                    refine g_d rfl ?_
                    try dsimp only [set0,setS]
                    refine g_ops_nil ?_
                    refine g_ret Try.func3 (v := Value.bool r53) (res1 rfl rfl) ?_
                    have hs : St _ [] _ := St.take (Γ' := [_,_]) hs
                    exact ⟨_, rfl, _, H, rfl, hs⟩
                   ·
                    intro hb
                    rw [if_neg (b_beq_f hb)] at H
                    refine g_d rfl ?_
                    try dsimp only [set0,setS]
                    refine g_op (v := Value.bool false) rfl rfl rfl ?_
                    refine g_d rfl ?_
                    refine g_op_not rfl rfl ?_
                    refine g_d rfl ?_
                    refine g_op_not rfl rfl ?_
                    refine g_d rfl ?_
                    refine g_op_not rfl rfl ?_
                    refine g_d rfl ?_
                    try dsimp only [set0,setS]
                    refine g_op (v := Value.bool false) rfl rfl rfl ?_
                    refine g_d rfl ?_
                    try dsimp only [set0,setS]
                    refine g_op (v := Value.bool false) rfl rfl rfl ?_
                    refine g_d rfl ?_
                    try dsimp only [set0,setS]
                    refine g_ops_nil ?_
                    refine g_ret Try.func3 (v := Value.bool false) (res1 rfl rfl) ?_
                    have hs : St _ [] _ := St.take (Γ' := [_,_]) hs
                    exact ⟨_, rfl, _, H, rfl, hs⟩
                  ·
                   intro ha1_
                   have hs := hs.pull 0 rfl
                   have hs := hs.pull 1 rfl
                   have hs : St _ [_,_] _ := St.take (Γ' := []) hs
                   refine g_loop_fuel (I := fun n_ t w => ∃ v39 : Value, ∃ x40 : (List Int), ∃ x41 : Int, roundsD (fun s => laws_FnLeast.b5 N r28 s.1 s.2) n_ (x40, x41) (Ex.finD (fun s => laws_FnLeast.a5 N r24 s Q) Q) ∧ Fr t (fun O => (O 0::O 1::O 2::O 3::O 4::O 5::O 6::O 7::O 8::O 9::O 10::O 11::O 12::O 13::O 14::O 15::O 16::O 17::O 18::O 19::O 20::Value.int .i64 (i64w ((i64w (7 * r24)) - 900))::O 22::O 23::v29::O 25::O 26::O 27::v39::Value.int .i64 x41::O 30::O 31::O 32::O 33::O 34::O 35::O 36::O 37::O 38::O 39::O 40::O 41::O 42::O 43::O 44::O 45::O 46::O 47::O 48::O 49::O 50::O 51::O 52::O 53::O 54::O 55::O 56::O 57::O 58::O 59::O 60::O 61::O 62::O 63::O 64::O 65::O 66::O 67::O 68::O 69::O 70::O 71::O 72::O 73::O 74::O 75::O 76::O 77::O 78::O 79::O 80::O 81::O 82::O 83::O 84::O 85::O 86::O 87::O 88::O 89::O 90::O 91::O 92::O 93::O 94::O 95::O 96::O 97::O 98::O 99::O 100::O 101::O 102::O 103::O 104::O 105::O 106::O 107::O 108::O 109::O 110::O 111::O 112::O 113::O 114::O 115::O 116::O 117::O 118::O 119::O 120::O 121::O 122::O 123::O 124::O 125::O 126::O 127::O 128::O 129::O 130::O 131::O 132::O 133::O 134::O 135::O 136::O 137::O 138::O 139::O 140::O 141::O 142::O 143::O 144::O 145::O 146::O 147::O 148::O 149::O 150::O 151::O 152::O 153::O 154::O 155::O 156::O 157::O 158::O 159::O 160::O 161::O 162::O 163::O 164::O 165::O 166::O 167::O 168::O 169::O 170::O 171::O 172::O 173::O 174::O 175::O 176::O 177::O 178::O 179::O 180::O 181::O 182::O 183::O 184::O 185::O 186::O 187::O 188::O 189::O 190::O 191::O 192::O 193::O 194::O 195::O 196::O 197::O 198::O 199::O 200::O 201::O 202::O 203::O 204::O 205::O 206::O 207::O 208::O 209::O 210::O 211::O 212::O 213::O 214::O 215::O 216::O 217::O 218::[] : List Value)) ∧ St w0 [Row 39 (K.int .i8) v29 r28.1, Row 39 (K.int .i8) v39 x40] w) N ⟨v36, ([] : List Int), 0, Ho, rfl, hs⟩ ?_ ?_
                   ·
                    rintro _ _ ⟨v39, x40, x41, h, _⟩
                    exact (h : False).elim
                   ·
                    intro n_ ih1_
                    rintro t w ⟨v39, x40, x41, Ho, hf, hs⟩
                    obtain ⟨O, rfl⟩ := hf.open
                    try dsimp only
                    obtain ⟨x4_, hQ1_, H⟩ := roundsD_succ Ho
                    have H : laws_FnLeast.b5 N r28 x40 x41 x4_ := H
                    unfold laws_FnLeast.b5 at H
                    refine g_seq ?_
                    refine g_seq ?_
                    refine g_region ?_
                    show G _ _ _ (.inRegion _ [0, 1, 2, 3] :: _) _ _
                    refine g_op (v := Value.int .i64 x41) rfl rfl rfl ?_
                    refine g_d rfl ?_
                    refine g_op (v := v29) rfl rfl rfl ?_
                    refine g_d rfl ?_
                    refine s_len (hs.row 0 rfl) rfl rfl rfl rfl rfl ?_
                    refine g_d rfl ?_
                    try dsimp only [set0,setS]
                    refine g_op_b (B := decide (x41 < (r28.1.length : Int))) rfl rfl rfl ?_ ?_
                    ·
                     intro hb
                     rw [if_pos (b_dec_t hb)] at H
                     refine g_d rfl ?_
                     try dsimp only [set0,setS]
                     refine g_ops_nil ?_
                     refine g_cond_true rfl ?_
                     refine g_skip ?_
                     refine g_seq ?_
                     refine g_block ?_
                     refine g_region ?_
                     show G _ _ _ (.inRegion _ [0, 1, 2, 3, 4, 5, 6, 7, 8] :: _) _ _
                     refine g_op (v := v39) rfl rfl rfl ?_
                     refine g_d rfl ?_
                     refine g_op (v := v29) rfl rfl rfl ?_
                     refine g_d rfl ?_
                     refine g_op (v := Value.int .i64 x41) rfl rfl rfl ?_
                     refine g_d rfl ?_
                     obtain ⟨g3, H⟩ := ite_getD H
                     refine s_idx (fkI .i8) 0 (hs.row 0 rfl) rfl (fun _ => rfl) g3.1 g3.2 rfl rfl rfl rfl rfl ?_
                     intro p42 hp42 lp42 op42
                     refine g_d rfl ?_
                     try dsimp only [set0,setS]
                     refine s_load1 rfl rfl (v := Value.int .i8 (rdL r28.1 x41 0)) rfl rfl (fun _ => rfl) hp42 ?_
                     refine g_d rfl ?_
                     try dsimp only [set0,setS]
                     refine g_op (v := Value.int .i8 (i8w (0 - (rdL r28.1 x41 0)))) rfl rfl rfl ?_
                     refine g_d rfl ?_
                     try dsimp only [set0,setS]
                     refine s_lit1 (fkI .i8) (y := i8w (0 - (rdL r28.1 x41 0))) hs rfl rfl rfl rfl (fun _ => rfl) (zv := (Value.int .i8 0)) (fun _ => rfl) rfl (by decide) (by decide) rfl ?_
                     intro v43 w hs
                     refine g_d rfl ?_
                     try dsimp only [set0,setS]
                     have hs := hs.pull 2 rfl
                     have hs : St _ [_,_,_] _ := hs
                     obtain ⟨g, H⟩ := ite_getD H
                     refine s_append (fkI .i8) (zv := (Value.int .i8 0)) (B := 1) hs (hs.row 1 rfl) rfl rfl rfl rfl rfl rfl rfl rfl rfl (by decide) rfl rfl (by decide) (by omega) ?_
                     intro v45 w hs
                     refine g_d rfl ?_
                     try dsimp only [set0,setS]
                     refine g_op (v := v45) rfl rfl rfl ?_
                     refine g_d rfl ?_
                     try dsimp only [set0,setS]
                     refine g_ops_nil ?_
                     refine g_inBlock ?_
                     refine g_region ?_
                     show G _ _ _ (.inRegion _ [0, 1, 2] :: _) _ _
                     refine g_op (v := Value.int .i64 x41) rfl rfl rfl ?_
                     refine g_d rfl ?_
                     refine g_op (v := Value.int .i64 (i64w (x41 + 1))) rfl rfl rfl ?_
                     refine g_d rfl ?_
                     try dsimp only [set0,setS]
                     refine g_op (v := Value.int .i64 (i64w (x41 + 1))) rfl rfl rfl ?_
                     refine g_d rfl ?_
                     try dsimp only [set0,setS]
                     refine g_ops_nil ?_
                     have hs := hs.pull 0 rfl
                     have hs := hs.pull 2 rfl
                     have hs : St _ [_,_] _ := St.take (Γ' := [_]) hs
                     exact ih1_ _ _ ⟨v45, x40 ++ ([i8w (0 - (rdL r28.1 x41 0))]), i64w (x41 + 1), cast (congrFun hQ1_ _) H, rfl, hs⟩
                    ·
                     intro hb
                     rw [if_neg (b_dec_f hb)] at H
                     refine g_d rfl ?_
                     try dsimp only [set0,setS]
                     refine g_ops_nil ?_
                     refine g_cond_false rfl ?_
                     have hs := hs.pull 1 rfl
                     have hs : St _ [_] _ := St.take (Γ' := [_]) hs
                     refine g_exit rfl ?_
                     exact ha1_ _ _ ⟨v39, x40, cast (congrFun hQ1_ _) H, rfl, hs⟩
                 ·
                  intro ha
                  refine g_region ?_
                  show G _ _ _ (.inRegion _ [0, 1, 2, 3, 4, 5, 6, 7, 8, 9, 10, 11] :: _) _ _
                  refine g_op (v := v29) rfl rfl rfl ?_
                  refine g_d rfl ?_
                  refine s_len (hs.row 0 rfl) rfl rfl rfl rfl rfl ?_
                  refine g_d rfl ?_
                  try dsimp only [set0,setS]
                  refine g_op_b (B := decide ((r28.1.length : Int) > 0)) rfl rfl rfl ?_ ?_
                  ·
                   intro hb
                   rw [if_pos (b_dec_t hb)] at H
                   refine g_d rfl ?_
                   try dsimp only [set0,setS]
                   refine g_op (v := Value.bool true) rfl rfl rfl ?_
                   refine g_d rfl ?_
                   refine g_op (v := v29) rfl rfl rfl ?_
                   refine g_d rfl ?_
                   refine g_op (v := v29) rfl rfl rfl ?_
                   refine g_d rfl ?_
                   refine s_len (hs.row 0 rfl) rfl rfl rfl rfl rfl ?_
                   refine g_d rfl ?_
                   try dsimp only [set0,setS]
                   refine g_op (v := Value.int .i64 (i64w ((r28.1.length : Int) - 1))) rfl rfl rfl ?_
                   refine g_d rfl ?_
                   try dsimp only [set0,setS]
                   obtain ⟨g2, H⟩ := ite_getD H
                   refine s_idx (fkI .i8) 0 (hs.row 0 rfl) rfl (fun _ => rfl) g2.1 g2.2 rfl rfl rfl rfl rfl ?_
                   intro p34 hp34 lp34 op34
                   refine g_d rfl ?_
                   try dsimp only [set0,setS]
                   refine s_load1 rfl rfl (v := Value.int .i8 (rdL r28.1 (i64w ((r28.1.length : Int) - 1)) 0)) rfl rfl (fun _ => rfl) hp34 ?_
                   refine g_d rfl ?_
                   try dsimp only [set0,setS]
                   refine g_op_b (B := (rdL r28.1 (i64w ((r28.1.length : Int) - 1)) 0) == 0) rfl rfl rfl ?_ ?_
                   ·
                    intro hb
                    rw [if_pos (b_beq_t hb)] at H
                    refine g_d rfl ?_
                    try dsimp only [set0,setS]
                    refine g_op (v := Value.bool true) rfl rfl rfl ?_
                    refine g_d rfl ?_
                    try dsimp only [set0,setS]
                    refine g_ops_nil ?_
                    refine g_cond_true rfl ?_
                    refine g_seq ?_
                    refine g_region ?_
                    show G _ _ _ (.inRegion _ [0] :: _) _ _
                    refine g_op (v := Value.bool false) rfl rfl rfl ?_
                    refine g_d rfl ?_
                    try dsimp only [set0,setS]
                    refine g_ops_nil ?_
                    refine g_ret Try.func3 (v := Value.bool false) (res1 rfl rfl) ?_
                    have hs : St _ [] _ := St.take (Γ' := [_]) hs
                    exact ⟨_, rfl, _, H, rfl, hs⟩
                   ·
                    intro hb
                    rw [if_neg (b_beq_f hb)] at H
                    refine g_d rfl ?_
                    try dsimp only [set0,setS]
                    refine g_op (v := Value.bool false) rfl rfl rfl ?_
                    refine g_d rfl ?_
                    try dsimp only [set0,setS]
                    refine g_ops_nil ?_
                    refine g_cond_false rfl ?_
                    refine g_skip ?_
                    have hs := hs.pull 0 rfl
                    have hs : St _ [_] _ := St.take (Γ' := []) hs
                    exact ha _ _ ⟨H, rfl, hs⟩
                  ·
                   intro hb
                   rw [if_neg (b_dec_f hb)] at H
                   refine g_d rfl ?_
                   try dsimp only [set0,setS]
                   refine g_op (v := Value.bool false) rfl rfl rfl ?_
                   refine g_d rfl ?_
                   refine g_op_not rfl rfl ?_
                   refine g_d rfl ?_
                   refine g_op_not rfl rfl ?_
                   refine g_d rfl ?_
                   refine g_op_not rfl rfl ?_
                   refine g_d rfl ?_
                   try dsimp only [set0,setS]
                   refine g_op_not rfl rfl ?_
                   refine g_d rfl ?_
                   try dsimp only [set0,setS]
                   refine g_op_not rfl rfl ?_
                   refine g_d rfl ?_
                   try dsimp only [set0,setS]
                   refine g_op_not rfl rfl ?_
                   refine g_d rfl ?_
                   try dsimp only [set0,setS]
                   refine g_op_not rfl rfl ?_
                   refine g_d rfl ?_
                   try dsimp only [set0,setS]
                   refine g_op (v := Value.bool false) rfl rfl rfl ?_
                   refine g_d rfl ?_
                   try dsimp only [set0,setS]
                   refine g_ops_nil ?_
                   refine g_cond_false rfl ?_
                   refine g_skip ?_
                   have hs := hs.pull 0 rfl
                   have hs : St _ [_] _ := St.take (Γ' := []) hs
                   exact ha _ _ ⟨H, rfl, hs⟩
                ·
                 intro ha
                 refine g_region ?_
                 show G _ _ _ (.inRegion _ [0, 1, 2, 3, 4, 5, 6, 7, 8, 9, 10, 11, 12, 13, 14, 15, 16, 17, 18, 19, 20, 21, 22, 23, 24, 25, 26, 27, 28, 29, 30] :: _) _ _
                 refine g_op (v := Value.int .i64 r25.2) rfl rfl rfl ?_
                 refine g_d rfl ?_
                 refine g_op (v := Value.int .i64 r28.2) rfl rfl rfl ?_
                 refine g_d rfl ?_
                 refine g_op_b (B := r25.2 != r28.2) rfl rfl rfl ?_ ?_
                 ·
                  intro hb
                  rw [if_neg (b_bne_t hb)] at H
                  refine g_d rfl ?_
                  try dsimp only [set0,setS]
                  refine g_op (v := Value.bool true) rfl rfl rfl ?_
                  refine g_d rfl ?_
                  refine g_op_not rfl rfl ?_
                  refine g_d rfl ?_
                  refine g_op_not rfl rfl ?_
                  refine g_d rfl ?_
                  try dsimp only [set0,setS]
                  refine g_op (v := Value.bool true) rfl rfl rfl ?_
                  refine g_d rfl ?_
                  try dsimp only [set0,setS]
                  refine g_op (v := Value.bool true) rfl rfl rfl ?_
                  refine g_d rfl ?_
                  refine g_op_not rfl rfl ?_
                  refine g_d rfl ?_
                  refine g_op_not rfl rfl ?_
                  refine g_d rfl ?_
                  refine g_op_not rfl rfl ?_
                  refine g_d rfl ?_
                  try dsimp only [set0,setS]
                  refine g_op_not rfl rfl ?_
                  refine g_d rfl ?_
                  try dsimp only [set0,setS]
                  refine g_op (v := Value.bool true) rfl rfl rfl ?_
                  refine g_d rfl ?_
                  try dsimp only [set0,setS]
                  refine g_op (v := Value.bool true) rfl rfl rfl ?_
                  refine g_d rfl ?_
                  refine g_op_not rfl rfl ?_
                  refine g_d rfl ?_
                  refine g_op_not rfl rfl ?_
                  refine g_d rfl ?_
                  try dsimp only [set0,setS]
                  refine g_op (v := Value.bool true) rfl rfl rfl ?_
                  refine g_d rfl ?_
                  try dsimp only [set0,setS]
                  refine g_op (v := Value.bool true) rfl rfl rfl ?_
                  refine g_d rfl ?_
                  refine g_op_not rfl rfl ?_
                  refine g_d rfl ?_
                  refine g_op_not rfl rfl ?_
                  refine g_d rfl ?_
                  refine g_op_not rfl rfl ?_
                  refine g_d rfl ?_
                  try dsimp only [set0,setS]
                  refine g_op (v := Value.bool true) rfl rfl rfl ?_
                  refine g_d rfl ?_
                  try dsimp only [set0,setS]
                  refine g_op (v := Value.bool true) rfl rfl rfl ?_
                  refine g_d rfl ?_
                  refine g_op_not rfl rfl ?_
                  refine g_d rfl ?_
                  refine g_op_not rfl rfl ?_
                  refine g_d rfl ?_
                  try dsimp only [set0,setS]
                  refine g_op_not rfl rfl ?_
                  refine g_d rfl ?_
                  refine g_op_not rfl rfl ?_
                  refine g_d rfl ?_
                  refine g_op_not rfl rfl ?_
                  refine g_d rfl ?_
                  try dsimp only [set0,setS]
                  refine g_op_not rfl rfl ?_
                  refine g_d rfl ?_
                  try dsimp only [set0,setS]
                  refine g_op_not rfl rfl ?_
                  refine g_d rfl ?_
                  try dsimp only [set0,setS]
                  refine g_op (v := Value.bool true) rfl rfl rfl ?_
                  refine g_d rfl ?_
                  try dsimp only [set0,setS]
                  refine g_ops_nil ?_
                  refine g_cond_true rfl ?_
                  refine g_seq ?_
                  refine g_region ?_
                  show G _ _ _ (.inRegion _ [0] :: _) _ _
                  refine g_op (v := Value.bool false) rfl rfl rfl ?_
                  refine g_d rfl ?_
                  try dsimp only [set0,setS]
                  refine g_ops_nil ?_
                  refine g_ret Try.func3 (v := Value.bool false) (res1 rfl rfl) ?_
                  have hs : St _ [] _ := St.take (Γ' := [_,_]) hs
                  exact ⟨_, rfl, _, H, rfl, hs⟩
                 ·
                  intro hb
                  rw [if_pos (b_bne_f hb)] at H
                  refine g_d rfl ?_
                  try dsimp only [set0,setS]
                  refine g_op (v := Value.bool false) rfl rfl rfl ?_
                  refine g_d rfl ?_
                  refine g_op (v := Value.int .i64 r25.2) rfl rfl rfl ?_
                  refine g_d rfl ?_
                  refine g_op (v := Value.bool (r25.2 != 0)) rfl rfl rfl ?_
                  refine g_d rfl ?_
                  try dsimp only [set0,setS]
                  refine g_op_b (B := r25.2 != 0) rfl rfl rfl ?_ ?_
                  ·
                   intro hb
                   rw [if_neg (b_bne_t hb)] at H
                   refine g_d rfl ?_
                   try dsimp only [set0,setS]
                   refine g_op (v := Value.bool true) rfl rfl rfl ?_
                   refine g_d rfl ?_
                   refine g_op_not rfl rfl ?_
                   refine g_d rfl ?_
                   refine g_op_not rfl rfl ?_
                   refine g_d rfl ?_
                   refine g_op_not rfl rfl ?_
                   refine g_d rfl ?_
                   try dsimp only [set0,setS]
                   refine g_op_not rfl rfl ?_
                   refine g_d rfl ?_
                   try dsimp only [set0,setS]
                   refine g_op (v := Value.bool true) rfl rfl rfl ?_
                   refine g_d rfl ?_
                   try dsimp only [set0,setS]
                   refine g_op (v := Value.bool true) rfl rfl rfl ?_
                   refine g_d rfl ?_
                   refine g_op_not rfl rfl ?_
                   refine g_d rfl ?_
                   refine g_op_not rfl rfl ?_
                   refine g_d rfl ?_
                   try dsimp only [set0,setS]
                   refine g_op (v := Value.bool true) rfl rfl rfl ?_
                   refine g_d rfl ?_
                   try dsimp only [set0,setS]
                   refine g_op (v := Value.bool true) rfl rfl rfl ?_
                   refine g_d rfl ?_
                   refine g_op_not rfl rfl ?_
                   refine g_d rfl ?_
                   refine g_op_not rfl rfl ?_
                   refine g_d rfl ?_
                   refine g_op_not rfl rfl ?_
                   refine g_d rfl ?_
                   try dsimp only [set0,setS]
                   refine g_op (v := Value.bool true) rfl rfl rfl ?_
                   refine g_d rfl ?_
                   try dsimp only [set0,setS]
                   refine g_op (v := Value.bool true) rfl rfl rfl ?_
                   refine g_d rfl ?_
                   refine g_op_not rfl rfl ?_
                   refine g_d rfl ?_
                   refine g_op_not rfl rfl ?_
                   refine g_d rfl ?_
                   try dsimp only [set0,setS]
                   refine g_op_not rfl rfl ?_
                   refine g_d rfl ?_
                   refine g_op_not rfl rfl ?_
                   refine g_d rfl ?_
                   refine g_op_not rfl rfl ?_
                   refine g_d rfl ?_
                   try dsimp only [set0,setS]
                   refine g_op_not rfl rfl ?_
                   refine g_d rfl ?_
                   try dsimp only [set0,setS]
                   refine g_op_not rfl rfl ?_
                   refine g_d rfl ?_
                   try dsimp only [set0,setS]
                   refine g_op (v := Value.bool true) rfl rfl rfl ?_
                   refine g_d rfl ?_
                   try dsimp only [set0,setS]
                   refine g_ops_nil ?_
                   refine g_cond_true rfl ?_
                   refine g_seq ?_
                   refine g_region ?_
                   show G _ _ _ (.inRegion _ [0] :: _) _ _
                   refine g_op (v := Value.bool false) rfl rfl rfl ?_
                   refine g_d rfl ?_
                   try dsimp only [set0,setS]
                   refine g_ops_nil ?_
                   refine g_ret Try.func3 (v := Value.bool false) (res1 rfl rfl) ?_
                   have hs : St _ [] _ := St.take (Γ' := [_,_]) hs
                   exact ⟨_, rfl, _, H, rfl, hs⟩
                  ·
                   intro hb
                   rw [if_pos (b_bne_f hb)] at H
                   refine g_d rfl ?_
                   try dsimp only [set0,setS]
                   refine g_op (v := Value.bool false) rfl rfl rfl ?_
                   refine g_d rfl ?_
                   refine g_op (v := v26) rfl rfl rfl ?_
                   refine g_d rfl ?_
                   refine g_op (v := v29) rfl rfl rfl ?_
                   refine g_d rfl ?_
                   obtain ⟨r32, Hr32, H⟩ := H
                   refine s_call (args := [v26, v29]) rfl rfl (x_call rfl (callFunc_enter Try.func15 rfl rfl) rfl) (spec_A2Placed.calls (a1 := r25.1) (a3 := r28.1) (hs.row 1 rfl) (hs.row 0 rfl) Hr32) ?_
                   rintro _ w ⟨rfl, hs2⟩
                   have hs : St _ [_,_] _ := hs.call hs2
                   refine g_d rfl ?_
                   try dsimp only [set0,setS]
                   refine g_op (v := Value.bool (!r32)) rfl rfl rfl ?_
                   refine g_d rfl ?_
                   try dsimp only [set0,setS]
                   refine g_op_b (B := !r32) rfl rfl rfl ?_ ?_
                   ·
                    intro hb
                    rw [if_neg (b_not_t hb)] at H
                    refine g_d rfl ?_
                    try dsimp only [set0,setS]
                    refine g_op (v := Value.bool true) rfl rfl rfl ?_
                    refine g_d rfl ?_
                    refine g_op_not rfl rfl ?_
                    refine g_d rfl ?_
                    refine g_op_not rfl rfl ?_
                    refine g_d rfl ?_
                    try dsimp only [set0,setS]
                    refine g_op (v := Value.bool true) rfl rfl rfl ?_
                    refine g_d rfl ?_
                    try dsimp only [set0,setS]
                    refine g_op (v := Value.bool true) rfl rfl rfl ?_
                    refine g_d rfl ?_
                    refine g_op_not rfl rfl ?_
                    refine g_d rfl ?_
                    refine g_op_not rfl rfl ?_
                    refine g_d rfl ?_
                    refine g_op_not rfl rfl ?_
                    refine g_d rfl ?_
                    try dsimp only [set0,setS]
                    refine g_op (v := Value.bool true) rfl rfl rfl ?_
                    refine g_d rfl ?_
                    try dsimp only [set0,setS]
                    refine g_op (v := Value.bool true) rfl rfl rfl ?_
                    refine g_d rfl ?_
                    refine g_op_not rfl rfl ?_
                    refine g_d rfl ?_
                    refine g_op_not rfl rfl ?_
                    refine g_d rfl ?_
                    try dsimp only [set0,setS]
                    refine g_op_not rfl rfl ?_
                    refine g_d rfl ?_
                    refine g_op_not rfl rfl ?_
                    refine g_d rfl ?_
                    refine g_op_not rfl rfl ?_
                    refine g_d rfl ?_
                    try dsimp only [set0,setS]
                    refine g_op_not rfl rfl ?_
                    refine g_d rfl ?_
                    try dsimp only [set0,setS]
                    refine g_op_not rfl rfl ?_
                    refine g_d rfl ?_
                    try dsimp only [set0,setS]
                    refine g_op (v := Value.bool true) rfl rfl rfl ?_
                    refine g_d rfl ?_
                    try dsimp only [set0,setS]
                    refine g_ops_nil ?_
                    refine g_cond_true rfl ?_
                    refine g_seq ?_
                    refine g_region ?_
                    show G _ _ _ (.inRegion _ [0] :: _) _ _
                    refine g_op (v := Value.bool false) rfl rfl rfl ?_
                    refine g_d rfl ?_
                    try dsimp only [set0,setS]
                    refine g_ops_nil ?_
                    refine g_ret Try.func3 (v := Value.bool false) (res1 rfl rfl) ?_
                    have hs : St _ [] _ := St.take (Γ' := [_,_]) hs
                    exact ⟨_, rfl, _, H, rfl, hs⟩
                   ·
                    intro hb
                    rw [if_pos (b_not_f hb)] at H
                    refine g_d rfl ?_
                    try dsimp only [set0,setS]
                    refine g_op (v := Value.bool false) rfl rfl rfl ?_
                    refine g_d rfl ?_
                    refine g_op (v := Value.int .i64 r31.2) rfl rfl rfl ?_
                    refine g_d rfl ?_
                    refine g_op (v := Value.bool (r31.2 != 0)) rfl rfl rfl ?_
                    refine g_d rfl ?_
                    try dsimp only [set0,setS]
                    refine g_op_b (B := r31.2 != 0) rfl rfl rfl ?_ ?_
                    ·
                     intro hb
                     rw [if_neg (b_bne_t hb)] at H
                     refine g_d rfl ?_
                     try dsimp only [set0,setS]
                     refine g_op (v := Value.bool true) rfl rfl rfl ?_
                     refine g_d rfl ?_
                     refine g_op_not rfl rfl ?_
                     refine g_d rfl ?_
                     refine g_op_not rfl rfl ?_
                     refine g_d rfl ?_
                     refine g_op_not rfl rfl ?_
                     refine g_d rfl ?_
                     try dsimp only [set0,setS]
                     refine g_op (v := Value.bool true) rfl rfl rfl ?_
                     refine g_d rfl ?_
                     try dsimp only [set0,setS]
                     refine g_op (v := Value.bool true) rfl rfl rfl ?_
                     refine g_d rfl ?_
                     refine g_op_not rfl rfl ?_
                     refine g_d rfl ?_
                     refine g_op_not rfl rfl ?_
                     refine g_d rfl ?_
                     try dsimp only [set0,setS]
                     refine g_op_not rfl rfl ?_
                     refine g_d rfl ?_
                     refine g_op_not rfl rfl ?_
                     refine g_d rfl ?_
                     refine g_op_not rfl rfl ?_
                     refine g_d rfl ?_
                     try dsimp only [set0,setS]
                     refine g_op_not rfl rfl ?_
                     refine g_d rfl ?_
                     try dsimp only [set0,setS]
                     refine g_op_not rfl rfl ?_
                     refine g_d rfl ?_
                     try dsimp only [set0,setS]
                     refine g_op (v := Value.bool true) rfl rfl rfl ?_
                     refine g_d rfl ?_
                     try dsimp only [set0,setS]
                     refine g_ops_nil ?_
                     refine g_cond_true rfl ?_
                     refine g_seq ?_
                     refine g_region ?_
                     show G _ _ _ (.inRegion _ [0] :: _) _ _
                     refine g_op (v := Value.bool false) rfl rfl rfl ?_
                     refine g_d rfl ?_
                     try dsimp only [set0,setS]
                     refine g_ops_nil ?_
                     refine g_ret Try.func3 (v := Value.bool false) (res1 rfl rfl) ?_
                     have hs : St _ [] _ := St.take (Γ' := [_,_]) hs
                     exact ⟨_, rfl, _, H, rfl, hs⟩
                    ·
                     intro hb
                     rw [if_pos (b_bne_f hb)] at H
                     refine g_d rfl ?_
                     try dsimp only [set0,setS]
                     refine g_op (v := Value.bool false) rfl rfl rfl ?_
                     refine g_d rfl ?_
                     refine g_op (v := Value.int .i64 r31.1) rfl rfl rfl ?_
                     refine g_d rfl ?_
                     refine g_op (v := Value.int .i64 (i64w ((i64w (7 * r24)) - 900))) rfl rfl rfl ?_
                     refine g_d rfl ?_
                     refine g_op (v := Value.bool (r31.1 != (i64w ((i64w (7 * r24)) - 900)))) rfl rfl rfl ?_
                     refine g_d rfl ?_
                     try dsimp only [set0,setS]
                     refine g_op_b (B := r31.1 != (i64w ((i64w (7 * r24)) - 900))) rfl rfl rfl ?_ ?_
                     ·
                      intro hb
                      rw [if_neg (b_bne_t hb)] at H
                      refine g_d rfl ?_
                      try dsimp only [set0,setS]
                      refine g_op (v := Value.bool true) rfl rfl rfl ?_
                      refine g_d rfl ?_
                      refine g_op_not rfl rfl ?_
                      refine g_d rfl ?_
                      refine g_op_not rfl rfl ?_
                      refine g_d rfl ?_
                      try dsimp only [set0,setS]
                      refine g_op_not rfl rfl ?_
                      refine g_d rfl ?_
                      refine g_op_not rfl rfl ?_
                      refine g_d rfl ?_
                      refine g_op_not rfl rfl ?_
                      refine g_d rfl ?_
                      try dsimp only [set0,setS]
                      refine g_op_not rfl rfl ?_
                      refine g_d rfl ?_
                      try dsimp only [set0,setS]
                      refine g_op_not rfl rfl ?_
                      refine g_d rfl ?_
                      try dsimp only [set0,setS]
                      refine g_op (v := Value.bool true) rfl rfl rfl ?_
                      refine g_d rfl ?_
                      try dsimp only [set0,setS]
                      refine g_ops_nil ?_
                      refine g_cond_true rfl ?_
                      refine g_seq ?_
                      refine g_region ?_
                      show G _ _ _ (.inRegion _ [0] :: _) _ _
                      refine g_op (v := Value.bool false) rfl rfl rfl ?_
                      refine g_d rfl ?_
                      try dsimp only [set0,setS]
                      refine g_ops_nil ?_
                      refine g_ret Try.func3 (v := Value.bool false) (res1 rfl rfl) ?_
                      have hs : St _ [] _ := St.take (Γ' := [_,_]) hs
                      exact ⟨_, rfl, _, H, rfl, hs⟩
                     ·
                      intro hb
                      rw [if_pos (b_bne_f hb)] at H
                      refine g_d rfl ?_
                      try dsimp only [set0,setS]
                      refine g_op (v := Value.bool false) rfl rfl rfl ?_
                      refine g_d rfl ?_
                      refine g_op (v := Value.int .i64 (i64w ((i64w (7 * r24)) - 900))) rfl rfl rfl ?_
                      refine g_d rfl ?_
                      refine g_op_b (B := (i64w ((i64w (7 * r24)) - 900)) == 0) rfl rfl rfl ?_ ?_
                      ·
                       intro hb
                       rw [if_pos (b_beq_t hb)] at H
                       refine g_d rfl ?_
                       try dsimp only [set0,setS]
                       refine g_op (v := Value.bool true) rfl rfl rfl ?_
                       refine g_d rfl ?_
                       refine g_op (v := v29) rfl rfl rfl ?_
                       refine g_d rfl ?_
                       refine s_len (hs.row 0 rfl) rfl rfl rfl rfl rfl ?_
                       refine g_d rfl ?_
                       try dsimp only [set0,setS]
                       refine g_op (v := Value.bool ((r28.1.length : Int) != 0)) rfl rfl rfl ?_
                       refine g_d rfl ?_
                       try dsimp only [set0,setS]
                       refine g_op_b (B := (r28.1.length : Int) != 0) rfl rfl rfl ?_ ?_
                       ·
                        intro hb
                        rw [if_neg (b_bne_t hb)] at H
                        refine g_d rfl ?_
                        try dsimp only [set0,setS]
                        refine g_op (v := Value.bool true) rfl rfl rfl ?_
                        refine g_d rfl ?_
                        try dsimp only [set0,setS]
                        refine g_ops_nil ?_
                        refine g_cond_true rfl ?_
                        refine g_seq ?_
                        refine g_region ?_
                        show G _ _ _ (.inRegion _ [0] :: _) _ _
                        refine g_op (v := Value.bool false) rfl rfl rfl ?_
                        refine g_d rfl ?_
                        try dsimp only [set0,setS]
                        refine g_ops_nil ?_
                        refine g_ret Try.func3 (v := Value.bool false) (res1 rfl rfl) ?_
                        have hs : St _ [] _ := St.take (Γ' := [_,_]) hs
                        exact ⟨_, rfl, _, H, rfl, hs⟩
                       ·
                        intro hb
                        rw [if_pos (b_bne_f hb)] at H
                        refine g_d rfl ?_
                        try dsimp only [set0,setS]
                        refine g_op (v := Value.bool false) rfl rfl rfl ?_
                        refine g_d rfl ?_
                        try dsimp only [set0,setS]
                        refine g_ops_nil ?_
                        refine g_cond_false rfl ?_
                        refine g_skip ?_
                        have hs := hs.pull 0 rfl
                        have hs : St _ [_] _ := St.take (Γ' := [_]) hs
                        exact ha _ _ ⟨H, rfl, hs⟩
                      ·
                       intro hb
                       rw [if_neg (b_beq_f hb)] at H
                       refine g_d rfl ?_
                       try dsimp only [set0,setS]
                       refine g_op (v := Value.bool false) rfl rfl rfl ?_
                       refine g_d rfl ?_
                       refine g_op_not rfl rfl ?_
                       refine g_d rfl ?_
                       refine g_op_not rfl rfl ?_
                       refine g_d rfl ?_
                       try dsimp only [set0,setS]
                       refine g_op_not rfl rfl ?_
                       refine g_d rfl ?_
                       try dsimp only [set0,setS]
                       refine g_op (v := Value.bool false) rfl rfl rfl ?_
                       refine g_d rfl ?_
                       try dsimp only [set0,setS]
                       refine g_op (v := Value.bool false) rfl rfl rfl ?_
                       refine g_d rfl ?_
                       try dsimp only [set0,setS]
                       refine g_ops_nil ?_
                       refine g_cond_false rfl ?_
                       refine g_skip ?_
                       have hs := hs.pull 0 rfl
                       have hs : St _ [_] _ := St.take (Γ' := [_]) hs
                       exact ha _ _ ⟨H, rfl, hs⟩
             ·
              intro ha1_
              have hs := hs.pull 0 rfl
              have hs : St _ [_] _ := St.take (Γ' := []) hs
              refine g_loop_fuel (I := fun n_ t w => ∃ x21 : Int, ∃ x22 : Int, roundsD (fun s => laws_FnLeast.b1 N r11 x19 s.1 s.2) n_ (x21, x22) (Ex.finD (fun s => laws_FnLeast.a1 N x20 x19 a1 s Q) Q) ∧ Fr t (fun O => (v2::O 1::O 2::O 3::O 4::O 5::O 6::O 7::O 8::v12::O 10::O 11::O 12::O 13::O 14::O 15::O 16::Value.int .i64 x19::Value.int .i64 x20::Value.int .i64 x21::Value.int .i64 x22::O 21::O 22::O 23::O 24::O 25::O 26::O 27::O 28::O 29::O 30::O 31::O 32::O 33::O 34::O 35::O 36::O 37::O 38::O 39::O 40::O 41::O 42::O 43::O 44::O 45::O 46::O 47::O 48::O 49::O 50::O 51::O 52::O 53::O 54::O 55::O 56::O 57::O 58::O 59::O 60::O 61::O 62::O 63::O 64::O 65::O 66::O 67::O 68::O 69::O 70::O 71::O 72::O 73::O 74::O 75::O 76::O 77::O 78::O 79::O 80::O 81::O 82::O 83::O 84::O 85::O 86::O 87::O 88::O 89::O 90::O 91::O 92::O 93::O 94::O 95::O 96::O 97::O 98::O 99::O 100::O 101::O 102::O 103::O 104::O 105::O 106::O 107::O 108::O 109::O 110::O 111::O 112::O 113::O 114::O 115::O 116::O 117::O 118::O 119::O 120::O 121::O 122::O 123::O 124::O 125::O 126::O 127::O 128::O 129::O 130::O 131::O 132::O 133::O 134::O 135::O 136::O 137::O 138::O 139::O 140::O 141::O 142::O 143::O 144::O 145::O 146::O 147::O 148::O 149::O 150::O 151::O 152::O 153::O 154::O 155::O 156::O 157::O 158::O 159::O 160::O 161::O 162::O 163::O 164::O 165::O 166::O 167::O 168::O 169::O 170::O 171::O 172::O 173::O 174::O 175::O 176::O 177::O 178::O 179::O 180::O 181::O 182::O 183::O 184::O 185::O 186::O 187::O 188::O 189::O 190::O 191::O 192::O 193::O 194::O 195::O 196::O 197::O 198::O 199::O 200::O 201::O 202::O 203::O 204::O 205::O 206::O 207::O 208::O 209::O 210::O 211::O 212::O 213::O 214::O 215::O 216::O 217::O 218::[] : List Value)) ∧ St w0 [Row 41 (K.int .i16) v12 r11.1] w) N ⟨1, 0, Ho, rfl, hs⟩ ?_ ?_
              ·
               rintro _ _ ⟨x21, x22, h, _⟩
               exact (h : False).elim
              ·
               intro n_ ih1_
               rintro t w ⟨x21, x22, Ho, hf, hs⟩
               obtain ⟨O, rfl⟩ := hf.open
               try dsimp only
               obtain ⟨x5_, hQ1_, H⟩ := roundsD_succ Ho
               have H : laws_FnLeast.b1 N r11 x19 x21 x22 x5_ := H
               unfold laws_FnLeast.b1 at H
               refine g_seq ?_
               refine g_seq ?_
               refine g_region ?_
               show G _ _ _ (.inRegion _ [0, 1, 2, 3] :: _) _ _
               refine g_op (v := Value.int .i64 x22) rfl rfl rfl ?_
               refine g_d rfl ?_
               refine g_op (v := v12) rfl rfl rfl ?_
               refine g_d rfl ?_
               refine s_len (hs.row 0 rfl) rfl rfl rfl rfl rfl ?_
               refine g_d rfl ?_
               try dsimp only [set0,setS]
               refine g_op_b (B := decide (x22 < (r11.1.length : Int))) rfl rfl rfl ?_ ?_
               ·
                intro hb
                rw [if_pos (b_dec_t hb)] at H
                refine g_d rfl ?_
                try dsimp only [set0,setS]
                refine g_ops_nil ?_
                refine g_cond_true rfl ?_
                refine g_skip ?_
                refine g_seq ?_
                refine g_block ?_
                refine g_region ?_
                show G _ _ _ (.inRegion _ [0, 1, 2, 3] :: _) _ _
                refine g_op (v := Value.int .i64 x21) rfl rfl rfl ?_
                refine g_d rfl ?_
                refine g_op (v := Value.int .i64 x19) rfl rfl rfl ?_
                refine g_d rfl ?_
                refine g_op (v := Value.int .i64 (i64w (x21 * x19))) rfl rfl rfl ?_
                refine g_d rfl ?_
                try dsimp only [set0,setS]
                refine g_op (v := Value.int .i64 (i64w (x21 * x19))) rfl rfl rfl ?_
                refine g_d rfl ?_
                try dsimp only [set0,setS]
                refine g_ops_nil ?_
                refine g_inBlock ?_
                refine g_region ?_
                show G _ _ _ (.inRegion _ [0, 1, 2] :: _) _ _
                refine g_op (v := Value.int .i64 x22) rfl rfl rfl ?_
                refine g_d rfl ?_
                refine g_op (v := Value.int .i64 (i64w (x22 + 1))) rfl rfl rfl ?_
                refine g_d rfl ?_
                try dsimp only [set0,setS]
                refine g_op (v := Value.int .i64 (i64w (x22 + 1))) rfl rfl rfl ?_
                refine g_d rfl ?_
                try dsimp only [set0,setS]
                refine g_ops_nil ?_
                have hs := hs.pull 0 rfl
                have hs : St _ [_] _ := St.take (Γ' := []) hs
                exact ih1_ _ _ ⟨i64w (x21 * x19), i64w (x22 + 1), cast (congrFun hQ1_ _) H, rfl, hs⟩
               ·
                intro hb
                rw [if_neg (b_dec_f hb)] at H
                refine g_d rfl ?_
                try dsimp only [set0,setS]
                refine g_ops_nil ?_
                refine g_cond_false rfl ?_
                have hs : St _ [] _ := St.take (Γ' := [_]) hs
                refine g_exit rfl ?_
                exact ha1_ _ _ ⟨x21, cast (congrFun hQ1_ _) H, rfl, hs⟩
            ·
             intro ha
             refine g_region ?_
             show G _ _ _ (.inRegion _ [0] :: _) _ _
             refine g_op_b (B := r7 == 1) rfl rfl rfl ?_ ?_
             ·
              intro hb
              rw [if_pos (b_beq_t hb)] at H
              refine g_d rfl ?_
              refine g_ops_nil ?_
              refine g_cond_true rfl ?_
              refine g_seq ?_
              refine g_region ?_
              show G _ _ _ (.inRegion _ [0] :: _) _ _
              refine g_op (v := Value.int .i64 3) rfl rfl rfl ?_
              refine g_d rfl ?_
              try dsimp only [set0,setS]
              refine g_ops_nil ?_
              refine g_region ?_
              show G _ _ _ (.inRegion _ [0, 1, 2] :: _) _ _
              refine g_op (v := Value.int .i64 (i64w (1 + r6))) rfl rfl rfl ?_
              refine g_d rfl ?_
              refine g_op (v := Value.int .i64 (i64w (2 * (i64w (1 + r6))))) rfl rfl rfl ?_
              refine g_d rfl ?_
              try dsimp only [set0,setS]
              refine g_op (v := Value.int .i64 (i64w (2 * (i64w (1 + r6))))) rfl rfl rfl ?_
              refine g_d rfl ?_
              try dsimp only [set0,setS]
              refine g_ops_nil ?_
              have hs := hs.pull 0 rfl
              have hs : St _ [_] _ := St.take (Γ' := [_]) hs
              exact ha _ _ ⟨3, i64w (2 * (i64w (1 + r6))), H, rfl, hs⟩
             ·
              intro hb
              rw [if_neg (b_beq_f hb)] at H
              refine g_d rfl ?_
              refine g_ops_nil ?_
              refine g_cond_false rfl ?_
              refine g_skip ?_
              have hs := hs.pull 0 rfl
              have hs : St _ [_] _ := St.take (Γ' := [_]) hs
              exact ha _ _ ⟨2, i64w (1 + r6), H, rfl, hs⟩

end Go.Proofs.YtjagkhjbbdfkaaaX
