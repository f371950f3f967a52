/- Contracts, printed by gen.py. -/
import Derived.Test.YtfnfoecocicigaaXT
import Derived.Test.YtfnfoecocicigaaProg
import Derived.Test.YtfnfoecocicigaaXRowR
import Derived.Test.YtfnfoecocicigaaXSeg
import Derived.Test.YtfnfoecocicigaaXKey
import Derived.Test.YtfnfoecocicigaaXC0
import Derived.Test.YtfnfoecocicigaaXC1
import Derived.Test.YtfnfoecocicigaaXC2
import Derived.Test.YtfnfoecocicigaaXC5
import Derived.Test.YtfnfoecocicigaaXC7
import Derived.Test.YtfnfoecocicigaaXC8
import Derived.Test.YtfnfoecocicigaaXC15
import Derived.Test.YtfnfoecocicigaaXC16
namespace Go.Proofs.YtfnfoecocicigaaX
open Go Go.RowKit Go.Proofs
set_option linter.unusedVariables false
set_option linter.unusedSimpArgs false
/- function 3 laws_FnWeighed -/
set_option maxHeartbeats 8000000 in
set_option maxRecDepth 100000 in
theorem laws_FnWeighed.calls {N : Nat} {a1 : (List Int)} {a3 : (List Int)} {v2 : Value} {v4 : Value} {w0 : World} {r : Bool} (hr0 : RdRow (K.int .u8) w0 v2 a1) (hr1 : RdRow (K.int .u8) w0 v4 a3) (H : laws_FnWeighed.f N a1 a3 = some r) :
    Calls Try.prog 3 #[v2, v4] w0 fun e w => ∃ v, e = .returned v ∧ laws_FnWeighed.post w0 r v w := by
  unfold laws_FnWeighed.f at H
  have hs : St w0 [] w0 := St.refl w0
  refine calls_of_g (n := 363) Try.func3 rfl rfl ?_
  show G _ _ _ _ (_::_::_::_::_::_::_::_::_::_::_::_::_::_::_::_::_::_::_::_::_::_::_::_::_::_::_::_::_::_::_::_::_::_::_::_::_::_::_::_::_::_::_::_::_::_::_::_::_::_::_::_::_::_::_::_::_::_::_::_::_::_::_::_::_::_::_::_::_::_::_::_::_::_::_::_::_::_::_::_::_::_::_::_::_::_::_::_::_::_::_::_::_::_::_::_::_::_::_::_::_::_::_::_::_::_::_::_::_::_::_::_::_::_::_::_::_::_::_::_::_::_::_::_::_::_::_::_::_::_::_::_::_::_::_::_::_::_::_::_::_::_::_::_::_::_::_::_::_::_::_::_::_::_::_::_::_::_::_::_::_::_::_::_::_::_::_::_::_::_::_::_::_::_::_::_::_::_::_::_::_::_::_::_::_::_::_::_::_::_::_::_::_::_::_::_::_::_::_::_::_::_::_::_::_::_::_::_::_::_::_::_::_::_::_::_::_::_::_::_::_::_::_::_::_::_::_::_::_::_::_::_::_::_::_::_::_::_::_::_::_::_::_::_::_::_::_::_::_::_::_::_::_::_::_::_::_::_::_::_::_::_::_::_::_::_::_::_::_::_::_::_::_::_::_::_::_::_::_::_::_::_::_::_::_::_::_::_::_::_::_::_::_::_::_::_::_::_::_::_::_::_::_::_::_::_::_::_::_::_::_::_::_::_::_::_::_::_::_::_::_::_::_::_::_::_::_::_::_::_::_::_::_::_::_::_::_::_::_::_::_::_::_::_::_::_::_::_::_::_::_::_::_::_::_::_::_::_::_::_::_::_::_::_::_::[]) _
  refine g_seq ?_
  refine g_region ?_
  show G _ _ _ (.inRegion _ [0] :: _) _ _
  refine g_op (v := Value.bool false) rfl rfl rfl ?_
  refine g_d rfl ?_
  try dsimp only [set0,setS]
  refine g_ops_nil ?_
  refine g_seq ?_
  refine g_seq ?_
  refine g_region ?_
  show G _ _ _ (.inRegion _ [0, 1, 2, 3, 4, 5] :: _) _ _
  refine g_op (v := v2) rfl rfl rfl ?_
  refine g_d rfl ?_
  obtain ⟨r5, Hr5, H⟩ := bind_get H
  refine s_call (args := [v2]) rfl rfl (x_call rfl (callFunc_enter Try.func4 rfl rfl) rfl) (laws_f6big.calls (a1 := a1) (hs.rd hr0) Hr5) ?_
  rintro _ w ⟨rfl, hs2⟩
  have hs : St _ [] _ := hs.call hs2
  cases r5 with
  | true =>
    rw [if_pos rfl] at H
    refine g_d rfl ?_
    try dsimp only [set0,setS]
    refine g_op (v := Value.bool true) rfl rfl rfl ?_
    refine g_d rfl ?_
    refine g_op_not rfl rfl ?_
    refine g_d rfl ?_
    refine g_op_not rfl rfl ?_
    refine g_d rfl ?_
    try dsimp only [set0,setS]
    refine g_op (v := Value.bool true) rfl rfl rfl ?_
    refine g_d rfl ?_
    try dsimp only [set0,setS]
    refine g_ops_nil ?_
    refine g_cond_true rfl ?_
    refine g_seq ?_
    refine g_region ?_
    show G _ _ _ (.inRegion _ [0] :: _) _ _
    refine g_op (v := Value.bool true) rfl rfl rfl ?_
    refine g_d rfl ?_
    try dsimp only [set0,setS]
    refine g_ops_nil ?_
    obtain rfl := Option.some.inj H
    refine g_ret Try.func3 (v := Value.bool true) (res1 rfl rfl) ?_
    have hs : St _ [] _ := St.take (Γ' := []) hs
    exact ⟨_, rfl, rfl, hs⟩
  | false =>
    rw [if_neg Bool.false_ne_true] at H
    refine g_d rfl ?_
    try dsimp only [set0,setS]
    refine g_op (v := Value.bool false) rfl rfl rfl ?_
    refine g_d rfl ?_
    refine g_op (v := v4) rfl rfl rfl ?_
    refine g_d rfl ?_
    obtain ⟨r6, Hr6, H⟩ := bind_get H
    refine s_call (args := [v4]) rfl rfl (x_call rfl (callFunc_enter Try.func4 rfl rfl) rfl) (laws_f6big.calls (a1 := a3) (hs.rd hr1) Hr6) ?_
    rintro _ w ⟨rfl, hs2⟩
    have hs : St _ [] _ := hs.call hs2
    cases r6 with
    | true =>
      rw [if_pos rfl] at H
      refine g_d rfl ?_
      try dsimp only [set0,setS]
      refine g_op (v := Value.bool true) rfl rfl rfl ?_
      refine g_d rfl ?_
      try dsimp only [set0,setS]
      refine g_ops_nil ?_
      refine g_cond_true rfl ?_
      refine g_seq ?_
      refine g_region ?_
      show G _ _ _ (.inRegion _ [0] :: _) _ _
      refine g_op (v := Value.bool true) rfl rfl rfl ?_
      refine g_d rfl ?_
      try dsimp only [set0,setS]
      refine g_ops_nil ?_
      obtain rfl := Option.some.inj H
      refine g_ret Try.func3 (v := Value.bool true) (res1 rfl rfl) ?_
      have hs : St _ [] _ := St.take (Γ' := []) hs
      exact ⟨_, rfl, rfl, hs⟩
    | false =>
      rw [if_neg Bool.false_ne_true] at H
      refine g_d rfl ?_
      try dsimp only [set0,setS]
      refine g_op (v := Value.bool false) rfl rfl rfl ?_
      refine g_d rfl ?_
      try dsimp only [set0,setS]
      refine g_ops_nil ?_
      refine g_cond_false rfl ?_
      refine g_skip ?_
      refine g_seq ?_
      refine g_region ?_
      show G _ _ _ (.inRegion _ [0, 1, 2, 3, 4, 5, 6, 7] :: _) _ _
      refine g_op (v := v2) rfl rfl rfl ?_
      refine g_d rfl ?_
      obtain ⟨r7, Hr7, H⟩ := bind_get H
      refine s_call (args := [v2]) rfl rfl (x_call rfl (callFunc_enter Try.func5 rfl rfl) rfl) (spec_P6State.calls (a1 := a1) (hs.rd hr0) Hr7) ?_
      rintro _ w ⟨rfl, hs2⟩
      have hs : St _ [] _ := hs.call hs2
      refine g_d rfl ?_
      try dsimp only [set0,setS]
      refine g_op (v := Value.tuple #[Value.int .i64 r7.1, Value.agg ((encA (encI .i64)) r7.2).toArray]) rfl rfl rfl ?_
      refine g_d rfl ?_
      refine g_op (v := Value.int .i64 r7.1) rfl rfl rfl ?_
      refine g_d rfl ?_
      refine g_op (v := Value.agg ((encA (encI .i64)) r7.2).toArray) rfl rfl rfl ?_
      refine g_d rfl ?_
      refine s_alloc hs rfl rfl (z := (Value.agg #[Value.int .i64 0, Value.int .i64 0, Value.int .i64 0, Value.int .i64 0])) (cs := ((encA (encI .i64)) (Ar.rep 4 0))) rfl (fun _ => rfl) rfl ?_
      intro b8 w hs
      refine g_d rfl ?_
      try dsimp only [set0,setS]
      refine g_op (v := Value.int .i64 r7.1) rfl rfl rfl ?_
      refine g_d rfl ?_
      try dsimp only [set0,setS]
      refine s_storeAll (n := 4) hs ((fkA (n := 4) (he := (fkI .i64).len) (h1 := (fkI .i64).one)).len _) rfl rfl (vs := ((encA (encI .i64)) r7.2)) rfl rfl rfl (fun _ => rfl) ((fkA (n := 4) (he := (fkI .i64).len) (h1 := (fkI .i64).one)).len _) ((fkA (n := 4) (he := (fkI .i64).len) (h1 := (fkI .i64).one)).one _) ?_
      intro w hs
      refine g_n rfl ?_
      refine g_ops_nil ?_
      refine g_seq ?_
      refine g_region ?_
      show G _ _ _ (.inRegion _ [0, 1, 2, 3, 4] :: _) _ _
      refine g_op (v := v4) rfl rfl rfl ?_
      refine g_d rfl ?_
      refine s_loadA rfl rfl (es := ((encA (encI .i64)) r7.2)) rfl rfl (fun _ => rfl) (n := 4) (fun _ => rfl) ((fkA (n := 4) (he := (fkI .i64).len) (h1 := (fkI .i64).one)).len _) (cells_all (hs.cells 0 rfl)) ?_
      refine g_d rfl ?_
      try dsimp only [set0,setS]
      obtain ⟨r10, Hr10, H⟩ := bind_get H
      refine s_call (args := [v4, Value.agg ((encA (encI .i64)) r7.2).toArray]) rfl rfl (x_call rfl (callFunc_enter Try.func6 rfl rfl) rfl) (spec_P6Within.calls (a1 := a3) (a3 := r7.2) (hs.rd hr1) Hr10) ?_
      rintro _ w ⟨rfl, hs2⟩
      have hs : St _ [_] _ := hs.call hs2
      refine g_d rfl ?_
      try dsimp only [set0,setS]
      refine s_alloc hs rfl rfl (z := (Value.agg #[Value.int .i64 0, Value.int .i64 0, Value.int .i64 0, Value.int .i64 0])) (cs := ((encA (encI .i64)) (Ar.rep 4 0))) rfl (fun _ => rfl) rfl ?_
      intro b11 w hs
      refine g_d rfl ?_
      try dsimp only [set0,setS]
      refine s_storeAll (n := 4) hs ((fkA (n := 4) (he := (fkI .i64).len) (h1 := (fkI .i64).one)).len _) rfl rfl (vs := ((encA (encI .i64)) r10)) rfl rfl rfl (fun _ => rfl) ((fkA (n := 4) (he := (fkI .i64).len) (h1 := (fkI .i64).one)).len _) ((fkA (n := 4) (he := (fkI .i64).len) (h1 := (fkI .i64).one)).one _) ?_
      intro w hs
      refine g_n rfl ?_
      refine g_ops_nil ?_
      refine g_seq ?_
      refine g_region ?_
      show G _ _ _ (.inRegion _ [0, 1, 2, 3] :: _) _ _
      refine g_op (v := v4) rfl rfl rfl ?_
      refine g_d rfl ?_
      obtain ⟨r13, Hr13, H⟩ := bind_get H
      refine s_call (args := [v4, Value.int .i64 30]) rfl rfl (x_call rfl (callFunc_enter Try.func7 rfl rfl) rfl) (spec_P6Pick.calls (a1 := a3) (a3 := 30) (hs.rd hr1) Hr13) ?_
      rintro _ w ⟨rfl, hs2⟩
      have hs : St _ [_,_] _ := hs.call hs2
      refine g_d rfl ?_
      try dsimp only [set0,setS]
      refine g_op (v := Value.int .i64 (i64w (1 + r13))) rfl rfl rfl ?_
      refine g_d rfl ?_
      try dsimp only [set0,setS]
      refine g_op (v := Value.int .i64 (i64w (1 + r13))) rfl rfl rfl ?_
      refine g_d rfl ?_
      try dsimp only [set0,setS]
      refine g_ops_nil ?_
      refine g_seq ?_
      refine g_region ?_
      show G _ _ _ (.inRegion _ [0, 1, 2, 3, 4, 5, 6, 7, 8, 9, 10, 11, 12] :: _) _ _
      refine g_op (v := Value.int .i64 r7.1) rfl rfl rfl ?_
      refine g_d rfl ?_
      refine s_loadA rfl rfl (es := ((encA (encI .i64)) r7.2)) rfl rfl (fun _ => rfl) (n := 4) (fun _ => rfl) ((fkA (n := 4) (he := (fkI .i64).len) (h1 := (fkI .i64).one)).len _) (cells_all (hs.cells 1 rfl)) ?_
      refine g_d rfl ?_
      try dsimp only [set0,setS]
      refine s_loadA rfl rfl (es := ((encA (encI .i64)) r10)) rfl rfl (fun _ => rfl) (n := 4) (fun _ => rfl) ((fkA (n := 4) (he := (fkI .i64).len) (h1 := (fkI .i64).one)).len _) (cells_all (hs.cells 0 rfl)) ?_
      refine g_d rfl ?_
      try dsimp only [set0,setS]
      obtain ⟨r14, Hr14, H⟩ := bind_get H
      refine s_call (args := [Value.int .i64 r7.1, Value.agg ((encA (encI .i64)) r7.2).toArray, Value.agg ((encA (encI .i64)) r10).toArray]) rfl rfl (x_call rfl (callFunc_enter Try.func8 rfl rfl) rfl) (impl_SplitState.calls (a1 := r7.1) (a2 := r7.2) (a3 := r10) Hr14) ?_
      rintro _ w ⟨rfl, hs2⟩
      have hs : St _ [_,_] _ := hs.call hs2
      refine g_d rfl ?_
      try dsimp only [set0,setS]
      refine g_op (v := Value.tuple #[Value.agg ((encA (encI .i64)) r14.1).toArray, Value.agg ((encA (encI .i64)) r14.2.1).toArray, Value.int .i64 r14.2.2]) rfl rfl rfl ?_
      refine g_d rfl ?_
      refine g_op (v := Value.agg ((encA (encI .i64)) r14.1).toArray) rfl rfl rfl ?_
      refine g_d rfl ?_
      refine g_op (v := Value.agg ((encA (encI .i64)) r14.2.1).toArray) rfl rfl rfl ?_
      refine g_d rfl ?_
      refine g_op (v := Value.int .i64 r14.2.2) rfl rfl rfl ?_
      refine g_d rfl ?_
      refine s_alloc hs rfl rfl (z := (Value.agg #[Value.int .i64 0, Value.int .i64 0, Value.int .i64 0, Value.int .i64 0])) (cs := ((encA (encI .i64)) (Ar.rep 4 0))) rfl (fun _ => rfl) rfl ?_
      intro b15 w hs
      refine g_d rfl ?_
      try dsimp only [set0,setS]
      refine s_alloc hs rfl rfl (z := (Value.agg #[Value.int .i64 0, Value.int .i64 0, Value.int .i64 0, Value.int .i64 0])) (cs := ((encA (encI .i64)) (Ar.rep 4 0))) rfl (fun _ => rfl) rfl ?_
      intro b17 w hs
      refine g_d rfl ?_
      try dsimp only [set0,setS]
      have hs := hs.pull 1 rfl
      have hs : St _ [_,_,_,_] _ := hs
      refine s_storeAll (n := 4) hs ((fkA (n := 4) (he := (fkI .i64).len) (h1 := (fkI .i64).one)).len _) rfl rfl (vs := ((encA (encI .i64)) r14.1)) rfl rfl rfl (fun _ => rfl) ((fkA (n := 4) (he := (fkI .i64).len) (h1 := (fkI .i64).one)).len _) ((fkA (n := 4) (he := (fkI .i64).len) (h1 := (fkI .i64).one)).one _) ?_
      intro w hs
      refine g_n rfl ?_
      have hs := hs.pull 1 rfl
      have hs : St _ [_,_,_,_] _ := hs
      refine s_storeAll (n := 4) hs ((fkA (n := 4) (he := (fkI .i64).len) (h1 := (fkI .i64).one)).len _) rfl rfl (vs := ((encA (encI .i64)) r14.2.1)) rfl rfl rfl (fun _ => rfl) ((fkA (n := 4) (he := (fkI .i64).len) (h1 := (fkI .i64).one)).len _) ((fkA (n := 4) (he := (fkI .i64).len) (h1 := (fkI .i64).one)).one _) ?_
      intro w hs
      refine g_n rfl ?_
      refine g_op (v := Value.int .i64 r14.2.2) rfl rfl rfl ?_
      refine g_d rfl ?_
      try dsimp only [set0,setS]
      refine g_ops_nil ?_
      refine g_seq ?_
      refine g_region ?_
      show G _ _ _ (.inRegion _ [0, 1, 2, 3, 4, 5, 6, 7, 8, 9, 10, 11, 12] :: _) _ _
      refine g_op (v := Value.int .i64 r7.1) rfl rfl rfl ?_
      refine g_d rfl ?_
      refine s_loadA rfl rfl (es := ((encA (encI .i64)) r7.2)) rfl rfl (fun _ => rfl) (n := 4) (fun _ => rfl) ((fkA (n := 4) (he := (fkI .i64).len) (h1 := (fkI .i64).one)).len _) (cells_all (hs.cells 3 rfl)) ?_
      refine g_d rfl ?_
      try dsimp only [set0,setS]
      refine s_loadA rfl rfl (es := ((encA (encI .i64)) r10)) rfl rfl (fun _ => rfl) (n := 4) (fun _ => rfl) ((fkA (n := 4) (he := (fkI .i64).len) (h1 := (fkI .i64).one)).len _) (cells_all (hs.cells 2 rfl)) ?_
      refine g_d rfl ?_
      try dsimp only [set0,setS]
      obtain ⟨r19, Hr19, H⟩ := bind_get H
      refine s_call (args := [Value.int .i64 r7.1, Value.agg ((encA (encI .i64)) r7.2).toArray, Value.agg ((encA (encI .i64)) r10).toArray]) rfl rfl (x_call rfl (callFunc_enter Try.func9 rfl rfl) rfl) (spec_SplitState.calls (a1 := r7.1) (a2 := r7.2) (a3 := r10) Hr19) ?_
      rintro _ w ⟨rfl, hs2⟩
      have hs : St _ [_,_,_,_] _ := hs.call hs2
      refine g_d rfl ?_
      try dsimp only [set0,setS]
      refine g_op (v := Value.tuple #[Value.agg ((encA (encI .i64)) r19.1).toArray, Value.agg ((encA (encI .i64)) r19.2.1).toArray, Value.int .i64 r19.2.2]) rfl rfl rfl ?_
      refine g_d rfl ?_
      refine g_op (v := Value.agg ((encA (encI .i64)) r19.1).toArray) rfl rfl rfl ?_
      refine g_d rfl ?_
      refine g_op (v := Value.agg ((encA (encI .i64)) r19.2.1).toArray) rfl rfl rfl ?_
      refine g_d rfl ?_
      refine g_op (v := Value.int .i64 r19.2.2) rfl rfl rfl ?_
      refine g_d rfl ?_
      refine s_alloc hs rfl rfl (z := (Value.agg #[Value.int .i64 0, Value.int .i64 0, Value.int .i64 0, Value.int .i64 0])) (cs := ((encA (encI .i64)) (Ar.rep 4 0))) rfl (fun _ => rfl) rfl ?_
      intro b20 w hs
      refine g_d rfl ?_
      try dsimp only [set0,setS]
      refine s_alloc hs rfl rfl (z := (Value.agg #[Value.int .i64 0, Value.int .i64 0, Value.int .i64 0, Value.int .i64 0])) (cs := ((encA (encI .i64)) (Ar.rep 4 0))) rfl (fun _ => rfl) rfl ?_
      intro b22 w hs
      refine g_d rfl ?_
      try dsimp only [set0,setS]
      have hs := hs.pull 1 rfl
      have hs : St _ [_,_,_,_,_,_] _ := hs
      refine s_storeAll (n := 4) hs ((fkA (n := 4) (he := (fkI .i64).len) (h1 := (fkI .i64).one)).len _) rfl rfl (vs := ((encA (encI .i64)) r19.1)) rfl rfl rfl (fun _ => rfl) ((fkA (n := 4) (he := (fkI .i64).len) (h1 := (fkI .i64).one)).len _) ((fkA (n := 4) (he := (fkI .i64).len) (h1 := (fkI .i64).one)).one _) ?_
      intro w hs
      refine g_n rfl ?_
      have hs := hs.pull 1 rfl
      have hs : St _ [_,_,_,_,_,_] _ := hs
      refine s_storeAll (n := 4) hs ((fkA (n := 4) (he := (fkI .i64).len) (h1 := (fkI .i64).one)).len _) rfl rfl (vs := ((encA (encI .i64)) r19.2.1)) rfl rfl rfl (fun _ => rfl) ((fkA (n := 4) (he := (fkI .i64).len) (h1 := (fkI .i64).one)).len _) ((fkA (n := 4) (he := (fkI .i64).len) (h1 := (fkI .i64).one)).one _) ?_
      intro w hs
      refine g_n rfl ?_
      refine g_op (v := Value.int .i64 r19.2.2) rfl rfl rfl ?_
      refine g_d rfl ?_
      try dsimp only [set0,setS]
      refine g_ops_nil ?_
      refine g_seq ?_
      refine g_region ?_
      show G _ _ _ (.inRegion _ [0, 1, 2, 3, 4, 5, 6, 7, 8] :: _) _ _
      refine g_op (v := Value.int .i64 r7.1) rfl rfl rfl ?_
      refine g_d rfl ?_
      refine s_loadA rfl rfl (es := ((encA (encI .i64)) r7.2)) rfl rfl (fun _ => rfl) (n := 4) (fun _ => rfl) ((fkA (n := 4) (he := (fkI .i64).len) (h1 := (fkI .i64).one)).len _) (cells_all (hs.cells 5 rfl)) ?_
      refine g_d rfl ?_
      try dsimp only [set0,setS]
      refine g_op (v := Value.int .i64 (i64w (1 + r13))) rfl rfl rfl ?_
      refine g_d rfl ?_
      obtain ⟨r24, Hr24, H⟩ := bind_get H
      refine s_call (args := [Value.int .i64 r7.1, Value.agg ((encA (encI .i64)) r7.2).toArray, Value.int .i64 (i64w (1 + r13))]) rfl rfl (x_call rfl (callFunc_enter Try.func10 rfl rfl) rfl) (impl_WeightOf.calls (a1 := r7.1) (a2 := r7.2) (a3 := i64w (1 + r13)) Hr24) ?_
      rintro _ w ⟨rfl, hs2⟩
      have hs : St _ [_,_,_,_,_,_] _ := hs.call hs2
      refine g_d rfl ?_
      try dsimp only [set0,setS]
      refine g_op (v := Value.tuple #[Value.int .i64 r24.1, Value.int .i64 r24.2]) rfl rfl rfl ?_
      refine g_d rfl ?_
      refine g_op (v := Value.int .i64 r24.1) rfl rfl rfl ?_
      refine g_d rfl ?_
      refine g_op (v := Value.int .i64 r24.2) rfl rfl rfl ?_
      refine g_d rfl ?_
      refine g_op (v := Value.int .i64 r24.1) rfl rfl rfl ?_
      refine g_d rfl ?_
      try dsimp only [set0,setS]
      refine g_op (v := Value.int .i64 r24.2) rfl rfl rfl ?_
      refine g_d rfl ?_
      try dsimp only [set0,setS]
      refine g_ops_nil ?_
      refine g_seq ?_
      refine g_region ?_
      show G _ _ _ (.inRegion _ [0, 1, 2, 3, 4, 5, 6, 7, 8, 9] :: _) _ _
      refine g_op (v := Value.int .i64 r7.1) rfl rfl rfl ?_
      refine g_d rfl ?_
      refine s_loadA rfl rfl (es := ((encA (encI .i64)) r19.1)) rfl rfl (fun _ => rfl) (n := 4) (fun _ => rfl) ((fkA (n := 4) (he := (fkI .i64).len) (h1 := (fkI .i64).one)).len _) (cells_all (hs.cells 1 rfl)) ?_
      refine g_d rfl ?_
      try dsimp only [set0,setS]
      refine g_op (v := Value.int .i64 (i64w (1 + r13))) rfl rfl rfl ?_
      refine g_d rfl ?_
      refine g_op (v := Value.int .i64 (i64w ((i64w (1 + r13)) - 1))) rfl rfl rfl ?_
      refine g_d rfl ?_
      try dsimp only [set0,setS]
      obtain ⟨r25, Hr25, H⟩ := bind_get H
      refine s_call (args := [Value.int .i64 r7.1, Value.agg ((encA (encI .i64)) r19.1).toArray, Value.int .i64 (i64w ((i64w (1 + r13)) - 1))]) rfl rfl (x_call rfl (callFunc_enter Try.func10 rfl rfl) rfl) (impl_WeightOf.calls (a1 := r7.1) (a2 := r19.1) (a3 := i64w ((i64w (1 + r13)) - 1)) Hr25) ?_
      rintro _ w ⟨rfl, hs2⟩
      have hs : St _ [_,_,_,_,_,_] _ := hs.call hs2
      refine g_d rfl ?_
      try dsimp only [set0,setS]
      refine g_op (v := Value.tuple #[Value.int .i64 r25.1, Value.int .i64 r25.2]) rfl rfl rfl ?_
      refine g_d rfl ?_
      refine g_op (v := Value.int .i64 r25.1) rfl rfl rfl ?_
      refine g_d rfl ?_
      refine g_op (v := Value.int .i64 r25.2) rfl rfl rfl ?_
      refine g_d rfl ?_
      refine g_op (v := Value.int .i64 r25.1) rfl rfl rfl ?_
      refine g_d rfl ?_
      try dsimp only [set0,setS]
      refine g_op (v := Value.int .i64 r25.2) rfl rfl rfl ?_
      refine g_d rfl ?_
      try dsimp only [set0,setS]
      refine g_ops_nil ?_
      refine g_seq ?_
      refine g_region ?_
      show G _ _ _ (.inRegion _ [0, 1, 2, 3, 4, 5, 6, 7, 8, 9] :: _) _ _
      refine g_op (v := Value.int .i64 r7.1) rfl rfl rfl ?_
      refine g_d rfl ?_
      refine s_loadA rfl rfl (es := ((encA (encI .i64)) r19.2.1)) rfl rfl (fun _ => rfl) (n := 4) (fun _ => rfl) ((fkA (n := 4) (he := (fkI .i64).len) (h1 := (fkI .i64).one)).len _) (cells_all (hs.cells 0 rfl)) ?_
      refine g_d rfl ?_
      try dsimp only [set0,setS]
      refine g_op (v := Value.int .i64 (i64w (1 + r13))) rfl rfl rfl ?_
      refine g_d rfl ?_
      refine g_op (v := Value.int .i64 (i64w ((i64w (1 + r13)) - 1))) rfl rfl rfl ?_
      refine g_d rfl ?_
      try dsimp only [set0,setS]
      obtain ⟨r26, Hr26, H⟩ := bind_get H
      refine s_call (args := [Value.int .i64 r7.1, Value.agg ((encA (encI .i64)) r19.2.1).toArray, Value.int .i64 (i64w ((i64w (1 + r13)) - 1))]) rfl rfl (x_call rfl (callFunc_enter Try.func10 rfl rfl) rfl) (impl_WeightOf.calls (a1 := r7.1) (a2 := r19.2.1) (a3 := i64w ((i64w (1 + r13)) - 1)) Hr26) ?_
      rintro _ w ⟨rfl, hs2⟩
      have hs : St _ [_,_,_,_,_,_] _ := hs.call hs2
      refine g_d rfl ?_
      try dsimp only [set0,setS]
      refine g_op (v := Value.tuple #[Value.int .i64 r26.1, Value.int .i64 r26.2]) rfl rfl rfl ?_
      refine g_d rfl ?_
      refine g_op (v := Value.int .i64 r26.1) rfl rfl rfl ?_
      refine g_d rfl ?_
      refine g_op (v := Value.int .i64 r26.2) rfl rfl rfl ?_
      refine g_d rfl ?_
      refine g_op (v := Value.int .i64 r26.1) rfl rfl rfl ?_
      refine g_d rfl ?_
      try dsimp only [set0,setS]
      refine g_op (v := Value.int .i64 r26.2) rfl rfl rfl ?_
      refine g_d rfl ?_
      try dsimp only [set0,setS]
      refine g_ops_nil ?_
      refine g_seq ?_
      refine g_seq ?_
      refine g_region ?_
      show G _ _ _ (.inRegion _ [0, 1, 2, 3, 4, 5, 6, 7, 8, 9, 10, 11, 12, 13, 14, 15, 16, 17, 18, 19, 20, 21, 22, 23, 24, 25, 26, 27, 28, 29, 30, 31, 32, 33, 34, 35, 36, 37, 38, 39, 40, 41, 42, 43, 44, 45, 46, 47, 48, 49, 50, 51, 52, 53] :: _) _ _
      refine g_op (v := Value.int .i64 r14.2.2) rfl rfl rfl ?_
      refine g_d rfl ?_
      refine g_op (v := Value.int .i64 r19.2.2) rfl rfl rfl ?_
      refine g_d rfl ?_
      refine g_op_b (B := r14.2.2 != r19.2.2) rfl rfl rfl ?_ ?_
      ·
       intro hb
       rw [if_neg (b_bne_t hb)] at H
       refine g_d rfl ?_
       try dsimp only [set0,setS]
       refine g_op (v := Value.bool true) rfl rfl rfl ?_
       refine g_d rfl ?_
       refine g_op_not rfl rfl ?_
       refine g_d rfl ?_
       refine g_op_not rfl rfl ?_
       refine g_d rfl ?_
       try dsimp only [set0,setS]
       refine g_op (v := Value.bool true) rfl rfl rfl ?_
       refine g_d rfl ?_
       try dsimp only [set0,setS]
       refine g_op (v := Value.bool true) rfl rfl rfl ?_
       refine g_d rfl ?_
       refine g_op_not rfl rfl ?_
       refine g_d rfl ?_
       try dsimp only [set0,setS]
       refine g_op_not rfl rfl ?_
       refine g_d rfl ?_
       try dsimp only [set0,setS]
       refine g_op_not rfl rfl ?_
       refine g_d rfl ?_
       try dsimp only [set0,setS]
       refine g_op (v := Value.bool true) rfl rfl rfl ?_
       refine g_d rfl ?_
       try dsimp only [set0,setS]
       refine g_op (v := Value.bool true) rfl rfl rfl ?_
       refine g_d rfl ?_
       refine g_op_not rfl rfl ?_
       refine g_d rfl ?_
       try dsimp only [set0,setS]
       refine g_op_not rfl rfl ?_
       refine g_d rfl ?_
       try dsimp only [set0,setS]
       refine g_op_not rfl rfl ?_
       refine g_d rfl ?_
       try dsimp only [set0,setS]
       refine g_op (v := Value.bool true) rfl rfl rfl ?_
       refine g_d rfl ?_
       try dsimp only [set0,setS]
       refine g_op (v := Value.bool true) rfl rfl rfl ?_
       refine g_d rfl ?_
       refine g_op_not rfl rfl ?_
       refine g_d rfl ?_
       refine g_op_not rfl rfl ?_
       refine g_d rfl ?_
       try dsimp only [set0,setS]
       refine g_op (v := Value.bool true) rfl rfl rfl ?_
       refine g_d rfl ?_
       try dsimp only [set0,setS]
       refine g_op (v := Value.bool true) rfl rfl rfl ?_
       refine g_d rfl ?_
       refine g_op_not rfl rfl ?_
       refine g_d rfl ?_
       refine g_op_not rfl rfl ?_
       refine g_d rfl ?_
       try dsimp only [set0,setS]
       refine g_op (v := Value.bool true) rfl rfl rfl ?_
       refine g_d rfl ?_
       try dsimp only [set0,setS]
       refine g_op (v := Value.bool true) rfl rfl rfl ?_
       refine g_d rfl ?_
       refine g_op_not rfl rfl ?_
       refine g_d rfl ?_
       refine g_op_not rfl rfl ?_
       refine g_d rfl ?_
       try dsimp only [set0,setS]
       refine g_op (v := Value.bool true) rfl rfl rfl ?_
       refine g_d rfl ?_
       try dsimp only [set0,setS]
       refine g_op (v := Value.bool true) rfl rfl rfl ?_
       refine g_d rfl ?_
       refine g_op_not rfl rfl ?_
       refine g_d rfl ?_
       refine g_op_not rfl rfl ?_
       refine g_d rfl ?_
       refine g_op_not rfl rfl ?_
       refine g_d rfl ?_
       refine g_op_not rfl rfl ?_
       refine g_d rfl ?_
       try dsimp only [set0,setS]
       refine g_op_not rfl rfl ?_
       refine g_d rfl ?_
       try dsimp only [set0,setS]
       refine g_op (v := Value.bool true) rfl rfl rfl ?_
       refine g_d rfl ?_
       try dsimp only [set0,setS]
       refine g_op (v := Value.bool true) rfl rfl rfl ?_
       refine g_d rfl ?_
       refine g_op_not rfl rfl ?_
       refine g_d rfl ?_
       refine g_op_not rfl rfl ?_
       refine g_d rfl ?_
       try dsimp only [set0,setS]
       refine g_op_not rfl rfl ?_
       refine g_d rfl ?_
       try dsimp only [set0,setS]
       refine g_op_not rfl rfl ?_
       refine g_d rfl ?_
       try dsimp only [set0,setS]
       refine g_op (v := Value.bool true) rfl rfl rfl ?_
       refine g_d rfl ?_
       try dsimp only [set0,setS]
       refine g_op (v := Value.bool true) rfl rfl rfl ?_
       refine g_d rfl ?_
       refine g_op_not rfl rfl ?_
       refine g_d rfl ?_
       refine g_op_not rfl rfl ?_
       refine g_d rfl ?_
       try dsimp only [set0,setS]
       refine g_op_not rfl rfl ?_
       refine g_d rfl ?_
       try dsimp only [set0,setS]
       refine g_op_not rfl rfl ?_
       refine g_d rfl ?_
       try dsimp only [set0,setS]
       refine g_op (v := Value.bool true) rfl rfl rfl ?_
       refine g_d rfl ?_
       try dsimp only [set0,setS]
       refine g_op (v := Value.bool true) rfl rfl rfl ?_
       refine g_d rfl ?_
       refine g_op_not rfl rfl ?_
       refine g_d rfl ?_
       refine g_op_not rfl rfl ?_
       refine g_d rfl ?_
       try dsimp only [set0,setS]
       refine g_op_not rfl rfl ?_
       refine g_d rfl ?_
       try dsimp only [set0,setS]
       refine g_op_not rfl rfl ?_
       refine g_d rfl ?_
       try dsimp only [set0,setS]
       refine g_op (v := Value.bool true) rfl rfl rfl ?_
       refine g_d rfl ?_
       try dsimp only [set0,setS]
       refine g_ops_nil ?_
       refine g_cond_true rfl ?_
       refine g_seq ?_
       refine g_region ?_
       show G _ _ _ (.inRegion _ [0] :: _) _ _
       refine g_op (v := Value.bool false) rfl rfl rfl ?_
       refine g_d rfl ?_
       try dsimp only [set0,setS]
       refine g_ops_nil ?_
       obtain rfl := Option.some.inj H
       refine g_ret Try.func3 (v := Value.bool false) (res1 rfl rfl) ?_
       have hs : St _ [] _ := St.take (Γ' := [_,_,_,_,_,_]) hs
       exact ⟨_, rfl, rfl, hs⟩
      ·
       intro hb
       rw [if_pos (b_bne_f hb)] at H
       refine g_d rfl ?_
       try dsimp only [set0,setS]
       refine g_op (v := Value.bool false) rfl rfl rfl ?_
       refine g_d rfl ?_
       refine g_op (v := Value.int .i64 r14.2.2) rfl rfl rfl ?_
       refine g_d rfl ?_
       refine g_op (v := Value.bool (r14.2.2 != 0)) rfl rfl rfl ?_
       refine g_d rfl ?_
       try dsimp only [set0,setS]
       refine g_op_b (B := r14.2.2 != 0) rfl rfl rfl ?_ ?_
       ·
        intro hb
        rw [if_neg (b_bne_t hb)] at H
        refine g_d rfl ?_
        try dsimp only [set0,setS]
        refine g_op (v := Value.bool true) rfl rfl rfl ?_
        refine g_d rfl ?_
        refine g_op_not rfl rfl ?_
        refine g_d rfl ?_
        try dsimp only [set0,setS]
        refine g_op_not rfl rfl ?_
        refine g_d rfl ?_
        try dsimp only [set0,setS]
        refine g_op_not rfl rfl ?_
        refine g_d rfl ?_
        try dsimp only [set0,setS]
        refine g_op (v := Value.bool true) rfl rfl rfl ?_
        refine g_d rfl ?_
        try dsimp only [set0,setS]
        refine g_op (v := Value.bool true) rfl rfl rfl ?_
        refine g_d rfl ?_
        refine g_op_not rfl rfl ?_
        refine g_d rfl ?_
        try dsimp only [set0,setS]
        refine g_op_not rfl rfl ?_
        refine g_d rfl ?_
        try dsimp only [set0,setS]
        refine g_op_not rfl rfl ?_
        refine g_d rfl ?_
        try dsimp only [set0,setS]
        refine g_op (v := Value.bool true) rfl rfl rfl ?_
        refine g_d rfl ?_
        try dsimp only [set0,setS]
        refine g_op (v := Value.bool true) rfl rfl rfl ?_
        refine g_d rfl ?_
        refine g_op_not rfl rfl ?_
        refine g_d rfl ?_
        refine g_op_not rfl rfl ?_
        refine g_d rfl ?_
        try dsimp only [set0,setS]
        refine g_op (v := Value.bool true) rfl rfl rfl ?_
        refine g_d rfl ?_
        try dsimp only [set0,setS]
        refine g_op (v := Value.bool true) rfl rfl rfl ?_
        refine g_d rfl ?_
        refine g_op_not rfl rfl ?_
        refine g_d rfl ?_
        refine g_op_not rfl rfl ?_
        refine g_d rfl ?_
        try dsimp only [set0,setS]
        refine g_op (v := Value.bool true) rfl rfl rfl ?_
        refine g_d rfl ?_
        try dsimp only [set0,setS]
        refine g_op (v := Value.bool true) rfl rfl rfl ?_
        refine g_d rfl ?_
        refine g_op_not rfl rfl ?_
        refine g_d rfl ?_
        refine g_op_not rfl rfl ?_
        refine g_d rfl ?_
        try dsimp only [set0,setS]
        refine g_op (v := Value.bool true) rfl rfl rfl ?_
        refine g_d rfl ?_
        try dsimp only [set0,setS]
        refine g_op (v := Value.bool true) rfl rfl rfl ?_
        refine g_d rfl ?_
        refine g_op_not rfl rfl ?_
        refine g_d rfl ?_
        refine g_op_not rfl rfl ?_
        refine g_d rfl ?_
        refine g_op_not rfl rfl ?_
        refine g_d rfl ?_
        refine g_op_not rfl rfl ?_
        refine g_d rfl ?_
        try dsimp only [set0,setS]
        refine g_op_not rfl rfl ?_
        refine g_d rfl ?_
        try dsimp only [set0,setS]
        refine g_op (v := Value.bool true) rfl rfl rfl ?_
        refine g_d rfl ?_
        try dsimp only [set0,setS]
        refine g_op (v := Value.bool true) rfl rfl rfl ?_
        refine g_d rfl ?_
        refine g_op_not rfl rfl ?_
        refine g_d rfl ?_
        refine g_op_not rfl rfl ?_
        refine g_d rfl ?_
        try dsimp only [set0,setS]
        refine g_op_not rfl rfl ?_
        refine g_d rfl ?_
        try dsimp only [set0,setS]
        refine g_op_not rfl rfl ?_
        refine g_d rfl ?_
        try dsimp only [set0,setS]
        refine g_op (v := Value.bool true) rfl rfl rfl ?_
        refine g_d rfl ?_
        try dsimp only [set0,setS]
        refine g_op (v := Value.bool true) rfl rfl rfl ?_
        refine g_d rfl ?_
        refine g_op_not rfl rfl ?_
        refine g_d rfl ?_
        refine g_op_not rfl rfl ?_
        refine g_d rfl ?_
        try dsimp only [set0,setS]
        refine g_op_not rfl rfl ?_
        refine g_d rfl ?_
        try dsimp only [set0,setS]
        refine g_op_not rfl rfl ?_
        refine g_d rfl ?_
        try dsimp only [set0,setS]
        refine g_op (v := Value.bool true) rfl rfl rfl ?_
        refine g_d rfl ?_
        try dsimp only [set0,setS]
        refine g_op (v := Value.bool true) rfl rfl rfl ?_
        refine g_d rfl ?_
        refine g_op_not rfl rfl ?_
        refine g_d rfl ?_
        refine g_op_not rfl rfl ?_
        refine g_d rfl ?_
        try dsimp only [set0,setS]
        refine g_op_not rfl rfl ?_
        refine g_d rfl ?_
        try dsimp only [set0,setS]
        refine g_op_not rfl rfl ?_
        refine g_d rfl ?_
        try dsimp only [set0,setS]
        refine g_op (v := Value.bool true) rfl rfl rfl ?_
        refine g_d rfl ?_
        try dsimp only [set0,setS]
        refine g_ops_nil ?_
        refine g_cond_true rfl ?_
        refine g_seq ?_
        refine g_region ?_
        show G _ _ _ (.inRegion _ [0] :: _) _ _
        refine g_op (v := Value.bool false) rfl rfl rfl ?_
        refine g_d rfl ?_
        try dsimp only [set0,setS]
        refine g_ops_nil ?_
        obtain rfl := Option.some.inj H
        refine g_ret Try.func3 (v := Value.bool false) (res1 rfl rfl) ?_
        have hs : St _ [] _ := St.take (Γ' := [_,_,_,_,_,_]) hs
        exact ⟨_, rfl, rfl, hs⟩
       ·
        intro hb
        rw [if_pos (b_bne_f hb)] at H
        refine g_d rfl ?_
        try dsimp only [set0,setS]
        refine g_op (v := Value.bool false) rfl rfl rfl ?_
        refine g_d rfl ?_
        refine s_loadA rfl rfl (es := ((encA (encI .i64)) r14.1)) rfl rfl (fun _ => rfl) (n := 4) (fun _ => rfl) ((fkA (n := 4) (he := (fkI .i64).len) (h1 := (fkI .i64).one)).len _) (cells_all (hs.cells 3 rfl)) ?_
        refine g_d rfl ?_
        try dsimp only [set0,setS]
        refine s_loadA rfl rfl (es := ((encA (encI .i64)) r19.1)) rfl rfl (fun _ => rfl) (n := 4) (fun _ => rfl) ((fkA (n := 4) (he := (fkI .i64).len) (h1 := (fkI .i64).one)).len _) (cells_all (hs.cells 1 rfl)) ?_
        refine g_d rfl ?_
        try dsimp only [set0,setS]
        refine g_op (v := Value.bool (!decide (r14.1 = r19.1))) rfl rfl (x_neq rfl rfl rfl eq_ar4_25_g (eq_ar4_25 _ _ _)) ?_
        refine g_d rfl ?_
        try dsimp only [set0,setS]
        refine g_op_b (B := !decide (r14.1 = r19.1)) rfl rfl rfl ?_ ?_
        ·
         intro hb
         rw [if_neg (b_ndec_t hb)] at H
         refine g_d rfl ?_
         try dsimp only [set0,setS]
         refine g_op (v := Value.bool true) rfl rfl rfl ?_
         refine g_d rfl ?_
         refine g_op_not rfl rfl ?_
         refine g_d rfl ?_
         try dsimp only [set0,setS]
         refine g_op_not rfl rfl ?_
         refine g_d rfl ?_
         try dsimp only [set0,setS]
         refine g_op_not rfl rfl ?_
         refine g_d rfl ?_
         try dsimp only [set0,setS]
         refine g_op (v := Value.bool true) rfl rfl rfl ?_
         refine g_d rfl ?_
         try dsimp only [set0,setS]
         refine g_op (v := Value.bool true) rfl rfl rfl ?_
         refine g_d rfl ?_
         refine g_op_not rfl rfl ?_
         refine g_d rfl ?_
         refine g_op_not rfl rfl ?_
         refine g_d rfl ?_
         try dsimp only [set0,setS]
         refine g_op (v := Value.bool true) rfl rfl rfl ?_
         refine g_d rfl ?_
         try dsimp only [set0,setS]
         refine g_op (v := Value.bool true) rfl rfl rfl ?_
         refine g_d rfl ?_
         refine g_op_not rfl rfl ?_
         refine g_d rfl ?_
         refine g_op_not rfl rfl ?_
         refine g_d rfl ?_
         try dsimp only [set0,setS]
         refine g_op (v := Value.bool true) rfl rfl rfl ?_
         refine g_d rfl ?_
         try dsimp only [set0,setS]
         refine g_op (v := Value.bool true) rfl rfl rfl ?_
         refine g_d rfl ?_
         refine g_op_not rfl rfl ?_
         refine g_d rfl ?_
         refine g_op_not rfl rfl ?_
         refine g_d rfl ?_
         try dsimp only [set0,setS]
         refine g_op (v := Value.bool true) rfl rfl rfl ?_
         refine g_d rfl ?_
         try dsimp only [set0,setS]
         refine g_op (v := Value.bool true) rfl rfl rfl ?_
         refine g_d rfl ?_
         refine g_op_not rfl rfl ?_
         refine g_d rfl ?_
         refine g_op_not rfl rfl ?_
         refine g_d rfl ?_
         refine g_op_not rfl rfl ?_
         refine g_d rfl ?_
         refine g_op_not rfl rfl ?_
         refine g_d rfl ?_
         try dsimp only [set0,setS]
         refine g_op_not rfl rfl ?_
         refine g_d rfl ?_
         try dsimp only [set0,setS]
         refine g_op (v := Value.bool true) rfl rfl rfl ?_
         refine g_d rfl ?_
         try dsimp only [set0,setS]
         refine g_op (v := Value.bool true) rfl rfl rfl ?_
         refine g_d rfl ?_
         refine g_op_not rfl rfl ?_
         refine g_d rfl ?_
         refine g_op_not rfl rfl ?_
         refine g_d rfl ?_
         try dsimp only [set0,setS]
         refine g_op_not rfl rfl ?_
         refine g_d rfl ?_
         try dsimp only [set0,setS]
         refine g_op_not rfl rfl ?_
         refine g_d rfl ?_
         try dsimp only [set0,setS]
         refine g_op (v := Value.bool true) rfl rfl rfl ?_
         refine g_d rfl ?_
         try dsimp only [set0,setS]
         refine g_op (v := Value.bool true) rfl rfl rfl ?_
         refine g_d rfl ?_
         refine g_op_not rfl rfl ?_
         refine g_d rfl ?_
         refine g_op_not rfl rfl ?_
         refine g_d rfl ?_
         try dsimp only [set0,setS]
         refine g_op_not rfl rfl ?_
         refine g_d rfl ?_
         try dsimp only [set0,setS]
         refine g_op_not rfl rfl ?_
         refine g_d rfl ?_
         try dsimp only [set0,setS]
         refine g_op (v := Value.bool true) rfl rfl rfl ?_
         refine g_d rfl ?_
         try dsimp only [set0,setS]
         refine g_op (v := Value.bool true) rfl rfl rfl ?_
         refine g_d rfl ?_
         refine g_op_not rfl rfl ?_
         refine g_d rfl ?_
         refine g_op_not rfl rfl ?_
         refine g_d rfl ?_
         try dsimp only [set0,setS]
         refine g_op_not rfl rfl ?_
         refine g_d rfl ?_
         try dsimp only [set0,setS]
         refine g_op_not rfl rfl ?_
         refine g_d rfl ?_
         try dsimp only [set0,setS]
         refine g_op (v := Value.bool true) rfl rfl rfl ?_
         refine g_d rfl ?_
         try dsimp only [set0,setS]
         refine g_ops_nil ?_
         refine g_cond_true rfl ?_
         refine g_seq ?_
         refine g_region ?_
         show G _ _ _ (.inRegion _ [0] :: _) _ _
         refine g_op (v := Value.bool false) rfl rfl rfl ?_
         refine g_d rfl ?_
         try dsimp only [set0,setS]
         refine g_ops_nil ?_
         obtain rfl := Option.some.inj H
         refine g_ret Try.func3 (v := Value.bool false) (res1 rfl rfl) ?_
         have hs : St _ [] _ := St.take (Γ' := [_,_,_,_,_,_]) hs
         exact ⟨_, rfl, rfl, hs⟩
        ·
         intro hb
         rw [if_pos (b_ndec_f hb)] at H
         refine g_d rfl ?_
         try dsimp only [set0,setS]
         refine g_op (v := Value.bool false) rfl rfl rfl ?_
         refine g_d rfl ?_
         refine s_loadA rfl rfl (es := ((encA (encI .i64)) r14.2.1)) rfl rfl (fun _ => rfl) (n := 4) (fun _ => rfl) ((fkA (n := 4) (he := (fkI .i64).len) (h1 := (fkI .i64).one)).len _) (cells_all (hs.cells 2 rfl)) ?_
         refine g_d rfl ?_
         try dsimp only [set0,setS]
         refine s_loadA rfl rfl (es := ((encA (encI .i64)) r19.2.1)) rfl rfl (fun _ => rfl) (n := 4) (fun _ => rfl) ((fkA (n := 4) (he := (fkI .i64).len) (h1 := (fkI .i64).one)).len _) (cells_all (hs.cells 0 rfl)) ?_
         refine g_d rfl ?_
         try dsimp only [set0,setS]
         refine g_op (v := Value.bool (!decide (r14.2.1 = r19.2.1))) rfl rfl (x_neq rfl rfl rfl eq_ar4_25_g (eq_ar4_25 _ _ _)) ?_
         refine g_d rfl ?_
         try dsimp only [set0,setS]
         refine g_op_b (B := !decide (r14.2.1 = r19.2.1)) rfl rfl rfl ?_ ?_
         ·
          intro hb
          rw [if_neg (b_ndec_t hb)] at H
          refine g_d rfl ?_
          try dsimp only [set0,setS]
          refine g_op (v := Value.bool true) rfl rfl rfl ?_
          refine g_d rfl ?_
          refine g_op_not rfl rfl ?_
          refine g_d rfl ?_
          refine g_op_not rfl rfl ?_
          refine g_d rfl ?_
          try dsimp only [set0,setS]
          refine g_op (v := Value.bool true) rfl rfl rfl ?_
          refine g_d rfl ?_
          try dsimp only [set0,setS]
          refine g_op (v := Value.bool true) rfl rfl rfl ?_
          refine g_d rfl ?_
          refine g_op_not rfl rfl ?_
          refine g_d rfl ?_
          refine g_op_not rfl rfl ?_
          refine g_d rfl ?_
          try dsimp only [set0,setS]
          refine g_op (v := Value.bool true) rfl rfl rfl ?_
          refine g_d rfl ?_
          try dsimp only [set0,setS]
          refine g_op (v := Value.bool true) rfl rfl rfl ?_
          refine g_d rfl ?_
          refine g_op_not rfl rfl ?_
          refine g_d rfl ?_
          refine g_op_not rfl rfl ?_
          refine g_d rfl ?_
          try dsimp only [set0,setS]
          refine g_op (v := Value.bool true) rfl rfl rfl ?_
          refine g_d rfl ?_
          try dsimp only [set0,setS]
          refine g_op (v := Value.bool true) rfl rfl rfl ?_
          refine g_d rfl ?_
          refine g_op_not rfl rfl ?_
          refine g_d rfl ?_
          refine g_op_not rfl rfl ?_
          refine g_d rfl ?_
          refine g_op_not rfl rfl ?_
          refine g_d rfl ?_
          refine g_op_not rfl rfl ?_
          refine g_d rfl ?_
          try dsimp only [set0,setS]
          refine g_op_not rfl rfl ?_
          refine g_d rfl ?_
          try dsimp only [set0,setS]
          refine g_op (v := Value.bool true) rfl rfl rfl ?_
          refine g_d rfl ?_
          try dsimp only [set0,setS]
          refine g_op (v := Value.bool true) rfl rfl rfl ?_
          refine g_d rfl ?_
          refine g_op_not rfl rfl ?_
          refine g_d rfl ?_
          refine g_op_not rfl rfl ?_
          refine g_d rfl ?_
          try dsimp only [set0,setS]
          refine g_op_not rfl rfl ?_
          refine g_d rfl ?_
          try dsimp only [set0,setS]
          refine g_op_not rfl rfl ?_
          refine g_d rfl ?_
          try dsimp only [set0,setS]
          refine g_op (v := Value.bool true) rfl rfl rfl ?_
          refine g_d rfl ?_
          try dsimp only [set0,setS]
          refine g_op (v := Value.bool true) rfl rfl rfl ?_
          refine g_d rfl ?_
          refine g_op_not rfl rfl ?_
          refine g_d rfl ?_
          refine g_op_not rfl rfl ?_
          refine g_d rfl ?_
          try dsimp only [set0,setS]
          refine g_op_not rfl rfl ?_
          refine g_d rfl ?_
          try dsimp only [set0,setS]
          refine g_op_not rfl rfl ?_
          refine g_d rfl ?_
          try dsimp only [set0,setS]
          refine g_op (v := Value.bool true) rfl rfl rfl ?_
          refine g_d rfl ?_
          try dsimp only [set0,setS]
          refine g_op (v := Value.bool true) rfl rfl rfl ?_
          refine g_d rfl ?_
          refine g_op_not rfl rfl ?_
          refine g_d rfl ?_
          refine g_op_not rfl rfl ?_
          refine g_d rfl ?_
          try dsimp only [set0,setS]
          refine g_op_not rfl rfl ?_
          refine g_d rfl ?_
          try dsimp only [set0,setS]
          refine g_op_not rfl rfl ?_
          refine g_d rfl ?_
          try dsimp only [set0,setS]
          refine g_op (v := Value.bool true) rfl rfl rfl ?_
          refine g_d rfl ?_
          try dsimp only [set0,setS]
          refine g_ops_nil ?_
          refine g_cond_true rfl ?_
          refine g_seq ?_
          refine g_region ?_
          show G _ _ _ (.inRegion _ [0] :: _) _ _
          refine g_op (v := Value.bool false) rfl rfl rfl ?_
          refine g_d rfl ?_
          try dsimp only [set0,setS]
          refine g_ops_nil ?_
          obtain rfl := Option.some.inj H
          refine g_ret Try.func3 (v := Value.bool false) (res1 rfl rfl) ?_
          have hs : St _ [] _ := St.take (Γ' := [_,_,_,_,_,_]) hs
          exact ⟨_, rfl, rfl, hs⟩
         ·
          intro hb
          rw [if_pos (b_ndec_f hb)] at H
          refine g_d rfl ?_
          try dsimp only [set0,setS]
          refine g_op (v := Value.bool false) rfl rfl rfl ?_
          refine g_d rfl ?_
          refine g_op (v := Value.int .i64 r24.2) rfl rfl rfl ?_
          refine g_d rfl ?_
          refine g_op (v := Value.bool (r24.2 != 0)) rfl rfl rfl ?_
          refine g_d rfl ?_
          try dsimp only [set0,setS]
          refine g_op_b (B := r24.2 != 0) rfl rfl rfl ?_ ?_
          ·
           intro hb
           rw [if_neg (b_bne_t hb)] at H
           refine g_d rfl ?_
           try dsimp only [set0,setS]
           refine g_op (v := Value.bool true) rfl rfl rfl ?_
           refine g_d rfl ?_
           refine g_op_not rfl rfl ?_
           refine g_d rfl ?_
           refine g_op_not rfl rfl ?_
           refine g_d rfl ?_
           try dsimp only [set0,setS]
           refine g_op (v := Value.bool true) rfl rfl rfl ?_
           refine g_d rfl ?_
           try dsimp only [set0,setS]
           refine g_op (v := Value.bool true) rfl rfl rfl ?_
           refine g_d rfl ?_
           refine g_op_not rfl rfl ?_
           refine g_d rfl ?_
           refine g_op_not rfl rfl ?_
           refine g_d rfl ?_
           try dsimp only [set0,setS]
           refine g_op (v := Value.bool true) rfl rfl rfl ?_
           refine g_d rfl ?_
           try dsimp only [set0,setS]
           refine g_op (v := Value.bool true) rfl rfl rfl ?_
           refine g_d rfl ?_
           refine g_op_not rfl rfl ?_
           refine g_d rfl ?_
           refine g_op_not rfl rfl ?_
           refine g_d rfl ?_
           refine g_op_not rfl rfl ?_
           refine g_d rfl ?_
           refine g_op_not rfl rfl ?_
           refine g_d rfl ?_
           try dsimp only [set0,setS]
           refine g_op_not rfl rfl ?_
           refine g_d rfl ?_
           try dsimp only [set0,setS]
           refine g_op (v := Value.bool true) rfl rfl rfl ?_
           refine g_d rfl ?_
           try dsimp only [set0,setS]
           refine g_op (v := Value.bool true) rfl rfl rfl ?_
           refine g_d rfl ?_
           refine g_op_not rfl rfl ?_
           refine g_d rfl ?_
           refine g_op_not rfl rfl ?_
           refine g_d rfl ?_
           try dsimp only [set0,setS]
           refine g_op_not rfl rfl ?_
           refine g_d rfl ?_
           try dsimp only [set0,setS]
           refine g_op_not rfl rfl ?_
           refine g_d rfl ?_
           try dsimp only [set0,setS]
           refine g_op (v := Value.bool true) rfl rfl rfl ?_
           refine g_d rfl ?_
           try dsimp only [set0,setS]
           refine g_op (v := Value.bool true) rfl rfl rfl ?_
           refine g_d rfl ?_
           refine g_op_not rfl rfl ?_
           refine g_d rfl ?_
           refine g_op_not rfl rfl ?_
           refine g_d rfl ?_
           try dsimp only [set0,setS]
           refine g_op_not rfl rfl ?_
           refine g_d rfl ?_
           try dsimp only [set0,setS]
           refine g_op_not rfl rfl ?_
           refine g_d rfl ?_
           try dsimp only [set0,setS]
           refine g_op (v := Value.bool true) rfl rfl rfl ?_
           refine g_d rfl ?_
           try dsimp only [set0,setS]
           refine g_op (v := Value.bool true) rfl rfl rfl ?_
           refine g_d rfl ?_
           refine g_op_not rfl rfl ?_
           refine g_d rfl ?_
           refine g_op_not rfl rfl ?_
           refine g_d rfl ?_
           try dsimp only [set0,setS]
           refine g_op_not rfl rfl ?_
           refine g_d rfl ?_
           try dsimp only [set0,setS]
           refine g_op_not rfl rfl ?_
           refine g_d rfl ?_
           try dsimp only [set0,setS]
           refine g_op (v := Value.bool true) rfl rfl rfl ?_
           refine g_d rfl ?_
           try dsimp only [set0,setS]
           refine g_ops_nil ?_
           refine g_cond_true rfl ?_
           refine g_seq ?_
           refine g_region ?_
           show G _ _ _ (.inRegion _ [0] :: _) _ _
           refine g_op (v := Value.bool false) rfl rfl rfl ?_
           refine g_d rfl ?_
           try dsimp only [set0,setS]
           refine g_ops_nil ?_
           obtain rfl := Option.some.inj H
           refine g_ret Try.func3 (v := Value.bool false) (res1 rfl rfl) ?_
           have hs : St _ [] _ := St.take (Γ' := [_,_,_,_,_,_]) hs
           exact ⟨_, rfl, rfl, hs⟩
          ·
           intro hb
           rw [if_pos (b_bne_f hb)] at H
           refine g_d rfl ?_
           try dsimp only [set0,setS]
           refine g_op (v := Value.bool false) rfl rfl rfl ?_
           refine g_d rfl ?_
           refine g_op (v := Value.int .i64 r25.2) rfl rfl rfl ?_
           refine g_d rfl ?_
           refine g_op (v := Value.bool (r25.2 != 0)) rfl rfl rfl ?_
           refine g_d rfl ?_
           try dsimp only [set0,setS]
           refine g_op_b (B := r25.2 != 0) rfl rfl rfl ?_ ?_
           ·
            intro hb
            rw [if_neg (b_bne_t hb)] at H
            refine g_d rfl ?_
            try dsimp only [set0,setS]
            refine g_op (v := Value.bool true) rfl rfl rfl ?_
            refine g_d rfl ?_
            refine g_op_not rfl rfl ?_
            refine g_d rfl ?_
            refine g_op_not rfl rfl ?_
            refine g_d rfl ?_
            try dsimp only [set0,setS]
            refine g_op (v := Value.bool true) rfl rfl rfl ?_
            refine g_d rfl ?_
            try dsimp only [set0,setS]
            refine g_op (v := Value.bool true) rfl rfl rfl ?_
            refine g_d rfl ?_
            refine g_op_not rfl rfl ?_
            refine g_d rfl ?_
            refine g_op_not rfl rfl ?_
            refine g_d rfl ?_
            refine g_op_not rfl rfl ?_
            refine g_d rfl ?_
            refine g_op_not rfl rfl ?_
            refine g_d rfl ?_
            try dsimp only [set0,setS]
            refine g_op_not rfl rfl ?_
            refine g_d rfl ?_
            try dsimp only [set0,setS]
            refine g_op (v := Value.bool true) rfl rfl rfl ?_
            refine g_d rfl ?_
            try dsimp only [set0,setS]
            refine g_op (v := Value.bool true) rfl rfl rfl ?_
            refine g_d rfl ?_
            refine g_op_not rfl rfl ?_
            refine g_d rfl ?_
            refine g_op_not rfl rfl ?_
            refine g_d rfl ?_
            try dsimp only [set0,setS]
            refine g_op_not rfl rfl ?_
            refine g_d rfl ?_
            try dsimp only [set0,setS]
            refine g_op_not rfl rfl ?_
            refine g_d rfl ?_
            try dsimp only [set0,setS]
            refine g_op (v := Value.bool true) rfl rfl rfl ?_
            refine g_d rfl ?_
            try dsimp only [set0,setS]
            refine g_op (v := Value.bool true) rfl rfl rfl ?_
            refine g_d rfl ?_
            refine g_op_not rfl rfl ?_
            refine g_d rfl ?_
            refine g_op_not rfl rfl ?_
            refine g_d rfl ?_
            try dsimp only [set0,setS]
            refine g_op_not rfl rfl ?_
            refine g_d rfl ?_
            try dsimp only [set0,setS]
            refine g_op_not rfl rfl ?_
            refine g_d rfl ?_
            try dsimp only [set0,setS]
            refine g_op (v := Value.bool true) rfl rfl rfl ?_
            refine g_d rfl ?_
            try dsimp only [set0,setS]
            refine g_op (v := Value.bool true) rfl rfl rfl ?_
            refine g_d rfl ?_
            refine g_op_not rfl rfl ?_
            refine g_d rfl ?_
            refine g_op_not rfl rfl ?_
            refine g_d rfl ?_
            try dsimp only [set0,setS]
            refine g_op_not rfl rfl ?_
            refine g_d rfl ?_
            try dsimp only [set0,setS]
            refine g_op_not rfl rfl ?_
            refine g_d rfl ?_
            try dsimp only [set0,setS]
            refine g_op (v := Value.bool true) rfl rfl rfl ?_
            refine g_d rfl ?_
            try dsimp only [set0,setS]
            refine g_ops_nil ?_
            refine g_cond_true rfl ?_
            refine g_seq ?_
            refine g_region ?_
            show G _ _ _ (.inRegion _ [0] :: _) _ _
            refine g_op (v := Value.bool false) rfl rfl rfl ?_
            refine g_d rfl ?_
            try dsimp only [set0,setS]
            refine g_ops_nil ?_
            obtain rfl := Option.some.inj H
            refine g_ret Try.func3 (v := Value.bool false) (res1 rfl rfl) ?_
            have hs : St _ [] _ := St.take (Γ' := [_,_,_,_,_,_]) hs
            exact ⟨_, rfl, rfl, hs⟩
           ·
            intro hb
            rw [if_pos (b_bne_f hb)] at H
            refine g_d rfl ?_
            try dsimp only [set0,setS]
            refine g_op (v := Value.bool false) rfl rfl rfl ?_
            refine g_d rfl ?_
            refine g_op (v := Value.int .i64 r26.2) rfl rfl rfl ?_
            refine g_d rfl ?_
            refine g_op (v := Value.bool (r26.2 != 0)) rfl rfl rfl ?_
            refine g_d rfl ?_
            try dsimp only [set0,setS]
            refine g_op_b (B := r26.2 != 0) rfl rfl rfl ?_ ?_
            ·
             intro hb
             rw [if_neg (b_bne_t hb)] at H
             refine g_d rfl ?_
             try dsimp only [set0,setS]
             refine g_op (v := Value.bool true) rfl rfl rfl ?_
             refine g_d rfl ?_
             refine g_op_not rfl rfl ?_
             refine g_d rfl ?_
             refine g_op_not rfl rfl ?_
             refine g_d rfl ?_
             refine g_op_not rfl rfl ?_
             refine g_d rfl ?_
             refine g_op_not rfl rfl ?_
             refine g_d rfl ?_
             try dsimp only [set0,setS]
             refine g_op_not rfl rfl ?_
             refine g_d rfl ?_
             try dsimp only [set0,setS]
             refine g_op (v := Value.bool true) rfl rfl rfl ?_
             refine g_d rfl ?_
             try dsimp only [set0,setS]
             refine g_op (v := Value.bool true) rfl rfl rfl ?_
             refine g_d rfl ?_
             refine g_op_not rfl rfl ?_
             refine g_d rfl ?_
             refine g_op_not rfl rfl ?_
             refine g_d rfl ?_
             try dsimp only [set0,setS]
             refine g_op_not rfl rfl ?_
             refine g_d rfl ?_
             try dsimp only [set0,setS]
             refine g_op_not rfl rfl ?_
             refine g_d rfl ?_
             try dsimp only [set0,setS]
             refine g_op (v := Value.bool true) rfl rfl rfl ?_
             refine g_d rfl ?_
             try dsimp only [set0,setS]
             refine g_op (v := Value.bool true) rfl rfl rfl ?_
             refine g_d rfl ?_
             refine g_op_not rfl rfl ?_
             refine g_d rfl ?_
             refine g_op_not rfl rfl ?_
             refine g_d rfl ?_
             try dsimp only [set0,setS]
             refine g_op_not rfl rfl ?_
             refine g_d rfl ?_
             try dsimp only [set0,setS]
             refine g_op_not rfl rfl ?_
             refine g_d rfl ?_
             try dsimp only [set0,setS]
             refine g_op (v := Value.bool true) rfl rfl rfl ?_
             refine g_d rfl ?_
             try dsimp only [set0,setS]
             refine g_op (v := Value.bool true) rfl rfl rfl ?_
             refine g_d rfl ?_
             refine g_op_not rfl rfl ?_
             refine g_d rfl ?_
             refine g_op_not rfl rfl ?_
             refine g_d rfl ?_
             try dsimp only [set0,setS]
             refine g_op_not rfl rfl ?_
             refine g_d rfl ?_
             try dsimp only [set0,setS]
             refine g_op_not rfl rfl ?_
             refine g_d rfl ?_
             try dsimp only [set0,setS]
             refine g_op (v := Value.bool true) rfl rfl rfl ?_
             refine g_d rfl ?_
             try dsimp only [set0,setS]
             refine g_ops_nil ?_
             refine g_cond_true rfl ?_
             refine g_seq ?_
             refine g_region ?_
             show G _ _ _ (.inRegion _ [0] :: _) _ _
             refine g_op (v := Value.bool false) rfl rfl rfl ?_
             refine g_d rfl ?_
             try dsimp only [set0,setS]
             refine g_ops_nil ?_
             obtain rfl := Option.some.inj H
             refine g_ret Try.func3 (v := Value.bool false) (res1 rfl rfl) ?_
             have hs : St _ [] _ := St.take (Γ' := [_,_,_,_,_,_]) hs
             exact ⟨_, rfl, rfl, hs⟩
            ·
             intro hb
             rw [if_pos (b_bne_f hb)] at H
             refine g_d rfl ?_
             try dsimp only [set0,setS]
             refine g_op (v := Value.bool false) rfl rfl rfl ?_
             refine g_d rfl ?_
             refine g_op (v := Value.int .i64 r24.1) rfl rfl rfl ?_
             refine g_d rfl ?_
             refine g_op (v := Value.int .i64 r25.1) rfl rfl rfl ?_
             refine g_d rfl ?_
             refine g_op (v := Value.int .i64 r26.1) rfl rfl rfl ?_
             refine g_d rfl ?_
             refine g_op (v := Value.int .i64 (i64w (r25.1 + r26.1))) rfl rfl rfl ?_
             refine g_d rfl ?_
             try dsimp only [set0,setS]
             refine g_op (v := Value.bool (r24.1 != (i64w (r25.1 + r26.1)))) rfl rfl rfl ?_
             refine g_d rfl ?_
             try dsimp only [set0,setS]
             refine g_op_b (B := r24.1 != (i64w (r25.1 + r26.1))) rfl rfl rfl ?_ ?_
             ·
              intro hb
              rw [if_neg (b_bne_t hb)] at H
              refine g_d rfl ?_
              try dsimp only [set0,setS]
              refine g_op (v := Value.bool true) rfl rfl rfl ?_
              refine g_d rfl ?_
              refine g_op_not rfl rfl ?_
              refine g_d rfl ?_
              refine g_op_not rfl rfl ?_
              refine g_d rfl ?_
              try dsimp only [set0,setS]
              refine g_op_not rfl rfl ?_
              refine g_d rfl ?_
              try dsimp only [set0,setS]
              refine g_op_not rfl rfl ?_
              refine g_d rfl ?_
              try dsimp only [set0,setS]
              refine g_op (v := Value.bool true) rfl rfl rfl ?_
              refine g_d rfl ?_
              try dsimp only [set0,setS]
              refine g_op (v := Value.bool true) rfl rfl rfl ?_
              refine g_d rfl ?_
              refine g_op_not rfl rfl ?_
              refine g_d rfl ?_
              refine g_op_not rfl rfl ?_
              refine g_d rfl ?_
              try dsimp only [set0,setS]
              refine g_op_not rfl rfl ?_
              refine g_d rfl ?_
              try dsimp only [set0,setS]
              refine g_op_not rfl rfl ?_
              refine g_d rfl ?_
              try dsimp only [set0,setS]
              refine g_op (v := Value.bool true) rfl rfl rfl ?_
              refine g_d rfl ?_
              try dsimp only [set0,setS]
              refine g_op (v := Value.bool true) rfl rfl rfl ?_
              refine g_d rfl ?_
              refine g_op_not rfl rfl ?_
              refine g_d rfl ?_
              refine g_op_not rfl rfl ?_
              refine g_d rfl ?_
              try dsimp only [set0,setS]
              refine g_op_not rfl rfl ?_
              refine g_d rfl ?_
              try dsimp only [set0,setS]
              refine g_op_not rfl rfl ?_
              refine g_d rfl ?_
              try dsimp only [set0,setS]
              refine g_op (v := Value.bool true) rfl rfl rfl ?_
              refine g_d rfl ?_
              try dsimp only [set0,setS]
              refine g_ops_nil ?_
              refine g_cond_true rfl ?_
              refine g_seq ?_
              refine g_region ?_
              show G _ _ _ (.inRegion _ [0] :: _) _ _
              refine g_op (v := Value.bool false) rfl rfl rfl ?_
              refine g_d rfl ?_
              try dsimp only [set0,setS]
              refine g_ops_nil ?_
              obtain rfl := Option.some.inj H
              refine g_ret Try.func3 (v := Value.bool false) (res1 rfl rfl) ?_
              have hs : St _ [] _ := St.take (Γ' := [_,_,_,_,_,_]) hs
              exact ⟨_, rfl, rfl, hs⟩
             ·
              intro hb
              rw [if_pos (b_bne_f hb)] at H
              refine g_d rfl ?_
              try dsimp only [set0,setS]
              refine g_op (v := Value.bool false) rfl rfl rfl ?_
              refine g_d rfl ?_
              refine g_op (v := Value.int .i64 r7.1) rfl rfl rfl ?_
              refine g_d rfl ?_
              refine s_loadA rfl rfl (es := ((encA (encI .i64)) r7.2)) rfl rfl (fun _ => rfl) (n := 4) (fun _ => rfl) ((fkA (n := 4) (he := (fkI .i64).len) (h1 := (fkI .i64).one)).len _) (cells_all (hs.cells 5 rfl)) ?_
              refine g_d rfl ?_
              try dsimp only [set0,setS]
              obtain ⟨r27, Hr27, H⟩ := bind_get H
              refine s_call (args := [Value.int .i64 r7.1, Value.agg ((encA (encI .i64)) r7.2).toArray]) rfl rfl (x_call rfl (callFunc_enter Try.func11 rfl rfl) rfl) (impl_ValidState.calls (a1 := r7.1) (a2 := r7.2) Hr27) ?_
              rintro _ w ⟨rfl, hs2⟩
              have hs : St _ [_,_,_,_,_,_] _ := hs.call hs2
              refine g_d rfl ?_
              try dsimp only [set0,setS]
              refine g_op (v := Value.bool (!r27)) rfl rfl rfl ?_
              refine g_d rfl ?_
              try dsimp only [set0,setS]
              refine g_op_b (B := !r27) rfl rfl rfl ?_ ?_
              ·
               intro hb
               rw [if_neg (b_not_t hb)] at H
               refine g_d rfl ?_
               try dsimp only [set0,setS]
               refine g_op (v := Value.bool true) rfl rfl rfl ?_
               refine g_d rfl ?_
               refine g_op_not rfl rfl ?_
               refine g_d rfl ?_
               refine g_op_not rfl rfl ?_
               refine g_d rfl ?_
               try dsimp only [set0,setS]
               refine g_op_not rfl rfl ?_
               refine g_d rfl ?_
               try dsimp only [set0,setS]
               refine g_op_not rfl rfl ?_
               refine g_d rfl ?_
               try dsimp only [set0,setS]
               refine g_op (v := Value.bool true) rfl rfl rfl ?_
               refine g_d rfl ?_
               try dsimp only [set0,setS]
               refine g_op (v := Value.bool true) rfl rfl rfl ?_
               refine g_d rfl ?_
               refine g_op_not rfl rfl ?_
               refine g_d rfl ?_
               refine g_op_not rfl rfl ?_
               refine g_d rfl ?_
               try dsimp only [set0,setS]
               refine g_op_not rfl rfl ?_
               refine g_d rfl ?_
               try dsimp only [set0,setS]
               refine g_op_not rfl rfl ?_
               refine g_d rfl ?_
               try dsimp only [set0,setS]
               refine g_op (v := Value.bool true) rfl rfl rfl ?_
               refine g_d rfl ?_
               try dsimp only [set0,setS]
               refine g_ops_nil ?_
               refine g_cond_true rfl ?_
               refine g_seq ?_
               refine g_region ?_
               show G _ _ _ (.inRegion _ [0] :: _) _ _
               refine g_op (v := Value.bool false) rfl rfl rfl ?_
               refine g_d rfl ?_
               try dsimp only [set0,setS]
               refine g_ops_nil ?_
               obtain rfl := Option.some.inj H
               refine g_ret Try.func3 (v := Value.bool false) (res1 rfl rfl) ?_
               have hs : St _ [] _ := St.take (Γ' := [_,_,_,_,_,_]) hs
               exact ⟨_, rfl, rfl, hs⟩
              ·
               intro hb
               rw [if_pos (b_not_f hb)] at H
               refine g_d rfl ?_
               try dsimp only [set0,setS]
               refine g_op (v := Value.bool false) rfl rfl rfl ?_
               refine g_d rfl ?_
               refine g_op (v := Value.int .i64 r7.1) rfl rfl rfl ?_
               refine g_d rfl ?_
               refine s_loadA rfl rfl (es := ((encA (encI .i64)) r19.1)) rfl rfl (fun _ => rfl) (n := 4) (fun _ => rfl) ((fkA (n := 4) (he := (fkI .i64).len) (h1 := (fkI .i64).one)).len _) (cells_all (hs.cells 1 rfl)) ?_
               refine g_d rfl ?_
               try dsimp only [set0,setS]
               obtain ⟨r28, Hr28, H⟩ := bind_get H
               refine s_call (args := [Value.int .i64 r7.1, Value.agg ((encA (encI .i64)) r19.1).toArray]) rfl rfl (x_call rfl (callFunc_enter Try.func11 rfl rfl) rfl) (impl_ValidState.calls (a1 := r7.1) (a2 := r19.1) Hr28) ?_
               rintro _ w ⟨rfl, hs2⟩
               have hs : St _ [_,_,_,_,_,_] _ := hs.call hs2
               refine g_d rfl ?_
               try dsimp only [set0,setS]
               refine g_op (v := Value.bool (!r28)) rfl rfl rfl ?_
               refine g_d rfl ?_
               try dsimp only [set0,setS]
               refine g_op_b (B := !r28) rfl rfl rfl ?_ ?_
               ·
                intro hb
                rw [if_neg (b_not_t hb)] at H
                refine g_d rfl ?_
                try dsimp only [set0,setS]
                refine g_op (v := Value.bool true) rfl rfl rfl ?_
                refine g_d rfl ?_
                refine g_op_not rfl rfl ?_
                refine g_d rfl ?_
                refine g_op_not rfl rfl ?_
                refine g_d rfl ?_
                try dsimp only [set0,setS]
                refine g_op_not rfl rfl ?_
                refine g_d rfl ?_
                try dsimp only [set0,setS]
                refine g_op_not rfl rfl ?_
                refine g_d rfl ?_
                try dsimp only [set0,setS]
                refine g_op (v := Value.bool true) rfl rfl rfl ?_
                refine g_d rfl ?_
                try dsimp only [set0,setS]
                refine g_ops_nil ?_
                refine g_cond_true rfl ?_
                refine g_seq ?_
                refine g_region ?_
                show G _ _ _ (.inRegion _ [0] :: _) _ _
                refine g_op (v := Value.bool false) rfl rfl rfl ?_
                refine g_d rfl ?_
                try dsimp only [set0,setS]
                refine g_ops_nil ?_
                obtain rfl := Option.some.inj H
                refine g_ret Try.func3 (v := Value.bool false) (res1 rfl rfl) ?_
                have hs : St _ [] _ := St.take (Γ' := [_,_,_,_,_,_]) hs
                exact ⟨_, rfl, rfl, hs⟩
               ·
                intro hb
                rw [if_pos (b_not_f hb)] at H
                refine g_d rfl ?_
                try dsimp only [set0,setS]
                refine g_op (v := Value.bool false) rfl rfl rfl ?_
                refine g_d rfl ?_
                refine g_op (v := Value.int .i64 r7.1) rfl rfl rfl ?_
                refine g_d rfl ?_
                refine s_loadA rfl rfl (es := ((encA (encI .i64)) r19.2.1)) rfl rfl (fun _ => rfl) (n := 4) (fun _ => rfl) ((fkA (n := 4) (he := (fkI .i64).len) (h1 := (fkI .i64).one)).len _) (cells_all (hs.cells 0 rfl)) ?_
                refine g_d rfl ?_
                try dsimp only [set0,setS]
                obtain ⟨r29, Hr29, H⟩ := bind_get H
                refine s_call (args := [Value.int .i64 r7.1, Value.agg ((encA (encI .i64)) r19.2.1).toArray]) rfl rfl (x_call rfl (callFunc_enter Try.func11 rfl rfl) rfl) (impl_ValidState.calls (a1 := r7.1) (a2 := r19.2.1) Hr29) ?_
                rintro _ w ⟨rfl, hs2⟩
                have hs : St _ [_,_,_,_,_,_] _ := hs.call hs2
                cases r29 with
                | true =>
                  rw [if_pos rfl] at H
                  refine g_d rfl ?_
                  try dsimp only [set0,setS]
                  refine g_op (v := Value.bool false) rfl rfl rfl ?_
                  refine g_d rfl ?_
                  try dsimp only [set0,setS]
                  refine g_op (v := Value.bool false) rfl rfl rfl ?_
                  refine g_d rfl ?_
                  try dsimp only [set0,setS]
                  refine g_ops_nil ?_
                  refine g_cond_false rfl ?_
                  refine g_skip ?_
                  refine g_seq ?_
                  refine g_region ?_
                  show G _ _ _ (.inRegion _ [0, 1, 2, 3, 4, 5, 6, 7, 8] :: _) _ _
                  refine g_op (v := Value.int .i64 r7.1) rfl rfl rfl ?_
                  refine g_d rfl ?_
                  refine s_loadA rfl rfl (es := ((encA (encI .i64)) r7.2)) rfl rfl (fun _ => rfl) (n := 4) (fun _ => rfl) ((fkA (n := 4) (he := (fkI .i64).len) (h1 := (fkI .i64).one)).len _) (cells_all (hs.cells 5 rfl)) ?_
                  refine g_d rfl ?_
                  try dsimp only [set0,setS]
                  obtain ⟨r30, Hr30, H⟩ := bind_get H
                  refine s_call (args := [Value.int .i64 r7.1, Value.agg ((encA (encI .i64)) r7.2).toArray]) rfl rfl (x_call rfl (callFunc_enter Try.func12 rfl rfl) rfl) (impl_HalfOf.calls (a1 := r7.1) (a2 := r7.2) Hr30) ?_
                  rintro _ w ⟨rfl, hs2⟩
                  have hs : St _ [_,_,_,_,_,_] _ := hs.call hs2
                  refine g_d rfl ?_
                  try dsimp only [set0,setS]
                  refine g_op (v := Value.tuple #[Value.agg ((encA (encI .i64)) r30.1).toArray, Value.int .i64 r30.2]) rfl rfl rfl ?_
                  refine g_d rfl ?_
                  refine g_op (v := Value.agg ((encA (encI .i64)) r30.1).toArray) rfl rfl rfl ?_
                  refine g_d rfl ?_
                  refine g_op (v := Value.int .i64 r30.2) rfl rfl rfl ?_
                  refine g_d rfl ?_
                  refine s_alloc hs rfl rfl (z := (Value.agg #[Value.int .i64 0, Value.int .i64 0, Value.int .i64 0, Value.int .i64 0])) (cs := ((encA (encI .i64)) (Ar.rep 4 0))) rfl (fun _ => rfl) rfl ?_
                  intro b31 w hs
                  refine g_d rfl ?_
                  try dsimp only [set0,setS]
                  refine s_storeAll (n := 4) hs ((fkA (n := 4) (he := (fkI .i64).len) (h1 := (fkI .i64).one)).len _) rfl rfl (vs := ((encA (encI .i64)) r30.1)) rfl rfl rfl (fun _ => rfl) ((fkA (n := 4) (he := (fkI .i64).len) (h1 := (fkI .i64).one)).len _) ((fkA (n := 4) (he := (fkI .i64).len) (h1 := (fkI .i64).one)).one _) ?_
                  intro w hs
                  refine g_n rfl ?_
                  refine g_op (v := Value.int .i64 r30.2) rfl rfl rfl ?_
                  refine g_d rfl ?_
                  try dsimp only [set0,setS]
                  refine g_ops_nil ?_
                  refine g_seq ?_
                  refine g_region ?_
                  show G _ _ _ (.inRegion _ [0, 1, 2, 3, 4, 5, 6, 7, 8] :: _) _ _
                  refine g_op (v := Value.int .i64 r7.1) rfl rfl rfl ?_
                  refine g_d rfl ?_
                  refine s_loadA rfl rfl (es := ((encA (encI .i64)) r7.2)) rfl rfl (fun _ => rfl) (n := 4) (fun _ => rfl) ((fkA (n := 4) (he := (fkI .i64).len) (h1 := (fkI .i64).one)).len _) (cells_all (hs.cells 6 rfl)) ?_
                  refine g_d rfl ?_
                  try dsimp only [set0,setS]
                  obtain ⟨r33, Hr33, H⟩ := bind_get H
                  refine s_call (args := [Value.int .i64 r7.1, Value.agg ((encA (encI .i64)) r7.2).toArray]) rfl rfl (x_call rfl (callFunc_enter Try.func13 rfl rfl) rfl) (spec_HalfOf.calls (a1 := r7.1) (a2 := r7.2) Hr33) ?_
                  rintro _ w ⟨rfl, hs2⟩
                  have hs : St _ [_,_,_,_,_,_,_] _ := hs.call hs2
                  refine g_d rfl ?_
                  try dsimp only [set0,setS]
                  refine g_op (v := Value.tuple #[Value.agg ((encA (encI .i64)) r33.1).toArray, Value.int .i64 r33.2]) rfl rfl rfl ?_
                  refine g_d rfl ?_
                  refine g_op (v := Value.agg ((encA (encI .i64)) r33.1).toArray) rfl rfl rfl ?_
                  refine g_d rfl ?_
                  refine g_op (v := Value.int .i64 r33.2) rfl rfl rfl ?_
                  refine g_d rfl ?_
                  refine s_alloc hs rfl rfl (z := (Value.agg #[Value.int .i64 0, Value.int .i64 0, Value.int .i64 0, Value.int .i64 0])) (cs := ((encA (encI .i64)) (Ar.rep 4 0))) rfl (fun _ => rfl) rfl ?_
                  intro b34 w hs
                  refine g_d rfl ?_
                  try dsimp only [set0,setS]
                  refine s_storeAll (n := 4) hs ((fkA (n := 4) (he := (fkI .i64).len) (h1 := (fkI .i64).one)).len _) rfl rfl (vs := ((encA (encI .i64)) r33.1)) rfl rfl rfl (fun _ => rfl) ((fkA (n := 4) (he := (fkI .i64).len) (h1 := (fkI .i64).one)).len _) ((fkA (n := 4) (he := (fkI .i64).len) (h1 := (fkI .i64).one)).one _) ?_
                  intro w hs
                  refine g_n rfl ?_
                  refine g_op (v := Value.int .i64 r33.2) rfl rfl rfl ?_
                  refine g_d rfl ?_
                  try dsimp only [set0,setS]
                  refine g_ops_nil ?_
                  refine g_seq ?_
                  refine g_seq ?_
                  refine g_region ?_
                  show G _ _ _ (.inRegion _ [0, 1, 2, 3, 4, 5, 6, 7, 8, 9, 10, 11] :: _) _ _
                  refine g_op (v := Value.int .i64 r30.2) rfl rfl rfl ?_
                  refine g_d rfl ?_
                  refine g_op (v := Value.int .i64 r33.2) rfl rfl rfl ?_
                  refine g_d rfl ?_
                  refine g_op_b (B := r30.2 != r33.2) rfl rfl rfl ?_ ?_
                  ·
                   intro hb
                   rw [if_neg (b_bne_t hb)] at H
                   refine g_d rfl ?_
                   try dsimp only [set0,setS]
                   refine g_op (v := Value.bool true) rfl rfl rfl ?_
                   refine g_d rfl ?_
                   refine g_op_not rfl rfl ?_
                   refine g_d rfl ?_
                   refine g_op_not rfl rfl ?_
                   refine g_d rfl ?_
                   try dsimp only [set0,setS]
                   refine g_op (v := Value.bool true) rfl rfl rfl ?_
                   refine g_d rfl ?_
                   try dsimp only [set0,setS]
                   refine g_op (v := Value.bool true) rfl rfl rfl ?_
                   refine g_d rfl ?_
                   refine g_op_not rfl rfl ?_
                   refine g_d rfl ?_
                   try dsimp only [set0,setS]
                   refine g_op_not rfl rfl ?_
                   refine g_d rfl ?_
                   try dsimp only [set0,setS]
                   refine g_op_not rfl rfl ?_
                   refine g_d rfl ?_
                   try dsimp only [set0,setS]
                   refine g_op (v := Value.bool true) rfl rfl rfl ?_
                   refine g_d rfl ?_
                   try dsimp only [set0,setS]
                   refine g_ops_nil ?_
                   refine g_cond_true rfl ?_
                   refine g_seq ?_
                   refine g_region ?_
                   show G _ _ _ (.inRegion _ [0] :: _) _ _
                   refine g_op (v := Value.bool false) rfl rfl rfl ?_
                   refine g_d rfl ?_
                   try dsimp only [set0,setS]
                   refine g_ops_nil ?_
                   obtain rfl := Option.some.inj H
                   refine g_ret Try.func3 (v := Value.bool false) (res1 rfl rfl) ?_
                   have hs : St _ [] _ := St.take (Γ' := [_,_,_,_,_,_,_,_]) hs
                   exact ⟨_, rfl, rfl, hs⟩
                  ·
                   intro hb
                   rw [if_pos (b_bne_f hb)] at H
                   refine g_d rfl ?_
                   try dsimp only [set0,setS]
                   refine g_op (v := Value.bool false) rfl rfl rfl ?_
                   refine g_d rfl ?_
                   refine g_op (v := Value.int .i64 r30.2) rfl rfl rfl ?_
                   refine g_d rfl ?_
                   refine g_op (v := Value.bool (r30.2 != 0)) rfl rfl rfl ?_
                   refine g_d rfl ?_
                   try dsimp only [set0,setS]
                   refine g_op_b (B := r30.2 != 0) rfl rfl rfl ?_ ?_
                   ·
                    intro hb
                    rw [if_neg (b_bne_t hb)] at H
                    refine g_d rfl ?_
                    try dsimp only [set0,setS]
                    refine g_op (v := Value.bool true) rfl rfl rfl ?_
                    refine g_d rfl ?_
                    refine g_op_not rfl rfl ?_
                    refine g_d rfl ?_
                    try dsimp only [set0,setS]
                    refine g_op_not rfl rfl ?_
                    refine g_d rfl ?_
                    try dsimp only [set0,setS]
                    refine g_op_not rfl rfl ?_
                    refine g_d rfl ?_
                    try dsimp only [set0,setS]
                    refine g_op (v := Value.bool true) rfl rfl rfl ?_
                    refine g_d rfl ?_
                    try dsimp only [set0,setS]
                    refine g_ops_nil ?_
                    refine g_cond_true rfl ?_
                    refine g_seq ?_
                    refine g_region ?_
                    show G _ _ _ (.inRegion _ [0] :: _) _ _
                    refine g_op (v := Value.bool false) rfl rfl rfl ?_
                    refine g_d rfl ?_
                    try dsimp only [set0,setS]
                    refine g_ops_nil ?_
                    obtain rfl := Option.some.inj H
                    refine g_ret Try.func3 (v := Value.bool false) (res1 rfl rfl) ?_
                    have hs : St _ [] _ := St.take (Γ' := [_,_,_,_,_,_,_,_]) hs
                    exact ⟨_, rfl, rfl, hs⟩
                   ·
                    intro hb
                    rw [if_pos (b_bne_f hb)] at H
                    refine g_d rfl ?_
                    try dsimp only [set0,setS]
                    refine g_op (v := Value.bool false) rfl rfl rfl ?_
                    refine g_d rfl ?_
                    refine s_loadA rfl rfl (es := ((encA (encI .i64)) r30.1)) rfl rfl (fun _ => rfl) (n := 4) (fun _ => rfl) ((fkA (n := 4) (he := (fkI .i64).len) (h1 := (fkI .i64).one)).len _) (cells_all (hs.cells 1 rfl)) ?_
                    refine g_d rfl ?_
                    try dsimp only [set0,setS]
                    refine s_loadA rfl rfl (es := ((encA (encI .i64)) r33.1)) rfl rfl (fun _ => rfl) (n := 4) (fun _ => rfl) ((fkA (n := 4) (he := (fkI .i64).len) (h1 := (fkI .i64).one)).len _) (cells_all (hs.cells 0 rfl)) ?_
                    refine g_d rfl ?_
                    try dsimp only [set0,setS]
                    refine g_op_b (B := !decide (r30.1 = r33.1)) rfl rfl (x_neq rfl rfl rfl eq_ar4_25_g (eq_ar4_25 _ _ _)) ?_ ?_
                    ·
                     intro hb
                     rw [if_neg (b_ndec_t hb)] at H
                     refine g_d rfl ?_
                     try dsimp only [set0,setS]
                     refine g_op (v := Value.bool true) rfl rfl rfl ?_
                     refine g_d rfl ?_
                     try dsimp only [set0,setS]
                     refine g_ops_nil ?_
                     refine g_cond_true rfl ?_
                     refine g_seq ?_
                     refine g_region ?_
                     show G _ _ _ (.inRegion _ [0] :: _) _ _
                     refine g_op (v := Value.bool false) rfl rfl rfl ?_
                     refine g_d rfl ?_
                     try dsimp only [set0,setS]
                     refine g_ops_nil ?_
                     obtain rfl := Option.some.inj H
                     refine g_ret Try.func3 (v := Value.bool false) (res1 rfl rfl) ?_
                     have hs : St _ [] _ := St.take (Γ' := [_,_,_,_,_,_,_,_]) hs
                     exact ⟨_, rfl, rfl, hs⟩
                    ·
                     intro hb
                     rw [if_pos (b_ndec_f hb)] at H
                     refine g_d rfl ?_
                     try dsimp only [set0,setS]
                     refine g_op (v := Value.bool false) rfl rfl rfl ?_
                     refine g_d rfl ?_
                     try dsimp only [set0,setS]
                     refine g_ops_nil ?_
                     refine g_cond_false rfl ?_
                     refine g_skip ?_
                     refine g_seq ?_
                     refine g_region ?_
                     show G _ _ _ (.inRegion _ [0] :: _) _ _
                     refine g_op (v := Value.int .i64 0) rfl rfl rfl ?_
                     refine g_d rfl ?_
                     try dsimp only [set0,setS]
                     refine g_ops_nil ?_
                     refine g_seq ?_
                     refine g_seq ?_
                     refine g_region ?_
                     show G _ _ _ (.inRegion _ [0] :: _) _ _
                     refine g_op (v := Value.int .i64 0) rfl rfl rfl ?_
                     refine g_d rfl ?_
                     try dsimp only [set0,setS]
                     refine g_ops_nil ?_
                     obtain ⟨o1_, Ho, Hr1_⟩ := bind_get H
                     refine g_block_join (J := fun t w => ∃ x38 : Int, laws_FnWeighed.a0 N r7 x38 = some r ∧ Fr t (fun O => (O 0::O 1::O 2::O 3::O 4::Value.int .i64 r7.1::Value.pointer (some ⟨b8, 0, none⟩)::O 7::O 8::O 9::O 10::O 11::O 12::O 13::O 14::O 15::O 16::O 17::O 18::O 19::O 20::O 21::O 22::O 23::O 24::Value.int .i64 x38::O 26::O 27::O 28::O 29::O 30::O 31::O 32::O 33::O 34::O 35::O 36::O 37::O 38::O 39::O 40::O 41::O 42::O 43::O 44::O 45::O 46::O 47::O 48::O 49::O 50::O 51::O 52::O 53::O 54::O 55::O 56::O 57::O 58::O 59::O 60::O 61::O 62::O 63::O 64::O 65::O 66::O 67::O 68::O 69::O 70::O 71::O 72::O 73::O 74::O 75::O 76::O 77::O 78::O 79::O 80::O 81::O 82::O 83::O 84::O 85::O 86::O 87::O 88::O 89::O 90::O 91::O 92::O 93::O 94::O 95::O 96::O 97::O 98::O 99::O 100::O 101::O 102::O 103::O 104::O 105::O 106::O 107::O 108::O 109::O 110::O 111::O 112::O 113::O 114::O 115::O 116::O 117::O 118::O 119::O 120::O 121::O 122::O 123::O 124::O 125::O 126::O 127::O 128::O 129::O 130::O 131::O 132::O 133::O 134::O 135::O 136::O 137::O 138::O 139::O 140::O 141::O 142::O 143::O 144::O 145::O 146::O 147::O 148::O 149::O 150::O 151::O 152::O 153::O 154::O 155::O 156::O 157::O 158::O 159::O 160::O 161::O 162::O 163::O 164::O 165::O 166::O 167::O 168::O 169::O 170::O 171::O 172::O 173::O 174::O 175::O 176::O 177::O 178::O 179::O 180::O 181::O 182::O 183::O 184::O 185::O 186::O 187::O 188::O 189::O 190::O 191::O 192::O 193::O 194::O 195::O 196::O 197::O 198::O 199::O 200::O 201::O 202::O 203::O 204::O 205::O 206::O 207::O 208::O 209::O 210::O 211::O 212::O 213::O 214::O 215::O 216::O 217::O 218::O 219::O 220::O 221::O 222::O 223::O 224::O 225::O 226::O 227::O 228::O 229::O 230::O 231::O 232::O 233::O 234::O 235::O 236::O 237::O 238::O 239::O 240::O 241::O 242::O 243::O 244::O 245::O 246::O 247::O 248::O 249::O 250::O 251::O 252::O 253::O 254::O 255::O 256::O 257::O 258::O 259::O 260::O 261::O 262::O 263::O 264::O 265::O 266::O 267::O 268::O 269::O 270::O 271::O 272::O 273::O 274::O 275::O 276::O 277::O 278::O 279::O 280::O 281::O 282::O 283::O 284::O 285::O 286::O 287::O 288::O 289::O 290::O 291::O 292::O 293::O 294::O 295::O 296::O 297::O 298::O 299::O 300::O 301::O 302::O 303::O 304::O 305::O 306::O 307::O 308::O 309::O 310::O 311::O 312::O 313::O 314::O 315::O 316::O 317::O 318::O 319::O 320::O 321::O 322::O 323::O 324::O 325::O 326::O 327::O 328::O 329::O 330::O 331::O 332::O 333::O 334::O 335::O 336::O 337::O 338::O 339::O 340::O 341::O 342::O 343::O 344::O 345::O 346::O 347::O 348::O 349::O 350::O 351::O 352::O 353::O 354::O 355::O 356::O 357::O 358::O 359::O 360::O 361::O 362::O 363::O 364::[] : List Value)) ∧ St w0 [Cells b8 ((encA (encI .i64)) r7.2) 25] w) ?_ ?_
                     · exact laws_FnWeighed.seg3 hr0 hr1
                     ·
                      intro ha1_
                      have hs := hs.pull 0 rfl
                      have hs := hs.pull 7 rfl
                      have hs : St _ [_,_] _ := St.take (Γ' := [_,_,_,_,_,_]) hs
                      refine g_loop_fuel (I := fun n_ t w => ∃ x36 : Int, ∃ x37 : Int, rounds (fun s => laws_FnWeighed.b0 N r33 r7 s.1 s.2) n_ (x36, x37) = some o1_ ∧ Fr t (fun O => (O 0::O 1::O 2::O 3::O 4::Value.int .i64 r7.1::Value.pointer (some ⟨b8, 0, none⟩)::O 7::O 8::O 9::O 10::O 11::O 12::O 13::O 14::O 15::O 16::O 17::O 18::O 19::O 20::O 21::O 22::Value.pointer (some ⟨b34, 0, none⟩)::O 24::Value.int .i64 x36::Value.int .i64 x37::O 27::O 28::O 29::O 30::O 31::O 32::O 33::O 34::O 35::O 36::O 37::O 38::O 39::O 40::O 41::O 42::O 43::O 44::O 45::O 46::O 47::O 48::O 49::O 50::O 51::O 52::O 53::O 54::O 55::O 56::O 57::O 58::O 59::O 60::O 61::O 62::O 63::O 64::O 65::O 66::O 67::O 68::O 69::O 70::O 71::O 72::O 73::O 74::O 75::O 76::O 77::O 78::O 79::O 80::O 81::O 82::O 83::O 84::O 85::O 86::O 87::O 88::O 89::O 90::O 91::O 92::O 93::O 94::O 95::O 96::O 97::O 98::O 99::O 100::O 101::O 102::O 103::O 104::O 105::O 106::O 107::O 108::O 109::O 110::O 111::O 112::O 113::O 114::O 115::O 116::O 117::O 118::O 119::O 120::O 121::O 122::O 123::O 124::O 125::O 126::O 127::O 128::O 129::O 130::O 131::O 132::O 133::O 134::O 135::O 136::O 137::O 138::O 139::O 140::O 141::O 142::O 143::O 144::O 145::O 146::O 147::O 148::O 149::O 150::O 151::O 152::O 153::O 154::O 155::O 156::O 157::O 158::O 159::O 160::O 161::O 162::O 163::O 164::O 165::O 166::O 167::O 168::O 169::O 170::O 171::O 172::O 173::O 174::O 175::O 176::O 177::O 178::O 179::O 180::O 181::O 182::O 183::O 184::O 185::O 186::O 187::O 188::O 189::O 190::O 191::O 192::O 193::O 194::O 195::O 196::O 197::O 198::O 199::O 200::O 201::O 202::O 203::O 204::O 205::O 206::O 207::O 208::O 209::O 210::O 211::O 212::O 213::O 214::O 215::O 216::O 217::O 218::O 219::O 220::O 221::O 222::O 223::O 224::O 225::O 226::O 227::O 228::O 229::O 230::O 231::O 232::O 233::O 234::O 235::O 236::O 237::O 238::O 239::O 240::O 241::O 242::O 243::O 244::O 245::O 246::O 247::O 248::O 249::O 250::O 251::O 252::O 253::O 254::O 255::O 256::O 257::O 258::O 259::O 260::O 261::O 262::O 263::O 264::O 265::O 266::O 267::O 268::O 269::O 270::O 271::O 272::O 273::O 274::O 275::O 276::O 277::O 278::O 279::O 280::O 281::O 282::O 283::O 284::O 285::O 286::O 287::O 288::O 289::O 290::O 291::O 292::O 293::O 294::O 295::O 296::O 297::O 298::O 299::O 300::O 301::O 302::O 303::O 304::O 305::O 306::O 307::O 308::O 309::O 310::O 311::O 312::O 313::O 314::O 315::O 316::O 317::O 318::O 319::O 320::O 321::O 322::O 323::O 324::O 325::O 326::O 327::O 328::O 329::O 330::O 331::O 332::O 333::O 334::O 335::O 336::O 337::O 338::O 339::O 340::O 341::O 342::O 343::O 344::O 345::O 346::O 347::O 348::O 349::O 350::O 351::O 352::O 353::O 354::O 355::O 356::O 357::O 358::O 359::O 360::O 361::O 362::O 363::O 364::[] : List Value)) ∧ St w0 [Cells b8 ((encA (encI .i64)) r7.2) 25, Cells b34 ((encA (encI .i64)) r33.1) 25] w) N ⟨0, 0, Ho, rfl, hs⟩ ?_ ?_
                      ·
                       rintro _ _ ⟨x36, x37, h, _⟩
                       exact rounds_zero h
                      ·
                       intro n_ ih1_
                       rintro t w ⟨x36, x37, Ho, hf, hs⟩
                       obtain ⟨O, rfl⟩ := hf.open
                       try dsimp only
                       obtain ⟨x7_, H, Hx1_⟩ := rounds_succ Ho
                       have H : laws_FnWeighed.b0 N r33 r7 x36 x37 = some x7_ := H
                       unfold laws_FnWeighed.b0 at H
                       refine g_seq ?_
                       refine g_seq ?_
                       refine g_region ?_
                       show G _ _ _ (.inRegion _ [0, 1] :: _) _ _
                       refine g_op (v := Value.int .i64 x37) rfl rfl rfl ?_
                       refine g_d rfl ?_
                       refine g_op_b (B := decide (x37 < 4)) rfl rfl rfl ?_ ?_
                       ·
                        intro hb
                        rw [if_pos (b_dec_t hb)] at H
                        refine g_d rfl ?_
                        try dsimp only [set0,setS]
                        refine g_ops_nil ?_
                        refine g_cond_true rfl ?_
                        refine g_skip ?_
                        refine g_seq ?_
                        refine g_block ?_
                        obtain ⟨gd1, H⟩ := ite_get H
                        obtain ⟨gd2, H⟩ := ite_get H
                        refine g_name ?_
                        intro T hT
                        refine g_any (n := 11) rfl [0, 1, 2, 3, 4, 5, 6, 7, 8, 9, 10] [0, 1, 2, 3, 4, 5, 6, 7, 8, 9, 10] rfl rfl (Inv := fun D t w => ∃ O : Nat → Value, t = (O 0::O 1::O 2::O 3::O 4::Value.int .i64 r7.1::Value.pointer (some ⟨b8, 0, none⟩)::O 7::O 8::O 9::O 10::O 11::O 12::O 13::O 14::O 15::O 16::O 17::O 18::O 19::O 20::O 21::O 22::Value.pointer (some ⟨b34, 0, none⟩)::O 24::cnd (D 10) (Value.int .i64 (i64w (x36 + (i64w ((i64w (2 * (r33.1.get x37 0))) - (r7.2.get x37 0)))))) (Value.int .i64 x36)::Value.int .i64 x37::O 27::O 28::O 29::O 30::O 31::O 32::O 33::O 34::O 35::O 36::O 37::O 38::O 39::O 40::O 41::O 42::O 43::O 44::O 45::O 46::O 47::O 48::O 49::O 50::O 51::O 52::O 53::O 54::O 55::O 56::O 57::O 58::O 59::O 60::O 61::O 62::O 63::O 64::O 65::O 66::O 67::O 68::O 69::O 70::O 71::O 72::O 73::O 74::O 75::O 76::O 77::O 78::O 79::O 80::O 81::O 82::O 83::O 84::O 85::O 86::O 87::O 88::O 89::O 90::O 91::O 92::O 93::O 94::O 95::O 96::O 97::O 98::O 99::O 100::O 101::O 102::O 103::O 104::O 105::O 106::O 107::O 108::O 109::O 110::O 111::O 112::O 113::O 114::O 115::O 116::O 117::O 118::O 119::O 120::O 121::O 122::O 123::O 124::O 125::O 126::O 127::O 128::O 129::O 130::O 131::O 132::O 133::O 134::O 135::O 136::O 137::O 138::O 139::O 140::O 141::O 142::O 143::O 144::O 145::O 146::O 147::O 148::O 149::O 150::O 151::O 152::O 153::O 154::O 155::O 156::O 157::O 158::O 159::O 160::O 161::O 162::O 163::O 164::O 165::O 166::O 167::O 168::O 169::O 170::O 171::O 172::O 173::O 174::O 175::O 176::O 177::O 178::O 179::O 180::O 181::O 182::Value.int .i64 x37::Value.bool true::O 185::O 186::cnd (D 0) (Value.int .i64 x36) (O 187)::cnd (D 1) (Value.int .i64 x37) (O 188)::cnd (D 2) (Value.pointer (some ⟨b34, 0 + x37.toNat * 1, none⟩)) (O 189)::cnd (D 3) (Value.int .i64 (r33.1.get x37 0)) (O 190)::cnd (D 4) (Value.int .i64 (i64w (2 * (r33.1.get x37 0)))) (O 191)::cnd (D 5) (Value.int .i64 x37) (O 192)::cnd (D 6) (Value.pointer (some ⟨b8, 0 + x37.toNat * 1, none⟩)) (O 193)::cnd (D 7) (Value.int .i64 (r7.2.get x37 0)) (O 194)::cnd (D 8) (Value.int .i64 (i64w ((i64w (2 * (r33.1.get x37 0))) - (r7.2.get x37 0)))) (O 195)::cnd (D 9) (Value.int .i64 (i64w (x36 + (i64w ((i64w (2 * (r33.1.get x37 0))) - (r7.2.get x37 0)))))) (O 196)::O 197::O 198::O 199::O 200::O 201::O 202::O 203::O 204::O 205::O 206::O 207::O 208::O 209::O 210::O 211::O 212::O 213::O 214::O 215::O 216::O 217::O 218::O 219::O 220::O 221::O 222::O 223::O 224::O 225::O 226::O 227::O 228::O 229::O 230::O 231::O 232::O 233::O 234::O 235::O 236::O 237::O 238::O 239::O 240::O 241::O 242::O 243::O 244::O 245::O 246::O 247::O 248::O 249::O 250::O 251::O 252::O 253::O 254::O 255::O 256::O 257::O 258::O 259::O 260::O 261::O 262::O 263::O 264::O 265::O 266::O 267::O 268::O 269::O 270::O 271::O 272::O 273::O 274::O 275::O 276::O 277::O 278::O 279::O 280::O 281::O 282::O 283::O 284::O 285::O 286::O 287::O 288::O 289::O 290::O 291::O 292::O 293::O 294::O 295::O 296::O 297::O 298::O 299::O 300::O 301::O 302::O 303::O 304::O 305::O 306::O 307::O 308::O 309::O 310::O 311::O 312::O 313::O 314::O 315::O 316::O 317::O 318::O 319::O 320::O 321::O 322::O 323::O 324::O 325::O 326::O 327::O 328::O 329::O 330::O 331::O 332::O 333::O 334::O 335::O 336::O 337::O 338::O 339::O 340::O 341::O 342::O 343::O 344::O 345::O 346::O 347::O 348::O 349::O 350::O 351::O 352::O 353::O 354::O 355::O 356::O 357::O 358::O 359::O 360::O 361::O 362::O 363::O 364::[]) ∧ St w0 [Cells b8 ((encA (encI .i64)) r7.2) 25, Cells b34 ((encA (encI .i64)) r33.1) 25] w) ?_ ⟨⟨⟨⟨⟨⟨⟨⟨⟨⟨⟨trivial, ?_⟩, ?_⟩, ?_⟩, ?_⟩, ?_⟩, ?_⟩, ?_⟩, ?_⟩, ?_⟩, ?_⟩, ?_⟩ ?_
                        ·
                         intro w hh hbw
                         have hs := hs.samew hh hbw
                         exact ⟨fun i => T.getD i undef, (by subst hT; rfl), hs⟩
                        ·
                         intro D t w hD hp hcl hI rest hk
                         obtain ⟨O, ht, hs⟩ := hI
                         have q9_ : D 9 = false := not_yet (hcl.get 9 (by decide)) 0 0 rfl hD
                         have q10_ : D 10 = false := not_yet (hcl.get 10 (by decide)) 0 9 rfl q9_
                         simp only [hD, q9_, q10_, cnd_t, cnd_f, Asc_t, Asc_f] at ht hs
                         subst ht
                         refine g_op (v := Value.int .i64 x36) rfl rfl rfl ?_
                         refine g_d rfl ?_
                         try dsimp only [set0,setS]
                         exact hk _ _ ⟨O, (by simp only [upd, Nat.reduceBEq, Bool.true_or, Bool.false_or, q9_, q10_, cnd_t, cnd_f, Asc_t, Asc_f]), hs.cast (by first | rfl | simp only [List.take, List.drop, List.cons_append, List.nil_append, List.set_cons_zero, List.set_cons_succ, List.eraseIdx, upd, Nat.reduceBEq, Bool.true_or, Bool.false_or, q9_, q10_, cnd_t, cnd_f, Asc_t, Asc_f])⟩
                        ·
                         intro D t w hD hp hcl hI rest hk
                         obtain ⟨O, ht, hs⟩ := hI
                         have q2_ : D 2 = false := not_yet (hcl.get 2 (by decide)) 0 1 rfl hD
                         have q3_ : D 3 = false := not_yet (hcl.get 3 (by decide)) 0 2 rfl q2_
                         have q4_ : D 4 = false := not_yet (hcl.get 4 (by decide)) 0 3 rfl q3_
                         have q8_ : D 8 = false := not_yet (hcl.get 8 (by decide)) 0 4 rfl q4_
                         have q9_ : D 9 = false := not_yet (hcl.get 9 (by decide)) 1 8 rfl q8_
                         have q10_ : D 10 = false := not_yet (hcl.get 10 (by decide)) 0 9 rfl q9_
                         simp only [hD, q2_, q3_, q4_, q8_, q9_, q10_, cnd_t, cnd_f, Asc_t, Asc_f] at ht hs
                         subst ht
                         refine g_op (v := Value.int .i64 x37) rfl rfl rfl ?_
                         refine g_d rfl ?_
                         try dsimp only [set0,setS]
                         exact hk _ _ ⟨O, (by simp only [upd, Nat.reduceBEq, Bool.true_or, Bool.false_or, q2_, q3_, q4_, q8_, q9_, q10_, cnd_t, cnd_f, Asc_t, Asc_f]), hs.cast (by first | rfl | simp only [List.take, List.drop, List.cons_append, List.nil_append, List.set_cons_zero, List.set_cons_succ, List.eraseIdx, upd, Nat.reduceBEq, Bool.true_or, Bool.false_or, q2_, q3_, q4_, q8_, q9_, q10_, cnd_t, cnd_f, Asc_t, Asc_f])⟩
                        ·
                         intro D t w hD hp hcl hI rest hk
                         obtain ⟨O, ht, hs⟩ := hI
                         obtain ⟨p1_, _⟩ := hp
                         have q3_ : D 3 = false := not_yet (hcl.get 3 (by decide)) 0 2 rfl hD
                         have q4_ : D 4 = false := not_yet (hcl.get 4 (by decide)) 0 3 rfl q3_
                         have q8_ : D 8 = false := not_yet (hcl.get 8 (by decide)) 0 4 rfl q4_
                         have q9_ : D 9 = false := not_yet (hcl.get 9 (by decide)) 1 8 rfl q8_
                         have q10_ : D 10 = false := not_yet (hcl.get 10 (by decide)) 0 9 rfl q9_
                         simp only [hD, p1_, q3_, q4_, q8_, q9_, q10_, cnd_t, cnd_f, Asc_t, Asc_f] at ht hs
                         subst ht
                         refine s_idxA (n := x37) (m := 1) rfl (fun _ => rfl) gd1.1 gd1.2 rfl rfl rfl rfl rfl ?_
                         refine g_d rfl ?_
                         try dsimp only [set0,setS]
                         exact hk _ _ ⟨O, (by simp only [upd, Nat.reduceBEq, Bool.true_or, Bool.false_or, p1_, q3_, q4_, q8_, q9_, q10_, cnd_t, cnd_f, Asc_t, Asc_f]), hs.cast (by first | rfl | simp only [List.take, List.drop, List.cons_append, List.nil_append, List.set_cons_zero, List.set_cons_succ, List.eraseIdx, upd, Nat.reduceBEq, Bool.true_or, Bool.false_or, p1_, q3_, q4_, q8_, q9_, q10_, cnd_t, cnd_f, Asc_t, Asc_f])⟩
                        ·
                         intro D t w hD hp hcl hI rest hk
                         obtain ⟨O, ht, hs⟩ := hI
                         obtain ⟨p2_, _⟩ := hp
                         obtain ⟨p1_, _⟩ := (hcl.get 2 (by decide)) p2_
                         have q4_ : D 4 = false := not_yet (hcl.get 4 (by decide)) 0 3 rfl hD
                         have q8_ : D 8 = false := not_yet (hcl.get 8 (by decide)) 0 4 rfl q4_
                         have q9_ : D 9 = false := not_yet (hcl.get 9 (by decide)) 1 8 rfl q8_
                         have q10_ : D 10 = false := not_yet (hcl.get 10 (by decide)) 0 9 rfl q9_
                         simp only [hD, p1_, p2_, q4_, q8_, q9_, q10_, cnd_t, cnd_f, Asc_t, Asc_f] at ht hs
                         subst ht
                         refine s_load1 rfl rfl (v := Value.int .i64 (r33.1.get x37 0)) rfl rfl (fun _ => rfl) (by rw [Nat.zero_add]; exact cells_load (hs.cells 1 rfl) _ _ (encA_at (fkI .i64).len _ _ 0 gd1.1 gd1.2)) ?_
                         refine g_d rfl ?_
                         try dsimp only [set0,setS]
                         exact hk _ _ ⟨O, (by simp only [upd, Nat.reduceBEq, Bool.true_or, Bool.false_or, p1_, p2_, q4_, q8_, q9_, q10_, cnd_t, cnd_f, Asc_t, Asc_f]), hs.cast (by first | rfl | simp only [List.take, List.drop, List.cons_append, List.nil_append, List.set_cons_zero, List.set_cons_succ, List.eraseIdx, upd, Nat.reduceBEq, Bool.true_or, Bool.false_or, p1_, p2_, q4_, q8_, q9_, q10_, cnd_t, cnd_f, Asc_t, Asc_f])⟩
                        ·
                         intro D t w hD hp hcl hI rest hk
                         obtain ⟨O, ht, hs⟩ := hI
                         obtain ⟨p3_, _⟩ := hp
                         obtain ⟨p2_, _⟩ := (hcl.get 3 (by decide)) p3_
                         obtain ⟨p1_, _⟩ := (hcl.get 2 (by decide)) p2_
                         have q8_ : D 8 = false := not_yet (hcl.get 8 (by decide)) 0 4 rfl hD
                         have q9_ : D 9 = false := not_yet (hcl.get 9 (by decide)) 1 8 rfl q8_
                         have q10_ : D 10 = false := not_yet (hcl.get 10 (by decide)) 0 9 rfl q9_
                         simp only [hD, p1_, p2_, p3_, q8_, q9_, q10_, cnd_t, cnd_f, Asc_t, Asc_f] at ht hs
                         subst ht
                         refine g_op (v := Value.int .i64 (i64w (2 * (r33.1.get x37 0)))) rfl rfl rfl ?_
                         refine g_d rfl ?_
                         try dsimp only [set0,setS]
                         exact hk _ _ ⟨O, (by simp only [upd, Nat.reduceBEq, Bool.true_or, Bool.false_or, p1_, p2_, p3_, q8_, q9_, q10_, cnd_t, cnd_f, Asc_t, Asc_f]), hs.cast (by first | rfl | simp only [List.take, List.drop, List.cons_append, List.nil_append, List.set_cons_zero, List.set_cons_succ, List.eraseIdx, upd, Nat.reduceBEq, Bool.true_or, Bool.false_or, p1_, p2_, p3_, q8_, q9_, q10_, cnd_t, cnd_f, Asc_t, Asc_f])⟩
                        ·
                         intro D t w hD hp hcl hI rest hk
                         obtain ⟨O, ht, hs⟩ := hI
                         have q6_ : D 6 = false := not_yet (hcl.get 6 (by decide)) 0 5 rfl hD
                         have q7_ : D 7 = false := not_yet (hcl.get 7 (by decide)) 0 6 rfl q6_
                         have q8_ : D 8 = false := not_yet (hcl.get 8 (by decide)) 1 7 rfl q7_
                         have q9_ : D 9 = false := not_yet (hcl.get 9 (by decide)) 1 8 rfl q8_
                         have q10_ : D 10 = false := not_yet (hcl.get 10 (by decide)) 0 9 rfl q9_
                         simp only [hD, q6_, q7_, q8_, q9_, q10_, cnd_t, cnd_f, Asc_t, Asc_f] at ht hs
                         subst ht
                         refine g_op (v := Value.int .i64 x37) rfl rfl rfl ?_
                         refine g_d rfl ?_
                         try dsimp only [set0,setS]
                         exact hk _ _ ⟨O, (by simp only [upd, Nat.reduceBEq, Bool.true_or, Bool.false_or, q6_, q7_, q8_, q9_, q10_, cnd_t, cnd_f, Asc_t, Asc_f]), hs.cast (by first | rfl | simp only [List.take, List.drop, List.cons_append, List.nil_append, List.set_cons_zero, List.set_cons_succ, List.eraseIdx, upd, Nat.reduceBEq, Bool.true_or, Bool.false_or, q6_, q7_, q8_, q9_, q10_, cnd_t, cnd_f, Asc_t, Asc_f])⟩
                        ·
                         intro D t w hD hp hcl hI rest hk
                         obtain ⟨O, ht, hs⟩ := hI
                         obtain ⟨p5_, _⟩ := hp
                         have q7_ : D 7 = false := not_yet (hcl.get 7 (by decide)) 0 6 rfl hD
                         have q8_ : D 8 = false := not_yet (hcl.get 8 (by decide)) 1 7 rfl q7_
                         have q9_ : D 9 = false := not_yet (hcl.get 9 (by decide)) 1 8 rfl q8_
                         have q10_ : D 10 = false := not_yet (hcl.get 10 (by decide)) 0 9 rfl q9_
                         simp only [hD, p5_, q7_, q8_, q9_, q10_, cnd_t, cnd_f, Asc_t, Asc_f] at ht hs
                         subst ht
                         refine s_idxA (n := x37) (m := 1) rfl (fun _ => rfl) gd2.1 gd2.2 rfl rfl rfl rfl rfl ?_
                         refine g_d rfl ?_
                         try dsimp only [set0,setS]
                         exact hk _ _ ⟨O, (by simp only [upd, Nat.reduceBEq, Bool.true_or, Bool.false_or, p5_, q7_, q8_, q9_, q10_, cnd_t, cnd_f, Asc_t, Asc_f]), hs.cast (by first | rfl | simp only [List.take, List.drop, List.cons_append, List.nil_append, List.set_cons_zero, List.set_cons_succ, List.eraseIdx, upd, Nat.reduceBEq, Bool.true_or, Bool.false_or, p5_, q7_, q8_, q9_, q10_, cnd_t, cnd_f, Asc_t, Asc_f])⟩
                        ·
                         intro D t w hD hp hcl hI rest hk
                         obtain ⟨O, ht, hs⟩ := hI
                         obtain ⟨p6_, _⟩ := hp
                         obtain ⟨p5_, _⟩ := (hcl.get 6 (by decide)) p6_
                         have q8_ : D 8 = false := not_yet (hcl.get 8 (by decide)) 1 7 rfl hD
                         have q9_ : D 9 = false := not_yet (hcl.get 9 (by decide)) 1 8 rfl q8_
                         have q10_ : D 10 = false := not_yet (hcl.get 10 (by decide)) 0 9 rfl q9_
                         simp only [hD, p5_, p6_, q8_, q9_, q10_, cnd_t, cnd_f, Asc_t, Asc_f] at ht hs
                         subst ht
                         refine s_load1 rfl rfl (v := Value.int .i64 (r7.2.get x37 0)) rfl rfl (fun _ => rfl) (by rw [Nat.zero_add]; exact cells_load (hs.cells 0 rfl) _ _ (encA_at (fkI .i64).len _ _ 0 gd2.1 gd2.2)) ?_
                         refine g_d rfl ?_
                         try dsimp only [set0,setS]
                         exact hk _ _ ⟨O, (by simp only [upd, Nat.reduceBEq, Bool.true_or, Bool.false_or, p5_, p6_, q8_, q9_, q10_, cnd_t, cnd_f, Asc_t, Asc_f]), hs.cast (by first | rfl | simp only [List.take, List.drop, List.cons_append, List.nil_append, List.set_cons_zero, List.set_cons_succ, List.eraseIdx, upd, Nat.reduceBEq, Bool.true_or, Bool.false_or, p5_, p6_, q8_, q9_, q10_, cnd_t, cnd_f, Asc_t, Asc_f])⟩
                        ·
                         intro D t w hD hp hcl hI rest hk
                         obtain ⟨O, ht, hs⟩ := hI
                         obtain ⟨p4_, p7_, _⟩ := hp
                         obtain ⟨p6_, _⟩ := (hcl.get 7 (by decide)) p7_
                         obtain ⟨p5_, _⟩ := (hcl.get 6 (by decide)) p6_
                         obtain ⟨p3_, _⟩ := (hcl.get 4 (by decide)) p4_
                         obtain ⟨p2_, _⟩ := (hcl.get 3 (by decide)) p3_
                         obtain ⟨p1_, _⟩ := (hcl.get 2 (by decide)) p2_
                         have q9_ : D 9 = false := not_yet (hcl.get 9 (by decide)) 1 8 rfl hD
                         have q10_ : D 10 = false := not_yet (hcl.get 10 (by decide)) 0 9 rfl q9_
                         simp only [hD, p1_, p2_, p3_, p4_, p5_, p6_, p7_, q9_, q10_, cnd_t, cnd_f, Asc_t, Asc_f] at ht hs
                         subst ht
                         refine g_op (v := Value.int .i64 (i64w ((i64w (2 * (r33.1.get x37 0))) - (r7.2.get x37 0)))) rfl rfl rfl ?_
                         refine g_d rfl ?_
                         try dsimp only [set0,setS]
                         exact hk _ _ ⟨O, (by simp only [upd, Nat.reduceBEq, Bool.true_or, Bool.false_or, p1_, p2_, p3_, p4_, p5_, p6_, p7_, q9_, q10_, cnd_t, cnd_f, Asc_t, Asc_f]), hs.cast (by first | rfl | simp only [List.take, List.drop, List.cons_append, List.nil_append, List.set_cons_zero, List.set_cons_succ, List.eraseIdx, upd, Nat.reduceBEq, Bool.true_or, Bool.false_or, p1_, p2_, p3_, p4_, p5_, p6_, p7_, q9_, q10_, cnd_t, cnd_f, Asc_t, Asc_f])⟩
                        ·
                         intro D t w hD hp hcl hI rest hk
                         obtain ⟨O, ht, hs⟩ := hI
                         obtain ⟨p0_, p8_, _⟩ := hp
                         obtain ⟨p4_, p7_, _⟩ := (hcl.get 8 (by decide)) p8_
                         obtain ⟨p6_, _⟩ := (hcl.get 7 (by decide)) p7_
                         obtain ⟨p5_, _⟩ := (hcl.get 6 (by decide)) p6_
                         obtain ⟨p3_, _⟩ := (hcl.get 4 (by decide)) p4_
                         obtain ⟨p2_, _⟩ := (hcl.get 3 (by decide)) p3_
                         obtain ⟨p1_, _⟩ := (hcl.get 2 (by decide)) p2_
                         have q10_ : D 10 = false := not_yet (hcl.get 10 (by decide)) 0 9 rfl hD
                         simp only [hD, p0_, p1_, p2_, p3_, p4_, p5_, p6_, p7_, p8_, q10_, cnd_t, cnd_f, Asc_t, Asc_f] at ht hs
                         subst ht
                         refine g_op (v := Value.int .i64 (i64w (x36 + (i64w ((i64w (2 * (r33.1.get x37 0))) - (r7.2.get x37 0)))))) rfl rfl rfl ?_
                         refine g_d rfl ?_
                         try dsimp only [set0,setS]
                         exact hk _ _ ⟨O, (by simp only [upd, Nat.reduceBEq, Bool.true_or, Bool.false_or, p0_, p1_, p2_, p3_, p4_, p5_, p6_, p7_, p8_, q10_, cnd_t, cnd_f, Asc_t, Asc_f]), hs.cast (by first | rfl | simp only [List.take, List.drop, List.cons_append, List.nil_append, List.set_cons_zero, List.set_cons_succ, List.eraseIdx, upd, Nat.reduceBEq, Bool.true_or, Bool.false_or, p0_, p1_, p2_, p3_, p4_, p5_, p6_, p7_, p8_, q10_, cnd_t, cnd_f, Asc_t, Asc_f])⟩
                        ·
                         intro D t w hD hp hcl hI rest hk
                         obtain ⟨O, ht, hs⟩ := hI
                         obtain ⟨p9_, p0_, p1_, p2_, p3_, p4_, p5_, p6_, p7_, p8_, _, _⟩ := hp
                         simp only [hD, p0_, p1_, p2_, p3_, p4_, p5_, p6_, p7_, p8_, p9_, cnd_t, cnd_f, Asc_t, Asc_f] at ht hs
                         subst ht
                         refine g_op (v := Value.int .i64 (i64w (x36 + (i64w ((i64w (2 * (r33.1.get x37 0))) - (r7.2.get x37 0)))))) rfl rfl rfl ?_
                         refine g_d rfl ?_
                         try dsimp only [set0,setS]
                         exact hk _ _ ⟨O, (by simp only [upd, Nat.reduceBEq, Bool.true_or, Bool.false_or, p0_, p1_, p2_, p3_, p4_, p5_, p6_, p7_, p8_, p9_, cnd_t, cnd_f, Asc_t, Asc_f]), hs.cast (by first | rfl | simp only [List.take, List.drop, List.cons_append, List.nil_append, List.set_cons_zero, List.set_cons_succ, List.eraseIdx, upd, Nat.reduceBEq, Bool.true_or, Bool.false_or, p0_, p1_, p2_, p3_, p4_, p5_, p6_, p7_, p8_, p9_, cnd_t, cnd_f, Asc_t, Asc_f])⟩
                        ·
                         intro D t w hall hI
                         obtain ⟨O, ht, hs⟩ := hI
                         have p0_ : D 0 = true := hall 0 (by decide)
                         have p1_ : D 1 = true := hall 1 (by decide)
                         have p2_ : D 2 = true := hall 2 (by decide)
                         have p3_ : D 3 = true := hall 3 (by decide)
                         have p4_ : D 4 = true := hall 4 (by decide)
                         have p5_ : D 5 = true := hall 5 (by decide)
                         have p6_ : D 6 = true := hall 6 (by decide)
                         have p7_ : D 7 = true := hall 7 (by decide)
                         have p8_ : D 8 = true := hall 8 (by decide)
                         have p9_ : D 9 = true := hall 9 (by decide)
                         have p10_ : D 10 = true := hall 10 (by decide)
                         simp only [p0_, p1_, p2_, p3_, p4_, p5_, p6_, p7_, p8_, p9_, p10_, cnd_t, cnd_f, Asc_t, Asc_f] at ht hs
                         subst ht
                         refine g_inBlock ?_
                         refine g_region ?_
                         show G _ _ _ (.inRegion _ [0, 1, 2] :: _) _ _
                         refine g_op (v := Value.int .i64 x37) rfl rfl rfl ?_
                         refine g_d rfl ?_
                         refine g_op (v := Value.int .i64 (i64w (x37 + 1))) rfl rfl rfl ?_
                         refine g_d rfl ?_
                         try dsimp only [set0,setS]
                         refine g_op (v := Value.int .i64 (i64w (x37 + 1))) rfl rfl rfl ?_
                         refine g_d rfl ?_
                         try dsimp only [set0,setS]
                         refine g_ops_nil ?_
                         obtain rfl := Option.some.inj H
                         have hs := hs.pull 1 rfl
                         have hs := hs.pull 1 rfl
                         have hs : St _ [_,_] _ := St.take (Γ' := []) hs
                         exact ih1_ _ _ ⟨i64w (x36 + (i64w ((i64w (2 * (r33.1.get x37 0))) - (r7.2.get x37 0)))), i64w (x37 + 1), Hx1_, rfl, hs⟩
                       ·
                        intro hb
                        rw [if_neg (b_dec_f hb)] at H
                        refine g_d rfl ?_
                        try dsimp only [set0,setS]
                        refine g_ops_nil ?_
                        refine g_cond_false rfl ?_
                        obtain rfl := Option.some.inj H
                        subst Hx1_
                        have hs := hs.pull 0 rfl
                        have hs : St _ [_] _ := St.take (Γ' := [_]) hs
                        refine g_exit rfl ?_
                        exact ha1_ _ _ ⟨x36, Hr1_, rfl, hs⟩
                | false =>
                  rw [if_neg Bool.false_ne_true] at H
                  refine g_d rfl ?_
                  try dsimp only [set0,setS]
                  refine g_op (v := Value.bool true) rfl rfl rfl ?_
                  refine g_d rfl ?_
                  try dsimp only [set0,setS]
                  refine g_op (v := Value.bool true) rfl rfl rfl ?_
                  refine g_d rfl ?_
                  try dsimp only [set0,setS]
                  refine g_ops_nil ?_
                  refine g_cond_true rfl ?_
                  refine g_seq ?_
                  refine g_region ?_
                  show G _ _ _ (.inRegion _ [0] :: _) _ _
                  refine g_op (v := Value.bool false) rfl rfl rfl ?_
                  refine g_d rfl ?_
                  try dsimp only [set0,setS]
                  refine g_ops_nil ?_
                  obtain rfl := Option.some.inj H
                  refine g_ret Try.func3 (v := Value.bool false) (res1 rfl rfl) ?_
                  have hs : St _ [] _ := St.take (Γ' := [_,_,_,_,_,_]) hs
                  exact ⟨_, rfl, rfl, hs⟩

end Go.Proofs.YtfnfoecocicigaaX
