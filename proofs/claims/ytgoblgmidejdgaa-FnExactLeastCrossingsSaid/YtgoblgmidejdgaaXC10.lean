/- Contracts, printed by gen.py. -/
import Derived.Test.YtgoblgmidejdgaaXC9
namespace Go.Proofs.YtgoblgmidejdgaaX
open Go Go.RowKit Go.Proofs
set_option linter.unusedVariables false
set_option linter.unusedSimpArgs false
/- function 19 spec_LoadsFrom -/
def spec_LoadsFrom.post (w0 : World) (r : ((List Int) × Int)) (v : Value) (w : World) : Prop := ∃ u1 : Value, v = Value.tuple #[u1, Value.int .i64 r.2] ∧ St w0 [Row 27 (K.int .u16) u1 r.1] w
set_option maxHeartbeats 400000 in
set_option maxRecDepth 100000 in
theorem spec_LoadsFrom.calls {N : Nat} {a1 : S_laws_Ferry} {a4 : S_impl_Bank} {v2 : Value} {w0 : World} {r : ((List Int) × Int)} (hr3 : RdRow (K.int .u16) w0 v2 a1.f_Rules) (H : spec_LoadsFrom.f N a1 a4 = some r) :
    Calls Try.prog 19 #[Value.agg (([Value.int .i8 a1.f_Things, Value.int .i8 a1.f_Boat, v2] : List Value)).toArray, Value.agg (enc_S_impl_Bank a4).toArray] w0 fun e w => ∃ v, e = .returned v ∧ spec_LoadsFrom.post w0 r v w := by
  unfold spec_LoadsFrom.f at H
  have hs : St w0 [] w0 := St.refl w0
  refine calls_of_g (n := 14) Try.func19 rfl rfl ?_
  show G _ _ _ _ [_, _, _, _, _, _, _, _, _, _, _, _, _, _, _, _] _
  refine g_seq ?_
  refine g_region ?_
  show G _ _ _ (.inRegion _ [0, 1, 2, 3] :: _) _ _
  refine s_box hs rfl rfl (cs := (([Value.int .i8 a1.f_Things, Value.int .i8 a1.f_Boat, v2] : List Value))) rfl rfl ?_
  intro b5 w hs
  show G _ _ _ _ [_, _, _, _, _, _, _, _, _, _, _, _, _, _, _, _] _
  refine s_box hs rfl rfl (cs := (enc_S_impl_Bank a4)) rfl rfl ?_
  intro b7 w hs
  show G _ _ _ _ [_, _, _, _, _, _, _, _, _, _, _, _, _, _, _, _] _
  refine g_op (v := Value.slice none 0 0) rfl rfl rfl ?_
  show G _ _ _ _ [_, _, _, _, _, _, _, _, _, _, _, _, _, _, _, _] _
  refine g_op (v := Value.int .i64 0) rfl rfl rfl ?_
  show G _ _ _ _ [_, _, _, _, _, _, _, _, _, _, _, _, _, _, _, _] _
  refine g_ops_nil ?_
  refine g_seq ?_
  refine g_seq ?_
  refine g_region ?_
  show G _ _ _ (.inRegion _ [0, 1, 2, 3, 4, 5, 6] :: _) _ _
  obtain ⟨r9, Hr9, H⟩ := bind_get H
  refine s_call (args := [Value.pointer (some ⟨b5, 0, none⟩)]) rfl rfl (x_call rfl (callFunc_enter Try.func42 rfl rfl) rfl) (spec_l05Ok.calls (a1 := (⟨a1.f_Things, a1.f_Boat, a1.f_Rules⟩ : S_laws_Ferry)) (hs.rd hr3) (hs.cells 1 rfl) Hr9) ?_
  rintro _ w ⟨rfl, hs2⟩
  have hs : St _ [_, _] _ := hs.call hs2
  cases r9 with
  | true =>
    rw [if_pos rfl] at H
    show G _ _ _ _ [_, _, _, _, _, _, _, _, _, _, _, _, _, _, _, _] _
    refine g_op (v := Value.bool false) rfl rfl rfl ?_
    show G _ _ _ _ [_, _, _, _, _, _, _, _, _, _, _, _, _, _, _, _] _
    refine g_op (v := Value.bool false) rfl rfl rfl ?_
    show G _ _ _ _ [_, _, _, _, _, _, _, _, _, _, _, _, _, _, _, _] _
    refine s_loadA rfl rfl (es := (enc_S_impl_Bank a4)) rfl rfl (fun _ => rfl) (n := 2) (fun _ => rfl) (fk_S_impl_Bank.len _) (cells_all (hs.cells 0 rfl)) ?_
    show G _ _ _ _ [_, _, _, _, _, _, _, _, _, _, _, _, _, _, _, _] _
    obtain ⟨r10, Hr10, H⟩ := bind_get H
    refine s_call (args := [Value.pointer (some ⟨b5, 0, none⟩), Value.agg (enc_S_impl_Bank a4).toArray]) rfl rfl (x_call rfl (callFunc_enter Try.func49 rfl rfl) rfl) (spec_l05Bank.calls (a1 := (⟨a1.f_Things, a1.f_Boat, a1.f_Rules⟩ : S_laws_Ferry)) (a6 := a4) (hs.rd hr3) (hs.cells 1 rfl) Hr10) ?_
    rintro _ w ⟨rfl, hs2⟩
    have hs : St _ [_, _] _ := hs.call hs2
    cases r10 with
    | true =>
      rw [if_pos rfl] at H
      show G _ _ _ _ [_, _, _, _, _, _, _, _, _, _, _, _, _, _, _, _] _
      refine g_op (v := Value.bool false) rfl rfl rfl ?_
      show G _ _ _ _ [_, _, _, _, _, _, _, _, _, _, _, _, _, _, _, _] _
      refine g_op (v := Value.bool false) rfl rfl rfl ?_
      show G _ _ _ _ [_, _, _, _, _, _, _, _, _, _, _, _, _, _, _, _] _
      refine g_ops_nil ?_
      refine g_cond_false rfl ?_
      refine g_skip ?_
      refine g_seq ?_
      refine g_region ?_
      show G _ _ _ (.inRegion _ [0, 1, 2, 3] :: _) _ _
      refine s_loadA rfl rfl (es := (enc_S_impl_Bank a4)) rfl rfl (fun _ => rfl) (n := 2) (fun _ => rfl) (fk_S_impl_Bank.len _) (cells_all (hs.cells 0 rfl)) ?_
      show G _ _ _ _ [_, _, _, _, _, _, _, _, _, _, _, _, _, _, _, _] _
      obtain ⟨r11, Hr11, H⟩ := bind_get H
      refine s_call (args := [Value.pointer (some ⟨b5, 0, none⟩), Value.agg (enc_S_impl_Bank a4).toArray]) rfl rfl (x_call rfl (callFunc_enter Try.func50 rfl rfl) rfl) (spec_l05Loads.calls (a1 := (⟨a1.f_Things, a1.f_Boat, a1.f_Rules⟩ : S_laws_Ferry)) (a6 := a4) (hs.rd hr3) (hs.cells 1 rfl) Hr11) ?_
      intro v12 w hs2
      have hs : St _ [_, _, _] _ := hs.call hs2
      show G _ _ _ _ [_, _, _, _, _, _, _, _, _, _, _, _, _, _, _, _] _
      refine g_op (v := v12) rfl rfl rfl ?_
      show G _ _ _ _ [_, _, _, _, _, _, _, _, _, _, _, _, _, _, _, _] _
      refine g_op (v := Value.int .i64 0) rfl rfl rfl ?_
      show G _ _ _ _ [_, _, _, _, _, _, _, _, _, _, _, _, _, _, _, _] _
      refine g_ops_nil ?_
      obtain rfl := Option.some.inj H
      refine g_ret Try.func19 (v := Value.tuple #[v12, Value.int .i64 0]) (resN (l := Try.f19.results.toList) (vs := [v12, Value.int .i64 0]) rfl ⟨rfl, rfl, trivial⟩ (by simp)) ?_
      have hs := hs.pull 0 rfl
      have hs : St _ [_] _ := St.take (Γ' := [_, _]) hs
      exact ⟨_, rfl, v12, rfl, hs⟩
    | false =>
      rw [if_neg Bool.false_ne_true] at H
      show G _ _ _ _ [_, _, _, _, _, _, _, _, _, _, _, _, _, _, _, _] _
      refine g_op (v := Value.bool true) rfl rfl rfl ?_
      show G _ _ _ _ [_, _, _, _, _, _, _, _, _, _, _, _, _, _, _, _] _
      refine g_op (v := Value.bool true) rfl rfl rfl ?_
      show G _ _ _ _ [_, _, _, _, _, _, _, _, _, _, _, _, _, _, _, _] _
      refine g_ops_nil ?_
      refine g_cond_true rfl ?_
      refine g_seq ?_
      refine g_region ?_
      show G _ _ _ (.inRegion _ [0, 1, 2] :: _) _ _
      refine s_lit0 (κ := (K.int .u16)) hs rfl rfl rfl rfl (fun _ => rfl) ?_
      intro v14 w hs
      show G _ _ _ _ [_, _, _, _, _, _, _, _, _, _, _, _, _, _, _, _] _
      refine g_op (v := v14) rfl rfl rfl ?_
      show G _ _ _ _ [_, _, _, _, _, _, _, _, _, _, _, _, _, _, _, _] _
      refine g_op (v := Value.int .i64 1) rfl rfl rfl ?_
      show G _ _ _ _ [_, _, _, _, _, _, _, _, _, _, _, _, _, _, _, _] _
      refine g_ops_nil ?_
      obtain rfl := Option.some.inj H
      refine g_ret Try.func19 (v := Value.tuple #[v14, Value.int .i64 1]) (resN (l := Try.f19.results.toList) (vs := [v14, Value.int .i64 1]) rfl ⟨rfl, rfl, trivial⟩ (by simp)) ?_
      have hs := hs.pull 0 rfl
      have hs : St _ [_] _ := St.take (Γ' := [_, _]) hs
      exact ⟨_, rfl, v14, rfl, hs⟩
  | false =>
    rw [if_neg Bool.false_ne_true] at H
    show G _ _ _ _ [_, _, _, _, _, _, _, _, _, _, _, _, _, _, _, _] _
    refine g_op (v := Value.bool true) rfl rfl rfl ?_
    show G _ _ _ _ [_, _, _, _, _, _, _, _, _, _, _, _, _, _, _, _] _
    refine g_op (v := Value.bool true) rfl rfl rfl ?_
    show G _ _ _ _ [_, _, _, _, _, _, _, _, _, _, _, _, _, _, _, _] _
    refine g_op_not rfl rfl ?_
    show G _ _ _ _ [_, _, _, _, _, _, _, _, _, _, _, _, _, _, _, _] _
    refine g_op_not rfl rfl ?_
    show G _ _ _ _ [_, _, _, _, _, _, _, _, _, _, _, _, _, _, _, _] _
    refine g_op_not rfl rfl ?_
    show G _ _ _ _ [_, _, _, _, _, _, _, _, _, _, _, _, _, _, _, _] _
    refine g_op (v := Value.bool true) rfl rfl rfl ?_
    show G _ _ _ _ [_, _, _, _, _, _, _, _, _, _, _, _, _, _, _, _] _
    refine g_ops_nil ?_
    refine g_cond_true rfl ?_
    refine g_seq ?_
    refine g_region ?_
    show G _ _ _ (.inRegion _ [0, 1, 2] :: _) _ _
    refine s_lit0 (κ := (K.int .u16)) hs rfl rfl rfl rfl (fun _ => rfl) ?_
    intro v16 w hs
    show G _ _ _ _ [_, _, _, _, _, _, _, _, _, _, _, _, _, _, _, _] _
    refine g_op (v := v16) rfl rfl rfl ?_
    show G _ _ _ _ [_, _, _, _, _, _, _, _, _, _, _, _, _, _, _, _] _
    refine g_op (v := Value.int .i64 1) rfl rfl rfl ?_
    show G _ _ _ _ [_, _, _, _, _, _, _, _, _, _, _, _, _, _, _, _] _
    refine g_ops_nil ?_
    obtain rfl := Option.some.inj H
    refine g_ret Try.func19 (v := Value.tuple #[v16, Value.int .i64 1]) (resN (l := Try.f19.results.toList) (vs := [v16, Value.int .i64 1]) rfl ⟨rfl, rfl, trivial⟩ (by simp)) ?_
    have hs := hs.pull 0 rfl
    have hs : St _ [_] _ := St.take (Γ' := [_, _]) hs
    exact ⟨_, rfl, v16, rfl, hs⟩

/- function 51 impl_ValidBank -/
def impl_ValidBank.post (w0 : World) (r : Bool) (v : Value) (w : World) : Prop := v = Value.bool r ∧ St w0 [] w
set_option maxHeartbeats 400000 in
set_option maxRecDepth 100000 in
theorem impl_ValidBank.calls {N : Nat} {a1 : S_laws_Ferry} {a4 : S_impl_Bank} {v2 : Value} {w0 : World} {r : Bool} (hr3 : RdRow (K.int .u16) w0 v2 a1.f_Rules) (H : impl_ValidBank.f N a1 a4 = some r) :
    Calls Try.prog 51 #[Value.agg (([Value.int .i8 a1.f_Things, Value.int .i8 a1.f_Boat, v2] : List Value)).toArray, Value.agg (enc_S_impl_Bank a4).toArray] w0 fun e w => ∃ v, e = .returned v ∧ impl_ValidBank.post w0 r v w := by
  unfold impl_ValidBank.f at H
  have hs : St w0 [] w0 := St.refl w0
  refine calls_of_g (n := 10) Try.func51 rfl rfl ?_
  show G _ _ _ _ [_, _, _, _, _, _, _, _, _, _, _, _] _
  refine g_seq ?_
  refine g_region ?_
  show G _ _ _ (.inRegion _ [0, 1, 2] :: _) _ _
  refine s_box hs rfl rfl (cs := (([Value.int .i8 a1.f_Things, Value.int .i8 a1.f_Boat, v2] : List Value))) rfl rfl ?_
  intro b5 w hs
  show G _ _ _ _ [_, _, _, _, _, _, _, _, _, _, _, _] _
  refine s_box hs rfl rfl (cs := (enc_S_impl_Bank a4)) rfl rfl ?_
  intro b7 w hs
  show G _ _ _ _ [_, _, _, _, _, _, _, _, _, _, _, _] _
  refine g_op (v := Value.bool false) rfl rfl rfl ?_
  show G _ _ _ _ [_, _, _, _, _, _, _, _, _, _, _, _] _
  refine g_ops_nil ?_
  refine g_seq ?_
  refine g_region ?_
  show G _ _ _ (.inRegion _ [0, 1, 2, 3, 4, 5, 6, 7] :: _) _ _
  refine s_loadA rfl rfl (es := (([Value.int .i8 a1.f_Things, Value.int .i8 a1.f_Boat, v2] : List Value))) rfl rfl (fun _ => rfl) (n := 3) (fun _ => rfl) rfl (cells_all (hs.cells 1 rfl)) ?_
  show G _ _ _ _ [_, _, _, _, _, _, _, _, _, _, _, _] _
  obtain ⟨r9, Hr9, H⟩ := bind_get H
  refine s_call (args := [Value.agg (([Value.int .i8 a1.f_Things, Value.int .i8 a1.f_Boat, v2] : List Value)).toArray]) rfl rfl (x_call rfl (callFunc_enter Try.func45 rfl rfl) rfl) (impl_ValidFerry.calls (a1 := (⟨a1.f_Things, a1.f_Boat, a1.f_Rules⟩ : S_laws_Ferry)) (hs.rd hr3) Hr9) ?_
  rintro _ w ⟨rfl, hs2⟩
  have hs : St _ [_, _] _ := hs.call hs2
  cases r9 with
  | true =>
    rw [if_pos rfl] at H
    show G _ _ _ _ [_, _, _, _, _, _, _, _, _, _, _, _] _
    refine g_op (v := Value.bool true) rfl rfl rfl ?_
    show G _ _ _ _ [_, _, _, _, _, _, _, _, _, _, _, _] _
    refine s_loadA rfl rfl (es := (([Value.int .i8 a1.f_Things, Value.int .i8 a1.f_Boat, v2] : List Value))) rfl rfl (fun _ => rfl) (n := 3) (fun _ => rfl) rfl (cells_all (hs.cells 1 rfl)) ?_
    show G _ _ _ _ [_, _, _, _, _, _, _, _, _, _, _, _] _
    refine s_loadA rfl rfl (es := (enc_S_impl_Bank a4)) rfl rfl (fun _ => rfl) (n := 2) (fun _ => rfl) (fk_S_impl_Bank.len _) (cells_all (hs.cells 0 rfl)) ?_
    show G _ _ _ _ [_, _, _, _, _, _, _, _, _, _, _, _] _
    obtain ⟨r10, Hr10, H⟩ := bind_get H
    refine s_call (args := [Value.agg (([Value.int .i8 a1.f_Things, Value.int .i8 a1.f_Boat, v2] : List Value)).toArray, Value.agg (enc_S_impl_Bank a4).toArray]) rfl rfl (x_call rfl (callFunc_enter Try.func74 rfl rfl) rfl) (_impl_Ferry_isBank.calls (a1 := (⟨a1.f_Things, a1.f_Boat, a1.f_Rules⟩ : S_laws_Ferry)) (a4 := a4) (hs.rd hr3) Hr10) ?_
    rintro _ w ⟨rfl, hs2⟩
    have hs : St _ [_, _] _ := hs.call hs2
    show G _ _ _ _ [_, _, _, _, _, _, _, _, _, _, _, _] _
    refine g_op (v := Value.bool r10) rfl rfl rfl ?_
    show G _ _ _ _ [_, _, _, _, _, _, _, _, _, _, _, _] _
    refine g_op (v := Value.bool r10) rfl rfl rfl ?_
    show G _ _ _ _ [_, _, _, _, _, _, _, _, _, _, _, _] _
    refine g_ops_nil ?_
    obtain rfl := Option.some.inj H
    refine g_ret Try.func51 (v := Value.bool r10) (res1 rfl rfl) ?_
    have hs : St _ [] _ := St.take (Γ' := [_, _]) hs
    exact ⟨_, rfl, rfl, hs⟩
  | false =>
    rw [if_neg Bool.false_ne_true] at H
    show G _ _ _ _ [_, _, _, _, _, _, _, _, _, _, _, _] _
    refine g_op (v := Value.bool false) rfl rfl rfl ?_
    show G _ _ _ _ [_, _, _, _, _, _, _, _, _, _, _, _] _
    refine g_op_not rfl rfl ?_
    show G _ _ _ _ [_, _, _, _, _, _, _, _, _, _, _, _] _
    refine g_op_not rfl rfl ?_
    show G _ _ _ _ [_, _, _, _, _, _, _, _, _, _, _, _] _
    refine g_op_not rfl rfl ?_
    show G _ _ _ _ [_, _, _, _, _, _, _, _, _, _, _, _] _
    refine g_op (v := Value.bool false) rfl rfl rfl ?_
    show G _ _ _ _ [_, _, _, _, _, _, _, _, _, _, _, _] _
    refine g_op (v := Value.bool false) rfl rfl rfl ?_
    show G _ _ _ _ [_, _, _, _, _, _, _, _, _, _, _, _] _
    refine g_ops_nil ?_
    obtain rfl := Option.some.inj H
    refine g_ret Try.func51 (v := Value.bool false) (res1 rfl rfl) ?_
    have hs : St _ [] _ := St.take (Γ' := [_, _]) hs
    exact ⟨_, rfl, rfl, hs⟩

/- function 52 _impl_Ferry_loads -/
def _impl_Ferry_loads.post (w0 : World) (r : (List Int)) (v : Value) (w : World) : Prop := St w0 [Row 27 (K.int .u16) v r] w
set_option maxHeartbeats 400000 in
set_option maxRecDepth 100000 in
theorem _impl_Ferry_loads.calls {N : Nat} {a1 : S_laws_Ferry} {a4 : S_impl_Bank} {v2 : Value} {w0 : World} {r : (List Int)} (hr3 : RdRow (K.int .u16) w0 v2 a1.f_Rules) (H : _impl_Ferry_loads.f N a1 a4 = some r) :
    Calls Try.prog 52 #[Value.agg (([Value.int .i8 a1.f_Things, Value.int .i8 a1.f_Boat, v2] : List Value)).toArray, Value.agg (enc_S_impl_Bank a4).toArray] w0 fun e w => ∃ v, e = .returned v ∧ _impl_Ferry_loads.post w0 r v w := by
  unfold _impl_Ferry_loads.f at H
  have hs : St w0 [] w0 := St.refl w0
  refine calls_of_g (n := 23) Try.func52 rfl rfl ?_
  show G _ _ _ _ [_, _, _, _, _, _, _, _, _, _, _, _, _, _, _, _, _, _, _, _, _, _, _, _, _] _
  refine g_seq ?_
  refine g_region ?_
  show G _ _ _ (.inRegion _ [0, 1, 2] :: _) _ _
  refine s_box hs rfl rfl (cs := (([Value.int .i8 a1.f_Things, Value.int .i8 a1.f_Boat, v2] : List Value))) rfl rfl ?_
  intro b5 w hs
  show G _ _ _ _ [_, _, _, _, _, _, _, _, _, _, _, _, _, _, _, _, _, _, _, _, _, _, _, _, _] _
  refine s_box hs rfl rfl (cs := (enc_S_impl_Bank a4)) rfl rfl ?_
  intro b7 w hs
  show G _ _ _ _ [_, _, _, _, _, _, _, _, _, _, _, _, _, _, _, _, _, _, _, _, _, _, _, _, _] _
  refine g_op (v := Value.slice none 0 0) rfl rfl rfl ?_
  show G _ _ _ _ [_, _, _, _, _, _, _, _, _, _, _, _, _, _, _, _, _, _, _, _, _, _, _, _, _] _
  refine g_ops_nil ?_
  refine g_seq ?_
  refine g_region ?_
  show G _ _ _ (.inRegion _ [0, 1] :: _) _ _
  refine s_lit0 (κ := (K.int .u16)) hs rfl rfl rfl rfl (fun _ => rfl) ?_
  intro v9 w hs
  show G _ _ _ _ [_, _, _, _, _, _, _, _, _, _, _, _, _, _, _, _, _, _, _, _, _, _, _, _, _] _
  refine g_op (v := v9) rfl rfl rfl ?_
  show G _ _ _ _ [_, _, _, _, _, _, _, _, _, _, _, _, _, _, _, _, _, _, _, _, _, _, _, _, _] _
  refine g_ops_nil ?_
  refine g_seq ?_
  refine g_seq ?_
  refine g_region ?_
  show G _ _ _ (.inRegion _ [0, 1, 2, 3] :: _) _ _
  refine s_loadA rfl rfl (es := (([Value.int .i8 a1.f_Things, Value.int .i8 a1.f_Boat, v2] : List Value))) rfl rfl (fun _ => rfl) (n := 3) (fun _ => rfl) rfl (cells_all (hs.cells 2 rfl)) ?_
  show G _ _ _ _ [_, _, _, _, _, _, _, _, _, _, _, _, _, _, _, _, _, _, _, _, _, _, _, _, _] _
  obtain ⟨r11, Hr11, H⟩ := bind_get H
  refine s_call (args := [Value.agg (([Value.int .i8 a1.f_Things, Value.int .i8 a1.f_Boat, v2] : List Value)).toArray]) rfl rfl (x_call rfl (callFunc_enter Try.func46 rfl rfl) rfl) (_impl_Ferry_all.calls (a1 := (⟨a1.f_Things, a1.f_Boat, a1.f_Rules⟩ : S_laws_Ferry)) (hs.rd hr3) Hr11) ?_
  rintro _ w ⟨rfl, hs2⟩
  have hs : St _ [_, _, _] _ := hs.call hs2
  show G _ _ _ _ [_, _, _, _, _, _, _, _, _, _, _, _, _, _, _, _, _, _, _, _, _, _, _, _, _] _
  refine g_op (v := Value.int .u16 (u16w (r11 + 1))) rfl rfl rfl ?_
  show G _ _ _ _ [_, _, _, _, _, _, _, _, _, _, _, _, _, _, _, _, _, _, _, _, _, _, _, _, _] _
  refine g_op (v := Value.int .u16 0) rfl rfl rfl ?_
  show G _ _ _ _ [_, _, _, _, _, _, _, _, _, _, _, _, _, _, _, _, _, _, _, _, _, _, _, _, _] _
  refine g_ops_nil ?_
  obtain ⟨o1_, Ho, Hr1_⟩ := bind_get H
  refine g_block_join (J := fun t w => ∃ v24 : Value, ∃ x25 : (List Int), _impl_Ferry_loads.a0 N x25 = some r ∧ Fr t (fun O => ([O 0, O 1, O 2, O 3, O 4, v24, O 6, O 7, O 8, O 9, O 10, O 11, O 12, O 13, O 14, O 15, O 16, O 17, O 18, O 19, O 20, O 21, O 22, O 23, O 24] : List Value)) ∧ St w0 [Row 27 (K.int .u16) v24 x25] w) ?_ ?_
  · rintro t w ⟨v24, x25, H, hf, hs⟩
    obtain ⟨O, rfl⟩ := hf.open
    show G _ _ _ _ [_, _, _, _, _, _, _, _, _, _, _, _, _, _, _, _, _, _, _, _, _, _, _, _, _] _
    unfold _impl_Ferry_loads.a0 at H
    refine g_seq ?_
    refine g_region ?_
    show G _ _ _ (.inRegion _ [0, 1] :: _) _ _
    refine g_op (v := v24) rfl rfl rfl ?_
    show G _ _ _ _ [_, _, _, _, _, _, _, _, _, _, _, _, _, _, _, _, _, _, _, _, _, _, _, _, _] _
    refine g_op (v := v24) rfl rfl rfl ?_
    show G _ _ _ _ [_, _, _, _, _, _, _, _, _, _, _, _, _, _, _, _, _, _, _, _, _, _, _, _, _] _
    refine g_ops_nil ?_
    obtain rfl := Option.some.inj H
    refine g_ret Try.func52 (v := v24) (res1 rfl rfl) ?_
    have hs := hs.pull 0 rfl
    have hs : St _ [_] _ := St.take (Γ' := []) hs
    exact ⟨_, rfl, hs⟩
  · intro ha1_
    have hs := hs.pull 0 rfl
    have hs := hs.pull 1 rfl
    have hs := hs.pull 2 rfl
    have hs : St _ [_, _, _] _ := St.take (Γ' := []) hs
    refine g_loop_fuel (I := fun n_ t w => ∃ v13 : Value, ∃ x14 : (List Int), ∃ x15 : Int, rounds (fun s => _impl_Ferry_loads.b0 N r11 a1 a4 s.1 s.2) n_ (x14, x15) = some o1_ ∧ Fr t (fun O => ([O 0, O 1, Value.pointer (some ⟨b5, 0, none⟩), Value.pointer (some ⟨b7, 0, none⟩), O 4, v13, O 6, O 7, O 8, O 9, Value.int .u16 (u16w (r11 + 1)), Value.int .u16 x15, O 12, O 13, O 14, O 15, O 16, O 17, O 18, O 19, O 20, O 21, O 22, O 23, O 24] : List Value)) ∧ St w0 [Cells b5 (([Value.int .i8 a1.f_Things, Value.int .i8 a1.f_Boat, v2] : List Value)) 32, Cells b7 (enc_S_impl_Bank a4) 29, Row 27 (K.int .u16) v13 x14] w) N ⟨v9, ([] : List Int), 0, Ho, rfl, hs⟩ ?_ ?_
    · rintro _ _ ⟨v13, x14, x15, h, _⟩
      exact rounds_zero h
    · intro n_ ih1_
      rintro t w ⟨v13, x14, x15, Ho, hf, hs⟩
      obtain ⟨O, rfl⟩ := hf.open
      show G _ _ _ _ [_, _, _, _, _, _, _, _, _, _, _, _, _, _, _, _, _, _, _, _, _, _, _, _, _] _
      obtain ⟨x1_, H, Hx1_⟩ := rounds_succ Ho
      have H : _impl_Ferry_loads.b0 N r11 a1 a4 x14 x15 = some x1_ := H
      unfold _impl_Ferry_loads.b0 at H
      refine g_seq ?_
      refine g_region ?_
      show G _ _ _ (.inRegion _ [0] :: _) _ _
      refine g_op_b (B := decide (x15 < (u16w (r11 + 1)))) rfl rfl rfl ?_ ?_
      · intro hb
        rw [if_pos (b_dec_t hb)] at H
        show G _ _ _ _ [_, _, _, _, _, _, _, _, _, _, _, _, _, _, _, _, _, _, _, _, _, _, _, _, _] _
        refine g_ops_nil ?_
        refine g_seq ?_
        refine g_cond_true rfl ?_
        refine g_skip ?_
        refine g_seq ?_
        refine g_block_join (J := (fun t w => ∃ v21 : Value, ∃ x22 : (List Int), _impl_Ferry_loads.j2 N x15 x22 = some x1_ ∧ Fr t (fun O => ([O 0, O 1, Value.pointer (some ⟨b5, 0, none⟩), Value.pointer (some ⟨b7, 0, none⟩), O 4, v21, O 6, O 7, O 8, O 9, Value.int .u16 (u16w (r11 + 1)), Value.int .u16 x15, O 12, O 13, O 14, O 15, O 16, O 17, O 18, O 19, O 20, O 21, O 22, O 23, O 24] : List Value)) ∧ St w0 [Cells b5 (([Value.int .i8 a1.f_Things, Value.int .i8 a1.f_Boat, v2] : List Value)) 32, Cells b7 (enc_S_impl_Bank a4) 29, Row 27 (K.int .u16) v21 x22] w)) ?_ ?_
        · rintro t w ⟨v21, x22, H, hf, hs⟩
          obtain ⟨O, rfl⟩ := hf.open
          show G _ _ _ _ [_, _, _, _, _, _, _, _, _, _, _, _, _, _, _, _, _, _, _, _, _, _, _, _, _] _
          unfold _impl_Ferry_loads.j2 at H
          refine g_region ?_
          show G _ _ _ (.inRegion _ [0, 1] :: _) _ _
          refine g_op (v := Value.int .u16 (u16w (x15 + 1))) rfl rfl rfl ?_
          show G _ _ _ _ [_, _, _, _, _, _, _, _, _, _, _, _, _, _, _, _, _, _, _, _, _, _, _, _, _] _
          refine g_op (v := Value.int .u16 (u16w (x15 + 1))) rfl rfl rfl ?_
          show G _ _ _ _ [_, _, _, _, _, _, _, _, _, _, _, _, _, _, _, _, _, _, _, _, _, _, _, _, _] _
          refine g_ops_nil ?_
          obtain rfl := Option.some.inj H
          have hs := hs.pull 2 rfl
          have hs := hs.pull 2 rfl
          have hs := hs.pull 2 rfl
          have hs : St _ [_, _, _] _ := St.take (Γ' := []) hs
          exact ih1_ _ _ ⟨v21, x22, u16w (x15 + 1), Hx1_, rfl, hs⟩
        · intro ha
          refine g_seq ?_
          refine g_region ?_
          show G _ _ _ (.inRegion _ [0, 1] :: _) _ _
          refine g_op (v := Value.int .u16 x15) rfl rfl rfl ?_
          show G _ _ _ _ [_, _, _, _, _, _, _, _, _, _, _, _, _, _, _, _, _, _, _, _, _, _, _, _, _] _
          refine g_op (v := Value.int .u16 x15) rfl rfl rfl ?_
          show G _ _ _ _ [_, _, _, _, _, _, _, _, _, _, _, _, _, _, _, _, _, _, _, _, _, _, _, _, _] _
          refine g_ops_nil ?_
          refine g_seq ?_
          refine g_region ?_
          show G _ _ _ (.inRegion _ [0, 1, 2, 3, 4] :: _) _ _
          refine s_loadA rfl rfl (es := (([Value.int .i8 a1.f_Things, Value.int .i8 a1.f_Boat, v2] : List Value))) rfl rfl (fun _ => rfl) (n := 3) (fun _ => rfl) rfl (cells_all (hs.cells 0 rfl)) ?_
          show G _ _ _ _ [_, _, _, _, _, _, _, _, _, _, _, _, _, _, _, _, _, _, _, _, _, _, _, _, _] _
          refine s_loadA rfl rfl (es := (enc_S_impl_Bank a4)) rfl rfl (fun _ => rfl) (n := 2) (fun _ => rfl) (fk_S_impl_Bank.len _) (cells_all (hs.cells 1 rfl)) ?_
          show G _ _ _ _ [_, _, _, _, _, _, _, _, _, _, _, _, _, _, _, _, _, _, _, _, _, _, _, _, _] _
          refine g_op (v := Value.int .u16 x15) rfl rfl rfl ?_
          show G _ _ _ _ [_, _, _, _, _, _, _, _, _, _, _, _, _, _, _, _, _, _, _, _, _, _, _, _, _] _
          obtain ⟨r16, Hr16, H⟩ := bind_get H
          refine s_call (args := [Value.agg (([Value.int .i8 a1.f_Things, Value.int .i8 a1.f_Boat, v2] : List Value)).toArray, Value.agg (enc_S_impl_Bank a4).toArray, Value.int .u16 x15]) rfl rfl (x_call rfl (callFunc_enter Try.func47 rfl rfl) rfl) (_impl_Ferry_crossCode.calls (a1 := (⟨a1.f_Things, a1.f_Boat, a1.f_Rules⟩ : S_laws_Ferry)) (a4 := a4) (a5 := x15) (hs.rd hr3) Hr16) ?_
          rintro _ w ⟨rfl, hs2⟩
          have hs : St _ [_, _, _] _ := hs.call hs2
          show G _ _ _ _ [_, _, _, _, _, _, _, _, _, _, _, _, _, _, _, _, _, _, _, _, _, _, _, _, _] _
          refine g_op_b (B := r16 == 0) rfl rfl rfl ?_ ?_
          · intro hb
            rw [if_pos (b_beq_t hb)] at H
            show G _ _ _ _ [_, _, _, _, _, _, _, _, _, _, _, _, _, _, _, _, _, _, _, _, _, _, _, _, _] _
            refine g_ops_nil ?_
            refine g_cond_true rfl ?_
            refine g_region ?_
            show G _ _ _ (.inRegion _ [0, 1, 2, 3, 4] :: _) _ _
            refine g_op (v := v13) rfl rfl rfl ?_
            show G _ _ _ _ [_, _, _, _, _, _, _, _, _, _, _, _, _, _, _, _, _, _, _, _, _, _, _, _, _] _
            refine g_op (v := Value.int .u16 x15) rfl rfl rfl ?_
            show G _ _ _ _ [_, _, _, _, _, _, _, _, _, _, _, _, _, _, _, _, _, _, _, _, _, _, _, _, _] _
            refine s_lit1 (fkI .u16) (y := x15) hs rfl rfl rfl rfl (fun _ => rfl) (zv := (Value.int .u16 0)) (fun _ => rfl) rfl (by decide) (by decide) rfl ?_
            intro v17 w hs
            show G _ _ _ _ [_, _, _, _, _, _, _, _, _, _, _, _, _, _, _, _, _, _, _, _, _, _, _, _, _] _
            have hs := hs.pull 3 rfl
            have hs : St _ [_, _, _, _] _ := hs
            obtain ⟨g, H⟩ := ite_get H
            refine s_append (fkI .u16) (zv := (Value.int .u16 0)) (B := 2) hs (hs.row 1 rfl) rfl rfl rfl rfl rfl rfl rfl rfl rfl (by decide) rfl rfl (by decide) (by omega) ?_
            intro v19 w hs
            show G _ _ _ _ [_, _, _, _, _, _, _, _, _, _, _, _, _, _, _, _, _, _, _, _, _, _, _, _, _] _
            refine g_op (v := v19) rfl rfl rfl ?_
            show G _ _ _ _ [_, _, _, _, _, _, _, _, _, _, _, _, _, _, _, _, _, _, _, _, _, _, _, _, _] _
            refine g_ops_nil ?_
            refine g_inBlock ?_
            have hs := hs.pull 0 rfl
            have hs := hs.pull 3 rfl
            have hs := hs.pull 3 rfl
            have hs : St _ [_, _, _] _ := St.take (Γ' := [_]) hs
            exact ha _ _ ⟨v19, x14 ++ ([x15]), H, rfl, hs⟩
          · intro hb
            rw [if_neg (b_beq_f hb)] at H
            show G _ _ _ _ [_, _, _, _, _, _, _, _, _, _, _, _, _, _, _, _, _, _, _, _, _, _, _, _, _] _
            refine g_ops_nil ?_
            refine g_cond_false rfl ?_
            refine g_skip ?_
            refine g_inBlock ?_
            have hs := hs.pull 2 rfl
            have hs := hs.pull 2 rfl
            have hs := hs.pull 2 rfl
            have hs : St _ [_, _, _] _ := St.take (Γ' := []) hs
            exact ha _ _ ⟨v13, x14, H, rfl, hs⟩
      · intro hb
        rw [if_neg (b_dec_f hb)] at H
        show G _ _ _ _ [_, _, _, _, _, _, _, _, _, _, _, _, _, _, _, _, _, _, _, _, _, _, _, _, _] _
        refine g_ops_nil ?_
        refine g_seq ?_
        refine g_cond_false rfl ?_
        obtain rfl := Option.some.inj H
        subst Hx1_
        have hs := hs.pull 2 rfl
        have hs : St _ [_] _ := St.take (Γ' := [_, _]) hs
        refine g_exit rfl ?_
        exact ha1_ _ _ ⟨v13, x14, Hr1_, rfl, hs⟩

/- function 21 impl_LoadsFrom -/
def impl_LoadsFrom.post (w0 : World) (r : ((List Int) × Int)) (v : Value) (w : World) : Prop := ∃ u1 : Value, v = Value.tuple #[u1, Value.int .i64 r.2] ∧ St w0 [Row 27 (K.int .u16) u1 r.1] w
set_option maxHeartbeats 400000 in
set_option maxRecDepth 100000 in
theorem impl_LoadsFrom.calls {N : Nat} {a1 : S_laws_Ferry} {a4 : S_impl_Bank} {v2 : Value} {w0 : World} {r : ((List Int) × Int)} (hr3 : RdRow (K.int .u16) w0 v2 a1.f_Rules) (H : impl_LoadsFrom.f N a1 a4 = some r) :
    Calls Try.prog 21 #[Value.agg (([Value.int .i8 a1.f_Things, Value.int .i8 a1.f_Boat, v2] : List Value)).toArray, Value.agg (enc_S_impl_Bank a4).toArray] w0 fun e w => ∃ v, e = .returned v ∧ impl_LoadsFrom.post w0 r v w := by
  unfold impl_LoadsFrom.f at H
  have hs : St w0 [] w0 := St.refl w0
  refine calls_of_g (n := 11) Try.func21 rfl rfl ?_
  show G _ _ _ _ [_, _, _, _, _, _, _, _, _, _, _, _, _] _
  refine g_seq ?_
  refine g_region ?_
  show G _ _ _ (.inRegion _ [0, 1, 2, 3] :: _) _ _
  refine s_box hs rfl rfl (cs := (([Value.int .i8 a1.f_Things, Value.int .i8 a1.f_Boat, v2] : List Value))) rfl rfl ?_
  intro b5 w hs
  show G _ _ _ _ [_, _, _, _, _, _, _, _, _, _, _, _, _] _
  refine s_box hs rfl rfl (cs := (enc_S_impl_Bank a4)) rfl rfl ?_
  intro b7 w hs
  show G _ _ _ _ [_, _, _, _, _, _, _, _, _, _, _, _, _] _
  refine g_op (v := Value.slice none 0 0) rfl rfl rfl ?_
  show G _ _ _ _ [_, _, _, _, _, _, _, _, _, _, _, _, _] _
  refine g_op (v := Value.int .i64 0) rfl rfl rfl ?_
  show G _ _ _ _ [_, _, _, _, _, _, _, _, _, _, _, _, _] _
  refine g_ops_nil ?_
  refine g_seq ?_
  refine g_seq ?_
  refine g_region ?_
  show G _ _ _ (.inRegion _ [0, 1, 2, 3] :: _) _ _
  refine s_loadA rfl rfl (es := (([Value.int .i8 a1.f_Things, Value.int .i8 a1.f_Boat, v2] : List Value))) rfl rfl (fun _ => rfl) (n := 3) (fun _ => rfl) rfl (cells_all (hs.cells 1 rfl)) ?_
  show G _ _ _ _ [_, _, _, _, _, _, _, _, _, _, _, _, _] _
  refine s_loadA rfl rfl (es := (enc_S_impl_Bank a4)) rfl rfl (fun _ => rfl) (n := 2) (fun _ => rfl) (fk_S_impl_Bank.len _) (cells_all (hs.cells 0 rfl)) ?_
  show G _ _ _ _ [_, _, _, _, _, _, _, _, _, _, _, _, _] _
  obtain ⟨r9, Hr9, H⟩ := bind_get H
  refine s_call (args := [Value.agg (([Value.int .i8 a1.f_Things, Value.int .i8 a1.f_Boat, v2] : List Value)).toArray, Value.agg (enc_S_impl_Bank a4).toArray]) rfl rfl (x_call rfl (callFunc_enter Try.func51 rfl rfl) rfl) (impl_ValidBank.calls (a1 := (⟨a1.f_Things, a1.f_Boat, a1.f_Rules⟩ : S_laws_Ferry)) (a4 := a4) (hs.rd hr3) Hr9) ?_
  rintro _ w ⟨rfl, hs2⟩
  have hs : St _ [_, _] _ := hs.call hs2
  cases r9 with
  | true =>
    rw [if_pos rfl] at H
    show G _ _ _ _ [_, _, _, _, _, _, _, _, _, _, _, _, _] _
    refine g_op (v := Value.bool false) rfl rfl rfl ?_
    show G _ _ _ _ [_, _, _, _, _, _, _, _, _, _, _, _, _] _
    refine g_ops_nil ?_
    refine g_cond_false rfl ?_
    refine g_skip ?_
    refine g_seq ?_
    refine g_region ?_
    show G _ _ _ (.inRegion _ [0, 1, 2, 3, 4] :: _) _ _
    refine s_loadA rfl rfl (es := (([Value.int .i8 a1.f_Things, Value.int .i8 a1.f_Boat, v2] : List Value))) rfl rfl (fun _ => rfl) (n := 3) (fun _ => rfl) rfl (cells_all (hs.cells 1 rfl)) ?_
    show G _ _ _ _ [_, _, _, _, _, _, _, _, _, _, _, _, _] _
    refine s_loadA rfl rfl (es := (enc_S_impl_Bank a4)) rfl rfl (fun _ => rfl) (n := 2) (fun _ => rfl) (fk_S_impl_Bank.len _) (cells_all (hs.cells 0 rfl)) ?_
    show G _ _ _ _ [_, _, _, _, _, _, _, _, _, _, _, _, _] _
    obtain ⟨r10, Hr10, H⟩ := bind_get H
    refine s_call (args := [Value.agg (([Value.int .i8 a1.f_Things, Value.int .i8 a1.f_Boat, v2] : List Value)).toArray, Value.agg (enc_S_impl_Bank a4).toArray]) rfl rfl (x_call rfl (callFunc_enter Try.func52 rfl rfl) rfl) (_impl_Ferry_loads.calls (a1 := (⟨a1.f_Things, a1.f_Boat, a1.f_Rules⟩ : S_laws_Ferry)) (a4 := a4) (hs.rd hr3) Hr10) ?_
    intro v11 w hs2
    have hs : St _ [_, _, _] _ := hs.call hs2
    show G _ _ _ _ [_, _, _, _, _, _, _, _, _, _, _, _, _] _
    refine g_op (v := v11) rfl rfl rfl ?_
    show G _ _ _ _ [_, _, _, _, _, _, _, _, _, _, _, _, _] _
    refine g_op (v := Value.int .i64 0) rfl rfl rfl ?_
    show G _ _ _ _ [_, _, _, _, _, _, _, _, _, _, _, _, _] _
    refine g_ops_nil ?_
    obtain rfl := Option.some.inj H
    refine g_ret Try.func21 (v := Value.tuple #[v11, Value.int .i64 0]) (resN (l := Try.f21.results.toList) (vs := [v11, Value.int .i64 0]) rfl ⟨rfl, rfl, trivial⟩ (by simp)) ?_
    have hs := hs.pull 0 rfl
    have hs : St _ [_] _ := St.take (Γ' := [_, _]) hs
    exact ⟨_, rfl, v11, rfl, hs⟩
  | false =>
    rw [if_neg Bool.false_ne_true] at H
    show G _ _ _ _ [_, _, _, _, _, _, _, _, _, _, _, _, _] _
    refine g_op (v := Value.bool true) rfl rfl rfl ?_
    show G _ _ _ _ [_, _, _, _, _, _, _, _, _, _, _, _, _] _
    refine g_ops_nil ?_
    refine g_cond_true rfl ?_
    refine g_seq ?_
    refine g_region ?_
    show G _ _ _ (.inRegion _ [0, 1] :: _) _ _
    refine g_op (v := Value.slice none 0 0) rfl rfl rfl ?_
    show G _ _ _ _ [_, _, _, _, _, _, _, _, _, _, _, _, _] _
    refine g_op (v := Value.int .i64 1) rfl rfl rfl ?_
    show G _ _ _ _ [_, _, _, _, _, _, _, _, _, _, _, _, _] _
    refine g_ops_nil ?_
    obtain rfl := Option.some.inj H
    refine g_ret Try.func21 (v := Value.tuple #[Value.slice none 0 0, Value.int .i64 1]) (resN (l := Try.f21.results.toList) (vs := [Value.slice none 0 0, Value.int .i64 1]) rfl ⟨rfl, rfl, trivial⟩ (by simp)) ?_
    have hs := hs.nil 27 (K.int .u16)
    have hs := hs.pull 0 rfl
    have hs : St _ [_] _ := St.take (Γ' := [_, _]) hs
    exact ⟨_, rfl, (Value.slice none 0 0), rfl, hs⟩

/- function 23 laws_markUint16S -/
def laws_markUint16S.post (wb : World) (Z : As) (v2 : Value) (r : (Int × (List Int))) (v : Value) (w : World) : Prop := v = Value.int .i64 r.1 ∧ St wb [Row 27 (K.int .u16) v2 r.2, Z] w
set_option maxHeartbeats 400000 in
set_option maxRecDepth 100000 in
theorem laws_markUint16S.calls {N : Nat} {a1 : (List Int)} {a4 : Int} {v2 : Value} {wb : World} {Z : As} {w0 : World} {r : (Int × (List Int))} (hs : St wb [Row 27 (K.int .u16) v2 a1, Z] w0) (H : laws_markUint16S.f N a1 a4 = some r) :
    Calls Try.prog 23 #[v2, Value.int .i64 a4] w0 fun e w => ∃ v, e = .returned v ∧ laws_markUint16S.post wb Z v2 r v w := by
  unfold laws_markUint16S.f at H
  refine calls_of_g (n := 18) Try.func23 rfl rfl ?_
  show G _ _ _ _ [_, _, _, _, _, _, _, _, _, _, _, _, _, _, _, _, _, _, _, _] _
  refine g_seq ?_
  refine g_region ?_
  show G _ _ _ (.inRegion _ [0] :: _) _ _
  refine g_op (v := Value.int .i64 0) rfl rfl rfl ?_
  show G _ _ _ _ [_, _, _, _, _, _, _, _, _, _, _, _, _, _, _, _, _, _, _, _] _
  refine g_ops_nil ?_
  refine g_seq ?_
  refine g_seq ?_
  refine g_region ?_
  show G _ _ _ (.inRegion _ [0] :: _) _ _
  refine g_op (v := Value.int .i64 0) rfl rfl rfl ?_
  show G _ _ _ _ [_, _, _, _, _, _, _, _, _, _, _, _, _, _, _, _, _, _, _, _] _
  refine g_ops_nil ?_
  obtain ⟨o1_, Ho, Hr1_⟩ := bind_get H
  refine g_block_join (J := fun t w => ∃ x12 : Int, ∃ x13 : (List Int), laws_markUint16S.a0 N x12 x13 = some r ∧ Fr t (fun O => ([O 0, Value.int .i64 x12, O 2, O 3, O 4, O 5, O 6, O 7, O 8, O 9, O 10, O 11, O 12, O 13, O 14, O 15, O 16, O 17, O 18, O 19] : List Value)) ∧ St wb [Row 27 (K.int .u16) v2 x13, Z] w) ?_ ?_
  · rintro t w ⟨x12, x13, H, hf, hs⟩
    obtain ⟨O, rfl⟩ := hf.open
    show G _ _ _ _ [_, _, _, _, _, _, _, _, _, _, _, _, _, _, _, _, _, _, _, _] _
    unfold laws_markUint16S.a0 at H
    refine g_seq ?_
    refine g_region ?_
    show G _ _ _ (.inRegion _ [0, 1] :: _) _ _
    refine g_op (v := Value.int .i64 x12) rfl rfl rfl ?_
    show G _ _ _ _ [_, _, _, _, _, _, _, _, _, _, _, _, _, _, _, _, _, _, _, _] _
    refine g_op (v := Value.int .i64 x12) rfl rfl rfl ?_
    show G _ _ _ _ [_, _, _, _, _, _, _, _, _, _, _, _, _, _, _, _, _, _, _, _] _
    refine g_ops_nil ?_
    obtain rfl := Option.some.inj H
    refine g_ret Try.func23 (v := Value.int .i64 x12) (res1 rfl rfl) ?_
    have hs := hs.pull 1 rfl
    have hs := hs.pull 1 rfl
    have hs : St _ [_, _] _ := St.take (Γ' := []) hs
    exact ⟨_, rfl, rfl, hs⟩
  · intro ha1_
    have hs := hs.pull 1 rfl
    have hs := hs.pull 1 rfl
    have hs : St _ [_, _] _ := St.take (Γ' := []) hs
    refine g_loop_fuel (I := fun n_ t w => ∃ x8 : (List Int), ∃ x9 : Int, ∃ x10 : Int, rounds (fun s => laws_markUint16S.b0 N s.1 s.2.1 s.2.2) n_ (x8, x9, x10) = some o1_ ∧ Fr t (fun O => ([v2, Value.int .i64 x9, O 2, O 3, O 4, Value.int .i64 x10, O 6, O 7, O 8, O 9, O 10, O 11, O 12, O 13, O 14, O 15, O 16, O 17, O 18, O 19] : List Value)) ∧ St wb [Row 27 (K.int .u16) v2 x8, Z] w) N ⟨a1, a4, 0, Ho, rfl, hs⟩ ?_ ?_
    · rintro _ _ ⟨x8, x9, x10, h, _⟩
      exact rounds_zero h
    · intro n_ ih1_
      rintro t w ⟨x8, x9, x10, Ho, hf, hs⟩
      obtain ⟨O, rfl⟩ := hf.open
      show G _ _ _ _ [_, _, _, _, _, _, _, _, _, _, _, _, _, _, _, _, _, _, _, _] _
      obtain ⟨x3_, H, Hx1_⟩ := rounds_succ Ho
      have H : laws_markUint16S.b0 N x8 x9 x10 = some x3_ := H
      unfold laws_markUint16S.b0 at H
      refine g_seq ?_
      refine g_seq ?_
      refine g_region ?_
      show G _ _ _ (.inRegion _ [0, 1, 2, 3] :: _) _ _
      refine g_op (v := Value.int .i64 x10) rfl rfl rfl ?_
      show G _ _ _ _ [_, _, _, _, _, _, _, _, _, _, _, _, _, _, _, _, _, _, _, _] _
      refine g_op (v := v2) rfl rfl rfl ?_
      show G _ _ _ _ [_, _, _, _, _, _, _, _, _, _, _, _, _, _, _, _, _, _, _, _] _
      refine s_len (hs.row 0 rfl) rfl rfl rfl rfl rfl ?_
      show G _ _ _ _ [_, _, _, _, _, _, _, _, _, _, _, _, _, _, _, _, _, _, _, _] _
      refine g_op_b (B := decide (x10 < (x8.length : Int))) rfl rfl rfl ?_ ?_
      · intro hb
        rw [if_pos (b_dec_t hb)] at H
        show G _ _ _ _ [_, _, _, _, _, _, _, _, _, _, _, _, _, _, _, _, _, _, _, _] _
        refine g_ops_nil ?_
        refine g_cond_true rfl ?_
        refine g_skip ?_
        refine g_seq ?_
        refine g_block ?_
        refine g_seq ?_
        refine g_region ?_
        show G _ _ _ (.inRegion _ [0, 1, 2, 3, 4, 5] :: _) _ _
        refine g_op (v := v2) rfl rfl rfl ?_
        show G _ _ _ _ [_, _, _, _, _, _, _, _, _, _, _, _, _, _, _, _, _, _, _, _] _
        refine g_op (v := Value.int .i64 x10) rfl rfl rfl ?_
        show G _ _ _ _ [_, _, _, _, _, _, _, _, _, _, _, _, _, _, _, _, _, _, _, _] _
        refine g_op (v := Value.int .i64 x9) rfl rfl rfl ?_
        show G _ _ _ _ [_, _, _, _, _, _, _, _, _, _, _, _, _, _, _, _, _, _, _, _] _
        refine g_op (v := Value.int .u16 (u16w x9)) rfl rfl rfl ?_
        show G _ _ _ _ [_, _, _, _, _, _, _, _, _, _, _, _, _, _, _, _, _, _, _, _] _
        obtain ⟨g2, H⟩ := ite_get H
        refine s_idx (fkI .u16) 0 (hs.row 0 rfl) rfl (fun _ => rfl) g2.1 g2.2 rfl rfl rfl rfl rfl ?_
        intro p11 hp11 lp11 op11
        show G _ _ _ _ [_, _, _, _, _, _, _, _, _, _, _, _, _, _, _, _, _, _, _, _] _
        refine s_stRow (y := u16w x9) (fkI .u16) g2.1 g2.2 op11 hs rfl rfl rfl rfl rfl (fun _ => rfl) ?_
        intro w hs
        refine g_ops_nil ?_
        refine g_region ?_
        show G _ _ _ (.inRegion _ [0, 1, 2] :: _) _ _
        refine g_op (v := Value.int .i64 x9) rfl rfl rfl ?_
        show G _ _ _ _ [_, _, _, _, _, _, _, _, _, _, _, _, _, _, _, _, _, _, _, _] _
        refine g_op (v := Value.int .i64 (i64w (x9 + 1))) rfl rfl rfl ?_
        show G _ _ _ _ [_, _, _, _, _, _, _, _, _, _, _, _, _, _, _, _, _, _, _, _] _
        refine g_op (v := Value.int .i64 (i64w (x9 + 1))) rfl rfl rfl ?_
        show G _ _ _ _ [_, _, _, _, _, _, _, _, _, _, _, _, _, _, _, _, _, _, _, _] _
        refine g_ops_nil ?_
        refine g_inBlock ?_
        refine g_region ?_
        show G _ _ _ (.inRegion _ [0, 1, 2] :: _) _ _
        refine g_op (v := Value.int .i64 x10) rfl rfl rfl ?_
        show G _ _ _ _ [_, _, _, _, _, _, _, _, _, _, _, _, _, _, _, _, _, _, _, _] _
        refine g_op (v := Value.int .i64 (i64w (x10 + 1))) rfl rfl rfl ?_
        show G _ _ _ _ [_, _, _, _, _, _, _, _, _, _, _, _, _, _, _, _, _, _, _, _] _
        refine g_op (v := Value.int .i64 (i64w (x10 + 1))) rfl rfl rfl ?_
        show G _ _ _ _ [_, _, _, _, _, _, _, _, _, _, _, _, _, _, _, _, _, _, _, _] _
        refine g_ops_nil ?_
        obtain rfl := Option.some.inj H
        have hs := hs.pull 1 rfl
        have hs := hs.pull 1 rfl
        have hs : St _ [_, _] _ := St.take (Γ' := []) hs
        exact ih1_ _ _ ⟨stL x8 x10 (u16w x9), i64w (x9 + 1), i64w (x10 + 1), Hx1_, rfl, hs⟩
      · intro hb
        rw [if_neg (b_dec_f hb)] at H
        show G _ _ _ _ [_, _, _, _, _, _, _, _, _, _, _, _, _, _, _, _, _, _, _, _] _
        refine g_ops_nil ?_
        refine g_cond_false rfl ?_
        obtain rfl := Option.some.inj H
        subst Hx1_
        have hs := hs.pull 1 rfl
        have hs := hs.pull 1 rfl
        have hs : St _ [_, _] _ := St.take (Γ' := []) hs
        refine g_exit rfl ?_
        exact ha1_ _ _ ⟨x9, x8, Hr1_, rfl, hs⟩

/- function 22 laws_markFerry -/
def laws_markFerry.post (wb : World) (Z : As) (v2 : Value) (r : (Int × (List Int))) (v : Value) (w : World) : Prop := v = Value.int .i64 r.1 ∧ St wb [Row 27 (K.int .u16) v2 r.2, Z] w
set_option maxHeartbeats 400000 in
set_option maxRecDepth 100000 in
theorem laws_markFerry.calls {N : Nat} {a1 : S_laws_Ferry} {a4 : Int} {v2 : Value} {wb : World} {Z : As} {w0 : World} {r : (Int × (List Int))} (hs : St wb [Row 27 (K.int .u16) v2 a1.f_Rules, Z] w0) (H : laws_markFerry.f N a1 a4 = some r) :
    Calls Try.prog 22 #[Value.agg (([Value.int .i8 a1.f_Things, Value.int .i8 a1.f_Boat, v2] : List Value)).toArray, Value.int .i64 a4] w0 fun e w => ∃ v, e = .returned v ∧ laws_markFerry.post wb Z v2 r v w := by
  unfold laws_markFerry.f at H
  refine calls_of_g (n := 8) Try.func22 rfl rfl ?_
  show G _ _ _ _ [_, _, _, _, _, _, _, _, _, _] _
  refine g_seq ?_
  refine g_region ?_
  show G _ _ _ (.inRegion _ [0, 1] :: _) _ _
  refine s_box hs rfl rfl (cs := (([Value.int .i8 a1.f_Things, Value.int .i8 a1.f_Boat, v2] : List Value))) rfl rfl ?_
  intro b5 w hs
  show G _ _ _ _ [_, _, _, _, _, _, _, _, _, _] _
  refine g_op (v := Value.int .i64 0) rfl rfl rfl ?_
  show G _ _ _ _ [_, _, _, _, _, _, _, _, _, _] _
  refine g_ops_nil ?_
  refine g_seq ?_
  refine g_region ?_
  show G _ _ _ (.inRegion _ [0, 1, 2, 3, 4] :: _) _ _
  refine g_op (v := Value.pointer (some ⟨b5, 2, none⟩)) rfl rfl rfl ?_
  show G _ _ _ _ [_, _, _, _, _, _, _, _, _, _] _
  refine s_load1 rfl rfl (v := v2) rfl rfl (fun _ => rfl) (cells_load (hs.cells 0 rfl) 2 1 rfl) ?_
  show G _ _ _ _ [_, _, _, _, _, _, _, _, _, _] _
  refine g_op (v := Value.int .i64 a4) rfl rfl rfl ?_
  show G _ _ _ _ [_, _, _, _, _, _, _, _, _, _] _
  obtain ⟨r7, Hr7, H⟩ := bind_get H
  have hs := hs.pull 1 rfl
  have hs : St _ [_, _, _] _ := hs
  have hs := hs.pack 1
  refine s_call (args := [v2, Value.int .i64 a4]) rfl rfl (x_call rfl (callFunc_enter Try.func23 rfl rfl) rfl) (laws_markUint16S.calls (a1 := a1.f_Rules) (a4 := a4) hs Hr7) ?_
  rintro _ w ⟨rfl, hs⟩
  have hs := St.unpack (Γ := [_]) hs
  have hs : St _ [_, _, _] _ := hs
  show G _ _ _ _ [_, _, _, _, _, _, _, _, _, _] _
  refine g_op (v := Value.int .i64 r7.1) rfl rfl rfl ?_
  show G _ _ _ _ [_, _, _, _, _, _, _, _, _, _] _
  refine g_ops_nil ?_
  refine g_seq ?_
  refine g_region ?_
  show G _ _ _ (.inRegion _ [0, 1] :: _) _ _
  refine g_op (v := Value.int .i64 r7.1) rfl rfl rfl ?_
  show G _ _ _ _ [_, _, _, _, _, _, _, _, _, _] _
  refine g_op (v := Value.int .i64 r7.1) rfl rfl rfl ?_
  show G _ _ _ _ [_, _, _, _, _, _, _, _, _, _] _
  refine g_ops_nil ?_
  obtain rfl := Option.some.inj H
  refine g_ret Try.func22 (v := Value.int .i64 r7.1) (res1 rfl rfl) ?_
  have hs := hs.pull 2 rfl
  have hs := hs.pull 1 rfl
  have hs : St _ [_, _] _ := St.take (Γ' := [_]) hs
  exact ⟨_, rfl, rfl, hs⟩

/- function 24 laws_heldUint16S -/
def laws_heldUint16S.post (w0 : World) (r : Int) (v : Value) (w : World) : Prop := v = Value.int .i64 r ∧ St w0 [] w
set_option maxHeartbeats 400000 in
set_option maxRecDepth 100000 in
theorem laws_heldUint16S.calls {N : Nat} {a1 : (List Int)} {a3 : Int} {v2 : Value} {w0 : World} {r : Int} (hr0 : RdRow (K.int .u16) w0 v2 a1) (H : laws_heldUint16S.f N a1 a3 = some r) :
    Calls Try.prog 24 #[v2, Value.int .i64 a3] w0 fun e w => ∃ v, e = .returned v ∧ laws_heldUint16S.post w0 r v w := by
  unfold laws_heldUint16S.f at H
  have hs : St w0 [] w0 := St.refl w0
  refine calls_of_g (n := 20) Try.func24 rfl rfl ?_
  show G _ _ _ _ [_, _, _, _, _, _, _, _, _, _, _, _, _, _, _, _, _, _, _, _, _, _] _
  refine g_seq ?_
  refine g_region ?_
  show G _ _ _ (.inRegion _ [0] :: _) _ _
  refine g_op (v := Value.int .i64 0) rfl rfl rfl ?_
  show G _ _ _ _ [_, _, _, _, _, _, _, _, _, _, _, _, _, _, _, _, _, _, _, _, _, _] _
  refine g_ops_nil ?_
  refine g_seq ?_
  refine g_seq ?_
  refine g_region ?_
  show G _ _ _ (.inRegion _ [0] :: _) _ _
  refine g_op (v := Value.int .i64 0) rfl rfl rfl ?_
  show G _ _ _ _ [_, _, _, _, _, _, _, _, _, _, _, _, _, _, _, _, _, _, _, _, _, _] _
  refine g_ops_nil ?_
  obtain ⟨o1_, Ho, Hr1_⟩ := bind_get H
  refine g_block_join (J := fun t w => ∃ x7 : Int, laws_heldUint16S.a0 N x7 = some r ∧ Fr t (fun O => ([O 0, Value.int .i64 x7, O 2, O 3, O 4, O 5, O 6, O 7, O 8, O 9, O 10, O 11, O 12, O 13, O 14, O 15, O 16, O 17, O 18, O 19, O 20, O 21] : List Value)) ∧ St w0 [] w) ?_ ?_
  · rintro t w ⟨x7, H, hf, hs⟩
    obtain ⟨O, rfl⟩ := hf.open
    show G _ _ _ _ [_, _, _, _, _, _, _, _, _, _, _, _, _, _, _, _, _, _, _, _, _, _] _
    unfold laws_heldUint16S.a0 at H
    refine g_seq ?_
    refine g_region ?_
    show G _ _ _ (.inRegion _ [0, 1] :: _) _ _
    refine g_op (v := Value.int .i64 x7) rfl rfl rfl ?_
    show G _ _ _ _ [_, _, _, _, _, _, _, _, _, _, _, _, _, _, _, _, _, _, _, _, _, _] _
    refine g_op (v := Value.int .i64 x7) rfl rfl rfl ?_
    show G _ _ _ _ [_, _, _, _, _, _, _, _, _, _, _, _, _, _, _, _, _, _, _, _, _, _] _
    refine g_ops_nil ?_
    obtain rfl := Option.some.inj H
    refine g_ret Try.func24 (v := Value.int .i64 x7) (res1 rfl rfl) ?_
    have hs : St _ [] _ := St.take (Γ' := []) hs
    exact ⟨_, rfl, rfl, hs⟩
  · intro ha1_
    have hs : St _ [] _ := St.take (Γ' := []) hs
    refine g_loop_fuel (I := fun n_ t w => ∃ x4 : Int, ∃ x5 : Int, rounds (fun s => laws_heldUint16S.b0 N a1 s.1 s.2) n_ (x4, x5) = some o1_ ∧ Fr t (fun O => ([v2, Value.int .i64 x4, O 2, O 3, O 4, Value.int .i64 x5, O 6, O 7, O 8, O 9, O 10, O 11, O 12, O 13, O 14, O 15, O 16, O 17, O 18, O 19, O 20, O 21] : List Value)) ∧ St w0 [] w) N ⟨a3, 0, Ho, rfl, hs⟩ ?_ ?_
    · rintro _ _ ⟨x4, x5, h, _⟩
      exact rounds_zero h
    · intro n_ ih1_
      rintro t w ⟨x4, x5, Ho, hf, hs⟩
      obtain ⟨O, rfl⟩ := hf.open
      show G _ _ _ _ [_, _, _, _, _, _, _, _, _, _, _, _, _, _, _, _, _, _, _, _, _, _] _
      obtain ⟨x2_, H, Hx1_⟩ := rounds_succ Ho
      have H : laws_heldUint16S.b0 N a1 x4 x5 = some x2_ := H
      unfold laws_heldUint16S.b0 at H
      refine g_seq ?_
      refine g_seq ?_
      refine g_region ?_
      show G _ _ _ (.inRegion _ [0, 1, 2, 3] :: _) _ _
      refine g_op (v := Value.int .i64 x5) rfl rfl rfl ?_
      show G _ _ _ _ [_, _, _, _, _, _, _, _, _, _, _, _, _, _, _, _, _, _, _, _, _, _] _
      refine g_op (v := v2) rfl rfl rfl ?_
      show G _ _ _ _ [_, _, _, _, _, _, _, _, _, _, _, _, _, _, _, _, _, _, _, _, _, _] _
      refine s_len (hs.rd hr0) rfl rfl rfl rfl rfl ?_
      show G _ _ _ _ [_, _, _, _, _, _, _, _, _, _, _, _, _, _, _, _, _, _, _, _, _, _] _
      refine g_op_b (B := decide (x5 < (a1.length : Int))) rfl rfl rfl ?_ ?_
      · intro hb
        rw [if_pos (b_dec_t hb)] at H
        show G _ _ _ _ [_, _, _, _, _, _, _, _, _, _, _, _, _, _, _, _, _, _, _, _, _, _] _
        refine g_ops_nil ?_
        refine g_cond_true rfl ?_
        refine g_skip ?_
        refine g_seq ?_
        refine g_block ?_
        refine g_seq ?_
        refine g_seq ?_
        refine g_region ?_
        show G _ _ _ (.inRegion _ [0, 1, 2, 3, 4, 5, 6] :: _) _ _
        refine g_op (v := v2) rfl rfl rfl ?_
        show G _ _ _ _ [_, _, _, _, _, _, _, _, _, _, _, _, _, _, _, _, _, _, _, _, _, _] _
        refine g_op (v := Value.int .i64 x5) rfl rfl rfl ?_
        show G _ _ _ _ [_, _, _, _, _, _, _, _, _, _, _, _, _, _, _, _, _, _, _, _, _, _] _
        obtain ⟨g1, H⟩ := ite_get H
        refine s_idx (fkI .u16) 0 (hs.rd hr0) rfl (fun _ => rfl) g1.1 g1.2 rfl rfl rfl rfl rfl ?_
        intro p6 hp6 lp6 op6
        show G _ _ _ _ [_, _, _, _, _, _, _, _, _, _, _, _, _, _, _, _, _, _, _, _, _, _] _
        refine s_load1 rfl rfl (v := Value.int .u16 (rdL a1 x5 0)) rfl rfl (fun _ => rfl) hp6 ?_
        show G _ _ _ _ [_, _, _, _, _, _, _, _, _, _, _, _, _, _, _, _, _, _, _, _, _, _] _
        refine g_op (v := Value.int .i64 x4) rfl rfl rfl ?_
        show G _ _ _ _ [_, _, _, _, _, _, _, _, _, _, _, _, _, _, _, _, _, _, _, _, _, _] _
        refine g_op (v := Value.int .u16 (u16w x4)) rfl rfl rfl ?_
        show G _ _ _ _ [_, _, _, _, _, _, _, _, _, _, _, _, _, _, _, _, _, _, _, _, _, _] _
        refine g_op_b (B := (rdL a1 x5 0) != (u16w x4)) rfl rfl rfl ?_ ?_
        · intro hb
          rw [if_neg (b_bne_t hb)] at H
          show G _ _ _ _ [_, _, _, _, _, _, _, _, _, _, _, _, _, _, _, _, _, _, _, _, _, _] _
          refine g_ops_nil ?_
          refine g_cond_true rfl ?_
          refine g_seq ?_
          refine g_region ?_
          show G _ _ _ (.inRegion _ [0] :: _) _ _
          refine g_op (v := Value.int .i64 (-1)) rfl rfl rfl ?_
          show G _ _ _ _ [_, _, _, _, _, _, _, _, _, _, _, _, _, _, _, _, _, _, _, _, _, _] _
          refine g_ops_nil ?_
          obtain rfl := Option.some.inj H
          subst Hx1_
          have H := Option.some.inj Hr1_
          subst H
          refine g_ret Try.func24 (v := Value.int .i64 (-1)) (res1 rfl rfl) ?_
          have hs : St _ [] _ := St.take (Γ' := []) hs
          exact ⟨_, rfl, rfl, hs⟩
        · intro hb
          rw [if_pos (b_bne_f hb)] at H
          show G _ _ _ _ [_, _, _, _, _, _, _, _, _, _, _, _, _, _, _, _, _, _, _, _, _, _] _
          refine g_ops_nil ?_
          refine g_cond_false rfl ?_
          refine g_skip ?_
          refine g_region ?_
          show G _ _ _ (.inRegion _ [0, 1, 2] :: _) _ _
          refine g_op (v := Value.int .i64 x4) rfl rfl rfl ?_
          show G _ _ _ _ [_, _, _, _, _, _, _, _, _, _, _, _, _, _, _, _, _, _, _, _, _, _] _
          refine g_op (v := Value.int .i64 (i64w (x4 + 1))) rfl rfl rfl ?_
          show G _ _ _ _ [_, _, _, _, _, _, _, _, _, _, _, _, _, _, _, _, _, _, _, _, _, _] _
          refine g_op (v := Value.int .i64 (i64w (x4 + 1))) rfl rfl rfl ?_
          show G _ _ _ _ [_, _, _, _, _, _, _, _, _, _, _, _, _, _, _, _, _, _, _, _, _, _] _
          refine g_ops_nil ?_
          refine g_inBlock ?_
          refine g_region ?_
          show G _ _ _ (.inRegion _ [0, 1, 2] :: _) _ _
          refine g_op (v := Value.int .i64 x5) rfl rfl rfl ?_
          show G _ _ _ _ [_, _, _, _, _, _, _, _, _, _, _, _, _, _, _, _, _, _, _, _, _, _] _
          refine g_op (v := Value.int .i64 (i64w (x5 + 1))) rfl rfl rfl ?_
          show G _ _ _ _ [_, _, _, _, _, _, _, _, _, _, _, _, _, _, _, _, _, _, _, _, _, _] _
          refine g_op (v := Value.int .i64 (i64w (x5 + 1))) rfl rfl rfl ?_
          show G _ _ _ _ [_, _, _, _, _, _, _, _, _, _, _, _, _, _, _, _, _, _, _, _, _, _] _
          refine g_ops_nil ?_
          obtain rfl := Option.some.inj H
          have hs : St _ [] _ := St.take (Γ' := []) hs
          exact ih1_ _ _ ⟨i64w (x4 + 1), i64w (x5 + 1), Hx1_, rfl, hs⟩
      · intro hb
        rw [if_neg (b_dec_f hb)] at H
        show G _ _ _ _ [_, _, _, _, _, _, _, _, _, _, _, _, _, _, _, _, _, _, _, _, _, _] _
        refine g_ops_nil ?_
        refine g_cond_false rfl ?_
        obtain rfl := Option.some.inj H
        subst Hx1_
        have hs : St _ [] _ := St.take (Γ' := []) hs
        refine g_exit rfl ?_
        exact ha1_ _ _ ⟨x4, Hr1_, rfl, hs⟩

end Go.Proofs.YtgoblgmidejdgaaX
