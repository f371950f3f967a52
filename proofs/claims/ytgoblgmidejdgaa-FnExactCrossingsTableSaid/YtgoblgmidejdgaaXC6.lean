/- Contracts, printed by gen.py. -/
import Derived.Test.YtgoblgmidejdgaaXC5
namespace Go.Proofs.YtgoblgmidejdgaaX
open Go Go.RowKit Go.Proofs
set_option linter.unusedVariables false
set_option linter.unusedSimpArgs false
/- function 45 impl_ValidFerry -/
def impl_ValidFerry.post (w0 : World) (r : Bool) (v : Value) (w : World) : Prop := v = Value.bool r ∧ St w0 [] w
set_option maxHeartbeats 8000000 in
set_option maxRecDepth 100000 in
theorem impl_ValidFerry.calls {N : Nat} {a1 : S_laws_Ferry} {v2 : Value} {w0 : World} {r : Bool} (hr3 : RdRow (K.int .u16) w0 v2 a1.f_Rules) (H : impl_ValidFerry.f N a1 = some r) :
    Calls Try.prog 45 #[Value.agg (([Value.int .i8 a1.f_Things, Value.int .i8 a1.f_Boat, v2] : List Value)).toArray] w0 fun e w => ∃ v, e = .returned v ∧ impl_ValidFerry.post w0 r v w := by
  unfold impl_ValidFerry.f at H
  have hs : St w0 [] w0 := St.refl w0
  refine calls_of_g (n := 28) Try.func45 rfl rfl ?_
  show G _ _ _ _ [_, _, _, _, _, _, _, _, _, _, _, _, _, _, _, _, _, _, _, _, _, _, _, _, _, _, _, _, _] _
  refine g_seq ?_
  refine g_region ?_
  show G _ _ _ (.inRegion _ [0, 1] :: _) _ _
  refine s_box hs rfl rfl (cs := (([Value.int .i8 a1.f_Things, Value.int .i8 a1.f_Boat, v2] : List Value))) rfl rfl ?_
  intro b4 w hs
  show G _ _ _ _ [_, _, _, _, _, _, _, _, _, _, _, _, _, _, _, _, _, _, _, _, _, _, _, _, _, _, _, _, _] _
  refine g_op (v := Value.bool false) rfl rfl rfl ?_
  show G _ _ _ _ [_, _, _, _, _, _, _, _, _, _, _, _, _, _, _, _, _, _, _, _, _, _, _, _, _, _, _, _, _] _
  refine g_ops_nil ?_
  refine g_seq ?_
  refine g_seq ?_
  refine g_region ?_
  show G _ _ _ (.inRegion _ [0, 1, 2, 3, 4, 5, 6, 7, 8, 9, 10, 11, 12, 13, 14, 15, 16, 17, 18, 19, 20] :: _) _ _
  refine g_op (v := Value.pointer (some ⟨b4, 0, none⟩)) rfl rfl rfl ?_
  refine s_load1 rfl rfl (v := Value.int .i8 a1.f_Things) rfl rfl (fun _ => rfl) (cells_load (hs.cells 0 rfl) 0 1 rfl) ?_
  show G _ _ _ _ [_, _, _, _, _, _, _, _, _, _, _, _, _, _, _, _, _, _, _, _, _, _, _, _, _, _, _, _, _] _
  refine g_op (v := Value.int .i64 (i64w a1.f_Things)) rfl rfl rfl ?_
  obtain ⟨r6, Hr6, H⟩ := bind_get H
  refine s_call (args := [Value.int .i64 (i64w a1.f_Things), Value.int .i64 1, Value.int .i64 8]) rfl rfl (x_call rfl (callFunc_enter Try.func67 rfl rfl) rfl) (impl_within.calls (a1 := i64w a1.f_Things) (a2 := 1) (a3 := 8) Hr6) ?_
  rintro _ w ⟨rfl, hs2⟩
  have hs : St _ [_] _ := hs.call hs2
  cases r6 with
  | true =>
    rw [if_pos rfl] at H
    show G _ _ _ _ [_, _, _, _, _, _, _, _, _, _, _, _, _, _, _, _, _, _, _, _, _, _, _, _, _, _, _, _, _] _
    refine g_op (v := Value.bool false) rfl rfl rfl ?_
    show G _ _ _ _ [_, _, _, _, _, _, _, _, _, _, _, _, _, _, _, _, _, _, _, _, _, _, _, _, _, _, _, _, _] _
    refine g_op (v := Value.bool false) rfl rfl rfl ?_
    refine g_op (v := Value.pointer (some ⟨b4, 1, none⟩)) rfl rfl rfl ?_
    refine s_load1 rfl rfl (v := Value.int .i8 a1.f_Boat) rfl rfl (fun _ => rfl) (cells_load (hs.cells 0 rfl) 1 1 rfl) ?_
    show G _ _ _ _ [_, _, _, _, _, _, _, _, _, _, _, _, _, _, _, _, _, _, _, _, _, _, _, _, _, _, _, _, _] _
    refine g_op (v := Value.int .i64 (i64w a1.f_Boat)) rfl rfl rfl ?_
    refine g_op (v := Value.pointer (some ⟨b4, 0, none⟩)) rfl rfl rfl ?_
    refine s_load1 rfl rfl (v := Value.int .i8 a1.f_Things) rfl rfl (fun _ => rfl) (cells_load (hs.cells 0 rfl) 0 1 rfl) ?_
    show G _ _ _ _ [_, _, _, _, _, _, _, _, _, _, _, _, _, _, _, _, _, _, _, _, _, _, _, _, _, _, _, _, _] _
    refine g_op (v := Value.int .i64 (i64w a1.f_Things)) rfl rfl rfl ?_
    obtain ⟨r7, Hr7, H⟩ := bind_get H
    refine s_call (args := [Value.int .i64 (i64w a1.f_Boat), Value.int .i64 0, Value.int .i64 (i64w a1.f_Things)]) rfl rfl (x_call rfl (callFunc_enter Try.func67 rfl rfl) rfl) (impl_within.calls (a1 := i64w a1.f_Boat) (a2 := 0) (a3 := i64w a1.f_Things) Hr7) ?_
    rintro _ w ⟨rfl, hs2⟩
    have hs : St _ [_] _ := hs.call hs2
    show G _ _ _ _ [_, _, _, _, _, _, _, _, _, _, _, _, _, _, _, _, _, _, _, _, _, _, _, _, _, _, _, _, _] _
    refine g_op (v := Value.bool (!r7)) rfl rfl rfl ?_
    show G _ _ _ _ [_, _, _, _, _, _, _, _, _, _, _, _, _, _, _, _, _, _, _, _, _, _, _, _, _, _, _, _, _] _
    refine g_op_b (B := !r7) rfl rfl rfl ?_ ?_
    ·
     intro hb
     rw [if_neg (b_not_t hb)] at H
     show G _ _ _ _ [_, _, _, _, _, _, _, _, _, _, _, _, _, _, _, _, _, _, _, _, _, _, _, _, _, _, _, _, _] _
     refine g_op (v := Value.bool true) rfl rfl rfl ?_
     refine g_op_not rfl rfl ?_
     refine g_op_not rfl rfl ?_
     show G _ _ _ _ [_, _, _, _, _, _, _, _, _, _, _, _, _, _, _, _, _, _, _, _, _, _, _, _, _, _, _, _, _] _
     refine g_op_not rfl rfl ?_
     show G _ _ _ _ [_, _, _, _, _, _, _, _, _, _, _, _, _, _, _, _, _, _, _, _, _, _, _, _, _, _, _, _, _] _
     refine g_op_not rfl rfl ?_
     show G _ _ _ _ [_, _, _, _, _, _, _, _, _, _, _, _, _, _, _, _, _, _, _, _, _, _, _, _, _, _, _, _, _] _
     refine g_op (v := Value.bool true) rfl rfl rfl ?_
     show G _ _ _ _ [_, _, _, _, _, _, _, _, _, _, _, _, _, _, _, _, _, _, _, _, _, _, _, _, _, _, _, _, _] _
     refine g_ops_nil ?_
     refine g_cond_true rfl ?_
     refine g_seq ?_
     refine g_region ?_
     show G _ _ _ (.inRegion _ [0] :: _) _ _
     refine g_op (v := Value.bool false) rfl rfl rfl ?_
     show G _ _ _ _ [_, _, _, _, _, _, _, _, _, _, _, _, _, _, _, _, _, _, _, _, _, _, _, _, _, _, _, _, _] _
     refine g_ops_nil ?_
     obtain rfl := Option.some.inj H
     refine g_ret Try.func45 (v := Value.bool false) (res1 rfl rfl) ?_
     have hs : St _ [] _ := St.take (Γ' := [_]) hs
     exact ⟨_, rfl, rfl, hs⟩
    ·
     intro hb
     rw [if_pos (b_not_f hb)] at H
     show G _ _ _ _ [_, _, _, _, _, _, _, _, _, _, _, _, _, _, _, _, _, _, _, _, _, _, _, _, _, _, _, _, _] _
     refine g_op (v := Value.bool false) rfl rfl rfl ?_
     refine g_op (v := Value.pointer (some ⟨b4, 2, none⟩)) rfl rfl rfl ?_
     refine s_load1 rfl rfl (v := v2) rfl rfl (fun _ => rfl) (cells_load (hs.cells 0 rfl) 2 1 rfl) ?_
     show G _ _ _ _ [_, _, _, _, _, _, _, _, _, _, _, _, _, _, _, _, _, _, _, _, _, _, _, _, _, _, _, _, _] _
     refine s_len (hs.rd hr3) rfl rfl rfl rfl rfl ?_
     show G _ _ _ _ [_, _, _, _, _, _, _, _, _, _, _, _, _, _, _, _, _, _, _, _, _, _, _, _, _, _, _, _, _] _
     refine g_op_b (B := decide ((a1.f_Rules.length : Int) > 20)) rfl rfl rfl ?_ ?_
     ·
      intro hb
      rw [if_pos (b_dec_t hb)] at H
      show G _ _ _ _ [_, _, _, _, _, _, _, _, _, _, _, _, _, _, _, _, _, _, _, _, _, _, _, _, _, _, _, _, _] _
      refine g_op (v := Value.bool true) rfl rfl rfl ?_
      show G _ _ _ _ [_, _, _, _, _, _, _, _, _, _, _, _, _, _, _, _, _, _, _, _, _, _, _, _, _, _, _, _, _] _
      refine g_ops_nil ?_
      refine g_cond_true rfl ?_
      refine g_seq ?_
      refine g_region ?_
      show G _ _ _ (.inRegion _ [0] :: _) _ _
      refine g_op (v := Value.bool false) rfl rfl rfl ?_
      show G _ _ _ _ [_, _, _, _, _, _, _, _, _, _, _, _, _, _, _, _, _, _, _, _, _, _, _, _, _, _, _, _, _] _
      refine g_ops_nil ?_
      obtain rfl := Option.some.inj H
      refine g_ret Try.func45 (v := Value.bool false) (res1 rfl rfl) ?_
      have hs : St _ [] _ := St.take (Γ' := [_]) hs
      exact ⟨_, rfl, rfl, hs⟩
     ·
      intro hb
      rw [if_neg (b_dec_f hb)] at H
      show G _ _ _ _ [_, _, _, _, _, _, _, _, _, _, _, _, _, _, _, _, _, _, _, _, _, _, _, _, _, _, _, _, _] _
      refine g_op (v := Value.bool false) rfl rfl rfl ?_
      show G _ _ _ _ [_, _, _, _, _, _, _, _, _, _, _, _, _, _, _, _, _, _, _, _, _, _, _, _, _, _, _, _, _] _
      refine g_ops_nil ?_
      refine g_cond_false rfl ?_
      refine g_skip ?_
      refine g_seq ?_
      refine g_region ?_
      show G _ _ _ (.inRegion _ [0, 1, 2, 3, 4, 5] :: _) _ _
      refine g_op (v := Value.pointer (some ⟨b4, 2, none⟩)) rfl rfl rfl ?_
      refine s_load1 rfl rfl (v := v2) rfl rfl (fun _ => rfl) (cells_load (hs.cells 0 rfl) 2 1 rfl) ?_
      show G _ _ _ _ [_, _, _, _, _, _, _, _, _, _, _, _, _, _, _, _, _, _, _, _, _, _, _, _, _, _, _, _, _] _
      refine g_op (v := Value.func (Fn.func 69) #[] #[Value.pointer (some ⟨b4, 0, none⟩)]) rfl rfl (x_mkfunc rfl rfl) ?_
      show G _ _ _ _ [_, _, _, _, _, _, _, _, _, _, _, _, _, _, _, _, _, _, _, _, _, _, _, _, _, _, _, _, _] _
      obtain ⟨r8, Hr8, H⟩ := bind_get H
      refine s_call (args := [v2, Value.func (Fn.func 69) #[] #[Value.pointer (some ⟨b4, 0, none⟩)]]) rfl rfl (x_call rfl (callFunc_enter Try.func68 rfl rfl) rfl) (slices_ContainsFunc_uint16_uint16_at_impl_ValidFerry_1.calls (a1 := a1.f_Rules) (a3 := (⟨a1.f_Things, a1.f_Boat, a1.f_Rules⟩ : S_laws_Ferry)) (hs.rd hr3) (hs.rd hr3) (hs.cells 0 rfl) Hr8) ?_
      rintro _ w ⟨rfl, hs2⟩
      have hs : St _ [_] _ := hs.call hs2
      show G _ _ _ _ [_, _, _, _, _, _, _, _, _, _, _, _, _, _, _, _, _, _, _, _, _, _, _, _, _, _, _, _, _] _
      refine g_op (v := Value.bool (!r8)) rfl rfl rfl ?_
      show G _ _ _ _ [_, _, _, _, _, _, _, _, _, _, _, _, _, _, _, _, _, _, _, _, _, _, _, _, _, _, _, _, _] _
      refine g_op (v := Value.bool (!r8)) rfl rfl rfl ?_
      show G _ _ _ _ [_, _, _, _, _, _, _, _, _, _, _, _, _, _, _, _, _, _, _, _, _, _, _, _, _, _, _, _, _] _
      refine g_ops_nil ?_
      obtain rfl := Option.some.inj H
      refine g_ret Try.func45 (v := Value.bool (!r8)) (res1 rfl rfl) ?_
      have hs : St _ [] _ := St.take (Γ' := [_]) hs
      exact ⟨_, rfl, rfl, hs⟩
  | false =>
    rw [if_neg Bool.false_ne_true] at H
    show G _ _ _ _ [_, _, _, _, _, _, _, _, _, _, _, _, _, _, _, _, _, _, _, _, _, _, _, _, _, _, _, _, _] _
    refine g_op (v := Value.bool true) rfl rfl rfl ?_
    show G _ _ _ _ [_, _, _, _, _, _, _, _, _, _, _, _, _, _, _, _, _, _, _, _, _, _, _, _, _, _, _, _, _] _
    refine g_op (v := Value.bool true) rfl rfl rfl ?_
    refine g_op_not rfl rfl ?_
    refine g_op_not rfl rfl ?_
    show G _ _ _ _ [_, _, _, _, _, _, _, _, _, _, _, _, _, _, _, _, _, _, _, _, _, _, _, _, _, _, _, _, _] _
    refine g_op_not rfl rfl ?_
    refine g_op_not rfl rfl ?_
    refine g_op_not rfl rfl ?_
    show G _ _ _ _ [_, _, _, _, _, _, _, _, _, _, _, _, _, _, _, _, _, _, _, _, _, _, _, _, _, _, _, _, _] _
    refine g_op_not rfl rfl ?_
    refine g_op_not rfl rfl ?_
    show G _ _ _ _ [_, _, _, _, _, _, _, _, _, _, _, _, _, _, _, _, _, _, _, _, _, _, _, _, _, _, _, _, _] _
    refine g_op_not rfl rfl ?_
    show G _ _ _ _ [_, _, _, _, _, _, _, _, _, _, _, _, _, _, _, _, _, _, _, _, _, _, _, _, _, _, _, _, _] _
    refine g_op (v := Value.bool true) rfl rfl rfl ?_
    show G _ _ _ _ [_, _, _, _, _, _, _, _, _, _, _, _, _, _, _, _, _, _, _, _, _, _, _, _, _, _, _, _, _] _
    refine g_op (v := Value.bool true) rfl rfl rfl ?_
    refine g_op_not rfl rfl ?_
    refine g_op_not rfl rfl ?_
    show G _ _ _ _ [_, _, _, _, _, _, _, _, _, _, _, _, _, _, _, _, _, _, _, _, _, _, _, _, _, _, _, _, _] _
    refine g_op_not rfl rfl ?_
    show G _ _ _ _ [_, _, _, _, _, _, _, _, _, _, _, _, _, _, _, _, _, _, _, _, _, _, _, _, _, _, _, _, _] _
    refine g_op_not rfl rfl ?_
    show G _ _ _ _ [_, _, _, _, _, _, _, _, _, _, _, _, _, _, _, _, _, _, _, _, _, _, _, _, _, _, _, _, _] _
    refine g_op (v := Value.bool true) rfl rfl rfl ?_
    show G _ _ _ _ [_, _, _, _, _, _, _, _, _, _, _, _, _, _, _, _, _, _, _, _, _, _, _, _, _, _, _, _, _] _
    refine g_ops_nil ?_
    refine g_cond_true rfl ?_
    refine g_seq ?_
    refine g_region ?_
    show G _ _ _ (.inRegion _ [0] :: _) _ _
    refine g_op (v := Value.bool false) rfl rfl rfl ?_
    show G _ _ _ _ [_, _, _, _, _, _, _, _, _, _, _, _, _, _, _, _, _, _, _, _, _, _, _, _, _, _, _, _, _] _
    refine g_ops_nil ?_
    obtain rfl := Option.some.inj H
    refine g_ret Try.func45 (v := Value.bool false) (res1 rfl rfl) ?_
    have hs : St _ [] _ := St.take (Γ' := [_]) hs
    exact ⟨_, rfl, rfl, hs⟩

/- function 85 bits_Mul64 -/
def bits_Mul64.post (w0 : World) (r : (Int × Int)) (v : Value) (w : World) : Prop := v = Value.tuple #[Value.int .u64 r.1, Value.int .u64 r.2] ∧ St w0 [] w
set_option maxHeartbeats 8000000 in
set_option maxRecDepth 100000 in
theorem bits_Mul64.calls {N : Nat} {a1 : Int} {a2 : Int} {w0 : World} {r : (Int × Int)} (H : bits_Mul64.f N a1 a2 = some r) :
    Calls Try.prog 85 #[Value.int .u64 a1, Value.int .u64 a2] w0 fun e w => ∃ v, e = .returned v ∧ bits_Mul64.post w0 r v w := by
  unfold bits_Mul64.f at H
  have hs : St w0 [] w0 := St.refl w0
  refine calls_of_g (n := 49) Try.func85 rfl rfl ?_
  show G _ _ _ _ [_, _, _, _, _, _, _, _, _, _, _, _, _, _, _, _, _, _, _, _, _, _, _, _, _, _, _, _, _, _, _, _, _, _, _, _, _, _, _, _, _, _, _, _, _, _, _, _, _, _, _] _
  refine g_seq ?_
  refine g_region ?_
  show G _ _ _ (.inRegion _ [0, 1] :: _) _ _
  refine g_op (v := Value.int .u64 0) rfl rfl rfl ?_
  show G _ _ _ _ [_, _, _, _, _, _, _, _, _, _, _, _, _, _, _, _, _, _, _, _, _, _, _, _, _, _, _, _, _, _, _, _, _, _, _, _, _, _, _, _, _, _, _, _, _, _, _, _, _, _, _] _
  refine g_op (v := Value.int .u64 0) rfl rfl rfl ?_
  show G _ _ _ _ [_, _, _, _, _, _, _, _, _, _, _, _, _, _, _, _, _, _, _, _, _, _, _, _, _, _, _, _, _, _, _, _, _, _, _, _, _, _, _, _, _, _, _, _, _, _, _, _, _, _, _] _
  refine g_ops_nil ?_
  refine g_seq ?_
  refine g_region ?_
  show G _ _ _ (.inRegion _ [0, 1, 2] :: _) _ _
  refine g_op (v := Value.int .u64 a1) rfl rfl rfl ?_
  refine g_op (v := Value.int .u64 (bAnd .u64 a1 4294967295)) rfl rfl rfl ?_
  show G _ _ _ _ [_, _, _, _, _, _, _, _, _, _, _, _, _, _, _, _, _, _, _, _, _, _, _, _, _, _, _, _, _, _, _, _, _, _, _, _, _, _, _, _, _, _, _, _, _, _, _, _, _, _, _] _
  refine g_op (v := Value.int .u64 (bAnd .u64 a1 4294967295)) rfl rfl rfl ?_
  show G _ _ _ _ [_, _, _, _, _, _, _, _, _, _, _, _, _, _, _, _, _, _, _, _, _, _, _, _, _, _, _, _, _, _, _, _, _, _, _, _, _, _, _, _, _, _, _, _, _, _, _, _, _, _, _] _
  refine g_ops_nil ?_
  refine g_seq ?_
  refine g_region ?_
  show G _ _ _ (.inRegion _ [0, 1, 2] :: _) _ _
  refine g_op (v := Value.int .u64 a1) rfl rfl rfl ?_
  refine g_op (v := Value.int .u64 (shrI .u64 a1 32)) rfl rfl rfl ?_
  show G _ _ _ _ [_, _, _, _, _, _, _, _, _, _, _, _, _, _, _, _, _, _, _, _, _, _, _, _, _, _, _, _, _, _, _, _, _, _, _, _, _, _, _, _, _, _, _, _, _, _, _, _, _, _, _] _
  refine g_op (v := Value.int .u64 (shrI .u64 a1 32)) rfl rfl rfl ?_
  show G _ _ _ _ [_, _, _, _, _, _, _, _, _, _, _, _, _, _, _, _, _, _, _, _, _, _, _, _, _, _, _, _, _, _, _, _, _, _, _, _, _, _, _, _, _, _, _, _, _, _, _, _, _, _, _] _
  refine g_ops_nil ?_
  refine g_seq ?_
  refine g_region ?_
  show G _ _ _ (.inRegion _ [0, 1, 2] :: _) _ _
  refine g_op (v := Value.int .u64 a2) rfl rfl rfl ?_
  refine g_op (v := Value.int .u64 (bAnd .u64 a2 4294967295)) rfl rfl rfl ?_
  show G _ _ _ _ [_, _, _, _, _, _, _, _, _, _, _, _, _, _, _, _, _, _, _, _, _, _, _, _, _, _, _, _, _, _, _, _, _, _, _, _, _, _, _, _, _, _, _, _, _, _, _, _, _, _, _] _
  refine g_op (v := Value.int .u64 (bAnd .u64 a2 4294967295)) rfl rfl rfl ?_
  show G _ _ _ _ [_, _, _, _, _, _, _, _, _, _, _, _, _, _, _, _, _, _, _, _, _, _, _, _, _, _, _, _, _, _, _, _, _, _, _, _, _, _, _, _, _, _, _, _, _, _, _, _, _, _, _] _
  refine g_ops_nil ?_
  refine g_seq ?_
  refine g_region ?_
  show G _ _ _ (.inRegion _ [0, 1, 2] :: _) _ _
  refine g_op (v := Value.int .u64 a2) rfl rfl rfl ?_
  refine g_op (v := Value.int .u64 (shrI .u64 a2 32)) rfl rfl rfl ?_
  show G _ _ _ _ [_, _, _, _, _, _, _, _, _, _, _, _, _, _, _, _, _, _, _, _, _, _, _, _, _, _, _, _, _, _, _, _, _, _, _, _, _, _, _, _, _, _, _, _, _, _, _, _, _, _, _] _
  refine g_op (v := Value.int .u64 (shrI .u64 a2 32)) rfl rfl rfl ?_
  show G _ _ _ _ [_, _, _, _, _, _, _, _, _, _, _, _, _, _, _, _, _, _, _, _, _, _, _, _, _, _, _, _, _, _, _, _, _, _, _, _, _, _, _, _, _, _, _, _, _, _, _, _, _, _, _] _
  refine g_ops_nil ?_
  refine g_seq ?_
  refine g_region ?_
  show G _ _ _ (.inRegion _ [0, 1, 2, 3] :: _) _ _
  refine g_op (v := Value.int .u64 (bAnd .u64 a1 4294967295)) rfl rfl rfl ?_
  refine g_op (v := Value.int .u64 (bAnd .u64 a2 4294967295)) rfl rfl rfl ?_
  refine g_op (v := Value.int .u64 (u64w ((bAnd .u64 a1 4294967295) * (bAnd .u64 a2 4294967295)))) rfl rfl rfl ?_
  show G _ _ _ _ [_, _, _, _, _, _, _, _, _, _, _, _, _, _, _, _, _, _, _, _, _, _, _, _, _, _, _, _, _, _, _, _, _, _, _, _, _, _, _, _, _, _, _, _, _, _, _, _, _, _, _] _
  refine g_op (v := Value.int .u64 (u64w ((bAnd .u64 a1 4294967295) * (bAnd .u64 a2 4294967295)))) rfl rfl rfl ?_
  show G _ _ _ _ [_, _, _, _, _, _, _, _, _, _, _, _, _, _, _, _, _, _, _, _, _, _, _, _, _, _, _, _, _, _, _, _, _, _, _, _, _, _, _, _, _, _, _, _, _, _, _, _, _, _, _] _
  refine g_ops_nil ?_
  refine g_seq ?_
  refine g_region ?_
  show G _ _ _ (.inRegion _ [0, 1, 2, 3, 4, 5, 6] :: _) _ _
  refine g_op (v := Value.int .u64 (shrI .u64 a1 32)) rfl rfl rfl ?_
  refine g_op (v := Value.int .u64 (bAnd .u64 a2 4294967295)) rfl rfl rfl ?_
  refine g_op (v := Value.int .u64 (u64w ((shrI .u64 a1 32) * (bAnd .u64 a2 4294967295)))) rfl rfl rfl ?_
  show G _ _ _ _ [_, _, _, _, _, _, _, _, _, _, _, _, _, _, _, _, _, _, _, _, _, _, _, _, _, _, _, _, _, _, _, _, _, _, _, _, _, _, _, _, _, _, _, _, _, _, _, _, _, _, _] _
  refine g_op (v := Value.int .u64 (u64w ((bAnd .u64 a1 4294967295) * (bAnd .u64 a2 4294967295)))) rfl rfl rfl ?_
  refine g_op (v := Value.int .u64 (shrI .u64 (u64w ((bAnd .u64 a1 4294967295) * (bAnd .u64 a2 4294967295))) 32)) rfl rfl rfl ?_
  show G _ _ _ _ [_, _, _, _, _, _, _, _, _, _, _, _, _, _, _, _, _, _, _, _, _, _, _, _, _, _, _, _, _, _, _, _, _, _, _, _, _, _, _, _, _, _, _, _, _, _, _, _, _, _, _] _
  refine g_op (v := Value.int .u64 (u64w ((u64w ((shrI .u64 a1 32) * (bAnd .u64 a2 4294967295))) + (shrI .u64 (u64w ((bAnd .u64 a1 4294967295) * (bAnd .u64 a2 4294967295))) 32)))) rfl rfl rfl ?_
  show G _ _ _ _ [_, _, _, _, _, _, _, _, _, _, _, _, _, _, _, _, _, _, _, _, _, _, _, _, _, _, _, _, _, _, _, _, _, _, _, _, _, _, _, _, _, _, _, _, _, _, _, _, _, _, _] _
  refine g_op (v := Value.int .u64 (u64w ((u64w ((shrI .u64 a1 32) * (bAnd .u64 a2 4294967295))) + (shrI .u64 (u64w ((bAnd .u64 a1 4294967295) * (bAnd .u64 a2 4294967295))) 32)))) rfl rfl rfl ?_
  show G _ _ _ _ [_, _, _, _, _, _, _, _, _, _, _, _, _, _, _, _, _, _, _, _, _, _, _, _, _, _, _, _, _, _, _, _, _, _, _, _, _, _, _, _, _, _, _, _, _, _, _, _, _, _, _] _
  refine g_ops_nil ?_
  refine g_seq ?_
  refine g_region ?_
  show G _ _ _ (.inRegion _ [0, 1, 2] :: _) _ _
  refine g_op (v := Value.int .u64 (u64w ((u64w ((shrI .u64 a1 32) * (bAnd .u64 a2 4294967295))) + (shrI .u64 (u64w ((bAnd .u64 a1 4294967295) * (bAnd .u64 a2 4294967295))) 32)))) rfl rfl rfl ?_
  refine g_op (v := Value.int .u64 (bAnd .u64 (u64w ((u64w ((shrI .u64 a1 32) * (bAnd .u64 a2 4294967295))) + (shrI .u64 (u64w ((bAnd .u64 a1 4294967295) * (bAnd .u64 a2 4294967295))) 32))) 4294967295)) rfl rfl rfl ?_
  show G _ _ _ _ [_, _, _, _, _, _, _, _, _, _, _, _, _, _, _, _, _, _, _, _, _, _, _, _, _, _, _, _, _, _, _, _, _, _, _, _, _, _, _, _, _, _, _, _, _, _, _, _, _, _, _] _
  refine g_op (v := Value.int .u64 (bAnd .u64 (u64w ((u64w ((shrI .u64 a1 32) * (bAnd .u64 a2 4294967295))) + (shrI .u64 (u64w ((bAnd .u64 a1 4294967295) * (bAnd .u64 a2 4294967295))) 32))) 4294967295)) rfl rfl rfl ?_
  show G _ _ _ _ [_, _, _, _, _, _, _, _, _, _, _, _, _, _, _, _, _, _, _, _, _, _, _, _, _, _, _, _, _, _, _, _, _, _, _, _, _, _, _, _, _, _, _, _, _, _, _, _, _, _, _] _
  refine g_ops_nil ?_
  refine g_seq ?_
  refine g_region ?_
  show G _ _ _ (.inRegion _ [0, 1, 2] :: _) _ _
  refine g_op (v := Value.int .u64 (u64w ((u64w ((shrI .u64 a1 32) * (bAnd .u64 a2 4294967295))) + (shrI .u64 (u64w ((bAnd .u64 a1 4294967295) * (bAnd .u64 a2 4294967295))) 32)))) rfl rfl rfl ?_
  refine g_op (v := Value.int .u64 (shrI .u64 (u64w ((u64w ((shrI .u64 a1 32) * (bAnd .u64 a2 4294967295))) + (shrI .u64 (u64w ((bAnd .u64 a1 4294967295) * (bAnd .u64 a2 4294967295))) 32))) 32)) rfl rfl rfl ?_
  show G _ _ _ _ [_, _, _, _, _, _, _, _, _, _, _, _, _, _, _, _, _, _, _, _, _, _, _, _, _, _, _, _, _, _, _, _, _, _, _, _, _, _, _, _, _, _, _, _, _, _, _, _, _, _, _] _
  refine g_op (v := Value.int .u64 (shrI .u64 (u64w ((u64w ((shrI .u64 a1 32) * (bAnd .u64 a2 4294967295))) + (shrI .u64 (u64w ((bAnd .u64 a1 4294967295) * (bAnd .u64 a2 4294967295))) 32))) 32)) rfl rfl rfl ?_
  show G _ _ _ _ [_, _, _, _, _, _, _, _, _, _, _, _, _, _, _, _, _, _, _, _, _, _, _, _, _, _, _, _, _, _, _, _, _, _, _, _, _, _, _, _, _, _, _, _, _, _, _, _, _, _, _] _
  refine g_ops_nil ?_
  refine g_seq ?_
  refine g_region ?_
  show G _ _ _ (.inRegion _ [0, 1, 2, 3, 4, 5] :: _) _ _
  refine g_op (v := Value.int .u64 (bAnd .u64 (u64w ((u64w ((shrI .u64 a1 32) * (bAnd .u64 a2 4294967295))) + (shrI .u64 (u64w ((bAnd .u64 a1 4294967295) * (bAnd .u64 a2 4294967295))) 32))) 4294967295)) rfl rfl rfl ?_
  refine g_op (v := Value.int .u64 (bAnd .u64 a1 4294967295)) rfl rfl rfl ?_
  refine g_op (v := Value.int .u64 (shrI .u64 a2 32)) rfl rfl rfl ?_
  refine g_op (v := Value.int .u64 (u64w ((bAnd .u64 a1 4294967295) * (shrI .u64 a2 32)))) rfl rfl rfl ?_
  show G _ _ _ _ [_, _, _, _, _, _, _, _, _, _, _, _, _, _, _, _, _, _, _, _, _, _, _, _, _, _, _, _, _, _, _, _, _, _, _, _, _, _, _, _, _, _, _, _, _, _, _, _, _, _, _] _
  refine g_op (v := Value.int .u64 (u64w ((bAnd .u64 (u64w ((u64w ((shrI .u64 a1 32) * (bAnd .u64 a2 4294967295))) + (shrI .u64 (u64w ((bAnd .u64 a1 4294967295) * (bAnd .u64 a2 4294967295))) 32))) 4294967295) + (u64w ((bAnd .u64 a1 4294967295) * (shrI .u64 a2 32)))))) rfl rfl rfl ?_
  show G _ _ _ _ [_, _, _, _, _, _, _, _, _, _, _, _, _, _, _, _, _, _, _, _, _, _, _, _, _, _, _, _, _, _, _, _, _, _, _, _, _, _, _, _, _, _, _, _, _, _, _, _, _, _, _] _
  refine g_op (v := Value.int .u64 (u64w ((bAnd .u64 (u64w ((u64w ((shrI .u64 a1 32) * (bAnd .u64 a2 4294967295))) + (shrI .u64 (u64w ((bAnd .u64 a1 4294967295) * (bAnd .u64 a2 4294967295))) 32))) 4294967295) + (u64w ((bAnd .u64 a1 4294967295) * (shrI .u64 a2 32)))))) rfl rfl rfl ?_
  show G _ _ _ _ [_, _, _, _, _, _, _, _, _, _, _, _, _, _, _, _, _, _, _, _, _, _, _, _, _, _, _, _, _, _, _, _, _, _, _, _, _, _, _, _, _, _, _, _, _, _, _, _, _, _, _] _
  refine g_ops_nil ?_
  refine g_seq ?_
  refine g_region ?_
  show G _ _ _ (.inRegion _ [0, 1, 2, 3, 4, 5, 6, 7, 8] :: _) _ _
  refine g_op (v := Value.int .u64 (shrI .u64 a1 32)) rfl rfl rfl ?_
  refine g_op (v := Value.int .u64 (shrI .u64 a2 32)) rfl rfl rfl ?_
  refine g_op (v := Value.int .u64 (u64w ((shrI .u64 a1 32) * (shrI .u64 a2 32)))) rfl rfl rfl ?_
  show G _ _ _ _ [_, _, _, _, _, _, _, _, _, _, _, _, _, _, _, _, _, _, _, _, _, _, _, _, _, _, _, _, _, _, _, _, _, _, _, _, _, _, _, _, _, _, _, _, _, _, _, _, _, _, _] _
  refine g_op (v := Value.int .u64 (shrI .u64 (u64w ((u64w ((shrI .u64 a1 32) * (bAnd .u64 a2 4294967295))) + (shrI .u64 (u64w ((bAnd .u64 a1 4294967295) * (bAnd .u64 a2 4294967295))) 32))) 32)) rfl rfl rfl ?_
  refine g_op (v := Value.int .u64 (u64w ((u64w ((shrI .u64 a1 32) * (shrI .u64 a2 32))) + (shrI .u64 (u64w ((u64w ((shrI .u64 a1 32) * (bAnd .u64 a2 4294967295))) + (shrI .u64 (u64w ((bAnd .u64 a1 4294967295) * (bAnd .u64 a2 4294967295))) 32))) 32)))) rfl rfl rfl ?_
  show G _ _ _ _ [_, _, _, _, _, _, _, _, _, _, _, _, _, _, _, _, _, _, _, _, _, _, _, _, _, _, _, _, _, _, _, _, _, _, _, _, _, _, _, _, _, _, _, _, _, _, _, _, _, _, _] _
  refine g_op (v := Value.int .u64 (u64w ((bAnd .u64 (u64w ((u64w ((shrI .u64 a1 32) * (bAnd .u64 a2 4294967295))) + (shrI .u64 (u64w ((bAnd .u64 a1 4294967295) * (bAnd .u64 a2 4294967295))) 32))) 4294967295) + (u64w ((bAnd .u64 a1 4294967295) * (shrI .u64 a2 32)))))) rfl rfl rfl ?_
  refine g_op (v := Value.int .u64 (shrI .u64 (u64w ((bAnd .u64 (u64w ((u64w ((shrI .u64 a1 32) * (bAnd .u64 a2 4294967295))) + (shrI .u64 (u64w ((bAnd .u64 a1 4294967295) * (bAnd .u64 a2 4294967295))) 32))) 4294967295) + (u64w ((bAnd .u64 a1 4294967295) * (shrI .u64 a2 32))))) 32)) rfl rfl rfl ?_
  show G _ _ _ _ [_, _, _, _, _, _, _, _, _, _, _, _, _, _, _, _, _, _, _, _, _, _, _, _, _, _, _, _, _, _, _, _, _, _, _, _, _, _, _, _, _, _, _, _, _, _, _, _, _, _, _] _
  refine g_op (v := Value.int .u64 (u64w ((u64w ((u64w ((shrI .u64 a1 32) * (shrI .u64 a2 32))) + (shrI .u64 (u64w ((u64w ((shrI .u64 a1 32) * (bAnd .u64 a2 4294967295))) + (shrI .u64 (u64w ((bAnd .u64 a1 4294967295) * (bAnd .u64 a2 4294967295))) 32))) 32))) + (shrI .u64 (u64w ((bAnd .u64 (u64w ((u64w ((shrI .u64 a1 32) * (bAnd .u64 a2 4294967295))) + (shrI .u64 (u64w ((bAnd .u64 a1 4294967295) * (bAnd .u64 a2 4294967295))) 32))) 4294967295) + (u64w ((bAnd .u64 a1 4294967295) * (shrI .u64 a2 32))))) 32)))) rfl rfl rfl ?_
  show G _ _ _ _ [_, _, _, _, _, _, _, _, _, _, _, _, _, _, _, _, _, _, _, _, _, _, _, _, _, _, _, _, _, _, _, _, _, _, _, _, _, _, _, _, _, _, _, _, _, _, _, _, _, _, _] _
  refine g_op (v := Value.int .u64 (u64w ((u64w ((u64w ((shrI .u64 a1 32) * (shrI .u64 a2 32))) + (shrI .u64 (u64w ((u64w ((shrI .u64 a1 32) * (bAnd .u64 a2 4294967295))) + (shrI .u64 (u64w ((bAnd .u64 a1 4294967295) * (bAnd .u64 a2 4294967295))) 32))) 32))) + (shrI .u64 (u64w ((bAnd .u64 (u64w ((u64w ((shrI .u64 a1 32) * (bAnd .u64 a2 4294967295))) + (shrI .u64 (u64w ((bAnd .u64 a1 4294967295) * (bAnd .u64 a2 4294967295))) 32))) 4294967295) + (u64w ((bAnd .u64 a1 4294967295) * (shrI .u64 a2 32))))) 32)))) rfl rfl rfl ?_
  show G _ _ _ _ [_, _, _, _, _, _, _, _, _, _, _, _, _, _, _, _, _, _, _, _, _, _, _, _, _, _, _, _, _, _, _, _, _, _, _, _, _, _, _, _, _, _, _, _, _, _, _, _, _, _, _] _
  refine g_ops_nil ?_
  refine g_seq ?_
  refine g_region ?_
  show G _ _ _ (.inRegion _ [0, 1, 2, 3] :: _) _ _
  refine g_op (v := Value.int .u64 a1) rfl rfl rfl ?_
  refine g_op (v := Value.int .u64 a2) rfl rfl rfl ?_
  refine g_op (v := Value.int .u64 (u64w (a1 * a2))) rfl rfl rfl ?_
  show G _ _ _ _ [_, _, _, _, _, _, _, _, _, _, _, _, _, _, _, _, _, _, _, _, _, _, _, _, _, _, _, _, _, _, _, _, _, _, _, _, _, _, _, _, _, _, _, _, _, _, _, _, _, _, _] _
  refine g_op (v := Value.int .u64 (u64w (a1 * a2))) rfl rfl rfl ?_
  show G _ _ _ _ [_, _, _, _, _, _, _, _, _, _, _, _, _, _, _, _, _, _, _, _, _, _, _, _, _, _, _, _, _, _, _, _, _, _, _, _, _, _, _, _, _, _, _, _, _, _, _, _, _, _, _] _
  refine g_ops_nil ?_
  obtain rfl := Option.some.inj H
  refine g_ret Try.func85 (v := Value.tuple #[Value.int .u64 (u64w ((u64w ((u64w ((shrI .u64 a1 32) * (shrI .u64 a2 32))) + (shrI .u64 (u64w ((u64w ((shrI .u64 a1 32) * (bAnd .u64 a2 4294967295))) + (shrI .u64 (u64w ((bAnd .u64 a1 4294967295) * (bAnd .u64 a2 4294967295))) 32))) 32))) + (shrI .u64 (u64w ((bAnd .u64 (u64w ((u64w ((shrI .u64 a1 32) * (bAnd .u64 a2 4294967295))) + (shrI .u64 (u64w ((bAnd .u64 a1 4294967295) * (bAnd .u64 a2 4294967295))) 32))) 4294967295) + (u64w ((bAnd .u64 a1 4294967295) * (shrI .u64 a2 32))))) 32))), Value.int .u64 (u64w (a1 * a2))]) (resN (l := Try.f85.results.toList) (vs := [Value.int .u64 (u64w ((u64w ((u64w ((shrI .u64 a1 32) * (shrI .u64 a2 32))) + (shrI .u64 (u64w ((u64w ((shrI .u64 a1 32) * (bAnd .u64 a2 4294967295))) + (shrI .u64 (u64w ((bAnd .u64 a1 4294967295) * (bAnd .u64 a2 4294967295))) 32))) 32))) + (shrI .u64 (u64w ((bAnd .u64 (u64w ((u64w ((shrI .u64 a1 32) * (bAnd .u64 a2 4294967295))) + (shrI .u64 (u64w ((bAnd .u64 a1 4294967295) * (bAnd .u64 a2 4294967295))) 32))) 4294967295) + (u64w ((bAnd .u64 a1 4294967295) * (shrI .u64 a2 32))))) 32))), Value.int .u64 (u64w (a1 * a2))]) rfl ⟨rfl, rfl, trivial⟩ (by simp)) ?_
  have hs : St _ [] _ := St.take (Γ' := []) hs
  exact ⟨_, rfl, rfl, hs⟩

/- function 82 bits_Mul -/
def bits_Mul.post (w0 : World) (r : (Int × Int)) (v : Value) (w : World) : Prop := v = Value.tuple #[Value.int .u64 r.1, Value.int .u64 r.2] ∧ St w0 [] w
set_option maxHeartbeats 8000000 in
set_option maxRecDepth 100000 in
theorem bits_Mul.calls {N : Nat} {a1 : Int} {a2 : Int} {w0 : World} {r : (Int × Int)} (H : bits_Mul.f N a1 a2 = some r) :
    Calls Try.prog 82 #[Value.int .u64 a1, Value.int .u64 a2] w0 fun e w => ∃ v, e = .returned v ∧ bits_Mul.post w0 r v w := by
  unfold bits_Mul.f at H
  have hs : St w0 [] w0 := St.refl w0
  refine calls_of_g (n := 28) Try.func82 rfl rfl ?_
  show G _ _ _ _ [_, _, _, _, _, _, _, _, _, _, _, _, _, _, _, _, _, _, _, _, _, _, _, _, _, _, _, _, _, _] _
  refine g_seq ?_
  refine g_region ?_
  show G _ _ _ (.inRegion _ [0, 1] :: _) _ _
  refine g_op (v := Value.int .u64 0) rfl rfl rfl ?_
  show G _ _ _ _ [_, _, _, _, _, _, _, _, _, _, _, _, _, _, _, _, _, _, _, _, _, _, _, _, _, _, _, _, _, _] _
  refine g_op (v := Value.int .u64 0) rfl rfl rfl ?_
  show G _ _ _ _ [_, _, _, _, _, _, _, _, _, _, _, _, _, _, _, _, _, _, _, _, _, _, _, _, _, _, _, _, _, _] _
  refine g_ops_nil ?_
  refine g_seq ?_
  refine g_cond_false rfl ?_
  refine g_skip ?_
  refine g_seq ?_
  refine g_region ?_
  show G _ _ _ (.inRegion _ [0, 1, 2, 3, 4, 5, 6, 7] :: _) _ _
  refine g_op (v := Value.int .u64 a1) rfl rfl rfl ?_
  refine g_op (v := Value.int .u64 a2) rfl rfl rfl ?_
  obtain ⟨r3, Hr3, H⟩ := bind_get H
  refine s_call (args := [Value.int .u64 a1, Value.int .u64 a2]) rfl rfl (x_call rfl (callFunc_enter Try.func85 rfl rfl) rfl) (bits_Mul64.calls (a1 := a1) (a2 := a2) Hr3) ?_
  rintro _ w ⟨rfl, hs2⟩
  have hs : St _ [] _ := hs.call hs2
  show G _ _ _ _ [_, _, _, _, _, _, _, _, _, _, _, _, _, _, _, _, _, _, _, _, _, _, _, _, _, _, _, _, _, _] _
  refine g_op (v := Value.tuple #[Value.int .u64 r3.1, Value.int .u64 r3.2]) rfl rfl rfl ?_
  refine g_op (v := Value.int .u64 r3.1) rfl rfl rfl ?_
  refine g_op (v := Value.int .u64 r3.2) rfl rfl rfl ?_
  refine g_op (v := Value.int .u64 r3.1) rfl rfl rfl ?_
  show G _ _ _ _ [_, _, _, _, _, _, _, _, _, _, _, _, _, _, _, _, _, _, _, _, _, _, _, _, _, _, _, _, _, _] _
  refine g_op (v := Value.int .u64 r3.2) rfl rfl rfl ?_
  show G _ _ _ _ [_, _, _, _, _, _, _, _, _, _, _, _, _, _, _, _, _, _, _, _, _, _, _, _, _, _, _, _, _, _] _
  refine g_ops_nil ?_
  refine g_seq ?_
  refine g_region ?_
  show G _ _ _ (.inRegion _ [0, 1, 2, 3] :: _) _ _
  refine g_op (v := Value.int .u64 r3.1) rfl rfl rfl ?_
  refine g_op (v := Value.int .u64 r3.2) rfl rfl rfl ?_
  refine g_op (v := Value.int .u64 r3.1) rfl rfl rfl ?_
  show G _ _ _ _ [_, _, _, _, _, _, _, _, _, _, _, _, _, _, _, _, _, _, _, _, _, _, _, _, _, _, _, _, _, _] _
  refine g_op (v := Value.int .u64 r3.2) rfl rfl rfl ?_
  show G _ _ _ _ [_, _, _, _, _, _, _, _, _, _, _, _, _, _, _, _, _, _, _, _, _, _, _, _, _, _, _, _, _, _] _
  refine g_ops_nil ?_
  obtain rfl := Option.some.inj H
  refine g_ret Try.func82 (v := Value.tuple #[Value.int .u64 r3.1, Value.int .u64 r3.2]) (resN (l := Try.f82.results.toList) (vs := [Value.int .u64 r3.1, Value.int .u64 r3.2]) rfl ⟨rfl, rfl, trivial⟩ (by simp)) ?_
  have hs : St _ [] _ := St.take (Γ' := []) hs
  exact ⟨_, rfl, rfl, hs⟩

end Go.Proofs.YtgoblgmidejdgaaX
