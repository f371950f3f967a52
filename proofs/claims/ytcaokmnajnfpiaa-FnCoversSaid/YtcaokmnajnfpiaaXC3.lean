/- Contracts, printed by gen.py. -/
import Derived.Test.YtcaokmnajnfpiaaXT
import Derived.Test.YtcaokmnajnfpiaaProg
import Derived.Test.YtcaokmnajnfpiaaXRowR
import Derived.Test.YtcaokmnajnfpiaaXSq
import Derived.Test.YtcaokmnajnfpiaaXSeg
import Derived.Test.YtcaokmnajnfpiaaXKey
import Derived.Test.YtcaokmnajnfpiaaXC2
namespace Go.Proofs.YtcaokmnajnfpiaaX
open Go Go.RowKit Go.Proofs
set_option linter.unusedVariables false
set_option linter.unusedSimpArgs false
/- function 23 impl_ValidFerry -/
def impl_ValidFerry.post (w0 : World) (r : Bool) (v : Value) (w : World) : Prop := v = Value.bool r ∧ St w0 [] w
set_option maxHeartbeats 8000000 in
set_option maxRecDepth 100000 in
theorem impl_ValidFerry.calls {N : Nat} {a1 : S_impl_Ferry} {v2 : Value} {w0 : World} {r : Bool} (hr3 : RdRow (K.int .u16) w0 v2 a1.f_Rules) (H : impl_ValidFerry.f N a1 = some r) :
    Calls Try.prog 23 #[Value.agg (([Value.int .i8 a1.f_Things, Value.int .i8 a1.f_Boat, v2] : List Value)).toArray] w0 fun e w => ∃ v, e = .returned v ∧ impl_ValidFerry.post w0 r v w := by
  unfold impl_ValidFerry.f at H
  have hs : St w0 [] w0 := St.refl w0
  refine calls_of_g (n := 28) Try.func23 rfl rfl ?_
  show G _ _ _ _ [_,_,_,_,_,_,_,_,_,_,_,_,_,_,_,_,_,_,_,_,_,_,_,_,_,_,_,_,_] _
  refine g_seq (g_region ?_)
  show G _ _ _ (.inRegion _ [0, 1] :: _) _ _
  refine s_box hs rfl rfl (cs := (([Value.int .i8 a1.f_Things, Value.int .i8 a1.f_Boat, v2] : List Value))) rfl rfl ?_
  intro b4 w hs
  show G _ _ _ _ [_,_,_,_,_,_,_,_,_,_,_,_,_,_,_,_,_,_,_,_,_,_,_,_,_,_,_,_,_] _
  refine g_op (v := Value.bool false) rfl rfl rfl ?_
  show G _ _ _ _ [_,_,_,_,_,_,_,_,_,_,_,_,_,_,_,_,_,_,_,_,_,_,_,_,_,_,_,_,_] _
  refine g_ops_nil (g_seq (g_seq (g_region ?_)))
  show G _ _ _ (.inRegion _ [0, 1, 2, 3, 4, 5, 6, 7, 8, 9, 10, 11, 12, 13, 14, 15, 16, 17, 18, 19, 20] :: _) _ _
  refine g_op (v := Value.pointer (some ⟨b4, 0, none⟩)) rfl rfl rfl ?_
  refine s_load1 rfl rfl (v := Value.int .i8 a1.f_Things) rfl rfl (fun _ => rfl) (cells_load (hs.cells 0 rfl) 0 1 rfl) ?_
  show G _ _ _ _ [_,_,_,_,_,_,_,_,_,_,_,_,_,_,_,_,_,_,_,_,_,_,_,_,_,_,_,_,_] _
  refine g_op (v := Value.int .i64 (i64w a1.f_Things)) rfl rfl rfl ?_
  obtain ⟨r6, Hr6, H⟩ := bind_get H
  refine s_call (args := [Value.int .i64 (i64w a1.f_Things), Value.int .i64 1, Value.int .i64 8]) rfl rfl (x_call rfl (callFunc_enter Try.func39 rfl rfl) rfl) (impl_within.calls (a1 := i64w a1.f_Things) (a2 := 1) (a3 := 8) Hr6) ?_
  rintro _ w ⟨rfl, hs2⟩
  have hs : St _ [_] _ := hs.call hs2
  cases r6 with
  | true =>
    rw [if_pos rfl] at H
    show G _ _ _ _ [_,_,_,_,_,_,_,_,_,_,_,_,_,_,_,_,_,_,_,_,_,_,_,_,_,_,_,_,_] _
    refine g_op (v := Value.bool false) rfl rfl rfl ?_
    show G _ _ _ _ [_,_,_,_,_,_,_,_,_,_,_,_,_,_,_,_,_,_,_,_,_,_,_,_,_,_,_,_,_] _
    refine g_op (v := Value.bool false) rfl rfl rfl ?_
    refine g_op (v := Value.pointer (some ⟨b4, 1, none⟩)) rfl rfl rfl ?_
    refine s_load1 rfl rfl (v := Value.int .i8 a1.f_Boat) rfl rfl (fun _ => rfl) (cells_load (hs.cells 0 rfl) 1 1 rfl) ?_
    show G _ _ _ _ [_,_,_,_,_,_,_,_,_,_,_,_,_,_,_,_,_,_,_,_,_,_,_,_,_,_,_,_,_] _
    refine g_op (v := Value.int .i64 (i64w a1.f_Boat)) rfl rfl rfl ?_
    refine g_op (v := Value.pointer (some ⟨b4, 0, none⟩)) rfl rfl rfl ?_
    refine s_load1 rfl rfl (v := Value.int .i8 a1.f_Things) rfl rfl (fun _ => rfl) (cells_load (hs.cells 0 rfl) 0 1 rfl) ?_
    show G _ _ _ _ [_,_,_,_,_,_,_,_,_,_,_,_,_,_,_,_,_,_,_,_,_,_,_,_,_,_,_,_,_] _
    refine g_op (v := Value.int .i64 (i64w a1.f_Things)) rfl rfl rfl ?_
    obtain ⟨r7, Hr7, H⟩ := bind_get H
    refine s_call (args := [Value.int .i64 (i64w a1.f_Boat), Value.int .i64 0, Value.int .i64 (i64w a1.f_Things)]) rfl rfl (x_call rfl (callFunc_enter Try.func39 rfl rfl) rfl) (impl_within.calls (a1 := i64w a1.f_Boat) (a2 := 0) (a3 := i64w a1.f_Things) Hr7) ?_
    rintro _ w ⟨rfl, hs2⟩
    have hs : St _ [_] _ := hs.call hs2
    show G _ _ _ _ [_,_,_,_,_,_,_,_,_,_,_,_,_,_,_,_,_,_,_,_,_,_,_,_,_,_,_,_,_] _
    refine g_op (v := Value.bool (!r7)) rfl rfl rfl ?_
    show G _ _ _ _ [_,_,_,_,_,_,_,_,_,_,_,_,_,_,_,_,_,_,_,_,_,_,_,_,_,_,_,_,_] _
    refine g_op_b (B := !r7) rfl rfl rfl ?_ ?_
    ·
     intro hb
     rw [if_neg (b_not_t hb)] at H
     show G _ _ _ _ [_,_,_,_,_,_,_,_,_,_,_,_,_,_,_,_,_,_,_,_,_,_,_,_,_,_,_,_,_] _
     refine g_op (v := Value.bool true) rfl rfl rfl (g_op_not rfl rfl (g_op_not rfl rfl ?_))
     show G _ _ _ _ [_,_,_,_,_,_,_,_,_,_,_,_,_,_,_,_,_,_,_,_,_,_,_,_,_,_,_,_,_] _
     refine g_op_not rfl rfl ?_
     show G _ _ _ _ [_,_,_,_,_,_,_,_,_,_,_,_,_,_,_,_,_,_,_,_,_,_,_,_,_,_,_,_,_] _
     refine g_op_not rfl rfl ?_
     show G _ _ _ _ [_,_,_,_,_,_,_,_,_,_,_,_,_,_,_,_,_,_,_,_,_,_,_,_,_,_,_,_,_] _
     refine g_op (v := Value.bool true) rfl rfl rfl ?_
     show G _ _ _ _ [_,_,_,_,_,_,_,_,_,_,_,_,_,_,_,_,_,_,_,_,_,_,_,_,_,_,_,_,_] _
     refine g_ops_nil (g_cond_true rfl (g_seq (g_region ?_)))
     show G _ _ _ (.inRegion _ [0] :: _) _ _
     refine g_op (v := Value.bool false) rfl rfl rfl ?_
     show G _ _ _ _ [_,_,_,_,_,_,_,_,_,_,_,_,_,_,_,_,_,_,_,_,_,_,_,_,_,_,_,_,_] _
     refine g_ops_nil ?_
     obtain rfl := Option.some.inj H
     refine g_ret Try.func23 (v := Value.bool false) (res1 rfl rfl) ?_
     have hs : St _ [] _ := St.take (Γ' := [_]) hs
     exact ⟨_, rfl, rfl, hs⟩
    intro hb
    rw [if_pos (b_not_f hb)] at H
    show G _ _ _ _ [_,_,_,_,_,_,_,_,_,_,_,_,_,_,_,_,_,_,_,_,_,_,_,_,_,_,_,_,_] _
    refine g_op (v := Value.bool false) rfl rfl rfl ?_
    refine g_op (v := Value.pointer (some ⟨b4, 2, none⟩)) rfl rfl rfl ?_
    refine s_load1 rfl rfl (v := v2) rfl rfl (fun _ => rfl) (cells_load (hs.cells 0 rfl) 2 1 rfl) ?_
    show G _ _ _ _ [_,_,_,_,_,_,_,_,_,_,_,_,_,_,_,_,_,_,_,_,_,_,_,_,_,_,_,_,_] _
    refine s_len (hs.rd hr3) rfl rfl rfl rfl rfl ?_
    show G _ _ _ _ [_,_,_,_,_,_,_,_,_,_,_,_,_,_,_,_,_,_,_,_,_,_,_,_,_,_,_,_,_] _
    refine g_op_b (B := decide ((a1.f_Rules.length : Int) > 20)) rfl rfl rfl ?_ ?_
    ·
     intro hb
     rw [if_pos (b_dec_t hb)] at H
     show G _ _ _ _ [_,_,_,_,_,_,_,_,_,_,_,_,_,_,_,_,_,_,_,_,_,_,_,_,_,_,_,_,_] _
     refine g_op (v := Value.bool true) rfl rfl rfl ?_
     show G _ _ _ _ [_,_,_,_,_,_,_,_,_,_,_,_,_,_,_,_,_,_,_,_,_,_,_,_,_,_,_,_,_] _
     refine g_ops_nil (g_cond_true rfl (g_seq (g_region ?_)))
     show G _ _ _ (.inRegion _ [0] :: _) _ _
     refine g_op (v := Value.bool false) rfl rfl rfl ?_
     show G _ _ _ _ [_,_,_,_,_,_,_,_,_,_,_,_,_,_,_,_,_,_,_,_,_,_,_,_,_,_,_,_,_] _
     refine g_ops_nil ?_
     obtain rfl := Option.some.inj H
     refine g_ret Try.func23 (v := Value.bool false) (res1 rfl rfl) ?_
     have hs : St _ [] _ := St.take (Γ' := [_]) hs
     exact ⟨_, rfl, rfl, hs⟩
    intro hb
    rw [if_neg (b_dec_f hb)] at H
    show G _ _ _ _ [_,_,_,_,_,_,_,_,_,_,_,_,_,_,_,_,_,_,_,_,_,_,_,_,_,_,_,_,_] _
    refine g_op (v := Value.bool false) rfl rfl rfl ?_
    show G _ _ _ _ [_,_,_,_,_,_,_,_,_,_,_,_,_,_,_,_,_,_,_,_,_,_,_,_,_,_,_,_,_] _
    refine g_ops_nil (g_cond_false rfl (g_skip (g_seq (g_region ?_))))
    show G _ _ _ (.inRegion _ [0, 1, 2, 3, 4, 5] :: _) _ _
    refine g_op (v := Value.pointer (some ⟨b4, 2, none⟩)) rfl rfl rfl ?_
    refine s_load1 rfl rfl (v := v2) rfl rfl (fun _ => rfl) (cells_load (hs.cells 0 rfl) 2 1 rfl) ?_
    show G _ _ _ _ [_,_,_,_,_,_,_,_,_,_,_,_,_,_,_,_,_,_,_,_,_,_,_,_,_,_,_,_,_] _
    refine g_op (v := Value.func (Fn.func 48) #[] #[Value.pointer (some ⟨b4, 0, none⟩)]) rfl rfl (x_mkfunc rfl rfl) ?_
    show G _ _ _ _ [_,_,_,_,_,_,_,_,_,_,_,_,_,_,_,_,_,_,_,_,_,_,_,_,_,_,_,_,_] _
    obtain ⟨r8, Hr8, H⟩ := bind_get H
    refine s_call (args := [v2, Value.func (Fn.func 48) #[] #[Value.pointer (some ⟨b4, 0, none⟩)]]) rfl rfl (x_call rfl (callFunc_enter Try.func47 rfl rfl) rfl) (slices_ContainsFunc_uint16_uint16_at_impl_ValidFerry_1.calls (a1 := a1.f_Rules) (a3 := (⟨a1.f_Things, a1.f_Boat, a1.f_Rules⟩ : S_impl_Ferry)) (hs.rd hr3) (hs.rd hr3) (hs.cells 0 rfl) Hr8) ?_
    rintro _ w ⟨rfl, hs2⟩
    have hs : St _ [_] _ := hs.call hs2
    show G _ _ _ _ [_,_,_,_,_,_,_,_,_,_,_,_,_,_,_,_,_,_,_,_,_,_,_,_,_,_,_,_,_] _
    refine g_op (v := Value.bool (!r8)) rfl rfl rfl ?_
    show G _ _ _ _ [_,_,_,_,_,_,_,_,_,_,_,_,_,_,_,_,_,_,_,_,_,_,_,_,_,_,_,_,_] _
    refine g_op (v := Value.bool (!r8)) rfl rfl rfl ?_
    show G _ _ _ _ [_,_,_,_,_,_,_,_,_,_,_,_,_,_,_,_,_,_,_,_,_,_,_,_,_,_,_,_,_] _
    refine g_ops_nil ?_
    obtain rfl := Option.some.inj H
    refine g_ret Try.func23 (v := Value.bool (!r8)) (res1 rfl rfl) ?_
    have hs : St _ [] _ := St.take (Γ' := [_]) hs
    exact ⟨_, rfl, rfl, hs⟩
  | false =>
    rw [if_neg Bool.false_ne_true] at H
    show G _ _ _ _ [_,_,_,_,_,_,_,_,_,_,_,_,_,_,_,_,_,_,_,_,_,_,_,_,_,_,_,_,_] _
    refine g_op (v := Value.bool true) rfl rfl rfl ?_
    show G _ _ _ _ [_,_,_,_,_,_,_,_,_,_,_,_,_,_,_,_,_,_,_,_,_,_,_,_,_,_,_,_,_] _
    refine g_op (v := Value.bool true) rfl rfl rfl (g_op_not rfl rfl (g_op_not rfl rfl ?_))
    show G _ _ _ _ [_,_,_,_,_,_,_,_,_,_,_,_,_,_,_,_,_,_,_,_,_,_,_,_,_,_,_,_,_] _
    refine g_op_not rfl rfl (g_op_not rfl rfl (g_op_not rfl rfl ?_))
    show G _ _ _ _ [_,_,_,_,_,_,_,_,_,_,_,_,_,_,_,_,_,_,_,_,_,_,_,_,_,_,_,_,_] _
    refine g_op_not rfl rfl (g_op_not rfl rfl ?_)
    show G _ _ _ _ [_,_,_,_,_,_,_,_,_,_,_,_,_,_,_,_,_,_,_,_,_,_,_,_,_,_,_,_,_] _
    refine g_op_not rfl rfl ?_
    show G _ _ _ _ [_,_,_,_,_,_,_,_,_,_,_,_,_,_,_,_,_,_,_,_,_,_,_,_,_,_,_,_,_] _
    refine g_op (v := Value.bool true) rfl rfl rfl ?_
    show G _ _ _ _ [_,_,_,_,_,_,_,_,_,_,_,_,_,_,_,_,_,_,_,_,_,_,_,_,_,_,_,_,_] _
    refine g_op (v := Value.bool true) rfl rfl rfl (g_op_not rfl rfl (g_op_not rfl rfl ?_))
    show G _ _ _ _ [_,_,_,_,_,_,_,_,_,_,_,_,_,_,_,_,_,_,_,_,_,_,_,_,_,_,_,_,_] _
    refine g_op_not rfl rfl ?_
    show G _ _ _ _ [_,_,_,_,_,_,_,_,_,_,_,_,_,_,_,_,_,_,_,_,_,_,_,_,_,_,_,_,_] _
    refine g_op_not rfl rfl ?_
    show G _ _ _ _ [_,_,_,_,_,_,_,_,_,_,_,_,_,_,_,_,_,_,_,_,_,_,_,_,_,_,_,_,_] _
    refine g_op (v := Value.bool true) rfl rfl rfl ?_
    show G _ _ _ _ [_,_,_,_,_,_,_,_,_,_,_,_,_,_,_,_,_,_,_,_,_,_,_,_,_,_,_,_,_] _
    refine g_ops_nil (g_cond_true rfl (g_seq (g_region ?_)))
    show G _ _ _ (.inRegion _ [0] :: _) _ _
    refine g_op (v := Value.bool false) rfl rfl rfl ?_
    show G _ _ _ _ [_,_,_,_,_,_,_,_,_,_,_,_,_,_,_,_,_,_,_,_,_,_,_,_,_,_,_,_,_] _
    refine g_ops_nil ?_
    obtain rfl := Option.some.inj H
    refine g_ret Try.func23 (v := Value.bool false) (res1 rfl rfl) ?_
    have hs : St _ [] _ := St.take (Γ' := [_]) hs
    exact ⟨_, rfl, rfl, hs⟩

/- function 66 _impl_Ferry_sides -/
def _impl_Ferry_sides.post (w0 : World) (r : (Int × Int)) (v : Value) (w : World) : Prop := v = Value.tuple #[Value.int .u16 r.1, Value.int .u16 r.2] ∧ St w0 [] w
set_option maxHeartbeats 8000000 in
set_option maxRecDepth 100000 in
theorem _impl_Ferry_sides.calls {N : Nat} {a1 : S_impl_Ferry} {a4 : S_impl_Bank} {v2 : Value} {w0 : World} {r : (Int × Int)} (hr3 : RdRow (K.int .u16) w0 v2 a1.f_Rules) (H : _impl_Ferry_sides.f N a1 a4 = some r) :
    Calls Try.prog 66 #[Value.agg (([Value.int .i8 a1.f_Things, Value.int .i8 a1.f_Boat, v2] : List Value)).toArray, Value.agg (enc_S_impl_Bank a4).toArray] w0 fun e w => ∃ v, e = .returned v ∧ _impl_Ferry_sides.post w0 r v w := by
  unfold _impl_Ferry_sides.f at H
  have hs : St w0 [] w0 := St.refl w0
  refine calls_of_g (n := 20) Try.func66 rfl rfl ?_
  show G _ _ _ _ [_,_,_,_,_,_,_,_,_,_,_,_,_,_,_,_,_,_,_,_,_,_] _
  refine g_seq (g_region ?_)
  show G _ _ _ (.inRegion _ [0, 1, 2, 3] :: _) _ _
  refine s_box hs rfl rfl (cs := (([Value.int .i8 a1.f_Things, Value.int .i8 a1.f_Boat, v2] : List Value))) rfl rfl ?_
  intro b5 w hs
  show G _ _ _ _ [_,_,_,_,_,_,_,_,_,_,_,_,_,_,_,_,_,_,_,_,_,_] _
  refine s_box hs rfl rfl (cs := (enc_S_impl_Bank a4)) rfl rfl ?_
  intro b7 w hs
  show G _ _ _ _ [_,_,_,_,_,_,_,_,_,_,_,_,_,_,_,_,_,_,_,_,_,_] _
  refine g_op (v := Value.int .u16 0) rfl rfl rfl ?_
  show G _ _ _ _ [_,_,_,_,_,_,_,_,_,_,_,_,_,_,_,_,_,_,_,_,_,_] _
  refine g_op (v := Value.int .u16 0) rfl rfl rfl ?_
  show G _ _ _ _ [_,_,_,_,_,_,_,_,_,_,_,_,_,_,_,_,_,_,_,_,_,_] _
  refine g_ops_nil (g_seq (g_seq (g_region ?_)))
  show G _ _ _ (.inRegion _ [0, 1] :: _) _ _
  refine g_op (v := Value.pointer (some ⟨b7, 1, none⟩)) rfl rfl rfl ?_
  show G _ _ _ _ [_,_,_,_,_,_,_,_,_,_,_,_,_,_,_,_,_,_,_,_,_,_] _
  by_cases hb1_ : a4.f_Far = true
  ·
   rw [if_pos hb1_] at H
   refine s_load1 rfl rfl (v := Value.bool true) rfl rfl (fun _ => rfl) (cells_load (hs.cells 0 rfl) 1 1 (Eq.trans (b := [Value.bool a4.f_Far]) rfl (congrArg (fun b => [Value.bool b]) hb1_))) ?_
   show G _ _ _ _ [_,_,_,_,_,_,_,_,_,_,_,_,_,_,_,_,_,_,_,_,_,_] _
   refine g_ops_nil (g_cond_true rfl (g_seq ?_))
   obtain ⟨r9, Hr9, H⟩ := bind_get H
   refine g_name ?_
   intro T hT
   refine g_any (n := 9) rfl [0, 1, 2, 3, 4, 5, 6, 7, 8] [0, 1, 2, 3, 4, 6, 7, 5, 8] rfl rfl (Inv := fun D t w => ∃ O : Nat → Value, t = [Value.agg (([Value.int .i8 a1.f_Things, Value.int .i8 a1.f_Boat, v2] : List Value)).toArray, Value.agg (enc_S_impl_Bank a4).toArray, Value.pointer (some ⟨b5, 0, none⟩), Value.pointer (some ⟨b7, 0, none⟩), cnd (D 7) (Value.int .u16 (bAndNot .u16 r9 a4.f_Near)) (Value.int .u16 0), cnd (D 8) (Value.int .u16 a4.f_Near) (Value.int .u16 0), Value.pointer (some ⟨b7, 1, none⟩), Value.bool true, cnd (D 0) (Value.agg (([Value.int .i8 a1.f_Things, Value.int .i8 a1.f_Boat, v2] : List Value)).toArray) (O 8), cnd (D 1) (Value.int .u16 r9) (O 9), cnd (D 2) (Value.pointer (some ⟨b7, 0, none⟩)) (O 10), cnd (D 3) (Value.int .u16 a4.f_Near) (O 11), cnd (D 4) (Value.int .u16 (bAndNot .u16 r9 a4.f_Near)) (O 12), cnd (D 5) (Value.pointer (some ⟨b7, 0, none⟩)) (O 13), cnd (D 6) (Value.int .u16 a4.f_Near) (O 14), O 15, O 16, O 17, O 18, O 19, O 20, O 21] ∧ St w0 [Cells b7 (enc_S_impl_Bank a4) 70, Cells b5 (([Value.int .i8 a1.f_Things, Value.int .i8 a1.f_Boat, v2] : List Value)) 27] w) ?_ ⟨⟨⟨⟨⟨⟨⟨⟨⟨trivial, ?_⟩, ?_⟩, ?_⟩, ?_⟩, ?_⟩, ?_⟩, ?_⟩, ?_⟩, ?_⟩ ?_
   ·
    intro w hh hbw
    have hs := hs.samew hh hbw
    exact ⟨fun i => T.getD i undef, (by subst hT; rfl), hs⟩
   ·
    intro D t w hD hp hcl hI rest hk
    obtain ⟨O, ht, hs⟩ := hI
    have q1_ := nz hcl 1 0 hD
    have q4_ := nz hcl 4 0 q1_
    have q7_ := nz hcl 7 0 q4_
    have q8_ := nz hcl 8 1 q7_
    simp only [hD, q1_, q4_, q7_, q8_, cq] at ht hs
    subst ht
    refine s_loadA rfl rfl (es := (([Value.int .i8 a1.f_Things, Value.int .i8 a1.f_Boat, v2] : List Value))) rfl rfl (fun _ => rfl) (n := 3) (fun _ => rfl) rfl (cells_all (hs.cells 1 rfl)) ?_
    show G _ _ _ _ [_,_,_,_,_,_,_,_,_,_,_,_,_,_,_,_,_,_,_,_,_,_] _
    refine hk _ _ ⟨O, ?_, hs.cast ?_⟩ <;> simp only [lq, cq, Nat.reduceBEq, q1_, q4_, q7_, q8_]
   ·
    intro D t w hD hp hcl hI rest hk
    obtain ⟨O, ht, hs⟩ := hI
    obtain ⟨p0_, _⟩ := hp
    have q4_ := nz hcl 4 0 hD
    have q7_ := nz hcl 7 0 q4_
    have q8_ := nz hcl 8 1 q7_
    simp only [hD, p0_, q4_, q7_, q8_, cq] at ht hs
    subst ht
    refine s_call (args := [Value.agg (([Value.int .i8 a1.f_Things, Value.int .i8 a1.f_Boat, v2] : List Value)).toArray]) rfl rfl (x_call rfl (callFunc_enter Try.func27 rfl rfl) rfl) (_impl_Ferry_all.calls (a1 := (⟨a1.f_Things, a1.f_Boat, a1.f_Rules⟩ : S_impl_Ferry)) (hs.rd hr3) Hr9) ?_
    rintro _ w ⟨rfl, hs2⟩
    have hs : St _ [_,_] _ := hs.call hs2
    show G _ _ _ _ [_,_,_,_,_,_,_,_,_,_,_,_,_,_,_,_,_,_,_,_,_,_] _
    refine hk _ _ ⟨O, ?_, hs.cast ?_⟩ <;> simp only [lq, cq, Nat.reduceBEq, p0_, q4_, q7_, q8_]
   ·
    intro D t w hD hp hcl hI rest hk
    obtain ⟨O, ht, hs⟩ := hI
    have q3_ := nz hcl 3 0 hD
    have q4_ := nz hcl 4 1 q3_
    have q7_ := nz hcl 7 0 q4_
    have q8_ := nz hcl 8 1 q7_
    simp only [hD, q3_, q4_, q7_, q8_, cq] at ht hs
    subst ht
    refine g_op (v := Value.pointer (some ⟨b7, 0, none⟩)) rfl rfl rfl ?_
    show G _ _ _ _ [_,_,_,_,_,_,_,_,_,_,_,_,_,_,_,_,_,_,_,_,_,_] _
    refine hk _ _ ⟨O, ?_, hs.cast ?_⟩ <;> simp only [lq, cq, Nat.reduceBEq, q3_, q4_, q7_, q8_]
   ·
    intro D t w hD hp hcl hI rest hk
    obtain ⟨O, ht, hs⟩ := hI
    obtain ⟨p2_, _⟩ := hp
    have q4_ := nz hcl 4 1 hD
    have q7_ := nz hcl 7 0 q4_
    have q8_ := nz hcl 8 1 q7_
    simp only [hD, p2_, q4_, q7_, q8_, cq] at ht hs
    subst ht
    refine s_load1 rfl rfl (v := Value.int .u16 a4.f_Near) rfl rfl (fun _ => rfl) (cells_load (hs.cells 0 rfl) 0 1 rfl) ?_
    show G _ _ _ _ [_,_,_,_,_,_,_,_,_,_,_,_,_,_,_,_,_,_,_,_,_,_] _
    refine hk _ _ ⟨O, ?_, hs.cast ?_⟩ <;> simp only [lq, cq, Nat.reduceBEq, p2_, q4_, q7_, q8_]
   ·
    intro D t w hD hp hcl hI rest hk
    obtain ⟨O, ht, hs⟩ := hI
    obtain ⟨p1_, p3_, _⟩ := hp
    obtain ⟨p2_, _⟩ := (hcl.get 3 (by decide)) p3_
    obtain ⟨p0_, _⟩ := (hcl.get 1 (by decide)) p1_
    have q7_ := nz hcl 7 0 hD
    have q8_ := nz hcl 8 1 q7_
    simp only [hD, p0_, p1_, p2_, p3_, q7_, q8_, cq] at ht hs
    subst ht
    refine g_op (v := Value.int .u16 (bAndNot .u16 r9 a4.f_Near)) rfl rfl rfl ?_
    show G _ _ _ _ [_,_,_,_,_,_,_,_,_,_,_,_,_,_,_,_,_,_,_,_,_,_] _
    refine hk _ _ ⟨O, ?_, hs.cast ?_⟩ <;> simp only [lq, cq, Nat.reduceBEq, p0_, p1_, p2_, p3_, q7_, q8_]
   ·
    intro D t w hD hp hcl hI rest hk
    obtain ⟨O, ht, hs⟩ := hI
    have q6_ := nz hcl 6 0 hD
    have q8_ := nz hcl 8 0 q6_
    simp only [hD, q6_, q8_, cq] at ht hs
    subst ht
    refine g_op (v := Value.pointer (some ⟨b7, 0, none⟩)) rfl rfl rfl ?_
    show G _ _ _ _ [_,_,_,_,_,_,_,_,_,_,_,_,_,_,_,_,_,_,_,_,_,_] _
    refine hk _ _ ⟨O, ?_, hs.cast ?_⟩ <;> simp only [lq, cq, Nat.reduceBEq, q6_, q8_]
   ·
    intro D t w hD hp hcl hI rest hk
    obtain ⟨O, ht, hs⟩ := hI
    obtain ⟨p5_, _⟩ := hp
    have q8_ := nz hcl 8 0 hD
    simp only [hD, p5_, q8_, cq] at ht hs
    subst ht
    refine s_load1 rfl rfl (v := Value.int .u16 a4.f_Near) rfl rfl (fun _ => rfl) (cells_load (hs.cells 0 rfl) 0 1 rfl) ?_
    show G _ _ _ _ [_,_,_,_,_,_,_,_,_,_,_,_,_,_,_,_,_,_,_,_,_,_] _
    refine hk _ _ ⟨O, ?_, hs.cast ?_⟩ <;> simp only [lq, cq, Nat.reduceBEq, p5_, q8_]
   ·
    intro D t w hD hp hcl hI rest hk
    obtain ⟨O, ht, hs⟩ := hI
    obtain ⟨p4_, p1_, p0_, _, p2_, p3_, _, _⟩ := hp
    have q8_ := nz hcl 8 1 hD
    simp only [hD, p0_, p1_, p2_, p3_, p4_, q8_, cq] at ht hs
    subst ht
    refine g_op (v := Value.int .u16 (bAndNot .u16 r9 a4.f_Near)) rfl rfl rfl ?_
    show G _ _ _ _ [_,_,_,_,_,_,_,_,_,_,_,_,_,_,_,_,_,_,_,_,_,_] _
    refine hk _ _ ⟨O, ?_, hs.cast ?_⟩ <;> simp only [lq, cq, Nat.reduceBEq, p0_, p1_, p2_, p3_, p4_, q8_]
   ·
    intro D t w hD hp hcl hI rest hk
    obtain ⟨O, ht, hs⟩ := hI
    obtain ⟨p6_, p7_, p0_, p1_, p2_, p3_, p4_, p5_, _, _, _⟩ := hp
    simp only [hD, p0_, p1_, p2_, p3_, p4_, p5_, p6_, p7_, cq] at ht hs
    subst ht
    refine g_op (v := Value.int .u16 a4.f_Near) rfl rfl rfl ?_
    show G _ _ _ _ [_,_,_,_,_,_,_,_,_,_,_,_,_,_,_,_,_,_,_,_,_,_] _
    refine hk _ _ ⟨O, ?_, hs.cast ?_⟩ <;> simp only [lq, cq, Nat.reduceBEq, p0_, p1_, p2_, p3_, p4_, p5_, p6_, p7_]
   intro D t w hall hI
   obtain ⟨O, ht, hs⟩ := hI
   have p0_ : D 0 = true := hall 0 (by decide)
   have p1_ : D 1 = true := hall 1 (by decide)
   have p2_ : D 2 = true := hall 2 (by decide)
   have p3_ : D 3 = true := hall 3 (by decide)
   have p4_ : D 4 = true := hall 4 (by decide)
   have p5_ : D 5 = true := hall 5 (by decide)
   have p6_ : D 6 = true := hall 6 (by decide)
   have p7_ : D 7 = true := hall 7 (by decide)
   have p8_ : D 8 = true := hall 8 (by decide)
   simp only [p0_, p1_, p2_, p3_, p4_, p5_, p6_, p7_, p8_, cq] at ht hs
   subst ht
   obtain rfl := Option.some.inj H
   refine g_ret Try.func66 (v := Value.tuple #[Value.int .u16 (bAndNot .u16 r9 a4.f_Near), Value.int .u16 a4.f_Near]) (resN (l := Try.f66.results.toList) (vs := [Value.int .u16 (bAndNot .u16 r9 a4.f_Near), Value.int .u16 a4.f_Near]) rfl ⟨rfl, rfl, trivial⟩ (by simp)) ?_
   have hs : St _ [] _ := St.take (Γ' := [_,_]) hs
   exact ⟨_, rfl, rfl, hs⟩
  rw [if_neg hb1_] at H
  refine s_load1 rfl rfl (v := Value.bool false) rfl rfl (fun _ => rfl) (cells_load (hs.cells 0 rfl) 1 1 (Eq.trans (b := [Value.bool a4.f_Far]) rfl (congrArg (fun b => [Value.bool b]) (Bool.eq_false_iff.2 hb1_)))) ?_
  show G _ _ _ _ [_,_,_,_,_,_,_,_,_,_,_,_,_,_,_,_,_,_,_,_,_,_] _
  refine g_ops_nil (g_cond_false rfl (g_skip (g_seq ?_)))
  obtain ⟨r10, Hr10, H⟩ := bind_get H
  refine g_name ?_
  intro T hT
  refine g_any (n := 9) rfl [0, 1, 2, 3, 4, 5, 6, 7, 8] [0, 1, 2, 3, 5, 6, 7, 4, 8] rfl rfl (Inv := fun D t w => ∃ O : Nat → Value, t = [Value.agg (([Value.int .i8 a1.f_Things, Value.int .i8 a1.f_Boat, v2] : List Value)).toArray, Value.agg (enc_S_impl_Bank a4).toArray, Value.pointer (some ⟨b5, 0, none⟩), Value.pointer (some ⟨b7, 0, none⟩), cnd (D 7) (Value.int .u16 a4.f_Near) (Value.int .u16 0), cnd (D 8) (Value.int .u16 (bAndNot .u16 r10 a4.f_Near)) (Value.int .u16 0), Value.pointer (some ⟨b7, 1, none⟩), Value.bool false, O 8, O 9, O 10, O 11, O 12, O 13, O 14, cnd (D 0) (Value.pointer (some ⟨b7, 0, none⟩)) (O 15), cnd (D 1) (Value.int .u16 a4.f_Near) (O 16), cnd (D 2) (Value.agg (([Value.int .i8 a1.f_Things, Value.int .i8 a1.f_Boat, v2] : List Value)).toArray) (O 17), cnd (D 3) (Value.int .u16 r10) (O 18), cnd (D 4) (Value.pointer (some ⟨b7, 0, none⟩)) (O 19), cnd (D 5) (Value.int .u16 a4.f_Near) (O 20), cnd (D 6) (Value.int .u16 (bAndNot .u16 r10 a4.f_Near)) (O 21)] ∧ St w0 [Cells b7 (enc_S_impl_Bank a4) 70, Cells b5 (([Value.int .i8 a1.f_Things, Value.int .i8 a1.f_Boat, v2] : List Value)) 27] w) ?_ ⟨⟨⟨⟨⟨⟨⟨⟨⟨trivial, ?_⟩, ?_⟩, ?_⟩, ?_⟩, ?_⟩, ?_⟩, ?_⟩, ?_⟩, ?_⟩ ?_
  ·
   intro w hh hbw
   have hs := hs.samew hh hbw
   exact ⟨fun i => T.getD i undef, (by subst hT; rfl), hs⟩
  ·
   intro D t w hD hp hcl hI rest hk
   obtain ⟨O, ht, hs⟩ := hI
   have q1_ := nz hcl 1 0 hD
   have q7_ := nz hcl 7 0 q1_
   have q8_ := nz hcl 8 1 q7_
   simp only [hD, q1_, q7_, q8_, cq] at ht hs
   subst ht
   refine g_op (v := Value.pointer (some ⟨b7, 0, none⟩)) rfl rfl rfl ?_
   show G _ _ _ _ [_,_,_,_,_,_,_,_,_,_,_,_,_,_,_,_,_,_,_,_,_,_] _
   refine hk _ _ ⟨O, ?_, hs.cast ?_⟩ <;> simp only [lq, cq, Nat.reduceBEq, q1_, q7_, q8_]
  ·
   intro D t w hD hp hcl hI rest hk
   obtain ⟨O, ht, hs⟩ := hI
   obtain ⟨p0_, _⟩ := hp
   have q7_ := nz hcl 7 0 hD
   have q8_ := nz hcl 8 1 q7_
   simp only [hD, p0_, q7_, q8_, cq] at ht hs
   subst ht
   refine s_load1 rfl rfl (v := Value.int .u16 a4.f_Near) rfl rfl (fun _ => rfl) (cells_load (hs.cells 0 rfl) 0 1 rfl) ?_
   show G _ _ _ _ [_,_,_,_,_,_,_,_,_,_,_,_,_,_,_,_,_,_,_,_,_,_] _
   refine hk _ _ ⟨O, ?_, hs.cast ?_⟩ <;> simp only [lq, cq, Nat.reduceBEq, p0_, q7_, q8_]
  ·
   intro D t w hD hp hcl hI rest hk
   obtain ⟨O, ht, hs⟩ := hI
   have q3_ := nz hcl 3 0 hD
   have q6_ := nz hcl 6 0 q3_
   have q7_ := nz hcl 7 1 q3_
   have q8_ := nz hcl 8 0 q6_
   simp only [hD, q3_, q6_, q7_, q8_, cq] at ht hs
   subst ht
   refine s_loadA rfl rfl (es := (([Value.int .i8 a1.f_Things, Value.int .i8 a1.f_Boat, v2] : List Value))) rfl rfl (fun _ => rfl) (n := 3) (fun _ => rfl) rfl (cells_all (hs.cells 1 rfl)) ?_
   show G _ _ _ _ [_,_,_,_,_,_,_,_,_,_,_,_,_,_,_,_,_,_,_,_,_,_] _
   refine hk _ _ ⟨O, ?_, hs.cast ?_⟩ <;> simp only [lq, cq, Nat.reduceBEq, q3_, q6_, q7_, q8_]
  ·
   intro D t w hD hp hcl hI rest hk
   obtain ⟨O, ht, hs⟩ := hI
   obtain ⟨p2_, _⟩ := hp
   have q6_ := nz hcl 6 0 hD
   have q7_ := nz hcl 7 1 hD
   have q8_ := nz hcl 8 0 q6_
   simp only [hD, p2_, q6_, q7_, q8_, cq] at ht hs
   subst ht
   refine s_call (args := [Value.agg (([Value.int .i8 a1.f_Things, Value.int .i8 a1.f_Boat, v2] : List Value)).toArray]) rfl rfl (x_call rfl (callFunc_enter Try.func27 rfl rfl) rfl) (_impl_Ferry_all.calls (a1 := (⟨a1.f_Things, a1.f_Boat, a1.f_Rules⟩ : S_impl_Ferry)) (hs.rd hr3) Hr10) ?_
   rintro _ w ⟨rfl, hs2⟩
   have hs : St _ [_,_] _ := hs.call hs2
   show G _ _ _ _ [_,_,_,_,_,_,_,_,_,_,_,_,_,_,_,_,_,_,_,_,_,_] _
   refine hk _ _ ⟨O, ?_, hs.cast ?_⟩ <;> simp only [lq, cq, Nat.reduceBEq, p2_, q6_, q7_, q8_]
  ·
   intro D t w hD hp hcl hI rest hk
   obtain ⟨O, ht, hs⟩ := hI
   have q5_ := nz hcl 5 0 hD
   have q6_ := nz hcl 6 1 q5_
   have q8_ := nz hcl 8 0 q6_
   simp only [hD, q5_, q6_, q8_, cq] at ht hs
   subst ht
   refine g_op (v := Value.pointer (some ⟨b7, 0, none⟩)) rfl rfl rfl ?_
   show G _ _ _ _ [_,_,_,_,_,_,_,_,_,_,_,_,_,_,_,_,_,_,_,_,_,_] _
   refine hk _ _ ⟨O, ?_, hs.cast ?_⟩ <;> simp only [lq, cq, Nat.reduceBEq, q5_, q6_, q8_]
  ·
   intro D t w hD hp hcl hI rest hk
   obtain ⟨O, ht, hs⟩ := hI
   obtain ⟨p4_, _⟩ := hp
   have q6_ := nz hcl 6 1 hD
   have q8_ := nz hcl 8 0 q6_
   simp only [hD, p4_, q6_, q8_, cq] at ht hs
   subst ht
   refine s_load1 rfl rfl (v := Value.int .u16 a4.f_Near) rfl rfl (fun _ => rfl) (cells_load (hs.cells 0 rfl) 0 1 rfl) ?_
   show G _ _ _ _ [_,_,_,_,_,_,_,_,_,_,_,_,_,_,_,_,_,_,_,_,_,_] _
   refine hk _ _ ⟨O, ?_, hs.cast ?_⟩ <;> simp only [lq, cq, Nat.reduceBEq, p4_, q6_, q8_]
  ·
   intro D t w hD hp hcl hI rest hk
   obtain ⟨O, ht, hs⟩ := hI
   obtain ⟨p3_, p5_, _⟩ := hp
   obtain ⟨p4_, _⟩ := (hcl.get 5 (by decide)) p5_
   obtain ⟨p2_, _⟩ := (hcl.get 3 (by decide)) p3_
   have q8_ := nz hcl 8 0 hD
   simp only [hD, p2_, p3_, p4_, p5_, q8_, cq] at ht hs
   subst ht
   refine g_op (v := Value.int .u16 (bAndNot .u16 r10 a4.f_Near)) rfl rfl rfl ?_
   show G _ _ _ _ [_,_,_,_,_,_,_,_,_,_,_,_,_,_,_,_,_,_,_,_,_,_] _
   refine hk _ _ ⟨O, ?_, hs.cast ?_⟩ <;> simp only [lq, cq, Nat.reduceBEq, p2_, p3_, p4_, p5_, q8_]
  ·
   intro D t w hD hp hcl hI rest hk
   obtain ⟨O, ht, hs⟩ := hI
   obtain ⟨p1_, p3_, p0_, _, _⟩ := hp
   obtain ⟨p2_, _⟩ := (hcl.get 3 (by decide)) p3_
   have q8_ := nz hcl 8 1 hD
   simp only [hD, p0_, p1_, p2_, p3_, q8_, cq] at ht hs
   subst ht
   refine g_op (v := Value.int .u16 a4.f_Near) rfl rfl rfl ?_
   show G _ _ _ _ [_,_,_,_,_,_,_,_,_,_,_,_,_,_,_,_,_,_,_,_,_,_] _
   refine hk _ _ ⟨O, ?_, hs.cast ?_⟩ <;> simp only [lq, cq, Nat.reduceBEq, p0_, p1_, p2_, p3_, q8_]
  ·
   intro D t w hD hp hcl hI rest hk
   obtain ⟨O, ht, hs⟩ := hI
   obtain ⟨p6_, p7_, p0_, p1_, p2_, p3_, p4_, p5_, _, _, _⟩ := hp
   simp only [hD, p0_, p1_, p2_, p3_, p4_, p5_, p6_, p7_, cq] at ht hs
   subst ht
   refine g_op (v := Value.int .u16 (bAndNot .u16 r10 a4.f_Near)) rfl rfl rfl ?_
   show G _ _ _ _ [_,_,_,_,_,_,_,_,_,_,_,_,_,_,_,_,_,_,_,_,_,_] _
   refine hk _ _ ⟨O, ?_, hs.cast ?_⟩ <;> simp only [lq, cq, Nat.reduceBEq, p0_, p1_, p2_, p3_, p4_, p5_, p6_, p7_]
  intro D t w hall hI
  obtain ⟨O, ht, hs⟩ := hI
  have p0_ : D 0 = true := hall 0 (by decide)
  have p1_ : D 1 = true := hall 1 (by decide)
  have p2_ : D 2 = true := hall 2 (by decide)
  have p3_ : D 3 = true := hall 3 (by decide)
  have p4_ : D 4 = true := hall 4 (by decide)
  have p5_ : D 5 = true := hall 5 (by decide)
  have p6_ : D 6 = true := hall 6 (by decide)
  have p7_ : D 7 = true := hall 7 (by decide)
  have p8_ : D 8 = true := hall 8 (by decide)
  simp only [p0_, p1_, p2_, p3_, p4_, p5_, p6_, p7_, p8_, cq] at ht hs
  subst ht
  obtain rfl := Option.some.inj H
  refine g_ret Try.func66 (v := Value.tuple #[Value.int .u16 a4.f_Near, Value.int .u16 (bAndNot .u16 r10 a4.f_Near)]) (resN (l := Try.f66.results.toList) (vs := [Value.int .u16 a4.f_Near, Value.int .u16 (bAndNot .u16 r10 a4.f_Near)]) rfl ⟨rfl, rfl, trivial⟩ (by simp)) ?_
  have hs : St _ [] _ := St.take (Γ' := [_,_]) hs
  exact ⟨_, rfl, rfl, hs⟩

/- function 59 impl_crossed -/
def impl_crossed.post (w0 : World) (r : S_impl_Bank) (v : Value) (w : World) : Prop := v = Value.agg (enc_S_impl_Bank r).toArray ∧ St w0 [] w
set_option maxHeartbeats 8000000 in
set_option maxRecDepth 100000 in
theorem impl_crossed.calls {N : Nat} {a1 : S_impl_Bank} {a2 : Int} {w0 : World} {r : S_impl_Bank} (H : impl_crossed.f N a1 a2 = some r) :
    Calls Try.prog 59 #[Value.agg (enc_S_impl_Bank a1).toArray, Value.int .u16 a2] w0 fun e w => ∃ v, e = .returned v ∧ impl_crossed.post w0 r v w := by
  unfold impl_crossed.f at H
  have hs : St w0 [] w0 := St.refl w0
  refine calls_of_g (n := 11) Try.func59 rfl rfl ?_
  show G _ _ _ _ [_,_,_,_,_,_,_,_,_,_,_,_,_] _
  refine g_seq (g_region ?_)
  show G _ _ _ (.inRegion _ [0, 1] :: _) _ _
  refine s_box hs rfl rfl (cs := (enc_S_impl_Bank a1)) rfl rfl ?_
  intro b3 w hs
  show G _ _ _ _ [_,_,_,_,_,_,_,_,_,_,_,_,_] _
  refine s_alloc hs rfl rfl (z := (Value.agg #[Value.int .u16 0, Value.bool false])) (cs := (enc_S_impl_Bank z_S_impl_Bank)) rfl (fun _ => rfl) rfl ?_
  intro b5 w hs
  show G _ _ _ _ [_,_,_,_,_,_,_,_,_,_,_,_,_] _
  refine g_ops_nil (g_seq (g_region ?_))
  show G _ _ _ (.inRegion _ [0, 1, 2, 3, 4, 5, 6, 7, 8] :: _) _ _
  refine g_op (v := Value.pointer (some ⟨b3, 0, none⟩)) rfl rfl rfl ?_
  show G _ _ _ _ [_,_,_,_,_,_,_,_,_,_,_,_,_] _
  refine s_load1 rfl rfl (v := Value.int .u16 a1.f_Near) rfl rfl (fun _ => rfl) (cells_load (hs.cells 1 rfl) 0 1 rfl) ?_
  show G _ _ _ _ [_,_,_,_,_,_,_,_,_,_,_,_,_] _
  refine g_op (v := Value.int .u16 a2) rfl rfl rfl ?_
  show G _ _ _ _ [_,_,_,_,_,_,_,_,_,_,_,_,_] _
  refine g_op (v := Value.int .u16 (bXor .u16 a1.f_Near a2)) rfl rfl rfl ?_
  show G _ _ _ _ [_,_,_,_,_,_,_,_,_,_,_,_,_] _
  refine g_op (v := Value.pointer (some ⟨b3, 1, none⟩)) rfl rfl rfl ?_
  show G _ _ _ _ [_,_,_,_,_,_,_,_,_,_,_,_,_] _
  refine s_load1 rfl rfl (v := Value.bool a1.f_Far) rfl rfl (fun _ => rfl) (cells_load (hs.cells 1 rfl) 1 1 rfl) ?_
  show G _ _ _ _ [_,_,_,_,_,_,_,_,_,_,_,_,_] _
  refine g_op (v := Value.bool (!a1.f_Far)) rfl rfl rfl ?_
  show G _ _ _ _ [_,_,_,_,_,_,_,_,_,_,_,_,_] _
  refine g_op (v := Value.agg (enc_S_impl_Bank (⟨bXor .u16 a1.f_Near a2, !a1.f_Far⟩ : S_impl_Bank)).toArray) rfl rfl (x_buildS (cs := (enc_S_impl_Bank (⟨bXor .u16 a1.f_Near a2, !a1.f_Far⟩ : S_impl_Bank))) (segs := [[Value.int .u16 0], [Value.bool false]]) rfl rfl (fun _ => rfl) ⟨rfl, (fun _ => rfl), rfl, (fun _ => rfl), trivial⟩ (by simp only [List.map_cons, List.map_nil, List.forall_mem_cons, List.not_mem_nil, false_implies, implies_true, and_true]; exact ⟨⟨_, rfl, rfl⟩, ⟨_, rfl, rfl⟩⟩) (by first | rfl | (simp [ev, enc_S_impl_Bank]; done) | (simp [ev, enc_S_impl_Bank]; rfl))) ?_
  show G _ _ _ _ [_,_,_,_,_,_,_,_,_,_,_,_,_] _
  refine s_storeAll (n := 2) hs (fk_S_impl_Bank.len _) rfl rfl (vs := (enc_S_impl_Bank (⟨bXor .u16 a1.f_Near a2, !a1.f_Far⟩ : S_impl_Bank))) rfl rfl rfl (fun _ => rfl) (fk_S_impl_Bank.len _) (fk_S_impl_Bank.one _) ?_
  intro w hs
  refine g_ops_nil ?_
  obtain rfl := Option.some.inj H
  refine g_ret Try.func59 (v := Value.agg (enc_S_impl_Bank (⟨bXor .u16 a1.f_Near a2, !a1.f_Far⟩ : S_impl_Bank)).toArray) (resC rfl ⟨⟨_, rfl, (run_loadVar_agg (es := (enc_S_impl_Bank (⟨bXor .u16 a1.f_Near a2, !a1.f_Far⟩ : S_impl_Bank))) rfl (congrArg (Result.ok · _) (fk_S_impl_Bank.len _).symm) (cells_all (hs.cells 0 rfl)))⟩, trivial⟩) ?_
  have hs : St _ [] _ := St.take (Γ' := [_,_]) hs
  exact ⟨_, rfl, rfl, hs⟩

/- function 57 _impl_Ferry_isSafe_1 -/
def _impl_Ferry_isSafe_1.post (w0 : World) (r : Bool) (v : Value) (w : World) : Prop := v = Value.bool r ∧ St w0 [] w
set_option maxHeartbeats 8000000 in
set_option maxRecDepth 100000 in
theorem _impl_Ferry_isSafe_1.calls {N : Nat} {a1 : Int} {a2 : Int} {b3 : Nat} {w0 : World} {r : Bool} (hp1000 : w0.heap[b3]? = some (.cells (((encI .u16) a2) : List Value).toArray 31 (0, 0))) (H : _impl_Ferry_isSafe_1.f N a1 a2 = some r) :
    Calls Try.prog 57 #[Value.int .u16 a1, Value.pointer (some ⟨b3, 0, none⟩)] w0 fun e w => ∃ v, e = .returned v ∧ _impl_Ferry_isSafe_1.post w0 r v w := by
  unfold _impl_Ferry_isSafe_1.f at H
  have hs : St w0 [] w0 := St.refl w0
  refine calls_of_g (n := 5) Try.func57 rfl rfl ?_
  show G _ _ _ _ [_,_,_,_,_,_,_] _
  refine g_seq (g_region ?_)
  show G _ _ _ (.inRegion _ [0] :: _) _ _
  refine g_op (v := Value.bool false) rfl rfl rfl ?_
  show G _ _ _ _ [_,_,_,_,_,_,_] _
  refine g_ops_nil (g_seq (g_region ?_))
  show G _ _ _ (.inRegion _ [0, 1, 2, 3] :: _) _ _
  refine g_op (v := Value.int .u16 a1) rfl rfl rfl ?_
  show G _ _ _ _ [_,_,_,_,_,_,_] _
  refine s_load1 rfl rfl (v := Value.int .u16 a2) rfl rfl (fun _ => rfl) (cells_load (hs.box hp1000) 0 1 rfl) ?_
  show G _ _ _ _ [_,_,_,_,_,_,_] _
  obtain ⟨r5, Hr5, H⟩ := bind_get H
  refine s_call (args := [Value.int .u16 a1, Value.int .u16 a2]) rfl rfl (x_call rfl (callFunc_enter Try.func49 rfl rfl) rfl) (impl_inside.calls (a1 := a1) (a2 := a2) Hr5) ?_
  rintro _ w ⟨rfl, hs2⟩
  have hs : St _ [] _ := hs.call hs2
  show G _ _ _ _ [_,_,_,_,_,_,_] _
  refine g_op (v := Value.bool r5) rfl rfl rfl ?_
  show G _ _ _ _ [_,_,_,_,_,_,_] _
  refine g_ops_nil ?_
  obtain rfl := Option.some.inj H
  refine g_ret Try.func57 (v := Value.bool r5) (res1 rfl rfl) ?_
  have hs : St _ [] _ := St.take (Γ' := []) hs
  exact ⟨_, rfl, rfl, hs⟩

/- function 62 slices_IndexFunc_uint16_uint16_at__impl_Ferry_isSafe_1 -/
def slices_IndexFunc_uint16_uint16_at__impl_Ferry_isSafe_1.post (w0 : World) (r : Int) (v : Value) (w : World) : Prop := v = Value.int .i64 r ∧ St w0 [] w
set_option maxHeartbeats 8000000 in
set_option maxRecDepth 100000 in
theorem slices_IndexFunc_uint16_uint16_at__impl_Ferry_isSafe_1.calls {N : Nat} {a1 : (List Int)} {a3 : Int} {v2 : Value} {b4 : Nat} {w0 : World} {r : Int} (hr0 : RdRow (K.int .u16) w0 v2 a1) (hp200 : w0.heap[b4]? = some (.cells (((encI .u16) a3) : List Value).toArray 31 (0, 0))) (H : slices_IndexFunc_uint16_uint16_at__impl_Ferry_isSafe_1.f N a1 a3 = some r) :
    Calls Try.prog 62 #[v2, Value.func (Fn.func 57) #[] #[Value.pointer (some ⟨b4, 0, none⟩)]] w0 fun e w => ∃ v, e = .returned v ∧ slices_IndexFunc_uint16_uint16_at__impl_Ferry_isSafe_1.post w0 r v w := by
  unfold slices_IndexFunc_uint16_uint16_at__impl_Ferry_isSafe_1.f at H
  have hs : St w0 [] w0 := St.refl w0
  refine calls_of_g (n := 17) Try.func62 rfl rfl ?_
  show G _ _ _ _ [_,_,_,_,_,_,_,_,_,_,_,_,_,_,_,_,_,_,_] _
  refine g_seq (g_region ?_)
  show G _ _ _ (.inRegion _ [0] :: _) _ _
  refine g_op (v := Value.int .i64 0) rfl rfl rfl ?_
  show G _ _ _ _ [_,_,_,_,_,_,_,_,_,_,_,_,_,_,_,_,_,_,_] _
  refine g_ops_nil (g_seq (g_seq (g_region ?_)))
  show G _ _ _ (.inRegion _ [0, 1, 2] :: _) _ _
  refine g_op (v := v2) rfl rfl rfl ?_
  show G _ _ _ _ [_,_,_,_,_,_,_,_,_,_,_,_,_,_,_,_,_,_,_] _
  refine s_len (hs.rd hr0) rfl rfl rfl rfl rfl ?_
  show G _ _ _ _ [_,_,_,_,_,_,_,_,_,_,_,_,_,_,_,_,_,_,_] _
  refine g_op (v := Value.int .i64 0) rfl rfl rfl ?_
  show G _ _ _ _ [_,_,_,_,_,_,_,_,_,_,_,_,_,_,_,_,_,_,_] _
  refine g_ops_nil ?_
  obtain ⟨o1_, Ho, Hr1_⟩ := bind_get H
  refine g_block_join (J := fun t w => slices_IndexFunc_uint16_uint16_at__impl_Ferry_isSafe_1.a0 N = some r ∧ Fr t (fun O => ([O 0, O 1, O 2, O 3, O 4, O 5, O 6, O 7, O 8, O 9, O 10, O 11, O 12, O 13, O 14, O 15, O 16, O 17, O 18] : List Value)) ∧ St w0 [] w) ?_ ?_
  ·
   rintro t w ⟨H, hf, hs⟩
   obtain ⟨O, rfl⟩ := hf.open
   show G _ _ _ _ [_,_,_,_,_,_,_,_,_,_,_,_,_,_,_,_,_,_,_] _
   unfold slices_IndexFunc_uint16_uint16_at__impl_Ferry_isSafe_1.a0 at H
   refine g_seq (g_region ?_)
   show G _ _ _ (.inRegion _ [0] :: _) _ _
   refine g_op (v := Value.int .i64 (-1)) rfl rfl rfl ?_
   show G _ _ _ _ [_,_,_,_,_,_,_,_,_,_,_,_,_,_,_,_,_,_,_] _
   refine g_ops_nil ?_
   obtain rfl := Option.some.inj H
   refine g_ret Try.func62 (v := Value.int .i64 (-1)) (res1 rfl rfl) ?_
   have hs : St _ [] _ := St.take (Γ' := []) hs
   exact ⟨_, rfl, rfl, hs⟩
  intro ha1_
  have hs : St _ [] _ := St.take (Γ' := []) hs
  refine g_loop_fuel (I := fun n_ t w => ∃ x6 : Int, rounds (fun s => slices_IndexFunc_uint16_uint16_at__impl_Ferry_isSafe_1.b0 N a1 a3 s) n_ x6 = some o1_ ∧ Fr t (fun O => ([v2, Value.func (Fn.func 57) #[] #[Value.pointer (some ⟨b4, 0, none⟩)], O 2, O 3, O 4, O 5, O 6, Value.int .i64 (a1.length : Int), Value.int .i64 x6, O 9, O 10, O 11, O 12, O 13, O 14, O 15, O 16, O 17, O 18] : List Value)) ∧ St w0 [] w) N ⟨0, Ho, rfl, hs⟩ ?_ ?_
  ·
   rintro _ _ ⟨x6, h, _⟩
   exact rounds_zero h
  intro n_ ih1_
  rintro t w ⟨x6, Ho, hf, hs⟩
  obtain ⟨O, rfl⟩ := hf.open
  show G _ _ _ _ [_,_,_,_,_,_,_,_,_,_,_,_,_,_,_,_,_,_,_] _
  obtain ⟨x2_, H, Hx1_⟩ := rounds_succ Ho
  have H : slices_IndexFunc_uint16_uint16_at__impl_Ferry_isSafe_1.b0 N a1 a3 x6 = some x2_ := H
  unfold slices_IndexFunc_uint16_uint16_at__impl_Ferry_isSafe_1.b0 at H
  refine g_seq (g_region ?_)
  show G _ _ _ (.inRegion _ [0] :: _) _ _
  refine g_op_b (B := decide (x6 < (a1.length : Int))) rfl rfl rfl ?_ ?_
  ·
   intro hb
   rw [if_pos (b_dec_t hb)] at H
   show G _ _ _ _ [_,_,_,_,_,_,_,_,_,_,_,_,_,_,_,_,_,_,_] _
   refine g_ops_nil (g_seq (g_cond_true rfl (g_skip (g_seq ?_))))
   refine g_block (g_seq (g_region ?_))
   show G _ _ _ (.inRegion _ [0, 1] :: _) _ _
   refine g_op (v := Value.int .i64 x6) rfl rfl rfl ?_
   show G _ _ _ _ [_,_,_,_,_,_,_,_,_,_,_,_,_,_,_,_,_,_,_] _
   refine g_op (v := Value.int .i64 x6) rfl rfl rfl ?_
   show G _ _ _ _ [_,_,_,_,_,_,_,_,_,_,_,_,_,_,_,_,_,_,_] _
   refine g_ops_nil (g_seq (g_region ?_))
   show G _ _ _ (.inRegion _ [0, 1, 2, 3, 4, 5] :: _) _ _
   refine g_op (v := Value.func (Fn.func 57) #[] #[Value.pointer (some ⟨b4, 0, none⟩)]) rfl rfl rfl ?_
   show G _ _ _ _ [_,_,_,_,_,_,_,_,_,_,_,_,_,_,_,_,_,_,_] _
   refine g_op (v := v2) rfl rfl rfl ?_
   show G _ _ _ _ [_,_,_,_,_,_,_,_,_,_,_,_,_,_,_,_,_,_,_] _
   refine g_op (v := Value.int .i64 x6) rfl rfl rfl ?_
   show G _ _ _ _ [_,_,_,_,_,_,_,_,_,_,_,_,_,_,_,_,_,_,_] _
   obtain ⟨g1, H⟩ := ite_get H
   refine s_idx (fkI .u16) 0 (hs.rd hr0) rfl (fun _ => rfl) g1.1 g1.2 rfl rfl rfl rfl rfl ?_
   intro p7 hp7 lp7 op7
   show G _ _ _ _ [_,_,_,_,_,_,_,_,_,_,_,_,_,_,_,_,_,_,_] _
   refine s_load1 rfl rfl (v := Value.int .u16 (rdL a1 x6 0)) rfl rfl (fun _ => rfl) hp7 ?_
   show G _ _ _ _ [_,_,_,_,_,_,_,_,_,_,_,_,_,_,_,_,_,_,_] _
   obtain ⟨r8, Hr8, H⟩ := bind_get H
   refine s_call (args := [Value.int .u16 (rdL a1 x6 0), Value.pointer (some ⟨b4, 0, none⟩)]) rfl rfl (x_callC rfl (callFunc_enter Try.func57 rfl rfl) rfl rfl) (_impl_Ferry_isSafe_1.calls (a1 := rdL a1 x6 0) (a2 := a3) (hs.box hp200) Hr8) ?_
   rintro _ w ⟨rfl, hs2⟩
   have hs : St _ [] _ := hs.call hs2
   cases r8 with
   | true =>
     rw [if_pos rfl] at H
     show G _ _ _ _ [_,_,_,_,_,_,_,_,_,_,_,_,_,_,_,_,_,_,_] _
     refine g_ops_nil (g_cond_true rfl (g_seq (g_region ?_)))
     show G _ _ _ (.inRegion _ [0, 1] :: _) _ _
     refine g_op (v := Value.int .i64 x6) rfl rfl rfl ?_
     show G _ _ _ _ [_,_,_,_,_,_,_,_,_,_,_,_,_,_,_,_,_,_,_] _
     refine g_op (v := Value.int .i64 x6) rfl rfl rfl ?_
     show G _ _ _ _ [_,_,_,_,_,_,_,_,_,_,_,_,_,_,_,_,_,_,_] _
     refine g_ops_nil ?_
     obtain rfl := Option.some.inj H
     subst Hx1_
     have H := Option.some.inj Hr1_
     subst H
     refine g_ret Try.func62 (v := Value.int .i64 x6) (res1 rfl rfl) ?_
     have hs : St _ [] _ := St.take (Γ' := []) hs
     exact ⟨_, rfl, rfl, hs⟩
   | false =>
     rw [if_neg Bool.false_ne_true] at H
     show G _ _ _ _ [_,_,_,_,_,_,_,_,_,_,_,_,_,_,_,_,_,_,_] _
     refine g_ops_nil (g_cond_false rfl (g_skip ?_))
     refine g_inBlock (g_region ?_)
     show G _ _ _ (.inRegion _ [0, 1] :: _) _ _
     refine g_op (v := Value.int .i64 (i64w (x6 + 1))) rfl rfl rfl ?_
     show G _ _ _ _ [_,_,_,_,_,_,_,_,_,_,_,_,_,_,_,_,_,_,_] _
     refine g_op (v := Value.int .i64 (i64w (x6 + 1))) rfl rfl rfl ?_
     show G _ _ _ _ [_,_,_,_,_,_,_,_,_,_,_,_,_,_,_,_,_,_,_] _
     refine g_ops_nil ?_
     obtain rfl := Option.some.inj H
     have hs : St _ [] _ := St.take (Γ' := []) hs
     exact ih1_ _ _ ⟨i64w (x6 + 1), Hx1_, rfl, hs⟩
  intro hb
  rw [if_neg (b_dec_f hb)] at H
  show G _ _ _ _ [_,_,_,_,_,_,_,_,_,_,_,_,_,_,_,_,_,_,_] _
  refine g_ops_nil (g_seq (g_cond_false rfl ?_))
  obtain rfl := Option.some.inj H
  subst Hx1_
  have hs : St _ [] _ := St.take (Γ' := []) hs
  refine g_exit rfl ?_
  exact ha1_ _ _ ⟨Hr1_, rfl, hs⟩

/- function 47 slices_ContainsFunc_uint16_uint16_at__impl_Ferry_isSafe_1 -/
def slices_ContainsFunc_uint16_uint16_at__impl_Ferry_isSafe_1.post (w0 : World) (r : Bool) (v : Value) (w : World) : Prop := v = Value.bool r ∧ St w0 [] w
set_option maxHeartbeats 8000000 in
set_option maxRecDepth 100000 in
theorem slices_ContainsFunc_uint16_uint16_at__impl_Ferry_isSafe_1.calls {N : Nat} {a1 : (List Int)} {a3 : Int} {v2 : Value} {b4 : Nat} {w0 : World} {r : Bool} (hr0 : RdRow (K.int .u16) w0 v2 a1) (hp200 : w0.heap[b4]? = some (.cells (((encI .u16) a3) : List Value).toArray 31 (0, 0))) (H : slices_ContainsFunc_uint16_uint16_at__impl_Ferry_isSafe_1.f N a1 a3 = some r) :
    Calls Try.prog 47 #[v2, Value.func (Fn.func 57) #[] #[Value.pointer (some ⟨b4, 0, none⟩)]] w0 fun e w => ∃ v, e = .returned v ∧ slices_ContainsFunc_uint16_uint16_at__impl_Ferry_isSafe_1.post w0 r v w := by
  unfold slices_ContainsFunc_uint16_uint16_at__impl_Ferry_isSafe_1.f at H
  have hs : St w0 [] w0 := St.refl w0
  refine calls_of_g (n := 7) Try.func47 rfl rfl ?_
  show G _ _ _ _ [_,_,_,_,_,_,_,_,_] _
  refine g_seq (g_region ?_)
  show G _ _ _ (.inRegion _ [0] :: _) _ _
  refine g_op (v := Value.bool false) rfl rfl rfl ?_
  show G _ _ _ _ [_,_,_,_,_,_,_,_,_] _
  refine g_ops_nil (g_seq (g_region ?_))
  show G _ _ _ (.inRegion _ [0, 1, 2, 3, 4] :: _) _ _
  refine g_op (v := v2) rfl rfl rfl ?_
  show G _ _ _ _ [_,_,_,_,_,_,_,_,_] _
  refine g_op (v := Value.func (Fn.func 57) #[] #[Value.pointer (some ⟨b4, 0, none⟩)]) rfl rfl rfl ?_
  show G _ _ _ _ [_,_,_,_,_,_,_,_,_] _
  obtain ⟨r6, Hr6, H⟩ := bind_get H
  refine s_call (args := [v2, Value.func (Fn.func 57) #[] #[Value.pointer (some ⟨b4, 0, none⟩)]]) rfl rfl (x_call rfl (callFunc_enter Try.func62 rfl rfl) rfl) (slices_IndexFunc_uint16_uint16_at__impl_Ferry_isSafe_1.calls (a1 := a1) (a3 := a3) (hs.rd hr0) (hs.box hp200) Hr6) ?_
  rintro _ w ⟨rfl, hs2⟩
  have hs : St _ [] _ := hs.call hs2
  show G _ _ _ _ [_,_,_,_,_,_,_,_,_] _
  refine g_op (v := Value.bool (decide (r6 ≥ 0))) rfl rfl rfl ?_
  show G _ _ _ _ [_,_,_,_,_,_,_,_,_] _
  refine g_op (v := Value.bool (decide (r6 ≥ 0))) rfl rfl rfl ?_
  show G _ _ _ _ [_,_,_,_,_,_,_,_,_] _
  refine g_ops_nil ?_
  obtain rfl := Option.some.inj H
  refine g_ret Try.func47 (v := Value.bool (decide (r6 ≥ 0))) (res1 rfl rfl) ?_
  have hs : St _ [] _ := St.take (Γ' := []) hs
  exact ⟨_, rfl, rfl, hs⟩

/- function 34 _impl_Ferry_isSafe -/
def _impl_Ferry_isSafe.post (w0 : World) (r : Bool) (v : Value) (w : World) : Prop := v = Value.bool r ∧ St w0 [] w
set_option maxHeartbeats 8000000 in
set_option maxRecDepth 100000 in
theorem _impl_Ferry_isSafe.calls {N : Nat} {a1 : S_impl_Ferry} {a4 : Int} {v2 : Value} {w0 : World} {r : Bool} (hr3 : RdRow (K.int .u16) w0 v2 a1.f_Rules) (H : _impl_Ferry_isSafe.f N a1 a4 = some r) :
    Calls Try.prog 34 #[Value.agg (([Value.int .i8 a1.f_Things, Value.int .i8 a1.f_Boat, v2] : List Value)).toArray, Value.int .u16 a4] w0 fun e w => ∃ v, e = .returned v ∧ _impl_Ferry_isSafe.post w0 r v w := by
  unfold _impl_Ferry_isSafe.f at H
  have hs : St w0 [] w0 := St.refl w0
  refine calls_of_g (n := 8) Try.func34 rfl rfl ?_
  show G _ _ _ _ [_,_,_,_,_,_,_,_,_,_] _
  refine g_seq (g_region ?_)
  show G _ _ _ (.inRegion _ [0, 1, 2] :: _) _ _
  refine s_box hs rfl rfl (cs := (([Value.int .i8 a1.f_Things, Value.int .i8 a1.f_Boat, v2] : List Value))) rfl rfl ?_
  intro b5 w hs
  show G _ _ _ _ [_,_,_,_,_,_,_,_,_,_] _
  refine s_box hs rfl rfl (cs := ((encI .u16) a4)) rfl rfl ?_
  intro b7 w hs
  show G _ _ _ _ [_,_,_,_,_,_,_,_,_,_] _
  refine g_op (v := Value.bool false) rfl rfl rfl ?_
  show G _ _ _ _ [_,_,_,_,_,_,_,_,_,_] _
  refine g_ops_nil (g_seq (g_region ?_))
  show G _ _ _ (.inRegion _ [0, 1, 2, 3, 4, 5] :: _) _ _
  refine g_op (v := Value.pointer (some ⟨b5, 2, none⟩)) rfl rfl rfl ?_
  show G _ _ _ _ [_,_,_,_,_,_,_,_,_,_] _
  refine s_load1 rfl rfl (v := v2) rfl rfl (fun _ => rfl) (cells_load (hs.cells 1 rfl) 2 1 rfl) ?_
  show G _ _ _ _ [_,_,_,_,_,_,_,_,_,_] _
  refine g_op (v := Value.func (Fn.func 57) #[] #[Value.pointer (some ⟨b7, 0, none⟩)]) rfl rfl (x_mkfunc rfl rfl) ?_
  show G _ _ _ _ [_,_,_,_,_,_,_,_,_,_] _
  obtain ⟨r9, Hr9, H⟩ := bind_get H
  refine s_call (args := [v2, Value.func (Fn.func 57) #[] #[Value.pointer (some ⟨b7, 0, none⟩)]]) rfl rfl (x_call rfl (callFunc_enter Try.func47 rfl rfl) rfl) (slices_ContainsFunc_uint16_uint16_at__impl_Ferry_isSafe_1.calls (a1 := a1.f_Rules) (a3 := a4) (hs.rd hr3) (hs.cells 0 rfl) Hr9) ?_
  rintro _ w ⟨rfl, hs2⟩
  have hs : St _ [_,_] _ := hs.call hs2
  show G _ _ _ _ [_,_,_,_,_,_,_,_,_,_] _
  refine g_op (v := Value.bool (!r9)) rfl rfl rfl ?_
  show G _ _ _ _ [_,_,_,_,_,_,_,_,_,_] _
  refine g_op (v := Value.bool (!r9)) rfl rfl rfl ?_
  show G _ _ _ _ [_,_,_,_,_,_,_,_,_,_] _
  refine g_ops_nil ?_
  obtain rfl := Option.some.inj H
  refine g_ret Try.func34 (v := Value.bool (!r9)) (res1 rfl rfl) ?_
  have hs : St _ [] _ := St.take (Γ' := [_,_]) hs
  exact ⟨_, rfl, rfl, hs⟩

/- function 67 _impl_Ferry_isBank -/
def _impl_Ferry_isBank.post (w0 : World) (r : Bool) (v : Value) (w : World) : Prop := v = Value.bool r ∧ St w0 [] w
set_option maxHeartbeats 8000000 in
set_option maxRecDepth 100000 in
theorem _impl_Ferry_isBank.calls {N : Nat} {a1 : S_impl_Ferry} {a4 : S_impl_Bank} {v2 : Value} {w0 : World} {r : Bool} (hr3 : RdRow (K.int .u16) w0 v2 a1.f_Rules) (H : _impl_Ferry_isBank.f N a1 a4 = some r) :
    Calls Try.prog 67 #[Value.agg (([Value.int .i8 a1.f_Things, Value.int .i8 a1.f_Boat, v2] : List Value)).toArray, Value.agg (enc_S_impl_Bank a4).toArray] w0 fun e w => ∃ v, e = .returned v ∧ _impl_Ferry_isBank.post w0 r v w := by
  unfold _impl_Ferry_isBank.f at H
  have hs : St w0 [] w0 := St.refl w0
  refine calls_of_g (n := 21) Try.func67 rfl rfl ?_
  show G _ _ _ _ [_,_,_,_,_,_,_,_,_,_,_,_,_,_,_,_,_,_,_,_,_,_,_] _
  refine g_seq (g_region ?_)
  show G _ _ _ (.inRegion _ [0, 1, 2] :: _) _ _
  refine s_box hs rfl rfl (cs := (([Value.int .i8 a1.f_Things, Value.int .i8 a1.f_Boat, v2] : List Value))) rfl rfl ?_
  intro b5 w hs
  show G _ _ _ _ [_,_,_,_,_,_,_,_,_,_,_,_,_,_,_,_,_,_,_,_,_,_,_] _
  refine s_box hs rfl rfl (cs := (enc_S_impl_Bank a4)) rfl rfl ?_
  intro b7 w hs
  show G _ _ _ _ [_,_,_,_,_,_,_,_,_,_,_,_,_,_,_,_,_,_,_,_,_,_,_] _
  refine g_op (v := Value.bool false) rfl rfl rfl ?_
  show G _ _ _ _ [_,_,_,_,_,_,_,_,_,_,_,_,_,_,_,_,_,_,_,_,_,_,_] _
  refine g_ops_nil (g_seq (g_region ?_))
  show G _ _ _ (.inRegion _ [0, 1, 2, 3, 4, 5, 6, 7] :: _) _ _
  refine s_loadA rfl rfl (es := (([Value.int .i8 a1.f_Things, Value.int .i8 a1.f_Boat, v2] : List Value))) rfl rfl (fun _ => rfl) (n := 3) (fun _ => rfl) rfl (cells_all (hs.cells 1 rfl)) ?_
  show G _ _ _ _ [_,_,_,_,_,_,_,_,_,_,_,_,_,_,_,_,_,_,_,_,_,_,_] _
  refine s_loadA rfl rfl (es := (enc_S_impl_Bank a4)) rfl rfl (fun _ => rfl) (n := 2) (fun _ => rfl) (fk_S_impl_Bank.len _) (cells_all (hs.cells 0 rfl)) ?_
  show G _ _ _ _ [_,_,_,_,_,_,_,_,_,_,_,_,_,_,_,_,_,_,_,_,_,_,_] _
  obtain ⟨r9, Hr9, H⟩ := bind_get H
  refine s_call (args := [Value.agg (([Value.int .i8 a1.f_Things, Value.int .i8 a1.f_Boat, v2] : List Value)).toArray, Value.agg (enc_S_impl_Bank a4).toArray]) rfl rfl (x_call rfl (callFunc_enter Try.func66 rfl rfl) rfl) (_impl_Ferry_sides.calls (a1 := (⟨a1.f_Things, a1.f_Boat, a1.f_Rules⟩ : S_impl_Ferry)) (a4 := a4) (hs.rd hr3) Hr9) ?_
  rintro _ w ⟨rfl, hs2⟩
  have hs : St _ [_,_] _ := hs.call hs2
  show G _ _ _ _ [_,_,_,_,_,_,_,_,_,_,_,_,_,_,_,_,_,_,_,_,_,_,_] _
  refine g_op (v := Value.tuple #[Value.int .u16 r9.1, Value.int .u16 r9.2]) rfl rfl rfl ?_
  show G _ _ _ _ [_,_,_,_,_,_,_,_,_,_,_,_,_,_,_,_,_,_,_,_,_,_,_] _
  refine g_op (v := Value.int .u16 r9.1) rfl rfl rfl ?_
  show G _ _ _ _ [_,_,_,_,_,_,_,_,_,_,_,_,_,_,_,_,_,_,_,_,_,_,_] _
  refine g_op (v := Value.int .u16 r9.2) rfl rfl rfl ?_
  show G _ _ _ _ [_,_,_,_,_,_,_,_,_,_,_,_,_,_,_,_,_,_,_,_,_,_,_] _
  refine g_op (v := Value.int .u16 r9.1) rfl rfl rfl ?_
  show G _ _ _ _ [_,_,_,_,_,_,_,_,_,_,_,_,_,_,_,_,_,_,_,_,_,_,_] _
  refine g_op (v := Value.int .u16 r9.2) rfl rfl rfl ?_
  show G _ _ _ _ [_,_,_,_,_,_,_,_,_,_,_,_,_,_,_,_,_,_,_,_,_,_,_] _
  refine g_ops_nil (g_seq ?_)
  refine g_lay (n := 11) rfl [0, 1, 2, 3, 4, 5, 6, 7, 8, 9, 10] [0, 1, 2, 3, 4, 5, 6, 7, 8, 9, 10] rfl rfl ?_
  intro rest w hh hbw hO
  have hs := hs.samew hh hbw
  show G _ _ _ _ [_,_,_,_,_,_,_,_,_,_,_,_,_,_,_,_,_,_,_,_,_,_,_] _
  obtain ⟨r10, Hr10, H⟩ := bind_get H
  refine g_name ?_
  intro T hT
  refine g_layer (m0 := 0) hO rfl 15 [0, 1, 2, 3] [0, 1, 0, 4, 15, 31, 63, 63, 255, 511, 1023] (by decide +kernel) (fun D t w => ∃ O : Nat → Value, t = [Value.agg (([Value.int .i8 a1.f_Things, Value.int .i8 a1.f_Boat, v2] : List Value)).toArray, Value.agg (enc_S_impl_Bank a4).toArray, Value.pointer (some ⟨b5, 0, none⟩), Value.pointer (some ⟨b7, 0, none⟩), Value.bool false, Value.int .u16 r9.1, Value.int .u16 r9.2, Value.tuple #[Value.int .u16 r9.1, Value.int .u16 r9.2], Value.agg (([Value.int .i8 a1.f_Things, Value.int .i8 a1.f_Boat, v2] : List Value)).toArray, Value.agg (enc_S_impl_Bank a4).toArray, Value.tuple #[Value.int .u16 r9.1, Value.int .u16 r9.2], Value.int .u16 r9.1, Value.int .u16 r9.2, cnd (D 0) (Value.pointer (some ⟨b7, 0, none⟩)) (O 13), cnd (D 1) (Value.int .u16 a4.f_Near) (O 14), cnd (D 2) (Value.agg (([Value.int .i8 a1.f_Things, Value.int .i8 a1.f_Boat, v2] : List Value)).toArray) (O 15), cnd (D 3) (Value.int .u16 r10) (O 16), O 17, O 18, O 19, O 20, O 21, O 22] ∧ St w0 [Cells b7 (enc_S_impl_Bank a4) 70, Cells b5 (([Value.int .i8 a1.f_Things, Value.int .i8 a1.f_Boat, v2] : List Value)) 27] w) ?_ ⟨?_, ⟨?_, ⟨?_, ⟨?_, trivial⟩⟩⟩⟩ ?_
  · exact ⟨fun i => T.getD i undef, (by subst hT; rfl), hs⟩
  ·
   intro D t w hD hp hcl hI rest hk
   obtain ⟨O, ht, hs⟩ := hI
   have hp : AllDone D [] := hp
   have q1_ := ny hcl 1 0 hD
   simp only [hD, q1_, cq] at ht hs
   subst ht
   refine g_op (v := Value.pointer (some ⟨b7, 0, none⟩)) rfl rfl rfl ?_
   show G _ _ _ _ [_,_,_,_,_,_,_,_,_,_,_,_,_,_,_,_,_,_,_,_,_,_,_] _
   refine hk _ _ ⟨O, ?_, hs.cast ?_⟩ <;> simp only [lq, cq, Nat.reduceBEq, q1_]
  ·
   intro D t w hD hp hcl hI rest hk
   obtain ⟨O, ht, hs⟩ := hI
   have hp : AllDone D [0] := hp
   obtain ⟨p0_, _⟩ := hp
   simp only [hD, p0_, cq] at ht hs
   subst ht
   refine s_load1 rfl rfl (v := Value.int .u16 a4.f_Near) rfl rfl (fun _ => rfl) (cells_load (hs.cells 0 rfl) 0 1 rfl) ?_
   show G _ _ _ _ [_,_,_,_,_,_,_,_,_,_,_,_,_,_,_,_,_,_,_,_,_,_,_] _
   refine hk _ _ ⟨O, ?_, hs.cast ?_⟩ <;> simp only [lq, cq, Nat.reduceBEq, p0_]
  ·
   intro D t w hD hp hcl hI rest hk
   obtain ⟨O, ht, hs⟩ := hI
   have hp : AllDone D [] := hp
   have q3_ := ny hcl 3 0 hD
   simp only [hD, q3_, cq] at ht hs
   subst ht
   refine s_loadA rfl rfl (es := (([Value.int .i8 a1.f_Things, Value.int .i8 a1.f_Boat, v2] : List Value))) rfl rfl (fun _ => rfl) (n := 3) (fun _ => rfl) rfl (cells_all (hs.cells 1 rfl)) ?_
   show G _ _ _ _ [_,_,_,_,_,_,_,_,_,_,_,_,_,_,_,_,_,_,_,_,_,_,_] _
   refine hk _ _ ⟨O, ?_, hs.cast ?_⟩ <;> simp only [lq, cq, Nat.reduceBEq, q3_]
  ·
   intro D t w hD hp hcl hI rest hk
   obtain ⟨O, ht, hs⟩ := hI
   have hp : AllDone D [2] := hp
   obtain ⟨p2_, _⟩ := hp
   simp only [hD, p2_, cq] at ht hs
   subst ht
   refine s_call (args := [Value.agg (([Value.int .i8 a1.f_Things, Value.int .i8 a1.f_Boat, v2] : List Value)).toArray]) rfl rfl (x_call rfl (callFunc_enter Try.func27 rfl rfl) rfl) (_impl_Ferry_all.calls (a1 := (⟨a1.f_Things, a1.f_Boat, a1.f_Rules⟩ : S_impl_Ferry)) (hs.rd hr3) Hr10) ?_
   rintro _ w ⟨rfl, hs2⟩
   have hs : St _ [_,_] _ := hs.call hs2
   show G _ _ _ _ [_,_,_,_,_,_,_,_,_,_,_,_,_,_,_,_,_,_,_,_,_,_,_] _
   refine hk _ _ ⟨O, ?_, hs.cast ?_⟩ <;> simp only [lq, cq, Nat.reduceBEq, p2_]
  intro D t w rest hall hO1_ hI
  obtain ⟨O, ht, hs⟩ := hI
  have p0_ : D 0 = true := hall 0 (by decide) rfl
  have p1_ : D 1 = true := hall 1 (by decide) rfl
  have p2_ : D 2 = true := hall 2 (by decide) rfl
  have p3_ : D 3 = true := hall 3 (by decide) rfl
  simp only [p0_, p1_, p2_, p3_, cq] at ht hs
  subst ht
  obtain ⟨rest, rfl, hO2_⟩ := ord_one (m := 15) hO1_ rfl 4 (m' := 31) (by decide +kernel) rfl
  clear hO1_
  obtain ⟨r11, Hr11, H⟩ := bind_get H
  refine s_call (args := [Value.int .u16 a4.f_Near, Value.int .u16 r10]) rfl rfl (x_call rfl (callFunc_enter Try.func49 rfl rfl) rfl) (impl_inside.calls (a1 := a4.f_Near) (a2 := r10) Hr11) ?_
  rintro _ w ⟨rfl, hs2⟩
  have hs : St _ [_,_] _ := hs.call hs2
  cases r11 with
  | true =>
    rw [if_pos rfl] at H
    show G _ _ _ _ [_,_,_,_,_,_,_,_,_,_,_,_,_,_,_,_,_,_,_,_,_,_,_] _
    obtain ⟨rest, rfl, hO3_⟩ := ord_one (m := 31) hO2_ rfl 5 (m' := 63) (by decide +kernel) rfl
    clear hO2_
    refine g_op (v := Value.bool true) rfl rfl rfl ?_
    show G _ _ _ _ [_,_,_,_,_,_,_,_,_,_,_,_,_,_,_,_,_,_,_,_,_,_,_] _
    refine g_name ?_
    intro T hT
    refine g_layer (m0 := 63) hO3_ rfl 255 [6, 7] [0, 1, 0, 4, 15, 31, 63, 63, 255, 511, 1023] (by decide +kernel) (fun D t w => ∃ O : Nat → Value, t = [Value.agg (([Value.int .i8 a1.f_Things, Value.int .i8 a1.f_Boat, v2] : List Value)).toArray, Value.agg (enc_S_impl_Bank a4).toArray, Value.pointer (some ⟨b5, 0, none⟩), Value.pointer (some ⟨b7, 0, none⟩), Value.bool false, Value.int .u16 r9.1, Value.int .u16 r9.2, Value.tuple #[Value.int .u16 r9.1, Value.int .u16 r9.2], Value.agg (([Value.int .i8 a1.f_Things, Value.int .i8 a1.f_Boat, v2] : List Value)).toArray, Value.agg (enc_S_impl_Bank a4).toArray, Value.tuple #[Value.int .u16 r9.1, Value.int .u16 r9.2], Value.int .u16 r9.1, Value.int .u16 r9.2, Value.pointer (some ⟨b7, 0, none⟩), Value.int .u16 a4.f_Near, Value.agg (([Value.int .i8 a1.f_Things, Value.int .i8 a1.f_Boat, v2] : List Value)).toArray, Value.int .u16 r10, Value.bool true, Value.bool true, cnd (D 6) (Value.agg (([Value.int .i8 a1.f_Things, Value.int .i8 a1.f_Boat, v2] : List Value)).toArray) (O 19), cnd (D 7) (Value.int .u16 r9.2) (O 20), O 21, O 22] ∧ St w0 [Cells b7 (enc_S_impl_Bank a4) 70, Cells b5 (([Value.int .i8 a1.f_Things, Value.int .i8 a1.f_Boat, v2] : List Value)) 27] w) ?_ ⟨?_, ⟨?_, trivial⟩⟩ ?_
    · exact ⟨fun i => T.getD i undef, (by subst hT; rfl), hs⟩
    ·
     intro D t w hD hp hcl hI rest hk
     obtain ⟨O, ht, hs⟩ := hI
     have hp : AllDone D [5] := hp
     obtain ⟨p5_, _⟩ := hp
     simp only [hD, cq] at ht hs
     subst ht
     refine s_loadA rfl rfl (es := (([Value.int .i8 a1.f_Things, Value.int .i8 a1.f_Boat, v2] : List Value))) rfl rfl (fun _ => rfl) (n := 3) (fun _ => rfl) rfl (cells_all (hs.cells 1 rfl)) ?_
     show G _ _ _ _ [_,_,_,_,_,_,_,_,_,_,_,_,_,_,_,_,_,_,_,_,_,_,_] _
     refine hk _ _ ⟨O, ?_, hs.cast ?_⟩ <;> simp only [lq, cq, Nat.reduceBEq]
    ·
     intro D t w hD hp hcl hI rest hk
     obtain ⟨O, ht, hs⟩ := hI
     have hp : AllDone D [5] := hp
     obtain ⟨p5_, _⟩ := hp
     simp only [hD, cq] at ht hs
     subst ht
     refine g_op (v := Value.int .u16 r9.2) rfl rfl rfl ?_
     show G _ _ _ _ [_,_,_,_,_,_,_,_,_,_,_,_,_,_,_,_,_,_,_,_,_,_,_] _
     refine hk _ _ ⟨O, ?_, hs.cast ?_⟩ <;> simp only [lq, cq, Nat.reduceBEq]
    intro D t w rest hall hO4_ hI
    obtain ⟨O, ht, hs⟩ := hI
    have p6_ : D 6 = true := hall 6 (by decide) rfl
    have p7_ : D 7 = true := hall 7 (by decide) rfl
    simp only [p6_, p7_, cq] at ht hs
    subst ht
    obtain ⟨rest, rfl, hO5_⟩ := ord_one (m := 255) hO4_ rfl 8 (m' := 511) (by decide +kernel) rfl
    clear hO4_
    obtain ⟨r12, Hr12, H⟩ := bind_get H
    refine s_call (args := [Value.agg (([Value.int .i8 a1.f_Things, Value.int .i8 a1.f_Boat, v2] : List Value)).toArray, Value.int .u16 r9.2]) rfl rfl (x_call rfl (callFunc_enter Try.func34 rfl rfl) rfl) (_impl_Ferry_isSafe.calls (a1 := (⟨a1.f_Things, a1.f_Boat, a1.f_Rules⟩ : S_impl_Ferry)) (a4 := r9.2) (hs.rd hr3) Hr12) ?_
    rintro _ w ⟨rfl, hs2⟩
    have hs : St _ [_,_] _ := hs.call hs2
    show G _ _ _ _ [_,_,_,_,_,_,_,_,_,_,_,_,_,_,_,_,_,_,_,_,_,_,_] _
    obtain ⟨rest, rfl, hO6_⟩ := ord_one (m := 511) hO5_ rfl 9 (m' := 1023) (by decide +kernel) rfl
    clear hO5_
    refine g_op (v := Value.bool r12) rfl rfl rfl ?_
    show G _ _ _ _ [_,_,_,_,_,_,_,_,_,_,_,_,_,_,_,_,_,_,_,_,_,_,_] _
    obtain ⟨rest, rfl, hO7_⟩ := ord_one (m := 1023) hO6_ rfl 10 (m' := 2047) (by decide +kernel) rfl
    clear hO6_
    refine g_op (v := Value.bool r12) rfl rfl rfl ?_
    show G _ _ _ _ [_,_,_,_,_,_,_,_,_,_,_,_,_,_,_,_,_,_,_,_,_,_,_] _
    obtain rfl := ord_end hO7_ rfl (by decide +kernel)
    refine g_ops_nil ?_
    obtain rfl := Option.some.inj H
    refine g_ret Try.func67 (v := Value.bool r12) (res1 rfl rfl) ?_
    have hs : St _ [] _ := St.take (Γ' := [_,_]) hs
    exact ⟨_, rfl, rfl, hs⟩
  | false =>
    rw [if_neg Bool.false_ne_true] at H
    show G _ _ _ _ [_,_,_,_,_,_,_,_,_,_,_,_,_,_,_,_,_,_,_,_,_,_,_] _
    obtain ⟨rest, rfl, hO8_⟩ := ord_one (m := 31) hO2_ rfl 5 (m' := 63) (by decide +kernel) rfl
    clear hO2_
    refine g_op (v := Value.bool false) rfl rfl rfl ?_
    show G _ _ _ _ [_,_,_,_,_,_,_,_,_,_,_,_,_,_,_,_,_,_,_,_,_,_,_] _
    refine g_name ?_
    intro T hT
    refine g_layer (m0 := 63) hO8_ rfl 255 [6, 7] [0, 1, 0, 4, 15, 31, 63, 63, 255, 511, 1023] (by decide +kernel) (fun D t w => ∃ O : Nat → Value, t = [Value.agg (([Value.int .i8 a1.f_Things, Value.int .i8 a1.f_Boat, v2] : List Value)).toArray, Value.agg (enc_S_impl_Bank a4).toArray, Value.pointer (some ⟨b5, 0, none⟩), Value.pointer (some ⟨b7, 0, none⟩), Value.bool false, Value.int .u16 r9.1, Value.int .u16 r9.2, Value.tuple #[Value.int .u16 r9.1, Value.int .u16 r9.2], Value.agg (([Value.int .i8 a1.f_Things, Value.int .i8 a1.f_Boat, v2] : List Value)).toArray, Value.agg (enc_S_impl_Bank a4).toArray, Value.tuple #[Value.int .u16 r9.1, Value.int .u16 r9.2], Value.int .u16 r9.1, Value.int .u16 r9.2, Value.pointer (some ⟨b7, 0, none⟩), Value.int .u16 a4.f_Near, Value.agg (([Value.int .i8 a1.f_Things, Value.int .i8 a1.f_Boat, v2] : List Value)).toArray, Value.int .u16 r10, Value.bool false, Value.bool false, cnd (D 6) undef (O 19), cnd (D 7) undef (O 20), O 21, O 22] ∧ St w0 [Cells b7 (enc_S_impl_Bank a4) 70, Cells b5 (([Value.int .i8 a1.f_Things, Value.int .i8 a1.f_Boat, v2] : List Value)) 27] w) ?_ ⟨?_, ⟨?_, trivial⟩⟩ ?_
    · exact ⟨fun i => T.getD i undef, (by subst hT; rfl), hs⟩
    ·
     intro D t w hD hp hcl hI rest hk
     obtain ⟨O, ht, hs⟩ := hI
     have hp : AllDone D [5] := hp
     obtain ⟨p5_, _⟩ := hp
     simp only [hD, cq] at ht hs
     subst ht
     refine g_op_not rfl rfl ?_
     show G _ _ _ _ [_,_,_,_,_,_,_,_,_,_,_,_,_,_,_,_,_,_,_,_,_,_,_] _
     refine hk _ _ ⟨O, ?_, hs.cast ?_⟩ <;> simp only [cq, Nat.reduceBEq]
    ·
     intro D t w hD hp hcl hI rest hk
     obtain ⟨O, ht, hs⟩ := hI
     have hp : AllDone D [5] := hp
     obtain ⟨p5_, _⟩ := hp
     simp only [hD, cq] at ht hs
     subst ht
     refine g_op_not rfl rfl ?_
     show G _ _ _ _ [_,_,_,_,_,_,_,_,_,_,_,_,_,_,_,_,_,_,_,_,_,_,_] _
     refine hk _ _ ⟨O, ?_, hs.cast ?_⟩ <;> simp only [cq, Nat.reduceBEq]
    intro D t w rest hall hO9_ hI
    obtain ⟨O, ht, hs⟩ := hI
    have p6_ : D 6 = true := hall 6 (by decide) rfl
    have p7_ : D 7 = true := hall 7 (by decide) rfl
    simp only [p6_, p7_, cq] at ht hs
    subst ht
    obtain ⟨rest, rfl, hO10_⟩ := ord_one (m := 255) hO9_ rfl 8 (m' := 511) (by decide +kernel) rfl
    clear hO9_
    refine g_op_not rfl rfl ?_
    show G _ _ _ _ [_,_,_,_,_,_,_,_,_,_,_,_,_,_,_,_,_,_,_,_,_,_,_] _
    obtain ⟨rest, rfl, hO11_⟩ := ord_one (m := 511) hO10_ rfl 9 (m' := 1023) (by decide +kernel) rfl
    clear hO10_
    refine g_op (v := Value.bool false) rfl rfl rfl ?_
    show G _ _ _ _ [_,_,_,_,_,_,_,_,_,_,_,_,_,_,_,_,_,_,_,_,_,_,_] _
    obtain ⟨rest, rfl, hO12_⟩ := ord_one (m := 1023) hO11_ rfl 10 (m' := 2047) (by decide +kernel) rfl
    clear hO11_
    refine g_op (v := Value.bool false) rfl rfl rfl ?_
    show G _ _ _ _ [_,_,_,_,_,_,_,_,_,_,_,_,_,_,_,_,_,_,_,_,_,_,_] _
    obtain rfl := ord_end hO12_ rfl (by decide +kernel)
    refine g_ops_nil ?_
    obtain rfl := Option.some.inj H
    refine g_ret Try.func67 (v := Value.bool false) (res1 rfl rfl) ?_
    have hs : St _ [] _ := St.take (Γ' := [_,_]) hs
    exact ⟨_, rfl, rfl, hs⟩

/- function 56 impl_unless -/
def impl_unless.post (w0 : World) (r : Int) (v : Value) (w : World) : Prop := v = Value.int .i64 r ∧ St w0 [] w
set_option maxHeartbeats 8000000 in
set_option maxRecDepth 100000 in
theorem impl_unless.calls {N : Nat} {a1 : Bool} {a2 : Int} {w0 : World} {r : Int} (H : impl_unless.f N a1 a2 = some r) :
    Calls Try.prog 56 #[Value.bool a1, Value.int .i64 a2] w0 fun e w => ∃ v, e = .returned v ∧ impl_unless.post w0 r v w := by
  unfold impl_unless.f at H
  have hs : St w0 [] w0 := St.refl w0
  refine calls_of_g (n := 5) Try.func56 rfl rfl ?_
  show G _ _ _ _ [_,_,_,_,_,_,_] _
  refine g_seq (g_region ?_)
  show G _ _ _ (.inRegion _ [0] :: _) _ _
  refine g_op (v := Value.int .i64 0) rfl rfl rfl ?_
  show G _ _ _ _ [_,_,_,_,_,_,_] _
  refine g_ops_nil (g_seq (g_seq (g_region ?_)))
  show G _ _ _ (.inRegion _ [0] :: _) _ _
  refine g_op_b (B := a1) rfl rfl rfl ?_ ?_
  ·
   intro hb
   rw [if_pos (b_var_t hb)] at H
   show G _ _ _ _ [_,_,_,_,_,_,_] _
   refine g_ops_nil (g_cond_true rfl (g_seq (g_region ?_)))
   show G _ _ _ (.inRegion _ [0] :: _) _ _
   refine g_op (v := Value.int .i64 0) rfl rfl rfl ?_
   show G _ _ _ _ [_,_,_,_,_,_,_] _
   refine g_ops_nil ?_
   obtain rfl := Option.some.inj H
   refine g_ret Try.func56 (v := Value.int .i64 0) (res1 rfl rfl) ?_
   have hs : St _ [] _ := St.take (Γ' := []) hs
   exact ⟨_, rfl, rfl, hs⟩
  intro hb
  rw [if_neg (b_var_f hb)] at H
  show G _ _ _ _ [_,_,_,_,_,_,_] _
  refine g_ops_nil (g_cond_false rfl (g_skip (g_seq (g_region ?_))))
  show G _ _ _ (.inRegion _ [0, 1] :: _) _ _
  refine g_op (v := Value.int .i64 a2) rfl rfl rfl ?_
  show G _ _ _ _ [_,_,_,_,_,_,_] _
  refine g_op (v := Value.int .i64 a2) rfl rfl rfl ?_
  show G _ _ _ _ [_,_,_,_,_,_,_] _
  refine g_ops_nil ?_
  obtain rfl := Option.some.inj H
  refine g_ret Try.func56 (v := Value.int .i64 a2) (res1 rfl rfl) ?_
  have hs : St _ [] _ := St.take (Γ' := []) hs
  exact ⟨_, rfl, rfl, hs⟩

/- function 65 _impl_Ferry_crossCode -/
def _impl_Ferry_crossCode.post (w0 : World) (r : Int) (v : Value) (w : World) : Prop := v = Value.int .i64 r ∧ St w0 [] w
set_option maxHeartbeats 8000000 in
set_option maxRecDepth 100000 in
theorem _impl_Ferry_crossCode.calls {N : Nat} {a1 : S_impl_Ferry} {a4 : S_impl_Bank} {a5 : Int} {v2 : Value} {w0 : World} {r : Int} (hr3 : RdRow (K.int .u16) w0 v2 a1.f_Rules) (H : _impl_Ferry_crossCode.f N a1 a4 a5 = some r) :
    Calls Try.prog 65 #[Value.agg (([Value.int .i8 a1.f_Things, Value.int .i8 a1.f_Boat, v2] : List Value)).toArray, Value.agg (enc_S_impl_Bank a4).toArray, Value.int .u16 a5] w0 fun e w => ∃ v, e = .returned v ∧ _impl_Ferry_crossCode.post w0 r v w := by
  unfold _impl_Ferry_crossCode.f at H
  have hs : St w0 [] w0 := St.refl w0
  refine calls_of_g (n := 30) Try.func65 rfl rfl ?_
  show G _ _ _ _ [_,_,_,_,_,_,_,_,_,_,_,_,_,_,_,_,_,_,_,_,_,_,_,_,_,_,_,_,_,_,_,_,_] _
  refine g_seq (g_region ?_)
  show G _ _ _ (.inRegion _ [0, 1, 2] :: _) _ _
  refine s_box hs rfl rfl (cs := (([Value.int .i8 a1.f_Things, Value.int .i8 a1.f_Boat, v2] : List Value))) rfl rfl ?_
  intro b6 w hs
  show G _ _ _ _ [_,_,_,_,_,_,_,_,_,_,_,_,_,_,_,_,_,_,_,_,_,_,_,_,_,_,_,_,_,_,_,_,_] _
  refine s_box hs rfl rfl (cs := (enc_S_impl_Bank a4)) rfl rfl ?_
  intro b8 w hs
  show G _ _ _ _ [_,_,_,_,_,_,_,_,_,_,_,_,_,_,_,_,_,_,_,_,_,_,_,_,_,_,_,_,_,_,_,_,_] _
  refine g_op (v := Value.int .i64 0) rfl rfl rfl ?_
  show G _ _ _ _ [_,_,_,_,_,_,_,_,_,_,_,_,_,_,_,_,_,_,_,_,_,_,_,_,_,_,_,_,_,_,_,_,_] _
  refine g_ops_nil (g_seq (g_region ?_))
  show G _ _ _ (.inRegion _ [0, 1, 2, 3, 4, 5, 6, 7] :: _) _ _
  refine s_loadA rfl rfl (es := (([Value.int .i8 a1.f_Things, Value.int .i8 a1.f_Boat, v2] : List Value))) rfl rfl (fun _ => rfl) (n := 3) (fun _ => rfl) rfl (cells_all (hs.cells 1 rfl)) ?_
  show G _ _ _ _ [_,_,_,_,_,_,_,_,_,_,_,_,_,_,_,_,_,_,_,_,_,_,_,_,_,_,_,_,_,_,_,_,_] _
  refine s_loadA rfl rfl (es := (enc_S_impl_Bank a4)) rfl rfl (fun _ => rfl) (n := 2) (fun _ => rfl) (fk_S_impl_Bank.len _) (cells_all (hs.cells 0 rfl)) ?_
  show G _ _ _ _ [_,_,_,_,_,_,_,_,_,_,_,_,_,_,_,_,_,_,_,_,_,_,_,_,_,_,_,_,_,_,_,_,_] _
  obtain ⟨r10, Hr10, H⟩ := bind_get H
  refine s_call (args := [Value.agg (([Value.int .i8 a1.f_Things, Value.int .i8 a1.f_Boat, v2] : List Value)).toArray, Value.agg (enc_S_impl_Bank a4).toArray]) rfl rfl (x_call rfl (callFunc_enter Try.func66 rfl rfl) rfl) (_impl_Ferry_sides.calls (a1 := (⟨a1.f_Things, a1.f_Boat, a1.f_Rules⟩ : S_impl_Ferry)) (a4 := a4) (hs.rd hr3) Hr10) ?_
  rintro _ w ⟨rfl, hs2⟩
  have hs : St _ [_,_] _ := hs.call hs2
  show G _ _ _ _ [_,_,_,_,_,_,_,_,_,_,_,_,_,_,_,_,_,_,_,_,_,_,_,_,_,_,_,_,_,_,_,_,_] _
  refine g_op (v := Value.tuple #[Value.int .u16 r10.1, Value.int .u16 r10.2]) rfl rfl rfl ?_
  refine g_op (v := Value.int .u16 r10.1) rfl rfl rfl ?_
  refine g_op (v := Value.int .u16 r10.2) rfl rfl rfl ?_
  refine g_op (v := Value.int .u16 r10.1) rfl rfl rfl ?_
  show G _ _ _ _ [_,_,_,_,_,_,_,_,_,_,_,_,_,_,_,_,_,_,_,_,_,_,_,_,_,_,_,_,_,_,_,_,_] _
  refine g_op (v := Value.int .u16 r10.2) rfl rfl rfl ?_
  show G _ _ _ _ [_,_,_,_,_,_,_,_,_,_,_,_,_,_,_,_,_,_,_,_,_,_,_,_,_,_,_,_,_,_,_,_,_] _
  refine g_ops_nil (g_seq ?_)
  refine g_block (g_seq (g_region ?_))
  show G _ _ _ (.inRegion _ [0, 1, 2, 3, 4] :: _) _ _
  refine g_op (v := Value.int .u16 a5) rfl rfl rfl ?_
  refine g_op (v := Value.int .u16 r10.1) rfl rfl rfl ?_
  obtain ⟨r11, Hr11, H⟩ := bind_get H
  refine s_call (args := [Value.int .u16 a5, Value.int .u16 r10.1]) rfl rfl (x_call rfl (callFunc_enter Try.func49 rfl rfl) rfl) (impl_inside.calls (a1 := a5) (a2 := r10.1) Hr11) ?_
  rintro _ w ⟨rfl, hs2⟩
  have hs : St _ [_,_] _ := hs.call hs2
  cases r11 with
  | true =>
    rw [if_pos rfl] at H
    show G _ _ _ _ [_,_,_,_,_,_,_,_,_,_,_,_,_,_,_,_,_,_,_,_,_,_,_,_,_,_,_,_,_,_,_,_,_] _
    refine g_op (v := Value.bool false) rfl rfl rfl ?_
    show G _ _ _ _ [_,_,_,_,_,_,_,_,_,_,_,_,_,_,_,_,_,_,_,_,_,_,_,_,_,_,_,_,_,_,_,_,_] _
    refine g_op (v := Value.bool false) rfl rfl rfl ?_
    show G _ _ _ _ [_,_,_,_,_,_,_,_,_,_,_,_,_,_,_,_,_,_,_,_,_,_,_,_,_,_,_,_,_,_,_,_,_] _
    refine g_ops_nil (g_cond_false rfl (g_seq ?_))
    refine g_lay (n := 7) rfl [0, 1, 2, 3, 4, 5, 6] [0, 1, 2, 3, 4, 5, 6] rfl rfl ?_
    intro rest w hh hbw hO
    have hs := hs.samew hh hbw
    show G _ _ _ _ [_,_,_,_,_,_,_,_,_,_,_,_,_,_,_,_,_,_,_,_,_,_,_,_,_,_,_,_,_,_,_,_,_] _
    obtain ⟨r12, Hr12, H⟩ := bind_get H
    refine g_name ?_
    intro T hT
    refine g_layer (m0 := 0) hO rfl 31 [0, 1, 2, 3, 4] [0, 1, 0, 4, 12, 31, 63] (by decide +kernel) (fun D t w => ∃ O : Nat → Value, t = [Value.agg (([Value.int .i8 a1.f_Things, Value.int .i8 a1.f_Boat, v2] : List Value)).toArray, Value.agg (enc_S_impl_Bank a4).toArray, Value.int .u16 a5, Value.pointer (some ⟨b6, 0, none⟩), Value.pointer (some ⟨b8, 0, none⟩), O 5, Value.int .i64 0, Value.int .u16 r10.1, Value.int .u16 r10.2, Value.tuple #[Value.int .u16 r10.1, Value.int .u16 r10.2], Value.agg (([Value.int .i8 a1.f_Things, Value.int .i8 a1.f_Boat, v2] : List Value)).toArray, Value.agg (enc_S_impl_Bank a4).toArray, Value.tuple #[Value.int .u16 r10.1, Value.int .u16 r10.2], Value.int .u16 r10.1, Value.int .u16 r10.2, Value.bool false, Value.int .u16 a5, Value.int .u16 r10.1, Value.bool true, Value.bool false, O 20, cnd (D 0) (Value.int .u16 a5) (O 21), cnd (D 1) (Value.int .i64 r12) (O 22), cnd (D 2) (Value.pointer (some ⟨b6, 1, none⟩)) (O 23), cnd (D 3) (Value.int .i8 a1.f_Boat) (O 24), cnd (D 4) (Value.int .i64 (i64w a1.f_Boat)) (O 25), O 26, O 27, O 28, O 29, O 30, O 31, O 32] ∧ St w0 [Cells b8 (enc_S_impl_Bank a4) 70, Cells b6 (([Value.int .i8 a1.f_Things, Value.int .i8 a1.f_Boat, v2] : List Value)) 27] w) ?_ ⟨?_, ⟨?_, ⟨?_, ⟨?_, ⟨?_, trivial⟩⟩⟩⟩⟩ ?_
    · exact ⟨fun i => T.getD i undef, (by subst hT; rfl), hs⟩
    ·
     intro D t w hD hp hcl hI rest hk
     obtain ⟨O, ht, hs⟩ := hI
     have hp : AllDone D [] := hp
     have q1_ := ny hcl 1 0 hD
     simp only [hD, q1_, cq] at ht hs
     subst ht
     refine g_op (v := Value.int .u16 a5) rfl rfl rfl ?_
     show G _ _ _ _ [_,_,_,_,_,_,_,_,_,_,_,_,_,_,_,_,_,_,_,_,_,_,_,_,_,_,_,_,_,_,_,_,_] _
     refine hk _ _ ⟨O, ?_, hs.cast ?_⟩ <;> simp only [lq, cq, Nat.reduceBEq, q1_]
    ·
     intro D t w hD hp hcl hI rest hk
     obtain ⟨O, ht, hs⟩ := hI
     have hp : AllDone D [0] := hp
     obtain ⟨p0_, _⟩ := hp
     simp only [hD, p0_, cq] at ht hs
     subst ht
     refine s_call (args := [Value.int .u16 a5]) rfl rfl (x_call rfl (callFunc_enter Try.func29 rfl rfl) rfl) (bits_OnesCount16.calls (a1 := a5) Hr12) ?_
     rintro _ w ⟨rfl, hs2⟩
     have hs : St _ [_,_] _ := hs.call hs2
     show G _ _ _ _ [_,_,_,_,_,_,_,_,_,_,_,_,_,_,_,_,_,_,_,_,_,_,_,_,_,_,_,_,_,_,_,_,_] _
     refine hk _ _ ⟨O, ?_, hs.cast ?_⟩ <;> simp only [lq, cq, Nat.reduceBEq, p0_]
    ·
     intro D t w hD hp hcl hI rest hk
     obtain ⟨O, ht, hs⟩ := hI
     have hp : AllDone D [] := hp
     have q3_ := ny hcl 3 0 hD
     have q4_ := ny hcl 4 0 q3_
     simp only [hD, q3_, q4_, cq] at ht hs
     subst ht
     refine g_op (v := Value.pointer (some ⟨b6, 1, none⟩)) rfl rfl rfl ?_
     show G _ _ _ _ [_,_,_,_,_,_,_,_,_,_,_,_,_,_,_,_,_,_,_,_,_,_,_,_,_,_,_,_,_,_,_,_,_] _
     refine hk _ _ ⟨O, ?_, hs.cast ?_⟩ <;> simp only [lq, cq, Nat.reduceBEq, q3_, q4_]
    ·
     intro D t w hD hp hcl hI rest hk
     obtain ⟨O, ht, hs⟩ := hI
     have hp : AllDone D [2] := hp
     obtain ⟨p2_, _⟩ := hp
     have q4_ := ny hcl 4 0 hD
     simp only [hD, p2_, q4_, cq] at ht hs
     subst ht
     refine s_load1 rfl rfl (v := Value.int .i8 a1.f_Boat) rfl rfl (fun _ => rfl) (cells_load (hs.cells 1 rfl) 1 1 rfl) ?_
     show G _ _ _ _ [_,_,_,_,_,_,_,_,_,_,_,_,_,_,_,_,_,_,_,_,_,_,_,_,_,_,_,_,_,_,_,_,_] _
     refine hk _ _ ⟨O, ?_, hs.cast ?_⟩ <;> simp only [lq, cq, Nat.reduceBEq, p2_, q4_]
    ·
     intro D t w hD hp hcl hI rest hk
     obtain ⟨O, ht, hs⟩ := hI
     have hp : AllDone D [3] := hp
     obtain ⟨p3_, _⟩ := hp
     obtain ⟨p2_, _⟩ := (show D 3 = true → AllDone D [2] from hcl 3 (by decide)) p3_
     simp only [hD, p2_, p3_, cq] at ht hs
     subst ht
     refine g_op (v := Value.int .i64 (i64w a1.f_Boat)) rfl rfl rfl ?_
     show G _ _ _ _ [_,_,_,_,_,_,_,_,_,_,_,_,_,_,_,_,_,_,_,_,_,_,_,_,_,_,_,_,_,_,_,_,_] _
     refine hk _ _ ⟨O, ?_, hs.cast ?_⟩ <;> simp only [lq, cq, Nat.reduceBEq, p2_, p3_]
    intro D t w rest hall hO1_ hI
    obtain ⟨O, ht, hs⟩ := hI
    have p0_ : D 0 = true := hall 0 (by decide) rfl
    have p1_ : D 1 = true := hall 1 (by decide) rfl
    have p2_ : D 2 = true := hall 2 (by decide) rfl
    have p3_ : D 3 = true := hall 3 (by decide) rfl
    have p4_ : D 4 = true := hall 4 (by decide) rfl
    simp only [p0_, p1_, p2_, p3_, p4_, cq] at ht hs
    subst ht
    obtain ⟨rest, rfl, hO2_⟩ := ord_one (m := 31) hO1_ rfl 5 (m' := 63) (by decide +kernel) rfl
    clear hO1_
    refine g_op_b (B := decide (r12 > (i64w a1.f_Boat))) rfl rfl rfl ?_ ?_
    ·
     intro hb
     rw [if_pos (b_dec_t hb)] at H
     show G _ _ _ _ [_,_,_,_,_,_,_,_,_,_,_,_,_,_,_,_,_,_,_,_,_,_,_,_,_,_,_,_,_,_,_,_,_] _
     obtain ⟨rest, rfl, hO3_⟩ := ord_one (m := 63) hO2_ rfl 6 (m' := 127) (by decide +kernel) rfl
     clear hO2_
     refine g_op (v := Value.bool true) rfl rfl rfl ?_
     show G _ _ _ _ [_,_,_,_,_,_,_,_,_,_,_,_,_,_,_,_,_,_,_,_,_,_,_,_,_,_,_,_,_,_,_,_,_] _
     obtain rfl := ord_end hO3_ rfl (by decide +kernel)
     refine g_ops_nil (g_cond_true rfl (g_seq (g_region ?_)))
     show G _ _ _ (.inRegion _ [0] :: _) _ _
     refine g_op (v := Value.int .i64 3) rfl rfl rfl ?_
     show G _ _ _ _ [_,_,_,_,_,_,_,_,_,_,_,_,_,_,_,_,_,_,_,_,_,_,_,_,_,_,_,_,_,_,_,_,_] _
     refine g_ops_nil ?_
     obtain rfl := Option.some.inj H
     refine g_ret Try.func65 (v := Value.int .i64 3) (res1 rfl rfl) ?_
     have hs : St _ [] _ := St.take (Γ' := [_,_]) hs
     exact ⟨_, rfl, rfl, hs⟩
    intro hb
    rw [if_neg (b_dec_f hb)] at H
    show G _ _ _ _ [_,_,_,_,_,_,_,_,_,_,_,_,_,_,_,_,_,_,_,_,_,_,_,_,_,_,_,_,_,_,_,_,_] _
    obtain ⟨rest, rfl, hO4_⟩ := ord_one (m := 63) hO2_ rfl 6 (m' := 127) (by decide +kernel) rfl
    clear hO2_
    refine g_op (v := Value.bool false) rfl rfl rfl ?_
    show G _ _ _ _ [_,_,_,_,_,_,_,_,_,_,_,_,_,_,_,_,_,_,_,_,_,_,_,_,_,_,_,_,_,_,_,_,_] _
    obtain rfl := ord_end hO4_ rfl (by decide +kernel)
    refine g_ops_nil (g_cond_false rfl (g_skip ?_))
    refine g_inBlock (g_seq ?_)
    obtain ⟨r13, Hr13, H⟩ := bind_get H
    obtain ⟨r14, Hr14, H⟩ := bind_get H
    obtain ⟨r15, Hr15, H⟩ := bind_get H
    refine g_name ?_
    intro T hT
    refine g_any (n := 7) rfl [0, 1, 2, 3, 4, 5, 6] [0, 1, 2, 3, 4, 5, 6] rfl rfl (Inv := fun D t w => ∃ O : Nat → Value, t = [Value.agg (([Value.int .i8 a1.f_Things, Value.int .i8 a1.f_Boat, v2] : List Value)).toArray, Value.agg (enc_S_impl_Bank a4).toArray, Value.int .u16 a5, Value.pointer (some ⟨b6, 0, none⟩), Value.pointer (some ⟨b8, 0, none⟩), O 5, cnd (D 6) (Value.int .i64 r15) (Value.int .i64 0), Value.int .u16 r10.1, Value.int .u16 r10.2, Value.tuple #[Value.int .u16 r10.1, Value.int .u16 r10.2], Value.agg (([Value.int .i8 a1.f_Things, Value.int .i8 a1.f_Boat, v2] : List Value)).toArray, Value.agg (enc_S_impl_Bank a4).toArray, Value.tuple #[Value.int .u16 r10.1, Value.int .u16 r10.2], Value.int .u16 r10.1, Value.int .u16 r10.2, Value.bool false, Value.int .u16 a5, Value.int .u16 r10.1, Value.bool true, Value.bool false, Value.bool false, Value.int .u16 a5, Value.int .i64 r12, Value.pointer (some ⟨b6, 1, none⟩), Value.int .i8 a1.f_Boat, Value.int .i64 (i64w a1.f_Boat), Value.bool false, cnd (D 0) (Value.agg (([Value.int .i8 a1.f_Things, Value.int .i8 a1.f_Boat, v2] : List Value)).toArray) (O 27), cnd (D 1) (Value.agg (enc_S_impl_Bank a4).toArray) (O 28), cnd (D 2) (Value.int .u16 a5) (O 29), cnd (D 3) (Value.agg (enc_S_impl_Bank r13).toArray) (O 30), cnd (D 4) (Value.bool r14) (O 31), cnd (D 5) (Value.int .i64 r15) (O 32)] ∧ St w0 [Cells b8 (enc_S_impl_Bank a4) 70, Cells b6 (([Value.int .i8 a1.f_Things, Value.int .i8 a1.f_Boat, v2] : List Value)) 27] w) ?_ ⟨⟨⟨⟨⟨⟨⟨trivial, ?_⟩, ?_⟩, ?_⟩, ?_⟩, ?_⟩, ?_⟩, ?_⟩ ?_
    ·
     intro w hh hbw
     have hs := hs.samew hh hbw
     exact ⟨fun i => T.getD i undef, (by subst hT; rfl), hs⟩
    ·
     intro D t w hD hp hcl hI rest hk
     obtain ⟨O, ht, hs⟩ := hI
     have q4_ := nz hcl 4 0 hD
     have q5_ := nz hcl 5 0 q4_
     have q6_ := nz hcl 6 0 q5_
     simp only [hD, q4_, q5_, q6_, cq] at ht hs
     subst ht
     refine s_loadA rfl rfl (es := (([Value.int .i8 a1.f_Things, Value.int .i8 a1.f_Boat, v2] : List Value))) rfl rfl (fun _ => rfl) (n := 3) (fun _ => rfl) rfl (cells_all (hs.cells 1 rfl)) ?_
     show G _ _ _ _ [_,_,_,_,_,_,_,_,_,_,_,_,_,_,_,_,_,_,_,_,_,_,_,_,_,_,_,_,_,_,_,_,_] _
     refine hk _ _ ⟨O, ?_, hs.cast ?_⟩ <;> simp only [lq, cq, Nat.reduceBEq, q4_, q5_, q6_]
    ·
     intro D t w hD hp hcl hI rest hk
     obtain ⟨O, ht, hs⟩ := hI
     have q3_ := nz hcl 3 0 hD
     have q4_ := nz hcl 4 1 q3_
     have q5_ := nz hcl 5 0 q4_
     have q6_ := nz hcl 6 0 q5_
     simp only [hD, q3_, q4_, q5_, q6_, cq] at ht hs
     subst ht
     refine s_loadA rfl rfl (es := (enc_S_impl_Bank a4)) rfl rfl (fun _ => rfl) (n := 2) (fun _ => rfl) (fk_S_impl_Bank.len _) (cells_all (hs.cells 0 rfl)) ?_
     show G _ _ _ _ [_,_,_,_,_,_,_,_,_,_,_,_,_,_,_,_,_,_,_,_,_,_,_,_,_,_,_,_,_,_,_,_,_] _
     refine hk _ _ ⟨O, ?_, hs.cast ?_⟩ <;> simp only [lq, cq, Nat.reduceBEq, q3_, q4_, q5_, q6_]
    ·
     intro D t w hD hp hcl hI rest hk
     obtain ⟨O, ht, hs⟩ := hI
     have q3_ := nz hcl 3 1 hD
     have q4_ := nz hcl 4 1 q3_
     have q5_ := nz hcl 5 0 q4_
     have q6_ := nz hcl 6 0 q5_
     simp only [hD, q3_, q4_, q5_, q6_, cq] at ht hs
     subst ht
     refine g_op (v := Value.int .u16 a5) rfl rfl rfl ?_
     show G _ _ _ _ [_,_,_,_,_,_,_,_,_,_,_,_,_,_,_,_,_,_,_,_,_,_,_,_,_,_,_,_,_,_,_,_,_] _
     refine hk _ _ ⟨O, ?_, hs.cast ?_⟩ <;> simp only [lq, cq, Nat.reduceBEq, q3_, q4_, q5_, q6_]
    ·
     intro D t w hD hp hcl hI rest hk
     obtain ⟨O, ht, hs⟩ := hI
     obtain ⟨p1_, p2_, _⟩ := hp
     have q4_ := nz hcl 4 1 hD
     have q5_ := nz hcl 5 0 q4_
     have q6_ := nz hcl 6 0 q5_
     simp only [hD, p1_, p2_, q4_, q5_, q6_, cq] at ht hs
     subst ht
     refine s_call (args := [Value.agg (enc_S_impl_Bank a4).toArray, Value.int .u16 a5]) rfl rfl (x_call rfl (callFunc_enter Try.func59 rfl rfl) rfl) (impl_crossed.calls (a1 := a4) (a2 := a5) Hr13) ?_
     rintro _ w ⟨rfl, hs2⟩
     have hs : St _ [_,_] _ := hs.call hs2
     show G _ _ _ _ [_,_,_,_,_,_,_,_,_,_,_,_,_,_,_,_,_,_,_,_,_,_,_,_,_,_,_,_,_,_,_,_,_] _
     refine hk _ _ ⟨O, ?_, hs.cast ?_⟩ <;> simp only [lq, cq, Nat.reduceBEq, p1_, p2_, q4_, q5_, q6_]
    ·
     intro D t w hD hp hcl hI rest hk
     obtain ⟨O, ht, hs⟩ := hI
     obtain ⟨p0_, p3_, _, _⟩ := hp
     obtain ⟨p1_, p2_, _⟩ := (hcl.get 3 (by decide)) p3_
     have q5_ := nz hcl 5 0 hD
     have q6_ := nz hcl 6 0 q5_
     simp only [hD, p0_, p1_, p2_, p3_, q5_, q6_, cq] at ht hs
     subst ht
     refine s_call (args := [Value.agg (([Value.int .i8 a1.f_Things, Value.int .i8 a1.f_Boat, v2] : List Value)).toArray, Value.agg (enc_S_impl_Bank r13).toArray]) rfl rfl (x_call rfl (callFunc_enter Try.func67 rfl rfl) rfl) (_impl_Ferry_isBank.calls (a1 := (⟨a1.f_Things, a1.f_Boat, a1.f_Rules⟩ : S_impl_Ferry)) (a4 := r13) (hs.rd hr3) Hr14) ?_
     rintro _ w ⟨rfl, hs2⟩
     have hs : St _ [_,_] _ := hs.call hs2
     show G _ _ _ _ [_,_,_,_,_,_,_,_,_,_,_,_,_,_,_,_,_,_,_,_,_,_,_,_,_,_,_,_,_,_,_,_,_] _
     refine hk _ _ ⟨O, ?_, hs.cast ?_⟩ <;> simp only [lq, cq, Nat.reduceBEq, p0_, p1_, p2_, p3_, q5_, q6_]
    ·
     intro D t w hD hp hcl hI rest hk
     obtain ⟨O, ht, hs⟩ := hI
     obtain ⟨p4_, _, _⟩ := hp
     obtain ⟨p0_, p3_, _, _⟩ := (hcl.get 4 (by decide)) p4_
     obtain ⟨p1_, p2_, _⟩ := (hcl.get 3 (by decide)) p3_
     have q6_ := nz hcl 6 0 hD
     simp only [hD, p0_, p1_, p2_, p3_, p4_, q6_, cq] at ht hs
     subst ht
     refine s_call (args := [Value.bool r14, Value.int .i64 4]) rfl rfl (x_call rfl (callFunc_enter Try.func56 rfl rfl) rfl) (impl_unless.calls (a1 := r14) (a2 := 4) Hr15) ?_
     rintro _ w ⟨rfl, hs2⟩
     have hs : St _ [_,_] _ := hs.call hs2
     show G _ _ _ _ [_,_,_,_,_,_,_,_,_,_,_,_,_,_,_,_,_,_,_,_,_,_,_,_,_,_,_,_,_,_,_,_,_] _
     refine hk _ _ ⟨O, ?_, hs.cast ?_⟩ <;> simp only [lq, cq, Nat.reduceBEq, p0_, p1_, p2_, p3_, p4_, q6_]
    ·
     intro D t w hD hp hcl hI rest hk
     obtain ⟨O, ht, hs⟩ := hI
     obtain ⟨p5_, _, p0_, p1_, p2_, p3_, p4_, _, _⟩ := hp
     simp only [hD, p0_, p1_, p2_, p3_, p4_, p5_, cq] at ht hs
     subst ht
     refine g_op (v := Value.int .i64 r15) rfl rfl rfl ?_
     show G _ _ _ _ [_,_,_,_,_,_,_,_,_,_,_,_,_,_,_,_,_,_,_,_,_,_,_,_,_,_,_,_,_,_,_,_,_] _
     refine hk _ _ ⟨O, ?_, hs.cast ?_⟩ <;> simp only [lq, cq, Nat.reduceBEq, p0_, p1_, p2_, p3_, p4_, p5_]
    intro D t w hall hI
    obtain ⟨O, ht, hs⟩ := hI
    have p0_ : D 0 = true := hall 0 (by decide)
    have p1_ : D 1 = true := hall 1 (by decide)
    have p2_ : D 2 = true := hall 2 (by decide)
    have p3_ : D 3 = true := hall 3 (by decide)
    have p4_ : D 4 = true := hall 4 (by decide)
    have p5_ : D 5 = true := hall 5 (by decide)
    have p6_ : D 6 = true := hall 6 (by decide)
    simp only [p0_, p1_, p2_, p3_, p4_, p5_, p6_, cq] at ht hs
    subst ht
    obtain rfl := Option.some.inj H
    refine g_ret Try.func65 (v := Value.int .i64 r15) (res1 rfl rfl) ?_
    have hs : St _ [] _ := St.take (Γ' := [_,_]) hs
    exact ⟨_, rfl, rfl, hs⟩
  | false =>
    rw [if_neg Bool.false_ne_true] at H
    show G _ _ _ _ [_,_,_,_,_,_,_,_,_,_,_,_,_,_,_,_,_,_,_,_,_,_,_,_,_,_,_,_,_,_,_,_,_] _
    refine g_op (v := Value.bool true) rfl rfl rfl ?_
    show G _ _ _ _ [_,_,_,_,_,_,_,_,_,_,_,_,_,_,_,_,_,_,_,_,_,_,_,_,_,_,_,_,_,_,_,_,_] _
    refine g_op (v := Value.bool true) rfl rfl rfl ?_
    show G _ _ _ _ [_,_,_,_,_,_,_,_,_,_,_,_,_,_,_,_,_,_,_,_,_,_,_,_,_,_,_,_,_,_,_,_,_] _
    refine g_ops_nil (g_cond_true rfl (g_seq (g_region ?_)))
    show G _ _ _ (.inRegion _ [0] :: _) _ _
    refine g_op (v := Value.int .i64 2) rfl rfl rfl ?_
    show G _ _ _ _ [_,_,_,_,_,_,_,_,_,_,_,_,_,_,_,_,_,_,_,_,_,_,_,_,_,_,_,_,_,_,_,_,_] _
    refine g_ops_nil ?_
    obtain rfl := Option.some.inj H
    refine g_ret Try.func65 (v := Value.int .i64 2) (res1 rfl rfl) ?_
    have hs : St _ [] _ := St.take (Γ' := [_,_]) hs
    exact ⟨_, rfl, rfl, hs⟩

end Go.Proofs.YtcaokmnajnfpiaaX
