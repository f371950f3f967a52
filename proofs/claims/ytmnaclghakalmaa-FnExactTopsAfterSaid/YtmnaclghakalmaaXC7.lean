/- Contracts, printed by gen.py. -/
import Derived.Test.YtmnaclghakalmaaXT
import Derived.Test.YtmnaclghakalmaaProg
import Derived.Test.YtmnaclghakalmaaXRowR
import Derived.Test.YtmnaclghakalmaaXSq
import Derived.Test.YtmnaclghakalmaaXSeg
import Derived.Test.YtmnaclghakalmaaXKey
import Derived.Test.YtmnaclghakalmaaXIter
import Derived.Test.YtmnaclghakalmaaXRow2
import Derived.Test.YtmnaclghakalmaaXEla
import Derived.Test.YtmnaclghakalmaaTCX
import Derived.Test.YtmnaclghakalmaaXC6
namespace Go.Proofs.YtmnaclghakalmaaX
open Go Go.RowKit Go.Proofs
set_option linter.unusedVariables false
set_option linter.unusedSimpArgs false
/- function 64 slices_IndexFunc_impl_Glasses_int16_at_impl_ValidGlasses_1 -/
def slices_IndexFunc_impl_Glasses_int16_at_impl_ValidGlasses_1.post (w0 : World) (r : Int) (v : Value) (w : World) : Prop := v = Value.int .i64 r ∧ St w0 [] w
set_option maxHeartbeats 8000000 in
set_option maxRecDepth 100000 in
theorem slices_IndexFunc_impl_Glasses_int16_at_impl_ValidGlasses_1.calls {N : Nat} {a1 : (List Int)} {v2 : Value} {w0 : World} {r : Int} (hr0 : RdRow (K.int .i16) w0 v2 a1) (H : slices_IndexFunc_impl_Glasses_int16_at_impl_ValidGlasses_1.f N a1 = some r) :
    Calls Try.prog 64 #[v2, Value.func (Fn.func 57) #[] #[]] w0 fun e w => ∃ v, e = .returned v ∧ slices_IndexFunc_impl_Glasses_int16_at_impl_ValidGlasses_1.post w0 r v w := by
  unfold slices_IndexFunc_impl_Glasses_int16_at_impl_ValidGlasses_1.f at H
  have hs : St w0 [] w0 := St.refl w0
  refine calls_of_g (n := 17) Try.func64 rfl rfl ?_
  show G _ _ _ _ [_,_,_,_,_,_,_,_,_,_,_,_,_,_,_,_,_,_,_] _
  refine g_seq (g_rg [0] rfl ?_)
  refine g_op (v := Value.int .i64 0) rfl rfl rfl (g_ops_nil (g_seq (g_seq (g_rg [0, 1, 2] rfl ?_))))
  refine g_op (v := v2) rfl rfl rfl ?_
  show G _ _ _ _ [_,_,_,_,_,_,_,_,_,_,_,_,_,_,_,_,_,_,_] _
  refine s_len (hs.rd hr0) rfl rfl rfl rfl rfl ?_
  refine g_op (v := Value.int .i64 0) rfl rfl rfl (g_ops_nil ?_)
  obtain ⟨o1_, Ho, Hr1_⟩ := bind_get H
  refine g_block_join (J := fun t w => slices_IndexFunc_impl_Glasses_int16_at_impl_ValidGlasses_1.a0 N = some r ∧ Fr t (fun O => ([O 0, O 1, O 2, O 3, O 4, O 5, O 6, O 7, O 8, O 9, O 10, O 11, O 12, O 13, O 14, O 15, O 16, O 17, O 18] : List Value)) ∧ St w0 [] w) ?_ ?_
  ·
   rintro t w ⟨H, hf, hs⟩
   obtain ⟨O, rfl⟩ := hf.open
   show G _ _ _ _ [_,_,_,_,_,_,_,_,_,_,_,_,_,_,_,_,_,_,_] _
   unfold slices_IndexFunc_impl_Glasses_int16_at_impl_ValidGlasses_1.a0 at H
   refine g_seq (g_rg [0] rfl ?_)
   refine g_op (v := Value.int .i64 (-1)) rfl rfl rfl ?_
   show G _ _ _ _ [_,_,_,_,_,_,_,_,_,_,_,_,_,_,_,_,_,_,_] _
   refine g_ops_nil ?_
   obtain rfl := Option.some.inj H
   refine g_ret Try.func64 (v := Value.int .i64 (-1)) (res1 rfl rfl) ?_
   have hs : St _ [] _ := St.take (Γ' := []) hs
   exact ⟨_, rfl, rfl, hs⟩
  intro ha1_
  have hs : St _ [] _ := St.take (Γ' := []) hs
  refine g_loop_fuel (I := fun n_ t w => ∃ x3 : Int, rounds (fun s => slices_IndexFunc_impl_Glasses_int16_at_impl_ValidGlasses_1.b0 N a1 s) n_ x3 = some o1_ ∧ Fr t (fun O => ([v2, Value.func (Fn.func 57) #[] #[], O 2, O 3, O 4, O 5, O 6, Value.int .i64 (a1.length : Int), Value.int .i64 x3, O 9, O 10, O 11, O 12, O 13, O 14, O 15, O 16, O 17, O 18] : List Value)) ∧ St w0 [] w) N ⟨0, Ho, rfl, hs⟩ ?_ ?_
  ·
   rintro _ _ ⟨x3, h, _⟩
   exact rounds_zero h
  intro n_ ih1_
  rintro t w ⟨x3, Ho, hf, hs⟩
  obtain ⟨O, rfl⟩ := hf.open
  show G _ _ _ _ [_,_,_,_,_,_,_,_,_,_,_,_,_,_,_,_,_,_,_] _
  obtain ⟨x2_, H, Hx1_⟩ := rounds_succ Ho
  have H : slices_IndexFunc_impl_Glasses_int16_at_impl_ValidGlasses_1.b0 N a1 x3 = some x2_ := H
  unfold slices_IndexFunc_impl_Glasses_int16_at_impl_ValidGlasses_1.b0 at H
  refine g_seq (g_rg [0] rfl ?_)
  refine g_op_b (B := decide (x3 < (a1.length : Int))) rfl rfl rfl ?_ ?_
  ·
   intro hb
   rw [if_pos (b_dec_t hb)] at H
   refine g_ops_nil (g_seq (g_cond_true rfl (g_skip (g_seq ?_))))
   refine g_block (g_seq (g_rg [0, 1] rfl ?_))
   refine g_op (v := Value.int .i64 x3) rfl rfl rfl ?_
   refine g_op (v := Value.int .i64 x3) rfl rfl rfl ?_
   show G _ _ _ _ [_,_,_,_,_,_,_,_,_,_,_,_,_,_,_,_,_,_,_] _
   refine g_ops_nil (g_seq (g_rg [0, 1, 2, 3, 4, 5] rfl ?_))
   refine g_op (v := Value.func (Fn.func 57) #[] #[]) rfl rfl rfl ?_
   refine g_op (v := v2) rfl rfl rfl ?_
   refine g_op (v := Value.int .i64 x3) rfl rfl rfl ?_
   show G _ _ _ _ [_,_,_,_,_,_,_,_,_,_,_,_,_,_,_,_,_,_,_] _
   obtain ⟨g1, H⟩ := ite_get H
   refine s_idx (fkI .i16) 0 (hs.rd hr0) rfl (fun _ => rfl) g1.1 g1.2 rfl rfl rfl rfl rfl ?_
   intro p4 hp4 lp4 op4
   refine s_load1 rfl rfl (v := Value.int .i16 (rdL a1 x3 0)) rfl rfl (fun _ => rfl) hp4 ?_
   obtain ⟨r5, Hr5, H⟩ := bind_get H
   refine s_call (args := [Value.int .i16 (rdL a1 x3 0)]) rfl rfl (x_callV rfl (callFunc_enter Try.func57 rfl rfl) rfl rfl) (impl_ValidGlasses_1.calls (a1 := rdL a1 x3 0) Hr5) ?_
   rintro _ w ⟨rfl, hs2⟩
   have hs : St _ [] _ := hs.call hs2
   cases r5 with
   | true =>
     rw [if_pos rfl] at H
     show G _ _ _ _ [_,_,_,_,_,_,_,_,_,_,_,_,_,_,_,_,_,_,_] _
     refine g_ops_nil (g_cond_true rfl (g_seq (g_rg [0, 1] rfl ?_)))
     refine g_op (v := Value.int .i64 x3) rfl rfl rfl ?_
     refine g_op (v := Value.int .i64 x3) rfl rfl rfl (g_ops_nil ?_)
     obtain rfl := Option.some.inj H
     subst Hx1_
     have H := Option.some.inj Hr1_
     subst H
     refine g_ret Try.func64 (v := Value.int .i64 x3) (res1 rfl rfl) ?_
     have hs : St _ [] _ := St.take (Γ' := []) hs
     exact ⟨_, rfl, rfl, hs⟩
   | false =>
     rw [if_neg Bool.false_ne_true] at H
     show G _ _ _ _ [_,_,_,_,_,_,_,_,_,_,_,_,_,_,_,_,_,_,_] _
     refine g_ops_nil (g_cond_false rfl (g_skip ?_))
     refine g_inBlock (g_rg [0, 1] rfl ?_)
     refine g_op (v := Value.int .i64 (i64w (x3 + 1))) rfl rfl rfl ?_
     refine g_op (v := Value.int .i64 (i64w (x3 + 1))) rfl rfl rfl (g_ops_nil ?_)
     obtain rfl := Option.some.inj H
     have hs : St _ [] _ := St.take (Γ' := []) hs
     exact ih1_ _ _ ⟨i64w (x3 + 1), Hx1_, rfl, hs⟩
  intro hb
  rw [if_neg (b_dec_f hb)] at H
  show G _ _ _ _ [_,_,_,_,_,_,_,_,_,_,_,_,_,_,_,_,_,_,_] _
  refine g_ops_nil (g_seq (g_cond_false rfl ?_))
  obtain rfl := Option.some.inj H
  subst Hx1_
  have hs : St _ [] _ := St.take (Γ' := []) hs
  refine g_exit rfl ?_
  exact ha1_ _ _ ⟨Hr1_, rfl, hs⟩

/- function 56 slices_ContainsFunc_impl_Glasses_int16_at_impl_ValidGlasses_1 -/
def slices_ContainsFunc_impl_Glasses_int16_at_impl_ValidGlasses_1.post (w0 : World) (r : Bool) (v : Value) (w : World) : Prop := v = Value.bool r ∧ St w0 [] w
set_option maxHeartbeats 8000000 in
set_option maxRecDepth 100000 in
theorem slices_ContainsFunc_impl_Glasses_int16_at_impl_ValidGlasses_1.calls {N : Nat} {a1 : (List Int)} {v2 : Value} {w0 : World} {r : Bool} (hr0 : RdRow (K.int .i16) w0 v2 a1) (H : slices_ContainsFunc_impl_Glasses_int16_at_impl_ValidGlasses_1.f N a1 = some r) :
    Calls Try.prog 56 #[v2, Value.func (Fn.func 57) #[] #[]] w0 fun e w => ∃ v, e = .returned v ∧ slices_ContainsFunc_impl_Glasses_int16_at_impl_ValidGlasses_1.post w0 r v w := by
  unfold slices_ContainsFunc_impl_Glasses_int16_at_impl_ValidGlasses_1.f at H
  have hs : St w0 [] w0 := St.refl w0
  refine calls_of_g (n := 7) Try.func56 rfl rfl ?_
  show G _ _ _ _ [_,_,_,_,_,_,_,_,_] _
  refine g_seq (g_rg [0] rfl ?_)
  refine g_op (v := Value.bool false) rfl rfl rfl ?_
  show G _ _ _ _ [_,_,_,_,_,_,_,_,_] _
  refine g_ops_nil (g_seq (g_rg [0, 1, 2, 3, 4] rfl ?_))
  refine g_op (v := v2) rfl rfl rfl ?_
  refine g_op (v := Value.func (Fn.func 57) #[] #[]) rfl rfl rfl ?_
  obtain ⟨r3, Hr3, H⟩ := bind_get H
  refine s_call (args := [v2, Value.func (Fn.func 57) #[] #[]]) rfl rfl (x_call rfl (callFunc_enter Try.func64 rfl rfl) rfl) (slices_IndexFunc_impl_Glasses_int16_at_impl_ValidGlasses_1.calls (a1 := a1) (hs.rd hr0) Hr3) ?_
  rintro _ w ⟨rfl, hs2⟩
  have hs : St _ [] _ := hs.call hs2
  show G _ _ _ _ [_,_,_,_,_,_,_,_,_] _
  refine g_op (v := Value.bool (decide (r3 ≥ 0))) rfl rfl rfl ?_
  refine g_op (v := Value.bool (decide (r3 ≥ 0))) rfl rfl rfl (g_ops_nil ?_)
  obtain rfl := Option.some.inj H
  refine g_ret Try.func56 (v := Value.bool (decide (r3 ≥ 0))) (res1 rfl rfl) ?_
  have hs : St _ [] _ := St.take (Γ' := []) hs
  exact ⟨_, rfl, rfl, hs⟩

/- function 58 _impl_Glasses_many -/
def _impl_Glasses_many.post (w0 : World) (r : Int) (v : Value) (w : World) : Prop := v = Value.int .i64 r ∧ St w0 [] w
set_option maxHeartbeats 8000000 in
set_option maxRecDepth 100000 in
theorem _impl_Glasses_many.calls {N : Nat} {a1 : (List Int)} {v2 : Value} {w0 : World} {r : Int} (hr0 : RdRow (K.int .i16) w0 v2 a1) (H : _impl_Glasses_many.f N a1 = some r) :
    Calls Try.prog 58 #[v2] w0 fun e w => ∃ v, e = .returned v ∧ _impl_Glasses_many.post w0 r v w := by
  unfold _impl_Glasses_many.f at H
  have hs : St w0 [] w0 := St.refl w0
  refine calls_of_g (n := 18) Try.func58 rfl rfl ?_
  show G _ _ _ _ [_,_,_,_,_,_,_,_,_,_,_,_,_,_,_,_,_,_,_] _
  refine g_seq (g_rg [0] rfl ?_)
  refine g_op (v := Value.int .i64 0) rfl rfl rfl ?_
  show G _ _ _ _ [_,_,_,_,_,_,_,_,_,_,_,_,_,_,_,_,_,_,_] _
  refine g_ops_nil (g_seq (g_rg [0] rfl ?_))
  refine g_op (v := Value.int .i64 1) rfl rfl rfl (g_ops_nil (g_seq (g_seq (g_rg [0, 1, 2] rfl ?_))))
  refine g_op (v := v2) rfl rfl rfl ?_
  refine s_len (hs.rd hr0) rfl rfl rfl rfl rfl ?_
  show G _ _ _ _ [_,_,_,_,_,_,_,_,_,_,_,_,_,_,_,_,_,_,_] _
  refine g_op (v := Value.int .i64 0) rfl rfl rfl (g_ops_nil ?_)
  obtain ⟨o1_, Ho, Hr1_⟩ := bind_get H
  refine g_block_join (J := fun t w => ∃ x6 : Int, _impl_Glasses_many.a0 N x6 = some r ∧ Fr t (fun O => ([O 0, O 1, O 2, Value.int .i64 x6, O 4, O 5, O 6, O 7, O 8, O 9, O 10, O 11, O 12, O 13, O 14, O 15, O 16, O 17, O 18] : List Value)) ∧ St w0 [] w) ?_ ?_
  ·
   rintro t w ⟨x6, H, hf, hs⟩
   obtain ⟨O, rfl⟩ := hf.open
   show G _ _ _ _ [_,_,_,_,_,_,_,_,_,_,_,_,_,_,_,_,_,_,_] _
   unfold _impl_Glasses_many.a0 at H
   refine g_seq (g_rg [0, 1] rfl ?_)
   refine g_op (v := Value.int .i64 x6) rfl rfl rfl ?_
   show G _ _ _ _ [_,_,_,_,_,_,_,_,_,_,_,_,_,_,_,_,_,_,_] _
   refine g_op (v := Value.int .i64 x6) rfl rfl rfl (g_ops_nil ?_)
   obtain rfl := Option.some.inj H
   refine g_ret Try.func58 (v := Value.int .i64 x6) (res1 rfl rfl) ?_
   have hs : St _ [] _ := St.take (Γ' := []) hs
   exact ⟨_, rfl, rfl, hs⟩
  intro ha1_
  have hs : St _ [] _ := St.take (Γ' := []) hs
  refine g_loop_fuel (I := fun n_ t w => ∃ x3 : Int, ∃ x4 : Int, rounds (fun s => _impl_Glasses_many.b0 N a1 s.1 s.2) n_ (x3, x4) = some o1_ ∧ Fr t (fun O => ([O 0, O 1, O 2, Value.int .i64 x3, O 4, O 5, v2, Value.int .i64 (a1.length : Int), Value.int .i64 x4, O 9, O 10, O 11, O 12, O 13, O 14, O 15, O 16, O 17, O 18] : List Value)) ∧ St w0 [] w) N ⟨1, 0, Ho, rfl, hs⟩ ?_ ?_
  ·
   rintro _ _ ⟨x3, x4, h, _⟩
   exact rounds_zero h
  intro n_ ih1_
  rintro t w ⟨x3, x4, Ho, hf, hs⟩
  obtain ⟨O, rfl⟩ := hf.open
  show G _ _ _ _ [_,_,_,_,_,_,_,_,_,_,_,_,_,_,_,_,_,_,_] _
  obtain ⟨x2_, H, Hx1_⟩ := rounds_succ Ho
  have H : _impl_Glasses_many.b0 N a1 x3 x4 = some x2_ := H
  unfold _impl_Glasses_many.b0 at H
  refine g_seq (g_rg [0] rfl ?_)
  refine g_op_b (B := decide (x4 < (a1.length : Int))) rfl rfl rfl ?_ ?_
  ·
   intro hb
   rw [if_pos (b_dec_t hb)] at H
   show G _ _ _ _ [_,_,_,_,_,_,_,_,_,_,_,_,_,_,_,_,_,_,_] _
   refine g_ops_nil (g_seq (g_cond_true rfl (g_skip (g_seq ?_))))
   refine g_block (g_seq (g_rg [0, 1, 2] rfl ?_))
   obtain ⟨g1, H⟩ := ite_get H
   refine s_idx (fkI .i16) 0 (hs.rd hr0) rfl (fun _ => rfl) g1.1 g1.2 rfl rfl rfl rfl rfl ?_
   intro p5 hp5 lp5 op5
   refine s_load1 rfl rfl (v := Value.int .i16 (rdL a1 x4 0)) rfl rfl (fun _ => rfl) hp5 ?_
   refine g_op (v := Value.int .i16 (rdL a1 x4 0)) rfl rfl rfl ?_
   show G _ _ _ _ [_,_,_,_,_,_,_,_,_,_,_,_,_,_,_,_,_,_,_] _
   refine g_ops_nil (g_rg [0, 1, 2, 3, 4, 5] rfl ?_)
   refine g_op (v := Value.int .i64 x3) rfl rfl rfl ?_
   refine g_op (v := Value.int .i16 (rdL a1 x4 0)) rfl rfl rfl ?_
   refine g_op (v := Value.int .i64 (i64w (rdL a1 x4 0))) rfl rfl rfl ?_
   show G _ _ _ _ [_,_,_,_,_,_,_,_,_,_,_,_,_,_,_,_,_,_,_] _
   refine g_op (v := Value.int .i64 (i64w ((i64w (rdL a1 x4 0)) + 1))) rfl rfl rfl ?_
   refine g_op (v := Value.int .i64 (i64w (x3 * (i64w ((i64w (rdL a1 x4 0)) + 1))))) rfl rfl rfl ?_
   refine g_op (v := Value.int .i64 (i64w (x3 * (i64w ((i64w (rdL a1 x4 0)) + 1))))) rfl rfl rfl ?_
   show G _ _ _ _ [_,_,_,_,_,_,_,_,_,_,_,_,_,_,_,_,_,_,_] _
   refine g_ops_nil ?_
   refine g_inBlock (g_rg [0, 1] rfl ?_)
   refine g_op (v := Value.int .i64 (i64w (x4 + 1))) rfl rfl rfl ?_
   refine g_op (v := Value.int .i64 (i64w (x4 + 1))) rfl rfl rfl (g_ops_nil ?_)
   obtain rfl := Option.some.inj H
   have hs : St _ [] _ := St.take (Γ' := []) hs
   exact ih1_ _ _ ⟨i64w (x3 * (i64w ((i64w (rdL a1 x4 0)) + 1))), i64w (x4 + 1), Hx1_, rfl, hs⟩
  intro hb
  rw [if_neg (b_dec_f hb)] at H
  refine g_ops_nil (g_seq (g_cond_false rfl ?_))
  obtain rfl := Option.some.inj H
  subst Hx1_
  have hs : St _ [] _ := St.take (Γ' := []) hs
  refine g_exit rfl ?_
  exact ha1_ _ _ ⟨x3, Hr1_, rfl, hs⟩

/- function 40 impl_ValidGlasses -/
def impl_ValidGlasses.post (w0 : World) (r : Bool) (v : Value) (w : World) : Prop := v = Value.bool r ∧ St w0 [] w
set_option maxHeartbeats 8000000 in
set_option maxRecDepth 100000 in
theorem impl_ValidGlasses.calls {N : Nat} {a1 : (List Int)} {v2 : Value} {w0 : World} {r : Bool} (hr0 : RdRow (K.int .i16) w0 v2 a1) (H : impl_ValidGlasses.f N a1 = some r) :
    Calls Try.prog 40 #[v2] w0 fun e w => ∃ v, e = .returned v ∧ impl_ValidGlasses.post w0 r v w := by
  unfold impl_ValidGlasses.f at H
  have hs : St w0 [] w0 := St.refl w0
  refine calls_of_g (n := 15) Try.func40 rfl rfl ?_
  show G _ _ _ _ [_,_,_,_,_,_,_,_,_,_,_,_,_,_,_,_] _
  refine g_seq (g_rg [0] rfl ?_)
  refine g_op (v := Value.bool false) rfl rfl rfl (g_ops_nil (g_seq (g_rg [0, 1, 2, 3, 4, 5, 6, 7, 8, 9, 10, 11, 12, 13] rfl ?_)))
  refine g_op (v := v2) rfl rfl rfl ?_
  obtain ⟨r3, Hr3, H⟩ := bind_get H
  refine s_call (args := [v2]) rfl rfl (x_call rfl (callFunc_enter Try.func55 rfl rfl) rfl) (impl_size_int16.calls (a1 := a1) (hs.rd hr0) Hr3) ?_
  rintro _ w ⟨rfl, hs2⟩
  have hs : St _ [] _ := hs.call hs2
  show G _ _ _ _ [_,_,_,_,_,_,_,_,_,_,_,_,_,_,_,_] _
  obtain ⟨r4, Hr4, H⟩ := bind_get H
  refine s_call (args := [Value.int .i64 r3, Value.int .i64 1, Value.int .i64 4]) rfl rfl (x_call rfl (callFunc_enter Try.func33 rfl rfl) rfl) (impl_within.calls (a1 := r3) (a2 := 1) (a3 := 4) Hr4) ?_
  rintro _ w ⟨rfl, hs2⟩
  have hs : St _ [] _ := hs.call hs2
  cases r4 with
  | true =>
    rw [if_pos rfl] at H
    refine g_op (v := Value.bool true) rfl rfl rfl ?_
    refine g_op (v := v2) rfl rfl rfl ?_
    show G _ _ _ _ [_,_,_,_,_,_,_,_,_,_,_,_,_,_,_,_] _
    obtain ⟨r5, Hr5, H⟩ := bind_get H
    refine s_call (args := [v2, Value.func (Fn.func 57) #[] #[]]) rfl rfl (x_call rfl (callFunc_enter Try.func56 rfl rfl) rfl) (slices_ContainsFunc_impl_Glasses_int16_at_impl_ValidGlasses_1.calls (a1 := a1) (hs.rd hr0) Hr5) ?_
    rintro _ w ⟨rfl, hs2⟩
    have hs : St _ [] _ := hs.call hs2
    refine g_op (v := Value.bool (!r5)) rfl rfl rfl ?_
    refine g_op_b (B := !r5) rfl rfl rfl ?_ ?_
    ·
     intro hb
     rw [if_neg (b_not_t hb)] at H
     refine g_op (v := Value.bool true) rfl rfl rfl ?_
     refine g_op (v := v2) rfl rfl rfl ?_
     show G _ _ _ _ [_,_,_,_,_,_,_,_,_,_,_,_,_,_,_,_] _
     obtain ⟨r6, Hr6, H⟩ := bind_get H
     refine s_call (args := [v2]) rfl rfl (x_call rfl (callFunc_enter Try.func58 rfl rfl) rfl) (_impl_Glasses_many.calls (a1 := a1) (hs.rd hr0) Hr6) ?_
     rintro _ w ⟨rfl, hs2⟩
     have hs : St _ [] _ := hs.call hs2
     refine g_op (v := Value.bool (decide (r6 ≤ 3000))) rfl rfl rfl ?_
     refine g_op (v := Value.bool (decide (r6 ≤ 3000))) rfl rfl rfl ?_
     show G _ _ _ _ [_,_,_,_,_,_,_,_,_,_,_,_,_,_,_,_] _
     refine g_op (v := Value.bool (decide (r6 ≤ 3000))) rfl rfl rfl (g_ops_nil ?_)
     obtain rfl := Option.some.inj H
     refine g_ret Try.func40 (v := Value.bool (decide (r6 ≤ 3000))) (res1 rfl rfl) ?_
     have hs : St _ [] _ := St.take (Γ' := []) hs
     exact ⟨_, rfl, rfl, hs⟩
    intro hb
    rw [if_pos (b_not_f hb)] at H
    show G _ _ _ _ [_,_,_,_,_,_,_,_,_,_,_,_,_,_,_,_] _
    refine g_op (v := Value.bool false) rfl rfl rfl (g_op_not rfl rfl (g_op_not rfl rfl ?_))
    show G _ _ _ _ [_,_,_,_,_,_,_,_,_,_,_,_,_,_,_,_] _
    refine g_op_not rfl rfl ?_
    refine g_op (v := Value.bool false) rfl rfl rfl ?_
    refine g_op (v := Value.bool false) rfl rfl rfl ?_
    show G _ _ _ _ [_,_,_,_,_,_,_,_,_,_,_,_,_,_,_,_] _
    refine g_ops_nil ?_
    obtain rfl := Option.some.inj H
    refine g_ret Try.func40 (v := Value.bool false) (res1 rfl rfl) ?_
    have hs : St _ [] _ := St.take (Γ' := []) hs
    exact ⟨_, rfl, rfl, hs⟩
  | false =>
    rw [if_neg Bool.false_ne_true] at H
    refine g_op (v := Value.bool false) rfl rfl rfl (g_op_not rfl rfl ?_)
    show G _ _ _ _ [_,_,_,_,_,_,_,_,_,_,_,_,_,_,_,_] _
    refine g_op_not rfl rfl (g_op_not rfl rfl ?_)
    refine g_op (v := Value.bool false) rfl rfl rfl ?_
    show G _ _ _ _ [_,_,_,_,_,_,_,_,_,_,_,_,_,_,_,_] _
    refine g_op (v := Value.bool false) rfl rfl rfl (g_op_not rfl rfl (g_op_not rfl rfl ?_))
    show G _ _ _ _ [_,_,_,_,_,_,_,_,_,_,_,_,_,_,_,_] _
    refine g_op_not rfl rfl ?_
    refine g_op (v := Value.bool false) rfl rfl rfl ?_
    refine g_op (v := Value.bool false) rfl rfl rfl ?_
    show G _ _ _ _ [_,_,_,_,_,_,_,_,_,_,_,_,_,_,_,_] _
    refine g_ops_nil ?_
    obtain rfl := Option.some.inj H
    refine g_ret Try.func40 (v := Value.bool false) (res1 rfl rfl) ?_
    have hs : St _ [] _ := St.take (Γ' := []) hs
    exact ⟨_, rfl, rfl, hs⟩

/- function 41 _impl_Puzzle_holds -/
def _impl_Puzzle_holds.post (w0 : World) (r : Bool) (v : Value) (w : World) : Prop := v = Value.bool r ∧ St w0 [] w
set_option maxHeartbeats 8000000 in
set_option maxRecDepth 100000 in
theorem _impl_Puzzle_holds.calls {N : Nat} {a1 : S_impl_Puzzle} {a4 : (Ar Int 4)} {v2 : Value} {w0 : World} {r : Bool} (hr3 : RdRow (K.int .i16) w0 v2 a1.f_Jugs) (H : _impl_Puzzle_holds.f N a1 a4 = some r) :
    Calls Try.prog 41 #[Value.agg (([v2] : List Value) ++ ((encA (encI .i16)) a1.f_Start ++ (([Value.bool a1.f_Tap] : List Value)))).toArray, Value.agg ((encA (encI .i16)) a4).toArray] w0 fun e w => ∃ v, e = .returned v ∧ _impl_Puzzle_holds.post w0 r v w := by
  unfold _impl_Puzzle_holds.f at H
  have hs : St w0 [] w0 := St.refl w0
  refine calls_of_g (n := 29) Try.func41 rfl rfl ?_
  show G _ _ _ _ [_,_,_,_,_,_,_,_,_,_,_,_,_,_,_,_,_,_,_,_,_,_,_,_,_,_,_,_,_,_,_] _
  refine g_seq (g_rg [0, 1, 2] rfl ?_)
  refine s_box hs rfl rfl (cs := (([v2] : List Value) ++ ((encA (encI .i16)) a1.f_Start ++ (([Value.bool a1.f_Tap] : List Value))))) rfl rfl ?_
  intro b5 w hs
  show G _ _ _ _ [_,_,_,_,_,_,_,_,_,_,_,_,_,_,_,_,_,_,_,_,_,_,_,_,_,_,_,_,_,_,_] _
  refine s_box hs rfl rfl (cs := ((encA (encI .i16)) a4)) rfl rfl ?_
  intro b7 w hs
  refine g_op (v := Value.bool false) rfl rfl rfl (g_ops_nil (g_seq (g_seq (g_rg [0, 1] rfl ?_))))
  refine s_loadA rfl rfl (es := ((encA (encI .i16)) a4)) rfl rfl (fun _ => rfl) (n := 4) (fun _ => rfl) ((fkA (n := 4) (he := (fkI .i16).len) (h1 := (fkI .i16).one)).len _) (cells_all (hs.cells 0 rfl)) ?_
  show G _ _ _ _ [_,_,_,_,_,_,_,_,_,_,_,_,_,_,_,_,_,_,_,_,_,_,_,_,_,_,_,_,_,_,_] _
  refine g_op (v := Value.int .i64 0) rfl rfl rfl (g_ops_nil ?_)
  obtain ⟨o1_, Ho, Hr1_⟩ := bind_get H
  refine g_block_join (J := fun t w => _impl_Puzzle_holds.a0 N = some r ∧ Fr t (fun O => ([O 0, O 1, O 2, O 3, O 4, O 5, O 6, O 7, O 8, O 9, O 10, O 11, O 12, O 13, O 14, O 15, O 16, O 17, O 18, O 19, O 20, O 21, O 22, O 23, O 24, O 25, O 26, O 27, O 28, O 29, O 30] : List Value)) ∧ St w0 [] w) ?_ ?_
  ·
   rintro t w ⟨H, hf, hs⟩
   obtain ⟨O, rfl⟩ := hf.open
   show G _ _ _ _ [_,_,_,_,_,_,_,_,_,_,_,_,_,_,_,_,_,_,_,_,_,_,_,_,_,_,_,_,_,_,_] _
   unfold _impl_Puzzle_holds.a0 at H
   refine g_seq (g_rg [0] rfl ?_)
   refine g_op (v := Value.bool true) rfl rfl rfl (g_ops_nil ?_)
   obtain rfl := Option.some.inj H
   refine g_ret Try.func41 (v := Value.bool true) (res1 rfl rfl) ?_
   have hs : St _ [] _ := St.take (Γ' := []) hs
   exact ⟨_, rfl, rfl, hs⟩
  intro ha1_
  have hs := hs.pull 1 rfl
  have hs : St _ [_] _ := St.take (Γ' := [_]) hs
  refine g_loop_fuel (I := fun n_ t w => ∃ x9 : Int, rounds (fun s => _impl_Puzzle_holds.b0 N a1 a4 s) n_ x9 = some o1_ ∧ Fr t (fun O => ([O 0, O 1, Value.pointer (some ⟨b5, 0, none⟩), O 3, O 4, O 5, O 6, O 7, Value.agg ((encA (encI .i16)) a4).toArray, Value.int .i64 x9, O 10, O 11, O 12, O 13, O 14, O 15, O 16, O 17, O 18, O 19, O 20, O 21, O 22, O 23, O 24, O 25, O 26, O 27, O 28, O 29, O 30] : List Value)) ∧ St w0 [Cells b5 (([v2] : List Value) ++ ((encA (encI .i16)) a1.f_Start ++ (([Value.bool a1.f_Tap] : List Value)))) 71] w) N ⟨0, Ho, rfl, hs⟩ ?_ ?_
  ·
   rintro _ _ ⟨x9, h, _⟩
   exact rounds_zero h
  intro n_ ih1_
  rintro t w ⟨x9, Ho, hf, hs⟩
  obtain ⟨O, rfl⟩ := hf.open
  show G _ _ _ _ [_,_,_,_,_,_,_,_,_,_,_,_,_,_,_,_,_,_,_,_,_,_,_,_,_,_,_,_,_,_,_] _
  obtain ⟨x3_, H, Hx1_⟩ := rounds_succ Ho
  have H : _impl_Puzzle_holds.b0 N a1 a4 x9 = some x3_ := H
  unfold _impl_Puzzle_holds.b0 at H
  refine g_seq (g_rg [0] rfl ?_)
  refine g_op_b (B := decide (x9 < 4)) rfl rfl rfl ?_ ?_
  ·
   intro hb
   rw [if_pos (b_dec_t hb)] at H
   refine g_ops_nil (g_seq (g_cond_true rfl (g_skip (g_seq ?_))))
   refine g_block (g_seq (g_rg [0, 1, 2, 3] rfl ?_))
   refine g_op (v := Value.int .i64 x9) rfl rfl rfl ?_
   obtain ⟨g1, H⟩ := ite_get H
   refine s_indexV (enc := (encI .i16)) (c := Value.int .i16) (fun _ => rfl) 0 rfl (fun _ => rfl) (fun _ => rfl) g1.1 g1.2 rfl rfl rfl rfl rfl ?_
   show G _ _ _ _ [_,_,_,_,_,_,_,_,_,_,_,_,_,_,_,_,_,_,_,_,_,_,_,_,_,_,_,_,_,_,_] _
   refine g_op (v := Value.int .i64 x9) rfl rfl rfl ?_
   refine g_op (v := Value.int .i16 (a4.get x9 0)) rfl rfl rfl (g_ops_nil (g_seq (g_rg [0] rfl ?_)))
   refine g_op (v := Value.int .i16 0) rfl rfl rfl ?_
   show G _ _ _ _ [_,_,_,_,_,_,_,_,_,_,_,_,_,_,_,_,_,_,_,_,_,_,_,_,_,_,_,_,_,_,_] _
   refine g_ops_nil (g_seq (g_seq ?_))
   refine g_join2 (J := (fun t w => ∃ x11 : Int, _impl_Puzzle_holds.j2 N a4 x9 x11 = some x3_ ∧ Fr t (fun O => ([O 0, O 1, Value.pointer (some ⟨b5, 0, none⟩), O 3, O 4, O 5, Value.int .i16 (a4.get x9 0), Value.int .i16 x11, Value.agg ((encA (encI .i16)) a4).toArray, Value.int .i64 x9, O 10, O 11, O 12, O 13, O 14, O 15, O 16, O 17, O 18, O 19, O 20, O 21, O 22, O 23, O 24, O 25, O 26, O 27, O 28, O 29, O 30] : List Value)) ∧ St w0 [Cells b5 (([v2] : List Value) ++ ((encA (encI .i16)) a1.f_Start ++ (([Value.bool a1.f_Tap] : List Value)))) 71] w)) ?_ ?_
   ·
    rintro t w ⟨x11, H, hf, hs⟩
    obtain ⟨O, rfl⟩ := hf.open
    show G _ _ _ _ [_,_,_,_,_,_,_,_,_,_,_,_,_,_,_,_,_,_,_,_,_,_,_,_,_,_,_,_,_,_,_] _
    unfold _impl_Puzzle_holds.j2 at H
    refine g_seq (g_rg [0, 1, 2, 3, 4, 5, 6] rfl ?_)
    refine g_op (v := Value.int .i16 (a4.get x9 0)) rfl rfl rfl ?_
    refine g_op_b (B := decide ((a4.get x9 0) < 0)) rfl rfl rfl ?_ ?_
    ·
     intro hb
     rw [if_pos (b_dec_t hb)] at H
     refine g_op (v := Value.bool true) rfl rfl rfl (g_op_not rfl rfl (g_op_not rfl rfl (g_op_not rfl rfl ?_)))
     refine g_op (v := Value.bool true) rfl rfl rfl ?_
     show G _ _ _ _ [_,_,_,_,_,_,_,_,_,_,_,_,_,_,_,_,_,_,_,_,_,_,_,_,_,_,_,_,_,_,_] _
     refine g_ops_nil (g_cond_true rfl (g_seq (g_rg [0] rfl ?_)))
     refine g_op (v := Value.bool false) rfl rfl rfl (g_ops_nil ?_)
     obtain rfl := Option.some.inj H
     subst Hx1_
     have H := Option.some.inj Hr1_
     subst H
     refine g_ret Try.func41 (v := Value.bool false) (res1 rfl rfl) ?_
     have hs : St _ [] _ := St.take (Γ' := [_]) hs
     exact ⟨_, rfl, rfl, hs⟩
    intro hb
    rw [if_neg (b_dec_f hb)] at H
    show G _ _ _ _ [_,_,_,_,_,_,_,_,_,_,_,_,_,_,_,_,_,_,_,_,_,_,_,_,_,_,_,_,_,_,_] _
    refine g_op (v := Value.bool false) rfl rfl rfl ?_
    refine g_op (v := Value.int .i16 (a4.get x9 0)) rfl rfl rfl ?_
    refine g_op (v := Value.int .i16 x11) rfl rfl rfl ?_
    refine g_op_b (B := decide ((a4.get x9 0) > x11)) rfl rfl rfl ?_ ?_
    ·
     intro hb
     rw [if_pos (b_dec_t hb)] at H
     refine g_op (v := Value.bool true) rfl rfl rfl (g_ops_nil (g_cond_true rfl (g_seq (g_rg [0] rfl ?_))))
     refine g_op (v := Value.bool false) rfl rfl rfl ?_
     show G _ _ _ _ [_,_,_,_,_,_,_,_,_,_,_,_,_,_,_,_,_,_,_,_,_,_,_,_,_,_,_,_,_,_,_] _
     refine g_ops_nil ?_
     obtain rfl := Option.some.inj H
     subst Hx1_
     have H := Option.some.inj Hr1_
     subst H
     refine g_ret Try.func41 (v := Value.bool false) (res1 rfl rfl) ?_
     have hs : St _ [] _ := St.take (Γ' := [_]) hs
     exact ⟨_, rfl, rfl, hs⟩
    intro hb
    rw [if_neg (b_dec_f hb)] at H
    refine g_op (v := Value.bool false) rfl rfl rfl (g_ops_nil (g_cond_false rfl (g_skip ?_)))
    refine g_inBlock (g_rg [0, 1] rfl ?_)
    refine g_op (v := Value.int .i64 (i64w (x9 + 1))) rfl rfl rfl ?_
    show G _ _ _ _ [_,_,_,_,_,_,_,_,_,_,_,_,_,_,_,_,_,_,_,_,_,_,_,_,_,_,_,_,_,_,_] _
    refine g_op (v := Value.int .i64 (i64w (x9 + 1))) rfl rfl rfl (g_ops_nil ?_)
    obtain rfl := Option.some.inj H
    have hs := hs.pull 0 rfl
    have hs : St _ [_] _ := St.take (Γ' := []) hs
    exact ih1_ _ _ ⟨i64w (x9 + 1), Hx1_, rfl, hs⟩
   intro ha
   refine g_rg [0, 1, 2, 3, 4] rfl ?_
   refine g_op (v := Value.int .i64 x9) rfl rfl rfl ?_
   refine g_op (v := Value.pointer (some ⟨b5, 0, none⟩)) rfl rfl rfl ?_
   refine s_load1 rfl rfl (v := v2) rfl rfl (fun _ => rfl) (cells_load (hs.cells 0 rfl) 0 1 rfl) ?_
   refine s_len (hs.rd hr3) rfl rfl rfl rfl rfl ?_
   refine g_op_b (B := decide (x9 < (a1.f_Jugs.length : Int))) rfl rfl rfl ?_ ?_
   ·
    intro hb
    rw [if_pos (b_dec_t hb)] at H
    refine g_ops_nil (g_cond_true rfl (g_rg [0, 1, 2, 3, 4, 5] rfl ?_))
    refine g_op (v := Value.pointer (some ⟨b5, 0, none⟩)) rfl rfl rfl ?_
    refine s_load1 rfl rfl (v := v2) rfl rfl (fun _ => rfl) (cells_load (hs.cells 0 rfl) 0 1 rfl) ?_
    refine g_op (v := Value.int .i64 x9) rfl rfl rfl ?_
    obtain ⟨g2, H⟩ := ite_get H
    refine s_idx (fkI .i16) 0 (hs.rd hr3) rfl (fun _ => rfl) g2.1 g2.2 rfl rfl rfl rfl rfl ?_
    intro p10 hp10 lp10 op10
    show G _ _ _ _ [_,_,_,_,_,_,_,_,_,_,_,_,_,_,_,_,_,_,_,_,_,_,_,_,_,_,_,_,_,_,_] _
    refine s_load1 rfl rfl (v := Value.int .i16 (rdL a1.f_Jugs x9 0)) rfl rfl (fun _ => rfl) hp10 ?_
    refine g_op (v := Value.int .i16 (rdL a1.f_Jugs x9 0)) rfl rfl rfl (g_ops_nil ?_)
    have hs := hs.pull 0 rfl
    have hs : St _ [_] _ := St.take (Γ' := []) hs
    exact ha _ _ ⟨rdL a1.f_Jugs x9 0, H, rfl, hs⟩
   intro hb
   rw [if_neg (b_dec_f hb)] at H
   show G _ _ _ _ [_,_,_,_,_,_,_,_,_,_,_,_,_,_,_,_,_,_,_,_,_,_,_,_,_,_,_,_,_,_,_] _
   refine g_ops_nil (g_cond_false rfl (g_skip ?_))
   have hs := hs.pull 0 rfl
   have hs : St _ [_] _ := St.take (Γ' := []) hs
   exact ha _ _ ⟨0, H, rfl, hs⟩
  intro hb
  rw [if_neg (b_dec_f hb)] at H
  refine g_ops_nil (g_seq (g_cond_false rfl ?_))
  obtain rfl := Option.some.inj H
  subst Hx1_
  have hs : St _ [] _ := St.take (Γ' := [_]) hs
  refine g_exit rfl ?_
  exact ha1_ _ _ ⟨Hr1_, rfl, hs⟩

/- function 31 impl_ValidTops -/
def impl_ValidTops.post (w0 : World) (r : Bool) (v : Value) (w : World) : Prop := v = Value.bool r ∧ St w0 [] w
set_option maxHeartbeats 8000000 in
set_option maxRecDepth 100000 in
theorem impl_ValidTops.calls {N : Nat} {a1 : (List Int)} {a3 : (Ar Int 4)} {v2 : Value} {w0 : World} {r : Bool} (hr0 : RdRow (K.int .i16) w0 v2 a1) (H : impl_ValidTops.f N a1 a3 = some r) :
    Calls Try.prog 31 #[v2, Value.agg ((encA (encI .i16)) a3).toArray] w0 fun e w => ∃ v, e = .returned v ∧ impl_ValidTops.post w0 r v w := by
  unfold impl_ValidTops.f at H
  have hs : St w0 [] w0 := St.refl w0
  refine calls_of_g (n := 11) Try.func31 rfl rfl ?_
  show G _ _ _ _ [_,_,_,_,_,_,_,_,_,_,_,_,_] _
  refine g_seq (g_rg [0, 1] rfl ?_)
  refine s_box hs rfl rfl (cs := ((encA (encI .i16)) a3)) rfl rfl ?_
  intro b4 w hs
  refine g_op (v := Value.bool false) rfl rfl rfl (g_ops_nil (g_seq (g_rg [0, 1, 2, 3, 4, 5, 6, 7, 8] rfl ?_)))
  refine g_op (v := v2) rfl rfl rfl ?_
  show G _ _ _ _ [_,_,_,_,_,_,_,_,_,_,_,_,_] _
  obtain ⟨r6, Hr6, H⟩ := bind_get H
  refine s_call (args := [v2]) rfl rfl (x_call rfl (callFunc_enter Try.func40 rfl rfl) rfl) (impl_ValidGlasses.calls (a1 := a1) (hs.rd hr0) Hr6) ?_
  rintro _ w ⟨rfl, hs2⟩
  have hs : St _ [_] _ := hs.call hs2
  cases r6 with
  | true =>
    rw [if_pos rfl] at H
    show G _ _ _ _ [_,_,_,_,_,_,_,_,_,_,_,_,_] _
    refine g_op (v := Value.bool true) rfl rfl rfl ?_
    refine g_op (v := v2) rfl rfl rfl ?_
    show G _ _ _ _ [_,_,_,_,_,_,_,_,_,_,_,_,_] _
    refine g_op (v := Value.agg (([v2] : List Value) ++ ((encA (encI .i16)) (Ar.rep 4 0) ++ (([Value.bool false] : List Value)))).toArray) rfl rfl (x_buildS (cs := (([v2] : List Value) ++ ((encA (encI .i16)) (Ar.rep 4 0) ++ (([Value.bool false] : List Value))))) (segs := [[Value.slice none 0 0], [Value.int .i16 0, Value.int .i16 0, Value.int .i16 0, Value.int .i16 0], [Value.bool false]]) rfl rfl (fun _ => rfl) ⟨rfl, (fun _ => rfl), rfl, (fun _ => rfl), rfl, (fun _ => rfl), trivial⟩ (by simp only [List.map_cons, List.map_nil, List.forall_mem_cons, List.not_mem_nil, false_implies, implies_true, and_true]; exact ⟨_, rfl, slSize (hs.rd hr0)⟩) (by first | rfl | (simp [ev, encA, slCells (hs.rd hr0)]; done) | (simp [ev, encA, slCells (hs.rd hr0)]; rfl))) ?_
    show G _ _ _ _ [_,_,_,_,_,_,_,_,_,_,_,_,_] _
    refine s_loadA rfl rfl (es := ((encA (encI .i16)) a3)) rfl rfl (fun _ => rfl) (n := 4) (fun _ => rfl) ((fkA (n := 4) (he := (fkI .i16).len) (h1 := (fkI .i16).one)).len _) (cells_all (hs.cells 0 rfl)) ?_
    obtain ⟨r7, Hr7, H⟩ := bind_get H
    refine s_call (args := [Value.agg (([v2] : List Value) ++ ((encA (encI .i16)) (Ar.rep 4 0) ++ (([Value.bool false] : List Value)))).toArray, Value.agg ((encA (encI .i16)) a3).toArray]) rfl rfl (x_call rfl (callFunc_enter Try.func41 rfl rfl) rfl) (_impl_Puzzle_holds.calls (a1 := (⟨a1, (Ar.rep 4 0), false⟩ : S_impl_Puzzle)) (a4 := a3) (hs.rd hr0) Hr7) ?_
    rintro _ w ⟨rfl, hs2⟩
    have hs : St _ [_] _ := hs.call hs2
    refine g_op (v := Value.bool r7) rfl rfl rfl ?_
    show G _ _ _ _ [_,_,_,_,_,_,_,_,_,_,_,_,_] _
    refine g_op (v := Value.bool r7) rfl rfl rfl (g_ops_nil ?_)
    obtain rfl := Option.some.inj H
    refine g_ret Try.func31 (v := Value.bool r7) (res1 rfl rfl) ?_
    have hs : St _ [] _ := St.take (Γ' := [_]) hs
    exact ⟨_, rfl, rfl, hs⟩
  | false =>
    rw [if_neg Bool.false_ne_true] at H
    refine g_op (v := Value.bool false) rfl rfl rfl (g_op_not rfl rfl ?_)
    show G _ _ _ _ [_,_,_,_,_,_,_,_,_,_,_,_,_] _
    refine g_op_not rfl rfl (g_op_not rfl rfl (g_op_not rfl rfl ?_))
    show G _ _ _ _ [_,_,_,_,_,_,_,_,_,_,_,_,_] _
    refine g_op (v := Value.bool false) rfl rfl rfl ?_
    refine g_op (v := Value.bool false) rfl rfl rfl (g_ops_nil ?_)
    obtain rfl := Option.some.inj H
    refine g_ret Try.func31 (v := Value.bool false) (res1 rfl rfl) ?_
    have hs : St _ [] _ := St.take (Γ' := [_]) hs
    exact ⟨_, rfl, rfl, hs⟩

/- function 32 impl_unless -/
def impl_unless.post (w0 : World) (r : Int) (v : Value) (w : World) : Prop := v = Value.int .i64 r ∧ St w0 [] w
set_option maxHeartbeats 8000000 in
set_option maxRecDepth 100000 in
theorem impl_unless.calls {N : Nat} {a1 : Bool} {a2 : Int} {w0 : World} {r : Int} (H : impl_unless.f N a1 a2 = some r) :
    Calls Try.prog 32 #[Value.bool a1, Value.int .i64 a2] w0 fun e w => ∃ v, e = .returned v ∧ impl_unless.post w0 r v w := by
  unfold impl_unless.f at H
  have hs : St w0 [] w0 := St.refl w0
  refine calls_of_g (n := 5) Try.func32 rfl rfl ?_
  show G _ _ _ _ [_,_,_,_,_,_,_] _
  refine g_seq (g_rg [0] rfl ?_)
  refine g_op (v := Value.int .i64 0) rfl rfl rfl (g_ops_nil (g_seq (g_seq (g_rg [0] rfl ?_))))
  refine g_op_b (B := a1) rfl rfl rfl ?_ ?_
  ·
   intro hb
   rw [if_pos (b_var_t hb)] at H
   refine g_ops_nil (g_cond_true rfl (g_seq (g_rg [0] rfl ?_)))
   refine g_op (v := Value.int .i64 0) rfl rfl rfl ?_
   show G _ _ _ _ [_,_,_,_,_,_,_] _
   refine g_ops_nil ?_
   obtain rfl := Option.some.inj H
   refine g_ret Try.func32 (v := Value.int .i64 0) (res1 rfl rfl) ?_
   have hs : St _ [] _ := St.take (Γ' := []) hs
   exact ⟨_, rfl, rfl, hs⟩
  intro hb
  rw [if_neg (b_var_f hb)] at H
  show G _ _ _ _ [_,_,_,_,_,_,_] _
  refine g_ops_nil (g_cond_false rfl (g_skip (g_seq (g_rg [0, 1] rfl ?_))))
  refine g_op (v := Value.int .i64 a2) rfl rfl rfl ?_
  refine g_op (v := Value.int .i64 a2) rfl rfl rfl (g_ops_nil ?_)
  obtain rfl := Option.some.inj H
  refine g_ret Try.func32 (v := Value.int .i64 a2) (res1 rfl rfl) ?_
  have hs : St _ [] _ := St.take (Γ' := []) hs
  exact ⟨_, rfl, rfl, hs⟩

/- function 17 impl_timeCode -/
def impl_timeCode.post (w0 : World) (r : Int) (v : Value) (w : World) : Prop := v = Value.int .i64 r ∧ St w0 [] w
set_option maxHeartbeats 8000000 in
set_option maxRecDepth 100000 in
theorem impl_timeCode.calls {N : Nat} {a1 : (List Int)} {a3 : (Ar Int 4)} {a4 : Int} {v2 : Value} {w0 : World} {r : Int} (hr0 : RdRow (K.int .i16) w0 v2 a1) (H : impl_timeCode.f N a1 a3 a4 = some r) :
    Calls Try.prog 17 #[v2, Value.agg ((encA (encI .i16)) a3).toArray, Value.int .i64 a4] w0 fun e w => ∃ v, e = .returned v ∧ impl_timeCode.post w0 r v w := by
  unfold impl_timeCode.f at H
  have hs : St w0 [] w0 := St.refl w0
  refine calls_of_g (n := 11) Try.func17 rfl rfl ?_
  show G _ _ _ _ [_,_,_,_,_,_,_,_,_,_,_,_,_,_] _
  refine g_seq (g_rg [0, 1] rfl ?_)
  refine s_box hs rfl rfl (cs := ((encA (encI .i16)) a3)) rfl rfl ?_
  intro b5 w hs
  refine g_op (v := Value.int .i64 0) rfl rfl rfl ?_
  show G _ _ _ _ [_,_,_,_,_,_,_,_,_,_,_,_,_,_] _
  refine g_ops_nil (g_seq (g_seq (g_rg [0, 1, 2, 3] rfl ?_)))
  refine g_op (v := v2) rfl rfl rfl ?_
  refine s_loadA rfl rfl (es := ((encA (encI .i16)) a3)) rfl rfl (fun _ => rfl) (n := 4) (fun _ => rfl) ((fkA (n := 4) (he := (fkI .i16).len) (h1 := (fkI .i16).one)).len _) (cells_all (hs.cells 0 rfl)) ?_
  obtain ⟨r7, Hr7, H⟩ := bind_get H
  refine s_call (args := [v2, Value.agg ((encA (encI .i16)) a3).toArray]) rfl rfl (x_call rfl (callFunc_enter Try.func31 rfl rfl) rfl) (impl_ValidTops.calls (a1 := a1) (a3 := a3) (hs.rd hr0) Hr7) ?_
  rintro _ w ⟨rfl, hs2⟩
  have hs : St _ [_] _ := hs.call hs2
  cases r7 with
  | true =>
    rw [if_pos rfl] at H
    refine g_op (v := Value.bool false) rfl rfl rfl (g_ops_nil (g_cond_false rfl (g_skip (g_seq (g_rg [0, 1, 2, 3] rfl ?_)))))
    refine g_op (v := Value.int .i64 a4) rfl rfl rfl ?_
    show G _ _ _ _ [_,_,_,_,_,_,_,_,_,_,_,_,_,_] _
    obtain ⟨r8, Hr8, H⟩ := bind_get H
    refine s_call (args := [Value.int .i64 a4, Value.int .i64 0, Value.int .i64 120]) rfl rfl (x_call rfl (callFunc_enter Try.func33 rfl rfl) rfl) (impl_within.calls (a1 := a4) (a2 := 0) (a3 := 120) Hr8) ?_
    rintro _ w ⟨rfl, hs2⟩
    have hs : St _ [_] _ := hs.call hs2
    obtain ⟨r9, Hr9, H⟩ := bind_get H
    refine s_call (args := [Value.bool r8, Value.int .i64 2]) rfl rfl (x_call rfl (callFunc_enter Try.func32 rfl rfl) rfl) (impl_unless.calls (a1 := r8) (a2 := 2) Hr9) ?_
    rintro _ w ⟨rfl, hs2⟩
    have hs : St _ [_] _ := hs.call hs2
    refine g_op (v := Value.int .i64 r9) rfl rfl rfl ?_
    show G _ _ _ _ [_,_,_,_,_,_,_,_,_,_,_,_,_,_] _
    refine g_ops_nil ?_
    obtain rfl := Option.some.inj H
    refine g_ret Try.func17 (v := Value.int .i64 r9) (res1 rfl rfl) ?_
    have hs : St _ [] _ := St.take (Γ' := [_]) hs
    exact ⟨_, rfl, rfl, hs⟩
  | false =>
    rw [if_neg Bool.false_ne_true] at H
    show G _ _ _ _ [_,_,_,_,_,_,_,_,_,_,_,_,_,_] _
    refine g_op (v := Value.bool true) rfl rfl rfl (g_ops_nil (g_cond_true rfl (g_seq (g_rg [0] rfl ?_))))
    refine g_op (v := Value.int .i64 1) rfl rfl rfl (g_ops_nil ?_)
    obtain rfl := Option.some.inj H
    refine g_ret Try.func17 (v := Value.int .i64 1) (res1 rfl rfl) ?_
    have hs : St _ [] _ := St.take (Γ' := [_]) hs
    exact ⟨_, rfl, rfl, hs⟩

/- function 43 _impl_Glasses_turned -/
def _impl_Glasses_turned.post (w0 : World) (r : (Ar Int 4)) (v : Value) (w : World) : Prop := v = Value.agg ((encA (encI .i16)) r).toArray ∧ St w0 [] w
set_option maxHeartbeats 8000000 in
set_option maxRecDepth 100000 in
theorem _impl_Glasses_turned.calls {N : Nat} {a1 : (List Int)} {a3 : (Ar Int 4)} {a4 : Int} {v2 : Value} {w0 : World} {r : (Ar Int 4)} (hr0 : RdRow (K.int .i16) w0 v2 a1) (H : _impl_Glasses_turned.f N a1 a3 a4 = some r) :
    Calls Try.prog 43 #[v2, Value.agg ((encA (encI .i16)) a3).toArray, Value.int .u8 a4] w0 fun e w => ∃ v, e = .returned v ∧ _impl_Glasses_turned.post w0 r v w := by
  unfold _impl_Glasses_turned.f at H
  have hs : St w0 [] w0 := St.refl w0
  refine calls_of_g (n := 27) Try.func43 rfl rfl ?_
  show G _ _ _ _ [_,_,_,_,_,_,_,_,_,_,_,_,_,_,_,_,_,_,_,_,_,_,_,_,_,_,_,_,_,_] _
  refine g_seq (g_rg [0, 1] rfl ?_)
  refine s_box hs rfl rfl (cs := ((encA (encI .i16)) a3)) rfl rfl ?_
  intro b5 w hs
  refine s_alloc hs rfl rfl (z := (Value.agg #[Value.int .i16 0, Value.int .i16 0, Value.int .i16 0, Value.int .i16 0])) (cs := ((encA (encI .i16)) (Ar.rep 4 0))) rfl (fun _ => rfl) rfl ?_
  intro b7 w hs
  refine g_ops_nil (g_seq (g_seq (g_rg [0, 1, 2] rfl ?_)))
  refine g_op (v := v2) rfl rfl rfl ?_
  refine s_len (hs.rd hr0) rfl rfl rfl rfl rfl ?_
  show G _ _ _ _ [_,_,_,_,_,_,_,_,_,_,_,_,_,_,_,_,_,_,_,_,_,_,_,_,_,_,_,_,_,_] _
  refine g_op (v := Value.int .i64 0) rfl rfl rfl (g_ops_nil ?_)
  obtain ⟨o1_, Ho, Hr1_⟩ := bind_get H
  refine g_block_join (J := fun t w => ∃ x16 : (Ar Int 4), _impl_Glasses_turned.a0 N x16 = some r ∧ Fr t (fun O => ([O 0, O 1, O 2, O 3, Value.pointer (some ⟨b5, 0, none⟩), O 5, Value.pointer (some ⟨b7, 0, none⟩), O 7, O 8, O 9, O 10, O 11, O 12, O 13, O 14, O 15, O 16, O 17, O 18, O 19, O 20, O 21, O 22, O 23, O 24, O 25, O 26, O 27, O 28, O 29] : List Value)) ∧ St w0 [Cells b5 ((encA (encI .i16)) x16) 30, Cells b7 ((encA (encI .i16)) (Ar.rep 4 0)) 30] w) ?_ ?_
  ·
   rintro t w ⟨x16, H, hf, hs⟩
   obtain ⟨O, rfl⟩ := hf.open
   show G _ _ _ _ [_,_,_,_,_,_,_,_,_,_,_,_,_,_,_,_,_,_,_,_,_,_,_,_,_,_,_,_,_,_] _
   unfold _impl_Glasses_turned.a0 at H
   refine g_seq (g_rg [0, 1] rfl ?_)
   refine s_loadA rfl rfl (es := ((encA (encI .i16)) x16)) rfl rfl (fun _ => rfl) (n := 4) (fun _ => rfl) ((fkA (n := 4) (he := (fkI .i16).len) (h1 := (fkI .i16).one)).len _) (cells_all (hs.cells 0 rfl)) ?_
   have hs := hs.pull 1 rfl
   have hs : St _ [_,_] _ := hs
   refine s_storeAll (n := 4) hs ((fkA (n := 4) (he := (fkI .i16).len) (h1 := (fkI .i16).one)).len _) rfl rfl (vs := ((encA (encI .i16)) x16)) rfl rfl rfl (fun _ => rfl) ((fkA (n := 4) (he := (fkI .i16).len) (h1 := (fkI .i16).one)).len _) ((fkA (n := 4) (he := (fkI .i16).len) (h1 := (fkI .i16).one)).one _) ?_
   intro w hs
   refine g_ops_nil ?_
   obtain rfl := Option.some.inj H
   refine g_ret Try.func43 (v := Value.agg ((encA (encI .i16)) x16).toArray) (resC rfl ⟨⟨_, rfl, (run_loadVar_agg (es := ((encA (encI .i16)) x16)) rfl (congrArg (Result.ok · _) ((fkA (n := 4) (he := (fkI .i16).len) (h1 := (fkI .i16).one)).len _).symm) (cells_all (hs.cells 0 rfl)))⟩, trivial⟩) ?_
   have hs : St _ [] _ := St.take (Γ' := [_,_]) hs
   exact ⟨_, rfl, rfl, hs⟩
  intro ha1_
  have hs := hs.pull 0 rfl
  have hs := hs.pull 1 rfl
  have hs : St _ [_,_] _ := St.take (Γ' := []) hs
  refine g_loop_fuel (I := fun n_ t w => ∃ x12 : (Ar Int 4), ∃ x13 : Int, rounds (fun s => _impl_Glasses_turned.b0 N a1 a4 s.1 s.2) n_ (x12, x13) = some o1_ ∧ Fr t (fun O => ([O 0, O 1, Value.int .u8 a4, O 3, Value.pointer (some ⟨b5, 0, none⟩), O 5, Value.pointer (some ⟨b7, 0, none⟩), O 7, O 8, v2, Value.int .i64 (a1.length : Int), Value.int .i64 x13, O 12, O 13, O 14, O 15, O 16, O 17, O 18, O 19, O 20, O 21, O 22, O 23, O 24, O 25, O 26, O 27, O 28, O 29] : List Value)) ∧ St w0 [Cells b5 ((encA (encI .i16)) x12) 30, Cells b7 ((encA (encI .i16)) (Ar.rep 4 0)) 30] w) N ⟨a3, 0, Ho, rfl, hs⟩ ?_ ?_
  ·
   rintro _ _ ⟨x12, x13, h, _⟩
   exact rounds_zero h
  intro n_ ih1_
  rintro t w ⟨x12, x13, Ho, hf, hs⟩
  obtain ⟨O, rfl⟩ := hf.open
  show G _ _ _ _ [_,_,_,_,_,_,_,_,_,_,_,_,_,_,_,_,_,_,_,_,_,_,_,_,_,_,_,_,_,_] _
  obtain ⟨x9_, H, Hx1_⟩ := rounds_succ Ho
  have H : _impl_Glasses_turned.b0 N a1 a4 x12 x13 = some x9_ := H
  unfold _impl_Glasses_turned.b0 at H
  refine g_seq (g_rg [0] rfl ?_)
  refine g_op_b (B := decide (x13 < (a1.length : Int))) rfl rfl rfl ?_ ?_
  ·
   intro hb
   rw [if_pos (b_dec_t hb)] at H
   refine g_ops_nil (g_seq (g_cond_true rfl (g_skip (g_seq ?_))))
   refine g_block_join (J := (fun t w => ∃ x15 : (Ar Int 4), _impl_Glasses_turned.j2 N x13 x15 = some x9_ ∧ Fr t (fun O => ([O 0, O 1, Value.int .u8 a4, O 3, Value.pointer (some ⟨b5, 0, none⟩), O 5, Value.pointer (some ⟨b7, 0, none⟩), O 7, O 8, v2, Value.int .i64 (a1.length : Int), Value.int .i64 x13, O 12, O 13, O 14, O 15, O 16, O 17, O 18, O 19, O 20, O 21, O 22, O 23, O 24, O 25, O 26, O 27, O 28, O 29] : List Value)) ∧ St w0 [Cells b5 ((encA (encI .i16)) x15) 30, Cells b7 ((encA (encI .i16)) (Ar.rep 4 0)) 30] w)) ?_ ?_
   ·
    rintro t w ⟨x15, H, hf, hs⟩
    obtain ⟨O, rfl⟩ := hf.open
    show G _ _ _ _ [_,_,_,_,_,_,_,_,_,_,_,_,_,_,_,_,_,_,_,_,_,_,_,_,_,_,_,_,_,_] _
    unfold _impl_Glasses_turned.j2 at H
    refine g_rg [0, 1] rfl ?_
    refine g_op (v := Value.int .i64 (i64w (x13 + 1))) rfl rfl rfl ?_
    refine g_op (v := Value.int .i64 (i64w (x13 + 1))) rfl rfl rfl (g_ops_nil ?_)
    obtain rfl := Option.some.inj H
    have hs := hs.pull 1 rfl
    have hs := hs.pull 1 rfl
    have hs : St _ [_,_] _ := St.take (Γ' := []) hs
    exact ih1_ _ _ ⟨x15, i64w (x13 + 1), Hx1_, rfl, hs⟩
   intro ha
   refine g_seq (g_rg [0, 1, 2, 3, 4] rfl ?_)
   refine g_op (v := Value.int .i64 x13) rfl rfl rfl ?_
   obtain ⟨g5, H⟩ := ite_get H
   refine s_idx (fkI .i16) 0 (hs.rd hr0) rfl (fun _ => rfl) g5.1 g5.2 rfl rfl rfl rfl rfl ?_
   intro p14 hp14 lp14 op14
   show G _ _ _ _ [_,_,_,_,_,_,_,_,_,_,_,_,_,_,_,_,_,_,_,_,_,_,_,_,_,_,_,_,_,_] _
   refine s_load1 rfl rfl (v := Value.int .i16 (rdL a1 x13 0)) rfl rfl (fun _ => rfl) hp14 ?_
   refine g_op (v := Value.int .i64 x13) rfl rfl rfl ?_
   refine g_op (v := Value.int .i16 (rdL a1 x13 0)) rfl rfl rfl ?_
   show G _ _ _ _ [_,_,_,_,_,_,_,_,_,_,_,_,_,_,_,_,_,_,_,_,_,_,_,_,_,_,_,_,_,_] _
   refine g_ops_nil (g_seq (g_rg [0, 1, 2, 3, 4] rfl ?_))
   refine g_op (v := Value.int .u8 a4) rfl rfl rfl ?_
   refine g_op (v := Value.int .i64 x13) rfl rfl rfl ?_
   obtain ⟨g6, H⟩ := ite_get H
   refine g_op (v := Value.int .u8 (shrI .u8 a4 x13)) rfl rfl (x_shr rfl rfl rfl g6) ?_
   refine g_op (v := Value.int .u8 (bAnd .u8 (shrI .u8 a4 x13) 1)) rfl rfl rfl ?_
   refine g_op_b (B := (bAnd .u8 (shrI .u8 a4 x13) 1) == 1) rfl rfl rfl ?_ ?_
   ·
    intro hb
    rw [if_pos (b_beq_t hb)] at H
    refine g_ops_nil (g_cond_true rfl (g_rg [0, 1, 2, 3, 4, 5, 6, 7] rfl ?_))
    refine g_op (v := Value.int .i64 x13) rfl rfl rfl ?_
    refine g_op (v := Value.int .i16 (rdL a1 x13 0)) rfl rfl rfl ?_
    refine g_op (v := Value.int .i64 x13) rfl rfl rfl ?_
    obtain ⟨g7, H⟩ := ite_get H
    refine s_idxA (n := x13) (m := 1) rfl (fun _ => rfl) g7.1 g7.2 rfl rfl rfl rfl rfl ?_
    refine s_load1 rfl rfl (v := Value.int .i16 (x12.get x13 0)) rfl rfl (fun _ => rfl) (by rw [Nat.zero_add]; exact cells_load (hs.cells 0 rfl) _ _ (encA_at (fkI .i16).len _ _ 0 g7.1 g7.2)) ?_
    show G _ _ _ _ [_,_,_,_,_,_,_,_,_,_,_,_,_,_,_,_,_,_,_,_,_,_,_,_,_,_,_,_,_,_] _
    refine g_op (v := Value.int .i16 (i16w ((rdL a1 x13 0) - (x12.get x13 0)))) rfl rfl rfl ?_
    obtain ⟨g8, H⟩ := ite_get H
    refine s_idxA (n := x13) (m := 1) rfl (fun _ => rfl) g8.1 g8.2 rfl rfl rfl rfl rfl ?_
    refine s_storeA (y := i16w ((rdL a1 x13 0) - (x12.get x13 0))) (fkI .i16).len (fkI .i16).one g8.1 g8.2 hs rfl rfl rfl rfl rfl (fun _ => rfl) ?_
    intro w hs
    refine g_ops_nil ?_
    refine g_inBlock ?_
    have hs := hs.pull 1 rfl
    have hs := hs.pull 1 rfl
    have hs : St _ [_,_] _ := St.take (Γ' := []) hs
    exact ha _ _ ⟨x12.set x13 (i16w ((rdL a1 x13 0) - (x12.get x13 0))), H, rfl, hs⟩
   intro hb
   rw [if_neg (b_beq_f hb)] at H
   show G _ _ _ _ [_,_,_,_,_,_,_,_,_,_,_,_,_,_,_,_,_,_,_,_,_,_,_,_,_,_,_,_,_,_] _
   refine g_ops_nil (g_cond_false rfl (g_skip ?_))
   refine g_inBlock ?_
   have hs := hs.pull 1 rfl
   have hs := hs.pull 1 rfl
   have hs : St _ [_,_] _ := St.take (Γ' := []) hs
   exact ha _ _ ⟨x12, H, rfl, hs⟩
  intro hb
  rw [if_neg (b_dec_f hb)] at H
  refine g_ops_nil (g_seq (g_cond_false rfl ?_))
  obtain rfl := Option.some.inj H
  subst Hx1_
  have hs := hs.pull 1 rfl
  have hs := hs.pull 1 rfl
  have hs : St _ [_,_] _ := St.take (Γ' := []) hs
  refine g_exit rfl ?_
  exact ha1_ _ _ ⟨x12, Hr1_, rfl, hs⟩

end Go.Proofs.YtmnaclghakalmaaX
