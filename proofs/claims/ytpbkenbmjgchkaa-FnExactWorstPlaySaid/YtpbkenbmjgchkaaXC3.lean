/- Contracts, printed by gen.py. -/
import Derived.Test.YtpbkenbmjgchkaaXC2
namespace Go.Proofs.YtpbkenbmjgchkaaX
open Go Go.RowKit Go.Proofs
set_option linter.unusedVariables false
set_option linter.unusedSimpArgs false
/- function 64 slices_IndexFunc_impl_Ask_impl_Ask_at_impl_ValidGame_1 -/
def slices_IndexFunc_impl_Ask_impl_Ask_at_impl_ValidGame_1.post (w0 : World) (r : Int) (v : Value) (w : World) : Prop := v = Value.int .i64 r ∧ St w0 [] w
set_option maxHeartbeats 8000000 in
set_option maxRecDepth 100000 in
theorem slices_IndexFunc_impl_Ask_impl_Ask_at_impl_ValidGame_1.calls {N : Nat} {a1 : (List S_impl_Ask)} {a3 : S_impl_Game} {v2 : Value} {b4 : Nat} {v5 : Value} {w0 : World} {r : Int} (hr0 : RdRow k_S_impl_Ask w0 v2 a1) (hr6 : RdRow k_S_impl_Ask w0 v5 a3.f_Asked) (hp200 : w0.heap[b4]? = some (.cells ((([Value.int .i8 a3.f_Numbers, Value.int .i8 a3.f_Lies, v5] : List Value)) : List Value).toArray 31 (0, 0))) (H : slices_IndexFunc_impl_Ask_impl_Ask_at_impl_ValidGame_1.f N a1 a3 = some r) :
    Calls Try.prog 64 #[v2, Value.func (Fn.func 48) #[] #[Value.pointer (some ⟨b4, 0, none⟩)]] w0 fun e w => ∃ v, e = .returned v ∧ slices_IndexFunc_impl_Ask_impl_Ask_at_impl_ValidGame_1.post w0 r v w := by
  unfold slices_IndexFunc_impl_Ask_impl_Ask_at_impl_ValidGame_1.f at H
  have hs : St w0 [] w0 := St.refl w0
  refine calls_of_g (n := 17) Try.func64 rfl rfl ?_
  show G _ _ _ _ [_, _, _, _, _, _, _, _, _, _, _, _, _, _, _, _, _, _, _] _
  refine g_seq ?_
  refine g_region ?_
  show G _ _ _ (.inRegion _ [0] :: _) _ _
  refine g_op (v := Value.int .i64 0) rfl rfl rfl ?_
  show G _ _ _ _ [_, _, _, _, _, _, _, _, _, _, _, _, _, _, _, _, _, _, _] _
  refine g_ops_nil ?_
  refine g_seq ?_
  refine g_seq ?_
  refine g_region ?_
  show G _ _ _ (.inRegion _ [0, 1, 2] :: _) _ _
  refine g_op (v := v2) rfl rfl rfl ?_
  show G _ _ _ _ [_, _, _, _, _, _, _, _, _, _, _, _, _, _, _, _, _, _, _] _
  refine s_len (hs.rd hr0) rfl rfl rfl rfl rfl ?_
  show G _ _ _ _ [_, _, _, _, _, _, _, _, _, _, _, _, _, _, _, _, _, _, _] _
  refine g_op (v := Value.int .i64 0) rfl rfl rfl ?_
  show G _ _ _ _ [_, _, _, _, _, _, _, _, _, _, _, _, _, _, _, _, _, _, _] _
  refine g_ops_nil ?_
  obtain ⟨o1_, Ho, Hr1_⟩ := bind_get H
  refine g_block_join (J := fun t w => slices_IndexFunc_impl_Ask_impl_Ask_at_impl_ValidGame_1.a0 N = some r ∧ Fr t (fun O => ([O 0, O 1, O 2, O 3, O 4, O 5, O 6, O 7, O 8, O 9, O 10, O 11, O 12, O 13, O 14, O 15, O 16, O 17, O 18] : List Value)) ∧ St w0 [] w) ?_ ?_
  ·
   rintro t w ⟨H, hf, hs⟩
   obtain ⟨O, rfl⟩ := hf.open
   show G _ _ _ _ [_, _, _, _, _, _, _, _, _, _, _, _, _, _, _, _, _, _, _] _
   unfold slices_IndexFunc_impl_Ask_impl_Ask_at_impl_ValidGame_1.a0 at H
   refine g_seq ?_
   refine g_region ?_
   show G _ _ _ (.inRegion _ [0] :: _) _ _
   refine g_op (v := Value.int .i64 (-1)) rfl rfl rfl ?_
   show G _ _ _ _ [_, _, _, _, _, _, _, _, _, _, _, _, _, _, _, _, _, _, _] _
   refine g_ops_nil ?_
   obtain rfl := Option.some.inj H
   refine g_ret Try.func64 (v := Value.int .i64 (-1)) (res1 rfl rfl) ?_
   have hs : St _ [] _ := St.take (Γ' := []) hs
   exact ⟨_, rfl, rfl, hs⟩
  ·
   intro ha1_
   have hs : St _ [] _ := St.take (Γ' := []) hs
   refine g_loop_fuel (I := fun n_ t w => ∃ x8 : Int, rounds (fun s => slices_IndexFunc_impl_Ask_impl_Ask_at_impl_ValidGame_1.b0 N a1 a3 s) n_ x8 = some o1_ ∧ Fr t (fun O => ([v2, Value.func (Fn.func 48) #[] #[Value.pointer (some ⟨b4, 0, none⟩)], O 2, O 3, O 4, O 5, O 6, Value.int .i64 (a1.length : Int), Value.int .i64 x8, O 9, O 10, O 11, O 12, O 13, O 14, O 15, O 16, O 17, O 18] : List Value)) ∧ St w0 [] w) N ⟨0, Ho, rfl, hs⟩ ?_ ?_
   ·
    rintro _ _ ⟨x8, h, _⟩
    exact rounds_zero h
   ·
    intro n_ ih1_
    rintro t w ⟨x8, Ho, hf, hs⟩
    obtain ⟨O, rfl⟩ := hf.open
    show G _ _ _ _ [_, _, _, _, _, _, _, _, _, _, _, _, _, _, _, _, _, _, _] _
    obtain ⟨x2_, H, Hx1_⟩ := rounds_succ Ho
    have H : slices_IndexFunc_impl_Ask_impl_Ask_at_impl_ValidGame_1.b0 N a1 a3 x8 = some x2_ := H
    unfold slices_IndexFunc_impl_Ask_impl_Ask_at_impl_ValidGame_1.b0 at H
    refine g_seq ?_
    refine g_region ?_
    show G _ _ _ (.inRegion _ [0] :: _) _ _
    refine g_op_b (B := decide (x8 < (a1.length : Int))) rfl rfl rfl ?_ ?_
    ·
     intro hb
     rw [if_pos (b_dec_t hb)] at H
     show G _ _ _ _ [_, _, _, _, _, _, _, _, _, _, _, _, _, _, _, _, _, _, _] _
     refine g_ops_nil ?_
     refine g_seq ?_
     refine g_cond_true rfl ?_
     refine g_skip ?_
     refine g_seq ?_
     refine g_block ?_
     refine g_seq ?_
     refine g_region ?_
     show G _ _ _ (.inRegion _ [0, 1] :: _) _ _
     refine g_op (v := Value.int .i64 x8) rfl rfl rfl ?_
     show G _ _ _ _ [_, _, _, _, _, _, _, _, _, _, _, _, _, _, _, _, _, _, _] _
     refine g_op (v := Value.int .i64 x8) rfl rfl rfl ?_
     show G _ _ _ _ [_, _, _, _, _, _, _, _, _, _, _, _, _, _, _, _, _, _, _] _
     refine g_ops_nil ?_
     refine g_seq ?_
     refine g_region ?_
     show G _ _ _ (.inRegion _ [0, 1, 2, 3, 4, 5] :: _) _ _
     refine g_op (v := Value.func (Fn.func 48) #[] #[Value.pointer (some ⟨b4, 0, none⟩)]) rfl rfl rfl ?_
     show G _ _ _ _ [_, _, _, _, _, _, _, _, _, _, _, _, _, _, _, _, _, _, _] _
     refine g_op (v := v2) rfl rfl rfl ?_
     show G _ _ _ _ [_, _, _, _, _, _, _, _, _, _, _, _, _, _, _, _, _, _, _] _
     refine g_op (v := Value.int .i64 x8) rfl rfl rfl ?_
     show G _ _ _ _ [_, _, _, _, _, _, _, _, _, _, _, _, _, _, _, _, _, _, _] _
     obtain ⟨g1, H⟩ := ite_get H
     refine s_idx fk_S_impl_Ask z_S_impl_Ask (hs.rd hr0) rfl (fun _ => rfl) g1.1 g1.2 rfl rfl rfl rfl rfl ?_
     intro p9 hp9 lp9 op9
     show G _ _ _ _ [_, _, _, _, _, _, _, _, _, _, _, _, _, _, _, _, _, _, _] _
     refine s_loadA rfl rfl (es := (enc_S_impl_Ask (rdL a1 x8 z_S_impl_Ask))) rfl rfl (fun _ => rfl) (n := 2) (fun _ => rfl) (fk_S_impl_Ask.len _) hp9 ?_
     show G _ _ _ _ [_, _, _, _, _, _, _, _, _, _, _, _, _, _, _, _, _, _, _] _
     obtain ⟨r10, Hr10, H⟩ := bind_get H
     refine s_call (args := [Value.agg (enc_S_impl_Ask (rdL a1 x8 z_S_impl_Ask)).toArray, Value.pointer (some ⟨b4, 0, none⟩)]) rfl rfl (x_callC rfl (callFunc_enter Try.func48 rfl rfl) rfl rfl) (impl_ValidGame_1.calls (a1 := rdL a1 x8 z_S_impl_Ask) (a2 := (⟨a3.f_Numbers, a3.f_Lies, a3.f_Asked⟩ : S_impl_Game)) (hs.rd hr6) (hs.box hp200) Hr10) ?_
     rintro _ w ⟨rfl, hs2⟩
     have hs : St _ [] _ := hs.call hs2
     cases r10 with
     | true =>
       rw [if_pos rfl] at H
       show G _ _ _ _ [_, _, _, _, _, _, _, _, _, _, _, _, _, _, _, _, _, _, _] _
       refine g_ops_nil ?_
       refine g_cond_true rfl ?_
       refine g_seq ?_
       refine g_region ?_
       show G _ _ _ (.inRegion _ [0, 1] :: _) _ _
       refine g_op (v := Value.int .i64 x8) rfl rfl rfl ?_
       show G _ _ _ _ [_, _, _, _, _, _, _, _, _, _, _, _, _, _, _, _, _, _, _] _
       refine g_op (v := Value.int .i64 x8) rfl rfl rfl ?_
       show G _ _ _ _ [_, _, _, _, _, _, _, _, _, _, _, _, _, _, _, _, _, _, _] _
       refine g_ops_nil ?_
       obtain rfl := Option.some.inj H
       subst Hx1_
       have H := Option.some.inj Hr1_
       subst H
       refine g_ret Try.func64 (v := Value.int .i64 x8) (res1 rfl rfl) ?_
       have hs : St _ [] _ := St.take (Γ' := []) hs
       exact ⟨_, rfl, rfl, hs⟩
     | false =>
       rw [if_neg Bool.false_ne_true] at H
       show G _ _ _ _ [_, _, _, _, _, _, _, _, _, _, _, _, _, _, _, _, _, _, _] _
       refine g_ops_nil ?_
       refine g_cond_false rfl ?_
       refine g_skip ?_
       refine g_inBlock ?_
       refine g_region ?_
       show G _ _ _ (.inRegion _ [0, 1] :: _) _ _
       refine g_op (v := Value.int .i64 (i64w (x8 + 1))) rfl rfl rfl ?_
       show G _ _ _ _ [_, _, _, _, _, _, _, _, _, _, _, _, _, _, _, _, _, _, _] _
       refine g_op (v := Value.int .i64 (i64w (x8 + 1))) rfl rfl rfl ?_
       show G _ _ _ _ [_, _, _, _, _, _, _, _, _, _, _, _, _, _, _, _, _, _, _] _
       refine g_ops_nil ?_
       obtain rfl := Option.some.inj H
       have hs : St _ [] _ := St.take (Γ' := []) hs
       exact ih1_ _ _ ⟨i64w (x8 + 1), Hx1_, rfl, hs⟩
    ·
     intro hb
     rw [if_neg (b_dec_f hb)] at H
     show G _ _ _ _ [_, _, _, _, _, _, _, _, _, _, _, _, _, _, _, _, _, _, _] _
     refine g_ops_nil ?_
     refine g_seq ?_
     refine g_cond_false rfl ?_
     obtain rfl := Option.some.inj H
     subst Hx1_
     have hs : St _ [] _ := St.take (Γ' := []) hs
     refine g_exit rfl ?_
     exact ha1_ _ _ ⟨Hr1_, rfl, hs⟩

/- function 47 slices_ContainsFunc_impl_Ask_impl_Ask_at_impl_ValidGame_1 -/
def slices_ContainsFunc_impl_Ask_impl_Ask_at_impl_ValidGame_1.post (w0 : World) (r : Bool) (v : Value) (w : World) : Prop := v = Value.bool r ∧ St w0 [] w
set_option maxHeartbeats 8000000 in
set_option maxRecDepth 100000 in
theorem slices_ContainsFunc_impl_Ask_impl_Ask_at_impl_ValidGame_1.calls {N : Nat} {a1 : (List S_impl_Ask)} {a3 : S_impl_Game} {v2 : Value} {b4 : Nat} {v5 : Value} {w0 : World} {r : Bool} (hr0 : RdRow k_S_impl_Ask w0 v2 a1) (hr6 : RdRow k_S_impl_Ask w0 v5 a3.f_Asked) (hp200 : w0.heap[b4]? = some (.cells ((([Value.int .i8 a3.f_Numbers, Value.int .i8 a3.f_Lies, v5] : List Value)) : List Value).toArray 31 (0, 0))) (H : slices_ContainsFunc_impl_Ask_impl_Ask_at_impl_ValidGame_1.f N a1 a3 = some r) :
    Calls Try.prog 47 #[v2, Value.func (Fn.func 48) #[] #[Value.pointer (some ⟨b4, 0, none⟩)]] w0 fun e w => ∃ v, e = .returned v ∧ slices_ContainsFunc_impl_Ask_impl_Ask_at_impl_ValidGame_1.post w0 r v w := by
  unfold slices_ContainsFunc_impl_Ask_impl_Ask_at_impl_ValidGame_1.f at H
  have hs : St w0 [] w0 := St.refl w0
  refine calls_of_g (n := 7) Try.func47 rfl rfl ?_
  show G _ _ _ _ [_, _, _, _, _, _, _, _, _] _
  refine g_seq ?_
  refine g_region ?_
  show G _ _ _ (.inRegion _ [0] :: _) _ _
  refine g_op (v := Value.bool false) rfl rfl rfl ?_
  show G _ _ _ _ [_, _, _, _, _, _, _, _, _] _
  refine g_ops_nil ?_
  refine g_seq ?_
  refine g_region ?_
  show G _ _ _ (.inRegion _ [0, 1, 2, 3, 4] :: _) _ _
  refine g_op (v := v2) rfl rfl rfl ?_
  show G _ _ _ _ [_, _, _, _, _, _, _, _, _] _
  refine g_op (v := Value.func (Fn.func 48) #[] #[Value.pointer (some ⟨b4, 0, none⟩)]) rfl rfl rfl ?_
  show G _ _ _ _ [_, _, _, _, _, _, _, _, _] _
  obtain ⟨r8, Hr8, H⟩ := bind_get H
  refine s_call (args := [v2, Value.func (Fn.func 48) #[] #[Value.pointer (some ⟨b4, 0, none⟩)]]) rfl rfl (x_call rfl (callFunc_enter Try.func64 rfl rfl) rfl) (slices_IndexFunc_impl_Ask_impl_Ask_at_impl_ValidGame_1.calls (a1 := a1) (a3 := (⟨a3.f_Numbers, a3.f_Lies, a3.f_Asked⟩ : S_impl_Game)) (hs.rd hr0) (hs.rd hr6) (hs.box hp200) Hr8) ?_
  rintro _ w ⟨rfl, hs2⟩
  have hs : St _ [] _ := hs.call hs2
  show G _ _ _ _ [_, _, _, _, _, _, _, _, _] _
  refine g_op (v := Value.bool (decide (r8 ≥ 0))) rfl rfl rfl ?_
  show G _ _ _ _ [_, _, _, _, _, _, _, _, _] _
  refine g_op (v := Value.bool (decide (r8 ≥ 0))) rfl rfl rfl ?_
  show G _ _ _ _ [_, _, _, _, _, _, _, _, _] _
  refine g_ops_nil ?_
  obtain rfl := Option.some.inj H
  refine g_ret Try.func47 (v := Value.bool (decide (r8 ≥ 0))) (res1 rfl rfl) ?_
  have hs : St _ [] _ := St.take (Γ' := []) hs
  exact ⟨_, rfl, rfl, hs⟩

/- function 30 impl_ValidGame -/
def impl_ValidGame.post (w0 : World) (r : Bool) (v : Value) (w : World) : Prop := v = Value.bool r ∧ St w0 [] w
set_option maxHeartbeats 8000000 in
set_option maxRecDepth 100000 in
theorem impl_ValidGame.calls {N : Nat} {a1 : S_impl_Game} {v2 : Value} {w0 : World} {r : Bool} (hr3 : RdRow k_S_impl_Ask w0 v2 a1.f_Asked) (H : impl_ValidGame.f N a1 = some r) :
    Calls Try.prog 30 #[Value.agg (([Value.int .i8 a1.f_Numbers, Value.int .i8 a1.f_Lies, v2] : List Value)).toArray] w0 fun e w => ∃ v, e = .returned v ∧ impl_ValidGame.post w0 r v w := by
  unfold impl_ValidGame.f at H
  have hs : St w0 [] w0 := St.refl w0
  refine calls_of_g (n := 22) Try.func30 rfl rfl ?_
  show G _ _ _ _ [_, _, _, _, _, _, _, _, _, _, _, _, _, _, _, _, _, _, _, _, _, _, _] _
  refine g_seq ?_
  refine g_region ?_
  show G _ _ _ (.inRegion _ [0, 1] :: _) _ _
  refine s_box hs rfl rfl (cs := (([Value.int .i8 a1.f_Numbers, Value.int .i8 a1.f_Lies, v2] : List Value))) rfl rfl ?_
  intro b4 w hs
  show G _ _ _ _ [_, _, _, _, _, _, _, _, _, _, _, _, _, _, _, _, _, _, _, _, _, _, _] _
  refine g_op (v := Value.bool false) rfl rfl rfl ?_
  show G _ _ _ _ [_, _, _, _, _, _, _, _, _, _, _, _, _, _, _, _, _, _, _, _, _, _, _] _
  refine g_ops_nil ?_
  refine g_seq ?_
  refine g_region ?_
  show G _ _ _ (.inRegion _ [0, 1, 2, 3, 4, 5, 6, 7, 8, 9, 10, 11, 12, 13, 14, 15, 16, 17, 18, 19, 20] :: _) _ _
  refine g_op (v := Value.pointer (some ⟨b4, 0, none⟩)) rfl rfl rfl ?_
  show G _ _ _ _ [_, _, _, _, _, _, _, _, _, _, _, _, _, _, _, _, _, _, _, _, _, _, _] _
  refine s_load1 rfl rfl (v := Value.int .i8 a1.f_Numbers) rfl rfl (fun _ => rfl) (cells_load (hs.cells 0 rfl) 0 1 rfl) ?_
  show G _ _ _ _ [_, _, _, _, _, _, _, _, _, _, _, _, _, _, _, _, _, _, _, _, _, _, _] _
  refine g_op (v := Value.int .i64 (i64w a1.f_Numbers)) rfl rfl rfl ?_
  show G _ _ _ _ [_, _, _, _, _, _, _, _, _, _, _, _, _, _, _, _, _, _, _, _, _, _, _] _
  refine g_op (v := Value.pointer (some ⟨b4, 1, none⟩)) rfl rfl rfl ?_
  show G _ _ _ _ [_, _, _, _, _, _, _, _, _, _, _, _, _, _, _, _, _, _, _, _, _, _, _] _
  refine s_load1 rfl rfl (v := Value.int .i8 a1.f_Lies) rfl rfl (fun _ => rfl) (cells_load (hs.cells 0 rfl) 1 1 rfl) ?_
  show G _ _ _ _ [_, _, _, _, _, _, _, _, _, _, _, _, _, _, _, _, _, _, _, _, _, _, _] _
  refine g_op (v := Value.int .i64 (i64w a1.f_Lies)) rfl rfl rfl ?_
  show G _ _ _ _ [_, _, _, _, _, _, _, _, _, _, _, _, _, _, _, _, _, _, _, _, _, _, _] _
  obtain ⟨r6, Hr6, H⟩ := bind_get H
  refine s_call (args := [Value.int .i64 (i64w a1.f_Numbers), Value.int .i64 (i64w a1.f_Lies)]) rfl rfl (x_call rfl (callFunc_enter Try.func37 rfl rfl) rfl) (impl_isGame.calls (a1 := i64w a1.f_Numbers) (a2 := i64w a1.f_Lies) Hr6) ?_
  rintro _ w ⟨rfl, hs2⟩
  have hs : St _ [_] _ := hs.call hs2
  cases r6 with
  | true =>
    rw [if_pos rfl] at H
    show G _ _ _ _ [_, _, _, _, _, _, _, _, _, _, _, _, _, _, _, _, _, _, _, _, _, _, _] _
    refine g_op (v := Value.bool true) rfl rfl rfl ?_
    show G _ _ _ _ [_, _, _, _, _, _, _, _, _, _, _, _, _, _, _, _, _, _, _, _, _, _, _] _
    refine g_op (v := Value.pointer (some ⟨b4, 2, none⟩)) rfl rfl rfl ?_
    show G _ _ _ _ [_, _, _, _, _, _, _, _, _, _, _, _, _, _, _, _, _, _, _, _, _, _, _] _
    refine s_load1 rfl rfl (v := v2) rfl rfl (fun _ => rfl) (cells_load (hs.cells 0 rfl) 2 1 rfl) ?_
    show G _ _ _ _ [_, _, _, _, _, _, _, _, _, _, _, _, _, _, _, _, _, _, _, _, _, _, _] _
    refine s_len (hs.rd hr3) rfl rfl rfl rfl rfl ?_
    show G _ _ _ _ [_, _, _, _, _, _, _, _, _, _, _, _, _, _, _, _, _, _, _, _, _, _, _] _
    refine g_op (v := Value.bool (decide ((a1.f_Asked.length : Int) ≤ 60))) rfl rfl rfl ?_
    show G _ _ _ _ [_, _, _, _, _, _, _, _, _, _, _, _, _, _, _, _, _, _, _, _, _, _, _] _
    refine g_op_b (B := decide ((a1.f_Asked.length : Int) ≤ 60)) rfl rfl rfl ?_ ?_
    ·
     intro hb
     rw [if_pos (b_dec_t hb)] at H
     show G _ _ _ _ [_, _, _, _, _, _, _, _, _, _, _, _, _, _, _, _, _, _, _, _, _, _, _] _
     refine g_op (v := Value.bool true) rfl rfl rfl ?_
     show G _ _ _ _ [_, _, _, _, _, _, _, _, _, _, _, _, _, _, _, _, _, _, _, _, _, _, _] _
     refine g_op (v := Value.pointer (some ⟨b4, 2, none⟩)) rfl rfl rfl ?_
     show G _ _ _ _ [_, _, _, _, _, _, _, _, _, _, _, _, _, _, _, _, _, _, _, _, _, _, _] _
     refine s_load1 rfl rfl (v := v2) rfl rfl (fun _ => rfl) (cells_load (hs.cells 0 rfl) 2 1 rfl) ?_
     show G _ _ _ _ [_, _, _, _, _, _, _, _, _, _, _, _, _, _, _, _, _, _, _, _, _, _, _] _
     refine g_op (v := Value.func (Fn.func 48) #[] #[Value.pointer (some ⟨b4, 0, none⟩)]) rfl rfl (x_mkfunc rfl rfl) ?_
     show G _ _ _ _ [_, _, _, _, _, _, _, _, _, _, _, _, _, _, _, _, _, _, _, _, _, _, _] _
     obtain ⟨r7, Hr7, H⟩ := bind_get H
     refine s_call (args := [v2, Value.func (Fn.func 48) #[] #[Value.pointer (some ⟨b4, 0, none⟩)]]) rfl rfl (x_call rfl (callFunc_enter Try.func47 rfl rfl) rfl) (slices_ContainsFunc_impl_Ask_impl_Ask_at_impl_ValidGame_1.calls (a1 := a1.f_Asked) (a3 := (⟨a1.f_Numbers, a1.f_Lies, a1.f_Asked⟩ : S_impl_Game)) (hs.rd hr3) (hs.rd hr3) (hs.cells 0 rfl) Hr7) ?_
     rintro _ w ⟨rfl, hs2⟩
     have hs : St _ [_] _ := hs.call hs2
     show G _ _ _ _ [_, _, _, _, _, _, _, _, _, _, _, _, _, _, _, _, _, _, _, _, _, _, _] _
     refine g_op (v := Value.bool (!r7)) rfl rfl rfl ?_
     show G _ _ _ _ [_, _, _, _, _, _, _, _, _, _, _, _, _, _, _, _, _, _, _, _, _, _, _] _
     refine g_op (v := Value.bool (!r7)) rfl rfl rfl ?_
     show G _ _ _ _ [_, _, _, _, _, _, _, _, _, _, _, _, _, _, _, _, _, _, _, _, _, _, _] _
     refine g_op (v := Value.bool (!r7)) rfl rfl rfl ?_
     show G _ _ _ _ [_, _, _, _, _, _, _, _, _, _, _, _, _, _, _, _, _, _, _, _, _, _, _] _
     refine g_ops_nil ?_
     obtain rfl := Option.some.inj H
     refine g_ret Try.func30 (v := Value.bool (!r7)) (res1 rfl rfl) ?_
     have hs : St _ [] _ := St.take (Γ' := [_]) hs
     exact ⟨_, rfl, rfl, hs⟩
    ·
     intro hb
     rw [if_neg (b_dec_f hb)] at H
     show G _ _ _ _ [_, _, _, _, _, _, _, _, _, _, _, _, _, _, _, _, _, _, _, _, _, _, _] _
     refine g_op (v := Value.bool false) rfl rfl rfl ?_
     show G _ _ _ _ [_, _, _, _, _, _, _, _, _, _, _, _, _, _, _, _, _, _, _, _, _, _, _] _
     refine g_op_not rfl rfl ?_
     show G _ _ _ _ [_, _, _, _, _, _, _, _, _, _, _, _, _, _, _, _, _, _, _, _, _, _, _] _
     refine g_op_not rfl rfl ?_
     show G _ _ _ _ [_, _, _, _, _, _, _, _, _, _, _, _, _, _, _, _, _, _, _, _, _, _, _] _
     refine g_op_not rfl rfl ?_
     show G _ _ _ _ [_, _, _, _, _, _, _, _, _, _, _, _, _, _, _, _, _, _, _, _, _, _, _] _
     refine g_op_not rfl rfl ?_
     show G _ _ _ _ [_, _, _, _, _, _, _, _, _, _, _, _, _, _, _, _, _, _, _, _, _, _, _] _
     refine g_op_not rfl rfl ?_
     show G _ _ _ _ [_, _, _, _, _, _, _, _, _, _, _, _, _, _, _, _, _, _, _, _, _, _, _] _
     refine g_op (v := Value.bool false) rfl rfl rfl ?_
     show G _ _ _ _ [_, _, _, _, _, _, _, _, _, _, _, _, _, _, _, _, _, _, _, _, _, _, _] _
     refine g_op (v := Value.bool false) rfl rfl rfl ?_
     show G _ _ _ _ [_, _, _, _, _, _, _, _, _, _, _, _, _, _, _, _, _, _, _, _, _, _, _] _
     refine g_ops_nil ?_
     obtain rfl := Option.some.inj H
     refine g_ret Try.func30 (v := Value.bool false) (res1 rfl rfl) ?_
     have hs : St _ [] _ := St.take (Γ' := [_]) hs
     exact ⟨_, rfl, rfl, hs⟩
  | false =>
    rw [if_neg Bool.false_ne_true] at H
    show G _ _ _ _ [_, _, _, _, _, _, _, _, _, _, _, _, _, _, _, _, _, _, _, _, _, _, _] _
    refine g_op (v := Value.bool false) rfl rfl rfl ?_
    show G _ _ _ _ [_, _, _, _, _, _, _, _, _, _, _, _, _, _, _, _, _, _, _, _, _, _, _] _
    refine g_op_not rfl rfl ?_
    show G _ _ _ _ [_, _, _, _, _, _, _, _, _, _, _, _, _, _, _, _, _, _, _, _, _, _, _] _
    refine g_op_not rfl rfl ?_
    show G _ _ _ _ [_, _, _, _, _, _, _, _, _, _, _, _, _, _, _, _, _, _, _, _, _, _, _] _
    refine g_op_not rfl rfl ?_
    show G _ _ _ _ [_, _, _, _, _, _, _, _, _, _, _, _, _, _, _, _, _, _, _, _, _, _, _] _
    refine g_op_not rfl rfl ?_
    show G _ _ _ _ [_, _, _, _, _, _, _, _, _, _, _, _, _, _, _, _, _, _, _, _, _, _, _] _
    refine g_op (v := Value.bool false) rfl rfl rfl ?_
    show G _ _ _ _ [_, _, _, _, _, _, _, _, _, _, _, _, _, _, _, _, _, _, _, _, _, _, _] _
    refine g_op (v := Value.bool false) rfl rfl rfl ?_
    show G _ _ _ _ [_, _, _, _, _, _, _, _, _, _, _, _, _, _, _, _, _, _, _, _, _, _, _] _
    refine g_op_not rfl rfl ?_
    show G _ _ _ _ [_, _, _, _, _, _, _, _, _, _, _, _, _, _, _, _, _, _, _, _, _, _, _] _
    refine g_op_not rfl rfl ?_
    show G _ _ _ _ [_, _, _, _, _, _, _, _, _, _, _, _, _, _, _, _, _, _, _, _, _, _, _] _
    refine g_op_not rfl rfl ?_
    show G _ _ _ _ [_, _, _, _, _, _, _, _, _, _, _, _, _, _, _, _, _, _, _, _, _, _, _] _
    refine g_op_not rfl rfl ?_
    show G _ _ _ _ [_, _, _, _, _, _, _, _, _, _, _, _, _, _, _, _, _, _, _, _, _, _, _] _
    refine g_op_not rfl rfl ?_
    show G _ _ _ _ [_, _, _, _, _, _, _, _, _, _, _, _, _, _, _, _, _, _, _, _, _, _, _] _
    refine g_op (v := Value.bool false) rfl rfl rfl ?_
    show G _ _ _ _ [_, _, _, _, _, _, _, _, _, _, _, _, _, _, _, _, _, _, _, _, _, _, _] _
    refine g_op (v := Value.bool false) rfl rfl rfl ?_
    show G _ _ _ _ [_, _, _, _, _, _, _, _, _, _, _, _, _, _, _, _, _, _, _, _, _, _, _] _
    refine g_ops_nil ?_
    obtain rfl := Option.some.inj H
    refine g_ret Try.func30 (v := Value.bool false) (res1 rfl rfl) ?_
    have hs : St _ [] _ := St.take (Γ' := [_]) hs
    exact ⟨_, rfl, rfl, hs⟩

/- function 43 impl_AnswerTo -/
def impl_AnswerTo.post (w0 : World) (r : Bool) (v : Value) (w : World) : Prop := v = Value.bool r ∧ St w0 [] w
set_option maxHeartbeats 8000000 in
set_option maxRecDepth 100000 in
theorem impl_AnswerTo.calls {N : Nat} {a1 : Int} {a2 : Int} {a3 : Bool} {w0 : World} {r : Bool} (H : impl_AnswerTo.f N a1 a2 a3 = some r) :
    Calls Try.prog 43 #[Value.int .u64 a1, Value.int .i64 a2, Value.bool a3] w0 fun e w => ∃ v, e = .returned v ∧ impl_AnswerTo.post w0 r v w := by
  unfold impl_AnswerTo.f at H
  have hs : St w0 [] w0 := St.refl w0
  refine calls_of_g (n := 16) Try.func43 rfl rfl ?_
  show G _ _ _ _ [_, _, _, _, _, _, _, _, _, _, _, _, _, _, _, _, _, _, _] _
  refine g_seq ?_
  refine g_region ?_
  show G _ _ _ (.inRegion _ [0] :: _) _ _
  refine g_op (v := Value.bool false) rfl rfl rfl ?_
  show G _ _ _ _ [_, _, _, _, _, _, _, _, _, _, _, _, _, _, _, _, _, _, _] _
  refine g_ops_nil ?_
  refine g_seq ?_
  refine g_region ?_
  show G _ _ _ (.inRegion _ [0, 1, 2, 3, 4, 5, 6, 7, 8, 9, 10, 11, 12] :: _) _ _
  refine g_op (v := Value.int .i64 a2) rfl rfl rfl ?_
  show G _ _ _ _ [_, _, _, _, _, _, _, _, _, _, _, _, _, _, _, _, _, _, _] _
  obtain ⟨r4, Hr4, H⟩ := bind_get H
  refine s_call (args := [Value.int .i64 a2, Value.int .i64 0, Value.int .i64 63]) rfl rfl (x_call rfl (callFunc_enter Try.func40 rfl rfl) rfl) (impl_within.calls (a1 := a2) (a2 := 0) (a3 := 63) Hr4) ?_
  rintro _ w ⟨rfl, hs2⟩
  have hs : St _ [] _ := hs.call hs2
  cases r4 with
  | true =>
    rw [if_pos rfl] at H
    show G _ _ _ _ [_, _, _, _, _, _, _, _, _, _, _, _, _, _, _, _, _, _, _] _
    refine g_op (v := Value.bool true) rfl rfl rfl ?_
    show G _ _ _ _ [_, _, _, _, _, _, _, _, _, _, _, _, _, _, _, _, _, _, _] _
    refine g_op (v := Value.int .u64 a1) rfl rfl rfl ?_
    show G _ _ _ _ [_, _, _, _, _, _, _, _, _, _, _, _, _, _, _, _, _, _, _] _
    refine g_op (v := Value.int .i64 a2) rfl rfl rfl ?_
    show G _ _ _ _ [_, _, _, _, _, _, _, _, _, _, _, _, _, _, _, _, _, _, _] _
    refine g_op (v := Value.int .i64 (mxI a2 0)) rfl rfl (x_max rfl rfl rfl) ?_
    show G _ _ _ _ [_, _, _, _, _, _, _, _, _, _, _, _, _, _, _, _, _, _, _] _
    obtain ⟨g1, H⟩ := ite_get H
    refine g_op (v := Value.int .u64 (shrI .u64 a1 (mxI a2 0))) rfl rfl (x_shr rfl rfl rfl g1) ?_
    show G _ _ _ _ [_, _, _, _, _, _, _, _, _, _, _, _, _, _, _, _, _, _, _] _
    refine g_op (v := Value.int .u64 (bAnd .u64 (shrI .u64 a1 (mxI a2 0)) 1)) rfl rfl rfl ?_
    show G _ _ _ _ [_, _, _, _, _, _, _, _, _, _, _, _, _, _, _, _, _, _, _] _
    refine g_op (v := Value.bool ((bAnd .u64 (shrI .u64 a1 (mxI a2 0)) 1) == 1)) rfl rfl rfl ?_
    show G _ _ _ _ [_, _, _, _, _, _, _, _, _, _, _, _, _, _, _, _, _, _, _] _
    refine g_op (v := Value.bool ((bAnd .u64 (shrI .u64 a1 (mxI a2 0)) 1) == 1)) rfl rfl rfl ?_
    show G _ _ _ _ [_, _, _, _, _, _, _, _, _, _, _, _, _, _, _, _, _, _, _] _
    refine g_op (v := Value.bool a3) rfl rfl rfl ?_
    show G _ _ _ _ [_, _, _, _, _, _, _, _, _, _, _, _, _, _, _, _, _, _, _] _
    refine g_op (v := Value.bool (((bAnd .u64 (shrI .u64 a1 (mxI a2 0)) 1) == 1) != a3)) rfl rfl rfl ?_
    show G _ _ _ _ [_, _, _, _, _, _, _, _, _, _, _, _, _, _, _, _, _, _, _] _
    refine g_op (v := Value.bool (((bAnd .u64 (shrI .u64 a1 (mxI a2 0)) 1) == 1) != a3)) rfl rfl rfl ?_
    show G _ _ _ _ [_, _, _, _, _, _, _, _, _, _, _, _, _, _, _, _, _, _, _] _
    refine g_ops_nil ?_
    obtain rfl := Option.some.inj H
    refine g_ret Try.func43 (v := Value.bool (((bAnd .u64 (shrI .u64 a1 (mxI a2 0)) 1) == 1) != a3)) (res1 rfl rfl) ?_
    have hs : St _ [] _ := St.take (Γ' := []) hs
    exact ⟨_, rfl, rfl, hs⟩
  | false =>
    rw [if_neg Bool.false_ne_true] at H
    show G _ _ _ _ [_, _, _, _, _, _, _, _, _, _, _, _, _, _, _, _, _, _, _] _
    refine g_op (v := Value.bool false) rfl rfl rfl ?_
    show G _ _ _ _ [_, _, _, _, _, _, _, _, _, _, _, _, _, _, _, _, _, _, _] _
    refine g_op_not rfl rfl ?_
    show G _ _ _ _ [_, _, _, _, _, _, _, _, _, _, _, _, _, _, _, _, _, _, _] _
    refine g_op_not rfl rfl ?_
    show G _ _ _ _ [_, _, _, _, _, _, _, _, _, _, _, _, _, _, _, _, _, _, _] _
    refine g_op_not rfl rfl ?_
    show G _ _ _ _ [_, _, _, _, _, _, _, _, _, _, _, _, _, _, _, _, _, _, _] _
    refine g_op_not rfl rfl ?_
    show G _ _ _ _ [_, _, _, _, _, _, _, _, _, _, _, _, _, _, _, _, _, _, _] _
    refine g_op_not rfl rfl ?_
    show G _ _ _ _ [_, _, _, _, _, _, _, _, _, _, _, _, _, _, _, _, _, _, _] _
    refine g_op_not rfl rfl ?_
    show G _ _ _ _ [_, _, _, _, _, _, _, _, _, _, _, _, _, _, _, _, _, _, _] _
    refine g_op (v := Value.bool false) rfl rfl rfl ?_
    show G _ _ _ _ [_, _, _, _, _, _, _, _, _, _, _, _, _, _, _, _, _, _, _] _
    refine g_op (v := Value.bool a3) rfl rfl rfl ?_
    show G _ _ _ _ [_, _, _, _, _, _, _, _, _, _, _, _, _, _, _, _, _, _, _] _
    refine g_op (v := Value.bool (false != a3)) rfl rfl rfl ?_
    show G _ _ _ _ [_, _, _, _, _, _, _, _, _, _, _, _, _, _, _, _, _, _, _] _
    refine g_op (v := Value.bool (false != a3)) rfl rfl rfl ?_
    show G _ _ _ _ [_, _, _, _, _, _, _, _, _, _, _, _, _, _, _, _, _, _, _] _
    refine g_ops_nil ?_
    obtain rfl := Option.some.inj H
    refine g_ret Try.func43 (v := Value.bool (false != a3)) (res1 rfl rfl) ?_
    have hs : St _ [] _ := St.take (Γ' := []) hs
    exact ⟨_, rfl, rfl, hs⟩

/- function 65 _impl_Game_wrongFor -/
def _impl_Game_wrongFor.post (w0 : World) (r : (List Int)) (v : Value) (w : World) : Prop := St w0 [Row 2 (K.int .i64) v r] w
set_option maxHeartbeats 8000000 in
set_option maxRecDepth 100000 in
theorem _impl_Game_wrongFor.calls {N : Nat} {a1 : S_impl_Game} {a4 : Int} {v2 : Value} {w0 : World} {r : (List Int)} (hr3 : RdRow k_S_impl_Ask w0 v2 a1.f_Asked) (H : _impl_Game_wrongFor.f N a1 a4 = some r) :
    Calls Try.prog 65 #[Value.agg (([Value.int .i8 a1.f_Numbers, Value.int .i8 a1.f_Lies, v2] : List Value)).toArray, Value.int .i64 a4] w0 fun e w => ∃ v, e = .returned v ∧ _impl_Game_wrongFor.post w0 r v w := by
  unfold _impl_Game_wrongFor.f at H
  have hs : St w0 [] w0 := St.refl w0
  refine calls_of_g (n := 28) Try.func65 rfl rfl ?_
  show G _ _ _ _ [_, _, _, _, _, _, _, _, _, _, _, _, _, _, _, _, _, _, _, _, _, _, _, _, _, _, _, _, _, _] _
  refine g_seq ?_
  refine g_region ?_
  show G _ _ _ (.inRegion _ [0, 1] :: _) _ _
  refine s_box hs rfl rfl (cs := (([Value.int .i8 a1.f_Numbers, Value.int .i8 a1.f_Lies, v2] : List Value))) rfl rfl ?_
  intro b5 w hs
  show G _ _ _ _ [_, _, _, _, _, _, _, _, _, _, _, _, _, _, _, _, _, _, _, _, _, _, _, _, _, _, _, _, _, _] _
  refine g_op (v := Value.slice none 0 0) rfl rfl rfl ?_
  show G _ _ _ _ [_, _, _, _, _, _, _, _, _, _, _, _, _, _, _, _, _, _, _, _, _, _, _, _, _, _, _, _, _, _] _
  refine g_ops_nil ?_
  refine g_seq ?_
  refine g_region ?_
  show G _ _ _ (.inRegion _ [0, 1] :: _) _ _
  refine s_lit0 (κ := (K.int .i64)) hs rfl rfl rfl rfl (fun _ => rfl) ?_
  intro v7 w hs
  show G _ _ _ _ [_, _, _, _, _, _, _, _, _, _, _, _, _, _, _, _, _, _, _, _, _, _, _, _, _, _, _, _, _, _] _
  refine g_op (v := v7) rfl rfl rfl ?_
  show G _ _ _ _ [_, _, _, _, _, _, _, _, _, _, _, _, _, _, _, _, _, _, _, _, _, _, _, _, _, _, _, _, _, _] _
  refine g_ops_nil ?_
  refine g_seq ?_
  refine g_seq ?_
  refine g_region ?_
  show G _ _ _ (.inRegion _ [0, 1, 2, 3] :: _) _ _
  refine g_op (v := Value.pointer (some ⟨b5, 2, none⟩)) rfl rfl rfl ?_
  refine s_load1 rfl rfl (v := v2) rfl rfl (fun _ => rfl) (cells_load (hs.cells 1 rfl) 2 1 rfl) ?_
  show G _ _ _ _ [_, _, _, _, _, _, _, _, _, _, _, _, _, _, _, _, _, _, _, _, _, _, _, _, _, _, _, _, _, _] _
  refine s_len (hs.rd hr3) rfl rfl rfl rfl rfl ?_
  show G _ _ _ _ [_, _, _, _, _, _, _, _, _, _, _, _, _, _, _, _, _, _, _, _, _, _, _, _, _, _, _, _, _, _] _
  refine g_op (v := Value.int .i64 0) rfl rfl rfl ?_
  refine g_ops_nil ?_
  obtain ⟨o1_, Ho, Hr1_⟩ := bind_get H
  refine g_block_join (J := fun t w => ∃ v24 : Value, ∃ x25 : (List Int), _impl_Game_wrongFor.a0 N x25 = some r ∧ Fr t (fun O => ([O 0, O 1, O 2, O 3, O 4, v24, O 6, O 7, O 8, O 9, O 10, O 11, O 12, O 13, O 14, O 15, O 16, O 17, O 18, O 19, O 20, O 21, O 22, O 23, O 24, O 25, O 26, O 27, O 28, O 29] : List Value)) ∧ St w0 [Row 2 (K.int .i64) v24 x25] w) ?_ ?_
  ·
   rintro t w ⟨v24, x25, H, hf, hs⟩
   obtain ⟨O, rfl⟩ := hf.open
   show G _ _ _ _ [_, _, _, _, _, _, _, _, _, _, _, _, _, _, _, _, _, _, _, _, _, _, _, _, _, _, _, _, _, _] _
   unfold _impl_Game_wrongFor.a0 at H
   refine g_seq ?_
   refine g_region ?_
   show G _ _ _ (.inRegion _ [0, 1] :: _) _ _
   refine g_op (v := v24) rfl rfl rfl ?_
   refine g_op (v := v24) rfl rfl rfl ?_
   show G _ _ _ _ [_, _, _, _, _, _, _, _, _, _, _, _, _, _, _, _, _, _, _, _, _, _, _, _, _, _, _, _, _, _] _
   refine g_ops_nil ?_
   obtain rfl := Option.some.inj H
   refine g_ret Try.func65 (v := v24) (res1 rfl rfl) ?_
   have hs := hs.pull 0 rfl
   have hs : St _ [_] _ := St.take (Γ' := []) hs
   exact ⟨_, rfl, hs⟩
  ·
   intro ha1_
   have hs := hs.pull 0 rfl
   have hs : St _ [_] _ := St.take (Γ' := [_]) hs
   refine g_loop_fuel (I := fun n_ t w => ∃ v10 : Value, ∃ x11 : (List Int), ∃ x12 : Int, rounds (fun s => _impl_Game_wrongFor.b0 N a1 a4 s.1 s.2) n_ (x11, x12) = some o1_ ∧ Fr t (fun O => ([O 0, Value.int .i64 a4, O 2, O 3, O 4, v10, O 6, O 7, O 8, O 9, v2, Value.int .i64 (a1.f_Asked.length : Int), Value.int .i64 x12, O 13, O 14, O 15, O 16, O 17, O 18, O 19, O 20, O 21, O 22, O 23, O 24, O 25, O 26, O 27, O 28, O 29] : List Value)) ∧ St w0 [Row 2 (K.int .i64) v10 x11] w) N ⟨v7, ([] : List Int), 0, Ho, rfl, hs⟩ ?_ ?_
   ·
    rintro _ _ ⟨v10, x11, x12, h, _⟩
    exact rounds_zero h
   ·
    intro n_ ih1_
    rintro t w ⟨v10, x11, x12, Ho, hf, hs⟩
    obtain ⟨O, rfl⟩ := hf.open
    show G _ _ _ _ [_, _, _, _, _, _, _, _, _, _, _, _, _, _, _, _, _, _, _, _, _, _, _, _, _, _, _, _, _, _] _
    obtain ⟨x4_, H, Hx1_⟩ := rounds_succ Ho
    have H : _impl_Game_wrongFor.b0 N a1 a4 x11 x12 = some x4_ := H
    unfold _impl_Game_wrongFor.b0 at H
    refine g_seq ?_
    refine g_region ?_
    show G _ _ _ (.inRegion _ [0] :: _) _ _
    refine g_op_b (B := decide (x12 < (a1.f_Asked.length : Int))) rfl rfl rfl ?_ ?_
    ·
     intro hb
     rw [if_pos (b_dec_t hb)] at H
     show G _ _ _ _ [_, _, _, _, _, _, _, _, _, _, _, _, _, _, _, _, _, _, _, _, _, _, _, _, _, _, _, _, _, _] _
     refine g_ops_nil ?_
     refine g_seq ?_
     refine g_cond_true rfl ?_
     refine g_skip ?_
     refine g_seq ?_
     refine g_block_join (J := (fun t w => ∃ v21 : Value, ∃ x22 : (List Int), _impl_Game_wrongFor.j2 N x12 x22 = some x4_ ∧ Fr t (fun O => ([O 0, Value.int .i64 a4, O 2, O 3, O 4, v21, O 6, O 7, O 8, O 9, v2, Value.int .i64 (a1.f_Asked.length : Int), Value.int .i64 x12, O 13, O 14, O 15, O 16, O 17, O 18, O 19, O 20, O 21, O 22, O 23, O 24, O 25, O 26, O 27, O 28, O 29] : List Value)) ∧ St w0 [Row 2 (K.int .i64) v21 x22] w)) ?_ ?_
     ·
      rintro t w ⟨v21, x22, H, hf, hs⟩
      obtain ⟨O, rfl⟩ := hf.open
      show G _ _ _ _ [_, _, _, _, _, _, _, _, _, _, _, _, _, _, _, _, _, _, _, _, _, _, _, _, _, _, _, _, _, _] _
      unfold _impl_Game_wrongFor.j2 at H
      refine g_region ?_
      show G _ _ _ (.inRegion _ [0, 1] :: _) _ _
      refine g_op (v := Value.int .i64 (i64w (x12 + 1))) rfl rfl rfl ?_
      show G _ _ _ _ [_, _, _, _, _, _, _, _, _, _, _, _, _, _, _, _, _, _, _, _, _, _, _, _, _, _, _, _, _, _] _
      refine g_op (v := Value.int .i64 (i64w (x12 + 1))) rfl rfl rfl ?_
      refine g_ops_nil ?_
      obtain rfl := Option.some.inj H
      have hs := hs.pull 0 rfl
      have hs : St _ [_] _ := St.take (Γ' := []) hs
      exact ih1_ _ _ ⟨v21, x22, i64w (x12 + 1), Hx1_, rfl, hs⟩
     ·
      intro ha
      refine g_seq ?_
      refine g_region ?_
      show G _ _ _ (.inRegion _ [0, 1, 2, 3, 4, 5] :: _) _ _
      refine g_op (v := Value.int .i64 x12) rfl rfl rfl ?_
      obtain ⟨g1, H⟩ := ite_get H
      refine s_idx fk_S_impl_Ask z_S_impl_Ask (hs.rd hr3) rfl (fun _ => rfl) g1.1 g1.2 rfl rfl rfl rfl rfl ?_
      intro p13 hp13 lp13 op13
      show G _ _ _ _ [_, _, _, _, _, _, _, _, _, _, _, _, _, _, _, _, _, _, _, _, _, _, _, _, _, _, _, _, _, _] _
      refine s_loadA rfl rfl (es := (enc_S_impl_Ask (rdL a1.f_Asked x12 z_S_impl_Ask))) rfl rfl (fun _ => rfl) (n := 2) (fun _ => rfl) (fk_S_impl_Ask.len _) hp13 ?_
      show G _ _ _ _ [_, _, _, _, _, _, _, _, _, _, _, _, _, _, _, _, _, _, _, _, _, _, _, _, _, _, _, _, _, _] _
      refine s_alloc hs rfl rfl (z := (Value.agg #[Value.int .u64 0, Value.bool false])) (cs := (enc_S_impl_Ask z_S_impl_Ask)) rfl (fun _ => rfl) rfl ?_
      intro b14 w hs
      show G _ _ _ _ [_, _, _, _, _, _, _, _, _, _, _, _, _, _, _, _, _, _, _, _, _, _, _, _, _, _, _, _, _, _] _
      refine g_op (v := Value.int .i64 x12) rfl rfl rfl ?_
      show G _ _ _ _ [_, _, _, _, _, _, _, _, _, _, _, _, _, _, _, _, _, _, _, _, _, _, _, _, _, _, _, _, _, _] _
      refine s_storeAll (n := 2) hs (fk_S_impl_Ask.len _) rfl rfl (vs := (enc_S_impl_Ask (rdL a1.f_Asked x12 z_S_impl_Ask))) rfl rfl rfl (fun _ => rfl) (fk_S_impl_Ask.len _) (fk_S_impl_Ask.one _) ?_
      intro w hs
      refine g_ops_nil ?_
      refine g_seq ?_
      refine g_lay (n := 7) rfl [0, 1, 2, 3, 4, 5, 6] [0, 1, 2, 3, 4, 5, 6] rfl rfl ?_
      intro rest w hh hbw hO
      have hs := hs.samew hh hbw
      show G _ _ _ _ [_, _, _, _, _, _, _, _, _, _, _, _, _, _, _, _, _, _, _, _, _, _, _, _, _, _, _, _, _, _] _
      obtain ⟨r16, Hr16, H⟩ := bind_get H
      refine g_name ?_
      intro T hT
      refine g_layer (m0 := 0) hO rfl 63 [0, 1, 2, 3, 4, 5] [0, 1, 0, 7, 0, 16, 63] (by decide +kernel) (fun D t w => ∃ O : Nat → Value, t = [O 0, Value.int .i64 a4, O 2, O 3, O 4, v10, Value.int .i64 x12, Value.pointer (some ⟨b14, 0, none⟩), O 8, O 9, v2, Value.int .i64 (a1.f_Asked.length : Int), Value.int .i64 x12, Value.bool true, Value.int .i64 x12, Value.pointer (some p13), Value.agg (enc_S_impl_Ask (rdL a1.f_Asked x12 z_S_impl_Ask)).toArray, cnd (D 0) (Value.pointer (some ⟨b14, 0, none⟩)) (O 17), cnd (D 1) (Value.int .u64 ((rdL a1.f_Asked x12 z_S_impl_Ask).f_Set)) (O 18), cnd (D 2) (Value.int .i64 a4) (O 19), cnd (D 3) (Value.bool r16) (O 20), cnd (D 4) (Value.pointer (some ⟨b14, 1, none⟩)) (O 21), cnd (D 5) (Value.bool ((rdL a1.f_Asked x12 z_S_impl_Ask).f_Yes)) (O 22), O 23, O 24, O 25, O 26, O 27, O 28, O 29] ∧ St w0 [Cells b14 (enc_S_impl_Ask (rdL a1.f_Asked x12 z_S_impl_Ask)) 64, Row 2 (K.int .i64) v10 x11] w) ?_ ⟨?_, ⟨?_, ⟨?_, ⟨?_, ⟨?_, ⟨?_, trivial⟩⟩⟩⟩⟩⟩ ?_
      · exact ⟨fun i => T.getD i undef, (by subst hT; rfl), hs⟩
      ·
       intro D t w hD hp hcl hI rest hk
       obtain ⟨O, ht, hs⟩ := hI
       have hp : AllDone D [] := hp
       have q1_ : D 1 = false := not_yet (show D 1 = true → AllDone D [0] from hcl 1 (by decide)) 0 0 rfl hD
       have q3_ : D 3 = false := not_yet (show D 3 = true → AllDone D [1, 2] from hcl 3 (by decide)) 0 1 rfl q1_
       have u0_ : upd D 0 0 = true := rfl; have u1_ : upd D 0 1 = D 1 := rfl; have u2_ : upd D 0 2 = D 2 := rfl; have u3_ : upd D 0 3 = D 3 := rfl; have u4_ : upd D 0 4 = D 4 := rfl; have u5_ : upd D 0 5 = D 5 := rfl
       simp only [hD, q1_, q3_, cnd_t, cnd_f, Asc_t, Asc_f] at ht hs
       subst ht
       refine g_op (v := Value.pointer (some ⟨b14, 0, none⟩)) rfl rfl rfl ?_
       show G _ _ _ _ [_, _, _, _, _, _, _, _, _, _, _, _, _, _, _, _, _, _, _, _, _, _, _, _, _, _, _, _, _, _] _
       exact hk _ _ ⟨O, (by simp only [u0_, u1_, u2_, u3_, u4_, u5_, q1_, q3_, cnd_t, cnd_f, Asc_t, Asc_f]), hs.cast (by first | rfl | simp only [List.take, List.drop, List.cons_append, List.nil_append, List.set_cons_zero, List.set_cons_succ, List.eraseIdx, u0_, u1_, u2_, u3_, u4_, u5_, q1_, q3_, cnd_t, cnd_f, Asc_t, Asc_f])⟩
      ·
       intro D t w hD hp hcl hI rest hk
       obtain ⟨O, ht, hs⟩ := hI
       have hp : AllDone D [0] := hp
       obtain ⟨p0_, _⟩ := hp
       have q3_ : D 3 = false := not_yet (show D 3 = true → AllDone D [1, 2] from hcl 3 (by decide)) 0 1 rfl hD
       have u0_ : upd D 1 0 = D 0 := rfl; have u1_ : upd D 1 1 = true := rfl; have u2_ : upd D 1 2 = D 2 := rfl; have u3_ : upd D 1 3 = D 3 := rfl; have u4_ : upd D 1 4 = D 4 := rfl; have u5_ : upd D 1 5 = D 5 := rfl
       simp only [hD, p0_, q3_, cnd_t, cnd_f, Asc_t, Asc_f] at ht hs
       subst ht
       refine s_load1 rfl rfl (v := Value.int .u64 ((rdL a1.f_Asked x12 z_S_impl_Ask).f_Set)) rfl rfl (fun _ => rfl) (cells_load (hs.cells 0 rfl) 0 1 rfl) ?_
       show G _ _ _ _ [_, _, _, _, _, _, _, _, _, _, _, _, _, _, _, _, _, _, _, _, _, _, _, _, _, _, _, _, _, _] _
       exact hk _ _ ⟨O, (by simp only [u0_, u1_, u2_, u3_, u4_, u5_, p0_, q3_, cnd_t, cnd_f, Asc_t, Asc_f]), hs.cast (by first | rfl | simp only [List.take, List.drop, List.cons_append, List.nil_append, List.set_cons_zero, List.set_cons_succ, List.eraseIdx, u0_, u1_, u2_, u3_, u4_, u5_, p0_, q3_, cnd_t, cnd_f, Asc_t, Asc_f])⟩
      ·
       intro D t w hD hp hcl hI rest hk
       obtain ⟨O, ht, hs⟩ := hI
       have hp : AllDone D [] := hp
       have q3_ : D 3 = false := not_yet (show D 3 = true → AllDone D [1, 2] from hcl 3 (by decide)) 1 2 rfl hD
       have u0_ : upd D 2 0 = D 0 := rfl; have u1_ : upd D 2 1 = D 1 := rfl; have u2_ : upd D 2 2 = true := rfl; have u3_ : upd D 2 3 = D 3 := rfl; have u4_ : upd D 2 4 = D 4 := rfl; have u5_ : upd D 2 5 = D 5 := rfl
       simp only [hD, q3_, cnd_t, cnd_f, Asc_t, Asc_f] at ht hs
       subst ht
       refine g_op (v := Value.int .i64 a4) rfl rfl rfl ?_
       show G _ _ _ _ [_, _, _, _, _, _, _, _, _, _, _, _, _, _, _, _, _, _, _, _, _, _, _, _, _, _, _, _, _, _] _
       exact hk _ _ ⟨O, (by simp only [u0_, u1_, u2_, u3_, u4_, u5_, q3_, cnd_t, cnd_f, Asc_t, Asc_f]), hs.cast (by first | rfl | simp only [List.take, List.drop, List.cons_append, List.nil_append, List.set_cons_zero, List.set_cons_succ, List.eraseIdx, u0_, u1_, u2_, u3_, u4_, u5_, q3_, cnd_t, cnd_f, Asc_t, Asc_f])⟩
      ·
       intro D t w hD hp hcl hI rest hk
       obtain ⟨O, ht, hs⟩ := hI
       have hp : AllDone D [1, 2] := hp
       obtain ⟨p1_, p2_, _⟩ := hp
       obtain ⟨p0_, _⟩ := (show D 1 = true → AllDone D [0] from hcl 1 (by decide)) p1_
       have u0_ : upd D 3 0 = D 0 := rfl; have u1_ : upd D 3 1 = D 1 := rfl; have u2_ : upd D 3 2 = D 2 := rfl; have u3_ : upd D 3 3 = true := rfl; have u4_ : upd D 3 4 = D 4 := rfl; have u5_ : upd D 3 5 = D 5 := rfl
       simp only [hD, p0_, p1_, p2_, cnd_t, cnd_f, Asc_t, Asc_f] at ht hs
       subst ht
       refine s_call (args := [Value.int .u64 ((rdL a1.f_Asked x12 z_S_impl_Ask).f_Set), Value.int .i64 a4, Value.bool false]) rfl rfl (x_call rfl (callFunc_enter Try.func43 rfl rfl) rfl) (impl_AnswerTo.calls (a1 := (rdL a1.f_Asked x12 z_S_impl_Ask).f_Set) (a2 := a4) (a3 := false) Hr16) ?_
       rintro _ w ⟨rfl, hs2⟩
       have hs : St _ [_, _] _ := hs.call hs2
       show G _ _ _ _ [_, _, _, _, _, _, _, _, _, _, _, _, _, _, _, _, _, _, _, _, _, _, _, _, _, _, _, _, _, _] _
       exact hk _ _ ⟨O, (by simp only [u0_, u1_, u2_, u3_, u4_, u5_, p0_, p1_, p2_, cnd_t, cnd_f, Asc_t, Asc_f]), hs.cast (by first | rfl | simp only [List.take, List.drop, List.cons_append, List.nil_append, List.set_cons_zero, List.set_cons_succ, List.eraseIdx, u0_, u1_, u2_, u3_, u4_, u5_, p0_, p1_, p2_, cnd_t, cnd_f, Asc_t, Asc_f])⟩
      ·
       intro D t w hD hp hcl hI rest hk
       obtain ⟨O, ht, hs⟩ := hI
       have hp : AllDone D [] := hp
       have q5_ : D 5 = false := not_yet (show D 5 = true → AllDone D [4] from hcl 5 (by decide)) 0 4 rfl hD
       have u0_ : upd D 4 0 = D 0 := rfl; have u1_ : upd D 4 1 = D 1 := rfl; have u2_ : upd D 4 2 = D 2 := rfl; have u3_ : upd D 4 3 = D 3 := rfl; have u4_ : upd D 4 4 = true := rfl; have u5_ : upd D 4 5 = D 5 := rfl
       simp only [hD, q5_, cnd_t, cnd_f, Asc_t, Asc_f] at ht hs
       subst ht
       refine g_op (v := Value.pointer (some ⟨b14, 1, none⟩)) rfl rfl rfl ?_
       show G _ _ _ _ [_, _, _, _, _, _, _, _, _, _, _, _, _, _, _, _, _, _, _, _, _, _, _, _, _, _, _, _, _, _] _
       exact hk _ _ ⟨O, (by simp only [u0_, u1_, u2_, u3_, u4_, u5_, q5_, cnd_t, cnd_f, Asc_t, Asc_f]), hs.cast (by first | rfl | simp only [List.take, List.drop, List.cons_append, List.nil_append, List.set_cons_zero, List.set_cons_succ, List.eraseIdx, u0_, u1_, u2_, u3_, u4_, u5_, q5_, cnd_t, cnd_f, Asc_t, Asc_f])⟩
      ·
       intro D t w hD hp hcl hI rest hk
       obtain ⟨O, ht, hs⟩ := hI
       have hp : AllDone D [4] := hp
       obtain ⟨p4_, _⟩ := hp
       have u0_ : upd D 5 0 = D 0 := rfl; have u1_ : upd D 5 1 = D 1 := rfl; have u2_ : upd D 5 2 = D 2 := rfl; have u3_ : upd D 5 3 = D 3 := rfl; have u4_ : upd D 5 4 = D 4 := rfl; have u5_ : upd D 5 5 = true := rfl
       simp only [hD, p4_, cnd_t, cnd_f, Asc_t, Asc_f] at ht hs
       subst ht
       refine s_load1 rfl rfl (v := Value.bool ((rdL a1.f_Asked x12 z_S_impl_Ask).f_Yes)) rfl rfl (fun _ => rfl) (cells_load (hs.cells 0 rfl) 1 1 rfl) ?_
       show G _ _ _ _ [_, _, _, _, _, _, _, _, _, _, _, _, _, _, _, _, _, _, _, _, _, _, _, _, _, _, _, _, _, _] _
       exact hk _ _ ⟨O, (by simp only [u0_, u1_, u2_, u3_, u4_, u5_, p4_, cnd_t, cnd_f, Asc_t, Asc_f]), hs.cast (by first | rfl | simp only [List.take, List.drop, List.cons_append, List.nil_append, List.set_cons_zero, List.set_cons_succ, List.eraseIdx, u0_, u1_, u2_, u3_, u4_, u5_, p4_, cnd_t, cnd_f, Asc_t, Asc_f])⟩
      ·
       intro D t w rest hall hO2_ hI
       obtain ⟨O, ht, hs⟩ := hI
       have p0_ : D 0 = true := hall 0 (by decide) rfl
       have p1_ : D 1 = true := hall 1 (by decide) rfl
       have p2_ : D 2 = true := hall 2 (by decide) rfl
       have p3_ : D 3 = true := hall 3 (by decide) rfl
       have p4_ : D 4 = true := hall 4 (by decide) rfl
       have p5_ : D 5 = true := hall 5 (by decide) rfl
       simp only [p0_, p1_, p2_, p3_, p4_, p5_, cnd_t, cnd_f, Asc_t, Asc_f] at ht hs
       subst ht
       obtain ⟨rest, rfl, hO3_⟩ := ord_one (m := 63) hO2_ rfl 6 (m' := 127) (by decide +kernel) rfl
       clear hO2_
       refine g_op_b (B := r16 != ((rdL a1.f_Asked x12 z_S_impl_Ask).f_Yes)) rfl rfl rfl ?_ ?_
       ·
        intro hb
        rw [if_neg (b_bne_t hb)] at H
        show G _ _ _ _ [_, _, _, _, _, _, _, _, _, _, _, _, _, _, _, _, _, _, _, _, _, _, _, _, _, _, _, _, _, _] _
        obtain rfl := ord_end hO3_ rfl (by decide +kernel)
        refine g_ops_nil ?_
        refine g_cond_true rfl ?_
        refine g_region ?_
        show G _ _ _ (.inRegion _ [0, 1, 2, 3, 4] :: _) _ _
        refine g_op (v := v10) rfl rfl rfl ?_
        refine g_op (v := Value.int .i64 x12) rfl rfl rfl ?_
        refine s_lit1 (fkI .i64) (y := x12) hs rfl rfl rfl rfl (fun _ => rfl) (zv := (Value.int .i64 0)) (fun _ => rfl) rfl (by decide) (by decide) rfl ?_
        intro v17 w hs
        show G _ _ _ _ [_, _, _, _, _, _, _, _, _, _, _, _, _, _, _, _, _, _, _, _, _, _, _, _, _, _, _, _, _, _] _
        have hs := hs.pull 2 rfl
        have hs : St _ [_, _, _] _ := hs
        obtain ⟨g, H⟩ := ite_get H
        refine s_append (fkI .i64) (zv := (Value.int .i64 0)) (B := 8) hs (hs.row 1 rfl) rfl rfl rfl rfl rfl rfl rfl rfl rfl (by decide) rfl rfl (by decide) (by omega) ?_
        intro v19 w hs
        show G _ _ _ _ [_, _, _, _, _, _, _, _, _, _, _, _, _, _, _, _, _, _, _, _, _, _, _, _, _, _, _, _, _, _] _
        refine g_op (v := v19) rfl rfl rfl ?_
        show G _ _ _ _ [_, _, _, _, _, _, _, _, _, _, _, _, _, _, _, _, _, _, _, _, _, _, _, _, _, _, _, _, _, _] _
        refine g_ops_nil ?_
        refine g_inBlock ?_
        have hs := hs.pull 0 rfl
        have hs : St _ [_] _ := St.take (Γ' := [_, _]) hs
        exact ha _ _ ⟨v19, x11 ++ ([x12]), H, rfl, hs⟩
       ·
        intro hb
        rw [if_pos (b_bne_f hb)] at H
        show G _ _ _ _ [_, _, _, _, _, _, _, _, _, _, _, _, _, _, _, _, _, _, _, _, _, _, _, _, _, _, _, _, _, _] _
        obtain rfl := ord_end hO3_ rfl (by decide +kernel)
        refine g_ops_nil ?_
        refine g_cond_false rfl ?_
        refine g_skip ?_
        refine g_inBlock ?_
        have hs := hs.pull 1 rfl
        have hs : St _ [_] _ := St.take (Γ' := [_]) hs
        exact ha _ _ ⟨v10, x11, H, rfl, hs⟩
    ·
     intro hb
     rw [if_neg (b_dec_f hb)] at H
     show G _ _ _ _ [_, _, _, _, _, _, _, _, _, _, _, _, _, _, _, _, _, _, _, _, _, _, _, _, _, _, _, _, _, _] _
     refine g_ops_nil ?_
     refine g_seq ?_
     refine g_cond_false rfl ?_
     obtain rfl := Option.some.inj H
     subst Hx1_
     have hs := hs.pull 0 rfl
     have hs : St _ [_] _ := St.take (Γ' := []) hs
     refine g_exit rfl ?_
     exact ha1_ _ _ ⟨v10, x11, Hr1_, rfl, hs⟩

end Go.Proofs.YtpbkenbmjgchkaaX
