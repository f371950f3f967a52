/- Contracts, printed by gen.py. -/
import Derived.Test.YtgoblgmidejdgaaXC9
namespace Go.Proofs.YtgoblgmidejdgaaX
open Go Go.RowKit Go.Proofs
set_option linter.unusedVariables false
set_option linter.unusedSimpArgs false
/- function 60 impl_ShortestCrossing_1 -/
def impl_ShortestCrossing_1.post (w0 : World) (r : Bool) (v : Value) (w : World) : Prop := v = Value.bool r ∧ St w0 [] w
set_option maxHeartbeats 8000000 in
set_option maxRecDepth 100000 in
theorem impl_ShortestCrossing_1.calls {N : Nat} {a1 : S_impl_crossing} {w0 : World} {r : Bool} (H : impl_ShortestCrossing_1.f N a1 = some r) :
    Calls Try.prog 60 #[Value.agg (enc_S_impl_crossing a1).toArray] w0 fun e w => ∃ v, e = .returned v ∧ impl_ShortestCrossing_1.post w0 r v w := by
  unfold impl_ShortestCrossing_1.f at H
  have hs : St w0 [] w0 := St.refl w0
  refine calls_of_g (n := 6) Try.func60 rfl rfl ?_
  show G _ _ _ _ [_, _, _, _, _, _, _] _
  refine g_seq ?_
  refine g_region ?_
  show G _ _ _ (.inRegion _ [0, 1] :: _) _ _
  refine s_box hs rfl rfl (cs := (enc_S_impl_crossing a1)) rfl rfl ?_
  intro b2 w hs
  show G _ _ _ _ [_, _, _, _, _, _, _] _
  refine g_op (v := Value.bool false) rfl rfl rfl ?_
  show G _ _ _ _ [_, _, _, _, _, _, _] _
  refine g_ops_nil ?_
  refine g_seq ?_
  refine g_region ?_
  show G _ _ _ (.inRegion _ [0, 1, 2, 3, 4] :: _) _ _
  refine g_op (v := Value.pointer (some ⟨b2, 0, none⟩)) rfl rfl rfl ?_
  show G _ _ _ _ [_, _, _, _, _, _, _] _
  refine s_loadA rfl rfl (es := (enc_S_impl_Bank a1.f_bank)) rfl rfl (fun _ => rfl) (n := 2) (fun _ => rfl) (fk_S_impl_Bank.len _) (cells_load (hs.cells 0 rfl) 0 2 (by simp only [enc_S_impl_crossing]; first | rfl | simp [List.drop_append, List.take_append, encA_len, len_I])) ?_
  show G _ _ _ _ [_, _, _, _, _, _, _] _
  refine g_op (v := Value.agg (enc_S_impl_Bank (⟨0, true⟩ : S_impl_Bank)).toArray) rfl rfl (x_buildS (cs := (enc_S_impl_Bank (⟨0, true⟩ : S_impl_Bank))) (segs := [[Value.int .u16 0], [Value.bool false]]) rfl rfl (fun _ => rfl) ⟨rfl, (fun _ => rfl), rfl, (fun _ => rfl), trivial⟩ (by simp only [List.map_cons, List.map_nil, List.forall_mem_cons, List.not_mem_nil, false_implies, implies_true, and_true]; exact ⟨_, rfl, rfl⟩) (by first | rfl | (simp [ev, enc_S_impl_Bank]; done) | (simp [ev, enc_S_impl_Bank]; rfl))) ?_
  show G _ _ _ _ [_, _, _, _, _, _, _] _
  refine g_op (v := Value.bool (decide (a1.f_bank = (⟨0, true⟩ : S_impl_Bank)))) rfl rfl (x_eql rfl rfl rfl eq_S_impl_Bank_29_g (eq_S_impl_Bank_29 _ _ _)) ?_
  show G _ _ _ _ [_, _, _, _, _, _, _] _
  refine g_op (v := Value.bool (decide (a1.f_bank = (⟨0, true⟩ : S_impl_Bank)))) rfl rfl rfl ?_
  show G _ _ _ _ [_, _, _, _, _, _, _] _
  refine g_ops_nil ?_
  obtain rfl := Option.some.inj H
  refine g_ret Try.func60 (v := Value.bool (decide (a1.f_bank = (⟨0, true⟩ : S_impl_Bank)))) (res1 rfl rfl) ?_
  have hs : St _ [] _ := St.take (Γ' := [_]) hs
  exact ⟨_, rfl, rfl, hs⟩

/- function 59 slices_IndexFunc_impl_crossing_impl_crossing_at_impl_ShortestCrossing_1 -/
def slices_IndexFunc_impl_crossing_impl_crossing_at_impl_ShortestCrossing_1.post (w0 : World) (r : Int) (v : Value) (w : World) : Prop := v = Value.int .i64 r ∧ St w0 [] w
set_option maxHeartbeats 8000000 in
set_option maxRecDepth 100000 in
theorem slices_IndexFunc_impl_crossing_impl_crossing_at_impl_ShortestCrossing_1.calls {N : Nat} {a1 : (List S_impl_crossing)} {v2 : Value} {w0 : World} {r : Int} (hr0 : RdRow k_S_impl_crossing w0 v2 a1) (H : slices_IndexFunc_impl_crossing_impl_crossing_at_impl_ShortestCrossing_1.f N a1 = some r) :
    Calls Try.prog 59 #[v2, Value.func (Fn.func 60) #[] #[]] w0 fun e w => ∃ v, e = .returned v ∧ slices_IndexFunc_impl_crossing_impl_crossing_at_impl_ShortestCrossing_1.post w0 r v w := by
  unfold slices_IndexFunc_impl_crossing_impl_crossing_at_impl_ShortestCrossing_1.f at H
  have hs : St w0 [] w0 := St.refl w0
  refine calls_of_g (n := 17) Try.func59 rfl rfl ?_
  show G _ _ _ _ [_, _, _, _, _, _, _, _, _, _, _, _, _, _, _, _, _, _, _] _
  refine g_seq ?_
  refine g_region ?_
  show G _ _ _ (.inRegion _ [0] :: _) _ _
  refine g_op (v := Value.int .i64 0) rfl rfl rfl ?_
  show G _ _ _ _ [_, _, _, _, _, _, _, _, _, _, _, _, _, _, _, _, _, _, _] _
  refine g_ops_nil ?_
  refine g_seq ?_
  refine g_seq ?_
  refine g_region ?_
  show G _ _ _ (.inRegion _ [0, 1, 2] :: _) _ _
  refine g_op (v := v2) rfl rfl rfl ?_
  show G _ _ _ _ [_, _, _, _, _, _, _, _, _, _, _, _, _, _, _, _, _, _, _] _
  refine s_len (hs.rd hr0) rfl rfl rfl rfl rfl ?_
  show G _ _ _ _ [_, _, _, _, _, _, _, _, _, _, _, _, _, _, _, _, _, _, _] _
  refine g_op (v := Value.int .i64 0) rfl rfl rfl ?_
  show G _ _ _ _ [_, _, _, _, _, _, _, _, _, _, _, _, _, _, _, _, _, _, _] _
  refine g_ops_nil ?_
  obtain ⟨o1_, Ho, Hr1_⟩ := bind_get H
  refine g_block_join (J := fun t w => slices_IndexFunc_impl_crossing_impl_crossing_at_impl_ShortestCrossing_1.a0 N = some r ∧ Fr t (fun O => ([O 0, O 1, O 2, O 3, O 4, O 5, O 6, O 7, O 8, O 9, O 10, O 11, O 12, O 13, O 14, O 15, O 16, O 17, O 18] : List Value)) ∧ St w0 [] w) ?_ ?_
  ·
   rintro t w ⟨H, hf, hs⟩
   obtain ⟨O, rfl⟩ := hf.open
   show G _ _ _ _ [_, _, _, _, _, _, _, _, _, _, _, _, _, _, _, _, _, _, _] _
   unfold slices_IndexFunc_impl_crossing_impl_crossing_at_impl_ShortestCrossing_1.a0 at H
   refine g_seq ?_
   refine g_region ?_
   show G _ _ _ (.inRegion _ [0] :: _) _ _
   refine g_op (v := Value.int .i64 (-1)) rfl rfl rfl ?_
   show G _ _ _ _ [_, _, _, _, _, _, _, _, _, _, _, _, _, _, _, _, _, _, _] _
   refine g_ops_nil ?_
   obtain rfl := Option.some.inj H
   refine g_ret Try.func59 (v := Value.int .i64 (-1)) (res1 rfl rfl) ?_
   have hs : St _ [] _ := St.take (Γ' := []) hs
   exact ⟨_, rfl, rfl, hs⟩
  ·
   intro ha1_
   have hs : St _ [] _ := St.take (Γ' := []) hs
   refine g_loop_fuel (I := fun n_ t w => ∃ x3 : Int, rounds (fun s => slices_IndexFunc_impl_crossing_impl_crossing_at_impl_ShortestCrossing_1.b0 N a1 s) n_ x3 = some o1_ ∧ Fr t (fun O => ([v2, Value.func (Fn.func 60) #[] #[], O 2, O 3, O 4, O 5, O 6, Value.int .i64 (a1.length : Int), Value.int .i64 x3, O 9, O 10, O 11, O 12, O 13, O 14, O 15, O 16, O 17, O 18] : List Value)) ∧ St w0 [] w) N ⟨0, Ho, rfl, hs⟩ ?_ ?_
   ·
    rintro _ _ ⟨x3, h, _⟩
    exact rounds_zero h
   ·
    intro n_ ih1_
    rintro t w ⟨x3, Ho, hf, hs⟩
    obtain ⟨O, rfl⟩ := hf.open
    show G _ _ _ _ [_, _, _, _, _, _, _, _, _, _, _, _, _, _, _, _, _, _, _] _
    obtain ⟨x2_, H, Hx1_⟩ := rounds_succ Ho
    have H : slices_IndexFunc_impl_crossing_impl_crossing_at_impl_ShortestCrossing_1.b0 N a1 x3 = some x2_ := H
    unfold slices_IndexFunc_impl_crossing_impl_crossing_at_impl_ShortestCrossing_1.b0 at H
    refine g_seq ?_
    refine g_region ?_
    show G _ _ _ (.inRegion _ [0] :: _) _ _
    refine g_op_b (B := decide (x3 < (a1.length : Int))) rfl rfl rfl ?_ ?_
    ·
     intro hb
     rw [if_pos (b_dec_t hb)] at H
     show G _ _ _ _ [_, _, _, _, _, _, _, _, _, _, _, _, _, _, _, _, _, _, _] _
     refine g_ops_nil ?_
     refine g_seq ?_
     refine g_cond_true rfl ?_
     refine g_skip ?_
     refine g_seq ?_
     refine g_block ?_
     refine g_seq ?_
     refine g_region ?_
     show G _ _ _ (.inRegion _ [0, 1] :: _) _ _
     refine g_op (v := Value.int .i64 x3) rfl rfl rfl ?_
     show G _ _ _ _ [_, _, _, _, _, _, _, _, _, _, _, _, _, _, _, _, _, _, _] _
     refine g_op (v := Value.int .i64 x3) rfl rfl rfl ?_
     show G _ _ _ _ [_, _, _, _, _, _, _, _, _, _, _, _, _, _, _, _, _, _, _] _
     refine g_ops_nil ?_
     refine g_seq ?_
     refine g_region ?_
     show G _ _ _ (.inRegion _ [0, 1, 2, 3, 4, 5] :: _) _ _
     refine g_op (v := Value.func (Fn.func 60) #[] #[]) rfl rfl rfl ?_
     show G _ _ _ _ [_, _, _, _, _, _, _, _, _, _, _, _, _, _, _, _, _, _, _] _
     refine g_op (v := v2) rfl rfl rfl ?_
     show G _ _ _ _ [_, _, _, _, _, _, _, _, _, _, _, _, _, _, _, _, _, _, _] _
     refine g_op (v := Value.int .i64 x3) rfl rfl rfl ?_
     show G _ _ _ _ [_, _, _, _, _, _, _, _, _, _, _, _, _, _, _, _, _, _, _] _
     obtain ⟨g1, H⟩ := ite_get H
     refine s_idx fk_S_impl_crossing z_S_impl_crossing (hs.rd hr0) rfl (fun _ => rfl) g1.1 g1.2 rfl rfl rfl rfl rfl ?_
     intro p4 hp4 lp4 op4
     show G _ _ _ _ [_, _, _, _, _, _, _, _, _, _, _, _, _, _, _, _, _, _, _] _
     refine s_loadA rfl rfl (es := (enc_S_impl_crossing (rdL a1 x3 z_S_impl_crossing))) rfl rfl (fun _ => rfl) (n := 5) (fun _ => rfl) (fk_S_impl_crossing.len _) hp4 ?_
     show G _ _ _ _ [_, _, _, _, _, _, _, _, _, _, _, _, _, _, _, _, _, _, _] _
     obtain ⟨r5, Hr5, H⟩ := bind_get H
     refine s_call (args := [Value.agg (enc_S_impl_crossing (rdL a1 x3 z_S_impl_crossing)).toArray]) rfl rfl (x_callV rfl (callFunc_enter Try.func60 rfl rfl) rfl rfl) (impl_ShortestCrossing_1.calls (a1 := rdL a1 x3 z_S_impl_crossing) Hr5) ?_
     rintro _ w ⟨rfl, hs2⟩
     have hs : St _ [] _ := hs.call hs2
     cases r5 with
     | true =>
       rw [if_pos rfl] at H
       show G _ _ _ _ [_, _, _, _, _, _, _, _, _, _, _, _, _, _, _, _, _, _, _] _
       refine g_ops_nil ?_
       refine g_cond_true rfl ?_
       refine g_seq ?_
       refine g_region ?_
       show G _ _ _ (.inRegion _ [0, 1] :: _) _ _
       refine g_op (v := Value.int .i64 x3) rfl rfl rfl ?_
       show G _ _ _ _ [_, _, _, _, _, _, _, _, _, _, _, _, _, _, _, _, _, _, _] _
       refine g_op (v := Value.int .i64 x3) rfl rfl rfl ?_
       show G _ _ _ _ [_, _, _, _, _, _, _, _, _, _, _, _, _, _, _, _, _, _, _] _
       refine g_ops_nil ?_
       obtain rfl := Option.some.inj H
       subst Hx1_
       have H := Option.some.inj Hr1_
       subst H
       refine g_ret Try.func59 (v := Value.int .i64 x3) (res1 rfl rfl) ?_
       have hs : St _ [] _ := St.take (Γ' := []) hs
       exact ⟨_, rfl, rfl, hs⟩
     | false =>
       rw [if_neg Bool.false_ne_true] at H
       show G _ _ _ _ [_, _, _, _, _, _, _, _, _, _, _, _, _, _, _, _, _, _, _] _
       refine g_ops_nil ?_
       refine g_cond_false rfl ?_
       refine g_skip ?_
       refine g_inBlock ?_
       refine g_region ?_
       show G _ _ _ (.inRegion _ [0, 1] :: _) _ _
       refine g_op (v := Value.int .i64 (i64w (x3 + 1))) rfl rfl rfl ?_
       show G _ _ _ _ [_, _, _, _, _, _, _, _, _, _, _, _, _, _, _, _, _, _, _] _
       refine g_op (v := Value.int .i64 (i64w (x3 + 1))) rfl rfl rfl ?_
       show G _ _ _ _ [_, _, _, _, _, _, _, _, _, _, _, _, _, _, _, _, _, _, _] _
       refine g_ops_nil ?_
       obtain rfl := Option.some.inj H
       have hs : St _ [] _ := St.take (Γ' := []) hs
       exact ih1_ _ _ ⟨i64w (x3 + 1), Hx1_, rfl, hs⟩
    ·
     intro hb
     rw [if_neg (b_dec_f hb)] at H
     show G _ _ _ _ [_, _, _, _, _, _, _, _, _, _, _, _, _, _, _, _, _, _, _] _
     refine g_ops_nil ?_
     refine g_seq ?_
     refine g_cond_false rfl ?_
     obtain rfl := Option.some.inj H
     subst Hx1_
     have hs : St _ [] _ := St.take (Γ' := []) hs
     refine g_exit rfl ?_
     exact ha1_ _ _ ⟨Hr1_, rfl, hs⟩

/- function 61 slices_Reverse_uint16_uint16 -/
def slices_Reverse_uint16_uint16.post (wb : World) (Z : As) (v2 : Value) (r : (List Int)) (v : Value) (w : World) : Prop := v = Value.tuple #[] ∧ St wb [Row 27 (K.int .u16) v2 r, Z] w
set_option maxHeartbeats 8000000 in
set_option maxRecDepth 100000 in
theorem slices_Reverse_uint16_uint16.calls {N : Nat} {a1 : (List Int)} {v2 : Value} {wb : World} {Z : As} {w0 : World} {r : (List Int)} (hs : St wb [Row 27 (K.int .u16) v2 a1, Z] w0) (H : slices_Reverse_uint16_uint16.f N a1 = some r) :
    Calls Try.prog 61 #[v2] w0 fun e w => ∃ v, e = .returned v ∧ slices_Reverse_uint16_uint16.post wb Z v2 r v w := by
  unfold slices_Reverse_uint16_uint16.f at H
  refine calls_of_g (n := 27) Try.func61 rfl rfl ?_
  show G _ _ _ _ [_, _, _, _, _, _, _, _, _, _, _, _, _, _, _, _, _, _, _, _, _, _, _, _, _, _, _, _] _
  refine g_seq ?_
  refine g_region ?_
  show G _ _ _ (.inRegion _ [0, 1, 2, 3, 4] :: _) _ _
  refine g_op (v := v2) rfl rfl rfl ?_
  refine s_len (hs.row 0 rfl) rfl rfl rfl rfl rfl ?_
  show G _ _ _ _ [_, _, _, _, _, _, _, _, _, _, _, _, _, _, _, _, _, _, _, _, _, _, _, _, _, _, _, _] _
  refine g_op (v := Value.int .i64 (i64w ((a1.length : Int) - 1))) rfl rfl rfl ?_
  show G _ _ _ _ [_, _, _, _, _, _, _, _, _, _, _, _, _, _, _, _, _, _, _, _, _, _, _, _, _, _, _, _] _
  refine g_op (v := Value.int .i64 0) rfl rfl rfl ?_
  show G _ _ _ _ [_, _, _, _, _, _, _, _, _, _, _, _, _, _, _, _, _, _, _, _, _, _, _, _, _, _, _, _] _
  refine g_op (v := Value.int .i64 (i64w ((a1.length : Int) - 1))) rfl rfl rfl ?_
  show G _ _ _ _ [_, _, _, _, _, _, _, _, _, _, _, _, _, _, _, _, _, _, _, _, _, _, _, _, _, _, _, _] _
  refine g_ops_nil ?_
  obtain ⟨o1_, Ho, Hr1_⟩ := bind_get H
  refine g_block_join (J := fun t w => ∃ x11 : (List Int), slices_Reverse_uint16_uint16.a0 N x11 = some r ∧ Fr t (fun O => ([O 0, O 1, O 2, O 3, O 4, O 5, O 6, O 7, O 8, O 9, O 10, O 11, O 12, O 13, O 14, O 15, O 16, O 17, O 18, O 19, O 20, O 21, O 22, O 23, O 24, O 25, O 26, O 27] : List Value)) ∧ St wb [Row 27 (K.int .u16) v2 x11, Z] w) ?_ ?_
  ·
   rintro t w ⟨x11, H, hf, hs⟩
   obtain ⟨O, rfl⟩ := hf.open
   show G _ _ _ _ [_, _, _, _, _, _, _, _, _, _, _, _, _, _, _, _, _, _, _, _, _, _, _, _, _, _, _, _] _
   unfold slices_Reverse_uint16_uint16.a0 at H
   obtain rfl := Option.some.inj H
   refine g_end Try.func61 (v := Value.tuple #[]) (resN (l := Try.f61.results.toList) (vs := []) rfl trivial (by simp)) ?_
   have hs := hs.pull 1 rfl
   have hs := hs.pull 1 rfl
   have hs : St _ [_, _] _ := St.take (Γ' := []) hs
   exact ⟨_, rfl, rfl, hs⟩
  ·
   intro ha1_
   have hs := hs.pull 1 rfl
   have hs := hs.pull 1 rfl
   have hs : St _ [_, _] _ := St.take (Γ' := []) hs
   refine g_loop_fuel (I := fun n_ t w => ∃ x7 : (List Int), ∃ x8 : Int, ∃ x9 : Int, rounds (fun s => slices_Reverse_uint16_uint16.b0 N s.1 s.2.1 s.2.2) n_ (x7, x8, x9) = some o1_ ∧ Fr t (fun O => ([v2, O 1, Value.int .i64 x8, Value.int .i64 x9, O 4, O 5, O 6, O 7, O 8, O 9, O 10, O 11, O 12, O 13, O 14, O 15, O 16, O 17, O 18, O 19, O 20, O 21, O 22, O 23, O 24, O 25, O 26, O 27] : List Value)) ∧ St wb [Row 27 (K.int .u16) v2 x7, Z] w) N ⟨a1, 0, i64w ((a1.length : Int) - 1), Ho, rfl, hs⟩ ?_ ?_
   ·
    rintro _ _ ⟨x7, x8, x9, h, _⟩
    exact rounds_zero h
   ·
    intro n_ ih1_
    rintro t w ⟨x7, x8, x9, Ho, hf, hs⟩
    obtain ⟨O, rfl⟩ := hf.open
    show G _ _ _ _ [_, _, _, _, _, _, _, _, _, _, _, _, _, _, _, _, _, _, _, _, _, _, _, _, _, _, _, _] _
    obtain ⟨x21_, H, Hx1_⟩ := rounds_succ Ho
    have H : slices_Reverse_uint16_uint16.b0 N x7 x8 x9 = some x21_ := H
    unfold slices_Reverse_uint16_uint16.b0 at H
    refine g_seq ?_
    refine g_seq ?_
    refine g_region ?_
    show G _ _ _ (.inRegion _ [0, 1, 2] :: _) _ _
    refine g_op (v := Value.int .i64 x8) rfl rfl rfl ?_
    refine g_op (v := Value.int .i64 x9) rfl rfl rfl ?_
    refine g_op_b (B := decide (x8 < x9)) rfl rfl rfl ?_ ?_
    ·
     intro hb
     rw [if_pos (b_dec_t hb)] at H
     show G _ _ _ _ [_, _, _, _, _, _, _, _, _, _, _, _, _, _, _, _, _, _, _, _, _, _, _, _, _, _, _, _] _
     refine g_ops_nil ?_
     refine g_cond_true rfl ?_
     refine g_skip ?_
     refine g_seq ?_
     refine g_block ?_
     refine g_lay (n := 16) rfl [0, 1, 2, 3, 4, 5, 6, 7, 8, 9, 10, 11, 12, 13, 14, 15] [0, 1, 12, 13, 2, 3, 4, 5, 6, 7, 8, 9, 10, 11, 14, 15] rfl rfl ?_
     intro rest w hh hbw hO
     have hs := hs.samew hh hbw
     show G _ _ _ _ [_, _, _, _, _, _, _, _, _, _, _, _, _, _, _, _, _, _, _, _, _, _, _, _, _, _, _, _] _
     obtain ⟨gd12, H⟩ := ite_get H
     obtain ⟨ad13_, ad13_N, ad13_C, had13_⟩ := sl_at (hs.row 0 rfl) gd12.1 gd12.2
     obtain ⟨gd14, H⟩ := ite_get H
     obtain ⟨ad15_, ad15_N, ad15_C, had15_⟩ := sl_at (hs.row 0 rfl) gd14.1 gd14.2
     obtain ⟨gd16, H⟩ := ite_get H
     obtain ⟨ad17_, ad17_N, ad17_C, had17_⟩ := sl_at (hs.row 0 rfl) gd16.1 gd16.2
     refine g_name ?_
     intro T hT
     refine g_layer (m0 := 0) hO rfl 16383 [0, 1, 2, 3, 4, 5, 6, 7, 8, 9, 10, 11, 12, 13] [0, 0, 0, 0, 0, 0, 48, 112, 0, 0, 768, 1792, 4083, 8179, 16383, 32767] (by decide +kernel) (fun D t w => ∃ O : Nat → Value, t = [v2, O 1, Value.int .i64 x8, Value.int .i64 x9, O 4, O 5, O 6, Value.int .i64 x8, Value.int .i64 x9, Value.bool true, O 10, O 11, O 12, O 13, cnd (D 0) v2 (O 14), cnd (D 1) (Value.int .i64 x8) (O 15), cnd (D 2) v2 (O 16), cnd (D 3) (Value.int .i64 x9) (O 17), cnd (D 4) v2 (O 18), cnd (D 5) (Value.int .i64 x9) (O 19), cnd (D 6) (Value.pointer (some (ad13_.add (x9.toNat * 1)))) (O 20), cnd (D 7) (Value.int .u16 (rdL x7 x9 0)) (O 21), cnd (D 8) v2 (O 22), cnd (D 9) (Value.int .i64 x8) (O 23), cnd (D 10) (Value.pointer (some (ad15_.add (x8.toNat * 1)))) (O 24), cnd (D 11) (Value.int .u16 (rdL x7 x8 0)) (O 25), cnd (D 12) (Value.pointer (some (ad17_.add (x8.toNat * 1)))) (O 26), O 27] ∧ St wb [Row 27 (K.int .u16) (cnd (D 13) v2 v2) (cnd (D 13) (stL x7 x8 (rdL x7 x9 0)) x7), Z] w) ?_ ⟨?_, ⟨?_, ⟨?_, ⟨?_, ⟨?_, ⟨?_, ⟨?_, ⟨?_, ⟨?_, ⟨?_, ⟨?_, ⟨?_, ⟨?_, ⟨?_, trivial⟩⟩⟩⟩⟩⟩⟩⟩⟩⟩⟩⟩⟩⟩ ?_
     · exact ⟨fun i => T.getD i undef, (by subst hT; rfl), hs⟩
     ·
      intro D t w hD hp hcl hI rest hk
      obtain ⟨O, ht, hs⟩ := hI
      have hp : AllDone D [] := hp
      have q12_ : D 12 = false := not_yet (show D 12 = true → AllDone D [0, 1, 0, 1, 4, 5, 6, 7, 11] from hcl 12 (by decide)) 0 0 rfl hD
      have q13_ : D 13 = false := not_yet (show D 13 = true → AllDone D [12, 7, 0, 1, 4, 5, 6, 7, 11] from hcl 13 (by decide)) 0 12 rfl q12_
      have u0_ : upd D 0 0 = true := rfl; have u1_ : upd D 0 1 = D 1 := rfl; have u2_ : upd D 0 2 = D 2 := rfl; have u3_ : upd D 0 3 = D 3 := rfl; have u4_ : upd D 0 4 = D 4 := rfl; have u5_ : upd D 0 5 = D 5 := rfl; have u6_ : upd D 0 6 = D 6 := rfl; have u7_ : upd D 0 7 = D 7 := rfl; have u8_ : upd D 0 8 = D 8 := rfl; have u9_ : upd D 0 9 = D 9 := rfl; have u10_ : upd D 0 10 = D 10 := rfl; have u11_ : upd D 0 11 = D 11 := rfl; have u12_ : upd D 0 12 = D 12 := rfl; have u13_ : upd D 0 13 = D 13 := rfl
      simp only [hD, q12_, q13_, cnd_t, cnd_f, Asc_t, Asc_f] at ht hs
      subst ht
      refine g_op (v := v2) rfl rfl rfl ?_
      show G _ _ _ _ [_, _, _, _, _, _, _, _, _, _, _, _, _, _, _, _, _, _, _, _, _, _, _, _, _, _, _, _] _
      exact hk _ _ ⟨O, (by simp only [u0_, u1_, u2_, u3_, u4_, u5_, u6_, u7_, u8_, u9_, u10_, u11_, u12_, u13_, q12_, q13_, cnd_t, cnd_f, Asc_t, Asc_f]), hs.cast (by first | rfl | simp only [List.take, List.drop, List.cons_append, List.nil_append, List.set_cons_zero, List.set_cons_succ, List.eraseIdx, u0_, u1_, u2_, u3_, u4_, u5_, u6_, u7_, u8_, u9_, u10_, u11_, u12_, u13_, q12_, q13_, cnd_t, cnd_f, Asc_t, Asc_f])⟩
     ·
      intro D t w hD hp hcl hI rest hk
      obtain ⟨O, ht, hs⟩ := hI
      have hp : AllDone D [] := hp
      have q12_ : D 12 = false := not_yet (show D 12 = true → AllDone D [0, 1, 0, 1, 4, 5, 6, 7, 11] from hcl 12 (by decide)) 1 1 rfl hD
      have q13_ : D 13 = false := not_yet (show D 13 = true → AllDone D [12, 7, 0, 1, 4, 5, 6, 7, 11] from hcl 13 (by decide)) 0 12 rfl q12_
      have u0_ : upd D 1 0 = D 0 := rfl; have u1_ : upd D 1 1 = true := rfl; have u2_ : upd D 1 2 = D 2 := rfl; have u3_ : upd D 1 3 = D 3 := rfl; have u4_ : upd D 1 4 = D 4 := rfl; have u5_ : upd D 1 5 = D 5 := rfl; have u6_ : upd D 1 6 = D 6 := rfl; have u7_ : upd D 1 7 = D 7 := rfl; have u8_ : upd D 1 8 = D 8 := rfl; have u9_ : upd D 1 9 = D 9 := rfl; have u10_ : upd D 1 10 = D 10 := rfl; have u11_ : upd D 1 11 = D 11 := rfl; have u12_ : upd D 1 12 = D 12 := rfl; have u13_ : upd D 1 13 = D 13 := rfl
      simp only [hD, q12_, q13_, cnd_t, cnd_f, Asc_t, Asc_f] at ht hs
      subst ht
      refine g_op (v := Value.int .i64 x8) rfl rfl rfl ?_
      show G _ _ _ _ [_, _, _, _, _, _, _, _, _, _, _, _, _, _, _, _, _, _, _, _, _, _, _, _, _, _, _, _] _
      exact hk _ _ ⟨O, (by simp only [u0_, u1_, u2_, u3_, u4_, u5_, u6_, u7_, u8_, u9_, u10_, u11_, u12_, u13_, q12_, q13_, cnd_t, cnd_f, Asc_t, Asc_f]), hs.cast (by first | rfl | simp only [List.take, List.drop, List.cons_append, List.nil_append, List.set_cons_zero, List.set_cons_succ, List.eraseIdx, u0_, u1_, u2_, u3_, u4_, u5_, u6_, u7_, u8_, u9_, u10_, u11_, u12_, u13_, q12_, q13_, cnd_t, cnd_f, Asc_t, Asc_f])⟩
     ·
      intro D t w hD hp hcl hI rest hk
      obtain ⟨O, ht, hs⟩ := hI
      have hp : AllDone D [] := hp
      have u0_ : upd D 2 0 = D 0 := rfl; have u1_ : upd D 2 1 = D 1 := rfl; have u2_ : upd D 2 2 = true := rfl; have u3_ : upd D 2 3 = D 3 := rfl; have u4_ : upd D 2 4 = D 4 := rfl; have u5_ : upd D 2 5 = D 5 := rfl; have u6_ : upd D 2 6 = D 6 := rfl; have u7_ : upd D 2 7 = D 7 := rfl; have u8_ : upd D 2 8 = D 8 := rfl; have u9_ : upd D 2 9 = D 9 := rfl; have u10_ : upd D 2 10 = D 10 := rfl; have u11_ : upd D 2 11 = D 11 := rfl; have u12_ : upd D 2 12 = D 12 := rfl; have u13_ : upd D 2 13 = D 13 := rfl
      simp only [hD, cnd_t, cnd_f, Asc_t, Asc_f] at ht hs
      subst ht
      refine g_op (v := v2) rfl rfl rfl ?_
      show G _ _ _ _ [_, _, _, _, _, _, _, _, _, _, _, _, _, _, _, _, _, _, _, _, _, _, _, _, _, _, _, _] _
      exact hk _ _ ⟨O, (by simp only [u0_, u1_, u2_, u3_, u4_, u5_, u6_, u7_, u8_, u9_, u10_, u11_, u12_, u13_, cnd_t, cnd_f, Asc_t, Asc_f]), hs.cast (by first | rfl | simp only [List.take, List.drop, List.cons_append, List.nil_append, List.set_cons_zero, List.set_cons_succ, List.eraseIdx, u0_, u1_, u2_, u3_, u4_, u5_, u6_, u7_, u8_, u9_, u10_, u11_, u12_, u13_, cnd_t, cnd_f, Asc_t, Asc_f])⟩
     ·
      intro D t w hD hp hcl hI rest hk
      obtain ⟨O, ht, hs⟩ := hI
      have hp : AllDone D [] := hp
      have u0_ : upd D 3 0 = D 0 := rfl; have u1_ : upd D 3 1 = D 1 := rfl; have u2_ : upd D 3 2 = D 2 := rfl; have u3_ : upd D 3 3 = true := rfl; have u4_ : upd D 3 4 = D 4 := rfl; have u5_ : upd D 3 5 = D 5 := rfl; have u6_ : upd D 3 6 = D 6 := rfl; have u7_ : upd D 3 7 = D 7 := rfl; have u8_ : upd D 3 8 = D 8 := rfl; have u9_ : upd D 3 9 = D 9 := rfl; have u10_ : upd D 3 10 = D 10 := rfl; have u11_ : upd D 3 11 = D 11 := rfl; have u12_ : upd D 3 12 = D 12 := rfl; have u13_ : upd D 3 13 = D 13 := rfl
      simp only [hD, cnd_t, cnd_f, Asc_t, Asc_f] at ht hs
      subst ht
      refine g_op (v := Value.int .i64 x9) rfl rfl rfl ?_
      show G _ _ _ _ [_, _, _, _, _, _, _, _, _, _, _, _, _, _, _, _, _, _, _, _, _, _, _, _, _, _, _, _] _
      exact hk _ _ ⟨O, (by simp only [u0_, u1_, u2_, u3_, u4_, u5_, u6_, u7_, u8_, u9_, u10_, u11_, u12_, u13_, cnd_t, cnd_f, Asc_t, Asc_f]), hs.cast (by first | rfl | simp only [List.take, List.drop, List.cons_append, List.nil_append, List.set_cons_zero, List.set_cons_succ, List.eraseIdx, u0_, u1_, u2_, u3_, u4_, u5_, u6_, u7_, u8_, u9_, u10_, u11_, u12_, u13_, cnd_t, cnd_f, Asc_t, Asc_f])⟩
     ·
      intro D t w hD hp hcl hI rest hk
      obtain ⟨O, ht, hs⟩ := hI
      have hp : AllDone D [] := hp
      have q6_ : D 6 = false := not_yet (show D 6 = true → AllDone D [4, 5] from hcl 6 (by decide)) 0 4 rfl hD
      have q7_ : D 7 = false := not_yet (show D 7 = true → AllDone D [6] from hcl 7 (by decide)) 0 6 rfl q6_
      have q12_ : D 12 = false := not_yet (show D 12 = true → AllDone D [0, 1, 0, 1, 4, 5, 6, 7, 11] from hcl 12 (by decide)) 4 4 rfl hD
      have q13_ : D 13 = false := not_yet (show D 13 = true → AllDone D [12, 7, 0, 1, 4, 5, 6, 7, 11] from hcl 13 (by decide)) 0 12 rfl q12_
      have u0_ : upd D 4 0 = D 0 := rfl; have u1_ : upd D 4 1 = D 1 := rfl; have u2_ : upd D 4 2 = D 2 := rfl; have u3_ : upd D 4 3 = D 3 := rfl; have u4_ : upd D 4 4 = true := rfl; have u5_ : upd D 4 5 = D 5 := rfl; have u6_ : upd D 4 6 = D 6 := rfl; have u7_ : upd D 4 7 = D 7 := rfl; have u8_ : upd D 4 8 = D 8 := rfl; have u9_ : upd D 4 9 = D 9 := rfl; have u10_ : upd D 4 10 = D 10 := rfl; have u11_ : upd D 4 11 = D 11 := rfl; have u12_ : upd D 4 12 = D 12 := rfl; have u13_ : upd D 4 13 = D 13 := rfl
      simp only [hD, q6_, q7_, q12_, q13_, cnd_t, cnd_f, Asc_t, Asc_f] at ht hs
      subst ht
      refine g_op (v := v2) rfl rfl rfl ?_
      show G _ _ _ _ [_, _, _, _, _, _, _, _, _, _, _, _, _, _, _, _, _, _, _, _, _, _, _, _, _, _, _, _] _
      exact hk _ _ ⟨O, (by simp only [u0_, u1_, u2_, u3_, u4_, u5_, u6_, u7_, u8_, u9_, u10_, u11_, u12_, u13_, q6_, q7_, q12_, q13_, cnd_t, cnd_f, Asc_t, Asc_f]), hs.cast (by first | rfl | simp only [List.take, List.drop, List.cons_append, List.nil_append, List.set_cons_zero, List.set_cons_succ, List.eraseIdx, u0_, u1_, u2_, u3_, u4_, u5_, u6_, u7_, u8_, u9_, u10_, u11_, u12_, u13_, q6_, q7_, q12_, q13_, cnd_t, cnd_f, Asc_t, Asc_f])⟩
     ·
      intro D t w hD hp hcl hI rest hk
      obtain ⟨O, ht, hs⟩ := hI
      have hp : AllDone D [] := hp
      have q6_ : D 6 = false := not_yet (show D 6 = true → AllDone D [4, 5] from hcl 6 (by decide)) 1 5 rfl hD
      have q7_ : D 7 = false := not_yet (show D 7 = true → AllDone D [6] from hcl 7 (by decide)) 0 6 rfl q6_
      have q12_ : D 12 = false := not_yet (show D 12 = true → AllDone D [0, 1, 0, 1, 4, 5, 6, 7, 11] from hcl 12 (by decide)) 5 5 rfl hD
      have q13_ : D 13 = false := not_yet (show D 13 = true → AllDone D [12, 7, 0, 1, 4, 5, 6, 7, 11] from hcl 13 (by decide)) 0 12 rfl q12_
      have u0_ : upd D 5 0 = D 0 := rfl; have u1_ : upd D 5 1 = D 1 := rfl; have u2_ : upd D 5 2 = D 2 := rfl; have u3_ : upd D 5 3 = D 3 := rfl; have u4_ : upd D 5 4 = D 4 := rfl; have u5_ : upd D 5 5 = true := rfl; have u6_ : upd D 5 6 = D 6 := rfl; have u7_ : upd D 5 7 = D 7 := rfl; have u8_ : upd D 5 8 = D 8 := rfl; have u9_ : upd D 5 9 = D 9 := rfl; have u10_ : upd D 5 10 = D 10 := rfl; have u11_ : upd D 5 11 = D 11 := rfl; have u12_ : upd D 5 12 = D 12 := rfl; have u13_ : upd D 5 13 = D 13 := rfl
      simp only [hD, q6_, q7_, q12_, q13_, cnd_t, cnd_f, Asc_t, Asc_f] at ht hs
      subst ht
      refine g_op (v := Value.int .i64 x9) rfl rfl rfl ?_
      show G _ _ _ _ [_, _, _, _, _, _, _, _, _, _, _, _, _, _, _, _, _, _, _, _, _, _, _, _, _, _, _, _] _
      exact hk _ _ ⟨O, (by simp only [u0_, u1_, u2_, u3_, u4_, u5_, u6_, u7_, u8_, u9_, u10_, u11_, u12_, u13_, q6_, q7_, q12_, q13_, cnd_t, cnd_f, Asc_t, Asc_f]), hs.cast (by first | rfl | simp only [List.take, List.drop, List.cons_append, List.nil_append, List.set_cons_zero, List.set_cons_succ, List.eraseIdx, u0_, u1_, u2_, u3_, u4_, u5_, u6_, u7_, u8_, u9_, u10_, u11_, u12_, u13_, q6_, q7_, q12_, q13_, cnd_t, cnd_f, Asc_t, Asc_f])⟩
     ·
      intro D t w hD hp hcl hI rest hk
      obtain ⟨O, ht, hs⟩ := hI
      have hp : AllDone D [4, 5] := hp
      obtain ⟨p4_, p5_, _⟩ := hp
      have q7_ : D 7 = false := not_yet (show D 7 = true → AllDone D [6] from hcl 7 (by decide)) 0 6 rfl hD
      have q12_ : D 12 = false := not_yet (show D 12 = true → AllDone D [0, 1, 0, 1, 4, 5, 6, 7, 11] from hcl 12 (by decide)) 6 6 rfl hD
      have q13_ : D 13 = false := not_yet (show D 13 = true → AllDone D [12, 7, 0, 1, 4, 5, 6, 7, 11] from hcl 13 (by decide)) 0 12 rfl q12_
      have u0_ : upd D 6 0 = D 0 := rfl; have u1_ : upd D 6 1 = D 1 := rfl; have u2_ : upd D 6 2 = D 2 := rfl; have u3_ : upd D 6 3 = D 3 := rfl; have u4_ : upd D 6 4 = D 4 := rfl; have u5_ : upd D 6 5 = D 5 := rfl; have u6_ : upd D 6 6 = true := rfl; have u7_ : upd D 6 7 = D 7 := rfl; have u8_ : upd D 6 8 = D 8 := rfl; have u9_ : upd D 6 9 = D 9 := rfl; have u10_ : upd D 6 10 = D 10 := rfl; have u11_ : upd D 6 11 = D 11 := rfl; have u12_ : upd D 6 12 = D 12 := rfl; have u13_ : upd D 6 13 = D 13 := rfl
      simp only [hD, p4_, p5_, q7_, q12_, q13_, cnd_t, cnd_f, Asc_t, Asc_f] at ht hs
      subst ht
      refine s_idxD (κ := (K.int .u16)) (m := 1) rfl (hs.row 0 rfl) rfl (fun _ => rfl) gd12.1 gd12.2 had13_ rfl rfl rfl rfl rfl ?_
      show G _ _ _ _ [_, _, _, _, _, _, _, _, _, _, _, _, _, _, _, _, _, _, _, _, _, _, _, _, _, _, _, _] _
      exact hk _ _ ⟨O, (by simp only [u0_, u1_, u2_, u3_, u4_, u5_, u6_, u7_, u8_, u9_, u10_, u11_, u12_, u13_, p4_, p5_, q7_, q12_, q13_, cnd_t, cnd_f, Asc_t, Asc_f]), hs.cast (by first | rfl | simp only [List.take, List.drop, List.cons_append, List.nil_append, List.set_cons_zero, List.set_cons_succ, List.eraseIdx, u0_, u1_, u2_, u3_, u4_, u5_, u6_, u7_, u8_, u9_, u10_, u11_, u12_, u13_, p4_, p5_, q7_, q12_, q13_, cnd_t, cnd_f, Asc_t, Asc_f])⟩
     ·
      intro D t w hD hp hcl hI rest hk
      obtain ⟨O, ht, hs⟩ := hI
      have hp : AllDone D [6] := hp
      obtain ⟨p6_, _⟩ := hp
      obtain ⟨p4_, p5_, _⟩ := (show D 6 = true → AllDone D [4, 5] from hcl 6 (by decide)) p6_
      have q12_ : D 12 = false := not_yet (show D 12 = true → AllDone D [0, 1, 0, 1, 4, 5, 6, 7, 11] from hcl 12 (by decide)) 7 7 rfl hD
      have q13_ : D 13 = false := not_yet (show D 13 = true → AllDone D [12, 7, 0, 1, 4, 5, 6, 7, 11] from hcl 13 (by decide)) 0 12 rfl q12_
      have u0_ : upd D 7 0 = D 0 := rfl; have u1_ : upd D 7 1 = D 1 := rfl; have u2_ : upd D 7 2 = D 2 := rfl; have u3_ : upd D 7 3 = D 3 := rfl; have u4_ : upd D 7 4 = D 4 := rfl; have u5_ : upd D 7 5 = D 5 := rfl; have u6_ : upd D 7 6 = D 6 := rfl; have u7_ : upd D 7 7 = true := rfl; have u8_ : upd D 7 8 = D 8 := rfl; have u9_ : upd D 7 9 = D 9 := rfl; have u10_ : upd D 7 10 = D 10 := rfl; have u11_ : upd D 7 11 = D 11 := rfl; have u12_ : upd D 7 12 = D 12 := rfl; have u13_ : upd D 7 13 = D 13 := rfl
      simp only [hD, p4_, p5_, p6_, q12_, q13_, cnd_t, cnd_f, Asc_t, Asc_f] at ht hs
      subst ht
      refine s_load1 rfl rfl (v := Value.int .u16 (rdL x7 x9 0)) rfl rfl (fun _ => rfl) (cellsAt_of (fkI .u16) 0 (hs.row 0 rfl) had13_ gd12.1 gd12.2) ?_
      show G _ _ _ _ [_, _, _, _, _, _, _, _, _, _, _, _, _, _, _, _, _, _, _, _, _, _, _, _, _, _, _, _] _
      exact hk _ _ ⟨O, (by simp only [u0_, u1_, u2_, u3_, u4_, u5_, u6_, u7_, u8_, u9_, u10_, u11_, u12_, u13_, p4_, p5_, p6_, q12_, q13_, cnd_t, cnd_f, Asc_t, Asc_f]), hs.cast (by first | rfl | simp only [List.take, List.drop, List.cons_append, List.nil_append, List.set_cons_zero, List.set_cons_succ, List.eraseIdx, u0_, u1_, u2_, u3_, u4_, u5_, u6_, u7_, u8_, u9_, u10_, u11_, u12_, u13_, p4_, p5_, p6_, q12_, q13_, cnd_t, cnd_f, Asc_t, Asc_f])⟩
     ·
      intro D t w hD hp hcl hI rest hk
      obtain ⟨O, ht, hs⟩ := hI
      have hp : AllDone D [] := hp
      have q10_ : D 10 = false := not_yet (show D 10 = true → AllDone D [8, 9] from hcl 10 (by decide)) 0 8 rfl hD
      have q11_ : D 11 = false := not_yet (show D 11 = true → AllDone D [10] from hcl 11 (by decide)) 0 10 rfl q10_
      have q12_ : D 12 = false := not_yet (show D 12 = true → AllDone D [0, 1, 0, 1, 4, 5, 6, 7, 11] from hcl 12 (by decide)) 8 11 rfl q11_
      have q13_ : D 13 = false := not_yet (show D 13 = true → AllDone D [12, 7, 0, 1, 4, 5, 6, 7, 11] from hcl 13 (by decide)) 0 12 rfl q12_
      have u0_ : upd D 8 0 = D 0 := rfl; have u1_ : upd D 8 1 = D 1 := rfl; have u2_ : upd D 8 2 = D 2 := rfl; have u3_ : upd D 8 3 = D 3 := rfl; have u4_ : upd D 8 4 = D 4 := rfl; have u5_ : upd D 8 5 = D 5 := rfl; have u6_ : upd D 8 6 = D 6 := rfl; have u7_ : upd D 8 7 = D 7 := rfl; have u8_ : upd D 8 8 = true := rfl; have u9_ : upd D 8 9 = D 9 := rfl; have u10_ : upd D 8 10 = D 10 := rfl; have u11_ : upd D 8 11 = D 11 := rfl; have u12_ : upd D 8 12 = D 12 := rfl; have u13_ : upd D 8 13 = D 13 := rfl
      simp only [hD, q10_, q11_, q12_, q13_, cnd_t, cnd_f, Asc_t, Asc_f] at ht hs
      subst ht
      refine g_op (v := v2) rfl rfl rfl ?_
      show G _ _ _ _ [_, _, _, _, _, _, _, _, _, _, _, _, _, _, _, _, _, _, _, _, _, _, _, _, _, _, _, _] _
      exact hk _ _ ⟨O, (by simp only [u0_, u1_, u2_, u3_, u4_, u5_, u6_, u7_, u8_, u9_, u10_, u11_, u12_, u13_, q10_, q11_, q12_, q13_, cnd_t, cnd_f, Asc_t, Asc_f]), hs.cast (by first | rfl | simp only [List.take, List.drop, List.cons_append, List.nil_append, List.set_cons_zero, List.set_cons_succ, List.eraseIdx, u0_, u1_, u2_, u3_, u4_, u5_, u6_, u7_, u8_, u9_, u10_, u11_, u12_, u13_, q10_, q11_, q12_, q13_, cnd_t, cnd_f, Asc_t, Asc_f])⟩
     ·
      intro D t w hD hp hcl hI rest hk
      obtain ⟨O, ht, hs⟩ := hI
      have hp : AllDone D [] := hp
      have q10_ : D 10 = false := not_yet (show D 10 = true → AllDone D [8, 9] from hcl 10 (by decide)) 1 9 rfl hD
      have q11_ : D 11 = false := not_yet (show D 11 = true → AllDone D [10] from hcl 11 (by decide)) 0 10 rfl q10_
      have q12_ : D 12 = false := not_yet (show D 12 = true → AllDone D [0, 1, 0, 1, 4, 5, 6, 7, 11] from hcl 12 (by decide)) 8 11 rfl q11_
      have q13_ : D 13 = false := not_yet (show D 13 = true → AllDone D [12, 7, 0, 1, 4, 5, 6, 7, 11] from hcl 13 (by decide)) 0 12 rfl q12_
      have u0_ : upd D 9 0 = D 0 := rfl; have u1_ : upd D 9 1 = D 1 := rfl; have u2_ : upd D 9 2 = D 2 := rfl; have u3_ : upd D 9 3 = D 3 := rfl; have u4_ : upd D 9 4 = D 4 := rfl; have u5_ : upd D 9 5 = D 5 := rfl; have u6_ : upd D 9 6 = D 6 := rfl; have u7_ : upd D 9 7 = D 7 := rfl; have u8_ : upd D 9 8 = D 8 := rfl; have u9_ : upd D 9 9 = true := rfl; have u10_ : upd D 9 10 = D 10 := rfl; have u11_ : upd D 9 11 = D 11 := rfl; have u12_ : upd D 9 12 = D 12 := rfl; have u13_ : upd D 9 13 = D 13 := rfl
      simp only [hD, q10_, q11_, q12_, q13_, cnd_t, cnd_f, Asc_t, Asc_f] at ht hs
      subst ht
      refine g_op (v := Value.int .i64 x8) rfl rfl rfl ?_
      show G _ _ _ _ [_, _, _, _, _, _, _, _, _, _, _, _, _, _, _, _, _, _, _, _, _, _, _, _, _, _, _, _] _
      exact hk _ _ ⟨O, (by simp only [u0_, u1_, u2_, u3_, u4_, u5_, u6_, u7_, u8_, u9_, u10_, u11_, u12_, u13_, q10_, q11_, q12_, q13_, cnd_t, cnd_f, Asc_t, Asc_f]), hs.cast (by first | rfl | simp only [List.take, List.drop, List.cons_append, List.nil_append, List.set_cons_zero, List.set_cons_succ, List.eraseIdx, u0_, u1_, u2_, u3_, u4_, u5_, u6_, u7_, u8_, u9_, u10_, u11_, u12_, u13_, q10_, q11_, q12_, q13_, cnd_t, cnd_f, Asc_t, Asc_f])⟩
     ·
      intro D t w hD hp hcl hI rest hk
      obtain ⟨O, ht, hs⟩ := hI
      have hp : AllDone D [8, 9] := hp
      obtain ⟨p8_, p9_, _⟩ := hp
      have q11_ : D 11 = false := not_yet (show D 11 = true → AllDone D [10] from hcl 11 (by decide)) 0 10 rfl hD
      have q12_ : D 12 = false := not_yet (show D 12 = true → AllDone D [0, 1, 0, 1, 4, 5, 6, 7, 11] from hcl 12 (by decide)) 8 11 rfl q11_
      have q13_ : D 13 = false := not_yet (show D 13 = true → AllDone D [12, 7, 0, 1, 4, 5, 6, 7, 11] from hcl 13 (by decide)) 0 12 rfl q12_
      have u0_ : upd D 10 0 = D 0 := rfl; have u1_ : upd D 10 1 = D 1 := rfl; have u2_ : upd D 10 2 = D 2 := rfl; have u3_ : upd D 10 3 = D 3 := rfl; have u4_ : upd D 10 4 = D 4 := rfl; have u5_ : upd D 10 5 = D 5 := rfl; have u6_ : upd D 10 6 = D 6 := rfl; have u7_ : upd D 10 7 = D 7 := rfl; have u8_ : upd D 10 8 = D 8 := rfl; have u9_ : upd D 10 9 = D 9 := rfl; have u10_ : upd D 10 10 = true := rfl; have u11_ : upd D 10 11 = D 11 := rfl; have u12_ : upd D 10 12 = D 12 := rfl; have u13_ : upd D 10 13 = D 13 := rfl
      simp only [hD, p8_, p9_, q11_, q12_, q13_, cnd_t, cnd_f, Asc_t, Asc_f] at ht hs
      subst ht
      refine s_idxD (κ := (K.int .u16)) (m := 1) rfl (hs.row 0 rfl) rfl (fun _ => rfl) gd14.1 gd14.2 had15_ rfl rfl rfl rfl rfl ?_
      show G _ _ _ _ [_, _, _, _, _, _, _, _, _, _, _, _, _, _, _, _, _, _, _, _, _, _, _, _, _, _, _, _] _
      exact hk _ _ ⟨O, (by simp only [u0_, u1_, u2_, u3_, u4_, u5_, u6_, u7_, u8_, u9_, u10_, u11_, u12_, u13_, p8_, p9_, q11_, q12_, q13_, cnd_t, cnd_f, Asc_t, Asc_f]), hs.cast (by first | rfl | simp only [List.take, List.drop, List.cons_append, List.nil_append, List.set_cons_zero, List.set_cons_succ, List.eraseIdx, u0_, u1_, u2_, u3_, u4_, u5_, u6_, u7_, u8_, u9_, u10_, u11_, u12_, u13_, p8_, p9_, q11_, q12_, q13_, cnd_t, cnd_f, Asc_t, Asc_f])⟩
     ·
      intro D t w hD hp hcl hI rest hk
      obtain ⟨O, ht, hs⟩ := hI
      have hp : AllDone D [10] := hp
      obtain ⟨p10_, _⟩ := hp
      obtain ⟨p8_, p9_, _⟩ := (show D 10 = true → AllDone D [8, 9] from hcl 10 (by decide)) p10_
      have q12_ : D 12 = false := not_yet (show D 12 = true → AllDone D [0, 1, 0, 1, 4, 5, 6, 7, 11] from hcl 12 (by decide)) 8 11 rfl hD
      have q13_ : D 13 = false := not_yet (show D 13 = true → AllDone D [12, 7, 0, 1, 4, 5, 6, 7, 11] from hcl 13 (by decide)) 0 12 rfl q12_
      have u0_ : upd D 11 0 = D 0 := rfl; have u1_ : upd D 11 1 = D 1 := rfl; have u2_ : upd D 11 2 = D 2 := rfl; have u3_ : upd D 11 3 = D 3 := rfl; have u4_ : upd D 11 4 = D 4 := rfl; have u5_ : upd D 11 5 = D 5 := rfl; have u6_ : upd D 11 6 = D 6 := rfl; have u7_ : upd D 11 7 = D 7 := rfl; have u8_ : upd D 11 8 = D 8 := rfl; have u9_ : upd D 11 9 = D 9 := rfl; have u10_ : upd D 11 10 = D 10 := rfl; have u11_ : upd D 11 11 = true := rfl; have u12_ : upd D 11 12 = D 12 := rfl; have u13_ : upd D 11 13 = D 13 := rfl
      simp only [hD, p8_, p9_, p10_, q12_, q13_, cnd_t, cnd_f, Asc_t, Asc_f] at ht hs
      subst ht
      refine s_load1 rfl rfl (v := Value.int .u16 (rdL x7 x8 0)) rfl rfl (fun _ => rfl) (cellsAt_of (fkI .u16) 0 (hs.row 0 rfl) had15_ gd14.1 gd14.2) ?_
      show G _ _ _ _ [_, _, _, _, _, _, _, _, _, _, _, _, _, _, _, _, _, _, _, _, _, _, _, _, _, _, _, _] _
      exact hk _ _ ⟨O, (by simp only [u0_, u1_, u2_, u3_, u4_, u5_, u6_, u7_, u8_, u9_, u10_, u11_, u12_, u13_, p8_, p9_, p10_, q12_, q13_, cnd_t, cnd_f, Asc_t, Asc_f]), hs.cast (by first | rfl | simp only [List.take, List.drop, List.cons_append, List.nil_append, List.set_cons_zero, List.set_cons_succ, List.eraseIdx, u0_, u1_, u2_, u3_, u4_, u5_, u6_, u7_, u8_, u9_, u10_, u11_, u12_, u13_, p8_, p9_, p10_, q12_, q13_, cnd_t, cnd_f, Asc_t, Asc_f])⟩
     ·
      intro D t w hD hp hcl hI rest hk
      obtain ⟨O, ht, hs⟩ := hI
      have hp : AllDone D [0, 1, 0, 1, 4, 5, 6, 7, 11] := hp
      obtain ⟨p0_, p1_, _, _, p4_, p5_, p6_, p7_, p11_, _⟩ := hp
      obtain ⟨p10_, _⟩ := (show D 11 = true → AllDone D [10] from hcl 11 (by decide)) p11_
      obtain ⟨p8_, p9_, _⟩ := (show D 10 = true → AllDone D [8, 9] from hcl 10 (by decide)) p10_
      have q13_ : D 13 = false := not_yet (show D 13 = true → AllDone D [12, 7, 0, 1, 4, 5, 6, 7, 11] from hcl 13 (by decide)) 0 12 rfl hD
      have u0_ : upd D 12 0 = D 0 := rfl; have u1_ : upd D 12 1 = D 1 := rfl; have u2_ : upd D 12 2 = D 2 := rfl; have u3_ : upd D 12 3 = D 3 := rfl; have u4_ : upd D 12 4 = D 4 := rfl; have u5_ : upd D 12 5 = D 5 := rfl; have u6_ : upd D 12 6 = D 6 := rfl; have u7_ : upd D 12 7 = D 7 := rfl; have u8_ : upd D 12 8 = D 8 := rfl; have u9_ : upd D 12 9 = D 9 := rfl; have u10_ : upd D 12 10 = D 10 := rfl; have u11_ : upd D 12 11 = D 11 := rfl; have u12_ : upd D 12 12 = true := rfl; have u13_ : upd D 12 13 = D 13 := rfl
      simp only [hD, p0_, p1_, p4_, p5_, p6_, p7_, p8_, p9_, p10_, p11_, q13_, cnd_t, cnd_f, Asc_t, Asc_f] at ht hs
      subst ht
      refine s_idxD (κ := (K.int .u16)) (m := 1) rfl (hs.row 0 rfl) rfl (fun _ => rfl) gd16.1 gd16.2 had17_ rfl rfl rfl rfl rfl ?_
      show G _ _ _ _ [_, _, _, _, _, _, _, _, _, _, _, _, _, _, _, _, _, _, _, _, _, _, _, _, _, _, _, _] _
      exact hk _ _ ⟨O, (by simp only [u0_, u1_, u2_, u3_, u4_, u5_, u6_, u7_, u8_, u9_, u10_, u11_, u12_, u13_, p0_, p1_, p4_, p5_, p6_, p7_, p8_, p9_, p10_, p11_, q13_, cnd_t, cnd_f, Asc_t, Asc_f]), hs.cast (by first | rfl | simp only [List.take, List.drop, List.cons_append, List.nil_append, List.set_cons_zero, List.set_cons_succ, List.eraseIdx, u0_, u1_, u2_, u3_, u4_, u5_, u6_, u7_, u8_, u9_, u10_, u11_, u12_, u13_, p0_, p1_, p4_, p5_, p6_, p7_, p8_, p9_, p10_, p11_, q13_, cnd_t, cnd_f, Asc_t, Asc_f])⟩
     ·
      intro D t w hD hp hcl hI rest hk
      obtain ⟨O, ht, hs⟩ := hI
      have hp : AllDone D [12, 7, 0, 1, 4, 5, 6, 7, 11] := hp
      obtain ⟨p12_, p7_, p0_, p1_, p4_, p5_, p6_, _, p11_, _⟩ := hp
      obtain ⟨p10_, _⟩ := (show D 11 = true → AllDone D [10] from hcl 11 (by decide)) p11_
      obtain ⟨p8_, p9_, _⟩ := (show D 10 = true → AllDone D [8, 9] from hcl 10 (by decide)) p10_
      have u0_ : upd D 13 0 = D 0 := rfl; have u1_ : upd D 13 1 = D 1 := rfl; have u2_ : upd D 13 2 = D 2 := rfl; have u3_ : upd D 13 3 = D 3 := rfl; have u4_ : upd D 13 4 = D 4 := rfl; have u5_ : upd D 13 5 = D 5 := rfl; have u6_ : upd D 13 6 = D 6 := rfl; have u7_ : upd D 13 7 = D 7 := rfl; have u8_ : upd D 13 8 = D 8 := rfl; have u9_ : upd D 13 9 = D 9 := rfl; have u10_ : upd D 13 10 = D 10 := rfl; have u11_ : upd D 13 11 = D 11 := rfl; have u12_ : upd D 13 12 = D 12 := rfl; have u13_ : upd D 13 13 = true := rfl
      simp only [hD, p0_, p1_, p4_, p5_, p6_, p7_, p8_, p9_, p10_, p11_, p12_, cnd_t, cnd_f, Asc_t, Asc_f] at ht hs
      subst ht
      refine s_stRow (y := rdL x7 x9 0) (fkI .u16) gd16.1 gd16.2 (hown_of had17_) hs rfl rfl rfl rfl rfl (fun _ => rfl) ?_
      intro w hs
      show G _ _ _ _ [_, _, _, _, _, _, _, _, _, _, _, _, _, _, _, _, _, _, _, _, _, _, _, _, _, _, _, _] _
      have hs := hs.push 0 (by simp)
      exact hk _ _ ⟨O, (by simp only [u0_, u1_, u2_, u3_, u4_, u5_, u6_, u7_, u8_, u9_, u10_, u11_, u12_, u13_, p0_, p1_, p4_, p5_, p6_, p7_, p8_, p9_, p10_, p11_, p12_, cnd_t, cnd_f, Asc_t, Asc_f]), hs.cast (by first | rfl | simp only [List.take, List.drop, List.cons_append, List.nil_append, List.set_cons_zero, List.set_cons_succ, List.eraseIdx, u0_, u1_, u2_, u3_, u4_, u5_, u6_, u7_, u8_, u9_, u10_, u11_, u12_, u13_, p0_, p1_, p4_, p5_, p6_, p7_, p8_, p9_, p10_, p11_, p12_, cnd_t, cnd_f, Asc_t, Asc_f])⟩
     ·
      intro D t w rest hall hO11_ hI
      obtain ⟨O, ht, hs⟩ := hI
      have p0_ : D 0 = true := hall 0 (by decide) rfl
      have p1_ : D 1 = true := hall 1 (by decide) rfl
      have p2_ : D 2 = true := hall 2 (by decide) rfl
      have p3_ : D 3 = true := hall 3 (by decide) rfl
      have p4_ : D 4 = true := hall 4 (by decide) rfl
      have p5_ : D 5 = true := hall 5 (by decide) rfl
      have p6_ : D 6 = true := hall 6 (by decide) rfl
      have p7_ : D 7 = true := hall 7 (by decide) rfl
      have p8_ : D 8 = true := hall 8 (by decide) rfl
      have p9_ : D 9 = true := hall 9 (by decide) rfl
      have p10_ : D 10 = true := hall 10 (by decide) rfl
      have p11_ : D 11 = true := hall 11 (by decide) rfl
      have p12_ : D 12 = true := hall 12 (by decide) rfl
      have p13_ : D 13 = true := hall 13 (by decide) rfl
      simp only [p0_, p1_, p2_, p3_, p4_, p5_, p6_, p7_, p8_, p9_, p10_, p11_, p12_, p13_, cnd_t, cnd_f, Asc_t, Asc_f] at ht hs
      subst ht
      obtain ⟨rest, rfl, hO18_⟩ := ord_one (m := 16383) hO11_ rfl 14 (m' := 32767) (by decide +kernel) rfl
      clear hO11_
      obtain ⟨g19, H⟩ := ite_get H
      refine s_idx (fkI .u16) 0 (hs.row 0 rfl) rfl (fun _ => rfl) g19.1 g19.2 rfl rfl rfl rfl rfl ?_
      intro p10 hp10 lp10 op10
      show G _ _ _ _ [_, _, _, _, _, _, _, _, _, _, _, _, _, _, _, _, _, _, _, _, _, _, _, _, _, _, _, _] _
      obtain ⟨rest, rfl, hO20_⟩ := ord_one (m := 32767) hO18_ rfl 15 (m' := 65535) (by decide +kernel) rfl
      clear hO18_
      refine s_stRow (y := rdL x7 x8 0) (fkI .u16) g19.1 g19.2 op10 hs rfl rfl rfl rfl rfl (fun _ => rfl) ?_
      intro w hs
      obtain rfl := ord_end hO20_ rfl (by decide +kernel)
      refine g_ops_nil ?_
      refine g_inBlock ?_
      refine g_region ?_
      show G _ _ _ (.inRegion _ [0, 1, 2, 3, 4, 5] :: _) _ _
      refine g_op (v := Value.int .i64 x8) rfl rfl rfl ?_
      refine g_op (v := Value.int .i64 (i64w (x8 + 1))) rfl rfl rfl ?_
      show G _ _ _ _ [_, _, _, _, _, _, _, _, _, _, _, _, _, _, _, _, _, _, _, _, _, _, _, _, _, _, _, _] _
      refine g_op (v := Value.int .i64 x9) rfl rfl rfl ?_
      refine g_op (v := Value.int .i64 (i64w (x9 - 1))) rfl rfl rfl ?_
      show G _ _ _ _ [_, _, _, _, _, _, _, _, _, _, _, _, _, _, _, _, _, _, _, _, _, _, _, _, _, _, _, _] _
      refine g_op (v := Value.int .i64 (i64w (x8 + 1))) rfl rfl rfl ?_
      show G _ _ _ _ [_, _, _, _, _, _, _, _, _, _, _, _, _, _, _, _, _, _, _, _, _, _, _, _, _, _, _, _] _
      refine g_op (v := Value.int .i64 (i64w (x9 - 1))) rfl rfl rfl ?_
      show G _ _ _ _ [_, _, _, _, _, _, _, _, _, _, _, _, _, _, _, _, _, _, _, _, _, _, _, _, _, _, _, _] _
      refine g_ops_nil ?_
      obtain rfl := Option.some.inj H
      have hs := hs.pull 1 rfl
      have hs := hs.pull 1 rfl
      have hs : St _ [_, _] _ := St.take (Γ' := []) hs
      exact ih1_ _ _ ⟨stL (stL x7 x8 (rdL x7 x9 0)) x9 (rdL x7 x8 0), i64w (x8 + 1), i64w (x9 - 1), Hx1_, rfl, hs⟩
    ·
     intro hb
     rw [if_neg (b_dec_f hb)] at H
     show G _ _ _ _ [_, _, _, _, _, _, _, _, _, _, _, _, _, _, _, _, _, _, _, _, _, _, _, _, _, _, _, _] _
     refine g_ops_nil ?_
     refine g_cond_false rfl ?_
     obtain rfl := Option.some.inj H
     subst Hx1_
     have hs := hs.pull 1 rfl
     have hs := hs.pull 1 rfl
     have hs : St _ [_, _] _ := St.take (Γ' := []) hs
     refine g_exit rfl ?_
     exact ha1_ _ _ ⟨x7, Hr1_, rfl, hs⟩

end Go.Proofs.YtgoblgmidejdgaaX
