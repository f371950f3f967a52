/- Contracts, printed by gen.py. -/
import Derived.Test.YtpbkenbmjgchkaaXC1
namespace Go.Proofs.YtpbkenbmjgchkaaX
open Go Go.RowKit Go.Proofs
set_option linter.unusedVariables false
set_option linter.unusedSimpArgs false
/- function 69 spec_l06Wrong -/
def spec_l06Wrong.post (w0 : World) (r : Bool) (v : Value) (w : World) : Prop := v = Value.bool r ∧ St w0 [] w
set_option maxHeartbeats 8000000 in
set_option maxRecDepth 100000 in
theorem spec_l06Wrong.calls {N : Nat} {a1 : S_impl_Ask} {a2 : Int} {w0 : World} {r : Bool} (H : spec_l06Wrong.f N a1 a2 = some r) :
    Calls Try.prog 69 #[Value.agg (enc_S_impl_Ask a1).toArray, Value.int .i64 a2] w0 fun e w => ∃ v, e = .returned v ∧ spec_l06Wrong.post w0 r v w := by
  unfold spec_l06Wrong.f at H
  have hs : St w0 [] w0 := St.refl w0
  refine calls_of_g (n := 13) Try.func69 rfl rfl ?_
  show G _ _ _ _ [_, _, _, _, _, _, _, _, _, _, _, _, _, _, _] _
  refine g_seq ?_
  refine g_region ?_
  show G _ _ _ (.inRegion _ [0, 1] :: _) _ _
  refine s_box hs rfl rfl (cs := (enc_S_impl_Ask a1)) rfl rfl ?_
  intro b3 w hs
  show G _ _ _ _ [_, _, _, _, _, _, _, _, _, _, _, _, _, _, _] _
  refine g_op (v := Value.bool false) rfl rfl rfl ?_
  show G _ _ _ _ [_, _, _, _, _, _, _, _, _, _, _, _, _, _, _] _
  refine g_ops_nil ?_
  refine g_seq ?_
  refine g_region ?_
  show G _ _ _ (.inRegion _ [0, 1, 2, 3, 4, 5, 6, 7, 8, 9, 10] :: _) _ _
  refine g_op (v := Value.pointer (some ⟨b3, 0, none⟩)) rfl rfl rfl ?_
  show G _ _ _ _ [_, _, _, _, _, _, _, _, _, _, _, _, _, _, _] _
  refine s_load1 rfl rfl (v := Value.int .u64 a1.f_Set) rfl rfl (fun _ => rfl) (cells_load (hs.cells 0 rfl) 0 1 rfl) ?_
  show G _ _ _ _ [_, _, _, _, _, _, _, _, _, _, _, _, _, _, _] _
  refine g_op (v := Value.int .i64 a2) rfl rfl rfl ?_
  show G _ _ _ _ [_, _, _, _, _, _, _, _, _, _, _, _, _, _, _] _
  refine g_op (v := Value.int .u64 (u64w a2)) rfl rfl rfl ?_
  show G _ _ _ _ [_, _, _, _, _, _, _, _, _, _, _, _, _, _, _] _
  obtain ⟨g1, H⟩ := ite_get H
  refine g_op (v := Value.int .u64 (shrI .u64 a1.f_Set (u64w a2))) rfl rfl (x_shr rfl rfl rfl g1) ?_
  show G _ _ _ _ [_, _, _, _, _, _, _, _, _, _, _, _, _, _, _] _
  refine g_op (v := Value.int .u64 (bAnd .u64 (shrI .u64 a1.f_Set (u64w a2)) 1)) rfl rfl rfl ?_
  show G _ _ _ _ [_, _, _, _, _, _, _, _, _, _, _, _, _, _, _] _
  refine g_op (v := Value.bool ((bAnd .u64 (shrI .u64 a1.f_Set (u64w a2)) 1) == 1)) rfl rfl rfl ?_
  show G _ _ _ _ [_, _, _, _, _, _, _, _, _, _, _, _, _, _, _] _
  refine g_op (v := Value.pointer (some ⟨b3, 1, none⟩)) rfl rfl rfl ?_
  show G _ _ _ _ [_, _, _, _, _, _, _, _, _, _, _, _, _, _, _] _
  refine s_load1 rfl rfl (v := Value.bool a1.f_Yes) rfl rfl (fun _ => rfl) (cells_load (hs.cells 0 rfl) 1 1 rfl) ?_
  show G _ _ _ _ [_, _, _, _, _, _, _, _, _, _, _, _, _, _, _] _
  refine g_op (v := Value.bool (((bAnd .u64 (shrI .u64 a1.f_Set (u64w a2)) 1) == 1) != a1.f_Yes)) rfl rfl rfl ?_
  show G _ _ _ _ [_, _, _, _, _, _, _, _, _, _, _, _, _, _, _] _
  refine g_op (v := Value.bool (((bAnd .u64 (shrI .u64 a1.f_Set (u64w a2)) 1) == 1) != a1.f_Yes)) rfl rfl rfl ?_
  show G _ _ _ _ [_, _, _, _, _, _, _, _, _, _, _, _, _, _, _] _
  refine g_ops_nil ?_
  obtain rfl := Option.some.inj H
  refine g_ret Try.func69 (v := Value.bool (((bAnd .u64 (shrI .u64 a1.f_Set (u64w a2)) 1) == 1) != a1.f_Yes)) (res1 rfl rfl) ?_
  have hs : St _ [] _ := St.take (Γ' := [_]) hs
  exact ⟨_, rfl, rfl, hs⟩

/- function 54 spec_l06Lies -/
def spec_l06Lies.post (w0 : World) (r : Int) (v : Value) (w : World) : Prop := v = Value.int .i64 r ∧ St w0 [] w
set_option maxHeartbeats 8000000 in
set_option maxRecDepth 100000 in
theorem spec_l06Lies.calls {N : Nat} {a1 : S_impl_Game} {a6 : Int} {b2 : Nat} {v3 : Value} {w0 : World} {r : Int} (hr4 : RdRow k_S_impl_Ask w0 v3 a1.f_Asked) (hp0 : w0.heap[b2]? = some (.cells ((([Value.int .i8 a1.f_Numbers, Value.int .i8 a1.f_Lies, v3] : List Value)) : List Value).toArray 31 (0, 0))) (H : spec_l06Lies.f N a1 a6 = some r) :
    Calls Try.prog 54 #[Value.pointer (some ⟨b2, 0, none⟩), Value.int .i64 a6] w0 fun e w => ∃ v, e = .returned v ∧ spec_l06Lies.post w0 r v w := by
  unfold spec_l06Lies.f at H
  have hs : St w0 [] w0 := St.refl w0
  refine calls_of_g (n := 26) Try.func54 rfl rfl ?_
  show G _ _ _ _ [_, _, _, _, _, _, _, _, _, _, _, _, _, _, _, _, _, _, _, _, _, _, _, _, _, _, _, _] _
  refine g_seq ?_
  refine g_region ?_
  show G _ _ _ (.inRegion _ [0] :: _) _ _
  refine g_op (v := Value.int .i64 0) rfl rfl rfl ?_
  show G _ _ _ _ [_, _, _, _, _, _, _, _, _, _, _, _, _, _, _, _, _, _, _, _, _, _, _, _, _, _, _, _] _
  refine g_ops_nil ?_
  refine g_seq ?_
  refine g_region ?_
  show G _ _ _ (.inRegion _ [0] :: _) _ _
  refine g_op (v := Value.int .i64 0) rfl rfl rfl ?_
  show G _ _ _ _ [_, _, _, _, _, _, _, _, _, _, _, _, _, _, _, _, _, _, _, _, _, _, _, _, _, _, _, _] _
  refine g_ops_nil ?_
  refine g_seq ?_
  refine g_seq ?_
  refine g_region ?_
  show G _ _ _ (.inRegion _ [0] :: _) _ _
  refine g_op (v := Value.int .i64 0) rfl rfl rfl ?_
  show G _ _ _ _ [_, _, _, _, _, _, _, _, _, _, _, _, _, _, _, _, _, _, _, _, _, _, _, _, _, _, _, _] _
  refine g_ops_nil ?_
  obtain ⟨o1_, Ho, Hr1_⟩ := bind_get H
  refine g_block_join (J := fun t w => ∃ x12 : Int, spec_l06Lies.a0 N x12 = some r ∧ Fr t (fun O => ([O 0, O 1, O 2, O 3, O 4, Value.int .i64 x12, O 6, O 7, O 8, O 9, O 10, O 11, O 12, O 13, O 14, O 15, O 16, O 17, O 18, O 19, O 20, O 21, O 22, O 23, O 24, O 25, O 26, O 27] : List Value)) ∧ St w0 [] w) ?_ ?_
  ·
   rintro t w ⟨x12, H, hf, hs⟩
   obtain ⟨O, rfl⟩ := hf.open
   show G _ _ _ _ [_, _, _, _, _, _, _, _, _, _, _, _, _, _, _, _, _, _, _, _, _, _, _, _, _, _, _, _] _
   unfold spec_l06Lies.a0 at H
   refine g_seq ?_
   refine g_region ?_
   show G _ _ _ (.inRegion _ [0, 1] :: _) _ _
   refine g_op (v := Value.int .i64 x12) rfl rfl rfl ?_
   refine g_op (v := Value.int .i64 x12) rfl rfl rfl ?_
   show G _ _ _ _ [_, _, _, _, _, _, _, _, _, _, _, _, _, _, _, _, _, _, _, _, _, _, _, _, _, _, _, _] _
   refine g_ops_nil ?_
   obtain rfl := Option.some.inj H
   refine g_ret Try.func54 (v := Value.int .i64 x12) (res1 rfl rfl) ?_
   have hs : St _ [] _ := St.take (Γ' := []) hs
   exact ⟨_, rfl, rfl, hs⟩
  ·
   intro ha1_
   have hs : St _ [] _ := St.take (Γ' := []) hs
   refine g_loop_fuel (I := fun n_ t w => ∃ x7 : Int, ∃ x8 : Int, rounds (fun s => spec_l06Lies.b0 N a1 a6 s.1 s.2) n_ (x7, x8) = some o1_ ∧ Fr t (fun O => ([Value.pointer (some ⟨b2, 0, none⟩), Value.int .i64 a6, O 2, O 3, O 4, Value.int .i64 x7, Value.int .i64 x8, O 7, O 8, O 9, O 10, O 11, O 12, O 13, O 14, O 15, O 16, O 17, O 18, O 19, O 20, O 21, O 22, O 23, O 24, O 25, O 26, O 27] : List Value)) ∧ St w0 [] w) N ⟨0, 0, Ho, rfl, hs⟩ ?_ ?_
   ·
    rintro _ _ ⟨x7, x8, h, _⟩
    exact rounds_zero h
   ·
    intro n_ ih1_
    rintro t w ⟨x7, x8, Ho, hf, hs⟩
    obtain ⟨O, rfl⟩ := hf.open
    show G _ _ _ _ [_, _, _, _, _, _, _, _, _, _, _, _, _, _, _, _, _, _, _, _, _, _, _, _, _, _, _, _] _
    obtain ⟨x2_, H, Hx1_⟩ := rounds_succ Ho
    have H : spec_l06Lies.b0 N a1 a6 x7 x8 = some x2_ := H
    unfold spec_l06Lies.b0 at H
    refine g_seq ?_
    refine g_seq ?_
    refine g_region ?_
    show G _ _ _ (.inRegion _ [0, 1, 2, 3, 4, 5, 6] :: _) _ _
    refine g_op (v := Value.int .i64 x8) rfl rfl rfl ?_
    refine g_op (v := Value.pointer (some ⟨b2, 0, none⟩)) rfl rfl rfl ?_
    refine g_op (v := Value.pointer (some ⟨b2, 0, none⟩)) rfl rfl rfl ?_
    refine g_op (v := Value.pointer (some ⟨b2, 2, none⟩)) rfl rfl rfl ?_
    refine s_load1 rfl rfl (v := v3) rfl rfl (fun _ => rfl) (cells_load (hs.box hp0) 2 1 rfl) ?_
    show G _ _ _ _ [_, _, _, _, _, _, _, _, _, _, _, _, _, _, _, _, _, _, _, _, _, _, _, _, _, _, _, _] _
    refine s_len (hs.rd hr4) rfl rfl rfl rfl rfl ?_
    show G _ _ _ _ [_, _, _, _, _, _, _, _, _, _, _, _, _, _, _, _, _, _, _, _, _, _, _, _, _, _, _, _] _
    refine g_op_b (B := decide (x8 < (a1.f_Asked.length : Int))) rfl rfl rfl ?_ ?_
    ·
     intro hb
     rw [if_pos (b_dec_t hb)] at H
     show G _ _ _ _ [_, _, _, _, _, _, _, _, _, _, _, _, _, _, _, _, _, _, _, _, _, _, _, _, _, _, _, _] _
     refine g_ops_nil ?_
     refine g_cond_true rfl ?_
     refine g_skip ?_
     refine g_seq ?_
     refine g_block_join (J := (fun t w => ∃ x11 : Int, spec_l06Lies.j2 N x8 x11 = some x2_ ∧ Fr t (fun O => ([Value.pointer (some ⟨b2, 0, none⟩), Value.int .i64 a6, O 2, O 3, O 4, Value.int .i64 x11, Value.int .i64 x8, O 7, O 8, O 9, O 10, O 11, O 12, O 13, O 14, O 15, O 16, O 17, O 18, O 19, O 20, O 21, O 22, O 23, O 24, O 25, O 26, O 27] : List Value)) ∧ St w0 [] w)) ?_ ?_
     ·
      rintro t w ⟨x11, H, hf, hs⟩
      obtain ⟨O, rfl⟩ := hf.open
      show G _ _ _ _ [_, _, _, _, _, _, _, _, _, _, _, _, _, _, _, _, _, _, _, _, _, _, _, _, _, _, _, _] _
      unfold spec_l06Lies.j2 at H
      refine g_region ?_
      show G _ _ _ (.inRegion _ [0, 1, 2] :: _) _ _
      refine g_op (v := Value.int .i64 x8) rfl rfl rfl ?_
      refine g_op (v := Value.int .i64 (i64w (x8 + 1))) rfl rfl rfl ?_
      show G _ _ _ _ [_, _, _, _, _, _, _, _, _, _, _, _, _, _, _, _, _, _, _, _, _, _, _, _, _, _, _, _] _
      refine g_op (v := Value.int .i64 (i64w (x8 + 1))) rfl rfl rfl ?_
      show G _ _ _ _ [_, _, _, _, _, _, _, _, _, _, _, _, _, _, _, _, _, _, _, _, _, _, _, _, _, _, _, _] _
      refine g_ops_nil ?_
      obtain rfl := Option.some.inj H
      have hs : St _ [] _ := St.take (Γ' := []) hs
      exact ih1_ _ _ ⟨x11, i64w (x8 + 1), Hx1_, rfl, hs⟩
     ·
      intro ha
      refine g_seq ?_
      refine g_region ?_
      show G _ _ _ (.inRegion _ [0, 1, 2, 3, 4, 5, 6, 7, 8] :: _) _ _
      refine g_op (v := Value.pointer (some ⟨b2, 0, none⟩)) rfl rfl rfl ?_
      refine g_op (v := Value.pointer (some ⟨b2, 0, none⟩)) rfl rfl rfl ?_
      refine g_op (v := Value.pointer (some ⟨b2, 2, none⟩)) rfl rfl rfl ?_
      refine s_load1 rfl rfl (v := v3) rfl rfl (fun _ => rfl) (cells_load (hs.box hp0) 2 1 rfl) ?_
      show G _ _ _ _ [_, _, _, _, _, _, _, _, _, _, _, _, _, _, _, _, _, _, _, _, _, _, _, _, _, _, _, _] _
      refine g_op (v := Value.int .i64 x8) rfl rfl rfl ?_
      obtain ⟨g1, H⟩ := ite_get H
      refine s_idx fk_S_impl_Ask z_S_impl_Ask (hs.rd hr4) rfl (fun _ => rfl) g1.1 g1.2 rfl rfl rfl rfl rfl ?_
      intro p9 hp9 lp9 op9
      show G _ _ _ _ [_, _, _, _, _, _, _, _, _, _, _, _, _, _, _, _, _, _, _, _, _, _, _, _, _, _, _, _] _
      refine s_loadA rfl rfl (es := (enc_S_impl_Ask (rdL a1.f_Asked x8 z_S_impl_Ask))) rfl rfl (fun _ => rfl) (n := 2) (fun _ => rfl) (fk_S_impl_Ask.len _) hp9 ?_
      show G _ _ _ _ [_, _, _, _, _, _, _, _, _, _, _, _, _, _, _, _, _, _, _, _, _, _, _, _, _, _, _, _] _
      refine g_op (v := Value.int .i64 a6) rfl rfl rfl ?_
      obtain ⟨r10, Hr10, H⟩ := bind_get H
      refine s_call (args := [Value.agg (enc_S_impl_Ask (rdL a1.f_Asked x8 z_S_impl_Ask)).toArray, Value.int .i64 a6]) rfl rfl (x_call rfl (callFunc_enter Try.func69 rfl rfl) rfl) (spec_l06Wrong.calls (a1 := rdL a1.f_Asked x8 z_S_impl_Ask) (a2 := a6) Hr10) ?_
      rintro _ w ⟨rfl, hs2⟩
      have hs : St _ [] _ := hs.call hs2
      cases r10 with
      | true =>
        rw [if_pos rfl] at H
        show G _ _ _ _ [_, _, _, _, _, _, _, _, _, _, _, _, _, _, _, _, _, _, _, _, _, _, _, _, _, _, _, _] _
        refine g_ops_nil ?_
        refine g_cond_true rfl ?_
        refine g_region ?_
        show G _ _ _ (.inRegion _ [0, 1, 2] :: _) _ _
        refine g_op (v := Value.int .i64 x7) rfl rfl rfl ?_
        refine g_op (v := Value.int .i64 (i64w (x7 + 1))) rfl rfl rfl ?_
        show G _ _ _ _ [_, _, _, _, _, _, _, _, _, _, _, _, _, _, _, _, _, _, _, _, _, _, _, _, _, _, _, _] _
        refine g_op (v := Value.int .i64 (i64w (x7 + 1))) rfl rfl rfl ?_
        show G _ _ _ _ [_, _, _, _, _, _, _, _, _, _, _, _, _, _, _, _, _, _, _, _, _, _, _, _, _, _, _, _] _
        refine g_ops_nil ?_
        refine g_inBlock ?_
        have hs : St _ [] _ := St.take (Γ' := []) hs
        exact ha _ _ ⟨i64w (x7 + 1), H, rfl, hs⟩
      | false =>
        rw [if_neg Bool.false_ne_true] at H
        show G _ _ _ _ [_, _, _, _, _, _, _, _, _, _, _, _, _, _, _, _, _, _, _, _, _, _, _, _, _, _, _, _] _
        refine g_ops_nil ?_
        refine g_cond_false rfl ?_
        refine g_skip ?_
        refine g_inBlock ?_
        have hs : St _ [] _ := St.take (Γ' := []) hs
        exact ha _ _ ⟨x7, H, rfl, hs⟩
    ·
     intro hb
     rw [if_neg (b_dec_f hb)] at H
     show G _ _ _ _ [_, _, _, _, _, _, _, _, _, _, _, _, _, _, _, _, _, _, _, _, _, _, _, _, _, _, _, _] _
     refine g_ops_nil ?_
     refine g_cond_false rfl ?_
     obtain rfl := Option.some.inj H
     subst Hx1_
     have hs : St _ [] _ := St.take (Γ' := []) hs
     refine g_exit rfl ?_
     exact ha1_ _ _ ⟨x7, Hr1_, rfl, hs⟩

/- function 33 spec_l06Candidates -/
def spec_l06Candidates.post (w0 : World) (r : (List Int)) (v : Value) (w : World) : Prop := St w0 [Row 2 (K.int .i64) v r] w
set_option maxHeartbeats 8000000 in
set_option maxRecDepth 100000 in
theorem spec_l06Candidates.calls {N : Nat} {a1 : S_impl_Game} {b2 : Nat} {v3 : Value} {w0 : World} {r : (List Int)} (hr4 : RdRow k_S_impl_Ask w0 v3 a1.f_Asked) (hp0 : w0.heap[b2]? = some (.cells ((([Value.int .i8 a1.f_Numbers, Value.int .i8 a1.f_Lies, v3] : List Value)) : List Value).toArray 31 (0, 0))) (H : spec_l06Candidates.f N a1 = some r) :
    Calls Try.prog 33 #[Value.pointer (some ⟨b2, 0, none⟩)] w0 fun e w => ∃ v, e = .returned v ∧ spec_l06Candidates.post w0 r v w := by
  unfold spec_l06Candidates.f at H
  have hs : St w0 [] w0 := St.refl w0
  refine calls_of_g (n := 28) Try.func33 rfl rfl ?_
  show G _ _ _ _ [_, _, _, _, _, _, _, _, _, _, _, _, _, _, _, _, _, _, _, _, _, _, _, _, _, _, _, _, _] _
  refine g_seq ?_
  refine g_region ?_
  show G _ _ _ (.inRegion _ [0] :: _) _ _
  refine g_op (v := Value.slice none 0 0) rfl rfl rfl ?_
  show G _ _ _ _ [_, _, _, _, _, _, _, _, _, _, _, _, _, _, _, _, _, _, _, _, _, _, _, _, _, _, _, _, _] _
  refine g_ops_nil ?_
  refine g_seq ?_
  refine g_region ?_
  show G _ _ _ (.inRegion _ [0, 1] :: _) _ _
  refine s_lit0 (κ := (K.int .i64)) hs rfl rfl rfl rfl (fun _ => rfl) ?_
  intro v6 w hs
  show G _ _ _ _ [_, _, _, _, _, _, _, _, _, _, _, _, _, _, _, _, _, _, _, _, _, _, _, _, _, _, _, _, _] _
  refine g_op (v := v6) rfl rfl rfl ?_
  show G _ _ _ _ [_, _, _, _, _, _, _, _, _, _, _, _, _, _, _, _, _, _, _, _, _, _, _, _, _, _, _, _, _] _
  refine g_ops_nil ?_
  refine g_seq ?_
  refine g_seq ?_
  refine g_region ?_
  show G _ _ _ (.inRegion _ [0] :: _) _ _
  refine g_op (v := Value.int .i64 0) rfl rfl rfl ?_
  show G _ _ _ _ [_, _, _, _, _, _, _, _, _, _, _, _, _, _, _, _, _, _, _, _, _, _, _, _, _, _, _, _, _] _
  refine g_ops_nil ?_
  obtain ⟨o1_, Ho, Hr1_⟩ := bind_get H
  refine g_block_join (J := fun t w => ∃ v20 : Value, ∃ x21 : (List Int), spec_l06Candidates.a0 N x21 = some r ∧ Fr t (fun O => ([O 0, O 1, O 2, v20, O 4, O 5, O 6, O 7, O 8, O 9, O 10, O 11, O 12, O 13, O 14, O 15, O 16, O 17, O 18, O 19, O 20, O 21, O 22, O 23, O 24, O 25, O 26, O 27, O 28] : List Value)) ∧ St w0 [Row 2 (K.int .i64) v20 x21] w) ?_ ?_
  ·
   rintro t w ⟨v20, x21, H, hf, hs⟩
   obtain ⟨O, rfl⟩ := hf.open
   show G _ _ _ _ [_, _, _, _, _, _, _, _, _, _, _, _, _, _, _, _, _, _, _, _, _, _, _, _, _, _, _, _, _] _
   unfold spec_l06Candidates.a0 at H
   refine g_seq ?_
   refine g_region ?_
   show G _ _ _ (.inRegion _ [0, 1] :: _) _ _
   refine g_op (v := v20) rfl rfl rfl ?_
   refine g_op (v := v20) rfl rfl rfl ?_
   show G _ _ _ _ [_, _, _, _, _, _, _, _, _, _, _, _, _, _, _, _, _, _, _, _, _, _, _, _, _, _, _, _, _] _
   refine g_ops_nil ?_
   obtain rfl := Option.some.inj H
   refine g_ret Try.func33 (v := v20) (res1 rfl rfl) ?_
   have hs := hs.pull 0 rfl
   have hs : St _ [_] _ := St.take (Γ' := []) hs
   exact ⟨_, rfl, hs⟩
  ·
   intro ha1_
   have hs := hs.pull 0 rfl
   have hs : St _ [_] _ := St.take (Γ' := []) hs
   refine g_loop_fuel (I := fun n_ t w => ∃ v9 : Value, ∃ x10 : (List Int), ∃ x11 : Int, rounds (fun s => spec_l06Candidates.b0 N a1 s.1 s.2) n_ (x10, x11) = some o1_ ∧ Fr t (fun O => ([Value.pointer (some ⟨b2, 0, none⟩), O 1, O 2, v9, Value.int .i64 x11, O 5, O 6, O 7, O 8, O 9, O 10, O 11, O 12, O 13, O 14, O 15, O 16, O 17, O 18, O 19, O 20, O 21, O 22, O 23, O 24, O 25, O 26, O 27, O 28] : List Value)) ∧ St w0 [Row 2 (K.int .i64) v9 x10] w) N ⟨v6, ([] : List Int), 0, Ho, rfl, hs⟩ ?_ ?_
   ·
    rintro _ _ ⟨v9, x10, x11, h, _⟩
    exact rounds_zero h
   ·
    intro n_ ih1_
    rintro t w ⟨v9, x10, x11, Ho, hf, hs⟩
    obtain ⟨O, rfl⟩ := hf.open
    show G _ _ _ _ [_, _, _, _, _, _, _, _, _, _, _, _, _, _, _, _, _, _, _, _, _, _, _, _, _, _, _, _, _] _
    obtain ⟨x3_, H, Hx1_⟩ := rounds_succ Ho
    have H : spec_l06Candidates.b0 N a1 x10 x11 = some x3_ := H
    unfold spec_l06Candidates.b0 at H
    refine g_seq ?_
    refine g_seq ?_
    refine g_region ?_
    show G _ _ _ (.inRegion _ [0, 1, 2, 3, 4, 5, 6] :: _) _ _
    refine g_op (v := Value.int .i64 x11) rfl rfl rfl ?_
    refine g_op (v := Value.pointer (some ⟨b2, 0, none⟩)) rfl rfl rfl ?_
    refine g_op (v := Value.pointer (some ⟨b2, 0, none⟩)) rfl rfl rfl ?_
    refine g_op (v := Value.pointer (some ⟨b2, 0, none⟩)) rfl rfl rfl ?_
    refine s_load1 rfl rfl (v := Value.int .i8 a1.f_Numbers) rfl rfl (fun _ => rfl) (cells_load (hs.box hp0) 0 1 rfl) ?_
    show G _ _ _ _ [_, _, _, _, _, _, _, _, _, _, _, _, _, _, _, _, _, _, _, _, _, _, _, _, _, _, _, _, _] _
    refine g_op (v := Value.int .i64 (i64w a1.f_Numbers)) rfl rfl rfl ?_
    refine g_op_b (B := decide (x11 < (i64w a1.f_Numbers))) rfl rfl rfl ?_ ?_
    ·
     intro hb
     rw [if_pos (b_dec_t hb)] at H
     show G _ _ _ _ [_, _, _, _, _, _, _, _, _, _, _, _, _, _, _, _, _, _, _, _, _, _, _, _, _, _, _, _, _] _
     refine g_ops_nil ?_
     refine g_cond_true rfl ?_
     refine g_skip ?_
     refine g_seq ?_
     refine g_block_join (J := (fun t w => ∃ v17 : Value, ∃ x18 : (List Int), spec_l06Candidates.j2 N x11 x18 = some x3_ ∧ Fr t (fun O => ([Value.pointer (some ⟨b2, 0, none⟩), O 1, O 2, v17, Value.int .i64 x11, O 5, O 6, O 7, O 8, O 9, O 10, O 11, O 12, O 13, O 14, O 15, O 16, O 17, O 18, O 19, O 20, O 21, O 22, O 23, O 24, O 25, O 26, O 27, O 28] : List Value)) ∧ St w0 [Row 2 (K.int .i64) v17 x18] w)) ?_ ?_
     ·
      rintro t w ⟨v17, x18, H, hf, hs⟩
      obtain ⟨O, rfl⟩ := hf.open
      show G _ _ _ _ [_, _, _, _, _, _, _, _, _, _, _, _, _, _, _, _, _, _, _, _, _, _, _, _, _, _, _, _, _] _
      unfold spec_l06Candidates.j2 at H
      refine g_region ?_
      show G _ _ _ (.inRegion _ [0, 1, 2] :: _) _ _
      refine g_op (v := Value.int .i64 x11) rfl rfl rfl ?_
      refine g_op (v := Value.int .i64 (i64w (x11 + 1))) rfl rfl rfl ?_
      show G _ _ _ _ [_, _, _, _, _, _, _, _, _, _, _, _, _, _, _, _, _, _, _, _, _, _, _, _, _, _, _, _, _] _
      refine g_op (v := Value.int .i64 (i64w (x11 + 1))) rfl rfl rfl ?_
      show G _ _ _ _ [_, _, _, _, _, _, _, _, _, _, _, _, _, _, _, _, _, _, _, _, _, _, _, _, _, _, _, _, _] _
      refine g_ops_nil ?_
      obtain rfl := Option.some.inj H
      have hs := hs.pull 0 rfl
      have hs : St _ [_] _ := St.take (Γ' := []) hs
      exact ih1_ _ _ ⟨v17, x18, i64w (x11 + 1), Hx1_, rfl, hs⟩
     ·
      intro ha
      refine g_seq ?_
      refine g_lay (n := 9) rfl [0, 1, 2, 3, 4, 5, 6, 7, 8] [0, 1, 2, 3, 4, 5, 6, 7, 8] rfl rfl ?_
      intro rest w hh hbw hO
      have hs := hs.samew hh hbw
      show G _ _ _ _ [_, _, _, _, _, _, _, _, _, _, _, _, _, _, _, _, _, _, _, _, _, _, _, _, _, _, _, _, _] _
      obtain ⟨r12, Hr12, H⟩ := bind_get H
      refine g_name ?_
      intro T hT
      refine g_layer (m0 := 0) hO rfl 255 [0, 1, 2, 3, 4, 5, 6, 7] [0, 0, 3, 0, 8, 24, 56, 120, 255] (by decide +kernel) (fun D t w => ∃ O : Nat → Value, t = [Value.pointer (some ⟨b2, 0, none⟩), O 1, O 2, v9, Value.int .i64 x11, O 5, Value.int .i64 x11, Value.pointer (some ⟨b2, 0, none⟩), Value.pointer (some ⟨b2, 0, none⟩), Value.pointer (some ⟨b2, 0, none⟩), Value.int .i8 a1.f_Numbers, Value.int .i64 (i64w a1.f_Numbers), Value.bool true, O 13, O 14, cnd (D 0) (Value.pointer (some ⟨b2, 0, none⟩)) (O 15), cnd (D 1) (Value.int .i64 x11) (O 16), cnd (D 2) (Value.int .i64 r12) (O 17), cnd (D 3) (Value.pointer (some ⟨b2, 0, none⟩)) (O 18), cnd (D 4) (Value.pointer (some ⟨b2, 0, none⟩)) (O 19), cnd (D 5) (Value.pointer (some ⟨b2, 1, none⟩)) (O 20), cnd (D 6) (Value.int .i8 a1.f_Lies) (O 21), cnd (D 7) (Value.int .i64 (i64w a1.f_Lies)) (O 22), O 23, O 24, O 25, O 26, O 27, O 28] ∧ St w0 [Row 2 (K.int .i64) v9 x10] w) ?_ ⟨?_, ⟨?_, ⟨?_, ⟨?_, ⟨?_, ⟨?_, ⟨?_, ⟨?_, trivial⟩⟩⟩⟩⟩⟩⟩⟩ ?_
      · exact ⟨fun i => T.getD i undef, (by subst hT; rfl), hs⟩
      ·
       intro D t w hD hp hcl hI rest hk
       obtain ⟨O, ht, hs⟩ := hI
       have hp : AllDone D [] := hp
       have q2_ : D 2 = false := not_yet (show D 2 = true → AllDone D [0, 1] from hcl 2 (by decide)) 0 0 rfl hD
       have u0_ : upd D 0 0 = true := rfl; have u1_ : upd D 0 1 = D 1 := rfl; have u2_ : upd D 0 2 = D 2 := rfl; have u3_ : upd D 0 3 = D 3 := rfl; have u4_ : upd D 0 4 = D 4 := rfl; have u5_ : upd D 0 5 = D 5 := rfl; have u6_ : upd D 0 6 = D 6 := rfl; have u7_ : upd D 0 7 = D 7 := rfl
       simp only [hD, q2_, cnd_t, cnd_f, Asc_t, Asc_f] at ht hs
       subst ht
       refine g_op (v := Value.pointer (some ⟨b2, 0, none⟩)) rfl rfl rfl ?_
       show G _ _ _ _ [_, _, _, _, _, _, _, _, _, _, _, _, _, _, _, _, _, _, _, _, _, _, _, _, _, _, _, _, _] _
       exact hk _ _ ⟨O, (by simp only [u0_, u1_, u2_, u3_, u4_, u5_, u6_, u7_, q2_, cnd_t, cnd_f, Asc_t, Asc_f]), hs.cast (by first | rfl | simp only [List.take, List.drop, List.cons_append, List.nil_append, List.set_cons_zero, List.set_cons_succ, List.eraseIdx, u0_, u1_, u2_, u3_, u4_, u5_, u6_, u7_, q2_, cnd_t, cnd_f, Asc_t, Asc_f])⟩
      ·
       intro D t w hD hp hcl hI rest hk
       obtain ⟨O, ht, hs⟩ := hI
       have hp : AllDone D [] := hp
       have q2_ : D 2 = false := not_yet (show D 2 = true → AllDone D [0, 1] from hcl 2 (by decide)) 1 1 rfl hD
       have u0_ : upd D 1 0 = D 0 := rfl; have u1_ : upd D 1 1 = true := rfl; have u2_ : upd D 1 2 = D 2 := rfl; have u3_ : upd D 1 3 = D 3 := rfl; have u4_ : upd D 1 4 = D 4 := rfl; have u5_ : upd D 1 5 = D 5 := rfl; have u6_ : upd D 1 6 = D 6 := rfl; have u7_ : upd D 1 7 = D 7 := rfl
       simp only [hD, q2_, cnd_t, cnd_f, Asc_t, Asc_f] at ht hs
       subst ht
       refine g_op (v := Value.int .i64 x11) rfl rfl rfl ?_
       show G _ _ _ _ [_, _, _, _, _, _, _, _, _, _, _, _, _, _, _, _, _, _, _, _, _, _, _, _, _, _, _, _, _] _
       exact hk _ _ ⟨O, (by simp only [u0_, u1_, u2_, u3_, u4_, u5_, u6_, u7_, q2_, cnd_t, cnd_f, Asc_t, Asc_f]), hs.cast (by first | rfl | simp only [List.take, List.drop, List.cons_append, List.nil_append, List.set_cons_zero, List.set_cons_succ, List.eraseIdx, u0_, u1_, u2_, u3_, u4_, u5_, u6_, u7_, q2_, cnd_t, cnd_f, Asc_t, Asc_f])⟩
      ·
       intro D t w hD hp hcl hI rest hk
       obtain ⟨O, ht, hs⟩ := hI
       have hp : AllDone D [0, 1] := hp
       obtain ⟨p0_, p1_, _⟩ := hp
       have u0_ : upd D 2 0 = D 0 := rfl; have u1_ : upd D 2 1 = D 1 := rfl; have u2_ : upd D 2 2 = true := rfl; have u3_ : upd D 2 3 = D 3 := rfl; have u4_ : upd D 2 4 = D 4 := rfl; have u5_ : upd D 2 5 = D 5 := rfl; have u6_ : upd D 2 6 = D 6 := rfl; have u7_ : upd D 2 7 = D 7 := rfl
       simp only [hD, p0_, p1_, cnd_t, cnd_f, Asc_t, Asc_f] at ht hs
       subst ht
       refine s_call (args := [Value.pointer (some ⟨b2, 0, none⟩), Value.int .i64 x11]) rfl rfl (x_call rfl (callFunc_enter Try.func54 rfl rfl) rfl) (spec_l06Lies.calls (a1 := (⟨a1.f_Numbers, a1.f_Lies, a1.f_Asked⟩ : S_impl_Game)) (a6 := x11) (hs.rd hr4) (hs.box hp0) Hr12) ?_
       rintro _ w ⟨rfl, hs2⟩
       have hs : St _ [_] _ := hs.call hs2
       show G _ _ _ _ [_, _, _, _, _, _, _, _, _, _, _, _, _, _, _, _, _, _, _, _, _, _, _, _, _, _, _, _, _] _
       exact hk _ _ ⟨O, (by simp only [u0_, u1_, u2_, u3_, u4_, u5_, u6_, u7_, p0_, p1_, cnd_t, cnd_f, Asc_t, Asc_f]), hs.cast (by first | rfl | simp only [List.take, List.drop, List.cons_append, List.nil_append, List.set_cons_zero, List.set_cons_succ, List.eraseIdx, u0_, u1_, u2_, u3_, u4_, u5_, u6_, u7_, p0_, p1_, cnd_t, cnd_f, Asc_t, Asc_f])⟩
      ·
       intro D t w hD hp hcl hI rest hk
       obtain ⟨O, ht, hs⟩ := hI
       have hp : AllDone D [] := hp
       have q4_ : D 4 = false := not_yet (show D 4 = true → AllDone D [3] from hcl 4 (by decide)) 0 3 rfl hD
       have q5_ : D 5 = false := not_yet (show D 5 = true → AllDone D [4] from hcl 5 (by decide)) 0 4 rfl q4_
       have q6_ : D 6 = false := not_yet (show D 6 = true → AllDone D [5] from hcl 6 (by decide)) 0 5 rfl q5_
       have q7_ : D 7 = false := not_yet (show D 7 = true → AllDone D [6] from hcl 7 (by decide)) 0 6 rfl q6_
       have u0_ : upd D 3 0 = D 0 := rfl; have u1_ : upd D 3 1 = D 1 := rfl; have u2_ : upd D 3 2 = D 2 := rfl; have u3_ : upd D 3 3 = true := rfl; have u4_ : upd D 3 4 = D 4 := rfl; have u5_ : upd D 3 5 = D 5 := rfl; have u6_ : upd D 3 6 = D 6 := rfl; have u7_ : upd D 3 7 = D 7 := rfl
       simp only [hD, q4_, q5_, q6_, q7_, cnd_t, cnd_f, Asc_t, Asc_f] at ht hs
       subst ht
       refine g_op (v := Value.pointer (some ⟨b2, 0, none⟩)) rfl rfl rfl ?_
       show G _ _ _ _ [_, _, _, _, _, _, _, _, _, _, _, _, _, _, _, _, _, _, _, _, _, _, _, _, _, _, _, _, _] _
       exact hk _ _ ⟨O, (by simp only [u0_, u1_, u2_, u3_, u4_, u5_, u6_, u7_, q4_, q5_, q6_, q7_, cnd_t, cnd_f, Asc_t, Asc_f]), hs.cast (by first | rfl | simp only [List.take, List.drop, List.cons_append, List.nil_append, List.set_cons_zero, List.set_cons_succ, List.eraseIdx, u0_, u1_, u2_, u3_, u4_, u5_, u6_, u7_, q4_, q5_, q6_, q7_, cnd_t, cnd_f, Asc_t, Asc_f])⟩
      ·
       intro D t w hD hp hcl hI rest hk
       obtain ⟨O, ht, hs⟩ := hI
       have hp : AllDone D [3] := hp
       obtain ⟨p3_, _⟩ := hp
       have q5_ : D 5 = false := not_yet (show D 5 = true → AllDone D [4] from hcl 5 (by decide)) 0 4 rfl hD
       have q6_ : D 6 = false := not_yet (show D 6 = true → AllDone D [5] from hcl 6 (by decide)) 0 5 rfl q5_
       have q7_ : D 7 = false := not_yet (show D 7 = true → AllDone D [6] from hcl 7 (by decide)) 0 6 rfl q6_
       have u0_ : upd D 4 0 = D 0 := rfl; have u1_ : upd D 4 1 = D 1 := rfl; have u2_ : upd D 4 2 = D 2 := rfl; have u3_ : upd D 4 3 = D 3 := rfl; have u4_ : upd D 4 4 = true := rfl; have u5_ : upd D 4 5 = D 5 := rfl; have u6_ : upd D 4 6 = D 6 := rfl; have u7_ : upd D 4 7 = D 7 := rfl
       simp only [hD, p3_, q5_, q6_, q7_, cnd_t, cnd_f, Asc_t, Asc_f] at ht hs
       subst ht
       refine g_op (v := Value.pointer (some ⟨b2, 0, none⟩)) rfl rfl rfl ?_
       show G _ _ _ _ [_, _, _, _, _, _, _, _, _, _, _, _, _, _, _, _, _, _, _, _, _, _, _, _, _, _, _, _, _] _
       exact hk _ _ ⟨O, (by simp only [u0_, u1_, u2_, u3_, u4_, u5_, u6_, u7_, p3_, q5_, q6_, q7_, cnd_t, cnd_f, Asc_t, Asc_f]), hs.cast (by first | rfl | simp only [List.take, List.drop, List.cons_append, List.nil_append, List.set_cons_zero, List.set_cons_succ, List.eraseIdx, u0_, u1_, u2_, u3_, u4_, u5_, u6_, u7_, p3_, q5_, q6_, q7_, cnd_t, cnd_f, Asc_t, Asc_f])⟩
      ·
       intro D t w hD hp hcl hI rest hk
       obtain ⟨O, ht, hs⟩ := hI
       have hp : AllDone D [4] := hp
       obtain ⟨p4_, _⟩ := hp
       obtain ⟨p3_, _⟩ := (show D 4 = true → AllDone D [3] from hcl 4 (by decide)) p4_
       have q6_ : D 6 = false := not_yet (show D 6 = true → AllDone D [5] from hcl 6 (by decide)) 0 5 rfl hD
       have q7_ : D 7 = false := not_yet (show D 7 = true → AllDone D [6] from hcl 7 (by decide)) 0 6 rfl q6_
       have u0_ : upd D 5 0 = D 0 := rfl; have u1_ : upd D 5 1 = D 1 := rfl; have u2_ : upd D 5 2 = D 2 := rfl; have u3_ : upd D 5 3 = D 3 := rfl; have u4_ : upd D 5 4 = D 4 := rfl; have u5_ : upd D 5 5 = true := rfl; have u6_ : upd D 5 6 = D 6 := rfl; have u7_ : upd D 5 7 = D 7 := rfl
       simp only [hD, p3_, p4_, q6_, q7_, cnd_t, cnd_f, Asc_t, Asc_f] at ht hs
       subst ht
       refine g_op (v := Value.pointer (some ⟨b2, 1, none⟩)) rfl rfl rfl ?_
       show G _ _ _ _ [_, _, _, _, _, _, _, _, _, _, _, _, _, _, _, _, _, _, _, _, _, _, _, _, _, _, _, _, _] _
       exact hk _ _ ⟨O, (by simp only [u0_, u1_, u2_, u3_, u4_, u5_, u6_, u7_, p3_, p4_, q6_, q7_, cnd_t, cnd_f, Asc_t, Asc_f]), hs.cast (by first | rfl | simp only [List.take, List.drop, List.cons_append, List.nil_append, List.set_cons_zero, List.set_cons_succ, List.eraseIdx, u0_, u1_, u2_, u3_, u4_, u5_, u6_, u7_, p3_, p4_, q6_, q7_, cnd_t, cnd_f, Asc_t, Asc_f])⟩
      ·
       intro D t w hD hp hcl hI rest hk
       obtain ⟨O, ht, hs⟩ := hI
       have hp : AllDone D [5] := hp
       obtain ⟨p5_, _⟩ := hp
       obtain ⟨p4_, _⟩ := (show D 5 = true → AllDone D [4] from hcl 5 (by decide)) p5_
       obtain ⟨p3_, _⟩ := (show D 4 = true → AllDone D [3] from hcl 4 (by decide)) p4_
       have q7_ : D 7 = false := not_yet (show D 7 = true → AllDone D [6] from hcl 7 (by decide)) 0 6 rfl hD
       have u0_ : upd D 6 0 = D 0 := rfl; have u1_ : upd D 6 1 = D 1 := rfl; have u2_ : upd D 6 2 = D 2 := rfl; have u3_ : upd D 6 3 = D 3 := rfl; have u4_ : upd D 6 4 = D 4 := rfl; have u5_ : upd D 6 5 = D 5 := rfl; have u6_ : upd D 6 6 = true := rfl; have u7_ : upd D 6 7 = D 7 := rfl
       simp only [hD, p3_, p4_, p5_, q7_, cnd_t, cnd_f, Asc_t, Asc_f] at ht hs
       subst ht
       refine s_load1 rfl rfl (v := Value.int .i8 a1.f_Lies) rfl rfl (fun _ => rfl) (cells_load (hs.box hp0) 1 1 rfl) ?_
       show G _ _ _ _ [_, _, _, _, _, _, _, _, _, _, _, _, _, _, _, _, _, _, _, _, _, _, _, _, _, _, _, _, _] _
       exact hk _ _ ⟨O, (by simp only [u0_, u1_, u2_, u3_, u4_, u5_, u6_, u7_, p3_, p4_, p5_, q7_, cnd_t, cnd_f, Asc_t, Asc_f]), hs.cast (by first | rfl | simp only [List.take, List.drop, List.cons_append, List.nil_append, List.set_cons_zero, List.set_cons_succ, List.eraseIdx, u0_, u1_, u2_, u3_, u4_, u5_, u6_, u7_, p3_, p4_, p5_, q7_, cnd_t, cnd_f, Asc_t, Asc_f])⟩
      ·
       intro D t w hD hp hcl hI rest hk
       obtain ⟨O, ht, hs⟩ := hI
       have hp : AllDone D [6] := hp
       obtain ⟨p6_, _⟩ := hp
       obtain ⟨p5_, _⟩ := (show D 6 = true → AllDone D [5] from hcl 6 (by decide)) p6_
       obtain ⟨p4_, _⟩ := (show D 5 = true → AllDone D [4] from hcl 5 (by decide)) p5_
       obtain ⟨p3_, _⟩ := (show D 4 = true → AllDone D [3] from hcl 4 (by decide)) p4_
       have u0_ : upd D 7 0 = D 0 := rfl; have u1_ : upd D 7 1 = D 1 := rfl; have u2_ : upd D 7 2 = D 2 := rfl; have u3_ : upd D 7 3 = D 3 := rfl; have u4_ : upd D 7 4 = D 4 := rfl; have u5_ : upd D 7 5 = D 5 := rfl; have u6_ : upd D 7 6 = D 6 := rfl; have u7_ : upd D 7 7 = true := rfl
       simp only [hD, p3_, p4_, p5_, p6_, cnd_t, cnd_f, Asc_t, Asc_f] at ht hs
       subst ht
       refine g_op (v := Value.int .i64 (i64w a1.f_Lies)) rfl rfl rfl ?_
       show G _ _ _ _ [_, _, _, _, _, _, _, _, _, _, _, _, _, _, _, _, _, _, _, _, _, _, _, _, _, _, _, _, _] _
       exact hk _ _ ⟨O, (by simp only [u0_, u1_, u2_, u3_, u4_, u5_, u6_, u7_, p3_, p4_, p5_, p6_, cnd_t, cnd_f, Asc_t, Asc_f]), hs.cast (by first | rfl | simp only [List.take, List.drop, List.cons_append, List.nil_append, List.set_cons_zero, List.set_cons_succ, List.eraseIdx, u0_, u1_, u2_, u3_, u4_, u5_, u6_, u7_, p3_, p4_, p5_, p6_, cnd_t, cnd_f, Asc_t, Asc_f])⟩
      ·
       intro D t w rest hall hO1_ hI
       obtain ⟨O, ht, hs⟩ := hI
       have p0_ : D 0 = true := hall 0 (by decide) rfl
       have p1_ : D 1 = true := hall 1 (by decide) rfl
       have p2_ : D 2 = true := hall 2 (by decide) rfl
       have p3_ : D 3 = true := hall 3 (by decide) rfl
       have p4_ : D 4 = true := hall 4 (by decide) rfl
       have p5_ : D 5 = true := hall 5 (by decide) rfl
       have p6_ : D 6 = true := hall 6 (by decide) rfl
       have p7_ : D 7 = true := hall 7 (by decide) rfl
       simp only [p0_, p1_, p2_, p3_, p4_, p5_, p6_, p7_, cnd_t, cnd_f, Asc_t, Asc_f] at ht hs
       subst ht
       obtain ⟨rest, rfl, hO2_⟩ := ord_one (m := 255) hO1_ rfl 8 (m' := 511) (by decide +kernel) rfl
       clear hO1_
       refine g_op_b (B := decide (r12 ≤ (i64w a1.f_Lies))) rfl rfl rfl ?_ ?_
       ·
        intro hb
        rw [if_pos (b_dec_t hb)] at H
        show G _ _ _ _ [_, _, _, _, _, _, _, _, _, _, _, _, _, _, _, _, _, _, _, _, _, _, _, _, _, _, _, _, _] _
        obtain rfl := ord_end hO2_ rfl (by decide +kernel)
        refine g_ops_nil ?_
        refine g_cond_true rfl ?_
        refine g_region ?_
        show G _ _ _ (.inRegion _ [0, 1, 2, 3, 4] :: _) _ _
        refine g_op (v := v9) rfl rfl rfl ?_
        refine g_op (v := Value.int .i64 x11) rfl rfl rfl ?_
        refine s_lit1 (fkI .i64) (y := x11) hs rfl rfl rfl rfl (fun _ => rfl) (zv := (Value.int .i64 0)) (fun _ => rfl) rfl (by decide) (by decide) rfl ?_
        intro v13 w hs
        show G _ _ _ _ [_, _, _, _, _, _, _, _, _, _, _, _, _, _, _, _, _, _, _, _, _, _, _, _, _, _, _, _, _] _
        have hs := hs.pull 1 rfl
        have hs : St _ [_, _] _ := hs
        obtain ⟨g, H⟩ := ite_get H
        refine s_append (fkI .i64) (zv := (Value.int .i64 0)) (B := 8) hs (hs.row 1 rfl) rfl rfl rfl rfl rfl rfl rfl rfl rfl (by decide) rfl rfl (by decide) (by omega) ?_
        intro v15 w hs
        show G _ _ _ _ [_, _, _, _, _, _, _, _, _, _, _, _, _, _, _, _, _, _, _, _, _, _, _, _, _, _, _, _, _] _
        refine g_op (v := v15) rfl rfl rfl ?_
        show G _ _ _ _ [_, _, _, _, _, _, _, _, _, _, _, _, _, _, _, _, _, _, _, _, _, _, _, _, _, _, _, _, _] _
        refine g_ops_nil ?_
        refine g_inBlock ?_
        have hs := hs.pull 0 rfl
        have hs : St _ [_] _ := St.take (Γ' := [_]) hs
        exact ha _ _ ⟨v15, x10 ++ ([x11]), H, rfl, hs⟩
       ·
        intro hb
        rw [if_neg (b_dec_f hb)] at H
        show G _ _ _ _ [_, _, _, _, _, _, _, _, _, _, _, _, _, _, _, _, _, _, _, _, _, _, _, _, _, _, _, _, _] _
        obtain rfl := ord_end hO2_ rfl (by decide +kernel)
        refine g_ops_nil ?_
        refine g_cond_false rfl ?_
        refine g_skip ?_
        refine g_inBlock ?_
        have hs := hs.pull 0 rfl
        have hs : St _ [_] _ := St.take (Γ' := []) hs
        exact ha _ _ ⟨v9, x10, H, rfl, hs⟩
    ·
     intro hb
     rw [if_neg (b_dec_f hb)] at H
     show G _ _ _ _ [_, _, _, _, _, _, _, _, _, _, _, _, _, _, _, _, _, _, _, _, _, _, _, _, _, _, _, _, _] _
     refine g_ops_nil ?_
     refine g_cond_false rfl ?_
     obtain rfl := Option.some.inj H
     subst Hx1_
     have hs := hs.pull 0 rfl
     have hs : St _ [_] _ := St.take (Γ' := []) hs
     refine g_exit rfl ?_
     exact ha1_ _ _ ⟨v9, x10, Hr1_, rfl, hs⟩

/- function 12 spec_CandidatesOf -/
def spec_CandidatesOf.post (w0 : World) (r : ((List Int) × Int)) (v : Value) (w : World) : Prop := ∃ u1 : Value, v = Value.tuple #[u1, Value.int .i64 r.2] ∧ St w0 [Row 2 (K.int .i64) u1 r.1] w
set_option maxHeartbeats 8000000 in
set_option maxRecDepth 100000 in
theorem spec_CandidatesOf.calls {N : Nat} {a1 : S_impl_Game} {v2 : Value} {w0 : World} {r : ((List Int) × Int)} (hr3 : RdRow k_S_impl_Ask w0 v2 a1.f_Asked) (H : spec_CandidatesOf.f N a1 = some r) :
    Calls Try.prog 12 #[Value.agg (([Value.int .i8 a1.f_Numbers, Value.int .i8 a1.f_Lies, v2] : List Value)).toArray] w0 fun e w => ∃ v, e = .returned v ∧ spec_CandidatesOf.post w0 r v w := by
  unfold spec_CandidatesOf.f at H
  have hs : St w0 [] w0 := St.refl w0
  refine calls_of_g (n := 7) Try.func12 rfl rfl ?_
  show G _ _ _ _ [_, _, _, _, _, _, _, _] _
  refine g_seq ?_
  refine g_region ?_
  show G _ _ _ (.inRegion _ [0, 1, 2] :: _) _ _
  refine s_box hs rfl rfl (cs := (([Value.int .i8 a1.f_Numbers, Value.int .i8 a1.f_Lies, v2] : List Value))) rfl rfl ?_
  intro b4 w hs
  show G _ _ _ _ [_, _, _, _, _, _, _, _] _
  refine g_op (v := Value.slice none 0 0) rfl rfl rfl ?_
  show G _ _ _ _ [_, _, _, _, _, _, _, _] _
  refine g_op (v := Value.int .i64 0) rfl rfl rfl ?_
  show G _ _ _ _ [_, _, _, _, _, _, _, _] _
  refine g_ops_nil ?_
  refine g_seq ?_
  refine g_seq ?_
  refine g_region ?_
  show G _ _ _ (.inRegion _ [0, 1] :: _) _ _
  obtain ⟨r6, Hr6, H⟩ := bind_get H
  refine s_call (args := [Value.pointer (some ⟨b4, 0, none⟩)]) rfl rfl (x_call rfl (callFunc_enter Try.func27 rfl rfl) rfl) (spec_l06Ok.calls (a1 := (⟨a1.f_Numbers, a1.f_Lies, a1.f_Asked⟩ : S_impl_Game)) (hs.rd hr3) (hs.cells 0 rfl) Hr6) ?_
  rintro _ w ⟨rfl, hs2⟩
  have hs : St _ [_] _ := hs.call hs2
  cases r6 with
  | true =>
    rw [if_pos rfl] at H
    show G _ _ _ _ [_, _, _, _, _, _, _, _] _
    refine g_op (v := Value.bool false) rfl rfl rfl ?_
    show G _ _ _ _ [_, _, _, _, _, _, _, _] _
    refine g_ops_nil ?_
    refine g_cond_false rfl ?_
    refine g_skip ?_
    refine g_seq ?_
    refine g_region ?_
    show G _ _ _ (.inRegion _ [0, 1, 2] :: _) _ _
    obtain ⟨r7, Hr7, H⟩ := bind_get H
    refine s_call (args := [Value.pointer (some ⟨b4, 0, none⟩)]) rfl rfl (x_call rfl (callFunc_enter Try.func33 rfl rfl) rfl) (spec_l06Candidates.calls (a1 := (⟨a1.f_Numbers, a1.f_Lies, a1.f_Asked⟩ : S_impl_Game)) (hs.rd hr3) (hs.cells 0 rfl) Hr7) ?_
    intro v8 w hs2
    have hs : St _ [_, _] _ := hs.call hs2
    show G _ _ _ _ [_, _, _, _, _, _, _, _] _
    refine g_op (v := v8) rfl rfl rfl ?_
    show G _ _ _ _ [_, _, _, _, _, _, _, _] _
    refine g_op (v := Value.int .i64 0) rfl rfl rfl ?_
    show G _ _ _ _ [_, _, _, _, _, _, _, _] _
    refine g_ops_nil ?_
    obtain rfl := Option.some.inj H
    refine g_ret Try.func12 (v := Value.tuple #[v8, Value.int .i64 0]) (resN (l := Try.f12.results.toList) (vs := [v8, Value.int .i64 0]) rfl ⟨rfl, rfl, trivial⟩ (by simp)) ?_
    have hs := hs.pull 0 rfl
    have hs : St _ [_] _ := St.take (Γ' := [_]) hs
    exact ⟨_, rfl, v8, rfl, hs⟩
  | false =>
    rw [if_neg Bool.false_ne_true] at H
    show G _ _ _ _ [_, _, _, _, _, _, _, _] _
    refine g_op (v := Value.bool true) rfl rfl rfl ?_
    show G _ _ _ _ [_, _, _, _, _, _, _, _] _
    refine g_ops_nil ?_
    refine g_cond_true rfl ?_
    refine g_seq ?_
    refine g_region ?_
    show G _ _ _ (.inRegion _ [0, 1, 2] :: _) _ _
    refine s_lit0 (κ := (K.int .i64)) hs rfl rfl rfl rfl (fun _ => rfl) ?_
    intro v10 w hs
    show G _ _ _ _ [_, _, _, _, _, _, _, _] _
    refine g_op (v := v10) rfl rfl rfl ?_
    show G _ _ _ _ [_, _, _, _, _, _, _, _] _
    refine g_op (v := Value.int .i64 1) rfl rfl rfl ?_
    show G _ _ _ _ [_, _, _, _, _, _, _, _] _
    refine g_ops_nil ?_
    obtain rfl := Option.some.inj H
    refine g_ret Try.func12 (v := Value.tuple #[v10, Value.int .i64 1]) (resN (l := Try.f12.results.toList) (vs := [v10, Value.int .i64 1]) rfl ⟨rfl, rfl, trivial⟩ (by simp)) ?_
    have hs := hs.pull 0 rfl
    have hs : St _ [_] _ := St.take (Γ' := [_]) hs
    exact ⟨_, rfl, v10, rfl, hs⟩

/- function 40 impl_within -/
def impl_within.post (w0 : World) (r : Bool) (v : Value) (w : World) : Prop := v = Value.bool r ∧ St w0 [] w
set_option maxHeartbeats 8000000 in
set_option maxRecDepth 100000 in
theorem impl_within.calls {N : Nat} {a1 : Int} {a2 : Int} {a3 : Int} {w0 : World} {r : Bool} (H : impl_within.f N a1 a2 a3 = some r) :
    Calls Try.prog 40 #[Value.int .i64 a1, Value.int .i64 a2, Value.int .i64 a3] w0 fun e w => ∃ v, e = .returned v ∧ impl_within.post w0 r v w := by
  unfold impl_within.f at H
  have hs : St w0 [] w0 := St.refl w0
  refine calls_of_g (n := 12) Try.func40 rfl rfl ?_
  show G _ _ _ _ [_, _, _, _, _, _, _, _, _, _, _, _, _, _, _] _
  refine g_seq ?_
  refine g_region ?_
  show G _ _ _ (.inRegion _ [0] :: _) _ _
  refine g_op (v := Value.bool false) rfl rfl rfl ?_
  show G _ _ _ _ [_, _, _, _, _, _, _, _, _, _, _, _, _, _, _] _
  refine g_ops_nil ?_
  refine g_seq ?_
  refine g_region ?_
  show G _ _ _ (.inRegion _ [0, 1, 2, 3, 4, 5, 6, 7, 8] :: _) _ _
  refine g_op (v := Value.int .i64 a2) rfl rfl rfl ?_
  show G _ _ _ _ [_, _, _, _, _, _, _, _, _, _, _, _, _, _, _] _
  refine g_op (v := Value.int .i64 a1) rfl rfl rfl ?_
  show G _ _ _ _ [_, _, _, _, _, _, _, _, _, _, _, _, _, _, _] _
  refine g_op_b (B := decide (a2 ≤ a1)) rfl rfl rfl ?_ ?_
  ·
   intro hb
   rw [if_pos (b_dec_t hb)] at H
   show G _ _ _ _ [_, _, _, _, _, _, _, _, _, _, _, _, _, _, _] _
   refine g_op (v := Value.bool true) rfl rfl rfl ?_
   show G _ _ _ _ [_, _, _, _, _, _, _, _, _, _, _, _, _, _, _] _
   refine g_op (v := Value.int .i64 a1) rfl rfl rfl ?_
   show G _ _ _ _ [_, _, _, _, _, _, _, _, _, _, _, _, _, _, _] _
   refine g_op (v := Value.int .i64 a3) rfl rfl rfl ?_
   show G _ _ _ _ [_, _, _, _, _, _, _, _, _, _, _, _, _, _, _] _
   refine g_op (v := Value.bool (decide (a1 ≤ a3))) rfl rfl rfl ?_
   show G _ _ _ _ [_, _, _, _, _, _, _, _, _, _, _, _, _, _, _] _
   refine g_op (v := Value.bool (decide (a1 ≤ a3))) rfl rfl rfl ?_
   show G _ _ _ _ [_, _, _, _, _, _, _, _, _, _, _, _, _, _, _] _
   refine g_op (v := Value.bool (decide (a1 ≤ a3))) rfl rfl rfl ?_
   show G _ _ _ _ [_, _, _, _, _, _, _, _, _, _, _, _, _, _, _] _
   refine g_ops_nil ?_
   obtain rfl := Option.some.inj H
   refine g_ret Try.func40 (v := Value.bool (decide (a1 ≤ a3))) (res1 rfl rfl) ?_
   have hs : St _ [] _ := St.take (Γ' := []) hs
   exact ⟨_, rfl, rfl, hs⟩
  ·
   intro hb
   rw [if_neg (b_dec_f hb)] at H
   show G _ _ _ _ [_, _, _, _, _, _, _, _, _, _, _, _, _, _, _] _
   refine g_op (v := Value.bool false) rfl rfl rfl ?_
   show G _ _ _ _ [_, _, _, _, _, _, _, _, _, _, _, _, _, _, _] _
   refine g_op_not rfl rfl ?_
   show G _ _ _ _ [_, _, _, _, _, _, _, _, _, _, _, _, _, _, _] _
   refine g_op_not rfl rfl ?_
   show G _ _ _ _ [_, _, _, _, _, _, _, _, _, _, _, _, _, _, _] _
   refine g_op_not rfl rfl ?_
   show G _ _ _ _ [_, _, _, _, _, _, _, _, _, _, _, _, _, _, _] _
   refine g_op (v := Value.bool false) rfl rfl rfl ?_
   show G _ _ _ _ [_, _, _, _, _, _, _, _, _, _, _, _, _, _, _] _
   refine g_op (v := Value.bool false) rfl rfl rfl ?_
   show G _ _ _ _ [_, _, _, _, _, _, _, _, _, _, _, _, _, _, _] _
   refine g_ops_nil ?_
   obtain rfl := Option.some.inj H
   refine g_ret Try.func40 (v := Value.bool false) (res1 rfl rfl) ?_
   have hs : St _ [] _ := St.take (Γ' := []) hs
   exact ⟨_, rfl, rfl, hs⟩

/- function 37 impl_isGame -/
def impl_isGame.post (w0 : World) (r : Bool) (v : Value) (w : World) : Prop := v = Value.bool r ∧ St w0 [] w
set_option maxHeartbeats 8000000 in
set_option maxRecDepth 100000 in
theorem impl_isGame.calls {N : Nat} {a1 : Int} {a2 : Int} {w0 : World} {r : Bool} (H : impl_isGame.f N a1 a2 = some r) :
    Calls Try.prog 37 #[Value.int .i64 a1, Value.int .i64 a2] w0 fun e w => ∃ v, e = .returned v ∧ impl_isGame.post w0 r v w := by
  unfold impl_isGame.f at H
  have hs : St w0 [] w0 := St.refl w0
  refine calls_of_g (n := 9) Try.func37 rfl rfl ?_
  show G _ _ _ _ [_, _, _, _, _, _, _, _, _, _, _] _
  refine g_seq ?_
  refine g_region ?_
  show G _ _ _ (.inRegion _ [0] :: _) _ _
  refine g_op (v := Value.bool false) rfl rfl rfl ?_
  show G _ _ _ _ [_, _, _, _, _, _, _, _, _, _, _] _
  refine g_ops_nil ?_
  refine g_seq ?_
  refine g_region ?_
  show G _ _ _ (.inRegion _ [0, 1, 2, 3, 4, 5, 6] :: _) _ _
  refine g_op (v := Value.int .i64 a1) rfl rfl rfl ?_
  show G _ _ _ _ [_, _, _, _, _, _, _, _, _, _, _] _
  obtain ⟨r3, Hr3, H⟩ := bind_get H
  refine s_call (args := [Value.int .i64 a1, Value.int .i64 1, Value.int .i64 60]) rfl rfl (x_call rfl (callFunc_enter Try.func40 rfl rfl) rfl) (impl_within.calls (a1 := a1) (a2 := 1) (a3 := 60) Hr3) ?_
  rintro _ w ⟨rfl, hs2⟩
  have hs : St _ [] _ := hs.call hs2
  cases r3 with
  | true =>
    rw [if_pos rfl] at H
    show G _ _ _ _ [_, _, _, _, _, _, _, _, _, _, _] _
    refine g_op (v := Value.bool true) rfl rfl rfl ?_
    show G _ _ _ _ [_, _, _, _, _, _, _, _, _, _, _] _
    refine g_op (v := Value.int .i64 a2) rfl rfl rfl ?_
    show G _ _ _ _ [_, _, _, _, _, _, _, _, _, _, _] _
    obtain ⟨r4, Hr4, H⟩ := bind_get H
    refine s_call (args := [Value.int .i64 a2, Value.int .i64 0, Value.int .i64 3]) rfl rfl (x_call rfl (callFunc_enter Try.func40 rfl rfl) rfl) (impl_within.calls (a1 := a2) (a2 := 0) (a3 := 3) Hr4) ?_
    rintro _ w ⟨rfl, hs2⟩
    have hs : St _ [] _ := hs.call hs2
    show G _ _ _ _ [_, _, _, _, _, _, _, _, _, _, _] _
    refine g_op (v := Value.bool r4) rfl rfl rfl ?_
    show G _ _ _ _ [_, _, _, _, _, _, _, _, _, _, _] _
    refine g_op (v := Value.bool r4) rfl rfl rfl ?_
    show G _ _ _ _ [_, _, _, _, _, _, _, _, _, _, _] _
    refine g_ops_nil ?_
    obtain rfl := Option.some.inj H
    refine g_ret Try.func37 (v := Value.bool r4) (res1 rfl rfl) ?_
    have hs : St _ [] _ := St.take (Γ' := []) hs
    exact ⟨_, rfl, rfl, hs⟩
  | false =>
    rw [if_neg Bool.false_ne_true] at H
    show G _ _ _ _ [_, _, _, _, _, _, _, _, _, _, _] _
    refine g_op (v := Value.bool false) rfl rfl rfl ?_
    show G _ _ _ _ [_, _, _, _, _, _, _, _, _, _, _] _
    refine g_op_not rfl rfl ?_
    show G _ _ _ _ [_, _, _, _, _, _, _, _, _, _, _] _
    refine g_op_not rfl rfl ?_
    show G _ _ _ _ [_, _, _, _, _, _, _, _, _, _, _] _
    refine g_op (v := Value.bool false) rfl rfl rfl ?_
    show G _ _ _ _ [_, _, _, _, _, _, _, _, _, _, _] _
    refine g_op (v := Value.bool false) rfl rfl rfl ?_
    show G _ _ _ _ [_, _, _, _, _, _, _, _, _, _, _] _
    refine g_ops_nil ?_
    obtain rfl := Option.some.inj H
    refine g_ret Try.func37 (v := Value.bool false) (res1 rfl rfl) ?_
    have hs : St _ [] _ := St.take (Γ' := []) hs
    exact ⟨_, rfl, rfl, hs⟩

/- function 49 _impl_Game_all -/
def _impl_Game_all.post (w0 : World) (r : Int) (v : Value) (w : World) : Prop := v = Value.int .u64 r ∧ St w0 [] w
set_option maxHeartbeats 8000000 in
set_option maxRecDepth 100000 in
theorem _impl_Game_all.calls {N : Nat} {a1 : S_impl_Game} {v2 : Value} {w0 : World} {r : Int} (hr3 : RdRow k_S_impl_Ask w0 v2 a1.f_Asked) (H : _impl_Game_all.f N a1 = some r) :
    Calls Try.prog 49 #[Value.agg (([Value.int .i8 a1.f_Numbers, Value.int .i8 a1.f_Lies, v2] : List Value)).toArray] w0 fun e w => ∃ v, e = .returned v ∧ _impl_Game_all.post w0 r v w := by
  unfold _impl_Game_all.f at H
  have hs : St w0 [] w0 := St.refl w0
  refine calls_of_g (n := 6) Try.func49 rfl rfl ?_
  show G _ _ _ _ [_, _, _, _, _, _, _] _
  refine g_seq ?_
  refine g_region ?_
  show G _ _ _ (.inRegion _ [0, 1] :: _) _ _
  refine s_box hs rfl rfl (cs := (([Value.int .i8 a1.f_Numbers, Value.int .i8 a1.f_Lies, v2] : List Value))) rfl rfl ?_
  intro b4 w hs
  show G _ _ _ _ [_, _, _, _, _, _, _] _
  refine g_op (v := Value.int .u64 0) rfl rfl rfl ?_
  show G _ _ _ _ [_, _, _, _, _, _, _] _
  refine g_ops_nil ?_
  refine g_seq ?_
  refine g_region ?_
  show G _ _ _ (.inRegion _ [0, 1, 2, 3, 4] :: _) _ _
  refine g_op (v := Value.pointer (some ⟨b4, 0, none⟩)) rfl rfl rfl ?_
  show G _ _ _ _ [_, _, _, _, _, _, _] _
  refine s_load1 rfl rfl (v := Value.int .i8 a1.f_Numbers) rfl rfl (fun _ => rfl) (cells_load (hs.cells 0 rfl) 0 1 rfl) ?_
  show G _ _ _ _ [_, _, _, _, _, _, _] _
  obtain ⟨g1, H⟩ := ite_get H
  refine g_op (v := Value.int .u64 (shlI .u64 1 a1.f_Numbers)) rfl rfl (x_shl rfl rfl rfl g1) ?_
  show G _ _ _ _ [_, _, _, _, _, _, _] _
  refine g_op (v := Value.int .u64 (u64w ((shlI .u64 1 a1.f_Numbers) - 1))) rfl rfl rfl ?_
  show G _ _ _ _ [_, _, _, _, _, _, _] _
  refine g_op (v := Value.int .u64 (u64w ((shlI .u64 1 a1.f_Numbers) - 1))) rfl rfl rfl ?_
  show G _ _ _ _ [_, _, _, _, _, _, _] _
  refine g_ops_nil ?_
  obtain rfl := Option.some.inj H
  refine g_ret Try.func49 (v := Value.int .u64 (u64w ((shlI .u64 1 a1.f_Numbers) - 1))) (res1 rfl rfl) ?_
  have hs : St _ [] _ := St.take (Γ' := [_]) hs
  exact ⟨_, rfl, rfl, hs⟩

/- function 48 impl_ValidGame_1 -/
def impl_ValidGame_1.post (w0 : World) (r : Bool) (v : Value) (w : World) : Prop := v = Value.bool r ∧ St w0 [] w
set_option maxHeartbeats 8000000 in
set_option maxRecDepth 100000 in
theorem impl_ValidGame_1.calls {N : Nat} {a1 : S_impl_Ask} {a2 : S_impl_Game} {b3 : Nat} {v4 : Value} {w0 : World} {r : Bool} (hr5 : RdRow k_S_impl_Ask w0 v4 a2.f_Asked) (hp1000 : w0.heap[b3]? = some (.cells ((([Value.int .i8 a2.f_Numbers, Value.int .i8 a2.f_Lies, v4] : List Value)) : List Value).toArray 31 (0, 0))) (H : impl_ValidGame_1.f N a1 a2 = some r) :
    Calls Try.prog 48 #[Value.agg (enc_S_impl_Ask a1).toArray, Value.pointer (some ⟨b3, 0, none⟩)] w0 fun e w => ∃ v, e = .returned v ∧ impl_ValidGame_1.post w0 r v w := by
  unfold impl_ValidGame_1.f at H
  have hs : St w0 [] w0 := St.refl w0
  refine calls_of_g (n := 8) Try.func48 rfl rfl ?_
  show G _ _ _ _ [_, _, _, _, _, _, _, _, _, _] _
  refine g_seq ?_
  refine g_region ?_
  show G _ _ _ (.inRegion _ [0, 1] :: _) _ _
  refine s_box hs rfl rfl (cs := (enc_S_impl_Ask a1)) rfl rfl ?_
  intro b7 w hs
  show G _ _ _ _ [_, _, _, _, _, _, _, _, _, _] _
  refine g_op (v := Value.bool false) rfl rfl rfl ?_
  show G _ _ _ _ [_, _, _, _, _, _, _, _, _, _] _
  refine g_ops_nil ?_
  refine g_seq ?_
  obtain ⟨r9, Hr9, H⟩ := bind_get H
  refine g_name ?_
  intro T hT
  refine g_any (n := 7) rfl [0, 1, 2, 3, 4, 5, 6] [0, 1, 2, 3, 4, 5, 6] rfl rfl (Inv := fun D t w => ∃ O : Nat → Value, t = [Value.agg (enc_S_impl_Ask a1).toArray, Value.pointer (some ⟨b3, 0, none⟩), Value.pointer (some ⟨b7, 0, none⟩), cnd (D 6) (Value.bool ((bAndNot .u64 a1.f_Set r9) != 0)) (Value.bool false), cnd (D 0) (Value.pointer (some ⟨b7, 0, none⟩)) (O 4), cnd (D 1) (Value.int .u64 a1.f_Set) (O 5), cnd (D 2) (Value.agg (([Value.int .i8 a2.f_Numbers, Value.int .i8 a2.f_Lies, v4] : List Value)).toArray) (O 6), cnd (D 3) (Value.int .u64 r9) (O 7), cnd (D 4) (Value.int .u64 (bAndNot .u64 a1.f_Set r9)) (O 8), cnd (D 5) (Value.bool ((bAndNot .u64 a1.f_Set r9) != 0)) (O 9)] ∧ St w0 [Cells b7 (enc_S_impl_Ask a1) 64] w) ?_ ⟨⟨⟨⟨⟨⟨⟨trivial, ?_⟩, ?_⟩, ?_⟩, ?_⟩, ?_⟩, ?_⟩, ?_⟩ ?_
  ·
   intro w hh hbw
   have hs := hs.samew hh hbw
   exact ⟨fun i => T.getD i undef, (by subst hT; rfl), hs⟩
  ·
   intro D t w hD hp hcl hI rest hk
   obtain ⟨O, ht, hs⟩ := hI
   have q1_ : D 1 = false := not_yet (hcl.get 1 (by decide)) 0 0 rfl hD
   have q4_ : D 4 = false := not_yet (hcl.get 4 (by decide)) 0 1 rfl q1_
   have q5_ : D 5 = false := not_yet (hcl.get 5 (by decide)) 0 4 rfl q4_
   have q6_ : D 6 = false := not_yet (hcl.get 6 (by decide)) 0 5 rfl q5_
   have u0_ : upd D 0 0 = true := rfl; have u1_ : upd D 0 1 = D 1 := rfl; have u2_ : upd D 0 2 = D 2 := rfl; have u3_ : upd D 0 3 = D 3 := rfl; have u4_ : upd D 0 4 = D 4 := rfl; have u5_ : upd D 0 5 = D 5 := rfl; have u6_ : upd D 0 6 = D 6 := rfl
   simp only [hD, q1_, q4_, q5_, q6_, cnd_t, cnd_f, Asc_t, Asc_f] at ht hs
   subst ht
   refine g_op (v := Value.pointer (some ⟨b7, 0, none⟩)) rfl rfl rfl ?_
   show G _ _ _ _ [_, _, _, _, _, _, _, _, _, _] _
   exact hk _ _ ⟨O, (by simp only [u0_, u1_, u2_, u3_, u4_, u5_, u6_, q1_, q4_, q5_, q6_, cnd_t, cnd_f, Asc_t, Asc_f]), hs.cast (by first | rfl | simp only [List.take, List.drop, List.cons_append, List.nil_append, List.set_cons_zero, List.set_cons_succ, List.eraseIdx, u0_, u1_, u2_, u3_, u4_, u5_, u6_, q1_, q4_, q5_, q6_, cnd_t, cnd_f, Asc_t, Asc_f])⟩
  ·
   intro D t w hD hp hcl hI rest hk
   obtain ⟨O, ht, hs⟩ := hI
   obtain ⟨p0_, _⟩ := hp
   have q4_ : D 4 = false := not_yet (hcl.get 4 (by decide)) 0 1 rfl hD
   have q5_ : D 5 = false := not_yet (hcl.get 5 (by decide)) 0 4 rfl q4_
   have q6_ : D 6 = false := not_yet (hcl.get 6 (by decide)) 0 5 rfl q5_
   have u0_ : upd D 1 0 = D 0 := rfl; have u1_ : upd D 1 1 = true := rfl; have u2_ : upd D 1 2 = D 2 := rfl; have u3_ : upd D 1 3 = D 3 := rfl; have u4_ : upd D 1 4 = D 4 := rfl; have u5_ : upd D 1 5 = D 5 := rfl; have u6_ : upd D 1 6 = D 6 := rfl
   simp only [hD, p0_, q4_, q5_, q6_, cnd_t, cnd_f, Asc_t, Asc_f] at ht hs
   subst ht
   refine s_load1 rfl rfl (v := Value.int .u64 a1.f_Set) rfl rfl (fun _ => rfl) (cells_load (hs.cells 0 rfl) 0 1 rfl) ?_
   show G _ _ _ _ [_, _, _, _, _, _, _, _, _, _] _
   exact hk _ _ ⟨O, (by simp only [u0_, u1_, u2_, u3_, u4_, u5_, u6_, p0_, q4_, q5_, q6_, cnd_t, cnd_f, Asc_t, Asc_f]), hs.cast (by first | rfl | simp only [List.take, List.drop, List.cons_append, List.nil_append, List.set_cons_zero, List.set_cons_succ, List.eraseIdx, u0_, u1_, u2_, u3_, u4_, u5_, u6_, p0_, q4_, q5_, q6_, cnd_t, cnd_f, Asc_t, Asc_f])⟩
  ·
   intro D t w hD hp hcl hI rest hk
   obtain ⟨O, ht, hs⟩ := hI
   have q3_ : D 3 = false := not_yet (hcl.get 3 (by decide)) 0 2 rfl hD
   have q4_ : D 4 = false := not_yet (hcl.get 4 (by decide)) 1 3 rfl q3_
   have q5_ : D 5 = false := not_yet (hcl.get 5 (by decide)) 0 4 rfl q4_
   have q6_ : D 6 = false := not_yet (hcl.get 6 (by decide)) 0 5 rfl q5_
   have u0_ : upd D 2 0 = D 0 := rfl; have u1_ : upd D 2 1 = D 1 := rfl; have u2_ : upd D 2 2 = true := rfl; have u3_ : upd D 2 3 = D 3 := rfl; have u4_ : upd D 2 4 = D 4 := rfl; have u5_ : upd D 2 5 = D 5 := rfl; have u6_ : upd D 2 6 = D 6 := rfl
   simp only [hD, q3_, q4_, q5_, q6_, cnd_t, cnd_f, Asc_t, Asc_f] at ht hs
   subst ht
   refine s_loadA rfl rfl (es := (([Value.int .i8 a2.f_Numbers, Value.int .i8 a2.f_Lies, v4] : List Value))) rfl rfl (fun _ => rfl) (n := 3) (fun _ => rfl) rfl (cells_all (hs.box hp1000)) ?_
   show G _ _ _ _ [_, _, _, _, _, _, _, _, _, _] _
   exact hk _ _ ⟨O, (by simp only [u0_, u1_, u2_, u3_, u4_, u5_, u6_, q3_, q4_, q5_, q6_, cnd_t, cnd_f, Asc_t, Asc_f]), hs.cast (by first | rfl | simp only [List.take, List.drop, List.cons_append, List.nil_append, List.set_cons_zero, List.set_cons_succ, List.eraseIdx, u0_, u1_, u2_, u3_, u4_, u5_, u6_, q3_, q4_, q5_, q6_, cnd_t, cnd_f, Asc_t, Asc_f])⟩
  ·
   intro D t w hD hp hcl hI rest hk
   obtain ⟨O, ht, hs⟩ := hI
   obtain ⟨p2_, _⟩ := hp
   have q4_ : D 4 = false := not_yet (hcl.get 4 (by decide)) 1 3 rfl hD
   have q5_ : D 5 = false := not_yet (hcl.get 5 (by decide)) 0 4 rfl q4_
   have q6_ : D 6 = false := not_yet (hcl.get 6 (by decide)) 0 5 rfl q5_
   have u0_ : upd D 3 0 = D 0 := rfl; have u1_ : upd D 3 1 = D 1 := rfl; have u2_ : upd D 3 2 = D 2 := rfl; have u3_ : upd D 3 3 = true := rfl; have u4_ : upd D 3 4 = D 4 := rfl; have u5_ : upd D 3 5 = D 5 := rfl; have u6_ : upd D 3 6 = D 6 := rfl
   simp only [hD, p2_, q4_, q5_, q6_, cnd_t, cnd_f, Asc_t, Asc_f] at ht hs
   subst ht
   refine s_call (args := [Value.agg (([Value.int .i8 a2.f_Numbers, Value.int .i8 a2.f_Lies, v4] : List Value)).toArray]) rfl rfl (x_call rfl (callFunc_enter Try.func49 rfl rfl) rfl) (_impl_Game_all.calls (a1 := (⟨a2.f_Numbers, a2.f_Lies, a2.f_Asked⟩ : S_impl_Game)) (hs.rd hr5) Hr9) ?_
   rintro _ w ⟨rfl, hs2⟩
   have hs : St _ [_] _ := hs.call hs2
   show G _ _ _ _ [_, _, _, _, _, _, _, _, _, _] _
   exact hk _ _ ⟨O, (by simp only [u0_, u1_, u2_, u3_, u4_, u5_, u6_, p2_, q4_, q5_, q6_, cnd_t, cnd_f, Asc_t, Asc_f]), hs.cast (by first | rfl | simp only [List.take, List.drop, List.cons_append, List.nil_append, List.set_cons_zero, List.set_cons_succ, List.eraseIdx, u0_, u1_, u2_, u3_, u4_, u5_, u6_, p2_, q4_, q5_, q6_, cnd_t, cnd_f, Asc_t, Asc_f])⟩
  ·
   intro D t w hD hp hcl hI rest hk
   obtain ⟨O, ht, hs⟩ := hI
   obtain ⟨p1_, p3_, _⟩ := hp
   obtain ⟨p2_, _⟩ := (hcl.get 3 (by decide)) p3_
   obtain ⟨p0_, _⟩ := (hcl.get 1 (by decide)) p1_
   have q5_ : D 5 = false := not_yet (hcl.get 5 (by decide)) 0 4 rfl hD
   have q6_ : D 6 = false := not_yet (hcl.get 6 (by decide)) 0 5 rfl q5_
   have u0_ : upd D 4 0 = D 0 := rfl; have u1_ : upd D 4 1 = D 1 := rfl; have u2_ : upd D 4 2 = D 2 := rfl; have u3_ : upd D 4 3 = D 3 := rfl; have u4_ : upd D 4 4 = true := rfl; have u5_ : upd D 4 5 = D 5 := rfl; have u6_ : upd D 4 6 = D 6 := rfl
   simp only [hD, p0_, p1_, p2_, p3_, q5_, q6_, cnd_t, cnd_f, Asc_t, Asc_f] at ht hs
   subst ht
   refine g_op (v := Value.int .u64 (bAndNot .u64 a1.f_Set r9)) rfl rfl rfl ?_
   show G _ _ _ _ [_, _, _, _, _, _, _, _, _, _] _
   exact hk _ _ ⟨O, (by simp only [u0_, u1_, u2_, u3_, u4_, u5_, u6_, p0_, p1_, p2_, p3_, q5_, q6_, cnd_t, cnd_f, Asc_t, Asc_f]), hs.cast (by first | rfl | simp only [List.take, List.drop, List.cons_append, List.nil_append, List.set_cons_zero, List.set_cons_succ, List.eraseIdx, u0_, u1_, u2_, u3_, u4_, u5_, u6_, p0_, p1_, p2_, p3_, q5_, q6_, cnd_t, cnd_f, Asc_t, Asc_f])⟩
  ·
   intro D t w hD hp hcl hI rest hk
   obtain ⟨O, ht, hs⟩ := hI
   obtain ⟨p4_, _⟩ := hp
   obtain ⟨p1_, p3_, _⟩ := (hcl.get 4 (by decide)) p4_
   obtain ⟨p2_, _⟩ := (hcl.get 3 (by decide)) p3_
   obtain ⟨p0_, _⟩ := (hcl.get 1 (by decide)) p1_
   have q6_ : D 6 = false := not_yet (hcl.get 6 (by decide)) 0 5 rfl hD
   have u0_ : upd D 5 0 = D 0 := rfl; have u1_ : upd D 5 1 = D 1 := rfl; have u2_ : upd D 5 2 = D 2 := rfl; have u3_ : upd D 5 3 = D 3 := rfl; have u4_ : upd D 5 4 = D 4 := rfl; have u5_ : upd D 5 5 = true := rfl; have u6_ : upd D 5 6 = D 6 := rfl
   simp only [hD, p0_, p1_, p2_, p3_, p4_, q6_, cnd_t, cnd_f, Asc_t, Asc_f] at ht hs
   subst ht
   refine g_op (v := Value.bool ((bAndNot .u64 a1.f_Set r9) != 0)) rfl rfl rfl ?_
   show G _ _ _ _ [_, _, _, _, _, _, _, _, _, _] _
   exact hk _ _ ⟨O, (by simp only [u0_, u1_, u2_, u3_, u4_, u5_, u6_, p0_, p1_, p2_, p3_, p4_, q6_, cnd_t, cnd_f, Asc_t, Asc_f]), hs.cast (by first | rfl | simp only [List.take, List.drop, List.cons_append, List.nil_append, List.set_cons_zero, List.set_cons_succ, List.eraseIdx, u0_, u1_, u2_, u3_, u4_, u5_, u6_, p0_, p1_, p2_, p3_, p4_, q6_, cnd_t, cnd_f, Asc_t, Asc_f])⟩
  ·
   intro D t w hD hp hcl hI rest hk
   obtain ⟨O, ht, hs⟩ := hI
   obtain ⟨p5_, p3_, p0_, p1_, p2_, _, p4_, _, _⟩ := hp
   have u0_ : upd D 6 0 = D 0 := rfl; have u1_ : upd D 6 1 = D 1 := rfl; have u2_ : upd D 6 2 = D 2 := rfl; have u3_ : upd D 6 3 = D 3 := rfl; have u4_ : upd D 6 4 = D 4 := rfl; have u5_ : upd D 6 5 = D 5 := rfl; have u6_ : upd D 6 6 = true := rfl
   simp only [hD, p0_, p1_, p2_, p3_, p4_, p5_, cnd_t, cnd_f, Asc_t, Asc_f] at ht hs
   subst ht
   refine g_op (v := Value.bool ((bAndNot .u64 a1.f_Set r9) != 0)) rfl rfl rfl ?_
   show G _ _ _ _ [_, _, _, _, _, _, _, _, _, _] _
   exact hk _ _ ⟨O, (by simp only [u0_, u1_, u2_, u3_, u4_, u5_, u6_, p0_, p1_, p2_, p3_, p4_, p5_, cnd_t, cnd_f, Asc_t, Asc_f]), hs.cast (by first | rfl | simp only [List.take, List.drop, List.cons_append, List.nil_append, List.set_cons_zero, List.set_cons_succ, List.eraseIdx, u0_, u1_, u2_, u3_, u4_, u5_, u6_, p0_, p1_, p2_, p3_, p4_, p5_, cnd_t, cnd_f, Asc_t, Asc_f])⟩
  ·
   intro D t w hall hI
   obtain ⟨O, ht, hs⟩ := hI
   have p0_ : D 0 = true := hall 0 (by decide)
   have p1_ : D 1 = true := hall 1 (by decide)
   have p2_ : D 2 = true := hall 2 (by decide)
   have p3_ : D 3 = true := hall 3 (by decide)
   have p4_ : D 4 = true := hall 4 (by decide)
   have p5_ : D 5 = true := hall 5 (by decide)
   have p6_ : D 6 = true := hall 6 (by decide)
   simp only [p0_, p1_, p2_, p3_, p4_, p5_, p6_, cnd_t, cnd_f, Asc_t, Asc_f] at ht hs
   subst ht
   obtain rfl := Option.some.inj H
   refine g_ret Try.func48 (v := Value.bool ((bAndNot .u64 a1.f_Set r9) != 0)) (res1 rfl rfl) ?_
   have hs : St _ [] _ := St.take (Γ' := [_]) hs
   exact ⟨_, rfl, rfl, hs⟩

end Go.Proofs.YtpbkenbmjgchkaaX
