/- Contracts, printed by gen.py. -/
import Derived.Test.YtpbkenbmjgchkaaXC17
namespace Go.Proofs.YtpbkenbmjgchkaaX
open Go Go.RowKit Go.Proofs
set_option linter.unusedVariables false
set_option linter.unusedSimpArgs false
/- function 18 spec_WorstPlay -/
def spec_WorstPlay.post (w0 : World) (r : (Int × Int × Int)) (v : Value) (w : World) : Prop := v = Value.tuple #[Value.int .i64 r.1, Value.int .i64 r.2.1, Value.int .i64 r.2.2] ∧ St w0 [] w
set_option maxHeartbeats 8000000 in
set_option maxRecDepth 100000 in
theorem spec_WorstPlay.calls {N : Nat} {a1 : Int} {a2 : Int} {w0 : World} {r : (Int × Int × Int)} (H : spec_WorstPlay.f N a1 a2 = some r) :
    Calls Try.prog 18 #[Value.int .i64 a1, Value.int .i64 a2] w0 fun e w => ∃ v, e = .returned v ∧ spec_WorstPlay.post w0 r v w := by
  unfold spec_WorstPlay.f at H
  have hs : St w0 [] w0 := St.refl w0
  refine calls_of_g (n := 43) Try.func18 rfl rfl ?_
  show G _ _ _ _ [_, _, _, _, _, _, _, _, _, _, _, _, _, _, _, _, _, _, _, _, _, _, _, _, _, _, _, _, _, _, _, _, _, _, _, _, _, _, _, _, _, _, _, _, _] _
  refine g_seq ?_
  refine g_region ?_
  show G _ _ _ (.inRegion _ [0, 1, 2] :: _) _ _
  refine g_op (v := Value.int .i64 0) rfl rfl rfl ?_
  show G _ _ _ _ [_, _, _, _, _, _, _, _, _, _, _, _, _, _, _, _, _, _, _, _, _, _, _, _, _, _, _, _, _, _, _, _, _, _, _, _, _, _, _, _, _, _, _, _, _] _
  refine g_op (v := Value.int .i64 0) rfl rfl rfl ?_
  show G _ _ _ _ [_, _, _, _, _, _, _, _, _, _, _, _, _, _, _, _, _, _, _, _, _, _, _, _, _, _, _, _, _, _, _, _, _, _, _, _, _, _, _, _, _, _, _, _, _] _
  refine g_op (v := Value.int .i64 0) rfl rfl rfl ?_
  show G _ _ _ _ [_, _, _, _, _, _, _, _, _, _, _, _, _, _, _, _, _, _, _, _, _, _, _, _, _, _, _, _, _, _, _, _, _, _, _, _, _, _, _, _, _, _, _, _, _] _
  refine g_ops_nil ?_
  refine g_seq ?_
  refine g_seq ?_
  refine g_region ?_
  show G _ _ _ (.inRegion _ [0, 1, 2, 3] :: _) _ _
  refine g_op (v := Value.int .i64 a1) rfl rfl rfl ?_
  refine g_op (v := Value.int .i64 a2) rfl rfl rfl ?_
  obtain ⟨r3, Hr3, H⟩ := bind_get H
  refine s_call (args := [Value.int .i64 a1, Value.int .i64 a2]) rfl rfl (x_call rfl (callFunc_enter Try.func35 rfl rfl) rfl) (spec_l06Begin.calls (a1 := a1) (a2 := a2) Hr3) ?_
  rintro _ w ⟨rfl, hs2⟩
  have hs : St _ [] _ := hs.call hs2
  cases r3 with
  | true =>
    rw [if_pos rfl] at H
    show G _ _ _ _ [_, _, _, _, _, _, _, _, _, _, _, _, _, _, _, _, _, _, _, _, _, _, _, _, _, _, _, _, _, _, _, _, _, _, _, _, _, _, _, _, _, _, _, _, _] _
    refine g_op (v := Value.bool false) rfl rfl rfl ?_
    show G _ _ _ _ [_, _, _, _, _, _, _, _, _, _, _, _, _, _, _, _, _, _, _, _, _, _, _, _, _, _, _, _, _, _, _, _, _, _, _, _, _, _, _, _, _, _, _, _, _] _
    refine g_ops_nil ?_
    refine g_cond_false rfl ?_
    refine g_skip ?_
    refine g_seq ?_
    refine g_region ?_
    show G _ _ _ (.inRegion _ [0] :: _) _ _
    refine g_op (v := Value.int .i64 0) rfl rfl rfl ?_
    show G _ _ _ _ [_, _, _, _, _, _, _, _, _, _, _, _, _, _, _, _, _, _, _, _, _, _, _, _, _, _, _, _, _, _, _, _, _, _, _, _, _, _, _, _, _, _, _, _, _] _
    refine g_ops_nil ?_
    refine g_seq ?_
    refine g_region ?_
    show G _ _ _ (.inRegion _ [0] :: _) _ _
    refine g_op (v := Value.int .i64 (-1)) rfl rfl rfl ?_
    show G _ _ _ _ [_, _, _, _, _, _, _, _, _, _, _, _, _, _, _, _, _, _, _, _, _, _, _, _, _, _, _, _, _, _, _, _, _, _, _, _, _, _, _, _, _, _, _, _, _] _
    refine g_ops_nil ?_
    refine g_seq ?_
    refine g_seq ?_
    refine g_region ?_
    show G _ _ _ (.inRegion _ [0] :: _) _ _
    refine g_op (v := Value.int .i64 0) rfl rfl rfl ?_
    show G _ _ _ _ [_, _, _, _, _, _, _, _, _, _, _, _, _, _, _, _, _, _, _, _, _, _, _, _, _, _, _, _, _, _, _, _, _, _, _, _, _, _, _, _, _, _, _, _, _] _
    refine g_ops_nil ?_
    obtain ⟨o1_, Ho, Hr1_⟩ := bind_get H
    refine g_block_join (J := fun t w => ∃ x16 : Int, ∃ x17 : Int, spec_WorstPlay.a0 N x16 x17 = some r ∧ Fr t (fun O => ([O 0, O 1, O 2, O 3, O 4, O 5, O 6, Value.int .i64 x16, Value.int .i64 x17, O 9, O 10, O 11, O 12, O 13, O 14, O 15, O 16, O 17, O 18, O 19, O 20, O 21, O 22, O 23, O 24, O 25, O 26, O 27, O 28, O 29, O 30, O 31, O 32, O 33, O 34, O 35, O 36, O 37, O 38, O 39, O 40, O 41, O 42, O 43, O 44] : List Value)) ∧ St w0 [] w) ?_ ?_
    ·
     rintro t w ⟨x16, x17, H, hf, hs⟩
     obtain ⟨O, rfl⟩ := hf.open
     show G _ _ _ _ [_, _, _, _, _, _, _, _, _, _, _, _, _, _, _, _, _, _, _, _, _, _, _, _, _, _, _, _, _, _, _, _, _, _, _, _, _, _, _, _, _, _, _, _, _] _
     unfold spec_WorstPlay.a0 at H
     refine g_seq ?_
     refine g_region ?_
     show G _ _ _ (.inRegion _ [0, 1, 2, 3, 4] :: _) _ _
     refine g_op (v := Value.int .i64 x16) rfl rfl rfl ?_
     refine g_op (v := Value.int .i64 x17) rfl rfl rfl ?_
     refine g_op (v := Value.int .i64 x16) rfl rfl rfl ?_
     show G _ _ _ _ [_, _, _, _, _, _, _, _, _, _, _, _, _, _, _, _, _, _, _, _, _, _, _, _, _, _, _, _, _, _, _, _, _, _, _, _, _, _, _, _, _, _, _, _, _] _
     refine g_op (v := Value.int .i64 x17) rfl rfl rfl ?_
     show G _ _ _ _ [_, _, _, _, _, _, _, _, _, _, _, _, _, _, _, _, _, _, _, _, _, _, _, _, _, _, _, _, _, _, _, _, _, _, _, _, _, _, _, _, _, _, _, _, _] _
     refine g_op (v := Value.int .i64 0) rfl rfl rfl ?_
     show G _ _ _ _ [_, _, _, _, _, _, _, _, _, _, _, _, _, _, _, _, _, _, _, _, _, _, _, _, _, _, _, _, _, _, _, _, _, _, _, _, _, _, _, _, _, _, _, _, _] _
     refine g_ops_nil ?_
     obtain rfl := Option.some.inj H
     refine g_ret Try.func18 (v := Value.tuple #[Value.int .i64 x16, Value.int .i64 x17, Value.int .i64 0]) (resN (l := Try.f18.results.toList) (vs := [Value.int .i64 x16, Value.int .i64 x17, Value.int .i64 0]) rfl ⟨rfl, rfl, rfl, trivial⟩ (by simp)) ?_
     have hs : St _ [] _ := St.take (Γ' := []) hs
     exact ⟨_, rfl, rfl, hs⟩
    ·
     intro ha1_
     have hs : St _ [] _ := St.take (Γ' := []) hs
     refine g_loop_fuel (I := fun n_ t w => ∃ x4 : Int, ∃ x5 : Int, ∃ x6 : Int, rounds (fun s => spec_WorstPlay.b0 N a1 a2 s.1 s.2.1 s.2.2) n_ (x4, x5, x6) = some o1_ ∧ Fr t (fun O => ([Value.int .i64 a1, Value.int .i64 a2, O 2, O 3, O 4, O 5, O 6, Value.int .i64 x4, Value.int .i64 x5, Value.int .i64 x6, O 10, O 11, O 12, O 13, O 14, O 15, O 16, O 17, O 18, O 19, O 20, O 21, O 22, O 23, O 24, O 25, O 26, O 27, O 28, O 29, O 30, O 31, O 32, O 33, O 34, O 35, O 36, O 37, O 38, O 39, O 40, O 41, O 42, O 43, O 44] : List Value)) ∧ St w0 [] w) N ⟨0, (-1), 0, Ho, rfl, hs⟩ ?_ ?_
     ·
      rintro _ _ ⟨x4, x5, x6, h, _⟩
      exact rounds_zero h
     ·
      intro n_ ih1_
      rintro t w ⟨x4, x5, x6, Ho, hf, hs⟩
      obtain ⟨O, rfl⟩ := hf.open
      show G _ _ _ _ [_, _, _, _, _, _, _, _, _, _, _, _, _, _, _, _, _, _, _, _, _, _, _, _, _, _, _, _, _, _, _, _, _, _, _, _, _, _, _, _, _, _, _, _, _] _
      obtain ⟨x1_, H, Hx1_⟩ := rounds_succ Ho
      have H : spec_WorstPlay.b0 N a1 a2 x4 x5 x6 = some x1_ := H
      unfold spec_WorstPlay.b0 at H
      refine g_seq ?_
      refine g_seq ?_
      refine g_region ?_
      show G _ _ _ (.inRegion _ [0, 1, 2] :: _) _ _
      refine g_op (v := Value.int .i64 x6) rfl rfl rfl ?_
      refine g_op (v := Value.int .i64 a1) rfl rfl rfl ?_
      refine g_op_b (B := decide (x6 < a1)) rfl rfl rfl ?_ ?_
      ·
       intro hb
       rw [if_pos (b_dec_t hb)] at H
       show G _ _ _ _ [_, _, _, _, _, _, _, _, _, _, _, _, _, _, _, _, _, _, _, _, _, _, _, _, _, _, _, _, _, _, _, _, _, _, _, _, _, _, _, _, _, _, _, _, _] _
       refine g_ops_nil ?_
       refine g_cond_true rfl ?_
       refine g_skip ?_
       refine g_seq ?_
       refine g_block_join (J := (fun t w => ∃ x14 : Int, ∃ x15 : Int, spec_WorstPlay.j2 N x6 x14 x15 = some x1_ ∧ Fr t (fun O => ([Value.int .i64 a1, Value.int .i64 a2, O 2, O 3, O 4, O 5, O 6, Value.int .i64 x14, Value.int .i64 x15, Value.int .i64 x6, O 10, O 11, O 12, O 13, O 14, O 15, O 16, O 17, O 18, O 19, O 20, O 21, O 22, O 23, O 24, O 25, O 26, O 27, O 28, O 29, O 30, O 31, O 32, O 33, O 34, O 35, O 36, O 37, O 38, O 39, O 40, O 41, O 42, O 43, O 44] : List Value)) ∧ St w0 [] w)) ?_ ?_
       ·
        rintro t w ⟨x14, x15, H, hf, hs⟩
        obtain ⟨O, rfl⟩ := hf.open
        show G _ _ _ _ [_, _, _, _, _, _, _, _, _, _, _, _, _, _, _, _, _, _, _, _, _, _, _, _, _, _, _, _, _, _, _, _, _, _, _, _, _, _, _, _, _, _, _, _, _] _
        unfold spec_WorstPlay.j2 at H
        refine g_region ?_
        show G _ _ _ (.inRegion _ [0, 1, 2] :: _) _ _
        refine g_op (v := Value.int .i64 x6) rfl rfl rfl ?_
        refine g_op (v := Value.int .i64 (i64w (x6 + 1))) rfl rfl rfl ?_
        show G _ _ _ _ [_, _, _, _, _, _, _, _, _, _, _, _, _, _, _, _, _, _, _, _, _, _, _, _, _, _, _, _, _, _, _, _, _, _, _, _, _, _, _, _, _, _, _, _, _] _
        refine g_op (v := Value.int .i64 (i64w (x6 + 1))) rfl rfl rfl ?_
        show G _ _ _ _ [_, _, _, _, _, _, _, _, _, _, _, _, _, _, _, _, _, _, _, _, _, _, _, _, _, _, _, _, _, _, _, _, _, _, _, _, _, _, _, _, _, _, _, _, _] _
        refine g_ops_nil ?_
        obtain rfl := Option.some.inj H
        have hs : St _ [] _ := St.take (Γ' := []) hs
        exact ih1_ _ _ ⟨x14, x15, i64w (x6 + 1), Hx1_, rfl, hs⟩
       ·
        intro ha
        refine g_seq ?_
        refine g_region ?_
        show G _ _ _ (.inRegion _ [0, 1, 2, 3, 4, 5, 6, 7, 8, 9, 10, 11, 12] :: _) _ _
        refine g_op (v := Value.int .i64 a1) rfl rfl rfl ?_
        refine g_op (v := Value.int .i64 a2) rfl rfl rfl ?_
        refine g_op (v := Value.int .i64 x6) rfl rfl rfl ?_
        refine s_lit0 (κ := K.bool) hs rfl rfl rfl rfl (fun _ => rfl) ?_
        intro v7 w hs
        show G _ _ _ _ [_, _, _, _, _, _, _, _, _, _, _, _, _, _, _, _, _, _, _, _, _, _, _, _, _, _, _, _, _, _, _, _, _, _, _, _, _, _, _, _, _, _, _, _, _] _
        obtain ⟨r9, Hr9, H⟩ := bind_get H
        refine s_call (args := [Value.int .i64 a1, Value.int .i64 a2, Value.int .i64 x6, v7]) rfl rfl (x_call rfl (callFunc_enter Try.func36 rfl rfl) rfl) (spec_l06Play.calls (a1 := a1) (a2 := a2) (a3 := x6) (a4 := ([] : List Bool)) (hs.row 0 rfl) Hr9) ?_
        rintro _ w ⟨v10, rfl, hs2⟩
        have hs : St _ [_, _] _ := hs.call hs2
        show G _ _ _ _ [_, _, _, _, _, _, _, _, _, _, _, _, _, _, _, _, _, _, _, _, _, _, _, _, _, _, _, _, _, _, _, _, _, _, _, _, _, _, _, _, _, _, _, _, _] _
        refine g_op (v := Value.tuple #[Value.agg (([Value.int .i8 r9.1.f_Numbers, Value.int .i8 r9.1.f_Lies, v10] : List Value)).toArray, Value.int .i64 r9.2.1, Value.int .i64 r9.2.2]) rfl rfl rfl ?_
        refine g_op (v := Value.agg (([Value.int .i8 r9.1.f_Numbers, Value.int .i8 r9.1.f_Lies, v10] : List Value)).toArray) rfl rfl rfl ?_
        refine g_op (v := Value.int .i64 r9.2.1) rfl rfl rfl ?_
        refine g_op (v := Value.int .i64 r9.2.2) rfl rfl rfl ?_
        refine s_alloc hs rfl rfl (z := (Value.agg #[Value.int .i8 0, Value.int .i8 0, Value.slice none 0 0])) (cs := (([Value.int .i8 0, Value.int .i8 0, Value.slice none 0 0] : List Value))) rfl (fun _ => rfl) rfl ?_
        intro b12 w hs
        show G _ _ _ _ [_, _, _, _, _, _, _, _, _, _, _, _, _, _, _, _, _, _, _, _, _, _, _, _, _, _, _, _, _, _, _, _, _, _, _, _, _, _, _, _, _, _, _, _, _] _
        refine s_storeAll (n := 3) hs rfl rfl rfl (vs := (([Value.int .i8 r9.1.f_Numbers, Value.int .i8 r9.1.f_Lies, v10] : List Value))) rfl rfl rfl (fun _ => rfl) rfl (by intro v hv; simp only [List.mem_append, List.mem_cons, List.not_mem_nil, or_false] at hv; repeat (first | (subst hv; first | rfl | exact slOne (hs.row 1 rfl)) | (rcases hv with hv | hv))) ?_
        intro w hs
        refine g_op (v := Value.int .i64 r9.2.1) rfl rfl rfl ?_
        show G _ _ _ _ [_, _, _, _, _, _, _, _, _, _, _, _, _, _, _, _, _, _, _, _, _, _, _, _, _, _, _, _, _, _, _, _, _, _, _, _, _, _, _, _, _, _, _, _, _] _
        refine g_op (v := Value.int .i64 r9.2.2) rfl rfl rfl ?_
        show G _ _ _ _ [_, _, _, _, _, _, _, _, _, _, _, _, _, _, _, _, _, _, _, _, _, _, _, _, _, _, _, _, _, _, _, _, _, _, _, _, _, _, _, _, _, _, _, _, _] _
        refine g_ops_nil ?_
        refine g_seq ?_
        refine g_seq ?_
        refine g_region ?_
        show G _ _ _ (.inRegion _ [0, 1] :: _) _ _
        refine g_op (v := Value.int .i64 r9.2.2) rfl rfl rfl ?_
        refine g_op_b (B := r9.2.2 != 0) rfl rfl rfl ?_ ?_
        ·
         intro hb
         rw [if_neg (b_bne_t hb)] at H
         show G _ _ _ _ [_, _, _, _, _, _, _, _, _, _, _, _, _, _, _, _, _, _, _, _, _, _, _, _, _, _, _, _, _, _, _, _, _, _, _, _, _, _, _, _, _, _, _, _, _] _
         refine g_ops_nil ?_
         refine g_cond_true rfl ?_
         refine g_seq ?_
         refine g_region ?_
         show G _ _ _ (.inRegion _ [0, 1, 2, 3] :: _) _ _
         refine g_op (v := Value.int .i64 r9.2.2) rfl rfl rfl ?_
         refine g_op (v := Value.int .i64 0) rfl rfl rfl ?_
         show G _ _ _ _ [_, _, _, _, _, _, _, _, _, _, _, _, _, _, _, _, _, _, _, _, _, _, _, _, _, _, _, _, _, _, _, _, _, _, _, _, _, _, _, _, _, _, _, _, _] _
         refine g_op (v := Value.int .i64 0) rfl rfl rfl ?_
         show G _ _ _ _ [_, _, _, _, _, _, _, _, _, _, _, _, _, _, _, _, _, _, _, _, _, _, _, _, _, _, _, _, _, _, _, _, _, _, _, _, _, _, _, _, _, _, _, _, _] _
         refine g_op (v := Value.int .i64 r9.2.2) rfl rfl rfl ?_
         show G _ _ _ _ [_, _, _, _, _, _, _, _, _, _, _, _, _, _, _, _, _, _, _, _, _, _, _, _, _, _, _, _, _, _, _, _, _, _, _, _, _, _, _, _, _, _, _, _, _] _
         refine g_ops_nil ?_
         obtain rfl := Option.some.inj H
         subst Hx1_
         have H := Option.some.inj Hr1_
         subst H
         refine g_ret Try.func18 (v := Value.tuple #[Value.int .i64 0, Value.int .i64 0, Value.int .i64 r9.2.2]) (resN (l := Try.f18.results.toList) (vs := [Value.int .i64 0, Value.int .i64 0, Value.int .i64 r9.2.2]) rfl ⟨rfl, rfl, rfl, trivial⟩ (by simp)) ?_
         have hs : St _ [] _ := St.take (Γ' := [_, _, _]) hs
         exact ⟨_, rfl, rfl, hs⟩
        ·
         intro hb
         rw [if_pos (b_bne_f hb)] at H
         show G _ _ _ _ [_, _, _, _, _, _, _, _, _, _, _, _, _, _, _, _, _, _, _, _, _, _, _, _, _, _, _, _, _, _, _, _, _, _, _, _, _, _, _, _, _, _, _, _, _] _
         refine g_ops_nil ?_
         refine g_cond_false rfl ?_
         refine g_skip ?_
         refine g_seq ?_
         refine g_region ?_
         show G _ _ _ (.inRegion _ [0, 1, 2, 3, 4] :: _) _ _
         refine g_op (v := Value.pointer (some ⟨b12, 2, none⟩)) rfl rfl rfl ?_
         refine s_load1 rfl rfl (v := v10) rfl rfl (fun _ => rfl) (cells_load (hs.cells 0 rfl) 2 1 rfl) ?_
         show G _ _ _ _ [_, _, _, _, _, _, _, _, _, _, _, _, _, _, _, _, _, _, _, _, _, _, _, _, _, _, _, _, _, _, _, _, _, _, _, _, _, _, _, _, _, _, _, _, _] _
         refine s_len (hs.row 1 rfl) rfl rfl rfl rfl rfl ?_
         show G _ _ _ _ [_, _, _, _, _, _, _, _, _, _, _, _, _, _, _, _, _, _, _, _, _, _, _, _, _, _, _, _, _, _, _, _, _, _, _, _, _, _, _, _, _, _, _, _, _] _
         refine g_op (v := Value.int .i64 x5) rfl rfl rfl ?_
         refine g_op_b (B := decide ((r9.1.f_Asked.length : Int) > x5)) rfl rfl rfl ?_ ?_
         ·
          intro hb
          rw [if_pos (b_dec_t hb)] at H
          show G _ _ _ _ [_, _, _, _, _, _, _, _, _, _, _, _, _, _, _, _, _, _, _, _, _, _, _, _, _, _, _, _, _, _, _, _, _, _, _, _, _, _, _, _, _, _, _, _, _] _
          refine g_ops_nil ?_
          refine g_cond_true rfl ?_
          refine g_seq ?_
          refine g_region ?_
          show G _ _ _ (.inRegion _ [0, 1] :: _) _ _
          refine g_op (v := Value.int .i64 x6) rfl rfl rfl ?_
          refine g_op (v := Value.int .i64 x6) rfl rfl rfl ?_
          show G _ _ _ _ [_, _, _, _, _, _, _, _, _, _, _, _, _, _, _, _, _, _, _, _, _, _, _, _, _, _, _, _, _, _, _, _, _, _, _, _, _, _, _, _, _, _, _, _, _] _
          refine g_ops_nil ?_
          refine g_region ?_
          show G _ _ _ (.inRegion _ [0, 1, 2, 3] :: _) _ _
          refine g_op (v := Value.pointer (some ⟨b12, 2, none⟩)) rfl rfl rfl ?_
          refine s_load1 rfl rfl (v := v10) rfl rfl (fun _ => rfl) (cells_load (hs.cells 0 rfl) 2 1 rfl) ?_
          show G _ _ _ _ [_, _, _, _, _, _, _, _, _, _, _, _, _, _, _, _, _, _, _, _, _, _, _, _, _, _, _, _, _, _, _, _, _, _, _, _, _, _, _, _, _, _, _, _, _] _
          refine s_len (hs.row 1 rfl) rfl rfl rfl rfl rfl ?_
          show G _ _ _ _ [_, _, _, _, _, _, _, _, _, _, _, _, _, _, _, _, _, _, _, _, _, _, _, _, _, _, _, _, _, _, _, _, _, _, _, _, _, _, _, _, _, _, _, _, _] _
          refine g_op (v := Value.int .i64 (r9.1.f_Asked.length : Int)) rfl rfl rfl ?_
          show G _ _ _ _ [_, _, _, _, _, _, _, _, _, _, _, _, _, _, _, _, _, _, _, _, _, _, _, _, _, _, _, _, _, _, _, _, _, _, _, _, _, _, _, _, _, _, _, _, _] _
          refine g_ops_nil ?_
          refine g_inBlock ?_
          have hs : St _ [] _ := St.take (Γ' := [_, _, _]) hs
          exact ha _ _ ⟨x6, (r9.1.f_Asked.length : Int), H, rfl, hs⟩
         ·
          intro hb
          rw [if_neg (b_dec_f hb)] at H
          show G _ _ _ _ [_, _, _, _, _, _, _, _, _, _, _, _, _, _, _, _, _, _, _, _, _, _, _, _, _, _, _, _, _, _, _, _, _, _, _, _, _, _, _, _, _, _, _, _, _] _
          refine g_ops_nil ?_
          refine g_cond_false rfl ?_
          refine g_skip ?_
          refine g_inBlock ?_
          have hs : St _ [] _ := St.take (Γ' := [_, _, _]) hs
          exact ha _ _ ⟨x4, x5, H, rfl, hs⟩
      ·
       intro hb
       rw [if_neg (b_dec_f hb)] at H
       show G _ _ _ _ [_, _, _, _, _, _, _, _, _, _, _, _, _, _, _, _, _, _, _, _, _, _, _, _, _, _, _, _, _, _, _, _, _, _, _, _, _, _, _, _, _, _, _, _, _] _
       refine g_ops_nil ?_
       refine g_cond_false rfl ?_
       obtain rfl := Option.some.inj H
       subst Hx1_
       have hs : St _ [] _ := St.take (Γ' := []) hs
       refine g_exit rfl ?_
       exact ha1_ _ _ ⟨x4, x5, Hr1_, rfl, hs⟩
  | false =>
    rw [if_neg Bool.false_ne_true] at H
    show G _ _ _ _ [_, _, _, _, _, _, _, _, _, _, _, _, _, _, _, _, _, _, _, _, _, _, _, _, _, _, _, _, _, _, _, _, _, _, _, _, _, _, _, _, _, _, _, _, _] _
    refine g_op (v := Value.bool true) rfl rfl rfl ?_
    show G _ _ _ _ [_, _, _, _, _, _, _, _, _, _, _, _, _, _, _, _, _, _, _, _, _, _, _, _, _, _, _, _, _, _, _, _, _, _, _, _, _, _, _, _, _, _, _, _, _] _
    refine g_ops_nil ?_
    refine g_cond_true rfl ?_
    refine g_seq ?_
    refine g_region ?_
    show G _ _ _ (.inRegion _ [0, 1, 2] :: _) _ _
    refine g_op (v := Value.int .i64 0) rfl rfl rfl ?_
    show G _ _ _ _ [_, _, _, _, _, _, _, _, _, _, _, _, _, _, _, _, _, _, _, _, _, _, _, _, _, _, _, _, _, _, _, _, _, _, _, _, _, _, _, _, _, _, _, _, _] _
    refine g_op (v := Value.int .i64 0) rfl rfl rfl ?_
    show G _ _ _ _ [_, _, _, _, _, _, _, _, _, _, _, _, _, _, _, _, _, _, _, _, _, _, _, _, _, _, _, _, _, _, _, _, _, _, _, _, _, _, _, _, _, _, _, _, _] _
    refine g_op (v := Value.int .i64 2) rfl rfl rfl ?_
    show G _ _ _ _ [_, _, _, _, _, _, _, _, _, _, _, _, _, _, _, _, _, _, _, _, _, _, _, _, _, _, _, _, _, _, _, _, _, _, _, _, _, _, _, _, _, _, _, _, _] _
    refine g_ops_nil ?_
    obtain rfl := Option.some.inj H
    refine g_ret Try.func18 (v := Value.tuple #[Value.int .i64 0, Value.int .i64 0, Value.int .i64 2]) (resN (l := Try.f18.results.toList) (vs := [Value.int .i64 0, Value.int .i64 0, Value.int .i64 2]) rfl ⟨rfl, rfl, rfl, trivial⟩ (by simp)) ?_
    have hs : St _ [] _ := St.take (Γ' := []) hs
    exact ⟨_, rfl, rfl, hs⟩

/- function 38 impl_size_impl_Ask -/
def impl_size_impl_Ask.post (w0 : World) (r : Int) (v : Value) (w : World) : Prop := v = Value.int .i64 r ∧ St w0 [] w
set_option maxHeartbeats 8000000 in
set_option maxRecDepth 100000 in
theorem impl_size_impl_Ask.calls {N : Nat} {a1 : (List S_impl_Ask)} {v2 : Value} {w0 : World} {r : Int} (hr0 : RdRow k_S_impl_Ask w0 v2 a1) (H : impl_size_impl_Ask.f N a1 = some r) :
    Calls Try.prog 38 #[v2] w0 fun e w => ∃ v, e = .returned v ∧ impl_size_impl_Ask.post w0 r v w := by
  unfold impl_size_impl_Ask.f at H
  have hs : St w0 [] w0 := St.refl w0
  refine calls_of_g (n := 4) Try.func38 rfl rfl ?_
  show G _ _ _ _ [_, _, _, _, _] _
  refine g_seq ?_
  refine g_region ?_
  show G _ _ _ (.inRegion _ [0] :: _) _ _
  refine g_op (v := Value.int .i64 0) rfl rfl rfl ?_
  show G _ _ _ _ [_, _, _, _, _] _
  refine g_ops_nil ?_
  refine g_seq ?_
  refine g_region ?_
  show G _ _ _ (.inRegion _ [0, 1, 2] :: _) _ _
  refine g_op (v := v2) rfl rfl rfl ?_
  show G _ _ _ _ [_, _, _, _, _] _
  refine s_len (hs.rd hr0) rfl rfl rfl rfl rfl ?_
  show G _ _ _ _ [_, _, _, _, _] _
  refine g_op (v := Value.int .i64 (a1.length : Int)) rfl rfl rfl ?_
  show G _ _ _ _ [_, _, _, _, _] _
  refine g_ops_nil ?_
  obtain rfl := Option.some.inj H
  refine g_ret Try.func38 (v := Value.int .i64 (a1.length : Int)) (res1 rfl rfl) ?_
  have hs : St _ [] _ := St.take (Γ' := []) hs
  exact ⟨_, rfl, rfl, hs⟩

/- function 19 impl_WorstPlay -/
def impl_WorstPlay.post (w0 : World) (r : (Int × Int × Int)) (v : Value) (w : World) : Prop := v = Value.tuple #[Value.int .i64 r.1, Value.int .i64 r.2.1, Value.int .i64 r.2.2] ∧ St w0 [] w
set_option maxHeartbeats 8000000 in
set_option maxRecDepth 100000 in
theorem impl_WorstPlay.calls {N : Nat} {a1 : Int} {a2 : Int} {w0 : World} {r : (Int × Int × Int)} (H : impl_WorstPlay.f N a1 a2 = some r) :
    Calls Try.prog 19 #[Value.int .i64 a1, Value.int .i64 a2] w0 fun e w => ∃ v, e = .returned v ∧ impl_WorstPlay.post w0 r v w := by
  unfold impl_WorstPlay.f at H
  have hs : St w0 [] w0 := St.refl w0
  refine calls_of_g (n := 42) Try.func19 rfl rfl ?_
  show G _ _ _ _ [_, _, _, _, _, _, _, _, _, _, _, _, _, _, _, _, _, _, _, _, _, _, _, _, _, _, _, _, _, _, _, _, _, _, _, _, _, _, _, _, _, _, _, _] _
  refine g_seq ?_
  refine g_region ?_
  show G _ _ _ (.inRegion _ [0, 1, 2] :: _) _ _
  refine g_op (v := Value.int .i64 0) rfl rfl rfl ?_
  show G _ _ _ _ [_, _, _, _, _, _, _, _, _, _, _, _, _, _, _, _, _, _, _, _, _, _, _, _, _, _, _, _, _, _, _, _, _, _, _, _, _, _, _, _, _, _, _, _] _
  refine g_op (v := Value.int .i64 0) rfl rfl rfl ?_
  show G _ _ _ _ [_, _, _, _, _, _, _, _, _, _, _, _, _, _, _, _, _, _, _, _, _, _, _, _, _, _, _, _, _, _, _, _, _, _, _, _, _, _, _, _, _, _, _, _] _
  refine g_op (v := Value.int .i64 0) rfl rfl rfl ?_
  show G _ _ _ _ [_, _, _, _, _, _, _, _, _, _, _, _, _, _, _, _, _, _, _, _, _, _, _, _, _, _, _, _, _, _, _, _, _, _, _, _, _, _, _, _, _, _, _, _] _
  refine g_ops_nil ?_
  refine g_seq ?_
  refine g_seq ?_
  refine g_region ?_
  show G _ _ _ (.inRegion _ [0, 1, 2, 3] :: _) _ _
  refine g_op (v := Value.int .i64 a1) rfl rfl rfl ?_
  refine g_op (v := Value.int .i64 a2) rfl rfl rfl ?_
  obtain ⟨r3, Hr3, H⟩ := bind_get H
  refine s_call (args := [Value.int .i64 a1, Value.int .i64 a2]) rfl rfl (x_call rfl (callFunc_enter Try.func37 rfl rfl) rfl) (impl_isGame.calls (a1 := a1) (a2 := a2) Hr3) ?_
  rintro _ w ⟨rfl, hs2⟩
  have hs : St _ [] _ := hs.call hs2
  cases r3 with
  | true =>
    rw [if_pos rfl] at H
    show G _ _ _ _ [_, _, _, _, _, _, _, _, _, _, _, _, _, _, _, _, _, _, _, _, _, _, _, _, _, _, _, _, _, _, _, _, _, _, _, _, _, _, _, _, _, _, _, _] _
    refine g_op (v := Value.bool false) rfl rfl rfl ?_
    show G _ _ _ _ [_, _, _, _, _, _, _, _, _, _, _, _, _, _, _, _, _, _, _, _, _, _, _, _, _, _, _, _, _, _, _, _, _, _, _, _, _, _, _, _, _, _, _, _] _
    refine g_ops_nil ?_
    refine g_cond_false rfl ?_
    refine g_skip ?_
    refine g_seq ?_
    refine g_region ?_
    show G _ _ _ (.inRegion _ [0, 1] :: _) _ _
    refine g_op (v := Value.int .i64 0) rfl rfl rfl ?_
    show G _ _ _ _ [_, _, _, _, _, _, _, _, _, _, _, _, _, _, _, _, _, _, _, _, _, _, _, _, _, _, _, _, _, _, _, _, _, _, _, _, _, _, _, _, _, _, _, _] _
    refine g_op (v := Value.int .i64 (-1)) rfl rfl rfl ?_
    show G _ _ _ _ [_, _, _, _, _, _, _, _, _, _, _, _, _, _, _, _, _, _, _, _, _, _, _, _, _, _, _, _, _, _, _, _, _, _, _, _, _, _, _, _, _, _, _, _] _
    refine g_ops_nil ?_
    refine g_seq ?_
    refine g_seq ?_
    refine g_region ?_
    show G _ _ _ (.inRegion _ [0, 1] :: _) _ _
    refine g_op (v := Value.int .i64 a1) rfl rfl rfl ?_
    refine g_op (v := Value.int .i64 0) rfl rfl rfl ?_
    refine g_ops_nil ?_
    obtain ⟨o1_, Ho, Hr1_⟩ := bind_get H
    refine g_block_join (J := fun t w => ∃ x16 : Int, ∃ x17 : Int, impl_WorstPlay.a0 N x16 x17 = some r ∧ Fr t (fun O => ([O 0, O 1, O 2, O 3, O 4, O 5, O 6, Value.int .i64 x16, Value.int .i64 x17, O 9, O 10, O 11, O 12, O 13, O 14, O 15, O 16, O 17, O 18, O 19, O 20, O 21, O 22, O 23, O 24, O 25, O 26, O 27, O 28, O 29, O 30, O 31, O 32, O 33, O 34, O 35, O 36, O 37, O 38, O 39, O 40, O 41, O 42, O 43] : List Value)) ∧ St w0 [] w) ?_ ?_
    ·
     rintro t w ⟨x16, x17, H, hf, hs⟩
     obtain ⟨O, rfl⟩ := hf.open
     show G _ _ _ _ [_, _, _, _, _, _, _, _, _, _, _, _, _, _, _, _, _, _, _, _, _, _, _, _, _, _, _, _, _, _, _, _, _, _, _, _, _, _, _, _, _, _, _, _] _
     unfold impl_WorstPlay.a0 at H
     refine g_seq ?_
     refine g_region ?_
     show G _ _ _ (.inRegion _ [0, 1, 2, 3, 4] :: _) _ _
     refine g_op (v := Value.int .i64 x16) rfl rfl rfl ?_
     refine g_op (v := Value.int .i64 x17) rfl rfl rfl ?_
     refine g_op (v := Value.int .i64 x16) rfl rfl rfl ?_
     show G _ _ _ _ [_, _, _, _, _, _, _, _, _, _, _, _, _, _, _, _, _, _, _, _, _, _, _, _, _, _, _, _, _, _, _, _, _, _, _, _, _, _, _, _, _, _, _, _] _
     refine g_op (v := Value.int .i64 x17) rfl rfl rfl ?_
     show G _ _ _ _ [_, _, _, _, _, _, _, _, _, _, _, _, _, _, _, _, _, _, _, _, _, _, _, _, _, _, _, _, _, _, _, _, _, _, _, _, _, _, _, _, _, _, _, _] _
     refine g_op (v := Value.int .i64 0) rfl rfl rfl ?_
     show G _ _ _ _ [_, _, _, _, _, _, _, _, _, _, _, _, _, _, _, _, _, _, _, _, _, _, _, _, _, _, _, _, _, _, _, _, _, _, _, _, _, _, _, _, _, _, _, _] _
     refine g_ops_nil ?_
     obtain rfl := Option.some.inj H
     refine g_ret Try.func19 (v := Value.tuple #[Value.int .i64 x16, Value.int .i64 x17, Value.int .i64 0]) (resN (l := Try.f19.results.toList) (vs := [Value.int .i64 x16, Value.int .i64 x17, Value.int .i64 0]) rfl ⟨rfl, rfl, rfl, trivial⟩ (by simp)) ?_
     have hs : St _ [] _ := St.take (Γ' := []) hs
     exact ⟨_, rfl, rfl, hs⟩
    ·
     intro ha1_
     have hs : St _ [] _ := St.take (Γ' := []) hs
     refine g_loop_fuel (I := fun n_ t w => ∃ x4 : Int, ∃ x5 : Int, ∃ x6 : Int, rounds (fun s => impl_WorstPlay.b0 N a1 a2 s.1 s.2.1 s.2.2) n_ (x4, x5, x6) = some o1_ ∧ Fr t (fun O => ([Value.int .i64 a1, Value.int .i64 a2, O 2, O 3, O 4, O 5, O 6, Value.int .i64 x4, Value.int .i64 x5, O 9, O 10, O 11, O 12, O 13, O 14, O 15, O 16, Value.int .i64 a1, Value.int .i64 x6, O 19, O 20, O 21, O 22, O 23, O 24, O 25, O 26, O 27, O 28, O 29, O 30, O 31, O 32, O 33, O 34, O 35, O 36, O 37, O 38, O 39, O 40, O 41, O 42, O 43] : List Value)) ∧ St w0 [] w) N ⟨0, (-1), 0, Ho, rfl, hs⟩ ?_ ?_
     ·
      rintro _ _ ⟨x4, x5, x6, h, _⟩
      exact rounds_zero h
     ·
      intro n_ ih1_
      rintro t w ⟨x4, x5, x6, Ho, hf, hs⟩
      obtain ⟨O, rfl⟩ := hf.open
      show G _ _ _ _ [_, _, _, _, _, _, _, _, _, _, _, _, _, _, _, _, _, _, _, _, _, _, _, _, _, _, _, _, _, _, _, _, _, _, _, _, _, _, _, _, _, _, _, _] _
      obtain ⟨x1_, H, Hx1_⟩ := rounds_succ Ho
      have H : impl_WorstPlay.b0 N a1 a2 x4 x5 x6 = some x1_ := H
      unfold impl_WorstPlay.b0 at H
      refine g_seq ?_
      refine g_region ?_
      show G _ _ _ (.inRegion _ [0] :: _) _ _
      refine g_op_b (B := decide (x6 < a1)) rfl rfl rfl ?_ ?_
      ·
       intro hb
       rw [if_pos (b_dec_t hb)] at H
       show G _ _ _ _ [_, _, _, _, _, _, _, _, _, _, _, _, _, _, _, _, _, _, _, _, _, _, _, _, _, _, _, _, _, _, _, _, _, _, _, _, _, _, _, _, _, _, _, _] _
       refine g_ops_nil ?_
       refine g_seq ?_
       refine g_cond_true rfl ?_
       refine g_skip ?_
       refine g_seq ?_
       refine g_block_join (J := (fun t w => ∃ x14 : Int, ∃ x15 : Int, impl_WorstPlay.j2 N x6 x14 x15 = some x1_ ∧ Fr t (fun O => ([Value.int .i64 a1, Value.int .i64 a2, O 2, O 3, O 4, O 5, O 6, Value.int .i64 x14, Value.int .i64 x15, O 9, O 10, O 11, O 12, O 13, O 14, O 15, O 16, Value.int .i64 a1, Value.int .i64 x6, O 19, O 20, O 21, O 22, O 23, O 24, O 25, O 26, O 27, O 28, O 29, O 30, O 31, O 32, O 33, O 34, O 35, O 36, O 37, O 38, O 39, O 40, O 41, O 42, O 43] : List Value)) ∧ St w0 [] w)) ?_ ?_
       ·
        rintro t w ⟨x14, x15, H, hf, hs⟩
        obtain ⟨O, rfl⟩ := hf.open
        show G _ _ _ _ [_, _, _, _, _, _, _, _, _, _, _, _, _, _, _, _, _, _, _, _, _, _, _, _, _, _, _, _, _, _, _, _, _, _, _, _, _, _, _, _, _, _, _, _] _
        unfold impl_WorstPlay.j2 at H
        refine g_region ?_
        show G _ _ _ (.inRegion _ [0, 1] :: _) _ _
        refine g_op (v := Value.int .i64 (i64w (x6 + 1))) rfl rfl rfl ?_
        show G _ _ _ _ [_, _, _, _, _, _, _, _, _, _, _, _, _, _, _, _, _, _, _, _, _, _, _, _, _, _, _, _, _, _, _, _, _, _, _, _, _, _, _, _, _, _, _, _] _
        refine g_op (v := Value.int .i64 (i64w (x6 + 1))) rfl rfl rfl ?_
        refine g_ops_nil ?_
        obtain rfl := Option.some.inj H
        have hs : St _ [] _ := St.take (Γ' := []) hs
        exact ih1_ _ _ ⟨x14, x15, i64w (x6 + 1), Hx1_, rfl, hs⟩
       ·
        intro ha
        refine g_seq ?_
        refine g_region ?_
        show G _ _ _ (.inRegion _ [0, 1] :: _) _ _
        refine g_op (v := Value.int .i64 x6) rfl rfl rfl ?_
        refine g_op (v := Value.int .i64 x6) rfl rfl rfl ?_
        show G _ _ _ _ [_, _, _, _, _, _, _, _, _, _, _, _, _, _, _, _, _, _, _, _, _, _, _, _, _, _, _, _, _, _, _, _, _, _, _, _, _, _, _, _, _, _, _, _] _
        refine g_ops_nil ?_
        refine g_seq ?_
        refine g_region ?_
        show G _ _ _ (.inRegion _ [0, 1, 2, 3, 4, 5, 6, 7, 8, 9, 10, 11] :: _) _ _
        refine g_op (v := Value.int .i64 a1) rfl rfl rfl ?_
        refine g_op (v := Value.int .i64 a2) rfl rfl rfl ?_
        refine g_op (v := Value.int .i64 x6) rfl rfl rfl ?_
        obtain ⟨r7, Hr7, H⟩ := bind_get H
        refine s_call (args := [Value.int .i64 a1, Value.int .i64 a2, Value.int .i64 x6, Value.slice none 0 0]) rfl rfl (x_call rfl (callFunc_enter Try.func22 rfl rfl) rfl) (impl_PlayGame.calls (a1 := a1) (a2 := a2) (a3 := x6) (a4 := []) (rdNil K.bool) Hr7) ?_
        rintro _ w ⟨v8, rfl, hs2⟩
        have hs : St _ [_] _ := hs.call hs2
        show G _ _ _ _ [_, _, _, _, _, _, _, _, _, _, _, _, _, _, _, _, _, _, _, _, _, _, _, _, _, _, _, _, _, _, _, _, _, _, _, _, _, _, _, _, _, _, _, _] _
        refine g_op (v := Value.tuple #[Value.agg (([Value.int .i8 r7.1.f_Numbers, Value.int .i8 r7.1.f_Lies, v8] : List Value)).toArray, Value.int .i64 r7.2.1, Value.int .i64 r7.2.2]) rfl rfl rfl ?_
        refine g_op (v := Value.agg (([Value.int .i8 r7.1.f_Numbers, Value.int .i8 r7.1.f_Lies, v8] : List Value)).toArray) rfl rfl rfl ?_
        refine g_op (v := Value.int .i64 r7.2.1) rfl rfl rfl ?_
        refine g_op (v := Value.int .i64 r7.2.2) rfl rfl rfl ?_
        refine s_alloc hs rfl rfl (z := (Value.agg #[Value.int .i8 0, Value.int .i8 0, Value.slice none 0 0])) (cs := (([Value.int .i8 0, Value.int .i8 0, Value.slice none 0 0] : List Value))) rfl (fun _ => rfl) rfl ?_
        intro b10 w hs
        show G _ _ _ _ [_, _, _, _, _, _, _, _, _, _, _, _, _, _, _, _, _, _, _, _, _, _, _, _, _, _, _, _, _, _, _, _, _, _, _, _, _, _, _, _, _, _, _, _] _
        refine s_storeAll (n := 3) hs rfl rfl rfl (vs := (([Value.int .i8 r7.1.f_Numbers, Value.int .i8 r7.1.f_Lies, v8] : List Value))) rfl rfl rfl (fun _ => rfl) rfl (by intro v hv; simp only [List.mem_append, List.mem_cons, List.not_mem_nil, or_false] at hv; repeat (first | (subst hv; first | rfl | exact slOne (hs.row 1 rfl)) | (rcases hv with hv | hv))) ?_
        intro w hs
        refine g_op (v := Value.int .i64 r7.2.1) rfl rfl rfl ?_
        show G _ _ _ _ [_, _, _, _, _, _, _, _, _, _, _, _, _, _, _, _, _, _, _, _, _, _, _, _, _, _, _, _, _, _, _, _, _, _, _, _, _, _, _, _, _, _, _, _] _
        refine g_op (v := Value.int .i64 r7.2.2) rfl rfl rfl ?_
        show G _ _ _ _ [_, _, _, _, _, _, _, _, _, _, _, _, _, _, _, _, _, _, _, _, _, _, _, _, _, _, _, _, _, _, _, _, _, _, _, _, _, _, _, _, _, _, _, _] _
        refine g_ops_nil ?_
        refine g_seq ?_
        refine g_seq ?_
        refine g_region ?_
        show G _ _ _ (.inRegion _ [0, 1] :: _) _ _
        refine g_op (v := Value.int .i64 r7.2.2) rfl rfl rfl ?_
        refine g_op_b (B := r7.2.2 != 0) rfl rfl rfl ?_ ?_
        ·
         intro hb
         rw [if_neg (b_bne_t hb)] at H
         show G _ _ _ _ [_, _, _, _, _, _, _, _, _, _, _, _, _, _, _, _, _, _, _, _, _, _, _, _, _, _, _, _, _, _, _, _, _, _, _, _, _, _, _, _, _, _, _, _] _
         refine g_ops_nil ?_
         refine g_cond_true rfl ?_
         refine g_seq ?_
         refine g_region ?_
         show G _ _ _ (.inRegion _ [0, 1, 2, 3] :: _) _ _
         refine g_op (v := Value.int .i64 r7.2.2) rfl rfl rfl ?_
         refine g_op (v := Value.int .i64 0) rfl rfl rfl ?_
         show G _ _ _ _ [_, _, _, _, _, _, _, _, _, _, _, _, _, _, _, _, _, _, _, _, _, _, _, _, _, _, _, _, _, _, _, _, _, _, _, _, _, _, _, _, _, _, _, _] _
         refine g_op (v := Value.int .i64 0) rfl rfl rfl ?_
         show G _ _ _ _ [_, _, _, _, _, _, _, _, _, _, _, _, _, _, _, _, _, _, _, _, _, _, _, _, _, _, _, _, _, _, _, _, _, _, _, _, _, _, _, _, _, _, _, _] _
         refine g_op (v := Value.int .i64 r7.2.2) rfl rfl rfl ?_
         show G _ _ _ _ [_, _, _, _, _, _, _, _, _, _, _, _, _, _, _, _, _, _, _, _, _, _, _, _, _, _, _, _, _, _, _, _, _, _, _, _, _, _, _, _, _, _, _, _] _
         refine g_ops_nil ?_
         obtain rfl := Option.some.inj H
         subst Hx1_
         have H := Option.some.inj Hr1_
         subst H
         refine g_ret Try.func19 (v := Value.tuple #[Value.int .i64 0, Value.int .i64 0, Value.int .i64 r7.2.2]) (resN (l := Try.f19.results.toList) (vs := [Value.int .i64 0, Value.int .i64 0, Value.int .i64 r7.2.2]) rfl ⟨rfl, rfl, rfl, trivial⟩ (by simp)) ?_
         have hs : St _ [] _ := St.take (Γ' := [_, _]) hs
         exact ⟨_, rfl, rfl, hs⟩
        ·
         intro hb
         rw [if_pos (b_bne_f hb)] at H
         show G _ _ _ _ [_, _, _, _, _, _, _, _, _, _, _, _, _, _, _, _, _, _, _, _, _, _, _, _, _, _, _, _, _, _, _, _, _, _, _, _, _, _, _, _, _, _, _, _] _
         refine g_ops_nil ?_
         refine g_cond_false rfl ?_
         refine g_skip ?_
         refine g_seq ?_
         refine g_region ?_
         show G _ _ _ (.inRegion _ [0, 1, 2, 3, 4] :: _) _ _
         refine g_op (v := Value.pointer (some ⟨b10, 2, none⟩)) rfl rfl rfl ?_
         refine s_load1 rfl rfl (v := v8) rfl rfl (fun _ => rfl) (cells_load (hs.cells 0 rfl) 2 1 rfl) ?_
         show G _ _ _ _ [_, _, _, _, _, _, _, _, _, _, _, _, _, _, _, _, _, _, _, _, _, _, _, _, _, _, _, _, _, _, _, _, _, _, _, _, _, _, _, _, _, _, _, _] _
         obtain ⟨r12, Hr12, H⟩ := bind_get H
         refine s_call (args := [v8]) rfl rfl (x_call rfl (callFunc_enter Try.func38 rfl rfl) rfl) (impl_size_impl_Ask.calls (a1 := r7.1.f_Asked) (hs.row 1 rfl) Hr12) ?_
         rintro _ w ⟨rfl, hs2⟩
         have hs : St _ [_, _] _ := hs.call hs2
         show G _ _ _ _ [_, _, _, _, _, _, _, _, _, _, _, _, _, _, _, _, _, _, _, _, _, _, _, _, _, _, _, _, _, _, _, _, _, _, _, _, _, _, _, _, _, _, _, _] _
         refine g_op (v := Value.int .i64 x5) rfl rfl rfl ?_
         refine g_op_b (B := decide (r12 > x5)) rfl rfl rfl ?_ ?_
         ·
          intro hb
          rw [if_pos (b_dec_t hb)] at H
          show G _ _ _ _ [_, _, _, _, _, _, _, _, _, _, _, _, _, _, _, _, _, _, _, _, _, _, _, _, _, _, _, _, _, _, _, _, _, _, _, _, _, _, _, _, _, _, _, _] _
          refine g_ops_nil ?_
          refine g_cond_true rfl ?_
          refine g_region ?_
          show G _ _ _ (.inRegion _ [0, 1, 2, 3, 4, 5] :: _) _ _
          refine g_op (v := Value.int .i64 x6) rfl rfl rfl ?_
          refine g_op (v := Value.pointer (some ⟨b10, 2, none⟩)) rfl rfl rfl ?_
          refine s_load1 rfl rfl (v := v8) rfl rfl (fun _ => rfl) (cells_load (hs.cells 0 rfl) 2 1 rfl) ?_
          show G _ _ _ _ [_, _, _, _, _, _, _, _, _, _, _, _, _, _, _, _, _, _, _, _, _, _, _, _, _, _, _, _, _, _, _, _, _, _, _, _, _, _, _, _, _, _, _, _] _
          obtain ⟨r13, Hr13, H⟩ := bind_get H
          refine s_call (args := [v8]) rfl rfl (x_call rfl (callFunc_enter Try.func38 rfl rfl) rfl) (impl_size_impl_Ask.calls (a1 := r7.1.f_Asked) (hs.row 1 rfl) Hr13) ?_
          rintro _ w ⟨rfl, hs2⟩
          have hs : St _ [_, _] _ := hs.call hs2
          show G _ _ _ _ [_, _, _, _, _, _, _, _, _, _, _, _, _, _, _, _, _, _, _, _, _, _, _, _, _, _, _, _, _, _, _, _, _, _, _, _, _, _, _, _, _, _, _, _] _
          refine g_op (v := Value.int .i64 x6) rfl rfl rfl ?_
          show G _ _ _ _ [_, _, _, _, _, _, _, _, _, _, _, _, _, _, _, _, _, _, _, _, _, _, _, _, _, _, _, _, _, _, _, _, _, _, _, _, _, _, _, _, _, _, _, _] _
          refine g_op (v := Value.int .i64 r13) rfl rfl rfl ?_
          show G _ _ _ _ [_, _, _, _, _, _, _, _, _, _, _, _, _, _, _, _, _, _, _, _, _, _, _, _, _, _, _, _, _, _, _, _, _, _, _, _, _, _, _, _, _, _, _, _] _
          refine g_ops_nil ?_
          refine g_inBlock ?_
          have hs : St _ [] _ := St.take (Γ' := [_, _]) hs
          exact ha _ _ ⟨x6, r13, H, rfl, hs⟩
         ·
          intro hb
          rw [if_neg (b_dec_f hb)] at H
          show G _ _ _ _ [_, _, _, _, _, _, _, _, _, _, _, _, _, _, _, _, _, _, _, _, _, _, _, _, _, _, _, _, _, _, _, _, _, _, _, _, _, _, _, _, _, _, _, _] _
          refine g_ops_nil ?_
          refine g_cond_false rfl ?_
          refine g_skip ?_
          refine g_inBlock ?_
          have hs : St _ [] _ := St.take (Γ' := [_, _]) hs
          exact ha _ _ ⟨x4, x5, H, rfl, hs⟩
      ·
       intro hb
       rw [if_neg (b_dec_f hb)] at H
       show G _ _ _ _ [_, _, _, _, _, _, _, _, _, _, _, _, _, _, _, _, _, _, _, _, _, _, _, _, _, _, _, _, _, _, _, _, _, _, _, _, _, _, _, _, _, _, _, _] _
       refine g_ops_nil ?_
       refine g_seq ?_
       refine g_cond_false rfl ?_
       obtain rfl := Option.some.inj H
       subst Hx1_
       have hs : St _ [] _ := St.take (Γ' := []) hs
       refine g_exit rfl ?_
       exact ha1_ _ _ ⟨x4, x5, Hr1_, rfl, hs⟩
  | false =>
    rw [if_neg Bool.false_ne_true] at H
    show G _ _ _ _ [_, _, _, _, _, _, _, _, _, _, _, _, _, _, _, _, _, _, _, _, _, _, _, _, _, _, _, _, _, _, _, _, _, _, _, _, _, _, _, _, _, _, _, _] _
    refine g_op (v := Value.bool true) rfl rfl rfl ?_
    show G _ _ _ _ [_, _, _, _, _, _, _, _, _, _, _, _, _, _, _, _, _, _, _, _, _, _, _, _, _, _, _, _, _, _, _, _, _, _, _, _, _, _, _, _, _, _, _, _] _
    refine g_ops_nil ?_
    refine g_cond_true rfl ?_
    refine g_seq ?_
    refine g_region ?_
    show G _ _ _ (.inRegion _ [0, 1, 2] :: _) _ _
    refine g_op (v := Value.int .i64 0) rfl rfl rfl ?_
    show G _ _ _ _ [_, _, _, _, _, _, _, _, _, _, _, _, _, _, _, _, _, _, _, _, _, _, _, _, _, _, _, _, _, _, _, _, _, _, _, _, _, _, _, _, _, _, _, _] _
    refine g_op (v := Value.int .i64 0) rfl rfl rfl ?_
    show G _ _ _ _ [_, _, _, _, _, _, _, _, _, _, _, _, _, _, _, _, _, _, _, _, _, _, _, _, _, _, _, _, _, _, _, _, _, _, _, _, _, _, _, _, _, _, _, _] _
    refine g_op (v := Value.int .i64 2) rfl rfl rfl ?_
    show G _ _ _ _ [_, _, _, _, _, _, _, _, _, _, _, _, _, _, _, _, _, _, _, _, _, _, _, _, _, _, _, _, _, _, _, _, _, _, _, _, _, _, _, _, _, _, _, _] _
    refine g_ops_nil ?_
    obtain rfl := Option.some.inj H
    refine g_ret Try.func19 (v := Value.tuple #[Value.int .i64 0, Value.int .i64 0, Value.int .i64 2]) (resN (l := Try.f19.results.toList) (vs := [Value.int .i64 0, Value.int .i64 0, Value.int .i64 2]) rfl ⟨rfl, rfl, rfl, trivial⟩ (by simp)) ?_
    have hs : St _ [] _ := St.take (Γ' := []) hs
    exact ⟨_, rfl, rfl, hs⟩

/- function 5 laws_FnExactWorstPlay -/
def laws_FnExactWorstPlay.post (w0 : World) (r : Bool) (v : Value) (w : World) : Prop := v = Value.bool r ∧ St w0 [] w
set_option maxHeartbeats 8000000 in
set_option maxRecDepth 100000 in
theorem laws_FnExactWorstPlay.calls {N : Nat} {a1 : Int} {a2 : Int} {w0 : World} {r : Bool} (H : laws_FnExactWorstPlay.f N a1 a2 = some r) :
    Calls Try.prog 5 #[Value.int .i64 a1, Value.int .i64 a2] w0 fun e w => ∃ v, e = .returned v ∧ laws_FnExactWorstPlay.post w0 r v w := by
  unfold laws_FnExactWorstPlay.f at H
  have hs : St w0 [] w0 := St.refl w0
  refine calls_of_g (n := 36) Try.func5 rfl rfl ?_
  show G _ _ _ _ [_, _, _, _, _, _, _, _, _, _, _, _, _, _, _, _, _, _, _, _, _, _, _, _, _, _, _, _, _, _, _, _, _, _, _, _, _, _] _
  refine g_seq ?_
  refine g_region ?_
  show G _ _ _ (.inRegion _ [0] :: _) _ _
  refine g_op (v := Value.bool false) rfl rfl rfl ?_
  show G _ _ _ _ [_, _, _, _, _, _, _, _, _, _, _, _, _, _, _, _, _, _, _, _, _, _, _, _, _, _, _, _, _, _, _, _, _, _, _, _, _, _] _
  refine g_ops_nil ?_
  refine g_seq ?_
  refine g_region ?_
  show G _ _ _ (.inRegion _ [0, 1, 2, 3, 4, 5, 6, 7, 8, 9] :: _) _ _
  refine g_op (v := Value.int .i64 a1) rfl rfl rfl ?_
  refine g_op (v := Value.int .i64 a2) rfl rfl rfl ?_
  obtain ⟨r3, Hr3, H⟩ := bind_get H
  refine s_call (args := [Value.int .i64 a1, Value.int .i64 a2]) rfl rfl (x_call rfl (callFunc_enter Try.func18 rfl rfl) rfl) (spec_WorstPlay.calls (a1 := a1) (a2 := a2) Hr3) ?_
  rintro _ w ⟨rfl, hs2⟩
  have hs : St _ [] _ := hs.call hs2
  show G _ _ _ _ [_, _, _, _, _, _, _, _, _, _, _, _, _, _, _, _, _, _, _, _, _, _, _, _, _, _, _, _, _, _, _, _, _, _, _, _, _, _] _
  refine g_op (v := Value.tuple #[Value.int .i64 r3.1, Value.int .i64 r3.2.1, Value.int .i64 r3.2.2]) rfl rfl rfl ?_
  refine g_op (v := Value.int .i64 r3.1) rfl rfl rfl ?_
  refine g_op (v := Value.int .i64 r3.2.1) rfl rfl rfl ?_
  refine g_op (v := Value.int .i64 r3.2.2) rfl rfl rfl ?_
  refine g_op (v := Value.int .i64 r3.1) rfl rfl rfl ?_
  show G _ _ _ _ [_, _, _, _, _, _, _, _, _, _, _, _, _, _, _, _, _, _, _, _, _, _, _, _, _, _, _, _, _, _, _, _, _, _, _, _, _, _] _
  refine g_op (v := Value.int .i64 r3.2.1) rfl rfl rfl ?_
  show G _ _ _ _ [_, _, _, _, _, _, _, _, _, _, _, _, _, _, _, _, _, _, _, _, _, _, _, _, _, _, _, _, _, _, _, _, _, _, _, _, _, _] _
  refine g_op (v := Value.int .i64 r3.2.2) rfl rfl rfl ?_
  show G _ _ _ _ [_, _, _, _, _, _, _, _, _, _, _, _, _, _, _, _, _, _, _, _, _, _, _, _, _, _, _, _, _, _, _, _, _, _, _, _, _, _] _
  refine g_ops_nil ?_
  refine g_seq ?_
  refine g_region ?_
  show G _ _ _ (.inRegion _ [0, 1, 2, 3, 4, 5, 6, 7, 8, 9] :: _) _ _
  refine g_op (v := Value.int .i64 a1) rfl rfl rfl ?_
  refine g_op (v := Value.int .i64 a2) rfl rfl rfl ?_
  obtain ⟨r4, Hr4, H⟩ := bind_get H
  refine s_call (args := [Value.int .i64 a1, Value.int .i64 a2]) rfl rfl (x_call rfl (callFunc_enter Try.func19 rfl rfl) rfl) (impl_WorstPlay.calls (a1 := a1) (a2 := a2) Hr4) ?_
  rintro _ w ⟨rfl, hs2⟩
  have hs : St _ [] _ := hs.call hs2
  show G _ _ _ _ [_, _, _, _, _, _, _, _, _, _, _, _, _, _, _, _, _, _, _, _, _, _, _, _, _, _, _, _, _, _, _, _, _, _, _, _, _, _] _
  refine g_op (v := Value.tuple #[Value.int .i64 r4.1, Value.int .i64 r4.2.1, Value.int .i64 r4.2.2]) rfl rfl rfl ?_
  refine g_op (v := Value.int .i64 r4.1) rfl rfl rfl ?_
  refine g_op (v := Value.int .i64 r4.2.1) rfl rfl rfl ?_
  refine g_op (v := Value.int .i64 r4.2.2) rfl rfl rfl ?_
  refine g_op (v := Value.int .i64 r4.1) rfl rfl rfl ?_
  show G _ _ _ _ [_, _, _, _, _, _, _, _, _, _, _, _, _, _, _, _, _, _, _, _, _, _, _, _, _, _, _, _, _, _, _, _, _, _, _, _, _, _] _
  refine g_op (v := Value.int .i64 r4.2.1) rfl rfl rfl ?_
  show G _ _ _ _ [_, _, _, _, _, _, _, _, _, _, _, _, _, _, _, _, _, _, _, _, _, _, _, _, _, _, _, _, _, _, _, _, _, _, _, _, _, _] _
  refine g_op (v := Value.int .i64 r4.2.2) rfl rfl rfl ?_
  show G _ _ _ _ [_, _, _, _, _, _, _, _, _, _, _, _, _, _, _, _, _, _, _, _, _, _, _, _, _, _, _, _, _, _, _, _, _, _, _, _, _, _] _
  refine g_ops_nil ?_
  refine g_seq ?_
  refine g_seq ?_
  refine g_region ?_
  show G _ _ _ (.inRegion _ [0, 1, 2, 3, 4, 5, 6, 7, 8, 9, 10, 11, 12] :: _) _ _
  refine g_op (v := Value.int .i64 r4.1) rfl rfl rfl ?_
  refine g_op (v := Value.int .i64 r3.1) rfl rfl rfl ?_
  refine g_op_b (B := r4.1 != r3.1) rfl rfl rfl ?_ ?_
  ·
   intro hb
   rw [if_neg (b_bne_t hb)] at H
   show G _ _ _ _ [_, _, _, _, _, _, _, _, _, _, _, _, _, _, _, _, _, _, _, _, _, _, _, _, _, _, _, _, _, _, _, _, _, _, _, _, _, _] _
   refine g_op (v := Value.bool true) rfl rfl rfl ?_
   refine g_op_not rfl rfl ?_
   refine g_op_not rfl rfl ?_
   refine g_op_not rfl rfl ?_
   show G _ _ _ _ [_, _, _, _, _, _, _, _, _, _, _, _, _, _, _, _, _, _, _, _, _, _, _, _, _, _, _, _, _, _, _, _, _, _, _, _, _, _] _
   refine g_op (v := Value.bool true) rfl rfl rfl ?_
   show G _ _ _ _ [_, _, _, _, _, _, _, _, _, _, _, _, _, _, _, _, _, _, _, _, _, _, _, _, _, _, _, _, _, _, _, _, _, _, _, _, _, _] _
   refine g_op (v := Value.bool true) rfl rfl rfl ?_
   refine g_op_not rfl rfl ?_
   refine g_op_not rfl rfl ?_
   refine g_op_not rfl rfl ?_
   show G _ _ _ _ [_, _, _, _, _, _, _, _, _, _, _, _, _, _, _, _, _, _, _, _, _, _, _, _, _, _, _, _, _, _, _, _, _, _, _, _, _, _] _
   refine g_op (v := Value.bool true) rfl rfl rfl ?_
   show G _ _ _ _ [_, _, _, _, _, _, _, _, _, _, _, _, _, _, _, _, _, _, _, _, _, _, _, _, _, _, _, _, _, _, _, _, _, _, _, _, _, _] _
   refine g_ops_nil ?_
   refine g_cond_true rfl ?_
   refine g_seq ?_
   refine g_region ?_
   show G _ _ _ (.inRegion _ [0] :: _) _ _
   refine g_op (v := Value.bool false) rfl rfl rfl ?_
   show G _ _ _ _ [_, _, _, _, _, _, _, _, _, _, _, _, _, _, _, _, _, _, _, _, _, _, _, _, _, _, _, _, _, _, _, _, _, _, _, _, _, _] _
   refine g_ops_nil ?_
   obtain rfl := Option.some.inj H
   refine g_ret Try.func5 (v := Value.bool false) (res1 rfl rfl) ?_
   have hs : St _ [] _ := St.take (Γ' := []) hs
   exact ⟨_, rfl, rfl, hs⟩
  ·
   intro hb
   rw [if_pos (b_bne_f hb)] at H
   show G _ _ _ _ [_, _, _, _, _, _, _, _, _, _, _, _, _, _, _, _, _, _, _, _, _, _, _, _, _, _, _, _, _, _, _, _, _, _, _, _, _, _] _
   refine g_op (v := Value.bool false) rfl rfl rfl ?_
   refine g_op (v := Value.int .i64 r4.2.1) rfl rfl rfl ?_
   refine g_op (v := Value.int .i64 r3.2.1) rfl rfl rfl ?_
   refine g_op (v := Value.bool (r4.2.1 != r3.2.1)) rfl rfl rfl ?_
   show G _ _ _ _ [_, _, _, _, _, _, _, _, _, _, _, _, _, _, _, _, _, _, _, _, _, _, _, _, _, _, _, _, _, _, _, _, _, _, _, _, _, _] _
   refine g_op_b (B := r4.2.1 != r3.2.1) rfl rfl rfl ?_ ?_
   ·
    intro hb
    rw [if_neg (b_bne_t hb)] at H
    show G _ _ _ _ [_, _, _, _, _, _, _, _, _, _, _, _, _, _, _, _, _, _, _, _, _, _, _, _, _, _, _, _, _, _, _, _, _, _, _, _, _, _] _
    refine g_op (v := Value.bool true) rfl rfl rfl ?_
    refine g_op_not rfl rfl ?_
    refine g_op_not rfl rfl ?_
    refine g_op_not rfl rfl ?_
    show G _ _ _ _ [_, _, _, _, _, _, _, _, _, _, _, _, _, _, _, _, _, _, _, _, _, _, _, _, _, _, _, _, _, _, _, _, _, _, _, _, _, _] _
    refine g_op (v := Value.bool true) rfl rfl rfl ?_
    show G _ _ _ _ [_, _, _, _, _, _, _, _, _, _, _, _, _, _, _, _, _, _, _, _, _, _, _, _, _, _, _, _, _, _, _, _, _, _, _, _, _, _] _
    refine g_ops_nil ?_
    refine g_cond_true rfl ?_
    refine g_seq ?_
    refine g_region ?_
    show G _ _ _ (.inRegion _ [0] :: _) _ _
    refine g_op (v := Value.bool false) rfl rfl rfl ?_
    show G _ _ _ _ [_, _, _, _, _, _, _, _, _, _, _, _, _, _, _, _, _, _, _, _, _, _, _, _, _, _, _, _, _, _, _, _, _, _, _, _, _, _] _
    refine g_ops_nil ?_
    obtain rfl := Option.some.inj H
    refine g_ret Try.func5 (v := Value.bool false) (res1 rfl rfl) ?_
    have hs : St _ [] _ := St.take (Γ' := []) hs
    exact ⟨_, rfl, rfl, hs⟩
   ·
    intro hb
    rw [if_pos (b_bne_f hb)] at H
    show G _ _ _ _ [_, _, _, _, _, _, _, _, _, _, _, _, _, _, _, _, _, _, _, _, _, _, _, _, _, _, _, _, _, _, _, _, _, _, _, _, _, _] _
    refine g_op (v := Value.bool false) rfl rfl rfl ?_
    refine g_op (v := Value.int .i64 r4.2.2) rfl rfl rfl ?_
    refine g_op (v := Value.int .i64 r3.2.2) rfl rfl rfl ?_
    refine g_op_b (B := r4.2.2 != r3.2.2) rfl rfl rfl ?_ ?_
    ·
     intro hb
     rw [if_neg (b_bne_t hb)] at H
     show G _ _ _ _ [_, _, _, _, _, _, _, _, _, _, _, _, _, _, _, _, _, _, _, _, _, _, _, _, _, _, _, _, _, _, _, _, _, _, _, _, _, _] _
     refine g_op (v := Value.bool true) rfl rfl rfl ?_
     show G _ _ _ _ [_, _, _, _, _, _, _, _, _, _, _, _, _, _, _, _, _, _, _, _, _, _, _, _, _, _, _, _, _, _, _, _, _, _, _, _, _, _] _
     refine g_ops_nil ?_
     refine g_cond_true rfl ?_
     refine g_seq ?_
     refine g_region ?_
     show G _ _ _ (.inRegion _ [0] :: _) _ _
     refine g_op (v := Value.bool false) rfl rfl rfl ?_
     show G _ _ _ _ [_, _, _, _, _, _, _, _, _, _, _, _, _, _, _, _, _, _, _, _, _, _, _, _, _, _, _, _, _, _, _, _, _, _, _, _, _, _] _
     refine g_ops_nil ?_
     obtain rfl := Option.some.inj H
     refine g_ret Try.func5 (v := Value.bool false) (res1 rfl rfl) ?_
     have hs : St _ [] _ := St.take (Γ' := []) hs
     exact ⟨_, rfl, rfl, hs⟩
    ·
     intro hb
     rw [if_pos (b_bne_f hb)] at H
     show G _ _ _ _ [_, _, _, _, _, _, _, _, _, _, _, _, _, _, _, _, _, _, _, _, _, _, _, _, _, _, _, _, _, _, _, _, _, _, _, _, _, _] _
     refine g_op (v := Value.bool false) rfl rfl rfl ?_
     show G _ _ _ _ [_, _, _, _, _, _, _, _, _, _, _, _, _, _, _, _, _, _, _, _, _, _, _, _, _, _, _, _, _, _, _, _, _, _, _, _, _, _] _
     refine g_ops_nil ?_
     refine g_cond_false rfl ?_
     refine g_skip ?_
     refine g_seq ?_
     refine g_region ?_
     show G _ _ _ (.inRegion _ [0] :: _) _ _
     refine g_op (v := Value.bool true) rfl rfl rfl ?_
     show G _ _ _ _ [_, _, _, _, _, _, _, _, _, _, _, _, _, _, _, _, _, _, _, _, _, _, _, _, _, _, _, _, _, _, _, _, _, _, _, _, _, _] _
     refine g_ops_nil ?_
     obtain rfl := Option.some.inj H
     refine g_ret Try.func5 (v := Value.bool true) (res1 rfl rfl) ?_
     have hs : St _ [] _ := St.take (Γ' := []) hs
     exact ⟨_, rfl, rfl, hs⟩

end Go.Proofs.YtpbkenbmjgchkaaX
