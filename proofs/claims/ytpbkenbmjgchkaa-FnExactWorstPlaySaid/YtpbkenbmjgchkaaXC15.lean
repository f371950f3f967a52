/- Contracts, printed by gen.py. -/
import Derived.Test.YtpbkenbmjgchkaaXC14
namespace Go.Proofs.YtpbkenbmjgchkaaX
open Go Go.RowKit Go.Proofs
set_option linter.unusedVariables false
set_option linter.unusedSimpArgs false
/- function 22 impl_PlayGame -/
def impl_PlayGame.post (w0 : World) (r : (S_impl_Game × Int × Int)) (v : Value) (w : World) : Prop := ∃ u1 : Value, v = Value.tuple #[Value.agg (([Value.int .i8 r.1.f_Numbers, Value.int .i8 r.1.f_Lies, u1] : List Value)).toArray, Value.int .i64 r.2.1, Value.int .i64 r.2.2] ∧ St w0 [Row 64 k_S_impl_Ask u1 r.1.f_Asked] w
set_option maxHeartbeats 8000000 in
set_option maxRecDepth 100000 in
theorem impl_PlayGame.calls {N : Nat} {a1 : Int} {a2 : Int} {a3 : Int} {a4 : (List Bool)} {v5 : Value} {w0 : World} {r : (S_impl_Game × Int × Int)} (hr3 : RdRow K.bool w0 v5 a4) (H : impl_PlayGame.f N a1 a2 a3 a4 = some r) :
    Calls Try.prog 22 #[Value.int .i64 a1, Value.int .i64 a2, Value.int .i64 a3, v5] w0 fun e w => ∃ v, e = .returned v ∧ impl_PlayGame.post w0 r v w := by
  unfold impl_PlayGame.f at H
  have hs : St w0 [] w0 := St.refl w0
  refine calls_of_g (n := 71) Try.func22 rfl rfl ?_
  show G _ _ _ _ [_, _, _, _, _, _, _, _, _, _, _, _, _, _, _, _, _, _, _, _, _, _, _, _, _, _, _, _, _, _, _, _, _, _, _, _, _, _, _, _, _, _, _, _, _, _, _, _, _, _, _, _, _, _, _, _, _, _, _, _, _, _, _, _, _, _, _, _, _, _, _, _, _, _, _] _
  refine g_seq ?_
  refine g_region ?_
  show G _ _ _ (.inRegion _ [0, 1, 2] :: _) _ _
  refine s_alloc hs rfl rfl (z := (Value.agg #[Value.int .i8 0, Value.int .i8 0, Value.slice none 0 0])) (cs := (([Value.int .i8 0, Value.int .i8 0, Value.slice none 0 0] : List Value))) rfl (fun _ => rfl) rfl ?_
  intro b6 w hs
  show G _ _ _ _ [_, _, _, _, _, _, _, _, _, _, _, _, _, _, _, _, _, _, _, _, _, _, _, _, _, _, _, _, _, _, _, _, _, _, _, _, _, _, _, _, _, _, _, _, _, _, _, _, _, _, _, _, _, _, _, _, _, _, _, _, _, _, _, _, _, _, _, _, _, _, _, _, _, _, _] _
  refine g_op (v := Value.int .i64 0) rfl rfl rfl ?_
  show G _ _ _ _ [_, _, _, _, _, _, _, _, _, _, _, _, _, _, _, _, _, _, _, _, _, _, _, _, _, _, _, _, _, _, _, _, _, _, _, _, _, _, _, _, _, _, _, _, _, _, _, _, _, _, _, _, _, _, _, _, _, _, _, _, _, _, _, _, _, _, _, _, _, _, _, _, _, _, _] _
  refine g_op (v := Value.int .i64 0) rfl rfl rfl ?_
  show G _ _ _ _ [_, _, _, _, _, _, _, _, _, _, _, _, _, _, _, _, _, _, _, _, _, _, _, _, _, _, _, _, _, _, _, _, _, _, _, _, _, _, _, _, _, _, _, _, _, _, _, _, _, _, _, _, _, _, _, _, _, _, _, _, _, _, _, _, _, _, _, _, _, _, _, _, _, _, _] _
  refine g_ops_nil ?_
  refine g_seq ?_
  refine g_seq ?_
  refine g_region ?_
  show G _ _ _ (.inRegion _ [0, 1, 2, 3, 4, 5, 6, 7, 8, 9, 10] :: _) _ _
  refine g_op (v := Value.int .i64 a1) rfl rfl rfl ?_
  refine g_op (v := Value.int .i64 a2) rfl rfl rfl ?_
  obtain ⟨r8, Hr8, H⟩ := bind_get H
  refine s_call (args := [Value.int .i64 a1, Value.int .i64 a2]) rfl rfl (x_call rfl (callFunc_enter Try.func37 rfl rfl) rfl) (impl_isGame.calls (a1 := a1) (a2 := a2) Hr8) ?_
  rintro _ w ⟨rfl, hs2⟩
  have hs : St _ [_] _ := hs.call hs2
  cases r8 with
  | true =>
    rw [if_pos rfl] at H
    show G _ _ _ _ [_, _, _, _, _, _, _, _, _, _, _, _, _, _, _, _, _, _, _, _, _, _, _, _, _, _, _, _, _, _, _, _, _, _, _, _, _, _, _, _, _, _, _, _, _, _, _, _, _, _, _, _, _, _, _, _, _, _, _, _, _, _, _, _, _, _, _, _, _, _, _, _, _, _, _] _
    refine g_op (v := Value.bool false) rfl rfl rfl ?_
    show G _ _ _ _ [_, _, _, _, _, _, _, _, _, _, _, _, _, _, _, _, _, _, _, _, _, _, _, _, _, _, _, _, _, _, _, _, _, _, _, _, _, _, _, _, _, _, _, _, _, _, _, _, _, _, _, _, _, _, _, _, _, _, _, _, _, _, _, _, _, _, _, _, _, _, _, _, _, _, _] _
    refine g_op (v := Value.bool false) rfl rfl rfl ?_
    refine g_op (v := Value.int .i64 a3) rfl rfl rfl ?_
    refine g_op (v := Value.int .i64 a1) rfl rfl rfl ?_
    refine g_op (v := Value.int .i64 (i64w (a1 - 1))) rfl rfl rfl ?_
    show G _ _ _ _ [_, _, _, _, _, _, _, _, _, _, _, _, _, _, _, _, _, _, _, _, _, _, _, _, _, _, _, _, _, _, _, _, _, _, _, _, _, _, _, _, _, _, _, _, _, _, _, _, _, _, _, _, _, _, _, _, _, _, _, _, _, _, _, _, _, _, _, _, _, _, _, _, _, _, _] _
    obtain ⟨r9, Hr9, H⟩ := bind_get H
    refine s_call (args := [Value.int .i64 a3, Value.int .i64 0, Value.int .i64 (i64w (a1 - 1))]) rfl rfl (x_call rfl (callFunc_enter Try.func40 rfl rfl) rfl) (impl_within.calls (a1 := a3) (a2 := 0) (a3 := i64w (a1 - 1)) Hr9) ?_
    rintro _ w ⟨rfl, hs2⟩
    have hs : St _ [_] _ := hs.call hs2
    cases r9 with
    | true =>
      rw [if_pos rfl] at H
      show G _ _ _ _ [_, _, _, _, _, _, _, _, _, _, _, _, _, _, _, _, _, _, _, _, _, _, _, _, _, _, _, _, _, _, _, _, _, _, _, _, _, _, _, _, _, _, _, _, _, _, _, _, _, _, _, _, _, _, _, _, _, _, _, _, _, _, _, _, _, _, _, _, _, _, _, _, _, _, _] _
      refine g_op (v := Value.bool false) rfl rfl rfl ?_
      show G _ _ _ _ [_, _, _, _, _, _, _, _, _, _, _, _, _, _, _, _, _, _, _, _, _, _, _, _, _, _, _, _, _, _, _, _, _, _, _, _, _, _, _, _, _, _, _, _, _, _, _, _, _, _, _, _, _, _, _, _, _, _, _, _, _, _, _, _, _, _, _, _, _, _, _, _, _, _, _] _
      refine g_op (v := Value.bool false) rfl rfl rfl ?_
      show G _ _ _ _ [_, _, _, _, _, _, _, _, _, _, _, _, _, _, _, _, _, _, _, _, _, _, _, _, _, _, _, _, _, _, _, _, _, _, _, _, _, _, _, _, _, _, _, _, _, _, _, _, _, _, _, _, _, _, _, _, _, _, _, _, _, _, _, _, _, _, _, _, _, _, _, _, _, _, _] _
      refine g_ops_nil ?_
      refine g_cond_false rfl ?_
      refine g_skip ?_
      refine g_seq ?_
      refine g_region ?_
      show G _ _ _ (.inRegion _ [0, 1, 2, 3, 4, 5, 6] :: _) _ _
      refine g_op (v := Value.int .i64 a1) rfl rfl rfl ?_
      refine g_op (v := Value.int .i8 (i8w a1)) rfl rfl rfl ?_
      refine g_op (v := Value.int .i64 a2) rfl rfl rfl ?_
      refine g_op (v := Value.int .i8 (i8w a2)) rfl rfl rfl ?_
      refine g_op (v := Value.agg (([Value.int .i8 (i8w a1), Value.int .i8 (i8w a2), Value.slice none 0 0] : List Value)).toArray) rfl rfl (x_buildS (cs := (([Value.int .i8 (i8w a1), Value.int .i8 (i8w a2), Value.slice none 0 0] : List Value))) (segs := [[Value.int .i8 0], [Value.int .i8 0], [Value.slice none 0 0]]) rfl rfl (fun _ => rfl) ⟨rfl, (fun _ => rfl), rfl, (fun _ => rfl), rfl, (fun _ => rfl), trivial⟩ (by simp only [List.map_cons, List.map_nil, List.forall_mem_cons, List.not_mem_nil, false_implies, implies_true, and_true]; exact ⟨⟨_, rfl, rfl⟩, ⟨_, rfl, rfl⟩⟩) (by first | rfl | (simp [ev, encA]; done) | (simp [ev, encA]; rfl))) ?_
      show G _ _ _ _ [_, _, _, _, _, _, _, _, _, _, _, _, _, _, _, _, _, _, _, _, _, _, _, _, _, _, _, _, _, _, _, _, _, _, _, _, _, _, _, _, _, _, _, _, _, _, _, _, _, _, _, _, _, _, _, _, _, _, _, _, _, _, _, _, _, _, _, _, _, _, _, _, _, _, _] _
      refine s_alloc hs rfl rfl (z := (Value.agg #[Value.int .i8 0, Value.int .i8 0, Value.slice none 0 0])) (cs := (([Value.int .i8 0, Value.int .i8 0, Value.slice none 0 0] : List Value))) rfl (fun _ => rfl) rfl ?_
      intro b10 w hs
      show G _ _ _ _ [_, _, _, _, _, _, _, _, _, _, _, _, _, _, _, _, _, _, _, _, _, _, _, _, _, _, _, _, _, _, _, _, _, _, _, _, _, _, _, _, _, _, _, _, _, _, _, _, _, _, _, _, _, _, _, _, _, _, _, _, _, _, _, _, _, _, _, _, _, _, _, _, _, _, _] _
      refine s_storeAll (n := 3) hs rfl rfl rfl (vs := (([Value.int .i8 (i8w a1), Value.int .i8 (i8w a2), Value.slice none 0 0] : List Value))) rfl rfl rfl (fun _ => rfl) rfl (by simp [Value.oneCell']) ?_
      intro w hs
      refine g_ops_nil ?_
      refine g_seq ?_
      refine g_region ?_
      show G _ _ _ (.inRegion _ [0] :: _) _ _
      refine g_op (v := Value.int .i64 0) rfl rfl rfl ?_
      show G _ _ _ _ [_, _, _, _, _, _, _, _, _, _, _, _, _, _, _, _, _, _, _, _, _, _, _, _, _, _, _, _, _, _, _, _, _, _, _, _, _, _, _, _, _, _, _, _, _, _, _, _, _, _, _, _, _, _, _, _, _, _, _, _, _, _, _, _, _, _, _, _, _, _, _, _, _, _, _] _
      refine g_ops_nil ?_
      obtain ⟨o1_, Ho, Hr1_⟩ := bind_get H
      refine g_block_join (J := fun t w => impl_PlayGame.a0 N = some r ∧ Fr t (fun O => ([O 0, O 1, O 2, O 3, O 4, O 5, O 6, O 7, O 8, O 9, O 10, O 11, O 12, O 13, O 14, O 15, O 16, O 17, O 18, O 19, O 20, O 21, O 22, O 23, O 24, O 25, O 26, O 27, O 28, O 29, O 30, O 31, O 32, O 33, O 34, O 35, O 36, O 37, O 38, O 39, O 40, O 41, O 42, O 43, O 44, O 45, O 46, O 47, O 48, O 49, O 50, O 51, O 52, O 53, O 54, O 55, O 56, O 57, O 58, O 59, O 60, O 61, O 62, O 63, O 64, O 65, O 66, O 67, O 68, O 69, O 70, O 71, O 72, O 73, O 74] : List Value)) ∧ St w0 [] w) ?_ ?_
      ·
       rintro t w ⟨H, hf, hs⟩
       obtain ⟨O, rfl⟩ := hf.open
       show G _ _ _ _ [_, _, _, _, _, _, _, _, _, _, _, _, _, _, _, _, _, _, _, _, _, _, _, _, _, _, _, _, _, _, _, _, _, _, _, _, _, _, _, _, _, _, _, _, _, _, _, _, _, _, _, _, _, _, _, _, _, _, _, _, _, _, _, _, _, _, _, _, _, _, _, _, _, _, _] _
       unfold impl_PlayGame.a0 at H
       cases H
      ·
       intro ha1_
       have hs := hs.nil 64 k_S_impl_Ask
       have hs := hs.pull 1 rfl
       have hs := hs.pull 1 rfl
       have hs := hs.pull 2 rfl
       have hs : St _ [_, _, _] _ := St.take (Γ' := []) hs
       refine g_loop_fuel (I := fun n_ t w => ∃ x30 : Int, ∃ x31 : Int, ∃ v33 : Value, ∃ x34 : (List S_impl_Ask), ∃ x35 : Int, rounds (fun s => impl_PlayGame.b0 N a4 a3 s.1 s.2.1 s.2.2.1 s.2.2.2) n_ (x30, x31, x34, x35) = some o1_ ∧ Fr t (fun O => ([O 0, O 1, Value.int .i64 a3, v5, O 4, O 5, O 6, O 7, Value.pointer (some ⟨b6, 0, none⟩), O 9, O 10, Value.pointer (some ⟨b10, 0, none⟩), Value.int .i64 x35, O 13, O 14, O 15, O 16, O 17, O 18, O 19, O 20, O 21, O 22, O 23, O 24, O 25, O 26, O 27, O 28, O 29, O 30, O 31, O 32, O 33, O 34, O 35, O 36, O 37, O 38, O 39, O 40, O 41, O 42, O 43, O 44, O 45, O 46, O 47, O 48, O 49, O 50, O 51, O 52, O 53, O 54, O 55, O 56, O 57, O 58, O 59, O 60, O 61, O 62, O 63, O 64, O 65, O 66, O 67, O 68, O 69, O 70, O 71, O 72, O 73, O 74] : List Value)) ∧ St w0 [Cells b6 (([Value.int .i8 0, Value.int .i8 0, Value.slice none 0 0] : List Value)) 31, Row 64 k_S_impl_Ask v33 x34, Cells b10 (([Value.int .i8 x30, Value.int .i8 x31, v33] : List Value)) 31] w) N ⟨i8w a1, i8w a2, Value.slice none 0 0, [], 0, Ho, rfl, hs⟩ ?_ ?_
       ·
        rintro _ _ ⟨x30, x31, v33, x34, x35, h, _⟩
        exact rounds_zero h
       ·
        intro n_ ih1_
        rintro t w ⟨x30, x31, v33, x34, x35, Ho, hf, hs⟩
        obtain ⟨O, rfl⟩ := hf.open
        show G _ _ _ _ [_, _, _, _, _, _, _, _, _, _, _, _, _, _, _, _, _, _, _, _, _, _, _, _, _, _, _, _, _, _, _, _, _, _, _, _, _, _, _, _, _, _, _, _, _, _, _, _, _, _, _, _, _, _, _, _, _, _, _, _, _, _, _, _, _, _, _, _, _, _, _, _, _, _, _] _
        obtain ⟨x23_, H, Hx1_⟩ := rounds_succ Ho
        have H : impl_PlayGame.b0 N a4 a3 x30 x31 x34 x35 = some x23_ := H
        unfold impl_PlayGame.b0 at H
        refine g_seq ?_
        refine g_block_join (J := (fun t w => ∃ x48 : Int, ∃ x49 : Int, ∃ v50 : Value, ∃ x51 : (List S_impl_Ask), impl_PlayGame.j2 N x35 x48 x49 x51 = some x23_ ∧ Fr t (fun O => ([O 0, O 1, Value.int .i64 a3, v5, O 4, O 5, O 6, O 7, Value.pointer (some ⟨b6, 0, none⟩), O 9, O 10, Value.pointer (some ⟨b10, 0, none⟩), Value.int .i64 x35, O 13, O 14, O 15, O 16, O 17, O 18, O 19, O 20, O 21, O 22, O 23, O 24, O 25, O 26, O 27, O 28, O 29, O 30, O 31, O 32, O 33, O 34, O 35, O 36, O 37, O 38, O 39, O 40, O 41, O 42, O 43, O 44, O 45, O 46, O 47, O 48, O 49, O 50, O 51, O 52, O 53, O 54, O 55, O 56, O 57, O 58, O 59, O 60, O 61, O 62, O 63, O 64, O 65, O 66, O 67, O 68, O 69, O 70, O 71, O 72, O 73, O 74] : List Value)) ∧ St w0 [Cells b6 (([Value.int .i8 0, Value.int .i8 0, Value.slice none 0 0] : List Value)) 31, Cells b10 (([Value.int .i8 x48, Value.int .i8 x49, v50] : List Value)) 31, Row 64 k_S_impl_Ask v50 x51] w)) ?_ ?_
        ·
         rintro t w ⟨x48, x49, v50, x51, H, hf, hs⟩
         obtain ⟨O, rfl⟩ := hf.open
         show G _ _ _ _ [_, _, _, _, _, _, _, _, _, _, _, _, _, _, _, _, _, _, _, _, _, _, _, _, _, _, _, _, _, _, _, _, _, _, _, _, _, _, _, _, _, _, _, _, _, _, _, _, _, _, _, _, _, _, _, _, _, _, _, _, _, _, _, _, _, _, _, _, _, _, _, _, _, _, _] _
         unfold impl_PlayGame.j2 at H
         refine g_region ?_
         show G _ _ _ (.inRegion _ [0, 1, 2] :: _) _ _
         refine g_op (v := Value.int .i64 x35) rfl rfl rfl ?_
         refine g_op (v := Value.int .i64 (i64w (x35 + 1))) rfl rfl rfl ?_
         show G _ _ _ _ [_, _, _, _, _, _, _, _, _, _, _, _, _, _, _, _, _, _, _, _, _, _, _, _, _, _, _, _, _, _, _, _, _, _, _, _, _, _, _, _, _, _, _, _, _, _, _, _, _, _, _, _, _, _, _, _, _, _, _, _, _, _, _, _, _, _, _, _, _, _, _, _, _, _, _] _
         refine g_op (v := Value.int .i64 (i64w (x35 + 1))) rfl rfl rfl ?_
         show G _ _ _ _ [_, _, _, _, _, _, _, _, _, _, _, _, _, _, _, _, _, _, _, _, _, _, _, _, _, _, _, _, _, _, _, _, _, _, _, _, _, _, _, _, _, _, _, _, _, _, _, _, _, _, _, _, _, _, _, _, _, _, _, _, _, _, _, _, _, _, _, _, _, _, _, _, _, _, _] _
         refine g_ops_nil ?_
         obtain rfl := Option.some.inj H
         have hs := hs.pull 1 rfl
         have hs := hs.pull 2 rfl
         have hs := hs.pull 2 rfl
         have hs : St _ [_, _, _] _ := St.take (Γ' := []) hs
         exact ih1_ _ _ ⟨x48, x49, v50, x51, i64w (x35 + 1), Hx1_, rfl, hs⟩
        ·
         intro ha
         refine g_seq ?_
         refine g_region ?_
         show G _ _ _ (.inRegion _ [0, 1, 2] :: _) _ _
         refine s_loadA rfl rfl (es := (([Value.int .i8 x30, Value.int .i8 x31, v33] : List Value))) rfl rfl (fun _ => rfl) (n := 3) (fun _ => rfl) rfl (cells_all (hs.cells 2 rfl)) ?_
         show G _ _ _ _ [_, _, _, _, _, _, _, _, _, _, _, _, _, _, _, _, _, _, _, _, _, _, _, _, _, _, _, _, _, _, _, _, _, _, _, _, _, _, _, _, _, _, _, _, _, _, _, _, _, _, _, _, _, _, _, _, _, _, _, _, _, _, _, _, _, _, _, _, _, _, _, _, _, _, _] _
         obtain ⟨r36, Hr36, H⟩ := bind_get H
         refine s_call (args := [Value.agg (([Value.int .i8 x30, Value.int .i8 x31, v33] : List Value)).toArray]) rfl rfl (x_call rfl (callFunc_enter Try.func31 rfl rfl) rfl) (_impl_Game_candidates.calls (a1 := (⟨x30, x31, x34⟩ : S_impl_Game)) (hs.row 1 rfl) Hr36) ?_
         intro v37 w hs2
         have hs : St _ [_, _, _, _] _ := hs.call hs2
         show G _ _ _ _ [_, _, _, _, _, _, _, _, _, _, _, _, _, _, _, _, _, _, _, _, _, _, _, _, _, _, _, _, _, _, _, _, _, _, _, _, _, _, _, _, _, _, _, _, _, _, _, _, _, _, _, _, _, _, _, _, _, _, _, _, _, _, _, _, _, _, _, _, _, _, _, _, _, _, _] _
         refine g_op (v := v37) rfl rfl rfl ?_
         show G _ _ _ _ [_, _, _, _, _, _, _, _, _, _, _, _, _, _, _, _, _, _, _, _, _, _, _, _, _, _, _, _, _, _, _, _, _, _, _, _, _, _, _, _, _, _, _, _, _, _, _, _, _, _, _, _, _, _, _, _, _, _, _, _, _, _, _, _, _, _, _, _, _, _, _, _, _, _, _] _
         refine g_ops_nil ?_
         refine g_seq ?_
         refine g_block ?_
         refine g_seq ?_
         refine g_region ?_
         show G _ _ _ (.inRegion _ [0, 1, 2, 3] :: _) _ _
         refine g_op (v := v37) rfl rfl rfl ?_
         refine s_len (hs.row 0 rfl) rfl rfl rfl rfl rfl ?_
         show G _ _ _ _ [_, _, _, _, _, _, _, _, _, _, _, _, _, _, _, _, _, _, _, _, _, _, _, _, _, _, _, _, _, _, _, _, _, _, _, _, _, _, _, _, _, _, _, _, _, _, _, _, _, _, _, _, _, _, _, _, _, _, _, _, _, _, _, _, _, _, _, _, _, _, _, _, _, _, _] _
         refine g_op_b (B := (r36.length : Int) == 0) rfl rfl rfl ?_ ?_
         ·
          intro hb
          rw [if_pos (b_beq_t hb)] at H
          show G _ _ _ _ [_, _, _, _, _, _, _, _, _, _, _, _, _, _, _, _, _, _, _, _, _, _, _, _, _, _, _, _, _, _, _, _, _, _, _, _, _, _, _, _, _, _, _, _, _, _, _, _, _, _, _, _, _, _, _, _, _, _, _, _, _, _, _, _, _, _, _, _, _, _, _, _, _, _, _] _
          refine g_op (v := Value.bool true) rfl rfl rfl ?_
          show G _ _ _ _ [_, _, _, _, _, _, _, _, _, _, _, _, _, _, _, _, _, _, _, _, _, _, _, _, _, _, _, _, _, _, _, _, _, _, _, _, _, _, _, _, _, _, _, _, _, _, _, _, _, _, _, _, _, _, _, _, _, _, _, _, _, _, _, _, _, _, _, _, _, _, _, _, _, _, _] _
          refine g_ops_nil ?_
          refine g_cond_true rfl ?_
          refine g_seq ?_
          refine g_region ?_
          show G _ _ _ (.inRegion _ [0, 1, 2, 3] :: _) _ _
          refine g_op (v := Value.agg (([Value.int .i8 0, Value.int .i8 0, Value.slice none 0 0] : List Value)).toArray) rfl rfl (x_buildS (cs := (([Value.int .i8 0, Value.int .i8 0, Value.slice none 0 0] : List Value))) (segs := [[Value.int .i8 0], [Value.int .i8 0], [Value.slice none 0 0]]) rfl rfl (fun _ => rfl) ⟨rfl, (fun _ => rfl), rfl, (fun _ => rfl), rfl, (fun _ => rfl), trivial⟩ (by simp) (by first | rfl | (simp [ev, encA]; done) | (simp [ev, encA]; rfl))) ?_
          show G _ _ _ _ [_, _, _, _, _, _, _, _, _, _, _, _, _, _, _, _, _, _, _, _, _, _, _, _, _, _, _, _, _, _, _, _, _, _, _, _, _, _, _, _, _, _, _, _, _, _, _, _, _, _, _, _, _, _, _, _, _, _, _, _, _, _, _, _, _, _, _, _, _, _, _, _, _, _, _] _
          have hs := hs.pull 1 rfl
          have hs : St _ [_, _, _, _] _ := hs
          refine s_storeAll (n := 3) hs rfl rfl rfl (vs := (([Value.int .i8 0, Value.int .i8 0, Value.slice none 0 0] : List Value))) rfl rfl rfl (fun _ => rfl) rfl (by simp [Value.oneCell']) ?_
          intro w hs
          refine g_op (v := Value.int .i64 0) rfl rfl rfl ?_
          show G _ _ _ _ [_, _, _, _, _, _, _, _, _, _, _, _, _, _, _, _, _, _, _, _, _, _, _, _, _, _, _, _, _, _, _, _, _, _, _, _, _, _, _, _, _, _, _, _, _, _, _, _, _, _, _, _, _, _, _, _, _, _, _, _, _, _, _, _, _, _, _, _, _, _, _, _, _, _, _] _
          refine g_op (v := Value.int .i64 8) rfl rfl rfl ?_
          show G _ _ _ _ [_, _, _, _, _, _, _, _, _, _, _, _, _, _, _, _, _, _, _, _, _, _, _, _, _, _, _, _, _, _, _, _, _, _, _, _, _, _, _, _, _, _, _, _, _, _, _, _, _, _, _, _, _, _, _, _, _, _, _, _, _, _, _, _, _, _, _, _, _, _, _, _, _, _, _] _
          refine g_ops_nil ?_
          obtain rfl := Option.some.inj H
          subst Hx1_
          have H := Option.some.inj Hr1_
          subst H
          refine g_ret Try.func22 (v := Value.tuple #[Value.agg (([Value.int .i8 0, Value.int .i8 0, Value.slice none 0 0] : List Value)).toArray, Value.int .i64 0, Value.int .i64 8]) (resN (l := Try.f22.results.toList) (vs := [Value.agg (([Value.int .i8 0, Value.int .i8 0, Value.slice none 0 0] : List Value)).toArray, Value.int .i64 0, Value.int .i64 8]) rfl ⟨⟨_, rfl, (run_loadVar_agg (es := (([Value.int .i8 0, Value.int .i8 0, Value.slice none 0 0] : List Value))) rfl rfl (cells_all (hs.cells 0 rfl)))⟩, rfl, rfl, trivial⟩ (by simp)) ?_
          have hs := hs.nil 64 k_S_impl_Ask
          have hs := hs.pull 0 rfl
          have hs : St _ [_] _ := St.take (Γ' := [_, _, _, _]) hs
          exact ⟨_, rfl, (Value.slice none 0 0), rfl, hs⟩
         ·
          intro hb
          rw [if_neg (b_beq_f hb)] at H
          show G _ _ _ _ [_, _, _, _, _, _, _, _, _, _, _, _, _, _, _, _, _, _, _, _, _, _, _, _, _, _, _, _, _, _, _, _, _, _, _, _, _, _, _, _, _, _, _, _, _, _, _, _, _, _, _, _, _, _, _, _, _, _, _, _, _, _, _, _, _, _, _, _, _, _, _, _, _, _, _] _
          refine g_op (v := Value.bool false) rfl rfl rfl ?_
          show G _ _ _ _ [_, _, _, _, _, _, _, _, _, _, _, _, _, _, _, _, _, _, _, _, _, _, _, _, _, _, _, _, _, _, _, _, _, _, _, _, _, _, _, _, _, _, _, _, _, _, _, _, _, _, _, _, _, _, _, _, _, _, _, _, _, _, _, _, _, _, _, _, _, _, _, _, _, _, _] _
          refine g_ops_nil ?_
          refine g_cond_false rfl ?_
          refine g_seq ?_
          refine g_region ?_
          show G _ _ _ (.inRegion _ [0, 1, 2, 3] :: _) _ _
          refine g_op (v := v37) rfl rfl rfl ?_
          refine s_len (hs.row 0 rfl) rfl rfl rfl rfl rfl ?_
          show G _ _ _ _ [_, _, _, _, _, _, _, _, _, _, _, _, _, _, _, _, _, _, _, _, _, _, _, _, _, _, _, _, _, _, _, _, _, _, _, _, _, _, _, _, _, _, _, _, _, _, _, _, _, _, _, _, _, _, _, _, _, _, _, _, _, _, _, _, _, _, _, _, _, _, _, _, _, _, _] _
          refine g_op_b (B := (r36.length : Int) == 1) rfl rfl rfl ?_ ?_
          ·
           intro hb
           rw [if_pos (b_beq_t hb)] at H
           show G _ _ _ _ [_, _, _, _, _, _, _, _, _, _, _, _, _, _, _, _, _, _, _, _, _, _, _, _, _, _, _, _, _, _, _, _, _, _, _, _, _, _, _, _, _, _, _, _, _, _, _, _, _, _, _, _, _, _, _, _, _, _, _, _, _, _, _, _, _, _, _, _, _, _, _, _, _, _, _] _
           refine g_op (v := Value.bool true) rfl rfl rfl ?_
           show G _ _ _ _ [_, _, _, _, _, _, _, _, _, _, _, _, _, _, _, _, _, _, _, _, _, _, _, _, _, _, _, _, _, _, _, _, _, _, _, _, _, _, _, _, _, _, _, _, _, _, _, _, _, _, _, _, _, _, _, _, _, _, _, _, _, _, _, _, _, _, _, _, _, _, _, _, _, _, _] _
           refine g_ops_nil ?_
           refine g_cond_true rfl ?_
           refine g_seq ?_
           obtain ⟨gd12, H⟩ := ite_get H
           obtain ⟨ad13_, ad13_N, ad13_C, had13_⟩ := sl_at (hs.row 0 rfl) gd12.1 gd12.2
           refine g_name ?_
           intro T hT
           refine g_any (n := 7) rfl [0, 1, 2, 3, 4, 5, 6] [0, 2, 3, 4, 1, 5, 6] rfl rfl (Inv := fun D t w => ∃ O : Nat → Value, t = [O 0, O 1, Value.int .i64 a3, v5, O 4, O 5, O 6, O 7, Value.pointer (some ⟨b6, 0, none⟩), cnd (D 5) (Value.int .i64 (rdL r36 0 0)) (O 9), cnd (D 6) (Value.int .i64 0) (O 10), Value.pointer (some ⟨b10, 0, none⟩), Value.int .i64 x35, v37, O 14, O 15, O 16, O 17, O 18, O 19, O 20, O 21, O 22, O 23, O 24, O 25, O 26, O 27, O 28, O 29, O 30, O 31, O 32, O 33, O 34, Value.agg (([Value.int .i8 x30, Value.int .i8 x31, v33] : List Value)).toArray, v37, Value.bool false, v37, Value.int .i64 (r36.length : Int), Value.bool false, O 41, Value.bool true, v37, Value.int .i64 (r36.length : Int), Value.bool true, cnd (D 0) (Value.agg (([Value.int .i8 x30, Value.int .i8 x31, v33] : List Value)).toArray) (O 46), cnd (D 1) v37 (O 47), cnd (D 2) (Value.pointer (some (ad13_.add ((0 : Int).toNat * 1)))) (O 48), cnd (D 3) (Value.int .i64 (rdL r36 0 0)) (O 49), O 50, O 51, O 52, O 53, O 54, O 55, O 56, O 57, O 58, O 59, O 60, O 61, O 62, O 63, O 64, O 65, O 66, O 67, O 68, O 69, O 70, O 71, O 72, O 73, O 74] ∧ St w0 [Row 2 (K.int .i64) v37 r36, Cells b6 (cnd (D 4) (([Value.int .i8 x30, Value.int .i8 x31, v33] : List Value)) (([Value.int .i8 0, Value.int .i8 0, Value.slice none 0 0] : List Value))) 31, Row 64 k_S_impl_Ask v33 x34, Cells b10 (([Value.int .i8 x30, Value.int .i8 x31, v33] : List Value)) 31] w) ?_ ⟨⟨⟨⟨⟨⟨⟨trivial, ?_⟩, ?_⟩, ?_⟩, ?_⟩, ?_⟩, ?_⟩, ?_⟩ ?_
           ·
            intro w hh hbw
            have hs := hs.samew hh hbw
            exact ⟨fun i => T.getD i undef, (by subst hT; rfl), hs⟩
           ·
            intro D t w hD hp hcl hI rest hk
            obtain ⟨O, ht, hs⟩ := hI
            have q4_ : D 4 = false := not_yet (hcl.get 4 (by decide)) 0 0 rfl hD
            have q5_ : D 5 = false := not_yet (hcl.get 5 (by decide)) 1 4 rfl q4_
            have q6_ : D 6 = false := not_yet (hcl.get 6 (by decide)) 0 5 rfl q5_
            have u0_ : upd D 0 0 = true := rfl; have u1_ : upd D 0 1 = D 1 := rfl; have u2_ : upd D 0 2 = D 2 := rfl; have u3_ : upd D 0 3 = D 3 := rfl; have u4_ : upd D 0 4 = D 4 := rfl; have u5_ : upd D 0 5 = D 5 := rfl; have u6_ : upd D 0 6 = D 6 := rfl
            simp only [hD, q4_, q5_, q6_, cnd_t, cnd_f, Asc_t, Asc_f] at ht hs
            subst ht
            refine s_loadA rfl rfl (es := (([Value.int .i8 x30, Value.int .i8 x31, v33] : List Value))) rfl rfl (fun _ => rfl) (n := 3) (fun _ => rfl) rfl (cells_all (hs.cells 3 rfl)) ?_
            show G _ _ _ _ [_, _, _, _, _, _, _, _, _, _, _, _, _, _, _, _, _, _, _, _, _, _, _, _, _, _, _, _, _, _, _, _, _, _, _, _, _, _, _, _, _, _, _, _, _, _, _, _, _, _, _, _, _, _, _, _, _, _, _, _, _, _, _, _, _, _, _, _, _, _, _, _, _, _, _] _
            exact hk _ _ ⟨O, (by simp only [u0_, u1_, u2_, u3_, u4_, u5_, u6_, q4_, q5_, q6_, cnd_t, cnd_f, Asc_t, Asc_f]), hs.cast (by first | rfl | simp only [List.take, List.drop, List.cons_append, List.nil_append, List.set_cons_zero, List.set_cons_succ, List.eraseIdx, u0_, u1_, u2_, u3_, u4_, u5_, u6_, q4_, q5_, q6_, cnd_t, cnd_f, Asc_t, Asc_f])⟩
           ·
            intro D t w hD hp hcl hI rest hk
            obtain ⟨O, ht, hs⟩ := hI
            have q2_ : D 2 = false := not_yet (hcl.get 2 (by decide)) 0 1 rfl hD
            have q3_ : D 3 = false := not_yet (hcl.get 3 (by decide)) 0 2 rfl q2_
            have q5_ : D 5 = false := not_yet (hcl.get 5 (by decide)) 0 3 rfl q3_
            have q6_ : D 6 = false := not_yet (hcl.get 6 (by decide)) 0 5 rfl q5_
            have u0_ : upd D 1 0 = D 0 := rfl; have u1_ : upd D 1 1 = true := rfl; have u2_ : upd D 1 2 = D 2 := rfl; have u3_ : upd D 1 3 = D 3 := rfl; have u4_ : upd D 1 4 = D 4 := rfl; have u5_ : upd D 1 5 = D 5 := rfl; have u6_ : upd D 1 6 = D 6 := rfl
            simp only [hD, q2_, q3_, q5_, q6_, cnd_t, cnd_f, Asc_t, Asc_f] at ht hs
            subst ht
            refine g_op (v := v37) rfl rfl rfl ?_
            show G _ _ _ _ [_, _, _, _, _, _, _, _, _, _, _, _, _, _, _, _, _, _, _, _, _, _, _, _, _, _, _, _, _, _, _, _, _, _, _, _, _, _, _, _, _, _, _, _, _, _, _, _, _, _, _, _, _, _, _, _, _, _, _, _, _, _, _, _, _, _, _, _, _, _, _, _, _, _, _] _
            exact hk _ _ ⟨O, (by simp only [u0_, u1_, u2_, u3_, u4_, u5_, u6_, q2_, q3_, q5_, q6_, cnd_t, cnd_f, Asc_t, Asc_f]), hs.cast (by first | rfl | simp only [List.take, List.drop, List.cons_append, List.nil_append, List.set_cons_zero, List.set_cons_succ, List.eraseIdx, u0_, u1_, u2_, u3_, u4_, u5_, u6_, q2_, q3_, q5_, q6_, cnd_t, cnd_f, Asc_t, Asc_f])⟩
           ·
            intro D t w hD hp hcl hI rest hk
            obtain ⟨O, ht, hs⟩ := hI
            obtain ⟨p1_, _⟩ := hp
            have q3_ : D 3 = false := not_yet (hcl.get 3 (by decide)) 0 2 rfl hD
            have q5_ : D 5 = false := not_yet (hcl.get 5 (by decide)) 0 3 rfl q3_
            have q6_ : D 6 = false := not_yet (hcl.get 6 (by decide)) 0 5 rfl q5_
            have u0_ : upd D 2 0 = D 0 := rfl; have u1_ : upd D 2 1 = D 1 := rfl; have u2_ : upd D 2 2 = true := rfl; have u3_ : upd D 2 3 = D 3 := rfl; have u4_ : upd D 2 4 = D 4 := rfl; have u5_ : upd D 2 5 = D 5 := rfl; have u6_ : upd D 2 6 = D 6 := rfl
            simp only [hD, p1_, q3_, q5_, q6_, cnd_t, cnd_f, Asc_t, Asc_f] at ht hs
            subst ht
            refine s_idxD (κ := (K.int .i64)) (m := 1) rfl (hs.row 0 rfl) rfl (fun _ => rfl) gd12.1 gd12.2 had13_ rfl rfl rfl rfl rfl ?_
            show G _ _ _ _ [_, _, _, _, _, _, _, _, _, _, _, _, _, _, _, _, _, _, _, _, _, _, _, _, _, _, _, _, _, _, _, _, _, _, _, _, _, _, _, _, _, _, _, _, _, _, _, _, _, _, _, _, _, _, _, _, _, _, _, _, _, _, _, _, _, _, _, _, _, _, _, _, _, _, _] _
            exact hk _ _ ⟨O, (by simp only [u0_, u1_, u2_, u3_, u4_, u5_, u6_, p1_, q3_, q5_, q6_, cnd_t, cnd_f, Asc_t, Asc_f]), hs.cast (by first | rfl | simp only [List.take, List.drop, List.cons_append, List.nil_append, List.set_cons_zero, List.set_cons_succ, List.eraseIdx, u0_, u1_, u2_, u3_, u4_, u5_, u6_, p1_, q3_, q5_, q6_, cnd_t, cnd_f, Asc_t, Asc_f])⟩
           ·
            intro D t w hD hp hcl hI rest hk
            obtain ⟨O, ht, hs⟩ := hI
            obtain ⟨p2_, _⟩ := hp
            obtain ⟨p1_, _⟩ := (hcl.get 2 (by decide)) p2_
            have q5_ : D 5 = false := not_yet (hcl.get 5 (by decide)) 0 3 rfl hD
            have q6_ : D 6 = false := not_yet (hcl.get 6 (by decide)) 0 5 rfl q5_
            have u0_ : upd D 3 0 = D 0 := rfl; have u1_ : upd D 3 1 = D 1 := rfl; have u2_ : upd D 3 2 = D 2 := rfl; have u3_ : upd D 3 3 = true := rfl; have u4_ : upd D 3 4 = D 4 := rfl; have u5_ : upd D 3 5 = D 5 := rfl; have u6_ : upd D 3 6 = D 6 := rfl
            simp only [hD, p1_, p2_, q5_, q6_, cnd_t, cnd_f, Asc_t, Asc_f] at ht hs
            subst ht
            refine s_load1 rfl rfl (v := Value.int .i64 (rdL r36 0 0)) rfl rfl (fun _ => rfl) (cellsAt_of (fkI .i64) 0 (hs.row 0 rfl) had13_ gd12.1 gd12.2) ?_
            show G _ _ _ _ [_, _, _, _, _, _, _, _, _, _, _, _, _, _, _, _, _, _, _, _, _, _, _, _, _, _, _, _, _, _, _, _, _, _, _, _, _, _, _, _, _, _, _, _, _, _, _, _, _, _, _, _, _, _, _, _, _, _, _, _, _, _, _, _, _, _, _, _, _, _, _, _, _, _, _] _
            exact hk _ _ ⟨O, (by simp only [u0_, u1_, u2_, u3_, u4_, u5_, u6_, p1_, p2_, q5_, q6_, cnd_t, cnd_f, Asc_t, Asc_f]), hs.cast (by first | rfl | simp only [List.take, List.drop, List.cons_append, List.nil_append, List.set_cons_zero, List.set_cons_succ, List.eraseIdx, u0_, u1_, u2_, u3_, u4_, u5_, u6_, p1_, p2_, q5_, q6_, cnd_t, cnd_f, Asc_t, Asc_f])⟩
           ·
            intro D t w hD hp hcl hI rest hk
            obtain ⟨O, ht, hs⟩ := hI
            obtain ⟨p0_, _, _⟩ := hp
            have q5_ : D 5 = false := not_yet (hcl.get 5 (by decide)) 1 4 rfl hD
            have q6_ : D 6 = false := not_yet (hcl.get 6 (by decide)) 0 5 rfl q5_
            have u0_ : upd D 4 0 = D 0 := rfl; have u1_ : upd D 4 1 = D 1 := rfl; have u2_ : upd D 4 2 = D 2 := rfl; have u3_ : upd D 4 3 = D 3 := rfl; have u4_ : upd D 4 4 = true := rfl; have u5_ : upd D 4 5 = D 5 := rfl; have u6_ : upd D 4 6 = D 6 := rfl
            simp only [hD, p0_, q5_, q6_, cnd_t, cnd_f, Asc_t, Asc_f] at ht hs
            subst ht
            have hs := hs.pull 1 rfl
            have hs : St _ [_, _, _, _] _ := hs
            refine s_storeAll (n := 3) hs rfl rfl rfl (vs := (([Value.int .i8 x30, Value.int .i8 x31, v33] : List Value))) rfl rfl rfl (fun _ => rfl) rfl (by intro v hv; simp only [List.mem_append, List.mem_cons, List.not_mem_nil, or_false] at hv; repeat (first | (subst hv; first | rfl | exact slOne (hs.row 2 rfl)) | (rcases hv with hv | hv))) ?_
            intro w hs
            show G _ _ _ _ [_, _, _, _, _, _, _, _, _, _, _, _, _, _, _, _, _, _, _, _, _, _, _, _, _, _, _, _, _, _, _, _, _, _, _, _, _, _, _, _, _, _, _, _, _, _, _, _, _, _, _, _, _, _, _, _, _, _, _, _, _, _, _, _, _, _, _, _, _, _, _, _, _, _, _] _
            have hs := hs.push 1 (by simp)
            exact hk _ _ ⟨O, (by simp only [u0_, u1_, u2_, u3_, u4_, u5_, u6_, p0_, q5_, q6_, cnd_t, cnd_f, Asc_t, Asc_f]), hs.cast (by first | rfl | simp only [List.take, List.drop, List.cons_append, List.nil_append, List.set_cons_zero, List.set_cons_succ, List.eraseIdx, u0_, u1_, u2_, u3_, u4_, u5_, u6_, p0_, q5_, q6_, cnd_t, cnd_f, Asc_t, Asc_f])⟩
           ·
            intro D t w hD hp hcl hI rest hk
            obtain ⟨O, ht, hs⟩ := hI
            obtain ⟨p3_, p4_, p0_, p1_, p2_, _, _, _⟩ := hp
            have q6_ : D 6 = false := not_yet (hcl.get 6 (by decide)) 0 5 rfl hD
            have u0_ : upd D 5 0 = D 0 := rfl; have u1_ : upd D 5 1 = D 1 := rfl; have u2_ : upd D 5 2 = D 2 := rfl; have u3_ : upd D 5 3 = D 3 := rfl; have u4_ : upd D 5 4 = D 4 := rfl; have u5_ : upd D 5 5 = true := rfl; have u6_ : upd D 5 6 = D 6 := rfl
            simp only [hD, p0_, p1_, p2_, p3_, p4_, q6_, cnd_t, cnd_f, Asc_t, Asc_f] at ht hs
            subst ht
            refine g_op (v := Value.int .i64 (rdL r36 0 0)) rfl rfl rfl ?_
            show G _ _ _ _ [_, _, _, _, _, _, _, _, _, _, _, _, _, _, _, _, _, _, _, _, _, _, _, _, _, _, _, _, _, _, _, _, _, _, _, _, _, _, _, _, _, _, _, _, _, _, _, _, _, _, _, _, _, _, _, _, _, _, _, _, _, _, _, _, _, _, _, _, _, _, _, _, _, _, _] _
            exact hk _ _ ⟨O, (by simp only [u0_, u1_, u2_, u3_, u4_, u5_, u6_, p0_, p1_, p2_, p3_, p4_, q6_, cnd_t, cnd_f, Asc_t, Asc_f]), hs.cast (by first | rfl | simp only [List.take, List.drop, List.cons_append, List.nil_append, List.set_cons_zero, List.set_cons_succ, List.eraseIdx, u0_, u1_, u2_, u3_, u4_, u5_, u6_, p0_, p1_, p2_, p3_, p4_, q6_, cnd_t, cnd_f, Asc_t, Asc_f])⟩
           ·
            intro D t w hD hp hcl hI rest hk
            obtain ⟨O, ht, hs⟩ := hI
            obtain ⟨p5_, p0_, p1_, p2_, p3_, p4_, _, _⟩ := hp
            have u0_ : upd D 6 0 = D 0 := rfl; have u1_ : upd D 6 1 = D 1 := rfl; have u2_ : upd D 6 2 = D 2 := rfl; have u3_ : upd D 6 3 = D 3 := rfl; have u4_ : upd D 6 4 = D 4 := rfl; have u5_ : upd D 6 5 = D 5 := rfl; have u6_ : upd D 6 6 = true := rfl
            simp only [hD, p0_, p1_, p2_, p3_, p4_, p5_, cnd_t, cnd_f, Asc_t, Asc_f] at ht hs
            subst ht
            refine g_op (v := Value.int .i64 0) rfl rfl rfl ?_
            show G _ _ _ _ [_, _, _, _, _, _, _, _, _, _, _, _, _, _, _, _, _, _, _, _, _, _, _, _, _, _, _, _, _, _, _, _, _, _, _, _, _, _, _, _, _, _, _, _, _, _, _, _, _, _, _, _, _, _, _, _, _, _, _, _, _, _, _, _, _, _, _, _, _, _, _, _, _, _, _] _
            exact hk _ _ ⟨O, (by simp only [u0_, u1_, u2_, u3_, u4_, u5_, u6_, p0_, p1_, p2_, p3_, p4_, p5_, cnd_t, cnd_f, Asc_t, Asc_f]), hs.cast (by first | rfl | simp only [List.take, List.drop, List.cons_append, List.nil_append, List.set_cons_zero, List.set_cons_succ, List.eraseIdx, u0_, u1_, u2_, u3_, u4_, u5_, u6_, p0_, p1_, p2_, p3_, p4_, p5_, cnd_t, cnd_f, Asc_t, Asc_f])⟩
           ·
            intro D t w hall hI
            obtain ⟨O, ht, hs⟩ := hI
            have p0_ : D 0 = true := hall 0 (by decide)
            have p1_ : D 1 = true := hall 1 (by decide)
            have p2_ : D 2 = true := hall 2 (by decide)
            have p3_ : D 3 = true := hall 3 (by decide)
            have p4_ : D 4 = true := hall 4 (by decide)
            have p5_ : D 5 = true := hall 5 (by decide)
            have p6_ : D 6 = true := hall 6 (by decide)
            simp only [p0_, p1_, p2_, p3_, p4_, p5_, p6_, cnd_t, cnd_f, Asc_t, Asc_f] at ht hs
            subst ht
            obtain rfl := Option.some.inj H
            subst Hx1_
            have H := Option.some.inj Hr1_
            subst H
            refine g_ret Try.func22 (v := Value.tuple #[Value.agg (([Value.int .i8 x30, Value.int .i8 x31, v33] : List Value)).toArray, Value.int .i64 (rdL r36 0 0), Value.int .i64 0]) (resN (l := Try.f22.results.toList) (vs := [Value.agg (([Value.int .i8 x30, Value.int .i8 x31, v33] : List Value)).toArray, Value.int .i64 (rdL r36 0 0), Value.int .i64 0]) rfl ⟨⟨_, rfl, (run_loadVar_agg (es := (([Value.int .i8 x30, Value.int .i8 x31, v33] : List Value))) rfl rfl (cells_all (hs.cells 1 rfl)))⟩, rfl, rfl, trivial⟩ (by simp)) ?_
            have hs := hs.pull 2 rfl
            have hs : St _ [_] _ := St.take (Γ' := [_, _, _]) hs
            exact ⟨_, rfl, v33, rfl, hs⟩
          ·
           intro hb
           rw [if_neg (b_beq_f hb)] at H
           show G _ _ _ _ [_, _, _, _, _, _, _, _, _, _, _, _, _, _, _, _, _, _, _, _, _, _, _, _, _, _, _, _, _, _, _, _, _, _, _, _, _, _, _, _, _, _, _, _, _, _, _, _, _, _, _, _, _, _, _, _, _, _, _, _, _, _, _, _, _, _, _, _, _, _, _, _, _, _, _] _
           refine g_op (v := Value.bool false) rfl rfl rfl ?_
           show G _ _ _ _ [_, _, _, _, _, _, _, _, _, _, _, _, _, _, _, _, _, _, _, _, _, _, _, _, _, _, _, _, _, _, _, _, _, _, _, _, _, _, _, _, _, _, _, _, _, _, _, _, _, _, _, _, _, _, _, _, _, _, _, _, _, _, _, _, _, _, _, _, _, _, _, _, _, _, _] _
           refine g_ops_nil ?_
           refine g_cond_false rfl ?_
           refine g_seq ?_
           refine g_region ?_
           show G _ _ _ (.inRegion _ [0, 1, 2] :: _) _ _
           refine g_op (v := Value.int .i64 x35) rfl rfl rfl ?_
           refine g_op_b (B := x35 == 60) rfl rfl rfl ?_ ?_
           ·
            intro hb
            rw [if_pos (b_beq_t hb)] at H
            show G _ _ _ _ [_, _, _, _, _, _, _, _, _, _, _, _, _, _, _, _, _, _, _, _, _, _, _, _, _, _, _, _, _, _, _, _, _, _, _, _, _, _, _, _, _, _, _, _, _, _, _, _, _, _, _, _, _, _, _, _, _, _, _, _, _, _, _, _, _, _, _, _, _, _, _, _, _, _, _] _
            refine g_op (v := Value.bool true) rfl rfl rfl ?_
            show G _ _ _ _ [_, _, _, _, _, _, _, _, _, _, _, _, _, _, _, _, _, _, _, _, _, _, _, _, _, _, _, _, _, _, _, _, _, _, _, _, _, _, _, _, _, _, _, _, _, _, _, _, _, _, _, _, _, _, _, _, _, _, _, _, _, _, _, _, _, _, _, _, _, _, _, _, _, _, _] _
            refine g_ops_nil ?_
            refine g_cond_true rfl ?_
            refine g_seq ?_
            refine g_region ?_
            show G _ _ _ (.inRegion _ [0, 1, 2, 3] :: _) _ _
            refine g_op (v := Value.agg (([Value.int .i8 0, Value.int .i8 0, Value.slice none 0 0] : List Value)).toArray) rfl rfl (x_buildS (cs := (([Value.int .i8 0, Value.int .i8 0, Value.slice none 0 0] : List Value))) (segs := [[Value.int .i8 0], [Value.int .i8 0], [Value.slice none 0 0]]) rfl rfl (fun _ => rfl) ⟨rfl, (fun _ => rfl), rfl, (fun _ => rfl), rfl, (fun _ => rfl), trivial⟩ (by simp) (by first | rfl | (simp [ev, encA]; done) | (simp [ev, encA]; rfl))) ?_
            show G _ _ _ _ [_, _, _, _, _, _, _, _, _, _, _, _, _, _, _, _, _, _, _, _, _, _, _, _, _, _, _, _, _, _, _, _, _, _, _, _, _, _, _, _, _, _, _, _, _, _, _, _, _, _, _, _, _, _, _, _, _, _, _, _, _, _, _, _, _, _, _, _, _, _, _, _, _, _, _] _
            have hs := hs.pull 1 rfl
            have hs : St _ [_, _, _, _] _ := hs
            refine s_storeAll (n := 3) hs rfl rfl rfl (vs := (([Value.int .i8 0, Value.int .i8 0, Value.slice none 0 0] : List Value))) rfl rfl rfl (fun _ => rfl) rfl (by simp [Value.oneCell']) ?_
            intro w hs
            refine g_op (v := Value.int .i64 0) rfl rfl rfl ?_
            show G _ _ _ _ [_, _, _, _, _, _, _, _, _, _, _, _, _, _, _, _, _, _, _, _, _, _, _, _, _, _, _, _, _, _, _, _, _, _, _, _, _, _, _, _, _, _, _, _, _, _, _, _, _, _, _, _, _, _, _, _, _, _, _, _, _, _, _, _, _, _, _, _, _, _, _, _, _, _, _] _
            refine g_op (v := Value.int .i64 7) rfl rfl rfl ?_
            show G _ _ _ _ [_, _, _, _, _, _, _, _, _, _, _, _, _, _, _, _, _, _, _, _, _, _, _, _, _, _, _, _, _, _, _, _, _, _, _, _, _, _, _, _, _, _, _, _, _, _, _, _, _, _, _, _, _, _, _, _, _, _, _, _, _, _, _, _, _, _, _, _, _, _, _, _, _, _, _] _
            refine g_ops_nil ?_
            obtain rfl := Option.some.inj H
            subst Hx1_
            have H := Option.some.inj Hr1_
            subst H
            refine g_ret Try.func22 (v := Value.tuple #[Value.agg (([Value.int .i8 0, Value.int .i8 0, Value.slice none 0 0] : List Value)).toArray, Value.int .i64 0, Value.int .i64 7]) (resN (l := Try.f22.results.toList) (vs := [Value.agg (([Value.int .i8 0, Value.int .i8 0, Value.slice none 0 0] : List Value)).toArray, Value.int .i64 0, Value.int .i64 7]) rfl ⟨⟨_, rfl, (run_loadVar_agg (es := (([Value.int .i8 0, Value.int .i8 0, Value.slice none 0 0] : List Value))) rfl rfl (cells_all (hs.cells 0 rfl)))⟩, rfl, rfl, trivial⟩ (by simp)) ?_
            have hs := hs.nil 64 k_S_impl_Ask
            have hs := hs.pull 0 rfl
            have hs : St _ [_] _ := St.take (Γ' := [_, _, _, _]) hs
            exact ⟨_, rfl, (Value.slice none 0 0), rfl, hs⟩
           ·
            intro hb
            rw [if_neg (b_beq_f hb)] at H
            show G _ _ _ _ [_, _, _, _, _, _, _, _, _, _, _, _, _, _, _, _, _, _, _, _, _, _, _, _, _, _, _, _, _, _, _, _, _, _, _, _, _, _, _, _, _, _, _, _, _, _, _, _, _, _, _, _, _, _, _, _, _, _, _, _, _, _, _, _, _, _, _, _, _, _, _, _, _, _, _] _
            refine g_op (v := Value.bool false) rfl rfl rfl ?_
            show G _ _ _ _ [_, _, _, _, _, _, _, _, _, _, _, _, _, _, _, _, _, _, _, _, _, _, _, _, _, _, _, _, _, _, _, _, _, _, _, _, _, _, _, _, _, _, _, _, _, _, _, _, _, _, _, _, _, _, _, _, _, _, _, _, _, _, _, _, _, _, _, _, _, _, _, _, _, _, _] _
            refine g_ops_nil ?_
            refine g_cond_false rfl ?_
            refine g_skip ?_
            refine g_inBlock ?_
            refine g_seq ?_
            refine g_region ?_
            show G _ _ _ (.inRegion _ [0, 1, 2, 3, 4, 5, 6] :: _) _ _
            refine s_loadA rfl rfl (es := (([Value.int .i8 x30, Value.int .i8 x31, v33] : List Value))) rfl rfl (fun _ => rfl) (n := 3) (fun _ => rfl) rfl (cells_all (hs.cells 3 rfl)) ?_
            show G _ _ _ _ [_, _, _, _, _, _, _, _, _, _, _, _, _, _, _, _, _, _, _, _, _, _, _, _, _, _, _, _, _, _, _, _, _, _, _, _, _, _, _, _, _, _, _, _, _, _, _, _, _, _, _, _, _, _, _, _, _, _, _, _, _, _, _, _, _, _, _, _, _, _, _, _, _, _, _] _
            obtain ⟨r39, Hr39, H⟩ := bind_get H
            refine s_call (args := [Value.agg (([Value.int .i8 x30, Value.int .i8 x31, v33] : List Value)).toArray]) rfl rfl (x_call rfl (callFunc_enter Try.func41 rfl rfl) rfl) (impl_NextSet.calls (a1 := (⟨x30, x31, x34⟩ : S_impl_Game)) (hs.row 2 rfl) Hr39) ?_
            rintro _ w ⟨rfl, hs2⟩
            have hs : St _ [_, _, _, _] _ := hs.call hs2
            show G _ _ _ _ [_, _, _, _, _, _, _, _, _, _, _, _, _, _, _, _, _, _, _, _, _, _, _, _, _, _, _, _, _, _, _, _, _, _, _, _, _, _, _, _, _, _, _, _, _, _, _, _, _, _, _, _, _, _, _, _, _, _, _, _, _, _, _, _, _, _, _, _, _, _, _, _, _, _, _] _
            refine g_op (v := Value.tuple #[Value.int .u64 r39.1, Value.int .i64 r39.2]) rfl rfl rfl ?_
            refine g_op (v := Value.int .u64 r39.1) rfl rfl rfl ?_
            refine g_op (v := Value.int .i64 r39.2) rfl rfl rfl ?_
            refine g_op (v := Value.int .u64 r39.1) rfl rfl rfl ?_
            show G _ _ _ _ [_, _, _, _, _, _, _, _, _, _, _, _, _, _, _, _, _, _, _, _, _, _, _, _, _, _, _, _, _, _, _, _, _, _, _, _, _, _, _, _, _, _, _, _, _, _, _, _, _, _, _, _, _, _, _, _, _, _, _, _, _, _, _, _, _, _, _, _, _, _, _, _, _, _, _] _
            refine g_op (v := Value.int .i64 r39.2) rfl rfl rfl ?_
            show G _ _ _ _ [_, _, _, _, _, _, _, _, _, _, _, _, _, _, _, _, _, _, _, _, _, _, _, _, _, _, _, _, _, _, _, _, _, _, _, _, _, _, _, _, _, _, _, _, _, _, _, _, _, _, _, _, _, _, _, _, _, _, _, _, _, _, _, _, _, _, _, _, _, _, _, _, _, _, _] _
            refine g_ops_nil ?_
            by_cases hb14_ : x35 < (a4.length : Int)
            ·
             rw [if_pos hb14_] at H
             refine g_lay (n := 17) rfl [0, 1, 2, 3, 4, 5, 6, 7, 8, 9, 10, 11, 12, 13, 14, 15, 16] [0, 1, 2, 3, 4, 5, 6, 7, 8, 9, 10, 11, 12, 13, 14, 15, 16] rfl rfl ?_
             intro rest w hh hbw hO
             have hs := hs.samew hh hbw
             show G _ _ _ _ [_, _, _, _, _, _, _, _, _, _, _, _, _, _, _, _, _, _, _, _, _, _, _, _, _, _, _, _, _, _, _, _, _, _, _, _, _, _, _, _, _, _, _, _, _, _, _, _, _, _, _, _, _, _, _, _, _, _, _, _, _, _, _, _, _, _, _, _, _, _, _, _, _, _, _] _
             obtain ⟨gd16, H⟩ := ite_get H
             obtain ⟨ad17_, ad17_N, ad17_C, had17_⟩ := sl_at (hs.rd hr3) gd16.1 gd16.2
             obtain ⟨r40, Hr40, H⟩ := bind_get H
             refine g_name ?_
             intro T hT
             refine g_layer (m0 := 0) hO rfl 32767 [0, 1, 2, 3, 4, 5, 6, 7, 8, 9, 10, 11, 12, 13, 14] [0, 0, 0, 0, 0, 0, 32, 112, 240, 496, 496, 2032, 4080, 8176, 16380, 32767, 65535] (by decide +kernel) (fun D t w => ∃ O : Nat → Value, t = [O 0, O 1, Value.int .i64 a3, v5, O 4, O 5, O 6, O 7, Value.pointer (some ⟨b6, 0, none⟩), O 9, O 10, Value.pointer (some ⟨b10, 0, none⟩), Value.int .i64 x35, v37, Value.int .u64 r39.1, Value.int .i64 r39.2, O 16, O 17, O 18, O 19, O 20, O 21, O 22, O 23, O 24, O 25, O 26, O 27, O 28, O 29, O 30, O 31, O 32, O 33, O 34, Value.agg (([Value.int .i8 x30, Value.int .i8 x31, v33] : List Value)).toArray, v37, Value.bool false, v37, Value.int .i64 (r36.length : Int), Value.bool false, O 41, Value.bool false, v37, Value.int .i64 (r36.length : Int), Value.bool false, O 46, O 47, O 48, O 49, Value.bool false, Value.int .i64 x35, Value.bool false, O 53, Value.tuple #[Value.int .u64 r39.1, Value.int .i64 r39.2], Value.agg (([Value.int .i8 x30, Value.int .i8 x31, v33] : List Value)).toArray, Value.tuple #[Value.int .u64 r39.1, Value.int .i64 r39.2], Value.int .u64 r39.1, Value.int .i64 r39.2, cnd (D 0) (Value.agg (([Value.int .i8 x30, Value.int .i8 x31, v33] : List Value)).toArray) (O 59), cnd (D 1) (Value.int .u64 r39.1) (O 60), cnd (D 2) (Value.int .u64 r39.1) (O 61), cnd (D 3) (Value.int .i64 a3) (O 62), cnd (D 4) (Value.int .i64 x35) (O 63), cnd (D 5) v5 (O 64), cnd (D 6) (Value.int .i64 (a4.length : Int)) (O 65), cnd (D 7) (Value.bool true) (O 66), cnd (D 8) (Value.bool true) (O 67), cnd (D 9) v5 (O 68), cnd (D 10) (Value.int .i64 x35) (O 69), cnd (D 11) (Value.pointer (some (ad17_.add (x35.toNat * 1)))) (O 70), cnd (D 12) (Value.bool (rdL a4 x35 false)) (O 71), cnd (D 13) (Value.bool (rdL a4 x35 false)) (O 72), cnd (D 14) (Value.bool r40) (O 73), O 74] ∧ St w0 [Row 2 (K.int .i64) v37 r36, Cells b6 (([Value.int .i8 0, Value.int .i8 0, Value.slice none 0 0] : List Value)) 31, Row 64 k_S_impl_Ask v33 x34, Cells b10 (([Value.int .i8 x30, Value.int .i8 x31, v33] : List Value)) 31] w) ?_ ⟨?_, ⟨?_, ⟨?_, ⟨?_, ⟨?_, ⟨?_, ⟨?_, ⟨?_, ⟨?_, ⟨?_, ⟨?_, ⟨?_, ⟨?_, ⟨?_, ⟨?_, trivial⟩⟩⟩⟩⟩⟩⟩⟩⟩⟩⟩⟩⟩⟩⟩ ?_
             · exact ⟨fun i => T.getD i undef, (by subst hT; rfl), hs⟩
             ·
              intro D t w hD hp hcl hI rest hk
              obtain ⟨O, ht, hs⟩ := hI
              have hp : AllDone D [] := hp
              have u0_ : upd D 0 0 = true := rfl; have u1_ : upd D 0 1 = D 1 := rfl; have u2_ : upd D 0 2 = D 2 := rfl; have u3_ : upd D 0 3 = D 3 := rfl; have u4_ : upd D 0 4 = D 4 := rfl; have u5_ : upd D 0 5 = D 5 := rfl; have u6_ : upd D 0 6 = D 6 := rfl; have u7_ : upd D 0 7 = D 7 := rfl; have u8_ : upd D 0 8 = D 8 := rfl; have u9_ : upd D 0 9 = D 9 := rfl; have u10_ : upd D 0 10 = D 10 := rfl; have u11_ : upd D 0 11 = D 11 := rfl; have u12_ : upd D 0 12 = D 12 := rfl; have u13_ : upd D 0 13 = D 13 := rfl; have u14_ : upd D 0 14 = D 14 := rfl
              simp only [hD, cnd_t, cnd_f, Asc_t, Asc_f] at ht hs
              subst ht
              refine s_loadA rfl rfl (es := (([Value.int .i8 x30, Value.int .i8 x31, v33] : List Value))) rfl rfl (fun _ => rfl) (n := 3) (fun _ => rfl) rfl (cells_all (hs.cells 3 rfl)) ?_
              show G _ _ _ _ [_, _, _, _, _, _, _, _, _, _, _, _, _, _, _, _, _, _, _, _, _, _, _, _, _, _, _, _, _, _, _, _, _, _, _, _, _, _, _, _, _, _, _, _, _, _, _, _, _, _, _, _, _, _, _, _, _, _, _, _, _, _, _, _, _, _, _, _, _, _, _, _, _, _, _] _
              exact hk _ _ ⟨O, (by simp only [u0_, u1_, u2_, u3_, u4_, u5_, u6_, u7_, u8_, u9_, u10_, u11_, u12_, u13_, u14_, cnd_t, cnd_f, Asc_t, Asc_f]), hs.cast (by first | rfl | simp only [List.take, List.drop, List.cons_append, List.nil_append, List.set_cons_zero, List.set_cons_succ, List.eraseIdx, u0_, u1_, u2_, u3_, u4_, u5_, u6_, u7_, u8_, u9_, u10_, u11_, u12_, u13_, u14_, cnd_t, cnd_f, Asc_t, Asc_f])⟩
             ·
              intro D t w hD hp hcl hI rest hk
              obtain ⟨O, ht, hs⟩ := hI
              have hp : AllDone D [] := hp
              have u0_ : upd D 1 0 = D 0 := rfl; have u1_ : upd D 1 1 = true := rfl; have u2_ : upd D 1 2 = D 2 := rfl; have u3_ : upd D 1 3 = D 3 := rfl; have u4_ : upd D 1 4 = D 4 := rfl; have u5_ : upd D 1 5 = D 5 := rfl; have u6_ : upd D 1 6 = D 6 := rfl; have u7_ : upd D 1 7 = D 7 := rfl; have u8_ : upd D 1 8 = D 8 := rfl; have u9_ : upd D 1 9 = D 9 := rfl; have u10_ : upd D 1 10 = D 10 := rfl; have u11_ : upd D 1 11 = D 11 := rfl; have u12_ : upd D 1 12 = D 12 := rfl; have u13_ : upd D 1 13 = D 13 := rfl; have u14_ : upd D 1 14 = D 14 := rfl
              simp only [hD, cnd_t, cnd_f, Asc_t, Asc_f] at ht hs
              subst ht
              refine g_op (v := Value.int .u64 r39.1) rfl rfl rfl ?_
              show G _ _ _ _ [_, _, _, _, _, _, _, _, _, _, _, _, _, _, _, _, _, _, _, _, _, _, _, _, _, _, _, _, _, _, _, _, _, _, _, _, _, _, _, _, _, _, _, _, _, _, _, _, _, _, _, _, _, _, _, _, _, _, _, _, _, _, _, _, _, _, _, _, _, _, _, _, _, _, _] _
              exact hk _ _ ⟨O, (by simp only [u0_, u1_, u2_, u3_, u4_, u5_, u6_, u7_, u8_, u9_, u10_, u11_, u12_, u13_, u14_, cnd_t, cnd_f, Asc_t, Asc_f]), hs.cast (by first | rfl | simp only [List.take, List.drop, List.cons_append, List.nil_append, List.set_cons_zero, List.set_cons_succ, List.eraseIdx, u0_, u1_, u2_, u3_, u4_, u5_, u6_, u7_, u8_, u9_, u10_, u11_, u12_, u13_, u14_, cnd_t, cnd_f, Asc_t, Asc_f])⟩
             ·
              intro D t w hD hp hcl hI rest hk
              obtain ⟨O, ht, hs⟩ := hI
              have hp : AllDone D [] := hp
              have q14_ : D 14 = false := not_yet (show D 14 = true → AllDone D [2, 3, 13, 8] from hcl 14 (by decide)) 0 2 rfl hD
              have u0_ : upd D 2 0 = D 0 := rfl; have u1_ : upd D 2 1 = D 1 := rfl; have u2_ : upd D 2 2 = true := rfl; have u3_ : upd D 2 3 = D 3 := rfl; have u4_ : upd D 2 4 = D 4 := rfl; have u5_ : upd D 2 5 = D 5 := rfl; have u6_ : upd D 2 6 = D 6 := rfl; have u7_ : upd D 2 7 = D 7 := rfl; have u8_ : upd D 2 8 = D 8 := rfl; have u9_ : upd D 2 9 = D 9 := rfl; have u10_ : upd D 2 10 = D 10 := rfl; have u11_ : upd D 2 11 = D 11 := rfl; have u12_ : upd D 2 12 = D 12 := rfl; have u13_ : upd D 2 13 = D 13 := rfl; have u14_ : upd D 2 14 = D 14 := rfl
              simp only [hD, q14_, cnd_t, cnd_f, Asc_t, Asc_f] at ht hs
              subst ht
              refine g_op (v := Value.int .u64 r39.1) rfl rfl rfl ?_
              show G _ _ _ _ [_, _, _, _, _, _, _, _, _, _, _, _, _, _, _, _, _, _, _, _, _, _, _, _, _, _, _, _, _, _, _, _, _, _, _, _, _, _, _, _, _, _, _, _, _, _, _, _, _, _, _, _, _, _, _, _, _, _, _, _, _, _, _, _, _, _, _, _, _, _, _, _, _, _, _] _
              exact hk _ _ ⟨O, (by simp only [u0_, u1_, u2_, u3_, u4_, u5_, u6_, u7_, u8_, u9_, u10_, u11_, u12_, u13_, u14_, q14_, cnd_t, cnd_f, Asc_t, Asc_f]), hs.cast (by first | rfl | simp only [List.take, List.drop, List.cons_append, List.nil_append, List.set_cons_zero, List.set_cons_succ, List.eraseIdx, u0_, u1_, u2_, u3_, u4_, u5_, u6_, u7_, u8_, u9_, u10_, u11_, u12_, u13_, u14_, q14_, cnd_t, cnd_f, Asc_t, Asc_f])⟩
             ·
              intro D t w hD hp hcl hI rest hk
              obtain ⟨O, ht, hs⟩ := hI
              have hp : AllDone D [] := hp
              have q14_ : D 14 = false := not_yet (show D 14 = true → AllDone D [2, 3, 13, 8] from hcl 14 (by decide)) 1 3 rfl hD
              have u0_ : upd D 3 0 = D 0 := rfl; have u1_ : upd D 3 1 = D 1 := rfl; have u2_ : upd D 3 2 = D 2 := rfl; have u3_ : upd D 3 3 = true := rfl; have u4_ : upd D 3 4 = D 4 := rfl; have u5_ : upd D 3 5 = D 5 := rfl; have u6_ : upd D 3 6 = D 6 := rfl; have u7_ : upd D 3 7 = D 7 := rfl; have u8_ : upd D 3 8 = D 8 := rfl; have u9_ : upd D 3 9 = D 9 := rfl; have u10_ : upd D 3 10 = D 10 := rfl; have u11_ : upd D 3 11 = D 11 := rfl; have u12_ : upd D 3 12 = D 12 := rfl; have u13_ : upd D 3 13 = D 13 := rfl; have u14_ : upd D 3 14 = D 14 := rfl
              simp only [hD, q14_, cnd_t, cnd_f, Asc_t, Asc_f] at ht hs
              subst ht
              refine g_op (v := Value.int .i64 a3) rfl rfl rfl ?_
              show G _ _ _ _ [_, _, _, _, _, _, _, _, _, _, _, _, _, _, _, _, _, _, _, _, _, _, _, _, _, _, _, _, _, _, _, _, _, _, _, _, _, _, _, _, _, _, _, _, _, _, _, _, _, _, _, _, _, _, _, _, _, _, _, _, _, _, _, _, _, _, _, _, _, _, _, _, _, _, _] _
              exact hk _ _ ⟨O, (by simp only [u0_, u1_, u2_, u3_, u4_, u5_, u6_, u7_, u8_, u9_, u10_, u11_, u12_, u13_, u14_, q14_, cnd_t, cnd_f, Asc_t, Asc_f]), hs.cast (by first | rfl | simp only [List.take, List.drop, List.cons_append, List.nil_append, List.set_cons_zero, List.set_cons_succ, List.eraseIdx, u0_, u1_, u2_, u3_, u4_, u5_, u6_, u7_, u8_, u9_, u10_, u11_, u12_, u13_, u14_, q14_, cnd_t, cnd_f, Asc_t, Asc_f])⟩
             ·
              intro D t w hD hp hcl hI rest hk
              obtain ⟨O, ht, hs⟩ := hI
              have hp : AllDone D [] := hp
              have q7_ : D 7 = false := not_yet (show D 7 = true → AllDone D [4, 6] from hcl 7 (by decide)) 0 4 rfl hD
              have q8_ : D 8 = false := not_yet (show D 8 = true → AllDone D [7] from hcl 8 (by decide)) 0 7 rfl q7_
              have q9_ : D 9 = false := not_yet (show D 9 = true → AllDone D [8] from hcl 9 (by decide)) 0 8 rfl q8_
              have q10_ : D 10 = false := not_yet (show D 10 = true → AllDone D [8] from hcl 10 (by decide)) 0 8 rfl q8_
              have q11_ : D 11 = false := not_yet (show D 11 = true → AllDone D [9, 10, 8] from hcl 11 (by decide)) 0 9 rfl q9_
              have q12_ : D 12 = false := not_yet (show D 12 = true → AllDone D [11, 8] from hcl 12 (by decide)) 0 11 rfl q11_
              have q13_ : D 13 = false := not_yet (show D 13 = true → AllDone D [8, 12] from hcl 13 (by decide)) 0 8 rfl q8_
              have q14_ : D 14 = false := not_yet (show D 14 = true → AllDone D [2, 3, 13, 8] from hcl 14 (by decide)) 2 13 rfl q13_
              have u0_ : upd D 4 0 = D 0 := rfl; have u1_ : upd D 4 1 = D 1 := rfl; have u2_ : upd D 4 2 = D 2 := rfl; have u3_ : upd D 4 3 = D 3 := rfl; have u4_ : upd D 4 4 = true := rfl; have u5_ : upd D 4 5 = D 5 := rfl; have u6_ : upd D 4 6 = D 6 := rfl; have u7_ : upd D 4 7 = D 7 := rfl; have u8_ : upd D 4 8 = D 8 := rfl; have u9_ : upd D 4 9 = D 9 := rfl; have u10_ : upd D 4 10 = D 10 := rfl; have u11_ : upd D 4 11 = D 11 := rfl; have u12_ : upd D 4 12 = D 12 := rfl; have u13_ : upd D 4 13 = D 13 := rfl; have u14_ : upd D 4 14 = D 14 := rfl
              simp only [hD, q7_, q8_, q9_, q10_, q11_, q12_, q13_, q14_, cnd_t, cnd_f, Asc_t, Asc_f] at ht hs
              subst ht
              refine g_op (v := Value.int .i64 x35) rfl rfl rfl ?_
              show G _ _ _ _ [_, _, _, _, _, _, _, _, _, _, _, _, _, _, _, _, _, _, _, _, _, _, _, _, _, _, _, _, _, _, _, _, _, _, _, _, _, _, _, _, _, _, _, _, _, _, _, _, _, _, _, _, _, _, _, _, _, _, _, _, _, _, _, _, _, _, _, _, _, _, _, _, _, _, _] _
              exact hk _ _ ⟨O, (by simp only [u0_, u1_, u2_, u3_, u4_, u5_, u6_, u7_, u8_, u9_, u10_, u11_, u12_, u13_, u14_, q7_, q8_, q9_, q10_, q11_, q12_, q13_, q14_, cnd_t, cnd_f, Asc_t, Asc_f]), hs.cast (by first | rfl | simp only [List.take, List.drop, List.cons_append, List.nil_append, List.set_cons_zero, List.set_cons_succ, List.eraseIdx, u0_, u1_, u2_, u3_, u4_, u5_, u6_, u7_, u8_, u9_, u10_, u11_, u12_, u13_, u14_, q7_, q8_, q9_, q10_, q11_, q12_, q13_, q14_, cnd_t, cnd_f, Asc_t, Asc_f])⟩
             ·
              intro D t w hD hp hcl hI rest hk
              obtain ⟨O, ht, hs⟩ := hI
              have hp : AllDone D [] := hp
              have q6_ : D 6 = false := not_yet (show D 6 = true → AllDone D [5] from hcl 6 (by decide)) 0 5 rfl hD
              have q7_ : D 7 = false := not_yet (show D 7 = true → AllDone D [4, 6] from hcl 7 (by decide)) 1 6 rfl q6_
              have q8_ : D 8 = false := not_yet (show D 8 = true → AllDone D [7] from hcl 8 (by decide)) 0 7 rfl q7_
              have q9_ : D 9 = false := not_yet (show D 9 = true → AllDone D [8] from hcl 9 (by decide)) 0 8 rfl q8_
              have q10_ : D 10 = false := not_yet (show D 10 = true → AllDone D [8] from hcl 10 (by decide)) 0 8 rfl q8_
              have q11_ : D 11 = false := not_yet (show D 11 = true → AllDone D [9, 10, 8] from hcl 11 (by decide)) 0 9 rfl q9_
              have q12_ : D 12 = false := not_yet (show D 12 = true → AllDone D [11, 8] from hcl 12 (by decide)) 0 11 rfl q11_
              have q13_ : D 13 = false := not_yet (show D 13 = true → AllDone D [8, 12] from hcl 13 (by decide)) 0 8 rfl q8_
              have q14_ : D 14 = false := not_yet (show D 14 = true → AllDone D [2, 3, 13, 8] from hcl 14 (by decide)) 2 13 rfl q13_
              have u0_ : upd D 5 0 = D 0 := rfl; have u1_ : upd D 5 1 = D 1 := rfl; have u2_ : upd D 5 2 = D 2 := rfl; have u3_ : upd D 5 3 = D 3 := rfl; have u4_ : upd D 5 4 = D 4 := rfl; have u5_ : upd D 5 5 = true := rfl; have u6_ : upd D 5 6 = D 6 := rfl; have u7_ : upd D 5 7 = D 7 := rfl; have u8_ : upd D 5 8 = D 8 := rfl; have u9_ : upd D 5 9 = D 9 := rfl; have u10_ : upd D 5 10 = D 10 := rfl; have u11_ : upd D 5 11 = D 11 := rfl; have u12_ : upd D 5 12 = D 12 := rfl; have u13_ : upd D 5 13 = D 13 := rfl; have u14_ : upd D 5 14 = D 14 := rfl
              simp only [hD, q6_, q7_, q8_, q9_, q10_, q11_, q12_, q13_, q14_, cnd_t, cnd_f, Asc_t, Asc_f] at ht hs
              subst ht
              refine g_op (v := v5) rfl rfl rfl ?_
              show G _ _ _ _ [_, _, _, _, _, _, _, _, _, _, _, _, _, _, _, _, _, _, _, _, _, _, _, _, _, _, _, _, _, _, _, _, _, _, _, _, _, _, _, _, _, _, _, _, _, _, _, _, _, _, _, _, _, _, _, _, _, _, _, _, _, _, _, _, _, _, _, _, _, _, _, _, _, _, _] _
              exact hk _ _ ⟨O, (by simp only [u0_, u1_, u2_, u3_, u4_, u5_, u6_, u7_, u8_, u9_, u10_, u11_, u12_, u13_, u14_, q6_, q7_, q8_, q9_, q10_, q11_, q12_, q13_, q14_, cnd_t, cnd_f, Asc_t, Asc_f]), hs.cast (by first | rfl | simp only [List.take, List.drop, List.cons_append, List.nil_append, List.set_cons_zero, List.set_cons_succ, List.eraseIdx, u0_, u1_, u2_, u3_, u4_, u5_, u6_, u7_, u8_, u9_, u10_, u11_, u12_, u13_, u14_, q6_, q7_, q8_, q9_, q10_, q11_, q12_, q13_, q14_, cnd_t, cnd_f, Asc_t, Asc_f])⟩
             ·
              intro D t w hD hp hcl hI rest hk
              obtain ⟨O, ht, hs⟩ := hI
              have hp : AllDone D [5] := hp
              obtain ⟨p5_, _⟩ := hp
              have q7_ : D 7 = false := not_yet (show D 7 = true → AllDone D [4, 6] from hcl 7 (by decide)) 1 6 rfl hD
              have q8_ : D 8 = false := not_yet (show D 8 = true → AllDone D [7] from hcl 8 (by decide)) 0 7 rfl q7_
              have q9_ : D 9 = false := not_yet (show D 9 = true → AllDone D [8] from hcl 9 (by decide)) 0 8 rfl q8_
              have q10_ : D 10 = false := not_yet (show D 10 = true → AllDone D [8] from hcl 10 (by decide)) 0 8 rfl q8_
              have q11_ : D 11 = false := not_yet (show D 11 = true → AllDone D [9, 10, 8] from hcl 11 (by decide)) 0 9 rfl q9_
              have q12_ : D 12 = false := not_yet (show D 12 = true → AllDone D [11, 8] from hcl 12 (by decide)) 0 11 rfl q11_
              have q13_ : D 13 = false := not_yet (show D 13 = true → AllDone D [8, 12] from hcl 13 (by decide)) 0 8 rfl q8_
              have q14_ : D 14 = false := not_yet (show D 14 = true → AllDone D [2, 3, 13, 8] from hcl 14 (by decide)) 2 13 rfl q13_
              have u0_ : upd D 6 0 = D 0 := rfl; have u1_ : upd D 6 1 = D 1 := rfl; have u2_ : upd D 6 2 = D 2 := rfl; have u3_ : upd D 6 3 = D 3 := rfl; have u4_ : upd D 6 4 = D 4 := rfl; have u5_ : upd D 6 5 = D 5 := rfl; have u6_ : upd D 6 6 = true := rfl; have u7_ : upd D 6 7 = D 7 := rfl; have u8_ : upd D 6 8 = D 8 := rfl; have u9_ : upd D 6 9 = D 9 := rfl; have u10_ : upd D 6 10 = D 10 := rfl; have u11_ : upd D 6 11 = D 11 := rfl; have u12_ : upd D 6 12 = D 12 := rfl; have u13_ : upd D 6 13 = D 13 := rfl; have u14_ : upd D 6 14 = D 14 := rfl
              simp only [hD, p5_, q7_, q8_, q9_, q10_, q11_, q12_, q13_, q14_, cnd_t, cnd_f, Asc_t, Asc_f] at ht hs
              subst ht
              refine s_len (hs.rd hr3) rfl rfl rfl rfl rfl ?_
              show G _ _ _ _ [_, _, _, _, _, _, _, _, _, _, _, _, _, _, _, _, _, _, _, _, _, _, _, _, _, _, _, _, _, _, _, _, _, _, _, _, _, _, _, _, _, _, _, _, _, _, _, _, _, _, _, _, _, _, _, _, _, _, _, _, _, _, _, _, _, _, _, _, _, _, _, _, _, _, _] _
              exact hk _ _ ⟨O, (by simp only [u0_, u1_, u2_, u3_, u4_, u5_, u6_, u7_, u8_, u9_, u10_, u11_, u12_, u13_, u14_, p5_, q7_, q8_, q9_, q10_, q11_, q12_, q13_, q14_, cnd_t, cnd_f, Asc_t, Asc_f]), hs.cast (by first | rfl | simp only [List.take, List.drop, List.cons_append, List.nil_append, List.set_cons_zero, List.set_cons_succ, List.eraseIdx, u0_, u1_, u2_, u3_, u4_, u5_, u6_, u7_, u8_, u9_, u10_, u11_, u12_, u13_, u14_, p5_, q7_, q8_, q9_, q10_, q11_, q12_, q13_, q14_, cnd_t, cnd_f, Asc_t, Asc_f])⟩
             ·
              intro D t w hD hp hcl hI rest hk
              obtain ⟨O, ht, hs⟩ := hI
              have hp : AllDone D [4, 6] := hp
              obtain ⟨p4_, p6_, _⟩ := hp
              obtain ⟨p5_, _⟩ := (show D 6 = true → AllDone D [5] from hcl 6 (by decide)) p6_
              have q8_ : D 8 = false := not_yet (show D 8 = true → AllDone D [7] from hcl 8 (by decide)) 0 7 rfl hD
              have q9_ : D 9 = false := not_yet (show D 9 = true → AllDone D [8] from hcl 9 (by decide)) 0 8 rfl q8_
              have q10_ : D 10 = false := not_yet (show D 10 = true → AllDone D [8] from hcl 10 (by decide)) 0 8 rfl q8_
              have q11_ : D 11 = false := not_yet (show D 11 = true → AllDone D [9, 10, 8] from hcl 11 (by decide)) 0 9 rfl q9_
              have q12_ : D 12 = false := not_yet (show D 12 = true → AllDone D [11, 8] from hcl 12 (by decide)) 0 11 rfl q11_
              have q13_ : D 13 = false := not_yet (show D 13 = true → AllDone D [8, 12] from hcl 13 (by decide)) 0 8 rfl q8_
              have q14_ : D 14 = false := not_yet (show D 14 = true → AllDone D [2, 3, 13, 8] from hcl 14 (by decide)) 2 13 rfl q13_
              have u0_ : upd D 7 0 = D 0 := rfl; have u1_ : upd D 7 1 = D 1 := rfl; have u2_ : upd D 7 2 = D 2 := rfl; have u3_ : upd D 7 3 = D 3 := rfl; have u4_ : upd D 7 4 = D 4 := rfl; have u5_ : upd D 7 5 = D 5 := rfl; have u6_ : upd D 7 6 = D 6 := rfl; have u7_ : upd D 7 7 = true := rfl; have u8_ : upd D 7 8 = D 8 := rfl; have u9_ : upd D 7 9 = D 9 := rfl; have u10_ : upd D 7 10 = D 10 := rfl; have u11_ : upd D 7 11 = D 11 := rfl; have u12_ : upd D 7 12 = D 12 := rfl; have u13_ : upd D 7 13 = D 13 := rfl; have u14_ : upd D 7 14 = D 14 := rfl
              simp only [hD, p4_, p5_, p6_, q8_, q9_, q10_, q11_, q12_, q13_, q14_, cnd_t, cnd_f, Asc_t, Asc_f] at ht hs
              subst ht
              refine g_op (v := Value.bool true) rfl rfl (run_bool (b := decide (x35 < (a4.length : Int))) rfl (by first | exact decide_eq_true hb14_ | exact decide_eq_false hb14_ | simp [hb14_])) ?_
              show G _ _ _ _ [_, _, _, _, _, _, _, _, _, _, _, _, _, _, _, _, _, _, _, _, _, _, _, _, _, _, _, _, _, _, _, _, _, _, _, _, _, _, _, _, _, _, _, _, _, _, _, _, _, _, _, _, _, _, _, _, _, _, _, _, _, _, _, _, _, _, _, _, _, _, _, _, _, _, _] _
              exact hk _ _ ⟨O, (by simp only [u0_, u1_, u2_, u3_, u4_, u5_, u6_, u7_, u8_, u9_, u10_, u11_, u12_, u13_, u14_, p4_, p5_, p6_, q8_, q9_, q10_, q11_, q12_, q13_, q14_, cnd_t, cnd_f, Asc_t, Asc_f]), hs.cast (by first | rfl | simp only [List.take, List.drop, List.cons_append, List.nil_append, List.set_cons_zero, List.set_cons_succ, List.eraseIdx, u0_, u1_, u2_, u3_, u4_, u5_, u6_, u7_, u8_, u9_, u10_, u11_, u12_, u13_, u14_, p4_, p5_, p6_, q8_, q9_, q10_, q11_, q12_, q13_, q14_, cnd_t, cnd_f, Asc_t, Asc_f])⟩
             ·
              intro D t w hD hp hcl hI rest hk
              obtain ⟨O, ht, hs⟩ := hI
              have hp : AllDone D [7] := hp
              obtain ⟨p7_, _⟩ := hp
              obtain ⟨p4_, p6_, _⟩ := (show D 7 = true → AllDone D [4, 6] from hcl 7 (by decide)) p7_
              obtain ⟨p5_, _⟩ := (show D 6 = true → AllDone D [5] from hcl 6 (by decide)) p6_
              have q9_ : D 9 = false := not_yet (show D 9 = true → AllDone D [8] from hcl 9 (by decide)) 0 8 rfl hD
              have q10_ : D 10 = false := not_yet (show D 10 = true → AllDone D [8] from hcl 10 (by decide)) 0 8 rfl hD
              have q11_ : D 11 = false := not_yet (show D 11 = true → AllDone D [9, 10, 8] from hcl 11 (by decide)) 0 9 rfl q9_
              have q12_ : D 12 = false := not_yet (show D 12 = true → AllDone D [11, 8] from hcl 12 (by decide)) 0 11 rfl q11_
              have q13_ : D 13 = false := not_yet (show D 13 = true → AllDone D [8, 12] from hcl 13 (by decide)) 0 8 rfl hD
              have q14_ : D 14 = false := not_yet (show D 14 = true → AllDone D [2, 3, 13, 8] from hcl 14 (by decide)) 2 13 rfl q13_
              have u0_ : upd D 8 0 = D 0 := rfl; have u1_ : upd D 8 1 = D 1 := rfl; have u2_ : upd D 8 2 = D 2 := rfl; have u3_ : upd D 8 3 = D 3 := rfl; have u4_ : upd D 8 4 = D 4 := rfl; have u5_ : upd D 8 5 = D 5 := rfl; have u6_ : upd D 8 6 = D 6 := rfl; have u7_ : upd D 8 7 = D 7 := rfl; have u8_ : upd D 8 8 = true := rfl; have u9_ : upd D 8 9 = D 9 := rfl; have u10_ : upd D 8 10 = D 10 := rfl; have u11_ : upd D 8 11 = D 11 := rfl; have u12_ : upd D 8 12 = D 12 := rfl; have u13_ : upd D 8 13 = D 13 := rfl; have u14_ : upd D 8 14 = D 14 := rfl
              simp only [hD, p4_, p5_, p6_, p7_, q9_, q10_, q11_, q12_, q13_, q14_, cnd_t, cnd_f, Asc_t, Asc_f] at ht hs
              subst ht
              refine g_op (v := Value.bool true) rfl rfl rfl ?_
              show G _ _ _ _ [_, _, _, _, _, _, _, _, _, _, _, _, _, _, _, _, _, _, _, _, _, _, _, _, _, _, _, _, _, _, _, _, _, _, _, _, _, _, _, _, _, _, _, _, _, _, _, _, _, _, _, _, _, _, _, _, _, _, _, _, _, _, _, _, _, _, _, _, _, _, _, _, _, _, _] _
              exact hk _ _ ⟨O, (by simp only [u0_, u1_, u2_, u3_, u4_, u5_, u6_, u7_, u8_, u9_, u10_, u11_, u12_, u13_, u14_, p4_, p5_, p6_, p7_, q9_, q10_, q11_, q12_, q13_, q14_, cnd_t, cnd_f, Asc_t, Asc_f]), hs.cast (by first | rfl | simp only [List.take, List.drop, List.cons_append, List.nil_append, List.set_cons_zero, List.set_cons_succ, List.eraseIdx, u0_, u1_, u2_, u3_, u4_, u5_, u6_, u7_, u8_, u9_, u10_, u11_, u12_, u13_, u14_, p4_, p5_, p6_, p7_, q9_, q10_, q11_, q12_, q13_, q14_, cnd_t, cnd_f, Asc_t, Asc_f])⟩
             ·
              intro D t w hD hp hcl hI rest hk
              obtain ⟨O, ht, hs⟩ := hI
              have hp : AllDone D [8] := hp
              obtain ⟨p8_, _⟩ := hp
              obtain ⟨p7_, _⟩ := (show D 8 = true → AllDone D [7] from hcl 8 (by decide)) p8_
              obtain ⟨p4_, p6_, _⟩ := (show D 7 = true → AllDone D [4, 6] from hcl 7 (by decide)) p7_
              obtain ⟨p5_, _⟩ := (show D 6 = true → AllDone D [5] from hcl 6 (by decide)) p6_
              have q11_ : D 11 = false := not_yet (show D 11 = true → AllDone D [9, 10, 8] from hcl 11 (by decide)) 0 9 rfl hD
              have q12_ : D 12 = false := not_yet (show D 12 = true → AllDone D [11, 8] from hcl 12 (by decide)) 0 11 rfl q11_
              have q13_ : D 13 = false := not_yet (show D 13 = true → AllDone D [8, 12] from hcl 13 (by decide)) 1 12 rfl q12_
              have q14_ : D 14 = false := not_yet (show D 14 = true → AllDone D [2, 3, 13, 8] from hcl 14 (by decide)) 2 13 rfl q13_
              have u0_ : upd D 9 0 = D 0 := rfl; have u1_ : upd D 9 1 = D 1 := rfl; have u2_ : upd D 9 2 = D 2 := rfl; have u3_ : upd D 9 3 = D 3 := rfl; have u4_ : upd D 9 4 = D 4 := rfl; have u5_ : upd D 9 5 = D 5 := rfl; have u6_ : upd D 9 6 = D 6 := rfl; have u7_ : upd D 9 7 = D 7 := rfl; have u8_ : upd D 9 8 = D 8 := rfl; have u9_ : upd D 9 9 = true := rfl; have u10_ : upd D 9 10 = D 10 := rfl; have u11_ : upd D 9 11 = D 11 := rfl; have u12_ : upd D 9 12 = D 12 := rfl; have u13_ : upd D 9 13 = D 13 := rfl; have u14_ : upd D 9 14 = D 14 := rfl
              simp only [hD, p4_, p5_, p6_, p7_, p8_, q11_, q12_, q13_, q14_, cnd_t, cnd_f, Asc_t, Asc_f] at ht hs
              subst ht
              refine g_op (v := v5) rfl rfl rfl ?_
              show G _ _ _ _ [_, _, _, _, _, _, _, _, _, _, _, _, _, _, _, _, _, _, _, _, _, _, _, _, _, _, _, _, _, _, _, _, _, _, _, _, _, _, _, _, _, _, _, _, _, _, _, _, _, _, _, _, _, _, _, _, _, _, _, _, _, _, _, _, _, _, _, _, _, _, _, _, _, _, _] _
              exact hk _ _ ⟨O, (by simp only [u0_, u1_, u2_, u3_, u4_, u5_, u6_, u7_, u8_, u9_, u10_, u11_, u12_, u13_, u14_, p4_, p5_, p6_, p7_, p8_, q11_, q12_, q13_, q14_, cnd_t, cnd_f, Asc_t, Asc_f]), hs.cast (by first | rfl | simp only [List.take, List.drop, List.cons_append, List.nil_append, List.set_cons_zero, List.set_cons_succ, List.eraseIdx, u0_, u1_, u2_, u3_, u4_, u5_, u6_, u7_, u8_, u9_, u10_, u11_, u12_, u13_, u14_, p4_, p5_, p6_, p7_, p8_, q11_, q12_, q13_, q14_, cnd_t, cnd_f, Asc_t, Asc_f])⟩
             ·
              intro D t w hD hp hcl hI rest hk
              obtain ⟨O, ht, hs⟩ := hI
              have hp : AllDone D [8] := hp
              obtain ⟨p8_, _⟩ := hp
              obtain ⟨p7_, _⟩ := (show D 8 = true → AllDone D [7] from hcl 8 (by decide)) p8_
              obtain ⟨p4_, p6_, _⟩ := (show D 7 = true → AllDone D [4, 6] from hcl 7 (by decide)) p7_
              obtain ⟨p5_, _⟩ := (show D 6 = true → AllDone D [5] from hcl 6 (by decide)) p6_
              have q11_ : D 11 = false := not_yet (show D 11 = true → AllDone D [9, 10, 8] from hcl 11 (by decide)) 1 10 rfl hD
              have q12_ : D 12 = false := not_yet (show D 12 = true → AllDone D [11, 8] from hcl 12 (by decide)) 0 11 rfl q11_
              have q13_ : D 13 = false := not_yet (show D 13 = true → AllDone D [8, 12] from hcl 13 (by decide)) 1 12 rfl q12_
              have q14_ : D 14 = false := not_yet (show D 14 = true → AllDone D [2, 3, 13, 8] from hcl 14 (by decide)) 2 13 rfl q13_
              have u0_ : upd D 10 0 = D 0 := rfl; have u1_ : upd D 10 1 = D 1 := rfl; have u2_ : upd D 10 2 = D 2 := rfl; have u3_ : upd D 10 3 = D 3 := rfl; have u4_ : upd D 10 4 = D 4 := rfl; have u5_ : upd D 10 5 = D 5 := rfl; have u6_ : upd D 10 6 = D 6 := rfl; have u7_ : upd D 10 7 = D 7 := rfl; have u8_ : upd D 10 8 = D 8 := rfl; have u9_ : upd D 10 9 = D 9 := rfl; have u10_ : upd D 10 10 = true := rfl; have u11_ : upd D 10 11 = D 11 := rfl; have u12_ : upd D 10 12 = D 12 := rfl; have u13_ : upd D 10 13 = D 13 := rfl; have u14_ : upd D 10 14 = D 14 := rfl
              simp only [hD, p4_, p5_, p6_, p7_, p8_, q11_, q12_, q13_, q14_, cnd_t, cnd_f, Asc_t, Asc_f] at ht hs
              subst ht
              refine g_op (v := Value.int .i64 x35) rfl rfl rfl ?_
              show G _ _ _ _ [_, _, _, _, _, _, _, _, _, _, _, _, _, _, _, _, _, _, _, _, _, _, _, _, _, _, _, _, _, _, _, _, _, _, _, _, _, _, _, _, _, _, _, _, _, _, _, _, _, _, _, _, _, _, _, _, _, _, _, _, _, _, _, _, _, _, _, _, _, _, _, _, _, _, _] _
              exact hk _ _ ⟨O, (by simp only [u0_, u1_, u2_, u3_, u4_, u5_, u6_, u7_, u8_, u9_, u10_, u11_, u12_, u13_, u14_, p4_, p5_, p6_, p7_, p8_, q11_, q12_, q13_, q14_, cnd_t, cnd_f, Asc_t, Asc_f]), hs.cast (by first | rfl | simp only [List.take, List.drop, List.cons_append, List.nil_append, List.set_cons_zero, List.set_cons_succ, List.eraseIdx, u0_, u1_, u2_, u3_, u4_, u5_, u6_, u7_, u8_, u9_, u10_, u11_, u12_, u13_, u14_, p4_, p5_, p6_, p7_, p8_, q11_, q12_, q13_, q14_, cnd_t, cnd_f, Asc_t, Asc_f])⟩
             ·
              intro D t w hD hp hcl hI rest hk
              obtain ⟨O, ht, hs⟩ := hI
              have hp : AllDone D [9, 10, 8] := hp
              obtain ⟨p9_, p10_, p8_, _⟩ := hp
              obtain ⟨p7_, _⟩ := (show D 8 = true → AllDone D [7] from hcl 8 (by decide)) p8_
              obtain ⟨p4_, p6_, _⟩ := (show D 7 = true → AllDone D [4, 6] from hcl 7 (by decide)) p7_
              obtain ⟨p5_, _⟩ := (show D 6 = true → AllDone D [5] from hcl 6 (by decide)) p6_
              have q12_ : D 12 = false := not_yet (show D 12 = true → AllDone D [11, 8] from hcl 12 (by decide)) 0 11 rfl hD
              have q13_ : D 13 = false := not_yet (show D 13 = true → AllDone D [8, 12] from hcl 13 (by decide)) 1 12 rfl q12_
              have q14_ : D 14 = false := not_yet (show D 14 = true → AllDone D [2, 3, 13, 8] from hcl 14 (by decide)) 2 13 rfl q13_
              have u0_ : upd D 11 0 = D 0 := rfl; have u1_ : upd D 11 1 = D 1 := rfl; have u2_ : upd D 11 2 = D 2 := rfl; have u3_ : upd D 11 3 = D 3 := rfl; have u4_ : upd D 11 4 = D 4 := rfl; have u5_ : upd D 11 5 = D 5 := rfl; have u6_ : upd D 11 6 = D 6 := rfl; have u7_ : upd D 11 7 = D 7 := rfl; have u8_ : upd D 11 8 = D 8 := rfl; have u9_ : upd D 11 9 = D 9 := rfl; have u10_ : upd D 11 10 = D 10 := rfl; have u11_ : upd D 11 11 = true := rfl; have u12_ : upd D 11 12 = D 12 := rfl; have u13_ : upd D 11 13 = D 13 := rfl; have u14_ : upd D 11 14 = D 14 := rfl
              simp only [hD, p4_, p5_, p6_, p7_, p8_, p9_, p10_, q12_, q13_, q14_, cnd_t, cnd_f, Asc_t, Asc_f] at ht hs
              subst ht
              refine s_idxD (κ := K.bool) (m := 1) rfl (hs.rd hr3) rfl (fun _ => rfl) gd16.1 gd16.2 had17_ rfl rfl rfl rfl rfl ?_
              show G _ _ _ _ [_, _, _, _, _, _, _, _, _, _, _, _, _, _, _, _, _, _, _, _, _, _, _, _, _, _, _, _, _, _, _, _, _, _, _, _, _, _, _, _, _, _, _, _, _, _, _, _, _, _, _, _, _, _, _, _, _, _, _, _, _, _, _, _, _, _, _, _, _, _, _, _, _, _, _] _
              exact hk _ _ ⟨O, (by simp only [u0_, u1_, u2_, u3_, u4_, u5_, u6_, u7_, u8_, u9_, u10_, u11_, u12_, u13_, u14_, p4_, p5_, p6_, p7_, p8_, p9_, p10_, q12_, q13_, q14_, cnd_t, cnd_f, Asc_t, Asc_f]), hs.cast (by first | rfl | simp only [List.take, List.drop, List.cons_append, List.nil_append, List.set_cons_zero, List.set_cons_succ, List.eraseIdx, u0_, u1_, u2_, u3_, u4_, u5_, u6_, u7_, u8_, u9_, u10_, u11_, u12_, u13_, u14_, p4_, p5_, p6_, p7_, p8_, p9_, p10_, q12_, q13_, q14_, cnd_t, cnd_f, Asc_t, Asc_f])⟩
             ·
              intro D t w hD hp hcl hI rest hk
              obtain ⟨O, ht, hs⟩ := hI
              have hp : AllDone D [11, 8] := hp
              obtain ⟨p11_, p8_, _⟩ := hp
              obtain ⟨p9_, p10_, _, _⟩ := (show D 11 = true → AllDone D [9, 10, 8] from hcl 11 (by decide)) p11_
              obtain ⟨p7_, _⟩ := (show D 8 = true → AllDone D [7] from hcl 8 (by decide)) p8_
              obtain ⟨p4_, p6_, _⟩ := (show D 7 = true → AllDone D [4, 6] from hcl 7 (by decide)) p7_
              obtain ⟨p5_, _⟩ := (show D 6 = true → AllDone D [5] from hcl 6 (by decide)) p6_
              have q13_ : D 13 = false := not_yet (show D 13 = true → AllDone D [8, 12] from hcl 13 (by decide)) 1 12 rfl hD
              have q14_ : D 14 = false := not_yet (show D 14 = true → AllDone D [2, 3, 13, 8] from hcl 14 (by decide)) 2 13 rfl q13_
              have u0_ : upd D 12 0 = D 0 := rfl; have u1_ : upd D 12 1 = D 1 := rfl; have u2_ : upd D 12 2 = D 2 := rfl; have u3_ : upd D 12 3 = D 3 := rfl; have u4_ : upd D 12 4 = D 4 := rfl; have u5_ : upd D 12 5 = D 5 := rfl; have u6_ : upd D 12 6 = D 6 := rfl; have u7_ : upd D 12 7 = D 7 := rfl; have u8_ : upd D 12 8 = D 8 := rfl; have u9_ : upd D 12 9 = D 9 := rfl; have u10_ : upd D 12 10 = D 10 := rfl; have u11_ : upd D 12 11 = D 11 := rfl; have u12_ : upd D 12 12 = true := rfl; have u13_ : upd D 12 13 = D 13 := rfl; have u14_ : upd D 12 14 = D 14 := rfl
              simp only [hD, p4_, p5_, p6_, p7_, p8_, p9_, p10_, p11_, q13_, q14_, cnd_t, cnd_f, Asc_t, Asc_f] at ht hs
              subst ht
              refine s_load1 rfl rfl (v := Value.bool (rdL a4 x35 false)) rfl rfl (fun _ => rfl) (cellsAt_of fkB false (hs.rd hr3) had17_ gd16.1 gd16.2) ?_
              show G _ _ _ _ [_, _, _, _, _, _, _, _, _, _, _, _, _, _, _, _, _, _, _, _, _, _, _, _, _, _, _, _, _, _, _, _, _, _, _, _, _, _, _, _, _, _, _, _, _, _, _, _, _, _, _, _, _, _, _, _, _, _, _, _, _, _, _, _, _, _, _, _, _, _, _, _, _, _, _] _
              exact hk _ _ ⟨O, (by simp only [u0_, u1_, u2_, u3_, u4_, u5_, u6_, u7_, u8_, u9_, u10_, u11_, u12_, u13_, u14_, p4_, p5_, p6_, p7_, p8_, p9_, p10_, p11_, q13_, q14_, cnd_t, cnd_f, Asc_t, Asc_f]), hs.cast (by first | rfl | simp only [List.take, List.drop, List.cons_append, List.nil_append, List.set_cons_zero, List.set_cons_succ, List.eraseIdx, u0_, u1_, u2_, u3_, u4_, u5_, u6_, u7_, u8_, u9_, u10_, u11_, u12_, u13_, u14_, p4_, p5_, p6_, p7_, p8_, p9_, p10_, p11_, q13_, q14_, cnd_t, cnd_f, Asc_t, Asc_f])⟩
             ·
              intro D t w hD hp hcl hI rest hk
              obtain ⟨O, ht, hs⟩ := hI
              have hp : AllDone D [8, 12] := hp
              obtain ⟨p8_, p12_, _⟩ := hp
              obtain ⟨p11_, _, _⟩ := (show D 12 = true → AllDone D [11, 8] from hcl 12 (by decide)) p12_
              obtain ⟨p9_, p10_, _, _⟩ := (show D 11 = true → AllDone D [9, 10, 8] from hcl 11 (by decide)) p11_
              obtain ⟨p7_, _⟩ := (show D 8 = true → AllDone D [7] from hcl 8 (by decide)) p8_
              obtain ⟨p4_, p6_, _⟩ := (show D 7 = true → AllDone D [4, 6] from hcl 7 (by decide)) p7_
              obtain ⟨p5_, _⟩ := (show D 6 = true → AllDone D [5] from hcl 6 (by decide)) p6_
              have q14_ : D 14 = false := not_yet (show D 14 = true → AllDone D [2, 3, 13, 8] from hcl 14 (by decide)) 2 13 rfl hD
              have u0_ : upd D 13 0 = D 0 := rfl; have u1_ : upd D 13 1 = D 1 := rfl; have u2_ : upd D 13 2 = D 2 := rfl; have u3_ : upd D 13 3 = D 3 := rfl; have u4_ : upd D 13 4 = D 4 := rfl; have u5_ : upd D 13 5 = D 5 := rfl; have u6_ : upd D 13 6 = D 6 := rfl; have u7_ : upd D 13 7 = D 7 := rfl; have u8_ : upd D 13 8 = D 8 := rfl; have u9_ : upd D 13 9 = D 9 := rfl; have u10_ : upd D 13 10 = D 10 := rfl; have u11_ : upd D 13 11 = D 11 := rfl; have u12_ : upd D 13 12 = D 12 := rfl; have u13_ : upd D 13 13 = true := rfl; have u14_ : upd D 13 14 = D 14 := rfl
              simp only [hD, p4_, p5_, p6_, p7_, p8_, p9_, p10_, p11_, p12_, q14_, cnd_t, cnd_f, Asc_t, Asc_f] at ht hs
              subst ht
              refine g_op (v := Value.bool (rdL a4 x35 false)) rfl rfl rfl ?_
              show G _ _ _ _ [_, _, _, _, _, _, _, _, _, _, _, _, _, _, _, _, _, _, _, _, _, _, _, _, _, _, _, _, _, _, _, _, _, _, _, _, _, _, _, _, _, _, _, _, _, _, _, _, _, _, _, _, _, _, _, _, _, _, _, _, _, _, _, _, _, _, _, _, _, _, _, _, _, _, _] _
              exact hk _ _ ⟨O, (by simp only [u0_, u1_, u2_, u3_, u4_, u5_, u6_, u7_, u8_, u9_, u10_, u11_, u12_, u13_, u14_, p4_, p5_, p6_, p7_, p8_, p9_, p10_, p11_, p12_, q14_, cnd_t, cnd_f, Asc_t, Asc_f]), hs.cast (by first | rfl | simp only [List.take, List.drop, List.cons_append, List.nil_append, List.set_cons_zero, List.set_cons_succ, List.eraseIdx, u0_, u1_, u2_, u3_, u4_, u5_, u6_, u7_, u8_, u9_, u10_, u11_, u12_, u13_, u14_, p4_, p5_, p6_, p7_, p8_, p9_, p10_, p11_, p12_, q14_, cnd_t, cnd_f, Asc_t, Asc_f])⟩
             ·
              intro D t w hD hp hcl hI rest hk
              obtain ⟨O, ht, hs⟩ := hI
              have hp : AllDone D [2, 3, 13, 8] := hp
              obtain ⟨p2_, p3_, p13_, p8_, _⟩ := hp
              obtain ⟨_, p12_, _⟩ := (show D 13 = true → AllDone D [8, 12] from hcl 13 (by decide)) p13_
              obtain ⟨p11_, _, _⟩ := (show D 12 = true → AllDone D [11, 8] from hcl 12 (by decide)) p12_
              obtain ⟨p9_, p10_, _, _⟩ := (show D 11 = true → AllDone D [9, 10, 8] from hcl 11 (by decide)) p11_
              obtain ⟨p7_, _⟩ := (show D 8 = true → AllDone D [7] from hcl 8 (by decide)) p8_
              obtain ⟨p4_, p6_, _⟩ := (show D 7 = true → AllDone D [4, 6] from hcl 7 (by decide)) p7_
              obtain ⟨p5_, _⟩ := (show D 6 = true → AllDone D [5] from hcl 6 (by decide)) p6_
              have u0_ : upd D 14 0 = D 0 := rfl; have u1_ : upd D 14 1 = D 1 := rfl; have u2_ : upd D 14 2 = D 2 := rfl; have u3_ : upd D 14 3 = D 3 := rfl; have u4_ : upd D 14 4 = D 4 := rfl; have u5_ : upd D 14 5 = D 5 := rfl; have u6_ : upd D 14 6 = D 6 := rfl; have u7_ : upd D 14 7 = D 7 := rfl; have u8_ : upd D 14 8 = D 8 := rfl; have u9_ : upd D 14 9 = D 9 := rfl; have u10_ : upd D 14 10 = D 10 := rfl; have u11_ : upd D 14 11 = D 11 := rfl; have u12_ : upd D 14 12 = D 12 := rfl; have u13_ : upd D 14 13 = D 13 := rfl; have u14_ : upd D 14 14 = true := rfl
              simp only [hD, p2_, p3_, p4_, p5_, p6_, p7_, p8_, p9_, p10_, p11_, p12_, p13_, cnd_t, cnd_f, Asc_t, Asc_f] at ht hs
              subst ht
              refine s_call (args := [Value.int .u64 r39.1, Value.int .i64 a3, Value.bool (rdL a4 x35 false)]) rfl rfl (x_call rfl (callFunc_enter Try.func43 rfl rfl) rfl) (impl_AnswerTo.calls (a1 := r39.1) (a2 := a3) (a3 := rdL a4 x35 false) Hr40) ?_
              rintro _ w ⟨rfl, hs2⟩
              have hs : St _ [_, _, _, _] _ := hs.call hs2
              show G _ _ _ _ [_, _, _, _, _, _, _, _, _, _, _, _, _, _, _, _, _, _, _, _, _, _, _, _, _, _, _, _, _, _, _, _, _, _, _, _, _, _, _, _, _, _, _, _, _, _, _, _, _, _, _, _, _, _, _, _, _, _, _, _, _, _, _, _, _, _, _, _, _, _, _, _, _, _, _] _
              exact hk _ _ ⟨O, (by simp only [u0_, u1_, u2_, u3_, u4_, u5_, u6_, u7_, u8_, u9_, u10_, u11_, u12_, u13_, u14_, p2_, p3_, p4_, p5_, p6_, p7_, p8_, p9_, p10_, p11_, p12_, p13_, cnd_t, cnd_f, Asc_t, Asc_f]), hs.cast (by first | rfl | simp only [List.take, List.drop, List.cons_append, List.nil_append, List.set_cons_zero, List.set_cons_succ, List.eraseIdx, u0_, u1_, u2_, u3_, u4_, u5_, u6_, u7_, u8_, u9_, u10_, u11_, u12_, u13_, u14_, p2_, p3_, p4_, p5_, p6_, p7_, p8_, p9_, p10_, p11_, p12_, p13_, cnd_t, cnd_f, Asc_t, Asc_f])⟩
             ·
              intro D t w rest hall hO15_ hI
              obtain ⟨O, ht, hs⟩ := hI
              have p0_ : D 0 = true := hall 0 (by decide) rfl
              have p1_ : D 1 = true := hall 1 (by decide) rfl
              have p2_ : D 2 = true := hall 2 (by decide) rfl
              have p3_ : D 3 = true := hall 3 (by decide) rfl
              have p4_ : D 4 = true := hall 4 (by decide) rfl
              have p5_ : D 5 = true := hall 5 (by decide) rfl
              have p6_ : D 6 = true := hall 6 (by decide) rfl
              have p7_ : D 7 = true := hall 7 (by decide) rfl
              have p8_ : D 8 = true := hall 8 (by decide) rfl
              have p9_ : D 9 = true := hall 9 (by decide) rfl
              have p10_ : D 10 = true := hall 10 (by decide) rfl
              have p11_ : D 11 = true := hall 11 (by decide) rfl
              have p12_ : D 12 = true := hall 12 (by decide) rfl
              have p13_ : D 13 = true := hall 13 (by decide) rfl
              have p14_ : D 14 = true := hall 14 (by decide) rfl
              simp only [p0_, p1_, p2_, p3_, p4_, p5_, p6_, p7_, p8_, p9_, p10_, p11_, p12_, p13_, p14_, cnd_t, cnd_f, Asc_t, Asc_f] at ht hs
              subst ht
              obtain ⟨rest, rfl, hO18_⟩ := ord_one (m := 32767) hO15_ rfl 15 (m' := 65535) (by decide +kernel) rfl
              clear hO15_
              obtain ⟨r41, Hr41, H⟩ := bind_get H
              refine s_call (args := [Value.agg (([Value.int .i8 x30, Value.int .i8 x31, v33] : List Value)).toArray, Value.int .u64 r39.1, Value.bool r40]) rfl rfl (x_call rfl (callFunc_enter Try.func42 rfl rfl) rfl) (_impl_Game_with.calls (a1 := (⟨x30, x31, x34⟩ : S_impl_Game)) (a4 := r39.1) (a5 := r40) (hs.row 2 rfl) Hr41) ?_
              rintro _ w ⟨v42, rfl, hs2⟩
              have hs : St _ [_, _, _, _, _] _ := hs.call hs2
              show G _ _ _ _ [_, _, _, _, _, _, _, _, _, _, _, _, _, _, _, _, _, _, _, _, _, _, _, _, _, _, _, _, _, _, _, _, _, _, _, _, _, _, _, _, _, _, _, _, _, _, _, _, _, _, _, _, _, _, _, _, _, _, _, _, _, _, _, _, _, _, _, _, _, _, _, _, _, _, _] _
              obtain ⟨rest, rfl, hO19_⟩ := ord_one (m := 65535) hO18_ rfl 16 (m' := 131071) (by decide +kernel) rfl
              clear hO18_
              have hs := hs.pull 4 rfl
              have hs : St _ [_, _, _, _, _] _ := hs
              refine s_storeAll (n := 3) hs rfl rfl rfl (vs := (([Value.int .i8 r41.f_Numbers, Value.int .i8 r41.f_Lies, v42] : List Value))) rfl rfl rfl (fun _ => rfl) rfl (by intro v hv; simp only [List.mem_append, List.mem_cons, List.not_mem_nil, or_false] at hv; repeat (first | (subst hv; first | rfl | exact slOne (hs.row 1 rfl)) | (rcases hv with hv | hv))) ?_
              intro w hs
              obtain rfl := ord_end hO19_ rfl (by decide +kernel)
              refine g_ops_nil ?_
              refine g_inBlock ?_
              have hs := hs.pull 1 rfl
              have hs := hs.pull 1 rfl
              have hs := hs.pull 3 rfl
              have hs : St _ [_, _, _] _ := St.take (Γ' := [_, _]) hs
              exact ha _ _ ⟨r41.f_Numbers, r41.f_Lies, v42, r41.f_Asked, H, rfl, hs⟩
            ·
             rw [if_neg hb14_] at H
             refine g_lay (n := 17) rfl [0, 1, 2, 3, 4, 5, 6, 7, 8, 9, 10, 11, 12, 13, 14, 15, 16] [0, 1, 2, 3, 4, 5, 6, 7, 8, 9, 10, 11, 12, 13, 14, 15, 16] rfl rfl ?_
             intro rest w hh hbw hO
             have hs := hs.samew hh hbw
             show G _ _ _ _ [_, _, _, _, _, _, _, _, _, _, _, _, _, _, _, _, _, _, _, _, _, _, _, _, _, _, _, _, _, _, _, _, _, _, _, _, _, _, _, _, _, _, _, _, _, _, _, _, _, _, _, _, _, _, _, _, _, _, _, _, _, _, _, _, _, _, _, _, _, _, _, _, _, _, _] _
             obtain ⟨r44, Hr44, H⟩ := bind_get H
             refine g_name ?_
             intro T hT
             refine g_layer (m0 := 0) hO rfl 32767 [0, 1, 2, 3, 4, 5, 6, 7, 8, 9, 10, 11, 12, 13, 14] [0, 0, 0, 0, 0, 0, 32, 112, 240, 496, 496, 2032, 4080, 8176, 16380, 32767, 65535] (by decide +kernel) (fun D t w => ∃ O : Nat → Value, t = [O 0, O 1, Value.int .i64 a3, v5, O 4, O 5, O 6, O 7, Value.pointer (some ⟨b6, 0, none⟩), O 9, O 10, Value.pointer (some ⟨b10, 0, none⟩), Value.int .i64 x35, v37, Value.int .u64 r39.1, Value.int .i64 r39.2, O 16, O 17, O 18, O 19, O 20, O 21, O 22, O 23, O 24, O 25, O 26, O 27, O 28, O 29, O 30, O 31, O 32, O 33, O 34, Value.agg (([Value.int .i8 x30, Value.int .i8 x31, v33] : List Value)).toArray, v37, Value.bool false, v37, Value.int .i64 (r36.length : Int), Value.bool false, O 41, Value.bool false, v37, Value.int .i64 (r36.length : Int), Value.bool false, O 46, O 47, O 48, O 49, Value.bool false, Value.int .i64 x35, Value.bool false, O 53, Value.tuple #[Value.int .u64 r39.1, Value.int .i64 r39.2], Value.agg (([Value.int .i8 x30, Value.int .i8 x31, v33] : List Value)).toArray, Value.tuple #[Value.int .u64 r39.1, Value.int .i64 r39.2], Value.int .u64 r39.1, Value.int .i64 r39.2, cnd (D 0) (Value.agg (([Value.int .i8 x30, Value.int .i8 x31, v33] : List Value)).toArray) (O 59), cnd (D 1) (Value.int .u64 r39.1) (O 60), cnd (D 2) (Value.int .u64 r39.1) (O 61), cnd (D 3) (Value.int .i64 a3) (O 62), cnd (D 4) (Value.int .i64 x35) (O 63), cnd (D 5) v5 (O 64), cnd (D 6) (Value.int .i64 (a4.length : Int)) (O 65), cnd (D 7) (Value.bool false) (O 66), cnd (D 8) (Value.bool false) (O 67), cnd (D 9) undef (O 68), cnd (D 10) undef (O 69), cnd (D 11) undef (O 70), cnd (D 12) undef (O 71), cnd (D 13) (Value.bool false) (O 72), cnd (D 14) (Value.bool r44) (O 73), O 74] ∧ St w0 [Row 2 (K.int .i64) v37 r36, Cells b6 (([Value.int .i8 0, Value.int .i8 0, Value.slice none 0 0] : List Value)) 31, Row 64 k_S_impl_Ask v33 x34, Cells b10 (([Value.int .i8 x30, Value.int .i8 x31, v33] : List Value)) 31] w) ?_ ⟨?_, ⟨?_, ⟨?_, ⟨?_, ⟨?_, ⟨?_, ⟨?_, ⟨?_, ⟨?_, ⟨?_, ⟨?_, ⟨?_, ⟨?_, ⟨?_, ⟨?_, trivial⟩⟩⟩⟩⟩⟩⟩⟩⟩⟩⟩⟩⟩⟩⟩ ?_
             · exact ⟨fun i => T.getD i undef, (by subst hT; rfl), hs⟩
             ·
              intro D t w hD hp hcl hI rest hk
              obtain ⟨O, ht, hs⟩ := hI
              have hp : AllDone D [] := hp
              have u0_ : upd D 0 0 = true := rfl; have u1_ : upd D 0 1 = D 1 := rfl; have u2_ : upd D 0 2 = D 2 := rfl; have u3_ : upd D 0 3 = D 3 := rfl; have u4_ : upd D 0 4 = D 4 := rfl; have u5_ : upd D 0 5 = D 5 := rfl; have u6_ : upd D 0 6 = D 6 := rfl; have u7_ : upd D 0 7 = D 7 := rfl; have u8_ : upd D 0 8 = D 8 := rfl; have u9_ : upd D 0 9 = D 9 := rfl; have u10_ : upd D 0 10 = D 10 := rfl; have u11_ : upd D 0 11 = D 11 := rfl; have u12_ : upd D 0 12 = D 12 := rfl; have u13_ : upd D 0 13 = D 13 := rfl; have u14_ : upd D 0 14 = D 14 := rfl
              simp only [hD, cnd_t, cnd_f, Asc_t, Asc_f] at ht hs
              subst ht
              refine s_loadA rfl rfl (es := (([Value.int .i8 x30, Value.int .i8 x31, v33] : List Value))) rfl rfl (fun _ => rfl) (n := 3) (fun _ => rfl) rfl (cells_all (hs.cells 3 rfl)) ?_
              show G _ _ _ _ [_, _, _, _, _, _, _, _, _, _, _, _, _, _, _, _, _, _, _, _, _, _, _, _, _, _, _, _, _, _, _, _, _, _, _, _, _, _, _, _, _, _, _, _, _, _, _, _, _, _, _, _, _, _, _, _, _, _, _, _, _, _, _, _, _, _, _, _, _, _, _, _, _, _, _] _
              exact hk _ _ ⟨O, (by simp only [u0_, u1_, u2_, u3_, u4_, u5_, u6_, u7_, u8_, u9_, u10_, u11_, u12_, u13_, u14_, cnd_t, cnd_f, Asc_t, Asc_f]), hs.cast (by first | rfl | simp only [List.take, List.drop, List.cons_append, List.nil_append, List.set_cons_zero, List.set_cons_succ, List.eraseIdx, u0_, u1_, u2_, u3_, u4_, u5_, u6_, u7_, u8_, u9_, u10_, u11_, u12_, u13_, u14_, cnd_t, cnd_f, Asc_t, Asc_f])⟩
             ·
              intro D t w hD hp hcl hI rest hk
              obtain ⟨O, ht, hs⟩ := hI
              have hp : AllDone D [] := hp
              have u0_ : upd D 1 0 = D 0 := rfl; have u1_ : upd D 1 1 = true := rfl; have u2_ : upd D 1 2 = D 2 := rfl; have u3_ : upd D 1 3 = D 3 := rfl; have u4_ : upd D 1 4 = D 4 := rfl; have u5_ : upd D 1 5 = D 5 := rfl; have u6_ : upd D 1 6 = D 6 := rfl; have u7_ : upd D 1 7 = D 7 := rfl; have u8_ : upd D 1 8 = D 8 := rfl; have u9_ : upd D 1 9 = D 9 := rfl; have u10_ : upd D 1 10 = D 10 := rfl; have u11_ : upd D 1 11 = D 11 := rfl; have u12_ : upd D 1 12 = D 12 := rfl; have u13_ : upd D 1 13 = D 13 := rfl; have u14_ : upd D 1 14 = D 14 := rfl
              simp only [hD, cnd_t, cnd_f, Asc_t, Asc_f] at ht hs
              subst ht
              refine g_op (v := Value.int .u64 r39.1) rfl rfl rfl ?_
              show G _ _ _ _ [_, _, _, _, _, _, _, _, _, _, _, _, _, _, _, _, _, _, _, _, _, _, _, _, _, _, _, _, _, _, _, _, _, _, _, _, _, _, _, _, _, _, _, _, _, _, _, _, _, _, _, _, _, _, _, _, _, _, _, _, _, _, _, _, _, _, _, _, _, _, _, _, _, _, _] _
              exact hk _ _ ⟨O, (by simp only [u0_, u1_, u2_, u3_, u4_, u5_, u6_, u7_, u8_, u9_, u10_, u11_, u12_, u13_, u14_, cnd_t, cnd_f, Asc_t, Asc_f]), hs.cast (by first | rfl | simp only [List.take, List.drop, List.cons_append, List.nil_append, List.set_cons_zero, List.set_cons_succ, List.eraseIdx, u0_, u1_, u2_, u3_, u4_, u5_, u6_, u7_, u8_, u9_, u10_, u11_, u12_, u13_, u14_, cnd_t, cnd_f, Asc_t, Asc_f])⟩
             ·
              intro D t w hD hp hcl hI rest hk
              obtain ⟨O, ht, hs⟩ := hI
              have hp : AllDone D [] := hp
              have q14_ : D 14 = false := not_yet (show D 14 = true → AllDone D [2, 3, 13, 8] from hcl 14 (by decide)) 0 2 rfl hD
              have u0_ : upd D 2 0 = D 0 := rfl; have u1_ : upd D 2 1 = D 1 := rfl; have u2_ : upd D 2 2 = true := rfl; have u3_ : upd D 2 3 = D 3 := rfl; have u4_ : upd D 2 4 = D 4 := rfl; have u5_ : upd D 2 5 = D 5 := rfl; have u6_ : upd D 2 6 = D 6 := rfl; have u7_ : upd D 2 7 = D 7 := rfl; have u8_ : upd D 2 8 = D 8 := rfl; have u9_ : upd D 2 9 = D 9 := rfl; have u10_ : upd D 2 10 = D 10 := rfl; have u11_ : upd D 2 11 = D 11 := rfl; have u12_ : upd D 2 12 = D 12 := rfl; have u13_ : upd D 2 13 = D 13 := rfl; have u14_ : upd D 2 14 = D 14 := rfl
              simp only [hD, q14_, cnd_t, cnd_f, Asc_t, Asc_f] at ht hs
              subst ht
              refine g_op (v := Value.int .u64 r39.1) rfl rfl rfl ?_
              show G _ _ _ _ [_, _, _, _, _, _, _, _, _, _, _, _, _, _, _, _, _, _, _, _, _, _, _, _, _, _, _, _, _, _, _, _, _, _, _, _, _, _, _, _, _, _, _, _, _, _, _, _, _, _, _, _, _, _, _, _, _, _, _, _, _, _, _, _, _, _, _, _, _, _, _, _, _, _, _] _
              exact hk _ _ ⟨O, (by simp only [u0_, u1_, u2_, u3_, u4_, u5_, u6_, u7_, u8_, u9_, u10_, u11_, u12_, u13_, u14_, q14_, cnd_t, cnd_f, Asc_t, Asc_f]), hs.cast (by first | rfl | simp only [List.take, List.drop, List.cons_append, List.nil_append, List.set_cons_zero, List.set_cons_succ, List.eraseIdx, u0_, u1_, u2_, u3_, u4_, u5_, u6_, u7_, u8_, u9_, u10_, u11_, u12_, u13_, u14_, q14_, cnd_t, cnd_f, Asc_t, Asc_f])⟩
             ·
              intro D t w hD hp hcl hI rest hk
              obtain ⟨O, ht, hs⟩ := hI
              have hp : AllDone D [] := hp
              have q14_ : D 14 = false := not_yet (show D 14 = true → AllDone D [2, 3, 13, 8] from hcl 14 (by decide)) 1 3 rfl hD
              have u0_ : upd D 3 0 = D 0 := rfl; have u1_ : upd D 3 1 = D 1 := rfl; have u2_ : upd D 3 2 = D 2 := rfl; have u3_ : upd D 3 3 = true := rfl; have u4_ : upd D 3 4 = D 4 := rfl; have u5_ : upd D 3 5 = D 5 := rfl; have u6_ : upd D 3 6 = D 6 := rfl; have u7_ : upd D 3 7 = D 7 := rfl; have u8_ : upd D 3 8 = D 8 := rfl; have u9_ : upd D 3 9 = D 9 := rfl; have u10_ : upd D 3 10 = D 10 := rfl; have u11_ : upd D 3 11 = D 11 := rfl; have u12_ : upd D 3 12 = D 12 := rfl; have u13_ : upd D 3 13 = D 13 := rfl; have u14_ : upd D 3 14 = D 14 := rfl
              simp only [hD, q14_, cnd_t, cnd_f, Asc_t, Asc_f] at ht hs
              subst ht
              refine g_op (v := Value.int .i64 a3) rfl rfl rfl ?_
              show G _ _ _ _ [_, _, _, _, _, _, _, _, _, _, _, _, _, _, _, _, _, _, _, _, _, _, _, _, _, _, _, _, _, _, _, _, _, _, _, _, _, _, _, _, _, _, _, _, _, _, _, _, _, _, _, _, _, _, _, _, _, _, _, _, _, _, _, _, _, _, _, _, _, _, _, _, _, _, _] _
              exact hk _ _ ⟨O, (by simp only [u0_, u1_, u2_, u3_, u4_, u5_, u6_, u7_, u8_, u9_, u10_, u11_, u12_, u13_, u14_, q14_, cnd_t, cnd_f, Asc_t, Asc_f]), hs.cast (by first | rfl | simp only [List.take, List.drop, List.cons_append, List.nil_append, List.set_cons_zero, List.set_cons_succ, List.eraseIdx, u0_, u1_, u2_, u3_, u4_, u5_, u6_, u7_, u8_, u9_, u10_, u11_, u12_, u13_, u14_, q14_, cnd_t, cnd_f, Asc_t, Asc_f])⟩
             ·
              intro D t w hD hp hcl hI rest hk
              obtain ⟨O, ht, hs⟩ := hI
              have hp : AllDone D [] := hp
              have q7_ : D 7 = false := not_yet (show D 7 = true → AllDone D [4, 6] from hcl 7 (by decide)) 0 4 rfl hD
              have q8_ : D 8 = false := not_yet (show D 8 = true → AllDone D [7] from hcl 8 (by decide)) 0 7 rfl q7_
              have q9_ : D 9 = false := not_yet (show D 9 = true → AllDone D [8] from hcl 9 (by decide)) 0 8 rfl q8_
              have q10_ : D 10 = false := not_yet (show D 10 = true → AllDone D [8] from hcl 10 (by decide)) 0 8 rfl q8_
              have q11_ : D 11 = false := not_yet (show D 11 = true → AllDone D [9, 10, 8] from hcl 11 (by decide)) 0 9 rfl q9_
              have q12_ : D 12 = false := not_yet (show D 12 = true → AllDone D [11, 8] from hcl 12 (by decide)) 0 11 rfl q11_
              have q13_ : D 13 = false := not_yet (show D 13 = true → AllDone D [8, 12] from hcl 13 (by decide)) 0 8 rfl q8_
              have q14_ : D 14 = false := not_yet (show D 14 = true → AllDone D [2, 3, 13, 8] from hcl 14 (by decide)) 2 13 rfl q13_
              have u0_ : upd D 4 0 = D 0 := rfl; have u1_ : upd D 4 1 = D 1 := rfl; have u2_ : upd D 4 2 = D 2 := rfl; have u3_ : upd D 4 3 = D 3 := rfl; have u4_ : upd D 4 4 = true := rfl; have u5_ : upd D 4 5 = D 5 := rfl; have u6_ : upd D 4 6 = D 6 := rfl; have u7_ : upd D 4 7 = D 7 := rfl; have u8_ : upd D 4 8 = D 8 := rfl; have u9_ : upd D 4 9 = D 9 := rfl; have u10_ : upd D 4 10 = D 10 := rfl; have u11_ : upd D 4 11 = D 11 := rfl; have u12_ : upd D 4 12 = D 12 := rfl; have u13_ : upd D 4 13 = D 13 := rfl; have u14_ : upd D 4 14 = D 14 := rfl
              simp only [hD, q7_, q8_, q9_, q10_, q11_, q12_, q13_, q14_, cnd_t, cnd_f, Asc_t, Asc_f] at ht hs
              subst ht
              refine g_op (v := Value.int .i64 x35) rfl rfl rfl ?_
              show G _ _ _ _ [_, _, _, _, _, _, _, _, _, _, _, _, _, _, _, _, _, _, _, _, _, _, _, _, _, _, _, _, _, _, _, _, _, _, _, _, _, _, _, _, _, _, _, _, _, _, _, _, _, _, _, _, _, _, _, _, _, _, _, _, _, _, _, _, _, _, _, _, _, _, _, _, _, _, _] _
              exact hk _ _ ⟨O, (by simp only [u0_, u1_, u2_, u3_, u4_, u5_, u6_, u7_, u8_, u9_, u10_, u11_, u12_, u13_, u14_, q7_, q8_, q9_, q10_, q11_, q12_, q13_, q14_, cnd_t, cnd_f, Asc_t, Asc_f]), hs.cast (by first | rfl | simp only [List.take, List.drop, List.cons_append, List.nil_append, List.set_cons_zero, List.set_cons_succ, List.eraseIdx, u0_, u1_, u2_, u3_, u4_, u5_, u6_, u7_, u8_, u9_, u10_, u11_, u12_, u13_, u14_, q7_, q8_, q9_, q10_, q11_, q12_, q13_, q14_, cnd_t, cnd_f, Asc_t, Asc_f])⟩
             ·
              intro D t w hD hp hcl hI rest hk
              obtain ⟨O, ht, hs⟩ := hI
              have hp : AllDone D [] := hp
              have q6_ : D 6 = false := not_yet (show D 6 = true → AllDone D [5] from hcl 6 (by decide)) 0 5 rfl hD
              have q7_ : D 7 = false := not_yet (show D 7 = true → AllDone D [4, 6] from hcl 7 (by decide)) 1 6 rfl q6_
              have q8_ : D 8 = false := not_yet (show D 8 = true → AllDone D [7] from hcl 8 (by decide)) 0 7 rfl q7_
              have q9_ : D 9 = false := not_yet (show D 9 = true → AllDone D [8] from hcl 9 (by decide)) 0 8 rfl q8_
              have q10_ : D 10 = false := not_yet (show D 10 = true → AllDone D [8] from hcl 10 (by decide)) 0 8 rfl q8_
              have q11_ : D 11 = false := not_yet (show D 11 = true → AllDone D [9, 10, 8] from hcl 11 (by decide)) 0 9 rfl q9_
              have q12_ : D 12 = false := not_yet (show D 12 = true → AllDone D [11, 8] from hcl 12 (by decide)) 0 11 rfl q11_
              have q13_ : D 13 = false := not_yet (show D 13 = true → AllDone D [8, 12] from hcl 13 (by decide)) 0 8 rfl q8_
              have q14_ : D 14 = false := not_yet (show D 14 = true → AllDone D [2, 3, 13, 8] from hcl 14 (by decide)) 2 13 rfl q13_
              have u0_ : upd D 5 0 = D 0 := rfl; have u1_ : upd D 5 1 = D 1 := rfl; have u2_ : upd D 5 2 = D 2 := rfl; have u3_ : upd D 5 3 = D 3 := rfl; have u4_ : upd D 5 4 = D 4 := rfl; have u5_ : upd D 5 5 = true := rfl; have u6_ : upd D 5 6 = D 6 := rfl; have u7_ : upd D 5 7 = D 7 := rfl; have u8_ : upd D 5 8 = D 8 := rfl; have u9_ : upd D 5 9 = D 9 := rfl; have u10_ : upd D 5 10 = D 10 := rfl; have u11_ : upd D 5 11 = D 11 := rfl; have u12_ : upd D 5 12 = D 12 := rfl; have u13_ : upd D 5 13 = D 13 := rfl; have u14_ : upd D 5 14 = D 14 := rfl
              simp only [hD, q6_, q7_, q8_, q9_, q10_, q11_, q12_, q13_, q14_, cnd_t, cnd_f, Asc_t, Asc_f] at ht hs
              subst ht
              refine g_op (v := v5) rfl rfl rfl ?_
              show G _ _ _ _ [_, _, _, _, _, _, _, _, _, _, _, _, _, _, _, _, _, _, _, _, _, _, _, _, _, _, _, _, _, _, _, _, _, _, _, _, _, _, _, _, _, _, _, _, _, _, _, _, _, _, _, _, _, _, _, _, _, _, _, _, _, _, _, _, _, _, _, _, _, _, _, _, _, _, _] _
              exact hk _ _ ⟨O, (by simp only [u0_, u1_, u2_, u3_, u4_, u5_, u6_, u7_, u8_, u9_, u10_, u11_, u12_, u13_, u14_, q6_, q7_, q8_, q9_, q10_, q11_, q12_, q13_, q14_, cnd_t, cnd_f, Asc_t, Asc_f]), hs.cast (by first | rfl | simp only [List.take, List.drop, List.cons_append, List.nil_append, List.set_cons_zero, List.set_cons_succ, List.eraseIdx, u0_, u1_, u2_, u3_, u4_, u5_, u6_, u7_, u8_, u9_, u10_, u11_, u12_, u13_, u14_, q6_, q7_, q8_, q9_, q10_, q11_, q12_, q13_, q14_, cnd_t, cnd_f, Asc_t, Asc_f])⟩
             ·
              intro D t w hD hp hcl hI rest hk
              obtain ⟨O, ht, hs⟩ := hI
              have hp : AllDone D [5] := hp
              obtain ⟨p5_, _⟩ := hp
              have q7_ : D 7 = false := not_yet (show D 7 = true → AllDone D [4, 6] from hcl 7 (by decide)) 1 6 rfl hD
              have q8_ : D 8 = false := not_yet (show D 8 = true → AllDone D [7] from hcl 8 (by decide)) 0 7 rfl q7_
              have q9_ : D 9 = false := not_yet (show D 9 = true → AllDone D [8] from hcl 9 (by decide)) 0 8 rfl q8_
              have q10_ : D 10 = false := not_yet (show D 10 = true → AllDone D [8] from hcl 10 (by decide)) 0 8 rfl q8_
              have q11_ : D 11 = false := not_yet (show D 11 = true → AllDone D [9, 10, 8] from hcl 11 (by decide)) 0 9 rfl q9_
              have q12_ : D 12 = false := not_yet (show D 12 = true → AllDone D [11, 8] from hcl 12 (by decide)) 0 11 rfl q11_
              have q13_ : D 13 = false := not_yet (show D 13 = true → AllDone D [8, 12] from hcl 13 (by decide)) 0 8 rfl q8_
              have q14_ : D 14 = false := not_yet (show D 14 = true → AllDone D [2, 3, 13, 8] from hcl 14 (by decide)) 2 13 rfl q13_
              have u0_ : upd D 6 0 = D 0 := rfl; have u1_ : upd D 6 1 = D 1 := rfl; have u2_ : upd D 6 2 = D 2 := rfl; have u3_ : upd D 6 3 = D 3 := rfl; have u4_ : upd D 6 4 = D 4 := rfl; have u5_ : upd D 6 5 = D 5 := rfl; have u6_ : upd D 6 6 = true := rfl; have u7_ : upd D 6 7 = D 7 := rfl; have u8_ : upd D 6 8 = D 8 := rfl; have u9_ : upd D 6 9 = D 9 := rfl; have u10_ : upd D 6 10 = D 10 := rfl; have u11_ : upd D 6 11 = D 11 := rfl; have u12_ : upd D 6 12 = D 12 := rfl; have u13_ : upd D 6 13 = D 13 := rfl; have u14_ : upd D 6 14 = D 14 := rfl
              simp only [hD, p5_, q7_, q8_, q9_, q10_, q11_, q12_, q13_, q14_, cnd_t, cnd_f, Asc_t, Asc_f] at ht hs
              subst ht
              refine s_len (hs.rd hr3) rfl rfl rfl rfl rfl ?_
              show G _ _ _ _ [_, _, _, _, _, _, _, _, _, _, _, _, _, _, _, _, _, _, _, _, _, _, _, _, _, _, _, _, _, _, _, _, _, _, _, _, _, _, _, _, _, _, _, _, _, _, _, _, _, _, _, _, _, _, _, _, _, _, _, _, _, _, _, _, _, _, _, _, _, _, _, _, _, _, _] _
              exact hk _ _ ⟨O, (by simp only [u0_, u1_, u2_, u3_, u4_, u5_, u6_, u7_, u8_, u9_, u10_, u11_, u12_, u13_, u14_, p5_, q7_, q8_, q9_, q10_, q11_, q12_, q13_, q14_, cnd_t, cnd_f, Asc_t, Asc_f]), hs.cast (by first | rfl | simp only [List.take, List.drop, List.cons_append, List.nil_append, List.set_cons_zero, List.set_cons_succ, List.eraseIdx, u0_, u1_, u2_, u3_, u4_, u5_, u6_, u7_, u8_, u9_, u10_, u11_, u12_, u13_, u14_, p5_, q7_, q8_, q9_, q10_, q11_, q12_, q13_, q14_, cnd_t, cnd_f, Asc_t, Asc_f])⟩
             ·
              intro D t w hD hp hcl hI rest hk
              obtain ⟨O, ht, hs⟩ := hI
              have hp : AllDone D [4, 6] := hp
              obtain ⟨p4_, p6_, _⟩ := hp
              obtain ⟨p5_, _⟩ := (show D 6 = true → AllDone D [5] from hcl 6 (by decide)) p6_
              have q8_ : D 8 = false := not_yet (show D 8 = true → AllDone D [7] from hcl 8 (by decide)) 0 7 rfl hD
              have q9_ : D 9 = false := not_yet (show D 9 = true → AllDone D [8] from hcl 9 (by decide)) 0 8 rfl q8_
              have q10_ : D 10 = false := not_yet (show D 10 = true → AllDone D [8] from hcl 10 (by decide)) 0 8 rfl q8_
              have q11_ : D 11 = false := not_yet (show D 11 = true → AllDone D [9, 10, 8] from hcl 11 (by decide)) 0 9 rfl q9_
              have q12_ : D 12 = false := not_yet (show D 12 = true → AllDone D [11, 8] from hcl 12 (by decide)) 0 11 rfl q11_
              have q13_ : D 13 = false := not_yet (show D 13 = true → AllDone D [8, 12] from hcl 13 (by decide)) 0 8 rfl q8_
              have q14_ : D 14 = false := not_yet (show D 14 = true → AllDone D [2, 3, 13, 8] from hcl 14 (by decide)) 2 13 rfl q13_
              have u0_ : upd D 7 0 = D 0 := rfl; have u1_ : upd D 7 1 = D 1 := rfl; have u2_ : upd D 7 2 = D 2 := rfl; have u3_ : upd D 7 3 = D 3 := rfl; have u4_ : upd D 7 4 = D 4 := rfl; have u5_ : upd D 7 5 = D 5 := rfl; have u6_ : upd D 7 6 = D 6 := rfl; have u7_ : upd D 7 7 = true := rfl; have u8_ : upd D 7 8 = D 8 := rfl; have u9_ : upd D 7 9 = D 9 := rfl; have u10_ : upd D 7 10 = D 10 := rfl; have u11_ : upd D 7 11 = D 11 := rfl; have u12_ : upd D 7 12 = D 12 := rfl; have u13_ : upd D 7 13 = D 13 := rfl; have u14_ : upd D 7 14 = D 14 := rfl
              simp only [hD, p4_, p5_, p6_, q8_, q9_, q10_, q11_, q12_, q13_, q14_, cnd_t, cnd_f, Asc_t, Asc_f] at ht hs
              subst ht
              refine g_op (v := Value.bool false) rfl rfl (run_bool (b := decide (x35 < (a4.length : Int))) rfl (by first | exact decide_eq_true hb14_ | exact decide_eq_false hb14_ | simp [hb14_])) ?_
              show G _ _ _ _ [_, _, _, _, _, _, _, _, _, _, _, _, _, _, _, _, _, _, _, _, _, _, _, _, _, _, _, _, _, _, _, _, _, _, _, _, _, _, _, _, _, _, _, _, _, _, _, _, _, _, _, _, _, _, _, _, _, _, _, _, _, _, _, _, _, _, _, _, _, _, _, _, _, _, _] _
              exact hk _ _ ⟨O, (by simp only [u0_, u1_, u2_, u3_, u4_, u5_, u6_, u7_, u8_, u9_, u10_, u11_, u12_, u13_, u14_, p4_, p5_, p6_, q8_, q9_, q10_, q11_, q12_, q13_, q14_, cnd_t, cnd_f, Asc_t, Asc_f]), hs.cast (by first | rfl | simp only [List.take, List.drop, List.cons_append, List.nil_append, List.set_cons_zero, List.set_cons_succ, List.eraseIdx, u0_, u1_, u2_, u3_, u4_, u5_, u6_, u7_, u8_, u9_, u10_, u11_, u12_, u13_, u14_, p4_, p5_, p6_, q8_, q9_, q10_, q11_, q12_, q13_, q14_, cnd_t, cnd_f, Asc_t, Asc_f])⟩
             ·
              intro D t w hD hp hcl hI rest hk
              obtain ⟨O, ht, hs⟩ := hI
              have hp : AllDone D [7] := hp
              obtain ⟨p7_, _⟩ := hp
              obtain ⟨p4_, p6_, _⟩ := (show D 7 = true → AllDone D [4, 6] from hcl 7 (by decide)) p7_
              obtain ⟨p5_, _⟩ := (show D 6 = true → AllDone D [5] from hcl 6 (by decide)) p6_
              have q9_ : D 9 = false := not_yet (show D 9 = true → AllDone D [8] from hcl 9 (by decide)) 0 8 rfl hD
              have q10_ : D 10 = false := not_yet (show D 10 = true → AllDone D [8] from hcl 10 (by decide)) 0 8 rfl hD
              have q11_ : D 11 = false := not_yet (show D 11 = true → AllDone D [9, 10, 8] from hcl 11 (by decide)) 0 9 rfl q9_
              have q12_ : D 12 = false := not_yet (show D 12 = true → AllDone D [11, 8] from hcl 12 (by decide)) 0 11 rfl q11_
              have q13_ : D 13 = false := not_yet (show D 13 = true → AllDone D [8, 12] from hcl 13 (by decide)) 0 8 rfl hD
              have q14_ : D 14 = false := not_yet (show D 14 = true → AllDone D [2, 3, 13, 8] from hcl 14 (by decide)) 2 13 rfl q13_
              have u0_ : upd D 8 0 = D 0 := rfl; have u1_ : upd D 8 1 = D 1 := rfl; have u2_ : upd D 8 2 = D 2 := rfl; have u3_ : upd D 8 3 = D 3 := rfl; have u4_ : upd D 8 4 = D 4 := rfl; have u5_ : upd D 8 5 = D 5 := rfl; have u6_ : upd D 8 6 = D 6 := rfl; have u7_ : upd D 8 7 = D 7 := rfl; have u8_ : upd D 8 8 = true := rfl; have u9_ : upd D 8 9 = D 9 := rfl; have u10_ : upd D 8 10 = D 10 := rfl; have u11_ : upd D 8 11 = D 11 := rfl; have u12_ : upd D 8 12 = D 12 := rfl; have u13_ : upd D 8 13 = D 13 := rfl; have u14_ : upd D 8 14 = D 14 := rfl
              simp only [hD, p4_, p5_, p6_, p7_, q9_, q10_, q11_, q12_, q13_, q14_, cnd_t, cnd_f, Asc_t, Asc_f] at ht hs
              subst ht
              refine g_op (v := Value.bool false) rfl rfl rfl ?_
              show G _ _ _ _ [_, _, _, _, _, _, _, _, _, _, _, _, _, _, _, _, _, _, _, _, _, _, _, _, _, _, _, _, _, _, _, _, _, _, _, _, _, _, _, _, _, _, _, _, _, _, _, _, _, _, _, _, _, _, _, _, _, _, _, _, _, _, _, _, _, _, _, _, _, _, _, _, _, _, _] _
              exact hk _ _ ⟨O, (by simp only [u0_, u1_, u2_, u3_, u4_, u5_, u6_, u7_, u8_, u9_, u10_, u11_, u12_, u13_, u14_, p4_, p5_, p6_, p7_, q9_, q10_, q11_, q12_, q13_, q14_, cnd_t, cnd_f, Asc_t, Asc_f]), hs.cast (by first | rfl | simp only [List.take, List.drop, List.cons_append, List.nil_append, List.set_cons_zero, List.set_cons_succ, List.eraseIdx, u0_, u1_, u2_, u3_, u4_, u5_, u6_, u7_, u8_, u9_, u10_, u11_, u12_, u13_, u14_, p4_, p5_, p6_, p7_, q9_, q10_, q11_, q12_, q13_, q14_, cnd_t, cnd_f, Asc_t, Asc_f])⟩
             ·
              intro D t w hD hp hcl hI rest hk
              obtain ⟨O, ht, hs⟩ := hI
              have hp : AllDone D [8] := hp
              obtain ⟨p8_, _⟩ := hp
              obtain ⟨p7_, _⟩ := (show D 8 = true → AllDone D [7] from hcl 8 (by decide)) p8_
              obtain ⟨p4_, p6_, _⟩ := (show D 7 = true → AllDone D [4, 6] from hcl 7 (by decide)) p7_
              obtain ⟨p5_, _⟩ := (show D 6 = true → AllDone D [5] from hcl 6 (by decide)) p6_
              have q11_ : D 11 = false := not_yet (show D 11 = true → AllDone D [9, 10, 8] from hcl 11 (by decide)) 0 9 rfl hD
              have q12_ : D 12 = false := not_yet (show D 12 = true → AllDone D [11, 8] from hcl 12 (by decide)) 0 11 rfl q11_
              have q13_ : D 13 = false := not_yet (show D 13 = true → AllDone D [8, 12] from hcl 13 (by decide)) 1 12 rfl q12_
              have q14_ : D 14 = false := not_yet (show D 14 = true → AllDone D [2, 3, 13, 8] from hcl 14 (by decide)) 2 13 rfl q13_
              have u0_ : upd D 9 0 = D 0 := rfl; have u1_ : upd D 9 1 = D 1 := rfl; have u2_ : upd D 9 2 = D 2 := rfl; have u3_ : upd D 9 3 = D 3 := rfl; have u4_ : upd D 9 4 = D 4 := rfl; have u5_ : upd D 9 5 = D 5 := rfl; have u6_ : upd D 9 6 = D 6 := rfl; have u7_ : upd D 9 7 = D 7 := rfl; have u8_ : upd D 9 8 = D 8 := rfl; have u9_ : upd D 9 9 = true := rfl; have u10_ : upd D 9 10 = D 10 := rfl; have u11_ : upd D 9 11 = D 11 := rfl; have u12_ : upd D 9 12 = D 12 := rfl; have u13_ : upd D 9 13 = D 13 := rfl; have u14_ : upd D 9 14 = D 14 := rfl
              simp only [hD, p4_, p5_, p6_, p7_, p8_, q11_, q12_, q13_, q14_, cnd_t, cnd_f, Asc_t, Asc_f] at ht hs
              subst ht
              refine g_op_not rfl rfl ?_
              show G _ _ _ _ [_, _, _, _, _, _, _, _, _, _, _, _, _, _, _, _, _, _, _, _, _, _, _, _, _, _, _, _, _, _, _, _, _, _, _, _, _, _, _, _, _, _, _, _, _, _, _, _, _, _, _, _, _, _, _, _, _, _, _, _, _, _, _, _, _, _, _, _, _, _, _, _, _, _, _] _
              exact hk _ _ ⟨O, (by simp only [u0_, u1_, u2_, u3_, u4_, u5_, u6_, u7_, u8_, u9_, u10_, u11_, u12_, u13_, u14_, p4_, p5_, p6_, p7_, p8_, q11_, q12_, q13_, q14_, cnd_t, cnd_f, Asc_t, Asc_f]), hs.cast (by simp only [u0_, u1_, u2_, u3_, u4_, u5_, u6_, u7_, u8_, u9_, u10_, u11_, u12_, u13_, u14_, p4_, p5_, p6_, p7_, p8_, q11_, q12_, q13_, q14_, cnd_t, cnd_f, Asc_t, Asc_f])⟩
             ·
              intro D t w hD hp hcl hI rest hk
              obtain ⟨O, ht, hs⟩ := hI
              have hp : AllDone D [8] := hp
              obtain ⟨p8_, _⟩ := hp
              obtain ⟨p7_, _⟩ := (show D 8 = true → AllDone D [7] from hcl 8 (by decide)) p8_
              obtain ⟨p4_, p6_, _⟩ := (show D 7 = true → AllDone D [4, 6] from hcl 7 (by decide)) p7_
              obtain ⟨p5_, _⟩ := (show D 6 = true → AllDone D [5] from hcl 6 (by decide)) p6_
              have q11_ : D 11 = false := not_yet (show D 11 = true → AllDone D [9, 10, 8] from hcl 11 (by decide)) 1 10 rfl hD
              have q12_ : D 12 = false := not_yet (show D 12 = true → AllDone D [11, 8] from hcl 12 (by decide)) 0 11 rfl q11_
              have q13_ : D 13 = false := not_yet (show D 13 = true → AllDone D [8, 12] from hcl 13 (by decide)) 1 12 rfl q12_
              have q14_ : D 14 = false := not_yet (show D 14 = true → AllDone D [2, 3, 13, 8] from hcl 14 (by decide)) 2 13 rfl q13_
              have u0_ : upd D 10 0 = D 0 := rfl; have u1_ : upd D 10 1 = D 1 := rfl; have u2_ : upd D 10 2 = D 2 := rfl; have u3_ : upd D 10 3 = D 3 := rfl; have u4_ : upd D 10 4 = D 4 := rfl; have u5_ : upd D 10 5 = D 5 := rfl; have u6_ : upd D 10 6 = D 6 := rfl; have u7_ : upd D 10 7 = D 7 := rfl; have u8_ : upd D 10 8 = D 8 := rfl; have u9_ : upd D 10 9 = D 9 := rfl; have u10_ : upd D 10 10 = true := rfl; have u11_ : upd D 10 11 = D 11 := rfl; have u12_ : upd D 10 12 = D 12 := rfl; have u13_ : upd D 10 13 = D 13 := rfl; have u14_ : upd D 10 14 = D 14 := rfl
              simp only [hD, p4_, p5_, p6_, p7_, p8_, q11_, q12_, q13_, q14_, cnd_t, cnd_f, Asc_t, Asc_f] at ht hs
              subst ht
              refine g_op_not rfl rfl ?_
              show G _ _ _ _ [_, _, _, _, _, _, _, _, _, _, _, _, _, _, _, _, _, _, _, _, _, _, _, _, _, _, _, _, _, _, _, _, _, _, _, _, _, _, _, _, _, _, _, _, _, _, _, _, _, _, _, _, _, _, _, _, _, _, _, _, _, _, _, _, _, _, _, _, _, _, _, _, _, _, _] _
              exact hk _ _ ⟨O, (by simp only [u0_, u1_, u2_, u3_, u4_, u5_, u6_, u7_, u8_, u9_, u10_, u11_, u12_, u13_, u14_, p4_, p5_, p6_, p7_, p8_, q11_, q12_, q13_, q14_, cnd_t, cnd_f, Asc_t, Asc_f]), hs.cast (by simp only [u0_, u1_, u2_, u3_, u4_, u5_, u6_, u7_, u8_, u9_, u10_, u11_, u12_, u13_, u14_, p4_, p5_, p6_, p7_, p8_, q11_, q12_, q13_, q14_, cnd_t, cnd_f, Asc_t, Asc_f])⟩
             ·
              intro D t w hD hp hcl hI rest hk
              obtain ⟨O, ht, hs⟩ := hI
              have hp : AllDone D [9, 10, 8] := hp
              obtain ⟨p9_, p10_, p8_, _⟩ := hp
              obtain ⟨p7_, _⟩ := (show D 8 = true → AllDone D [7] from hcl 8 (by decide)) p8_
              obtain ⟨p4_, p6_, _⟩ := (show D 7 = true → AllDone D [4, 6] from hcl 7 (by decide)) p7_
              obtain ⟨p5_, _⟩ := (show D 6 = true → AllDone D [5] from hcl 6 (by decide)) p6_
              have q12_ : D 12 = false := not_yet (show D 12 = true → AllDone D [11, 8] from hcl 12 (by decide)) 0 11 rfl hD
              have q13_ : D 13 = false := not_yet (show D 13 = true → AllDone D [8, 12] from hcl 13 (by decide)) 1 12 rfl q12_
              have q14_ : D 14 = false := not_yet (show D 14 = true → AllDone D [2, 3, 13, 8] from hcl 14 (by decide)) 2 13 rfl q13_
              have u0_ : upd D 11 0 = D 0 := rfl; have u1_ : upd D 11 1 = D 1 := rfl; have u2_ : upd D 11 2 = D 2 := rfl; have u3_ : upd D 11 3 = D 3 := rfl; have u4_ : upd D 11 4 = D 4 := rfl; have u5_ : upd D 11 5 = D 5 := rfl; have u6_ : upd D 11 6 = D 6 := rfl; have u7_ : upd D 11 7 = D 7 := rfl; have u8_ : upd D 11 8 = D 8 := rfl; have u9_ : upd D 11 9 = D 9 := rfl; have u10_ : upd D 11 10 = D 10 := rfl; have u11_ : upd D 11 11 = true := rfl; have u12_ : upd D 11 12 = D 12 := rfl; have u13_ : upd D 11 13 = D 13 := rfl; have u14_ : upd D 11 14 = D 14 := rfl
              simp only [hD, p4_, p5_, p6_, p7_, p8_, p9_, p10_, q12_, q13_, q14_, cnd_t, cnd_f, Asc_t, Asc_f] at ht hs
              subst ht
              refine g_op_not rfl rfl ?_
              show G _ _ _ _ [_, _, _, _, _, _, _, _, _, _, _, _, _, _, _, _, _, _, _, _, _, _, _, _, _, _, _, _, _, _, _, _, _, _, _, _, _, _, _, _, _, _, _, _, _, _, _, _, _, _, _, _, _, _, _, _, _, _, _, _, _, _, _, _, _, _, _, _, _, _, _, _, _, _, _] _
              exact hk _ _ ⟨O, (by simp only [u0_, u1_, u2_, u3_, u4_, u5_, u6_, u7_, u8_, u9_, u10_, u11_, u12_, u13_, u14_, p4_, p5_, p6_, p7_, p8_, p9_, p10_, q12_, q13_, q14_, cnd_t, cnd_f, Asc_t, Asc_f]), hs.cast (by simp only [u0_, u1_, u2_, u3_, u4_, u5_, u6_, u7_, u8_, u9_, u10_, u11_, u12_, u13_, u14_, p4_, p5_, p6_, p7_, p8_, p9_, p10_, q12_, q13_, q14_, cnd_t, cnd_f, Asc_t, Asc_f])⟩
             ·
              intro D t w hD hp hcl hI rest hk
              obtain ⟨O, ht, hs⟩ := hI
              have hp : AllDone D [11, 8] := hp
              obtain ⟨p11_, p8_, _⟩ := hp
              obtain ⟨p9_, p10_, _, _⟩ := (show D 11 = true → AllDone D [9, 10, 8] from hcl 11 (by decide)) p11_
              obtain ⟨p7_, _⟩ := (show D 8 = true → AllDone D [7] from hcl 8 (by decide)) p8_
              obtain ⟨p4_, p6_, _⟩ := (show D 7 = true → AllDone D [4, 6] from hcl 7 (by decide)) p7_
              obtain ⟨p5_, _⟩ := (show D 6 = true → AllDone D [5] from hcl 6 (by decide)) p6_
              have q13_ : D 13 = false := not_yet (show D 13 = true → AllDone D [8, 12] from hcl 13 (by decide)) 1 12 rfl hD
              have q14_ : D 14 = false := not_yet (show D 14 = true → AllDone D [2, 3, 13, 8] from hcl 14 (by decide)) 2 13 rfl q13_
              have u0_ : upd D 12 0 = D 0 := rfl; have u1_ : upd D 12 1 = D 1 := rfl; have u2_ : upd D 12 2 = D 2 := rfl; have u3_ : upd D 12 3 = D 3 := rfl; have u4_ : upd D 12 4 = D 4 := rfl; have u5_ : upd D 12 5 = D 5 := rfl; have u6_ : upd D 12 6 = D 6 := rfl; have u7_ : upd D 12 7 = D 7 := rfl; have u8_ : upd D 12 8 = D 8 := rfl; have u9_ : upd D 12 9 = D 9 := rfl; have u10_ : upd D 12 10 = D 10 := rfl; have u11_ : upd D 12 11 = D 11 := rfl; have u12_ : upd D 12 12 = true := rfl; have u13_ : upd D 12 13 = D 13 := rfl; have u14_ : upd D 12 14 = D 14 := rfl
              simp only [hD, p4_, p5_, p6_, p7_, p8_, p9_, p10_, p11_, q13_, q14_, cnd_t, cnd_f, Asc_t, Asc_f] at ht hs
              subst ht
              refine g_op_not rfl rfl ?_
              show G _ _ _ _ [_, _, _, _, _, _, _, _, _, _, _, _, _, _, _, _, _, _, _, _, _, _, _, _, _, _, _, _, _, _, _, _, _, _, _, _, _, _, _, _, _, _, _, _, _, _, _, _, _, _, _, _, _, _, _, _, _, _, _, _, _, _, _, _, _, _, _, _, _, _, _, _, _, _, _] _
              exact hk _ _ ⟨O, (by simp only [u0_, u1_, u2_, u3_, u4_, u5_, u6_, u7_, u8_, u9_, u10_, u11_, u12_, u13_, u14_, p4_, p5_, p6_, p7_, p8_, p9_, p10_, p11_, q13_, q14_, cnd_t, cnd_f, Asc_t, Asc_f]), hs.cast (by simp only [u0_, u1_, u2_, u3_, u4_, u5_, u6_, u7_, u8_, u9_, u10_, u11_, u12_, u13_, u14_, p4_, p5_, p6_, p7_, p8_, p9_, p10_, p11_, q13_, q14_, cnd_t, cnd_f, Asc_t, Asc_f])⟩
             ·
              intro D t w hD hp hcl hI rest hk
              obtain ⟨O, ht, hs⟩ := hI
              have hp : AllDone D [8, 12] := hp
              obtain ⟨p8_, p12_, _⟩ := hp
              obtain ⟨p11_, _, _⟩ := (show D 12 = true → AllDone D [11, 8] from hcl 12 (by decide)) p12_
              obtain ⟨p9_, p10_, _, _⟩ := (show D 11 = true → AllDone D [9, 10, 8] from hcl 11 (by decide)) p11_
              obtain ⟨p7_, _⟩ := (show D 8 = true → AllDone D [7] from hcl 8 (by decide)) p8_
              obtain ⟨p4_, p6_, _⟩ := (show D 7 = true → AllDone D [4, 6] from hcl 7 (by decide)) p7_
              obtain ⟨p5_, _⟩ := (show D 6 = true → AllDone D [5] from hcl 6 (by decide)) p6_
              have q14_ : D 14 = false := not_yet (show D 14 = true → AllDone D [2, 3, 13, 8] from hcl 14 (by decide)) 2 13 rfl hD
              have u0_ : upd D 13 0 = D 0 := rfl; have u1_ : upd D 13 1 = D 1 := rfl; have u2_ : upd D 13 2 = D 2 := rfl; have u3_ : upd D 13 3 = D 3 := rfl; have u4_ : upd D 13 4 = D 4 := rfl; have u5_ : upd D 13 5 = D 5 := rfl; have u6_ : upd D 13 6 = D 6 := rfl; have u7_ : upd D 13 7 = D 7 := rfl; have u8_ : upd D 13 8 = D 8 := rfl; have u9_ : upd D 13 9 = D 9 := rfl; have u10_ : upd D 13 10 = D 10 := rfl; have u11_ : upd D 13 11 = D 11 := rfl; have u12_ : upd D 13 12 = D 12 := rfl; have u13_ : upd D 13 13 = true := rfl; have u14_ : upd D 13 14 = D 14 := rfl
              simp only [hD, p4_, p5_, p6_, p7_, p8_, p9_, p10_, p11_, p12_, q14_, cnd_t, cnd_f, Asc_t, Asc_f] at ht hs
              subst ht
              refine g_op (v := Value.bool false) rfl rfl rfl ?_
              show G _ _ _ _ [_, _, _, _, _, _, _, _, _, _, _, _, _, _, _, _, _, _, _, _, _, _, _, _, _, _, _, _, _, _, _, _, _, _, _, _, _, _, _, _, _, _, _, _, _, _, _, _, _, _, _, _, _, _, _, _, _, _, _, _, _, _, _, _, _, _, _, _, _, _, _, _, _, _, _] _
              exact hk _ _ ⟨O, (by simp only [u0_, u1_, u2_, u3_, u4_, u5_, u6_, u7_, u8_, u9_, u10_, u11_, u12_, u13_, u14_, p4_, p5_, p6_, p7_, p8_, p9_, p10_, p11_, p12_, q14_, cnd_t, cnd_f, Asc_t, Asc_f]), hs.cast (by first | rfl | simp only [List.take, List.drop, List.cons_append, List.nil_append, List.set_cons_zero, List.set_cons_succ, List.eraseIdx, u0_, u1_, u2_, u3_, u4_, u5_, u6_, u7_, u8_, u9_, u10_, u11_, u12_, u13_, u14_, p4_, p5_, p6_, p7_, p8_, p9_, p10_, p11_, p12_, q14_, cnd_t, cnd_f, Asc_t, Asc_f])⟩
             ·
              intro D t w hD hp hcl hI rest hk
              obtain ⟨O, ht, hs⟩ := hI
              have hp : AllDone D [2, 3, 13, 8] := hp
              obtain ⟨p2_, p3_, p13_, p8_, _⟩ := hp
              obtain ⟨_, p12_, _⟩ := (show D 13 = true → AllDone D [8, 12] from hcl 13 (by decide)) p13_
              obtain ⟨p11_, _, _⟩ := (show D 12 = true → AllDone D [11, 8] from hcl 12 (by decide)) p12_
              obtain ⟨p9_, p10_, _, _⟩ := (show D 11 = true → AllDone D [9, 10, 8] from hcl 11 (by decide)) p11_
              obtain ⟨p7_, _⟩ := (show D 8 = true → AllDone D [7] from hcl 8 (by decide)) p8_
              obtain ⟨p4_, p6_, _⟩ := (show D 7 = true → AllDone D [4, 6] from hcl 7 (by decide)) p7_
              obtain ⟨p5_, _⟩ := (show D 6 = true → AllDone D [5] from hcl 6 (by decide)) p6_
              have u0_ : upd D 14 0 = D 0 := rfl; have u1_ : upd D 14 1 = D 1 := rfl; have u2_ : upd D 14 2 = D 2 := rfl; have u3_ : upd D 14 3 = D 3 := rfl; have u4_ : upd D 14 4 = D 4 := rfl; have u5_ : upd D 14 5 = D 5 := rfl; have u6_ : upd D 14 6 = D 6 := rfl; have u7_ : upd D 14 7 = D 7 := rfl; have u8_ : upd D 14 8 = D 8 := rfl; have u9_ : upd D 14 9 = D 9 := rfl; have u10_ : upd D 14 10 = D 10 := rfl; have u11_ : upd D 14 11 = D 11 := rfl; have u12_ : upd D 14 12 = D 12 := rfl; have u13_ : upd D 14 13 = D 13 := rfl; have u14_ : upd D 14 14 = true := rfl
              simp only [hD, p2_, p3_, p4_, p5_, p6_, p7_, p8_, p9_, p10_, p11_, p12_, p13_, cnd_t, cnd_f, Asc_t, Asc_f] at ht hs
              subst ht
              refine s_call (args := [Value.int .u64 r39.1, Value.int .i64 a3, Value.bool false]) rfl rfl (x_call rfl (callFunc_enter Try.func43 rfl rfl) rfl) (impl_AnswerTo.calls (a1 := r39.1) (a2 := a3) (a3 := false) Hr44) ?_
              rintro _ w ⟨rfl, hs2⟩
              have hs : St _ [_, _, _, _] _ := hs.call hs2
              show G _ _ _ _ [_, _, _, _, _, _, _, _, _, _, _, _, _, _, _, _, _, _, _, _, _, _, _, _, _, _, _, _, _, _, _, _, _, _, _, _, _, _, _, _, _, _, _, _, _, _, _, _, _, _, _, _, _, _, _, _, _, _, _, _, _, _, _, _, _, _, _, _, _, _, _, _, _, _, _] _
              exact hk _ _ ⟨O, (by simp only [u0_, u1_, u2_, u3_, u4_, u5_, u6_, u7_, u8_, u9_, u10_, u11_, u12_, u13_, u14_, p2_, p3_, p4_, p5_, p6_, p7_, p8_, p9_, p10_, p11_, p12_, p13_, cnd_t, cnd_f, Asc_t, Asc_f]), hs.cast (by first | rfl | simp only [List.take, List.drop, List.cons_append, List.nil_append, List.set_cons_zero, List.set_cons_succ, List.eraseIdx, u0_, u1_, u2_, u3_, u4_, u5_, u6_, u7_, u8_, u9_, u10_, u11_, u12_, u13_, u14_, p2_, p3_, p4_, p5_, p6_, p7_, p8_, p9_, p10_, p11_, p12_, p13_, cnd_t, cnd_f, Asc_t, Asc_f])⟩
             ·
              intro D t w rest hall hO20_ hI
              obtain ⟨O, ht, hs⟩ := hI
              have p0_ : D 0 = true := hall 0 (by decide) rfl
              have p1_ : D 1 = true := hall 1 (by decide) rfl
              have p2_ : D 2 = true := hall 2 (by decide) rfl
              have p3_ : D 3 = true := hall 3 (by decide) rfl
              have p4_ : D 4 = true := hall 4 (by decide) rfl
              have p5_ : D 5 = true := hall 5 (by decide) rfl
              have p6_ : D 6 = true := hall 6 (by decide) rfl
              have p7_ : D 7 = true := hall 7 (by decide) rfl
              have p8_ : D 8 = true := hall 8 (by decide) rfl
              have p9_ : D 9 = true := hall 9 (by decide) rfl
              have p10_ : D 10 = true := hall 10 (by decide) rfl
              have p11_ : D 11 = true := hall 11 (by decide) rfl
              have p12_ : D 12 = true := hall 12 (by decide) rfl
              have p13_ : D 13 = true := hall 13 (by decide) rfl
              have p14_ : D 14 = true := hall 14 (by decide) rfl
              simp only [p0_, p1_, p2_, p3_, p4_, p5_, p6_, p7_, p8_, p9_, p10_, p11_, p12_, p13_, p14_, cnd_t, cnd_f, Asc_t, Asc_f] at ht hs
              subst ht
              obtain ⟨rest, rfl, hO21_⟩ := ord_one (m := 32767) hO20_ rfl 15 (m' := 65535) (by decide +kernel) rfl
              clear hO20_
              obtain ⟨r45, Hr45, H⟩ := bind_get H
              refine s_call (args := [Value.agg (([Value.int .i8 x30, Value.int .i8 x31, v33] : List Value)).toArray, Value.int .u64 r39.1, Value.bool r44]) rfl rfl (x_call rfl (callFunc_enter Try.func42 rfl rfl) rfl) (_impl_Game_with.calls (a1 := (⟨x30, x31, x34⟩ : S_impl_Game)) (a4 := r39.1) (a5 := r44) (hs.row 2 rfl) Hr45) ?_
              rintro _ w ⟨v46, rfl, hs2⟩
              have hs : St _ [_, _, _, _, _] _ := hs.call hs2
              show G _ _ _ _ [_, _, _, _, _, _, _, _, _, _, _, _, _, _, _, _, _, _, _, _, _, _, _, _, _, _, _, _, _, _, _, _, _, _, _, _, _, _, _, _, _, _, _, _, _, _, _, _, _, _, _, _, _, _, _, _, _, _, _, _, _, _, _, _, _, _, _, _, _, _, _, _, _, _, _] _
              obtain ⟨rest, rfl, hO22_⟩ := ord_one (m := 65535) hO21_ rfl 16 (m' := 131071) (by decide +kernel) rfl
              clear hO21_
              have hs := hs.pull 4 rfl
              have hs : St _ [_, _, _, _, _] _ := hs
              refine s_storeAll (n := 3) hs rfl rfl rfl (vs := (([Value.int .i8 r45.f_Numbers, Value.int .i8 r45.f_Lies, v46] : List Value))) rfl rfl rfl (fun _ => rfl) rfl (by intro v hv; simp only [List.mem_append, List.mem_cons, List.not_mem_nil, or_false] at hv; repeat (first | (subst hv; first | rfl | exact slOne (hs.row 1 rfl)) | (rcases hv with hv | hv))) ?_
              intro w hs
              obtain rfl := ord_end hO22_ rfl (by decide +kernel)
              refine g_ops_nil ?_
              refine g_inBlock ?_
              have hs := hs.pull 1 rfl
              have hs := hs.pull 1 rfl
              have hs := hs.pull 3 rfl
              have hs : St _ [_, _, _] _ := St.take (Γ' := [_, _]) hs
              exact ha _ _ ⟨r45.f_Numbers, r45.f_Lies, v46, r45.f_Asked, H, rfl, hs⟩
    | false =>
      rw [if_neg Bool.false_ne_true] at H
      show G _ _ _ _ [_, _, _, _, _, _, _, _, _, _, _, _, _, _, _, _, _, _, _, _, _, _, _, _, _, _, _, _, _, _, _, _, _, _, _, _, _, _, _, _, _, _, _, _, _, _, _, _, _, _, _, _, _, _, _, _, _, _, _, _, _, _, _, _, _, _, _, _, _, _, _, _, _, _, _] _
      refine g_op (v := Value.bool true) rfl rfl rfl ?_
      show G _ _ _ _ [_, _, _, _, _, _, _, _, _, _, _, _, _, _, _, _, _, _, _, _, _, _, _, _, _, _, _, _, _, _, _, _, _, _, _, _, _, _, _, _, _, _, _, _, _, _, _, _, _, _, _, _, _, _, _, _, _, _, _, _, _, _, _, _, _, _, _, _, _, _, _, _, _, _, _] _
      refine g_op (v := Value.bool true) rfl rfl rfl ?_
      show G _ _ _ _ [_, _, _, _, _, _, _, _, _, _, _, _, _, _, _, _, _, _, _, _, _, _, _, _, _, _, _, _, _, _, _, _, _, _, _, _, _, _, _, _, _, _, _, _, _, _, _, _, _, _, _, _, _, _, _, _, _, _, _, _, _, _, _, _, _, _, _, _, _, _, _, _, _, _, _] _
      refine g_ops_nil ?_
      refine g_cond_true rfl ?_
      refine g_seq ?_
      refine g_region ?_
      show G _ _ _ (.inRegion _ [0, 1, 2, 3] :: _) _ _
      refine g_op (v := Value.agg (([Value.int .i8 0, Value.int .i8 0, Value.slice none 0 0] : List Value)).toArray) rfl rfl (x_buildS (cs := (([Value.int .i8 0, Value.int .i8 0, Value.slice none 0 0] : List Value))) (segs := [[Value.int .i8 0], [Value.int .i8 0], [Value.slice none 0 0]]) rfl rfl (fun _ => rfl) ⟨rfl, (fun _ => rfl), rfl, (fun _ => rfl), rfl, (fun _ => rfl), trivial⟩ (by simp) (by first | rfl | (simp [ev, encA]; done) | (simp [ev, encA]; rfl))) ?_
      show G _ _ _ _ [_, _, _, _, _, _, _, _, _, _, _, _, _, _, _, _, _, _, _, _, _, _, _, _, _, _, _, _, _, _, _, _, _, _, _, _, _, _, _, _, _, _, _, _, _, _, _, _, _, _, _, _, _, _, _, _, _, _, _, _, _, _, _, _, _, _, _, _, _, _, _, _, _, _, _] _
      refine s_storeAll (n := 3) hs rfl rfl rfl (vs := (([Value.int .i8 0, Value.int .i8 0, Value.slice none 0 0] : List Value))) rfl rfl rfl (fun _ => rfl) rfl (by simp [Value.oneCell']) ?_
      intro w hs
      refine g_op (v := Value.int .i64 0) rfl rfl rfl ?_
      show G _ _ _ _ [_, _, _, _, _, _, _, _, _, _, _, _, _, _, _, _, _, _, _, _, _, _, _, _, _, _, _, _, _, _, _, _, _, _, _, _, _, _, _, _, _, _, _, _, _, _, _, _, _, _, _, _, _, _, _, _, _, _, _, _, _, _, _, _, _, _, _, _, _, _, _, _, _, _, _] _
      refine g_op (v := Value.int .i64 2) rfl rfl rfl ?_
      show G _ _ _ _ [_, _, _, _, _, _, _, _, _, _, _, _, _, _, _, _, _, _, _, _, _, _, _, _, _, _, _, _, _, _, _, _, _, _, _, _, _, _, _, _, _, _, _, _, _, _, _, _, _, _, _, _, _, _, _, _, _, _, _, _, _, _, _, _, _, _, _, _, _, _, _, _, _, _, _] _
      refine g_ops_nil ?_
      obtain rfl := Option.some.inj H
      refine g_ret Try.func22 (v := Value.tuple #[Value.agg (([Value.int .i8 0, Value.int .i8 0, Value.slice none 0 0] : List Value)).toArray, Value.int .i64 0, Value.int .i64 2]) (resN (l := Try.f22.results.toList) (vs := [Value.agg (([Value.int .i8 0, Value.int .i8 0, Value.slice none 0 0] : List Value)).toArray, Value.int .i64 0, Value.int .i64 2]) rfl ⟨⟨_, rfl, (run_loadVar_agg (es := (([Value.int .i8 0, Value.int .i8 0, Value.slice none 0 0] : List Value))) rfl rfl (cells_all (hs.cells 0 rfl)))⟩, rfl, rfl, trivial⟩ (by simp)) ?_
      have hs := hs.nil 64 k_S_impl_Ask
      have hs := hs.pull 0 rfl
      have hs : St _ [_] _ := St.take (Γ' := [_]) hs
      exact ⟨_, rfl, (Value.slice none 0 0), rfl, hs⟩
  | false =>
    rw [if_neg Bool.false_ne_true] at H
    show G _ _ _ _ [_, _, _, _, _, _, _, _, _, _, _, _, _, _, _, _, _, _, _, _, _, _, _, _, _, _, _, _, _, _, _, _, _, _, _, _, _, _, _, _, _, _, _, _, _, _, _, _, _, _, _, _, _, _, _, _, _, _, _, _, _, _, _, _, _, _, _, _, _, _, _, _, _, _, _] _
    refine g_op (v := Value.bool true) rfl rfl rfl ?_
    show G _ _ _ _ [_, _, _, _, _, _, _, _, _, _, _, _, _, _, _, _, _, _, _, _, _, _, _, _, _, _, _, _, _, _, _, _, _, _, _, _, _, _, _, _, _, _, _, _, _, _, _, _, _, _, _, _, _, _, _, _, _, _, _, _, _, _, _, _, _, _, _, _, _, _, _, _, _, _, _] _
    refine g_op (v := Value.bool true) rfl rfl rfl ?_
    refine g_op_not rfl rfl ?_
    refine g_op_not rfl rfl ?_
    refine g_op_not rfl rfl ?_
    show G _ _ _ _ [_, _, _, _, _, _, _, _, _, _, _, _, _, _, _, _, _, _, _, _, _, _, _, _, _, _, _, _, _, _, _, _, _, _, _, _, _, _, _, _, _, _, _, _, _, _, _, _, _, _, _, _, _, _, _, _, _, _, _, _, _, _, _, _, _, _, _, _, _, _, _, _, _, _, _] _
    refine g_op_not rfl rfl ?_
    show G _ _ _ _ [_, _, _, _, _, _, _, _, _, _, _, _, _, _, _, _, _, _, _, _, _, _, _, _, _, _, _, _, _, _, _, _, _, _, _, _, _, _, _, _, _, _, _, _, _, _, _, _, _, _, _, _, _, _, _, _, _, _, _, _, _, _, _, _, _, _, _, _, _, _, _, _, _, _, _] _
    refine g_op_not rfl rfl ?_
    show G _ _ _ _ [_, _, _, _, _, _, _, _, _, _, _, _, _, _, _, _, _, _, _, _, _, _, _, _, _, _, _, _, _, _, _, _, _, _, _, _, _, _, _, _, _, _, _, _, _, _, _, _, _, _, _, _, _, _, _, _, _, _, _, _, _, _, _, _, _, _, _, _, _, _, _, _, _, _, _] _
    refine g_op (v := Value.bool true) rfl rfl rfl ?_
    show G _ _ _ _ [_, _, _, _, _, _, _, _, _, _, _, _, _, _, _, _, _, _, _, _, _, _, _, _, _, _, _, _, _, _, _, _, _, _, _, _, _, _, _, _, _, _, _, _, _, _, _, _, _, _, _, _, _, _, _, _, _, _, _, _, _, _, _, _, _, _, _, _, _, _, _, _, _, _, _] _
    refine g_ops_nil ?_
    refine g_cond_true rfl ?_
    refine g_seq ?_
    refine g_region ?_
    show G _ _ _ (.inRegion _ [0, 1, 2, 3] :: _) _ _
    refine g_op (v := Value.agg (([Value.int .i8 0, Value.int .i8 0, Value.slice none 0 0] : List Value)).toArray) rfl rfl (x_buildS (cs := (([Value.int .i8 0, Value.int .i8 0, Value.slice none 0 0] : List Value))) (segs := [[Value.int .i8 0], [Value.int .i8 0], [Value.slice none 0 0]]) rfl rfl (fun _ => rfl) ⟨rfl, (fun _ => rfl), rfl, (fun _ => rfl), rfl, (fun _ => rfl), trivial⟩ (by simp) (by first | rfl | (simp [ev, encA]; done) | (simp [ev, encA]; rfl))) ?_
    show G _ _ _ _ [_, _, _, _, _, _, _, _, _, _, _, _, _, _, _, _, _, _, _, _, _, _, _, _, _, _, _, _, _, _, _, _, _, _, _, _, _, _, _, _, _, _, _, _, _, _, _, _, _, _, _, _, _, _, _, _, _, _, _, _, _, _, _, _, _, _, _, _, _, _, _, _, _, _, _] _
    refine s_storeAll (n := 3) hs rfl rfl rfl (vs := (([Value.int .i8 0, Value.int .i8 0, Value.slice none 0 0] : List Value))) rfl rfl rfl (fun _ => rfl) rfl (by simp [Value.oneCell']) ?_
    intro w hs
    refine g_op (v := Value.int .i64 0) rfl rfl rfl ?_
    show G _ _ _ _ [_, _, _, _, _, _, _, _, _, _, _, _, _, _, _, _, _, _, _, _, _, _, _, _, _, _, _, _, _, _, _, _, _, _, _, _, _, _, _, _, _, _, _, _, _, _, _, _, _, _, _, _, _, _, _, _, _, _, _, _, _, _, _, _, _, _, _, _, _, _, _, _, _, _, _] _
    refine g_op (v := Value.int .i64 2) rfl rfl rfl ?_
    show G _ _ _ _ [_, _, _, _, _, _, _, _, _, _, _, _, _, _, _, _, _, _, _, _, _, _, _, _, _, _, _, _, _, _, _, _, _, _, _, _, _, _, _, _, _, _, _, _, _, _, _, _, _, _, _, _, _, _, _, _, _, _, _, _, _, _, _, _, _, _, _, _, _, _, _, _, _, _, _] _
    refine g_ops_nil ?_
    obtain rfl := Option.some.inj H
    refine g_ret Try.func22 (v := Value.tuple #[Value.agg (([Value.int .i8 0, Value.int .i8 0, Value.slice none 0 0] : List Value)).toArray, Value.int .i64 0, Value.int .i64 2]) (resN (l := Try.f22.results.toList) (vs := [Value.agg (([Value.int .i8 0, Value.int .i8 0, Value.slice none 0 0] : List Value)).toArray, Value.int .i64 0, Value.int .i64 2]) rfl ⟨⟨_, rfl, (run_loadVar_agg (es := (([Value.int .i8 0, Value.int .i8 0, Value.slice none 0 0] : List Value))) rfl rfl (cells_all (hs.cells 0 rfl)))⟩, rfl, rfl, trivial⟩ (by simp)) ?_
    have hs := hs.nil 64 k_S_impl_Ask
    have hs := hs.pull 0 rfl
    have hs : St _ [_] _ := St.take (Γ' := [_]) hs
    exact ⟨_, rfl, (Value.slice none 0 0), rfl, hs⟩

end Go.Proofs.YtpbkenbmjgchkaaX
