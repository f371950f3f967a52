/- Contracts, printed by gen.py. -/
import Derived.Test.YtpbkenbmjgchkaaXC10
namespace Go.Proofs.YtpbkenbmjgchkaaX
open Go Go.RowKit Go.Proofs
set_option linter.unusedVariables false
set_option linter.unusedSimpArgs false
/- function 36 spec_l06Play -/
def spec_l06Play.post (w0 : World) (r : (S_impl_Game × Int × Int)) (v : Value) (w : World) : Prop := ∃ u1 : Value, v = Value.tuple #[Value.agg (([Value.int .i8 r.1.f_Numbers, Value.int .i8 r.1.f_Lies, u1] : List Value)).toArray, Value.int .i64 r.2.1, Value.int .i64 r.2.2] ∧ St w0 [Row 64 k_S_impl_Ask u1 r.1.f_Asked] w
set_option maxHeartbeats 8000000 in
set_option maxRecDepth 100000 in
theorem spec_l06Play.calls {N : Nat} {a1 : Int} {a2 : Int} {a3 : Int} {a4 : (List Bool)} {v5 : Value} {w0 : World} {r : (S_impl_Game × Int × Int)} (hr3 : RdRow K.bool w0 v5 a4) (H : spec_l06Play.f N a1 a2 a3 a4 = some r) :
    Calls Try.prog 36 #[Value.int .i64 a1, Value.int .i64 a2, Value.int .i64 a3, v5] w0 fun e w => ∃ v, e = .returned v ∧ spec_l06Play.post w0 r v w := by
  unfold spec_l06Play.f at H
  have hs : St w0 [] w0 := St.refl w0
  refine calls_of_g (n := 52) Try.func36 rfl rfl ?_
  show G _ _ _ _ [_, _, _, _, _, _, _, _, _, _, _, _, _, _, _, _, _, _, _, _, _, _, _, _, _, _, _, _, _, _, _, _, _, _, _, _, _, _, _, _, _, _, _, _, _, _, _, _, _, _, _, _, _, _, _, _] _
  refine g_seq ?_
  refine g_region ?_
  show G _ _ _ (.inRegion _ [0, 1, 2] :: _) _ _
  refine s_alloc hs rfl rfl (z := (Value.agg #[Value.int .i8 0, Value.int .i8 0, Value.slice none 0 0])) (cs := (([Value.int .i8 0, Value.int .i8 0, Value.slice none 0 0] : List Value))) rfl (fun _ => rfl) rfl ?_
  intro b6 w hs
  show G _ _ _ _ [_, _, _, _, _, _, _, _, _, _, _, _, _, _, _, _, _, _, _, _, _, _, _, _, _, _, _, _, _, _, _, _, _, _, _, _, _, _, _, _, _, _, _, _, _, _, _, _, _, _, _, _, _, _, _, _] _
  refine g_op (v := Value.int .i64 0) rfl rfl rfl ?_
  show G _ _ _ _ [_, _, _, _, _, _, _, _, _, _, _, _, _, _, _, _, _, _, _, _, _, _, _, _, _, _, _, _, _, _, _, _, _, _, _, _, _, _, _, _, _, _, _, _, _, _, _, _, _, _, _, _, _, _, _, _] _
  refine g_op (v := Value.int .i64 0) rfl rfl rfl ?_
  show G _ _ _ _ [_, _, _, _, _, _, _, _, _, _, _, _, _, _, _, _, _, _, _, _, _, _, _, _, _, _, _, _, _, _, _, _, _, _, _, _, _, _, _, _, _, _, _, _, _, _, _, _, _, _, _, _, _, _, _, _] _
  refine g_ops_nil ?_
  refine g_seq ?_
  refine g_region ?_
  show G _ _ _ (.inRegion _ [0, 1, 2, 3, 4, 5, 6] :: _) _ _
  refine g_op (v := Value.int .i64 a1) rfl rfl rfl ?_
  refine g_op (v := Value.int .i8 (i8w a1)) rfl rfl rfl ?_
  refine g_op (v := Value.int .i64 a2) rfl rfl rfl ?_
  refine g_op (v := Value.int .i8 (i8w a2)) rfl rfl rfl ?_
  refine g_op (v := Value.agg (([Value.int .i8 (i8w a1), Value.int .i8 (i8w a2), Value.slice none 0 0] : List Value)).toArray) rfl rfl (x_buildS (cs := (([Value.int .i8 (i8w a1), Value.int .i8 (i8w a2), Value.slice none 0 0] : List Value))) (segs := [[Value.int .i8 0], [Value.int .i8 0], [Value.slice none 0 0]]) rfl rfl (fun _ => rfl) ⟨rfl, (fun _ => rfl), rfl, (fun _ => rfl), rfl, (fun _ => rfl), trivial⟩ (by simp only [List.map_cons, List.map_nil, List.forall_mem_cons, List.not_mem_nil, false_implies, implies_true, and_true]; exact ⟨⟨_, rfl, rfl⟩, ⟨_, rfl, rfl⟩⟩) (by first | rfl | (simp [ev, encA]; done) | (simp [ev, encA]; rfl))) ?_
  show G _ _ _ _ [_, _, _, _, _, _, _, _, _, _, _, _, _, _, _, _, _, _, _, _, _, _, _, _, _, _, _, _, _, _, _, _, _, _, _, _, _, _, _, _, _, _, _, _, _, _, _, _, _, _, _, _, _, _, _, _] _
  refine s_alloc hs rfl rfl (z := (Value.agg #[Value.int .i8 0, Value.int .i8 0, Value.slice none 0 0])) (cs := (([Value.int .i8 0, Value.int .i8 0, Value.slice none 0 0] : List Value))) rfl (fun _ => rfl) rfl ?_
  intro b8 w hs
  show G _ _ _ _ [_, _, _, _, _, _, _, _, _, _, _, _, _, _, _, _, _, _, _, _, _, _, _, _, _, _, _, _, _, _, _, _, _, _, _, _, _, _, _, _, _, _, _, _, _, _, _, _, _, _, _, _, _, _, _, _] _
  refine s_storeAll (n := 3) hs rfl rfl rfl (vs := (([Value.int .i8 (i8w a1), Value.int .i8 (i8w a2), Value.slice none 0 0] : List Value))) rfl rfl rfl (fun _ => rfl) rfl (by simp [Value.oneCell']) ?_
  intro w hs
  refine g_ops_nil ?_
  obtain ⟨o1_, Ho, Hr1_⟩ := bind_get H
  refine g_block_join (J := fun t w => spec_l06Play.a0 N = some r ∧ Fr t (fun O => ([O 0, O 1, O 2, O 3, O 4, O 5, O 6, O 7, O 8, O 9, O 10, O 11, O 12, O 13, O 14, O 15, O 16, O 17, O 18, O 19, O 20, O 21, O 22, O 23, O 24, O 25, O 26, O 27, O 28, O 29, O 30, O 31, O 32, O 33, O 34, O 35, O 36, O 37, O 38, O 39, O 40, O 41, O 42, O 43, O 44, O 45, O 46, O 47, O 48, O 49, O 50, O 51, O 52, O 53, O 54, O 55] : List Value)) ∧ St w0 [] w) ?_ ?_
  ·
   rintro t w ⟨H, hf, hs⟩
   obtain ⟨O, rfl⟩ := hf.open
   show G _ _ _ _ [_, _, _, _, _, _, _, _, _, _, _, _, _, _, _, _, _, _, _, _, _, _, _, _, _, _, _, _, _, _, _, _, _, _, _, _, _, _, _, _, _, _, _, _, _, _, _, _, _, _, _, _, _, _, _, _] _
   unfold spec_l06Play.a0 at H
   cases H
  ·
   intro ha1_
   have hs := hs.nil 64 k_S_impl_Ask
   have hs := hs.pull 1 rfl
   have hs := hs.pull 1 rfl
   have hs := hs.pull 2 rfl
   have hs : St _ [_, _, _] _ := St.take (Γ' := []) hs
   refine g_loop_fuel (I := fun n_ t w => ∃ x28 : Int, ∃ x29 : Int, ∃ v31 : Value, ∃ x32 : (List S_impl_Ask), rounds (fun s => spec_l06Play.b0 N a4 a3 s.1 s.2.1 s.2.2) n_ (x28, x29, x32) = some o1_ ∧ Fr t (fun O => ([O 0, O 1, Value.int .i64 a3, v5, O 4, O 5, O 6, O 7, Value.pointer (some ⟨b6, 0, none⟩), O 9, O 10, Value.pointer (some ⟨b8, 0, none⟩), O 12, O 13, O 14, O 15, O 16, O 17, O 18, O 19, O 20, O 21, O 22, O 23, O 24, O 25, O 26, O 27, O 28, O 29, O 30, O 31, O 32, O 33, O 34, O 35, O 36, O 37, O 38, O 39, O 40, O 41, O 42, O 43, O 44, O 45, O 46, O 47, O 48, O 49, O 50, O 51, O 52, O 53, O 54, O 55] : List Value)) ∧ St w0 [Cells b6 (([Value.int .i8 0, Value.int .i8 0, Value.slice none 0 0] : List Value)) 31, Row 64 k_S_impl_Ask v31 x32, Cells b8 (([Value.int .i8 x28, Value.int .i8 x29, v31] : List Value)) 31] w) N ⟨i8w a1, i8w a2, Value.slice none 0 0, [], Ho, rfl, hs⟩ ?_ ?_
   ·
    rintro _ _ ⟨x28, x29, v31, x32, h, _⟩
    exact rounds_zero h
   ·
    intro n_ ih1_
    rintro t w ⟨x28, x29, v31, x32, Ho, hf, hs⟩
    obtain ⟨O, rfl⟩ := hf.open
    show G _ _ _ _ [_, _, _, _, _, _, _, _, _, _, _, _, _, _, _, _, _, _, _, _, _, _, _, _, _, _, _, _, _, _, _, _, _, _, _, _, _, _, _, _, _, _, _, _, _, _, _, _, _, _, _, _, _, _, _, _] _
    obtain ⟨x3_, H, Hx1_⟩ := rounds_succ Ho
    have H : spec_l06Play.b0 N a4 a3 x28 x29 x32 = some x3_ := H
    unfold spec_l06Play.b0 at H
    refine g_block_join (J := (fun t w => ∃ x46 : Int, ∃ x47 : Int, ∃ v48 : Value, ∃ x49 : (List S_impl_Ask), spec_l06Play.j2 N x46 x47 x49 = some x3_ ∧ Fr t (fun O => ([O 0, O 1, Value.int .i64 a3, v5, O 4, O 5, O 6, O 7, Value.pointer (some ⟨b6, 0, none⟩), O 9, O 10, Value.pointer (some ⟨b8, 0, none⟩), O 12, O 13, O 14, O 15, O 16, O 17, O 18, O 19, O 20, O 21, O 22, O 23, O 24, O 25, O 26, O 27, O 28, O 29, O 30, O 31, O 32, O 33, O 34, O 35, O 36, O 37, O 38, O 39, O 40, O 41, O 42, O 43, O 44, O 45, O 46, O 47, O 48, O 49, O 50, O 51, O 52, O 53, O 54, O 55] : List Value)) ∧ St w0 [Cells b6 (([Value.int .i8 0, Value.int .i8 0, Value.slice none 0 0] : List Value)) 31, Cells b8 (([Value.int .i8 x46, Value.int .i8 x47, v48] : List Value)) 31, Row 64 k_S_impl_Ask v48 x49] w)) ?_ ?_
    ·
     rintro t w ⟨x46, x47, v48, x49, H, hf, hs⟩
     obtain ⟨O, rfl⟩ := hf.open
     show G _ _ _ _ [_, _, _, _, _, _, _, _, _, _, _, _, _, _, _, _, _, _, _, _, _, _, _, _, _, _, _, _, _, _, _, _, _, _, _, _, _, _, _, _, _, _, _, _, _, _, _, _, _, _, _, _, _, _, _, _] _
     unfold spec_l06Play.j2 at H
     obtain rfl := Option.some.inj H
     have hs := hs.pull 1 rfl
     have hs := hs.pull 2 rfl
     have hs := hs.pull 2 rfl
     have hs : St _ [_, _, _] _ := St.take (Γ' := []) hs
     exact ih1_ _ _ ⟨x46, x47, v48, x49, Hx1_, rfl, hs⟩
    ·
     intro ha
     refine g_seq ?_
     refine g_region ?_
     show G _ _ _ (.inRegion _ [0, 1, 2, 3, 4, 5] :: _) _ _
     obtain ⟨r33, Hr33, H⟩ := bind_get H
     refine s_call (args := [Value.pointer (some ⟨b8, 0, none⟩)]) rfl rfl (x_call rfl (callFunc_enter Try.func28 rfl rfl) rfl) (spec_l06Found.calls (a1 := (⟨x28, x29, x32⟩ : S_impl_Game)) (hs.row 1 rfl) (hs.cells 2 rfl) Hr33) ?_
     rintro _ w ⟨rfl, hs2⟩
     have hs : St _ [_, _, _] _ := hs.call hs2
     show G _ _ _ _ [_, _, _, _, _, _, _, _, _, _, _, _, _, _, _, _, _, _, _, _, _, _, _, _, _, _, _, _, _, _, _, _, _, _, _, _, _, _, _, _, _, _, _, _, _, _, _, _, _, _, _, _, _, _, _, _] _
     refine g_op (v := Value.tuple #[Value.int .i64 r33.1, Value.int .i64 r33.2]) rfl rfl rfl ?_
     refine g_op (v := Value.int .i64 r33.1) rfl rfl rfl ?_
     refine g_op (v := Value.int .i64 r33.2) rfl rfl rfl ?_
     refine g_op (v := Value.int .i64 r33.1) rfl rfl rfl ?_
     show G _ _ _ _ [_, _, _, _, _, _, _, _, _, _, _, _, _, _, _, _, _, _, _, _, _, _, _, _, _, _, _, _, _, _, _, _, _, _, _, _, _, _, _, _, _, _, _, _, _, _, _, _, _, _, _, _, _, _, _, _] _
     refine g_op (v := Value.int .i64 r33.2) rfl rfl rfl ?_
     show G _ _ _ _ [_, _, _, _, _, _, _, _, _, _, _, _, _, _, _, _, _, _, _, _, _, _, _, _, _, _, _, _, _, _, _, _, _, _, _, _, _, _, _, _, _, _, _, _, _, _, _, _, _, _, _, _, _, _, _, _] _
     refine g_ops_nil ?_
     refine g_seq ?_
     refine g_seq ?_
     refine g_region ?_
     show G _ _ _ (.inRegion _ [0, 1] :: _) _ _
     refine g_op (v := Value.int .i64 r33.2) rfl rfl rfl ?_
     refine g_op_b (B := r33.2 == 0) rfl rfl rfl ?_ ?_
     ·
      intro hb
      rw [if_pos (b_beq_t hb)] at H
      show G _ _ _ _ [_, _, _, _, _, _, _, _, _, _, _, _, _, _, _, _, _, _, _, _, _, _, _, _, _, _, _, _, _, _, _, _, _, _, _, _, _, _, _, _, _, _, _, _, _, _, _, _, _, _, _, _, _, _, _, _] _
      refine g_ops_nil ?_
      refine g_cond_true rfl ?_
      refine g_seq ?_
      refine g_region ?_
      show G _ _ _ (.inRegion _ [0, 1, 2, 3, 4] :: _) _ _
      refine s_loadA rfl rfl (es := (([Value.int .i8 x28, Value.int .i8 x29, v31] : List Value))) rfl rfl (fun _ => rfl) (n := 3) (fun _ => rfl) rfl (cells_all (hs.cells 2 rfl)) ?_
      show G _ _ _ _ [_, _, _, _, _, _, _, _, _, _, _, _, _, _, _, _, _, _, _, _, _, _, _, _, _, _, _, _, _, _, _, _, _, _, _, _, _, _, _, _, _, _, _, _, _, _, _, _, _, _, _, _, _, _, _, _] _
      refine g_op (v := Value.int .i64 r33.1) rfl rfl rfl ?_
      refine s_storeAll (n := 3) hs rfl rfl rfl (vs := (([Value.int .i8 x28, Value.int .i8 x29, v31] : List Value))) rfl rfl rfl (fun _ => rfl) rfl (by intro v hv; simp only [List.mem_append, List.mem_cons, List.not_mem_nil, or_false] at hv; repeat (first | (subst hv; first | rfl | exact slOne (hs.row 1 rfl)) | (rcases hv with hv | hv))) ?_
      intro w hs
      refine g_op (v := Value.int .i64 r33.1) rfl rfl rfl ?_
      show G _ _ _ _ [_, _, _, _, _, _, _, _, _, _, _, _, _, _, _, _, _, _, _, _, _, _, _, _, _, _, _, _, _, _, _, _, _, _, _, _, _, _, _, _, _, _, _, _, _, _, _, _, _, _, _, _, _, _, _, _] _
      refine g_op (v := Value.int .i64 0) rfl rfl rfl ?_
      show G _ _ _ _ [_, _, _, _, _, _, _, _, _, _, _, _, _, _, _, _, _, _, _, _, _, _, _, _, _, _, _, _, _, _, _, _, _, _, _, _, _, _, _, _, _, _, _, _, _, _, _, _, _, _, _, _, _, _, _, _] _
      refine g_ops_nil ?_
      obtain rfl := Option.some.inj H
      subst Hx1_
      have H := Option.some.inj Hr1_
      subst H
      refine g_ret Try.func36 (v := Value.tuple #[Value.agg (([Value.int .i8 x28, Value.int .i8 x29, v31] : List Value)).toArray, Value.int .i64 r33.1, Value.int .i64 0]) (resN (l := Try.f36.results.toList) (vs := [Value.agg (([Value.int .i8 x28, Value.int .i8 x29, v31] : List Value)).toArray, Value.int .i64 r33.1, Value.int .i64 0]) rfl ⟨⟨_, rfl, (run_loadVar_agg (es := (([Value.int .i8 x28, Value.int .i8 x29, v31] : List Value))) rfl rfl (cells_all (hs.cells 0 rfl)))⟩, rfl, rfl, trivial⟩ (by simp)) ?_
      have hs := hs.pull 1 rfl
      have hs : St _ [_] _ := St.take (Γ' := [_, _]) hs
      exact ⟨_, rfl, v31, rfl, hs⟩
     ·
      intro hb
      rw [if_neg (b_beq_f hb)] at H
      show G _ _ _ _ [_, _, _, _, _, _, _, _, _, _, _, _, _, _, _, _, _, _, _, _, _, _, _, _, _, _, _, _, _, _, _, _, _, _, _, _, _, _, _, _, _, _, _, _, _, _, _, _, _, _, _, _, _, _, _, _] _
      refine g_ops_nil ?_
      refine g_cond_false rfl ?_
      refine g_skip ?_
      refine g_seq ?_
      refine g_seq ?_
      refine g_region ?_
      show G _ _ _ (.inRegion _ [0, 1] :: _) _ _
      refine g_op (v := Value.int .i64 r33.2) rfl rfl rfl ?_
      refine g_op_b (B := r33.2 == 8) rfl rfl rfl ?_ ?_
      ·
       intro hb
       rw [if_pos (b_beq_t hb)] at H
       show G _ _ _ _ [_, _, _, _, _, _, _, _, _, _, _, _, _, _, _, _, _, _, _, _, _, _, _, _, _, _, _, _, _, _, _, _, _, _, _, _, _, _, _, _, _, _, _, _, _, _, _, _, _, _, _, _, _, _, _, _] _
       refine g_ops_nil ?_
       refine g_cond_true rfl ?_
       refine g_seq ?_
       refine g_region ?_
       show G _ _ _ (.inRegion _ [0, 1, 2, 3] :: _) _ _
       refine g_op (v := Value.agg (([Value.int .i8 0, Value.int .i8 0, Value.slice none 0 0] : List Value)).toArray) rfl rfl (x_buildS (cs := (([Value.int .i8 0, Value.int .i8 0, Value.slice none 0 0] : List Value))) (segs := [[Value.int .i8 0], [Value.int .i8 0], [Value.slice none 0 0]]) rfl rfl (fun _ => rfl) ⟨rfl, (fun _ => rfl), rfl, (fun _ => rfl), rfl, (fun _ => rfl), trivial⟩ (by simp) (by first | rfl | (simp [ev, encA]; done) | (simp [ev, encA]; rfl))) ?_
       show G _ _ _ _ [_, _, _, _, _, _, _, _, _, _, _, _, _, _, _, _, _, _, _, _, _, _, _, _, _, _, _, _, _, _, _, _, _, _, _, _, _, _, _, _, _, _, _, _, _, _, _, _, _, _, _, _, _, _, _, _] _
       refine s_storeAll (n := 3) hs rfl rfl rfl (vs := (([Value.int .i8 0, Value.int .i8 0, Value.slice none 0 0] : List Value))) rfl rfl rfl (fun _ => rfl) rfl (by simp [Value.oneCell']) ?_
       intro w hs
       refine g_op (v := Value.int .i64 0) rfl rfl rfl ?_
       show G _ _ _ _ [_, _, _, _, _, _, _, _, _, _, _, _, _, _, _, _, _, _, _, _, _, _, _, _, _, _, _, _, _, _, _, _, _, _, _, _, _, _, _, _, _, _, _, _, _, _, _, _, _, _, _, _, _, _, _, _] _
       refine g_op (v := Value.int .i64 8) rfl rfl rfl ?_
       show G _ _ _ _ [_, _, _, _, _, _, _, _, _, _, _, _, _, _, _, _, _, _, _, _, _, _, _, _, _, _, _, _, _, _, _, _, _, _, _, _, _, _, _, _, _, _, _, _, _, _, _, _, _, _, _, _, _, _, _, _] _
       refine g_ops_nil ?_
       obtain rfl := Option.some.inj H
       subst Hx1_
       have H := Option.some.inj Hr1_
       subst H
       refine g_ret Try.func36 (v := Value.tuple #[Value.agg (([Value.int .i8 0, Value.int .i8 0, Value.slice none 0 0] : List Value)).toArray, Value.int .i64 0, Value.int .i64 8]) (resN (l := Try.f36.results.toList) (vs := [Value.agg (([Value.int .i8 0, Value.int .i8 0, Value.slice none 0 0] : List Value)).toArray, Value.int .i64 0, Value.int .i64 8]) rfl ⟨⟨_, rfl, (run_loadVar_agg (es := (([Value.int .i8 0, Value.int .i8 0, Value.slice none 0 0] : List Value))) rfl rfl (cells_all (hs.cells 0 rfl)))⟩, rfl, rfl, trivial⟩ (by simp)) ?_
       have hs := hs.nil 64 k_S_impl_Ask
       have hs := hs.pull 0 rfl
       have hs : St _ [_] _ := St.take (Γ' := [_, _, _]) hs
       exact ⟨_, rfl, (Value.slice none 0 0), rfl, hs⟩
      ·
       intro hb
       rw [if_neg (b_beq_f hb)] at H
       show G _ _ _ _ [_, _, _, _, _, _, _, _, _, _, _, _, _, _, _, _, _, _, _, _, _, _, _, _, _, _, _, _, _, _, _, _, _, _, _, _, _, _, _, _, _, _, _, _, _, _, _, _, _, _, _, _, _, _, _, _] _
       refine g_ops_nil ?_
       refine g_cond_false rfl ?_
       refine g_skip ?_
       refine g_seq ?_
       refine g_region ?_
       show G _ _ _ (.inRegion _ [0, 1, 2, 3] :: _) _ _
       refine g_op (v := Value.pointer (some ⟨b8, 2, none⟩)) rfl rfl rfl ?_
       refine s_load1 rfl rfl (v := v31) rfl rfl (fun _ => rfl) (cells_load (hs.cells 2 rfl) 2 1 rfl) ?_
       show G _ _ _ _ [_, _, _, _, _, _, _, _, _, _, _, _, _, _, _, _, _, _, _, _, _, _, _, _, _, _, _, _, _, _, _, _, _, _, _, _, _, _, _, _, _, _, _, _, _, _, _, _, _, _, _, _, _, _, _, _] _
       refine s_len (hs.row 1 rfl) rfl rfl rfl rfl rfl ?_
       show G _ _ _ _ [_, _, _, _, _, _, _, _, _, _, _, _, _, _, _, _, _, _, _, _, _, _, _, _, _, _, _, _, _, _, _, _, _, _, _, _, _, _, _, _, _, _, _, _, _, _, _, _, _, _, _, _, _, _, _, _] _
       refine g_op (v := Value.int .i64 (x32.length : Int)) rfl rfl rfl ?_
       show G _ _ _ _ [_, _, _, _, _, _, _, _, _, _, _, _, _, _, _, _, _, _, _, _, _, _, _, _, _, _, _, _, _, _, _, _, _, _, _, _, _, _, _, _, _, _, _, _, _, _, _, _, _, _, _, _, _, _, _, _] _
       refine g_ops_nil ?_
       refine g_seq ?_
       refine g_seq ?_
       refine g_region ?_
       show G _ _ _ (.inRegion _ [0, 1] :: _) _ _
       refine g_op (v := Value.int .i64 (x32.length : Int)) rfl rfl rfl ?_
       refine g_op_b (B := (x32.length : Int) == 60) rfl rfl rfl ?_ ?_
       ·
        intro hb
        rw [if_pos (b_beq_t hb)] at H
        show G _ _ _ _ [_, _, _, _, _, _, _, _, _, _, _, _, _, _, _, _, _, _, _, _, _, _, _, _, _, _, _, _, _, _, _, _, _, _, _, _, _, _, _, _, _, _, _, _, _, _, _, _, _, _, _, _, _, _, _, _] _
        refine g_ops_nil ?_
        refine g_cond_true rfl ?_
        refine g_seq ?_
        refine g_region ?_
        show G _ _ _ (.inRegion _ [0, 1, 2, 3] :: _) _ _
        refine g_op (v := Value.agg (([Value.int .i8 0, Value.int .i8 0, Value.slice none 0 0] : List Value)).toArray) rfl rfl (x_buildS (cs := (([Value.int .i8 0, Value.int .i8 0, Value.slice none 0 0] : List Value))) (segs := [[Value.int .i8 0], [Value.int .i8 0], [Value.slice none 0 0]]) rfl rfl (fun _ => rfl) ⟨rfl, (fun _ => rfl), rfl, (fun _ => rfl), rfl, (fun _ => rfl), trivial⟩ (by simp) (by first | rfl | (simp [ev, encA]; done) | (simp [ev, encA]; rfl))) ?_
        show G _ _ _ _ [_, _, _, _, _, _, _, _, _, _, _, _, _, _, _, _, _, _, _, _, _, _, _, _, _, _, _, _, _, _, _, _, _, _, _, _, _, _, _, _, _, _, _, _, _, _, _, _, _, _, _, _, _, _, _, _] _
        refine s_storeAll (n := 3) hs rfl rfl rfl (vs := (([Value.int .i8 0, Value.int .i8 0, Value.slice none 0 0] : List Value))) rfl rfl rfl (fun _ => rfl) rfl (by simp [Value.oneCell']) ?_
        intro w hs
        refine g_op (v := Value.int .i64 0) rfl rfl rfl ?_
        show G _ _ _ _ [_, _, _, _, _, _, _, _, _, _, _, _, _, _, _, _, _, _, _, _, _, _, _, _, _, _, _, _, _, _, _, _, _, _, _, _, _, _, _, _, _, _, _, _, _, _, _, _, _, _, _, _, _, _, _, _] _
        refine g_op (v := Value.int .i64 7) rfl rfl rfl ?_
        show G _ _ _ _ [_, _, _, _, _, _, _, _, _, _, _, _, _, _, _, _, _, _, _, _, _, _, _, _, _, _, _, _, _, _, _, _, _, _, _, _, _, _, _, _, _, _, _, _, _, _, _, _, _, _, _, _, _, _, _, _] _
        refine g_ops_nil ?_
        obtain rfl := Option.some.inj H
        subst Hx1_
        have H := Option.some.inj Hr1_
        subst H
        refine g_ret Try.func36 (v := Value.tuple #[Value.agg (([Value.int .i8 0, Value.int .i8 0, Value.slice none 0 0] : List Value)).toArray, Value.int .i64 0, Value.int .i64 7]) (resN (l := Try.f36.results.toList) (vs := [Value.agg (([Value.int .i8 0, Value.int .i8 0, Value.slice none 0 0] : List Value)).toArray, Value.int .i64 0, Value.int .i64 7]) rfl ⟨⟨_, rfl, (run_loadVar_agg (es := (([Value.int .i8 0, Value.int .i8 0, Value.slice none 0 0] : List Value))) rfl rfl (cells_all (hs.cells 0 rfl)))⟩, rfl, rfl, trivial⟩ (by simp)) ?_
        have hs := hs.nil 64 k_S_impl_Ask
        have hs := hs.pull 0 rfl
        have hs : St _ [_] _ := St.take (Γ' := [_, _, _]) hs
        exact ⟨_, rfl, (Value.slice none 0 0), rfl, hs⟩
       ·
        intro hb
        rw [if_neg (b_beq_f hb)] at H
        show G _ _ _ _ [_, _, _, _, _, _, _, _, _, _, _, _, _, _, _, _, _, _, _, _, _, _, _, _, _, _, _, _, _, _, _, _, _, _, _, _, _, _, _, _, _, _, _, _, _, _, _, _, _, _, _, _, _, _, _, _] _
        refine g_ops_nil ?_
        refine g_cond_false rfl ?_
        refine g_skip ?_
        refine g_seq ?_
        refine g_region ?_
        show G _ _ _ (.inRegion _ [0, 1, 2, 3] :: _) _ _
        obtain ⟨r34, Hr34, H⟩ := bind_get H
        refine s_call (args := [Value.pointer (some ⟨b8, 0, none⟩)]) rfl rfl (x_call rfl (callFunc_enter Try.func57 rfl rfl) rfl) (spec_l06State.calls (a1 := (⟨x28, x29, x32⟩ : S_impl_Game)) (hs.row 1 rfl) (hs.cells 2 rfl) Hr34) ?_
        rintro _ w ⟨rfl, hs2⟩
        have hs : St _ [_, _, _] _ := hs.call hs2
        show G _ _ _ _ [_, _, _, _, _, _, _, _, _, _, _, _, _, _, _, _, _, _, _, _, _, _, _, _, _, _, _, _, _, _, _, _, _, _, _, _, _, _, _, _, _, _, _, _, _, _, _, _, _, _, _, _, _, _, _, _] _
        obtain ⟨r35, Hr35, H⟩ := bind_get H
        refine s_call (args := [Value.agg ((encA (encI .i64)) r34).toArray]) rfl rfl (x_call rfl (callFunc_enter Try.func56 rfl rfl) rfl) (spec_l06Half.calls (a1 := r34) Hr35) ?_
        rintro _ w ⟨rfl, hs2⟩
        have hs : St _ [_, _, _] _ := hs.call hs2
        show G _ _ _ _ [_, _, _, _, _, _, _, _, _, _, _, _, _, _, _, _, _, _, _, _, _, _, _, _, _, _, _, _, _, _, _, _, _, _, _, _, _, _, _, _, _, _, _, _, _, _, _, _, _, _, _, _, _, _, _, _] _
        obtain ⟨r36, Hr36, H⟩ := bind_get H
        refine s_call (args := [Value.pointer (some ⟨b8, 0, none⟩), Value.agg ((encA (encI .i64)) r35).toArray]) rfl rfl (x_call rfl (callFunc_enter Try.func55 rfl rfl) rfl) (spec_l06Set.calls (a1 := (⟨x28, x29, x32⟩ : S_impl_Game)) (a6 := r35) (hs.row 1 rfl) (hs.cells 2 rfl) Hr36) ?_
        rintro _ w ⟨rfl, hs2⟩
        have hs : St _ [_, _, _] _ := hs.call hs2
        show G _ _ _ _ [_, _, _, _, _, _, _, _, _, _, _, _, _, _, _, _, _, _, _, _, _, _, _, _, _, _, _, _, _, _, _, _, _, _, _, _, _, _, _, _, _, _, _, _, _, _, _, _, _, _, _, _, _, _, _, _] _
        refine g_op (v := Value.int .u64 r36) rfl rfl rfl ?_
        show G _ _ _ _ [_, _, _, _, _, _, _, _, _, _, _, _, _, _, _, _, _, _, _, _, _, _, _, _, _, _, _, _, _, _, _, _, _, _, _, _, _, _, _, _, _, _, _, _, _, _, _, _, _, _, _, _, _, _, _, _] _
        refine g_ops_nil ?_
        refine g_region ?_
        show G _ _ _ (.inRegion _ [0, 1, 2, 3, 4, 5, 6, 7, 8, 9, 10, 11, 12, 13, 14, 15] :: _) _ _
        refine g_op (v := Value.int .u64 r36) rfl rfl rfl ?_
        refine g_op (v := Value.int .u64 r36) rfl rfl rfl ?_
        refine g_op (v := Value.int .i64 a3) rfl rfl rfl ?_
        refine g_op (v := Value.int .i64 (x32.length : Int)) rfl rfl rfl ?_
        refine g_op (v := v5) rfl rfl rfl ?_
        refine s_len (hs.rd hr3) rfl rfl rfl rfl rfl ?_
        show G _ _ _ _ [_, _, _, _, _, _, _, _, _, _, _, _, _, _, _, _, _, _, _, _, _, _, _, _, _, _, _, _, _, _, _, _, _, _, _, _, _, _, _, _, _, _, _, _, _, _, _, _, _, _, _, _, _, _, _, _] _
        refine g_op_b (B := decide ((x32.length : Int) < (a4.length : Int))) rfl rfl rfl ?_ ?_
        ·
         intro hb
         rw [if_pos (b_dec_t hb)] at H
         show G _ _ _ _ [_, _, _, _, _, _, _, _, _, _, _, _, _, _, _, _, _, _, _, _, _, _, _, _, _, _, _, _, _, _, _, _, _, _, _, _, _, _, _, _, _, _, _, _, _, _, _, _, _, _, _, _, _, _, _, _] _
         refine g_op (v := Value.bool true) rfl rfl rfl ?_
         refine g_op (v := v5) rfl rfl rfl ?_
         refine g_op (v := Value.int .i64 (x32.length : Int)) rfl rfl rfl ?_
         obtain ⟨g2, H⟩ := ite_get H
         refine s_idx fkB false (hs.rd hr3) rfl (fun _ => rfl) g2.1 g2.2 rfl rfl rfl rfl rfl ?_
         intro p37 hp37 lp37 op37
         show G _ _ _ _ [_, _, _, _, _, _, _, _, _, _, _, _, _, _, _, _, _, _, _, _, _, _, _, _, _, _, _, _, _, _, _, _, _, _, _, _, _, _, _, _, _, _, _, _, _, _, _, _, _, _, _, _, _, _, _, _] _
         refine s_load1 rfl rfl (v := Value.bool (rdL a4 (x32.length : Int) false)) rfl rfl (fun _ => rfl) hp37 ?_
         show G _ _ _ _ [_, _, _, _, _, _, _, _, _, _, _, _, _, _, _, _, _, _, _, _, _, _, _, _, _, _, _, _, _, _, _, _, _, _, _, _, _, _, _, _, _, _, _, _, _, _, _, _, _, _, _, _, _, _, _, _] _
         refine g_op (v := Value.bool (rdL a4 (x32.length : Int) false)) rfl rfl rfl ?_
         show G _ _ _ _ [_, _, _, _, _, _, _, _, _, _, _, _, _, _, _, _, _, _, _, _, _, _, _, _, _, _, _, _, _, _, _, _, _, _, _, _, _, _, _, _, _, _, _, _, _, _, _, _, _, _, _, _, _, _, _, _] _
         obtain ⟨r38, Hr38, H⟩ := bind_get H
         refine s_call (args := [Value.int .u64 r36, Value.int .i64 a3, Value.bool (rdL a4 (x32.length : Int) false)]) rfl rfl (x_call rfl (callFunc_enter Try.func59 rfl rfl) rfl) (spec_AnswerTo.calls (a1 := r36) (a2 := a3) (a3 := rdL a4 (x32.length : Int) false) Hr38) ?_
         rintro _ w ⟨rfl, hs2⟩
         have hs : St _ [_, _, _] _ := hs.call hs2
         show G _ _ _ _ [_, _, _, _, _, _, _, _, _, _, _, _, _, _, _, _, _, _, _, _, _, _, _, _, _, _, _, _, _, _, _, _, _, _, _, _, _, _, _, _, _, _, _, _, _, _, _, _, _, _, _, _, _, _, _, _] _
         obtain ⟨r39, Hr39, H⟩ := bind_get H
         refine s_call (args := [Value.pointer (some ⟨b8, 0, none⟩), Value.int .u64 r36, Value.bool r38]) rfl rfl (x_call rfl (callFunc_enter Try.func58 rfl rfl) rfl) (spec_l06With.calls (a1 := (⟨x28, x29, x32⟩ : S_impl_Game)) (a6 := r36) (a7 := r38) (hs.row 1 rfl) (hs.cells 2 rfl) Hr39) ?_
         rintro _ w ⟨v40, rfl, hs2⟩
         have hs : St _ [_, _, _, _] _ := hs.call hs2
         show G _ _ _ _ [_, _, _, _, _, _, _, _, _, _, _, _, _, _, _, _, _, _, _, _, _, _, _, _, _, _, _, _, _, _, _, _, _, _, _, _, _, _, _, _, _, _, _, _, _, _, _, _, _, _, _, _, _, _, _, _] _
         have hs := hs.pull 3 rfl
         have hs : St _ [_, _, _, _] _ := hs
         refine s_storeAll (n := 3) hs rfl rfl rfl (vs := (([Value.int .i8 r39.f_Numbers, Value.int .i8 r39.f_Lies, v40] : List Value))) rfl rfl rfl (fun _ => rfl) rfl (by intro v hv; simp only [List.mem_append, List.mem_cons, List.not_mem_nil, or_false] at hv; repeat (first | (subst hv; first | rfl | exact slOne (hs.row 1 rfl)) | (rcases hv with hv | hv))) ?_
         intro w hs
         refine g_ops_nil ?_
         refine g_inBlock ?_
         have hs := hs.pull 1 rfl
         have hs := hs.pull 1 rfl
         have hs := hs.pull 2 rfl
         have hs : St _ [_, _, _] _ := St.take (Γ' := [_]) hs
         exact ha _ _ ⟨r39.f_Numbers, r39.f_Lies, v40, r39.f_Asked, H, rfl, hs⟩
        ·
         intro hb
         rw [if_neg (b_dec_f hb)] at H
         show G _ _ _ _ [_, _, _, _, _, _, _, _, _, _, _, _, _, _, _, _, _, _, _, _, _, _, _, _, _, _, _, _, _, _, _, _, _, _, _, _, _, _, _, _, _, _, _, _, _, _, _, _, _, _, _, _, _, _, _, _] _
         refine g_op (v := Value.bool false) rfl rfl rfl ?_
         refine g_op_not rfl rfl ?_
         refine g_op_not rfl rfl ?_
         refine g_op_not rfl rfl ?_
         show G _ _ _ _ [_, _, _, _, _, _, _, _, _, _, _, _, _, _, _, _, _, _, _, _, _, _, _, _, _, _, _, _, _, _, _, _, _, _, _, _, _, _, _, _, _, _, _, _, _, _, _, _, _, _, _, _, _, _, _, _] _
         refine g_op_not rfl rfl ?_
         show G _ _ _ _ [_, _, _, _, _, _, _, _, _, _, _, _, _, _, _, _, _, _, _, _, _, _, _, _, _, _, _, _, _, _, _, _, _, _, _, _, _, _, _, _, _, _, _, _, _, _, _, _, _, _, _, _, _, _, _, _] _
         refine g_op (v := Value.bool false) rfl rfl rfl ?_
         show G _ _ _ _ [_, _, _, _, _, _, _, _, _, _, _, _, _, _, _, _, _, _, _, _, _, _, _, _, _, _, _, _, _, _, _, _, _, _, _, _, _, _, _, _, _, _, _, _, _, _, _, _, _, _, _, _, _, _, _, _] _
         obtain ⟨r42, Hr42, H⟩ := bind_get H
         refine s_call (args := [Value.int .u64 r36, Value.int .i64 a3, Value.bool false]) rfl rfl (x_call rfl (callFunc_enter Try.func59 rfl rfl) rfl) (spec_AnswerTo.calls (a1 := r36) (a2 := a3) (a3 := false) Hr42) ?_
         rintro _ w ⟨rfl, hs2⟩
         have hs : St _ [_, _, _] _ := hs.call hs2
         show G _ _ _ _ [_, _, _, _, _, _, _, _, _, _, _, _, _, _, _, _, _, _, _, _, _, _, _, _, _, _, _, _, _, _, _, _, _, _, _, _, _, _, _, _, _, _, _, _, _, _, _, _, _, _, _, _, _, _, _, _] _
         obtain ⟨r43, Hr43, H⟩ := bind_get H
         refine s_call (args := [Value.pointer (some ⟨b8, 0, none⟩), Value.int .u64 r36, Value.bool r42]) rfl rfl (x_call rfl (callFunc_enter Try.func58 rfl rfl) rfl) (spec_l06With.calls (a1 := (⟨x28, x29, x32⟩ : S_impl_Game)) (a6 := r36) (a7 := r42) (hs.row 1 rfl) (hs.cells 2 rfl) Hr43) ?_
         rintro _ w ⟨v44, rfl, hs2⟩
         have hs : St _ [_, _, _, _] _ := hs.call hs2
         show G _ _ _ _ [_, _, _, _, _, _, _, _, _, _, _, _, _, _, _, _, _, _, _, _, _, _, _, _, _, _, _, _, _, _, _, _, _, _, _, _, _, _, _, _, _, _, _, _, _, _, _, _, _, _, _, _, _, _, _, _] _
         have hs := hs.pull 3 rfl
         have hs : St _ [_, _, _, _] _ := hs
         refine s_storeAll (n := 3) hs rfl rfl rfl (vs := (([Value.int .i8 r43.f_Numbers, Value.int .i8 r43.f_Lies, v44] : List Value))) rfl rfl rfl (fun _ => rfl) rfl (by intro v hv; simp only [List.mem_append, List.mem_cons, List.not_mem_nil, or_false] at hv; repeat (first | (subst hv; first | rfl | exact slOne (hs.row 1 rfl)) | (rcases hv with hv | hv))) ?_
         intro w hs
         refine g_ops_nil ?_
         refine g_inBlock ?_
         have hs := hs.pull 1 rfl
         have hs := hs.pull 1 rfl
         have hs := hs.pull 2 rfl
         have hs : St _ [_, _, _] _ := St.take (Γ' := [_]) hs
         exact ha _ _ ⟨r43.f_Numbers, r43.f_Lies, v44, r43.f_Asked, H, rfl, hs⟩

/- function 20 spec_PlayGame -/
def spec_PlayGame.post (w0 : World) (r : (S_impl_Game × Int × Int)) (v : Value) (w : World) : Prop := ∃ u1 : Value, v = Value.tuple #[Value.agg (([Value.int .i8 r.1.f_Numbers, Value.int .i8 r.1.f_Lies, u1] : List Value)).toArray, Value.int .i64 r.2.1, Value.int .i64 r.2.2] ∧ St w0 [Row 64 k_S_impl_Ask u1 r.1.f_Asked] w
set_option maxHeartbeats 8000000 in
set_option maxRecDepth 100000 in
theorem spec_PlayGame.calls {N : Nat} {a1 : Int} {a2 : Int} {a3 : Int} {a4 : (List Bool)} {v5 : Value} {w0 : World} {r : (S_impl_Game × Int × Int)} (hr3 : RdRow K.bool w0 v5 a4) (H : spec_PlayGame.f N a1 a2 a3 a4 = some r) :
    Calls Try.prog 20 #[Value.int .i64 a1, Value.int .i64 a2, Value.int .i64 a3, v5] w0 fun e w => ∃ v, e = .returned v ∧ spec_PlayGame.post w0 r v w := by
  unfold spec_PlayGame.f at H
  have hs : St w0 [] w0 := St.refl w0
  refine calls_of_g (n := 27) Try.func20 rfl rfl ?_
  show G _ _ _ _ [_, _, _, _, _, _, _, _, _, _, _, _, _, _, _, _, _, _, _, _, _, _, _, _, _, _, _, _, _, _, _] _
  refine g_seq ?_
  refine g_region ?_
  show G _ _ _ (.inRegion _ [0, 1, 2] :: _) _ _
  refine s_alloc hs rfl rfl (z := (Value.agg #[Value.int .i8 0, Value.int .i8 0, Value.slice none 0 0])) (cs := (([Value.int .i8 0, Value.int .i8 0, Value.slice none 0 0] : List Value))) rfl (fun _ => rfl) rfl ?_
  intro b6 w hs
  show G _ _ _ _ [_, _, _, _, _, _, _, _, _, _, _, _, _, _, _, _, _, _, _, _, _, _, _, _, _, _, _, _, _, _, _] _
  refine g_op (v := Value.int .i64 0) rfl rfl rfl ?_
  show G _ _ _ _ [_, _, _, _, _, _, _, _, _, _, _, _, _, _, _, _, _, _, _, _, _, _, _, _, _, _, _, _, _, _, _] _
  refine g_op (v := Value.int .i64 0) rfl rfl rfl ?_
  show G _ _ _ _ [_, _, _, _, _, _, _, _, _, _, _, _, _, _, _, _, _, _, _, _, _, _, _, _, _, _, _, _, _, _, _] _
  refine g_ops_nil ?_
  refine g_seq ?_
  refine g_seq ?_
  refine g_region ?_
  show G _ _ _ (.inRegion _ [0, 1, 2, 3, 4, 5, 6, 7, 8, 9, 10] :: _) _ _
  refine g_op (v := Value.int .i64 a1) rfl rfl rfl ?_
  refine g_op (v := Value.int .i64 a2) rfl rfl rfl ?_
  obtain ⟨r8, Hr8, H⟩ := bind_get H
  refine s_call (args := [Value.int .i64 a1, Value.int .i64 a2]) rfl rfl (x_call rfl (callFunc_enter Try.func35 rfl rfl) rfl) (spec_l06Begin.calls (a1 := a1) (a2 := a2) Hr8) ?_
  rintro _ w ⟨rfl, hs2⟩
  have hs : St _ [_] _ := hs.call hs2
  cases r8 with
  | true =>
    rw [if_pos rfl] at H
    show G _ _ _ _ [_, _, _, _, _, _, _, _, _, _, _, _, _, _, _, _, _, _, _, _, _, _, _, _, _, _, _, _, _, _, _] _
    refine g_op (v := Value.bool false) rfl rfl rfl ?_
    show G _ _ _ _ [_, _, _, _, _, _, _, _, _, _, _, _, _, _, _, _, _, _, _, _, _, _, _, _, _, _, _, _, _, _, _] _
    refine g_op (v := Value.bool false) rfl rfl rfl ?_
    refine g_op (v := Value.int .i64 a3) rfl rfl rfl ?_
    refine g_op (v := Value.int .i64 a1) rfl rfl rfl ?_
    refine g_op (v := Value.int .i64 (i64w (a1 - 1))) rfl rfl rfl ?_
    show G _ _ _ _ [_, _, _, _, _, _, _, _, _, _, _, _, _, _, _, _, _, _, _, _, _, _, _, _, _, _, _, _, _, _, _] _
    obtain ⟨r9, Hr9, H⟩ := bind_get H
    refine s_call (args := [Value.int .i64 a3, Value.int .i64 0, Value.int .i64 (i64w (a1 - 1))]) rfl rfl (x_call rfl (callFunc_enter Try.func39 rfl rfl) rfl) (spec_l00In.calls (a1 := a3) (a2 := 0) (a3 := i64w (a1 - 1)) Hr9) ?_
    rintro _ w ⟨rfl, hs2⟩
    have hs : St _ [_] _ := hs.call hs2
    cases r9 with
    | true =>
      rw [if_pos rfl] at H
      show G _ _ _ _ [_, _, _, _, _, _, _, _, _, _, _, _, _, _, _, _, _, _, _, _, _, _, _, _, _, _, _, _, _, _, _] _
      refine g_op (v := Value.bool false) rfl rfl rfl ?_
      show G _ _ _ _ [_, _, _, _, _, _, _, _, _, _, _, _, _, _, _, _, _, _, _, _, _, _, _, _, _, _, _, _, _, _, _] _
      refine g_op (v := Value.bool false) rfl rfl rfl ?_
      show G _ _ _ _ [_, _, _, _, _, _, _, _, _, _, _, _, _, _, _, _, _, _, _, _, _, _, _, _, _, _, _, _, _, _, _] _
      refine g_ops_nil ?_
      refine g_cond_false rfl ?_
      refine g_skip ?_
      refine g_seq ?_
      refine g_region ?_
      show G _ _ _ (.inRegion _ [0, 1, 2, 3, 4, 5, 6, 7, 8, 9, 10] :: _) _ _
      refine g_op (v := Value.int .i64 a1) rfl rfl rfl ?_
      refine g_op (v := Value.int .i64 a2) rfl rfl rfl ?_
      refine g_op (v := Value.int .i64 a3) rfl rfl rfl ?_
      refine g_op (v := v5) rfl rfl rfl ?_
      obtain ⟨r10, Hr10, H⟩ := bind_get H
      refine s_call (args := [Value.int .i64 a1, Value.int .i64 a2, Value.int .i64 a3, v5]) rfl rfl (x_call rfl (callFunc_enter Try.func36 rfl rfl) rfl) (spec_l06Play.calls (a1 := a1) (a2 := a2) (a3 := a3) (a4 := a4) (hs.rd hr3) Hr10) ?_
      rintro _ w ⟨v11, rfl, hs2⟩
      have hs : St _ [_, _] _ := hs.call hs2
      show G _ _ _ _ [_, _, _, _, _, _, _, _, _, _, _, _, _, _, _, _, _, _, _, _, _, _, _, _, _, _, _, _, _, _, _] _
      refine g_op (v := Value.agg (([Value.int .i8 r10.1.f_Numbers, Value.int .i8 r10.1.f_Lies, v11] : List Value)).toArray) rfl rfl rfl ?_
      refine g_op (v := Value.int .i64 r10.2.1) rfl rfl rfl ?_
      refine g_op (v := Value.int .i64 r10.2.2) rfl rfl rfl ?_
      have hs := hs.pull 1 rfl
      have hs : St _ [_, _] _ := hs
      refine s_storeAll (n := 3) hs rfl rfl rfl (vs := (([Value.int .i8 r10.1.f_Numbers, Value.int .i8 r10.1.f_Lies, v11] : List Value))) rfl rfl rfl (fun _ => rfl) rfl (by intro v hv; simp only [List.mem_append, List.mem_cons, List.not_mem_nil, or_false] at hv; repeat (first | (subst hv; first | rfl | exact slOne (hs.row 1 rfl)) | (rcases hv with hv | hv))) ?_
      intro w hs
      refine g_op (v := Value.int .i64 r10.2.1) rfl rfl rfl ?_
      show G _ _ _ _ [_, _, _, _, _, _, _, _, _, _, _, _, _, _, _, _, _, _, _, _, _, _, _, _, _, _, _, _, _, _, _] _
      refine g_op (v := Value.int .i64 r10.2.2) rfl rfl rfl ?_
      show G _ _ _ _ [_, _, _, _, _, _, _, _, _, _, _, _, _, _, _, _, _, _, _, _, _, _, _, _, _, _, _, _, _, _, _] _
      refine g_ops_nil ?_
      obtain rfl := Option.some.inj H
      refine g_ret Try.func20 (v := Value.tuple #[Value.agg (([Value.int .i8 r10.1.f_Numbers, Value.int .i8 r10.1.f_Lies, v11] : List Value)).toArray, Value.int .i64 r10.2.1, Value.int .i64 r10.2.2]) (resN (l := Try.f20.results.toList) (vs := [Value.agg (([Value.int .i8 r10.1.f_Numbers, Value.int .i8 r10.1.f_Lies, v11] : List Value)).toArray, Value.int .i64 r10.2.1, Value.int .i64 r10.2.2]) rfl ⟨⟨_, rfl, (run_loadVar_agg (es := (([Value.int .i8 r10.1.f_Numbers, Value.int .i8 r10.1.f_Lies, v11] : List Value))) rfl rfl (cells_all (hs.cells 0 rfl)))⟩, rfl, rfl, trivial⟩ (by simp)) ?_
      have hs := hs.pull 1 rfl
      have hs : St _ [_] _ := St.take (Γ' := [_]) hs
      exact ⟨_, rfl, v11, rfl, hs⟩
    | false =>
      rw [if_neg Bool.false_ne_true] at H
      show G _ _ _ _ [_, _, _, _, _, _, _, _, _, _, _, _, _, _, _, _, _, _, _, _, _, _, _, _, _, _, _, _, _, _, _] _
      refine g_op (v := Value.bool true) rfl rfl rfl ?_
      show G _ _ _ _ [_, _, _, _, _, _, _, _, _, _, _, _, _, _, _, _, _, _, _, _, _, _, _, _, _, _, _, _, _, _, _] _
      refine g_op (v := Value.bool true) rfl rfl rfl ?_
      show G _ _ _ _ [_, _, _, _, _, _, _, _, _, _, _, _, _, _, _, _, _, _, _, _, _, _, _, _, _, _, _, _, _, _, _] _
      refine g_ops_nil ?_
      refine g_cond_true rfl ?_
      refine g_seq ?_
      refine g_region ?_
      show G _ _ _ (.inRegion _ [0, 1, 2, 3] :: _) _ _
      refine g_op (v := Value.agg (([Value.int .i8 0, Value.int .i8 0, Value.slice none 0 0] : List Value)).toArray) rfl rfl (x_buildS (cs := (([Value.int .i8 0, Value.int .i8 0, Value.slice none 0 0] : List Value))) (segs := [[Value.int .i8 0], [Value.int .i8 0], [Value.slice none 0 0]]) rfl rfl (fun _ => rfl) ⟨rfl, (fun _ => rfl), rfl, (fun _ => rfl), rfl, (fun _ => rfl), trivial⟩ (by simp) (by first | rfl | (simp [ev, encA]; done) | (simp [ev, encA]; rfl))) ?_
      show G _ _ _ _ [_, _, _, _, _, _, _, _, _, _, _, _, _, _, _, _, _, _, _, _, _, _, _, _, _, _, _, _, _, _, _] _
      refine s_storeAll (n := 3) hs rfl rfl rfl (vs := (([Value.int .i8 0, Value.int .i8 0, Value.slice none 0 0] : List Value))) rfl rfl rfl (fun _ => rfl) rfl (by simp [Value.oneCell']) ?_
      intro w hs
      refine g_op (v := Value.int .i64 0) rfl rfl rfl ?_
      show G _ _ _ _ [_, _, _, _, _, _, _, _, _, _, _, _, _, _, _, _, _, _, _, _, _, _, _, _, _, _, _, _, _, _, _] _
      refine g_op (v := Value.int .i64 2) rfl rfl rfl ?_
      show G _ _ _ _ [_, _, _, _, _, _, _, _, _, _, _, _, _, _, _, _, _, _, _, _, _, _, _, _, _, _, _, _, _, _, _] _
      refine g_ops_nil ?_
      obtain rfl := Option.some.inj H
      refine g_ret Try.func20 (v := Value.tuple #[Value.agg (([Value.int .i8 0, Value.int .i8 0, Value.slice none 0 0] : List Value)).toArray, Value.int .i64 0, Value.int .i64 2]) (resN (l := Try.f20.results.toList) (vs := [Value.agg (([Value.int .i8 0, Value.int .i8 0, Value.slice none 0 0] : List Value)).toArray, Value.int .i64 0, Value.int .i64 2]) rfl ⟨⟨_, rfl, (run_loadVar_agg (es := (([Value.int .i8 0, Value.int .i8 0, Value.slice none 0 0] : List Value))) rfl rfl (cells_all (hs.cells 0 rfl)))⟩, rfl, rfl, trivial⟩ (by simp)) ?_
      have hs := hs.nil 64 k_S_impl_Ask
      have hs := hs.pull 0 rfl
      have hs : St _ [_] _ := St.take (Γ' := [_]) hs
      exact ⟨_, rfl, (Value.slice none 0 0), rfl, hs⟩
  | false =>
    rw [if_neg Bool.false_ne_true] at H
    show G _ _ _ _ [_, _, _, _, _, _, _, _, _, _, _, _, _, _, _, _, _, _, _, _, _, _, _, _, _, _, _, _, _, _, _] _
    refine g_op (v := Value.bool true) rfl rfl rfl ?_
    show G _ _ _ _ [_, _, _, _, _, _, _, _, _, _, _, _, _, _, _, _, _, _, _, _, _, _, _, _, _, _, _, _, _, _, _] _
    refine g_op (v := Value.bool true) rfl rfl rfl ?_
    refine g_op_not rfl rfl ?_
    refine g_op_not rfl rfl ?_
    refine g_op_not rfl rfl ?_
    show G _ _ _ _ [_, _, _, _, _, _, _, _, _, _, _, _, _, _, _, _, _, _, _, _, _, _, _, _, _, _, _, _, _, _, _] _
    refine g_op_not rfl rfl ?_
    show G _ _ _ _ [_, _, _, _, _, _, _, _, _, _, _, _, _, _, _, _, _, _, _, _, _, _, _, _, _, _, _, _, _, _, _] _
    refine g_op_not rfl rfl ?_
    show G _ _ _ _ [_, _, _, _, _, _, _, _, _, _, _, _, _, _, _, _, _, _, _, _, _, _, _, _, _, _, _, _, _, _, _] _
    refine g_op (v := Value.bool true) rfl rfl rfl ?_
    show G _ _ _ _ [_, _, _, _, _, _, _, _, _, _, _, _, _, _, _, _, _, _, _, _, _, _, _, _, _, _, _, _, _, _, _] _
    refine g_ops_nil ?_
    refine g_cond_true rfl ?_
    refine g_seq ?_
    refine g_region ?_
    show G _ _ _ (.inRegion _ [0, 1, 2, 3] :: _) _ _
    refine g_op (v := Value.agg (([Value.int .i8 0, Value.int .i8 0, Value.slice none 0 0] : List Value)).toArray) rfl rfl (x_buildS (cs := (([Value.int .i8 0, Value.int .i8 0, Value.slice none 0 0] : List Value))) (segs := [[Value.int .i8 0], [Value.int .i8 0], [Value.slice none 0 0]]) rfl rfl (fun _ => rfl) ⟨rfl, (fun _ => rfl), rfl, (fun _ => rfl), rfl, (fun _ => rfl), trivial⟩ (by simp) (by first | rfl | (simp [ev, encA]; done) | (simp [ev, encA]; rfl))) ?_
    show G _ _ _ _ [_, _, _, _, _, _, _, _, _, _, _, _, _, _, _, _, _, _, _, _, _, _, _, _, _, _, _, _, _, _, _] _
    refine s_storeAll (n := 3) hs rfl rfl rfl (vs := (([Value.int .i8 0, Value.int .i8 0, Value.slice none 0 0] : List Value))) rfl rfl rfl (fun _ => rfl) rfl (by simp [Value.oneCell']) ?_
    intro w hs
    refine g_op (v := Value.int .i64 0) rfl rfl rfl ?_
    show G _ _ _ _ [_, _, _, _, _, _, _, _, _, _, _, _, _, _, _, _, _, _, _, _, _, _, _, _, _, _, _, _, _, _, _] _
    refine g_op (v := Value.int .i64 2) rfl rfl rfl ?_
    show G _ _ _ _ [_, _, _, _, _, _, _, _, _, _, _, _, _, _, _, _, _, _, _, _, _, _, _, _, _, _, _, _, _, _, _] _
    refine g_ops_nil ?_
    obtain rfl := Option.some.inj H
    refine g_ret Try.func20 (v := Value.tuple #[Value.agg (([Value.int .i8 0, Value.int .i8 0, Value.slice none 0 0] : List Value)).toArray, Value.int .i64 0, Value.int .i64 2]) (resN (l := Try.f20.results.toList) (vs := [Value.agg (([Value.int .i8 0, Value.int .i8 0, Value.slice none 0 0] : List Value)).toArray, Value.int .i64 0, Value.int .i64 2]) rfl ⟨⟨_, rfl, (run_loadVar_agg (es := (([Value.int .i8 0, Value.int .i8 0, Value.slice none 0 0] : List Value))) rfl rfl (cells_all (hs.cells 0 rfl)))⟩, rfl, rfl, trivial⟩ (by simp)) ?_
    have hs := hs.nil 64 k_S_impl_Ask
    have hs := hs.pull 0 rfl
    have hs : St _ [_] _ := St.take (Γ' := [_]) hs
    exact ⟨_, rfl, (Value.slice none 0 0), rfl, hs⟩

/- function 70 impl_size_int64 -/
def impl_size_int64.post (w0 : World) (r : Int) (v : Value) (w : World) : Prop := v = Value.int .i64 r ∧ St w0 [] w
set_option maxHeartbeats 8000000 in
set_option maxRecDepth 100000 in
theorem impl_size_int64.calls {N : Nat} {a1 : (List Int)} {v2 : Value} {w0 : World} {r : Int} (hr0 : RdRow (K.int .i64) w0 v2 a1) (H : impl_size_int64.f N a1 = some r) :
    Calls Try.prog 70 #[v2] w0 fun e w => ∃ v, e = .returned v ∧ impl_size_int64.post w0 r v w := by
  unfold impl_size_int64.f at H
  have hs : St w0 [] w0 := St.refl w0
  refine calls_of_g (n := 4) Try.func70 rfl rfl ?_
  show G _ _ _ _ [_, _, _, _, _] _
  refine g_seq ?_
  refine g_region ?_
  show G _ _ _ (.inRegion _ [0] :: _) _ _
  refine g_op (v := Value.int .i64 0) rfl rfl rfl ?_
  show G _ _ _ _ [_, _, _, _, _] _
  refine g_ops_nil ?_
  refine g_seq ?_
  refine g_region ?_
  show G _ _ _ (.inRegion _ [0, 1, 2] :: _) _ _
  refine g_op (v := v2) rfl rfl rfl ?_
  show G _ _ _ _ [_, _, _, _, _] _
  refine s_len (hs.rd hr0) rfl rfl rfl rfl rfl ?_
  show G _ _ _ _ [_, _, _, _, _] _
  refine g_op (v := Value.int .i64 (a1.length : Int)) rfl rfl rfl ?_
  show G _ _ _ _ [_, _, _, _, _] _
  refine g_ops_nil ?_
  obtain rfl := Option.some.inj H
  refine g_ret Try.func70 (v := Value.int .i64 (a1.length : Int)) (res1 rfl rfl) ?_
  have hs : St _ [] _ := St.take (Γ' := []) hs
  exact ⟨_, rfl, rfl, hs⟩

end Go.Proofs.YtpbkenbmjgchkaaX
