/- Contracts, printed by gen.py. -/
import Derived.Test.YtfnfoecocicigaaXT
import Derived.Test.YtfnfoecocicigaaProg
import Derived.Test.YtfnfoecocicigaaXRowR
import Derived.Test.YtfnfoecocicigaaXSeg
import Derived.Test.YtfnfoecocicigaaXKey
import Derived.Test.YtfnfoecocicigaaXC8
import Derived.Test.YtfnfoecocicigaaXC9
import Derived.Test.YtfnfoecocicigaaXC10
import Derived.Test.YtfnfoecocicigaaXC12
import Derived.Test.YtfnfoecocicigaaXC13
namespace Go.Proofs.YtfnfoecocicigaaX
open Go Go.RowKit Go.Proofs
set_option linter.unusedVariables false
set_option linter.unusedSimpArgs false
/- function 16 spec_LeastQuestions -/
def spec_LeastQuestions.post (w0 : World) (r : (Int × Int)) (v : Value) (w : World) : Prop := v = Value.tuple #[Value.int .i64 r.1, Value.int .i64 r.2] ∧ St w0 [] w
set_option maxHeartbeats 8000000 in
set_option maxRecDepth 100000 in
theorem spec_LeastQuestions.calls {N : Nat} {a1 : Int} {a2 : (Ar Int 4)} {w0 : World} {r : (Int × Int)} (H : spec_LeastQuestions.f N a1 a2 = some r) :
    Calls Try.prog 16 #[Value.int .i64 a1, Value.agg ((encA (encI .i64)) a2).toArray] w0 fun e w => ∃ v, e = .returned v ∧ spec_LeastQuestions.post w0 r v w := by
  unfold spec_LeastQuestions.f at H
  have hs : St w0 [] w0 := St.refl w0
  refine calls_of_g (n := 25) Try.func16 rfl rfl ?_
  show G _ _ _ _ [_,_,_,_,_,_,_,_,_,_,_,_,_,_,_,_,_,_,_,_,_,_,_,_,_,_,_] _
  refine g_seq ?_
  refine g_region ?_
  show G _ _ _ (.inRegion _ [0, 1, 2] :: _) _ _
  refine s_box hs rfl rfl (cs := ((encA (encI .i64)) a2)) rfl rfl ?_
  intro b3 w hs
  show G _ _ _ _ [_,_,_,_,_,_,_,_,_,_,_,_,_,_,_,_,_,_,_,_,_,_,_,_,_,_,_] _
  refine g_op (v := Value.int .i64 0) rfl rfl rfl ?_
  show G _ _ _ _ [_,_,_,_,_,_,_,_,_,_,_,_,_,_,_,_,_,_,_,_,_,_,_,_,_,_,_] _
  refine g_op (v := Value.int .i64 0) rfl rfl rfl ?_
  show G _ _ _ _ [_,_,_,_,_,_,_,_,_,_,_,_,_,_,_,_,_,_,_,_,_,_,_,_,_,_,_] _
  refine g_ops_nil ?_
  refine g_seq ?_
  refine g_region ?_
  show G _ _ _ (.inRegion _ [0, 1, 2, 3, 4, 5, 6, 7] :: _) _ _
  refine g_op (v := Value.int .i64 a1) rfl rfl rfl ?_
  refine s_loadA rfl rfl (es := ((encA (encI .i64)) a2)) rfl rfl (fun _ => rfl) (n := 4) (fun _ => rfl) ((fkA (n := 4) (he := (fkI .i64).len) (h1 := (fkI .i64).one)).len _) (cells_all (hs.cells 0 rfl)) ?_
  show G _ _ _ _ [_,_,_,_,_,_,_,_,_,_,_,_,_,_,_,_,_,_,_,_,_,_,_,_,_,_,_] _
  obtain ⟨r5, Hr5, H⟩ := bind_get H
  obtain ⟨_ | q6, x7⟩ := r5
  ·
   dsimp only at H
   refine s_call (args := [Value.int .i64 a1, Value.agg ((encA (encI .i64)) a2).toArray, Value.int .i64 0]) rfl rfl (x_call rfl (callFunc_enter Try.func34 rfl rfl) rfl) (spec_l06Start.calls (a1 := a1) (a2 := a2) (a3 := 0) Hr5) ?_
   rintro _ w ⟨rfl, hs2⟩
   have hs : St _ [_] _ := hs.call hs2
   show G _ _ _ _ [_,_,_,_,_,_,_,_,_,_,_,_,_,_,_,_,_,_,_,_,_,_,_,_,_,_,_] _
   refine g_op (v := Value.tuple #[Value.pointer none, Value.int .i64 x7]) rfl rfl rfl ?_
   refine g_op (v := Value.pointer none) rfl rfl rfl ?_
   refine g_op (v := Value.int .i64 x7) rfl rfl rfl ?_
   refine g_op (v := Value.pointer none) rfl rfl rfl ?_
   show G _ _ _ _ [_,_,_,_,_,_,_,_,_,_,_,_,_,_,_,_,_,_,_,_,_,_,_,_,_,_,_] _
   refine g_op (v := Value.int .i64 x7) rfl rfl rfl ?_
   show G _ _ _ _ [_,_,_,_,_,_,_,_,_,_,_,_,_,_,_,_,_,_,_,_,_,_,_,_,_,_,_] _
   refine g_ops_nil ?_
   refine g_seq ?_
   refine g_seq ?_
   refine g_region ?_
   show G _ _ _ (.inRegion _ [0, 1] :: _) _ _
   refine g_op (v := Value.int .i64 x7) rfl rfl rfl ?_
   refine g_op_b (B := x7 != 0) rfl rfl rfl ?_ ?_
   ·
    intro hb
    rw [if_neg (b_bne_t hb)] at H
    show G _ _ _ _ [_,_,_,_,_,_,_,_,_,_,_,_,_,_,_,_,_,_,_,_,_,_,_,_,_,_,_] _
    refine g_ops_nil ?_
    refine g_cond_true rfl ?_
    refine g_seq ?_
    refine g_region ?_
    show G _ _ _ (.inRegion _ [0, 1, 2] :: _) _ _
    refine g_op (v := Value.int .i64 x7) rfl rfl rfl ?_
    refine g_op (v := Value.int .i64 0) rfl rfl rfl ?_
    show G _ _ _ _ [_,_,_,_,_,_,_,_,_,_,_,_,_,_,_,_,_,_,_,_,_,_,_,_,_,_,_] _
    refine g_op (v := Value.int .i64 x7) rfl rfl rfl ?_
    show G _ _ _ _ [_,_,_,_,_,_,_,_,_,_,_,_,_,_,_,_,_,_,_,_,_,_,_,_,_,_,_] _
    refine g_ops_nil ?_
    obtain rfl := Option.some.inj H
    refine g_ret Try.func16 (v := Value.tuple #[Value.int .i64 0, Value.int .i64 x7]) (resN (l := Try.f16.results.toList) (vs := [Value.int .i64 0, Value.int .i64 x7]) rfl ⟨rfl, rfl, trivial⟩ (by simp)) ?_
    have hs : St _ [] _ := St.take (Γ' := [_]) hs
    exact ⟨_, rfl, rfl, hs⟩
   ·
    intro hb
    rw [if_pos (b_bne_f hb)] at H
    show G _ _ _ _ [_,_,_,_,_,_,_,_,_,_,_,_,_,_,_,_,_,_,_,_,_,_,_,_,_,_,_] _
    refine g_ops_nil ?_
    refine g_cond_false rfl ?_
    refine g_skip ?_
    refine g_seq ?_
    refine g_seq ?_
    refine g_region ?_
    show G _ _ _ (.inRegion _ [0] :: _) _ _
    refine g_op (v := Value.int .i64 0) rfl rfl rfl ?_
    show G _ _ _ _ [_,_,_,_,_,_,_,_,_,_,_,_,_,_,_,_,_,_,_,_,_,_,_,_,_,_,_] _
    refine g_ops_nil ?_
    obtain ⟨o1_, Ho, Hr1_⟩ := bind_get H
    refine g_block_join (J := fun t w => spec_LeastQuestions.a0 N = some r ∧ Fr t (fun O => ([O 0, O 1, O 2, O 3, O 4, O 5, O 6, O 7, O 8, O 9, O 10, O 11, O 12, O 13, O 14, O 15, O 16, O 17, O 18, O 19, O 20, O 21, O 22, O 23, O 24, O 25, O 26] : List Value)) ∧ St w0 [] w) ?_ ?_
    ·
     rintro t w ⟨H, hf, hs⟩
     obtain ⟨O, rfl⟩ := hf.open
     show G _ _ _ _ [_,_,_,_,_,_,_,_,_,_,_,_,_,_,_,_,_,_,_,_,_,_,_,_,_,_,_] _
     unfold spec_LeastQuestions.a0 at H
     refine g_seq ?_
     refine g_region ?_
     show G _ _ _ (.inRegion _ [0, 1] :: _) _ _
     refine g_op (v := Value.int .i64 0) rfl rfl rfl ?_
     show G _ _ _ _ [_,_,_,_,_,_,_,_,_,_,_,_,_,_,_,_,_,_,_,_,_,_,_,_,_,_,_] _
     refine g_op (v := Value.int .i64 6) rfl rfl rfl ?_
     show G _ _ _ _ [_,_,_,_,_,_,_,_,_,_,_,_,_,_,_,_,_,_,_,_,_,_,_,_,_,_,_] _
     refine g_ops_nil ?_
     obtain rfl := Option.some.inj H
     refine g_ret Try.func16 (v := Value.tuple #[Value.int .i64 0, Value.int .i64 6]) (resN (l := Try.f16.results.toList) (vs := [Value.int .i64 0, Value.int .i64 6]) rfl ⟨rfl, rfl, trivial⟩ (by simp)) ?_
     have hs : St _ [] _ := St.take (Γ' := []) hs
     exact ⟨_, rfl, rfl, hs⟩
    ·
     intro ha1_
     have hs := hs.pull 0 rfl
     have hs : St _ [_] _ := St.take (Γ' := []) hs
     refine g_loop_fuel (I := fun n_ t w => ∃ x8 : Int, rounds (fun s => spec_LeastQuestions.b0 N s) n_ x8 = some o1_ ∧ Fr t (fun O => ([O 0, O 1, O 2, Value.pointer (some ⟨b3, 0, none⟩), O 4, O 5, Value.pointer none, O 7, Value.int .i64 x8, O 9, O 10, O 11, O 12, O 13, O 14, O 15, O 16, O 17, O 18, O 19, O 20, O 21, O 22, O 23, O 24, O 25, O 26] : List Value)) ∧ St w0 [Cells b3 ((encA (encI .i64)) a2) 25] w) N ⟨0, Ho, rfl, hs⟩ ?_ ?_
     ·
      rintro _ _ ⟨x8, h, _⟩
      exact rounds_zero h
     ·
      intro n_ ih1_
      rintro t w ⟨x8, Ho, hf, hs⟩
      obtain ⟨O, rfl⟩ := hf.open
      show G _ _ _ _ [_,_,_,_,_,_,_,_,_,_,_,_,_,_,_,_,_,_,_,_,_,_,_,_,_,_,_] _
      obtain ⟨x1_, H, Hx1_⟩ := rounds_succ Ho
      have H : spec_LeastQuestions.b0 N x8 = some x1_ := H
      unfold spec_LeastQuestions.b0 at H
      refine g_seq ?_
      refine g_seq ?_
      refine g_region ?_
      show G _ _ _ (.inRegion _ [0, 1] :: _) _ _
      refine g_op (v := Value.int .i64 x8) rfl rfl rfl ?_
      refine g_op_b (B := decide (x8 ≤ 20)) rfl rfl rfl ?_ ?_
      ·
       intro hb
       rw [if_pos (b_dec_t hb)] at H
       show G _ _ _ _ [_,_,_,_,_,_,_,_,_,_,_,_,_,_,_,_,_,_,_,_,_,_,_,_,_,_,_] _
       refine g_ops_nil ?_
       refine g_cond_true rfl ?_
       refine g_skip ?_
       refine g_seq ?_
       refine g_block ?_
       refine g_seq ?_
       refine g_region ?_
       show G _ _ _ (.inRegion _ [0, 1, 2, 3] :: _) _ _
       refine g_op (v := Value.pointer none) rfl rfl rfl ?_
       refine s_loadA rfl rfl (es := ((encA (encI .i64)) a2)) rfl rfl (fun _ => rfl) (n := 4) (fun _ => rfl) ((fkA (n := 4) (he := (fkI .i64).len) (h1 := (fkI .i64).one)).len _) (cells_all (hs.cells 0 rfl)) ?_
       show G _ _ _ _ [_,_,_,_,_,_,_,_,_,_,_,_,_,_,_,_,_,_,_,_,_,_,_,_,_,_,_] _
       refine g_op (v := Value.int .i64 x8) rfl rfl rfl ?_
       cases H
      ·
       intro hb
       rw [if_neg (b_dec_f hb)] at H
       show G _ _ _ _ [_,_,_,_,_,_,_,_,_,_,_,_,_,_,_,_,_,_,_,_,_,_,_,_,_,_,_] _
       refine g_ops_nil ?_
       refine g_cond_false rfl ?_
       obtain rfl := Option.some.inj H
       subst Hx1_
       have hs : St _ [] _ := St.take (Γ' := [_]) hs
       refine g_exit rfl ?_
       exact ha1_ _ _ ⟨Hr1_, rfl, hs⟩
  ·
   dsimp only at H
   refine s_call (args := [Value.int .i64 a1, Value.agg ((encA (encI .i64)) a2).toArray, Value.int .i64 0]) rfl rfl (x_call rfl (callFunc_enter Try.func34 rfl rfl) rfl) (spec_l06Start.calls (a1 := a1) (a2 := a2) (a3 := 0) Hr5) ?_
   rintro _ w ⟨b9, v10, rfl, hs2⟩
   have hs : St _ [_, _, _] _ := hs.call hs2
   show G _ _ _ _ [_,_,_,_,_,_,_,_,_,_,_,_,_,_,_,_,_,_,_,_,_,_,_,_,_,_,_] _
   refine g_op (v := Value.tuple #[Value.pointer (some ⟨b9, 0, none⟩), Value.int .i64 x7]) rfl rfl rfl ?_
   refine g_op (v := Value.pointer (some ⟨b9, 0, none⟩)) rfl rfl rfl ?_
   refine g_op (v := Value.int .i64 x7) rfl rfl rfl ?_
   refine g_op (v := Value.pointer (some ⟨b9, 0, none⟩)) rfl rfl rfl ?_
   show G _ _ _ _ [_,_,_,_,_,_,_,_,_,_,_,_,_,_,_,_,_,_,_,_,_,_,_,_,_,_,_] _
   refine g_op (v := Value.int .i64 x7) rfl rfl rfl ?_
   show G _ _ _ _ [_,_,_,_,_,_,_,_,_,_,_,_,_,_,_,_,_,_,_,_,_,_,_,_,_,_,_] _
   refine g_ops_nil ?_
   refine g_seq ?_
   refine g_seq ?_
   refine g_region ?_
   show G _ _ _ (.inRegion _ [0, 1] :: _) _ _
   refine g_op (v := Value.int .i64 x7) rfl rfl rfl ?_
   refine g_op_b (B := x7 != 0) rfl rfl rfl ?_ ?_
   ·
    intro hb
    rw [if_neg (b_bne_t hb)] at H
    show G _ _ _ _ [_,_,_,_,_,_,_,_,_,_,_,_,_,_,_,_,_,_,_,_,_,_,_,_,_,_,_] _
    refine g_ops_nil ?_
    refine g_cond_true rfl ?_
    refine g_seq ?_
    refine g_region ?_
    show G _ _ _ (.inRegion _ [0, 1, 2] :: _) _ _
    refine g_op (v := Value.int .i64 x7) rfl rfl rfl ?_
    refine g_op (v := Value.int .i64 0) rfl rfl rfl ?_
    show G _ _ _ _ [_,_,_,_,_,_,_,_,_,_,_,_,_,_,_,_,_,_,_,_,_,_,_,_,_,_,_] _
    refine g_op (v := Value.int .i64 x7) rfl rfl rfl ?_
    show G _ _ _ _ [_,_,_,_,_,_,_,_,_,_,_,_,_,_,_,_,_,_,_,_,_,_,_,_,_,_,_] _
    refine g_ops_nil ?_
    obtain rfl := Option.some.inj H
    refine g_ret Try.func16 (v := Value.tuple #[Value.int .i64 0, Value.int .i64 x7]) (resN (l := Try.f16.results.toList) (vs := [Value.int .i64 0, Value.int .i64 x7]) rfl ⟨rfl, rfl, trivial⟩ (by simp)) ?_
    have hs : St _ [] _ := St.take (Γ' := [_,_,_]) hs
    exact ⟨_, rfl, rfl, hs⟩
   ·
    intro hb
    rw [if_pos (b_bne_f hb)] at H
    show G _ _ _ _ [_,_,_,_,_,_,_,_,_,_,_,_,_,_,_,_,_,_,_,_,_,_,_,_,_,_,_] _
    refine g_ops_nil ?_
    refine g_cond_false rfl ?_
    refine g_skip ?_
    refine g_seq ?_
    refine g_seq ?_
    refine g_region ?_
    show G _ _ _ (.inRegion _ [0] :: _) _ _
    refine g_op (v := Value.int .i64 0) rfl rfl rfl ?_
    show G _ _ _ _ [_,_,_,_,_,_,_,_,_,_,_,_,_,_,_,_,_,_,_,_,_,_,_,_,_,_,_] _
    refine g_ops_nil ?_
    obtain ⟨o1_, Ho, Hr1_⟩ := bind_get H
    refine g_block_join (J := fun t w => spec_LeastQuestions.a2 N = some r ∧ Fr t (fun O => ([O 0, O 1, O 2, O 3, O 4, O 5, O 6, O 7, O 8, O 9, O 10, O 11, O 12, O 13, O 14, O 15, O 16, O 17, O 18, O 19, O 20, O 21, O 22, O 23, O 24, O 25, O 26] : List Value)) ∧ St w0 [] w) ?_ ?_
    ·
     rintro t w ⟨H, hf, hs⟩
     obtain ⟨O, rfl⟩ := hf.open
     show G _ _ _ _ [_,_,_,_,_,_,_,_,_,_,_,_,_,_,_,_,_,_,_,_,_,_,_,_,_,_,_] _
     unfold spec_LeastQuestions.a2 at H
     refine g_seq ?_
     refine g_region ?_
     show G _ _ _ (.inRegion _ [0, 1] :: _) _ _
     refine g_op (v := Value.int .i64 0) rfl rfl rfl ?_
     show G _ _ _ _ [_,_,_,_,_,_,_,_,_,_,_,_,_,_,_,_,_,_,_,_,_,_,_,_,_,_,_] _
     refine g_op (v := Value.int .i64 6) rfl rfl rfl ?_
     show G _ _ _ _ [_,_,_,_,_,_,_,_,_,_,_,_,_,_,_,_,_,_,_,_,_,_,_,_,_,_,_] _
     refine g_ops_nil ?_
     obtain rfl := Option.some.inj H
     refine g_ret Try.func16 (v := Value.tuple #[Value.int .i64 0, Value.int .i64 6]) (resN (l := Try.f16.results.toList) (vs := [Value.int .i64 0, Value.int .i64 6]) rfl ⟨rfl, rfl, trivial⟩ (by simp)) ?_
     have hs : St _ [] _ := St.take (Γ' := []) hs
     exact ⟨_, rfl, rfl, hs⟩
    ·
     intro ha1_
     have hs := hs.pull 0 rfl
     have hs := hs.pull 1 rfl
     have hs := hs.pull 2 rfl
     have hs : St _ [_,_,_] _ := St.take (Γ' := []) hs
     refine g_loop_fuel (I := fun n_ t w => ∃ x15 : Int, ∃ x16 : (List Int), ∃ x17 : Int, rounds (fun s => spec_LeastQuestions.b2 N a2 s.1 s.2.1 s.2.2) n_ (x15, x16, x17) = some o1_ ∧ Fr t (fun O => ([O 0, O 1, O 2, Value.pointer (some ⟨b3, 0, none⟩), O 4, O 5, Value.pointer (some ⟨b9, 0, none⟩), O 7, Value.int .i64 x17, O 9, O 10, O 11, O 12, O 13, O 14, O 15, O 16, O 17, O 18, O 19, O 20, O 21, O 22, O 23, O 24, O 25, O 26] : List Value)) ∧ St w0 [Cells b3 ((encA (encI .i64)) a2) 25, Row 75 (K.int .i8) v10 x16, Cells b9 (([Value.int .i64 x15, v10] : List Value)) 73] w) N ⟨q6.f_lies, q6.f_seen, 0, Ho, rfl, hs⟩ ?_ ?_
     ·
      rintro _ _ ⟨x15, x16, x17, h, _⟩
      exact rounds_zero h
     ·
      intro n_ ih1_
      rintro t w ⟨x15, x16, x17, Ho, hf, hs⟩
      obtain ⟨O, rfl⟩ := hf.open
      show G _ _ _ _ [_,_,_,_,_,_,_,_,_,_,_,_,_,_,_,_,_,_,_,_,_,_,_,_,_,_,_] _
      obtain ⟨x4_, H, Hx1_⟩ := rounds_succ Ho
      have H : spec_LeastQuestions.b2 N a2 x15 x16 x17 = some x4_ := H
      unfold spec_LeastQuestions.b2 at H
      refine g_seq ?_
      refine g_seq ?_
      refine g_region ?_
      show G _ _ _ (.inRegion _ [0, 1] :: _) _ _
      refine g_op (v := Value.int .i64 x17) rfl rfl rfl ?_
      refine g_op_b (B := decide (x17 ≤ 20)) rfl rfl rfl ?_ ?_
      ·
       intro hb
       rw [if_pos (b_dec_t hb)] at H
       show G _ _ _ _ [_,_,_,_,_,_,_,_,_,_,_,_,_,_,_,_,_,_,_,_,_,_,_,_,_,_,_] _
       refine g_ops_nil ?_
       refine g_cond_true rfl ?_
       refine g_skip ?_
       refine g_seq ?_
       refine g_block ?_
       refine g_seq ?_
       refine g_region ?_
       show G _ _ _ (.inRegion _ [0, 1, 2, 3] :: _) _ _
       refine g_op (v := Value.pointer (some ⟨b9, 0, none⟩)) rfl rfl rfl ?_
       refine s_loadA rfl rfl (es := ((encA (encI .i64)) a2)) rfl rfl (fun _ => rfl) (n := 4) (fun _ => rfl) ((fkA (n := 4) (he := (fkI .i64).len) (h1 := (fkI .i64).one)).len _) (cells_all (hs.cells 0 rfl)) ?_
       show G _ _ _ _ [_,_,_,_,_,_,_,_,_,_,_,_,_,_,_,_,_,_,_,_,_,_,_,_,_,_,_] _
       refine g_op (v := Value.int .i64 x17) rfl rfl rfl ?_
       obtain ⟨r18, Hr18, H⟩ := bind_get H
       have hs := hs.pull 2 rfl
       have hs := hs.pull 2 rfl
       have hs : St _ [_,_,_] _ := hs
       have hs := hs.pack 2
       refine s_call (args := [Value.pointer (some ⟨b9, 0, none⟩), Value.agg ((encA (encI .i64)) a2).toArray, Value.int .i64 x17]) rfl rfl (x_call rfl (callFunc_enter Try.func35 rfl rfl) rfl) (_spec_l06Finder_can.calls (a1 := (⟨x15, x16⟩ : S_spec_l06Finder)) (a6 := a2) (a7 := x17) hs Hr18) ?_
       rintro _ w ⟨rfl, hs⟩
       have hs := St.unpack (Γ := [_,_]) hs
       have hs : St _ [_,_,_] _ := hs
       generalize hb3_ : r18.1 = b_ at H ⊢
       cases b_ with
       | true =>
         rw [if_pos rfl] at H
         show G _ _ _ _ [_,_,_,_,_,_,_,_,_,_,_,_,_,_,_,_,_,_,_,_,_,_,_,_,_,_,_] _
         refine g_ops_nil ?_
         refine g_cond_true rfl ?_
         refine g_seq ?_
         refine g_region ?_
         show G _ _ _ (.inRegion _ [0, 1, 2] :: _) _ _
         refine g_op (v := Value.int .i64 x17) rfl rfl rfl ?_
         refine g_op (v := Value.int .i64 x17) rfl rfl rfl ?_
         show G _ _ _ _ [_,_,_,_,_,_,_,_,_,_,_,_,_,_,_,_,_,_,_,_,_,_,_,_,_,_,_] _
         refine g_op (v := Value.int .i64 0) rfl rfl rfl ?_
         show G _ _ _ _ [_,_,_,_,_,_,_,_,_,_,_,_,_,_,_,_,_,_,_,_,_,_,_,_,_,_,_] _
         refine g_ops_nil ?_
         obtain rfl := Option.some.inj H
         subst Hx1_
         have H := Option.some.inj Hr1_
         subst H
         refine g_ret Try.func16 (v := Value.tuple #[Value.int .i64 x17, Value.int .i64 0]) (resN (l := Try.f16.results.toList) (vs := [Value.int .i64 x17, Value.int .i64 0]) rfl ⟨rfl, rfl, trivial⟩ (by simp)) ?_
         have hs : St _ [] _ := St.take (Γ' := [_,_,_]) hs
         exact ⟨_, rfl, rfl, hs⟩
       | false =>
         rw [if_neg Bool.false_ne_true] at H
         show G _ _ _ _ [_,_,_,_,_,_,_,_,_,_,_,_,_,_,_,_,_,_,_,_,_,_,_,_,_,_,_] _
         refine g_ops_nil ?_
         refine g_cond_false rfl ?_
         refine g_skip ?_
         refine g_inBlock ?_
         refine g_region ?_
         show G _ _ _ (.inRegion _ [0, 1, 2] :: _) _ _
         refine g_op (v := Value.int .i64 x17) rfl rfl rfl ?_
         refine g_op (v := Value.int .i64 (i64w (x17 + 1))) rfl rfl rfl ?_
         show G _ _ _ _ [_,_,_,_,_,_,_,_,_,_,_,_,_,_,_,_,_,_,_,_,_,_,_,_,_,_,_] _
         refine g_op (v := Value.int .i64 (i64w (x17 + 1))) rfl rfl rfl ?_
         show G _ _ _ _ [_,_,_,_,_,_,_,_,_,_,_,_,_,_,_,_,_,_,_,_,_,_,_,_,_,_,_] _
         refine g_ops_nil ?_
         obtain rfl := Option.some.inj H
         have hs := hs.pull 1 rfl
         have hs := hs.pull 1 rfl
         have hs := hs.pull 2 rfl
         have hs : St _ [_,_,_] _ := St.take (Γ' := []) hs
         exact ih1_ _ _ ⟨r18.2.2.f_lies, r18.2.1, i64w (x17 + 1), Hx1_, rfl, hs⟩
      ·
       intro hb
       rw [if_neg (b_dec_f hb)] at H
       show G _ _ _ _ [_,_,_,_,_,_,_,_,_,_,_,_,_,_,_,_,_,_,_,_,_,_,_,_,_,_,_] _
       refine g_ops_nil ?_
       refine g_cond_false rfl ?_
       obtain rfl := Option.some.inj H
       subst Hx1_
       have hs : St _ [] _ := St.take (Γ' := [_,_,_]) hs
       refine g_exit rfl ?_
       exact ha1_ _ _ ⟨Hr1_, rfl, hs⟩

/- function 17 impl_CanFindIn -/
def impl_CanFindIn.post (w0 : World) (r : (Bool × Int)) (v : Value) (w : World) : Prop := v = Value.tuple #[Value.bool r.1, Value.int .i64 r.2] ∧ St w0 [] w
set_option maxHeartbeats 8000000 in
set_option maxRecDepth 100000 in
theorem impl_CanFindIn.calls {N : Nat} {a1 : Int} {a2 : (Ar Int 4)} {a3 : Int} {w0 : World} {r : (Bool × Int)} (H : impl_CanFindIn.f N a1 a2 a3 = some r) :
    Calls Try.prog 17 #[Value.int .i64 a1, Value.agg ((encA (encI .i64)) a2).toArray, Value.int .i64 a3] w0 fun e w => ∃ v, e = .returned v ∧ impl_CanFindIn.post w0 r v w := by
  unfold impl_CanFindIn.f at H
  have hs : St w0 [] w0 := St.refl w0
  refine calls_of_g (n := 19) Try.func17 rfl rfl ?_
  show G _ _ _ _ [_,_,_,_,_,_,_,_,_,_,_,_,_,_,_,_,_,_,_,_,_,_] _
  refine g_seq ?_
  refine g_region ?_
  show G _ _ _ (.inRegion _ [0, 1, 2] :: _) _ _
  refine s_box hs rfl rfl (cs := ((encA (encI .i64)) a2)) rfl rfl ?_
  intro b4 w hs
  show G _ _ _ _ [_,_,_,_,_,_,_,_,_,_,_,_,_,_,_,_,_,_,_,_,_,_] _
  refine g_op (v := Value.bool false) rfl rfl rfl ?_
  show G _ _ _ _ [_,_,_,_,_,_,_,_,_,_,_,_,_,_,_,_,_,_,_,_,_,_] _
  refine g_op (v := Value.int .i64 0) rfl rfl rfl ?_
  show G _ _ _ _ [_,_,_,_,_,_,_,_,_,_,_,_,_,_,_,_,_,_,_,_,_,_] _
  refine g_ops_nil ?_
  refine g_seq ?_
  refine g_seq ?_
  refine g_region ?_
  show G _ _ _ (.inRegion _ [0, 1, 2, 3, 4] :: _) _ _
  refine g_op (v := Value.int .i64 a1) rfl rfl rfl ?_
  show G _ _ _ _ [_,_,_,_,_,_,_,_,_,_,_,_,_,_,_,_,_,_,_,_,_,_] _
  refine s_loadA rfl rfl (es := ((encA (encI .i64)) a2)) rfl rfl (fun _ => rfl) (n := 4) (fun _ => rfl) ((fkA (n := 4) (he := (fkI .i64).len) (h1 := (fkI .i64).one)).len _) (cells_all (hs.cells 0 rfl)) ?_
  show G _ _ _ _ [_,_,_,_,_,_,_,_,_,_,_,_,_,_,_,_,_,_,_,_,_,_] _
  refine g_op (v := Value.int .i64 a3) rfl rfl rfl ?_
  show G _ _ _ _ [_,_,_,_,_,_,_,_,_,_,_,_,_,_,_,_,_,_,_,_,_,_] _
  obtain ⟨r6, Hr6, H⟩ := bind_get H
  refine s_call (args := [Value.int .i64 a1, Value.agg ((encA (encI .i64)) a2).toArray, Value.int .i64 a3]) rfl rfl (x_call rfl (callFunc_enter Try.func32 rfl rfl) rfl) (impl_exactCode.calls (a1 := a1) (a2 := a2) (a3 := a3) Hr6) ?_
  rintro _ w ⟨rfl, hs2⟩
  have hs : St _ [_] _ := hs.call hs2
  show G _ _ _ _ [_,_,_,_,_,_,_,_,_,_,_,_,_,_,_,_,_,_,_,_,_,_] _
  refine g_op (v := Value.int .i64 r6) rfl rfl rfl ?_
  show G _ _ _ _ [_,_,_,_,_,_,_,_,_,_,_,_,_,_,_,_,_,_,_,_,_,_] _
  refine g_ops_nil ?_
  refine g_seq ?_
  refine g_region ?_
  show G _ _ _ (.inRegion _ [0, 1] :: _) _ _
  refine g_op (v := Value.int .i64 r6) rfl rfl rfl ?_
  show G _ _ _ _ [_,_,_,_,_,_,_,_,_,_,_,_,_,_,_,_,_,_,_,_,_,_] _
  refine g_op_b (B := r6 != 0) rfl rfl rfl ?_ ?_
  ·
   intro hb
   rw [if_neg (b_bne_t hb)] at H
   show G _ _ _ _ [_,_,_,_,_,_,_,_,_,_,_,_,_,_,_,_,_,_,_,_,_,_] _
   refine g_ops_nil ?_
   refine g_cond_true rfl ?_
   refine g_seq ?_
   refine g_region ?_
   show G _ _ _ (.inRegion _ [0, 1, 2] :: _) _ _
   refine g_op (v := Value.int .i64 r6) rfl rfl rfl ?_
   show G _ _ _ _ [_,_,_,_,_,_,_,_,_,_,_,_,_,_,_,_,_,_,_,_,_,_] _
   refine g_op (v := Value.bool false) rfl rfl rfl ?_
   show G _ _ _ _ [_,_,_,_,_,_,_,_,_,_,_,_,_,_,_,_,_,_,_,_,_,_] _
   refine g_op (v := Value.int .i64 r6) rfl rfl rfl ?_
   show G _ _ _ _ [_,_,_,_,_,_,_,_,_,_,_,_,_,_,_,_,_,_,_,_,_,_] _
   refine g_ops_nil ?_
   obtain rfl := Option.some.inj H
   refine g_ret Try.func17 (v := Value.tuple #[Value.bool false, Value.int .i64 r6]) (resN (l := Try.f17.results.toList) (vs := [Value.bool false, Value.int .i64 r6]) rfl ⟨rfl, rfl, trivial⟩ (by simp)) ?_
   have hs : St _ [] _ := St.take (Γ' := [_]) hs
   exact ⟨_, rfl, rfl, hs⟩
  ·
   intro hb
   rw [if_pos (b_bne_f hb)] at H
   show G _ _ _ _ [_,_,_,_,_,_,_,_,_,_,_,_,_,_,_,_,_,_,_,_,_,_] _
   refine g_ops_nil ?_
   refine g_cond_false rfl ?_
   refine g_skip ?_
   refine g_seq ?_
   refine g_region ?_
   show G _ _ _ (.inRegion _ [0, 1, 2, 3, 4, 5, 6, 7] :: _) _ _
   refine g_op (v := Value.int .i64 a1) rfl rfl rfl ?_
   show G _ _ _ _ [_,_,_,_,_,_,_,_,_,_,_,_,_,_,_,_,_,_,_,_,_,_] _
   refine s_makeMap (ek := ek_S_impl_stateLeft) (en := Value.bool) hs rfl rfl rfl ?_
   intro b7 w hs
   show G _ _ _ _ [_,_,_,_,_,_,_,_,_,_,_,_,_,_,_,_,_,_,_,_,_,_] _
   refine g_op (v := Value.agg (([Value.int .i64 a1, Value.map (some b7)] : List Value)).toArray) rfl rfl (x_buildS (cs := (([Value.int .i64 a1, Value.map (some b7)] : List Value))) (segs := [[Value.int .i64 0], [Value.map none]]) rfl rfl (fun _ => rfl) ⟨rfl, (fun _ => rfl), rfl, (fun _ => rfl), trivial⟩ (by simp only [List.map_cons, List.map_nil, List.forall_mem_cons, List.not_mem_nil, false_implies, implies_true, and_true]; exact ⟨⟨_, rfl, rfl⟩, ⟨_, rfl, rfl⟩⟩) (by first | rfl | (simp [ev, encA]; done) | (simp [ev, encA]; rfl))) ?_
   show G _ _ _ _ [_,_,_,_,_,_,_,_,_,_,_,_,_,_,_,_,_,_,_,_,_,_] _
   refine s_loadA rfl rfl (es := ((encA (encI .i64)) a2)) rfl rfl (fun _ => rfl) (n := 4) (fun _ => rfl) ((fkA (n := 4) (he := (fkI .i64).len) (h1 := (fkI .i64).one)).len _) (cells_all (hs.cells 1 rfl)) ?_
   show G _ _ _ _ [_,_,_,_,_,_,_,_,_,_,_,_,_,_,_,_,_,_,_,_,_,_] _
   refine g_op (v := Value.int .i64 a3) rfl rfl rfl ?_
   show G _ _ _ _ [_,_,_,_,_,_,_,_,_,_,_,_,_,_,_,_,_,_,_,_,_,_] _
   obtain ⟨r9, Hr9, H⟩ := bind_get H
   have hs := hs.pull 0 rfl
   have hs : St _ [_,_] _ := hs
   have hs := hs.pack 1
   refine s_call (args := [Value.agg (([Value.int .i64 a1, Value.map (some b7)] : List Value)).toArray, Value.agg ((encA (encI .i64)) a2).toArray, Value.int .i64 a3]) rfl rfl (x_call rfl (callFunc_enter Try.func33 rfl rfl) rfl) (_impl_searcher_can.calls (a1 := (⟨a1, ([] : (List (S_impl_stateLeft × Bool)))⟩ : S_impl_searcher)) (a4 := a2) (a5 := a3) hs Hr9) ?_
   rintro _ w ⟨rfl, hs⟩
   have hs := St.unpack (Γ := [_]) hs
   have hs : St _ [_,_] _ := hs
   show G _ _ _ _ [_,_,_,_,_,_,_,_,_,_,_,_,_,_,_,_,_,_,_,_,_,_] _
   refine g_op (v := Value.bool r9.1) rfl rfl rfl ?_
   show G _ _ _ _ [_,_,_,_,_,_,_,_,_,_,_,_,_,_,_,_,_,_,_,_,_,_] _
   refine g_op (v := Value.int .i64 0) rfl rfl rfl ?_
   show G _ _ _ _ [_,_,_,_,_,_,_,_,_,_,_,_,_,_,_,_,_,_,_,_,_,_] _
   refine g_ops_nil ?_
   obtain rfl := Option.some.inj H
   refine g_ret Try.func17 (v := Value.tuple #[Value.bool r9.1, Value.int .i64 0]) (resN (l := Try.f17.results.toList) (vs := [Value.bool r9.1, Value.int .i64 0]) rfl ⟨rfl, rfl, trivial⟩ (by simp)) ?_
   have hs : St _ [] _ := St.take (Γ' := [_,_]) hs
   exact ⟨_, rfl, rfl, hs⟩

/- function 18 impl_AskThatDoes -/
def impl_AskThatDoes.post (w0 : World) (r : ((Ar Int 4) × Int)) (v : Value) (w : World) : Prop := v = Value.tuple #[Value.agg ((encA (encI .i64)) r.1).toArray, Value.int .i64 r.2] ∧ St w0 [] w
set_option maxHeartbeats 8000000 in
set_option maxRecDepth 100000 in
theorem impl_AskThatDoes.calls {N : Nat} {a1 : Int} {a2 : (Ar Int 4)} {a3 : Int} {w0 : World} {r : ((Ar Int 4) × Int)} (H : impl_AskThatDoes.f N a1 a2 a3 = some r) :
    Calls Try.prog 18 #[Value.int .i64 a1, Value.agg ((encA (encI .i64)) a2).toArray, Value.int .i64 a3] w0 fun e w => ∃ v, e = .returned v ∧ impl_AskThatDoes.post w0 r v w := by
  unfold impl_AskThatDoes.f at H
  have hs : St w0 [] w0 := St.refl w0
  refine calls_of_g (n := 32) Try.func18 rfl rfl ?_
  show G _ _ _ _ [_,_,_,_,_,_,_,_,_,_,_,_,_,_,_,_,_,_,_,_,_,_,_,_,_,_,_,_,_,_,_,_,_,_,_] _
  refine g_seq ?_
  refine g_region ?_
  show G _ _ _ (.inRegion _ [0, 1, 2] :: _) _ _
  refine s_box hs rfl rfl (cs := ((encA (encI .i64)) a2)) rfl rfl ?_
  intro b4 w hs
  show G _ _ _ _ [_,_,_,_,_,_,_,_,_,_,_,_,_,_,_,_,_,_,_,_,_,_,_,_,_,_,_,_,_,_,_,_,_,_,_] _
  refine s_alloc hs rfl rfl (z := (Value.agg #[Value.int .i64 0, Value.int .i64 0, Value.int .i64 0, Value.int .i64 0])) (cs := ((encA (encI .i64)) (Ar.rep 4 0))) rfl (fun _ => rfl) rfl ?_
  intro b6 w hs
  show G _ _ _ _ [_,_,_,_,_,_,_,_,_,_,_,_,_,_,_,_,_,_,_,_,_,_,_,_,_,_,_,_,_,_,_,_,_,_,_] _
  refine g_op (v := Value.int .i64 0) rfl rfl rfl ?_
  show G _ _ _ _ [_,_,_,_,_,_,_,_,_,_,_,_,_,_,_,_,_,_,_,_,_,_,_,_,_,_,_,_,_,_,_,_,_,_,_] _
  refine g_ops_nil ?_
  refine g_seq ?_
  refine g_seq ?_
  refine g_region ?_
  show G _ _ _ (.inRegion _ [0, 1, 2, 3, 4] :: _) _ _
  refine g_op (v := Value.int .i64 a1) rfl rfl rfl ?_
  refine s_loadA rfl rfl (es := ((encA (encI .i64)) a2)) rfl rfl (fun _ => rfl) (n := 4) (fun _ => rfl) ((fkA (n := 4) (he := (fkI .i64).len) (h1 := (fkI .i64).one)).len _) (cells_all (hs.cells 1 rfl)) ?_
  show G _ _ _ _ [_,_,_,_,_,_,_,_,_,_,_,_,_,_,_,_,_,_,_,_,_,_,_,_,_,_,_,_,_,_,_,_,_,_,_] _
  refine g_op (v := Value.int .i64 a3) rfl rfl rfl ?_
  obtain ⟨r8, Hr8, H⟩ := bind_get H
  refine s_call (args := [Value.int .i64 a1, Value.agg ((encA (encI .i64)) a2).toArray, Value.int .i64 a3]) rfl rfl (x_call rfl (callFunc_enter Try.func32 rfl rfl) rfl) (impl_exactCode.calls (a1 := a1) (a2 := a2) (a3 := a3) Hr8) ?_
  rintro _ w ⟨rfl, hs2⟩
  have hs : St _ [_,_] _ := hs.call hs2
  show G _ _ _ _ [_,_,_,_,_,_,_,_,_,_,_,_,_,_,_,_,_,_,_,_,_,_,_,_,_,_,_,_,_,_,_,_,_,_,_] _
  refine g_op (v := Value.int .i64 r8) rfl rfl rfl ?_
  show G _ _ _ _ [_,_,_,_,_,_,_,_,_,_,_,_,_,_,_,_,_,_,_,_,_,_,_,_,_,_,_,_,_,_,_,_,_,_,_] _
  refine g_ops_nil ?_
  refine g_seq ?_
  refine g_region ?_
  show G _ _ _ (.inRegion _ [0, 1] :: _) _ _
  refine g_op (v := Value.int .i64 r8) rfl rfl rfl ?_
  refine g_op_b (B := r8 != 0) rfl rfl rfl ?_ ?_
  ·
   intro hb
   rw [if_neg (b_bne_t hb)] at H
   show G _ _ _ _ [_,_,_,_,_,_,_,_,_,_,_,_,_,_,_,_,_,_,_,_,_,_,_,_,_,_,_,_,_,_,_,_,_,_,_] _
   refine g_ops_nil ?_
   refine g_cond_true rfl ?_
   refine g_seq ?_
   refine g_region ?_
   show G _ _ _ (.inRegion _ [0, 1, 2, 3] :: _) _ _
   refine g_op (v := Value.agg ((encA (encI .i64)) (Ar.rep 4 0)).toArray) rfl rfl (x_build rfl rfl) ?_
   show G _ _ _ _ [_,_,_,_,_,_,_,_,_,_,_,_,_,_,_,_,_,_,_,_,_,_,_,_,_,_,_,_,_,_,_,_,_,_,_] _
   refine g_op (v := Value.int .i64 r8) rfl rfl rfl ?_
   refine s_storeAll (n := 4) hs ((fkA (n := 4) (he := (fkI .i64).len) (h1 := (fkI .i64).one)).len _) rfl rfl (vs := ((encA (encI .i64)) (Ar.rep 4 0))) rfl rfl rfl (fun _ => rfl) ((fkA (n := 4) (he := (fkI .i64).len) (h1 := (fkI .i64).one)).len _) ((fkA (n := 4) (he := (fkI .i64).len) (h1 := (fkI .i64).one)).one _) ?_
   intro w hs
   refine g_op (v := Value.int .i64 r8) rfl rfl rfl ?_
   show G _ _ _ _ [_,_,_,_,_,_,_,_,_,_,_,_,_,_,_,_,_,_,_,_,_,_,_,_,_,_,_,_,_,_,_,_,_,_,_] _
   refine g_ops_nil ?_
   obtain rfl := Option.some.inj H
   refine g_ret Try.func18 (v := Value.tuple #[Value.agg ((encA (encI .i64)) (Ar.rep 4 0)).toArray, Value.int .i64 r8]) (resN (l := Try.f18.results.toList) (vs := [Value.agg ((encA (encI .i64)) (Ar.rep 4 0)).toArray, Value.int .i64 r8]) rfl ⟨⟨_, rfl, (run_loadVar_agg (es := ((encA (encI .i64)) (Ar.rep 4 0))) rfl (congrArg (Result.ok · _) ((fkA (n := 4) (he := (fkI .i64).len) (h1 := (fkI .i64).one)).len _).symm) (cells_all (hs.cells 0 rfl)))⟩, rfl, trivial⟩ (by simp)) ?_
   have hs : St _ [] _ := St.take (Γ' := [_,_]) hs
   exact ⟨_, rfl, rfl, hs⟩
  ·
   intro hb
   rw [if_pos (b_bne_f hb)] at H
   show G _ _ _ _ [_,_,_,_,_,_,_,_,_,_,_,_,_,_,_,_,_,_,_,_,_,_,_,_,_,_,_,_,_,_,_,_,_,_,_] _
   refine g_ops_nil ?_
   refine g_cond_false rfl ?_
   refine g_skip ?_
   refine g_seq ?_
   refine g_seq ?_
   refine g_region ?_
   show G _ _ _ (.inRegion _ [0, 1] :: _) _ _
   refine g_op (v := Value.int .i64 a3) rfl rfl rfl ?_
   refine g_op_b (B := a3 == 0) rfl rfl rfl ?_ ?_
   ·
    intro hb
    rw [if_pos (b_beq_t hb)] at H
    show G _ _ _ _ [_,_,_,_,_,_,_,_,_,_,_,_,_,_,_,_,_,_,_,_,_,_,_,_,_,_,_,_,_,_,_,_,_,_,_] _
    refine g_ops_nil ?_
    refine g_cond_true rfl ?_
    refine g_seq ?_
    refine g_region ?_
    show G _ _ _ (.inRegion _ [0, 1, 2] :: _) _ _
    refine g_op (v := Value.agg ((encA (encI .i64)) (Ar.rep 4 0)).toArray) rfl rfl (x_build rfl rfl) ?_
    show G _ _ _ _ [_,_,_,_,_,_,_,_,_,_,_,_,_,_,_,_,_,_,_,_,_,_,_,_,_,_,_,_,_,_,_,_,_,_,_] _
    refine s_storeAll (n := 4) hs ((fkA (n := 4) (he := (fkI .i64).len) (h1 := (fkI .i64).one)).len _) rfl rfl (vs := ((encA (encI .i64)) (Ar.rep 4 0))) rfl rfl rfl (fun _ => rfl) ((fkA (n := 4) (he := (fkI .i64).len) (h1 := (fkI .i64).one)).len _) ((fkA (n := 4) (he := (fkI .i64).len) (h1 := (fkI .i64).one)).one _) ?_
    intro w hs
    refine g_op (v := Value.int .i64 6) rfl rfl rfl ?_
    show G _ _ _ _ [_,_,_,_,_,_,_,_,_,_,_,_,_,_,_,_,_,_,_,_,_,_,_,_,_,_,_,_,_,_,_,_,_,_,_] _
    refine g_ops_nil ?_
    obtain rfl := Option.some.inj H
    refine g_ret Try.func18 (v := Value.tuple #[Value.agg ((encA (encI .i64)) (Ar.rep 4 0)).toArray, Value.int .i64 6]) (resN (l := Try.f18.results.toList) (vs := [Value.agg ((encA (encI .i64)) (Ar.rep 4 0)).toArray, Value.int .i64 6]) rfl ⟨⟨_, rfl, (run_loadVar_agg (es := ((encA (encI .i64)) (Ar.rep 4 0))) rfl (congrArg (Result.ok · _) ((fkA (n := 4) (he := (fkI .i64).len) (h1 := (fkI .i64).one)).len _).symm) (cells_all (hs.cells 0 rfl)))⟩, rfl, trivial⟩ (by simp)) ?_
    have hs : St _ [] _ := St.take (Γ' := [_,_]) hs
    exact ⟨_, rfl, rfl, hs⟩
   ·
    intro hb
    rw [if_neg (b_beq_f hb)] at H
    show G _ _ _ _ [_,_,_,_,_,_,_,_,_,_,_,_,_,_,_,_,_,_,_,_,_,_,_,_,_,_,_,_,_,_,_,_,_,_,_] _
    refine g_ops_nil ?_
    refine g_cond_false rfl ?_
    refine g_skip ?_
    refine g_seq ?_
    refine g_region ?_
    show G _ _ _ (.inRegion _ [0, 1, 2, 3, 4, 5, 6, 7, 8, 9, 10, 11] :: _) _ _
    refine g_op (v := Value.int .i64 a1) rfl rfl rfl ?_
    refine s_makeMap (ek := ek_S_impl_stateLeft) (en := Value.bool) hs rfl rfl rfl ?_
    intro b9 w hs
    show G _ _ _ _ [_,_,_,_,_,_,_,_,_,_,_,_,_,_,_,_,_,_,_,_,_,_,_,_,_,_,_,_,_,_,_,_,_,_,_] _
    refine g_op (v := Value.agg (([Value.int .i64 a1, Value.map (some b9)] : List Value)).toArray) rfl rfl (x_buildS (cs := (([Value.int .i64 a1, Value.map (some b9)] : List Value))) (segs := [[Value.int .i64 0], [Value.map none]]) rfl rfl (fun _ => rfl) ⟨rfl, (fun _ => rfl), rfl, (fun _ => rfl), trivial⟩ (by simp only [List.map_cons, List.map_nil, List.forall_mem_cons, List.not_mem_nil, false_implies, implies_true, and_true]; exact ⟨⟨_, rfl, rfl⟩, ⟨_, rfl, rfl⟩⟩) (by first | rfl | (simp [ev, encA]; done) | (simp [ev, encA]; rfl))) ?_
    show G _ _ _ _ [_,_,_,_,_,_,_,_,_,_,_,_,_,_,_,_,_,_,_,_,_,_,_,_,_,_,_,_,_,_,_,_,_,_,_] _
    refine s_loadA rfl rfl (es := ((encA (encI .i64)) a2)) rfl rfl (fun _ => rfl) (n := 4) (fun _ => rfl) ((fkA (n := 4) (he := (fkI .i64).len) (h1 := (fkI .i64).one)).len _) (cells_all (hs.cells 2 rfl)) ?_
    show G _ _ _ _ [_,_,_,_,_,_,_,_,_,_,_,_,_,_,_,_,_,_,_,_,_,_,_,_,_,_,_,_,_,_,_,_,_,_,_] _
    refine g_op (v := Value.int .i64 a3) rfl rfl rfl ?_
    obtain ⟨r11, Hr11, H⟩ := bind_get H
    have hs := hs.pull 0 rfl
    have hs : St _ [_,_,_] _ := hs
    have hs := hs.pack 1
    refine s_call (args := [Value.agg (([Value.int .i64 a1, Value.map (some b9)] : List Value)).toArray, Value.agg ((encA (encI .i64)) a2).toArray, Value.int .i64 a3]) rfl rfl (x_call rfl (callFunc_enter Try.func36 rfl rfl) rfl) (_impl_searcher_ask.calls _impl_searcher_can.ih (a1 := (⟨a1, ([] : (List (S_impl_stateLeft × Bool)))⟩ : S_impl_searcher)) (a4 := a2) (a5 := a3) hs Hr11) ?_
    rintro _ w ⟨rfl, hs⟩
    have hs := St.unpack (Γ := [_]) hs
    have hs : St _ [_,_,_] _ := hs
    show G _ _ _ _ [_,_,_,_,_,_,_,_,_,_,_,_,_,_,_,_,_,_,_,_,_,_,_,_,_,_,_,_,_,_,_,_,_,_,_] _
    refine g_op (v := Value.tuple #[Value.agg ((encA (encI .i64)) r11.1).toArray, Value.bool r11.2.1]) rfl rfl rfl ?_
    refine g_op (v := Value.agg ((encA (encI .i64)) r11.1).toArray) rfl rfl rfl ?_
    refine g_op (v := Value.bool r11.2.1) rfl rfl rfl ?_
    refine s_alloc hs rfl rfl (z := (Value.agg #[Value.int .i64 0, Value.int .i64 0, Value.int .i64 0, Value.int .i64 0])) (cs := ((encA (encI .i64)) (Ar.rep 4 0))) rfl (fun _ => rfl) rfl ?_
    intro b12 w hs
    show G _ _ _ _ [_,_,_,_,_,_,_,_,_,_,_,_,_,_,_,_,_,_,_,_,_,_,_,_,_,_,_,_,_,_,_,_,_,_,_] _
    refine s_storeAll (n := 4) hs ((fkA (n := 4) (he := (fkI .i64).len) (h1 := (fkI .i64).one)).len _) rfl rfl (vs := ((encA (encI .i64)) r11.1)) rfl rfl rfl (fun _ => rfl) ((fkA (n := 4) (he := (fkI .i64).len) (h1 := (fkI .i64).one)).len _) ((fkA (n := 4) (he := (fkI .i64).len) (h1 := (fkI .i64).one)).one _) ?_
    intro w hs
    refine g_op (v := Value.bool r11.2.1) rfl rfl rfl ?_
    show G _ _ _ _ [_,_,_,_,_,_,_,_,_,_,_,_,_,_,_,_,_,_,_,_,_,_,_,_,_,_,_,_,_,_,_,_,_,_,_] _
    refine g_ops_nil ?_
    refine g_seq ?_
    refine g_seq ?_
    refine g_region ?_
    show G _ _ _ (.inRegion _ [0, 1] :: _) _ _
    refine g_op_b (B := r11.2.1) rfl rfl rfl ?_ ?_
    ·
     intro hb
     rw [if_pos (b_var_t hb)] at H
     refine g_op (v := Value.bool false) rfl rfl rfl ?_
     show G _ _ _ _ [_,_,_,_,_,_,_,_,_,_,_,_,_,_,_,_,_,_,_,_,_,_,_,_,_,_,_,_,_,_,_,_,_,_,_] _
     refine g_ops_nil ?_
     refine g_cond_false rfl ?_
     refine g_skip ?_
     refine g_seq ?_
     refine g_region ?_
     show G _ _ _ (.inRegion _ [0, 1, 2] :: _) _ _
     refine s_loadA rfl rfl (es := ((encA (encI .i64)) r11.1)) rfl rfl (fun _ => rfl) (n := 4) (fun _ => rfl) ((fkA (n := 4) (he := (fkI .i64).len) (h1 := (fkI .i64).one)).len _) (cells_all (hs.cells 0 rfl)) ?_
     show G _ _ _ _ [_,_,_,_,_,_,_,_,_,_,_,_,_,_,_,_,_,_,_,_,_,_,_,_,_,_,_,_,_,_,_,_,_,_,_] _
     have hs := hs.pull 2 rfl
     have hs : St _ [_,_,_,_] _ := hs
     refine s_storeAll (n := 4) hs ((fkA (n := 4) (he := (fkI .i64).len) (h1 := (fkI .i64).one)).len _) rfl rfl (vs := ((encA (encI .i64)) r11.1)) rfl rfl rfl (fun _ => rfl) ((fkA (n := 4) (he := (fkI .i64).len) (h1 := (fkI .i64).one)).len _) ((fkA (n := 4) (he := (fkI .i64).len) (h1 := (fkI .i64).one)).one _) ?_
     intro w hs
     refine g_op (v := Value.int .i64 0) rfl rfl rfl ?_
     show G _ _ _ _ [_,_,_,_,_,_,_,_,_,_,_,_,_,_,_,_,_,_,_,_,_,_,_,_,_,_,_,_,_,_,_,_,_,_,_] _
     refine g_ops_nil ?_
     obtain rfl := Option.some.inj H
     refine g_ret Try.func18 (v := Value.tuple #[Value.agg ((encA (encI .i64)) r11.1).toArray, Value.int .i64 0]) (resN (l := Try.f18.results.toList) (vs := [Value.agg ((encA (encI .i64)) r11.1).toArray, Value.int .i64 0]) rfl ⟨⟨_, rfl, (run_loadVar_agg (es := ((encA (encI .i64)) r11.1)) rfl (congrArg (Result.ok · _) ((fkA (n := 4) (he := (fkI .i64).len) (h1 := (fkI .i64).one)).len _).symm) (cells_all (hs.cells 0 rfl)))⟩, rfl, trivial⟩ (by simp)) ?_
     have hs : St _ [] _ := St.take (Γ' := [_,_,_,_]) hs
     exact ⟨_, rfl, rfl, hs⟩
    ·
     intro hb
     rw [if_neg (b_var_f hb)] at H
     refine g_op (v := Value.bool true) rfl rfl rfl ?_
     show G _ _ _ _ [_,_,_,_,_,_,_,_,_,_,_,_,_,_,_,_,_,_,_,_,_,_,_,_,_,_,_,_,_,_,_,_,_,_,_] _
     refine g_ops_nil ?_
     refine g_cond_true rfl ?_
     refine g_seq ?_
     refine g_region ?_
     show G _ _ _ (.inRegion _ [0, 1, 2] :: _) _ _
     refine g_op (v := Value.agg ((encA (encI .i64)) (Ar.rep 4 0)).toArray) rfl rfl (x_build rfl rfl) ?_
     show G _ _ _ _ [_,_,_,_,_,_,_,_,_,_,_,_,_,_,_,_,_,_,_,_,_,_,_,_,_,_,_,_,_,_,_,_,_,_,_] _
     have hs := hs.pull 2 rfl
     have hs : St _ [_,_,_,_] _ := hs
     refine s_storeAll (n := 4) hs ((fkA (n := 4) (he := (fkI .i64).len) (h1 := (fkI .i64).one)).len _) rfl rfl (vs := ((encA (encI .i64)) (Ar.rep 4 0))) rfl rfl rfl (fun _ => rfl) ((fkA (n := 4) (he := (fkI .i64).len) (h1 := (fkI .i64).one)).len _) ((fkA (n := 4) (he := (fkI .i64).len) (h1 := (fkI .i64).one)).one _) ?_
     intro w hs
     refine g_op (v := Value.int .i64 6) rfl rfl rfl ?_
     show G _ _ _ _ [_,_,_,_,_,_,_,_,_,_,_,_,_,_,_,_,_,_,_,_,_,_,_,_,_,_,_,_,_,_,_,_,_,_,_] _
     refine g_ops_nil ?_
     obtain rfl := Option.some.inj H
     refine g_ret Try.func18 (v := Value.tuple #[Value.agg ((encA (encI .i64)) (Ar.rep 4 0)).toArray, Value.int .i64 6]) (resN (l := Try.f18.results.toList) (vs := [Value.agg ((encA (encI .i64)) (Ar.rep 4 0)).toArray, Value.int .i64 6]) rfl ⟨⟨_, rfl, (run_loadVar_agg (es := ((encA (encI .i64)) (Ar.rep 4 0))) rfl (congrArg (Result.ok · _) ((fkA (n := 4) (he := (fkI .i64).len) (h1 := (fkI .i64).one)).len _).symm) (cells_all (hs.cells 0 rfl)))⟩, rfl, trivial⟩ (by simp)) ?_
     have hs : St _ [] _ := St.take (Γ' := [_,_,_,_]) hs
     exact ⟨_, rfl, rfl, hs⟩

/- function 19 spec_AskThatDoes -/
def spec_AskThatDoes.post (w0 : World) (r : ((Ar Int 4) × Int)) (v : Value) (w : World) : Prop := v = Value.tuple #[Value.agg ((encA (encI .i64)) r.1).toArray, Value.int .i64 r.2] ∧ St w0 [] w
set_option maxHeartbeats 8000000 in
set_option maxRecDepth 100000 in
theorem spec_AskThatDoes.calls {N : Nat} {a1 : Int} {a2 : (Ar Int 4)} {a3 : Int} {w0 : World} {r : ((Ar Int 4) × Int)} (H : spec_AskThatDoes.f N a1 a2 a3 = some r) :
    Calls Try.prog 19 #[Value.int .i64 a1, Value.agg ((encA (encI .i64)) a2).toArray, Value.int .i64 a3] w0 fun e w => ∃ v, e = .returned v ∧ spec_AskThatDoes.post w0 r v w := by
  unfold spec_AskThatDoes.f at H
  have hs : St w0 [] w0 := St.refl w0
  refine calls_of_g (n := 34) Try.func19 rfl rfl ?_
  show G _ _ _ _ [_,_,_,_,_,_,_,_,_,_,_,_,_,_,_,_,_,_,_,_,_,_,_,_,_,_,_,_,_,_,_,_,_,_,_,_,_] _
  refine g_seq ?_
  refine g_region ?_
  show G _ _ _ (.inRegion _ [0, 1, 2] :: _) _ _
  refine s_box hs rfl rfl (cs := ((encA (encI .i64)) a2)) rfl rfl ?_
  intro b4 w hs
  show G _ _ _ _ [_,_,_,_,_,_,_,_,_,_,_,_,_,_,_,_,_,_,_,_,_,_,_,_,_,_,_,_,_,_,_,_,_,_,_,_,_] _
  refine s_alloc hs rfl rfl (z := (Value.agg #[Value.int .i64 0, Value.int .i64 0, Value.int .i64 0, Value.int .i64 0])) (cs := ((encA (encI .i64)) (Ar.rep 4 0))) rfl (fun _ => rfl) rfl ?_
  intro b6 w hs
  show G _ _ _ _ [_,_,_,_,_,_,_,_,_,_,_,_,_,_,_,_,_,_,_,_,_,_,_,_,_,_,_,_,_,_,_,_,_,_,_,_,_] _
  refine g_op (v := Value.int .i64 0) rfl rfl rfl ?_
  show G _ _ _ _ [_,_,_,_,_,_,_,_,_,_,_,_,_,_,_,_,_,_,_,_,_,_,_,_,_,_,_,_,_,_,_,_,_,_,_,_,_] _
  refine g_ops_nil ?_
  refine g_seq ?_
  refine g_region ?_
  show G _ _ _ (.inRegion _ [0, 1, 2, 3, 4, 5, 6, 7, 8] :: _) _ _
  refine g_op (v := Value.int .i64 a1) rfl rfl rfl ?_
  refine s_loadA rfl rfl (es := ((encA (encI .i64)) a2)) rfl rfl (fun _ => rfl) (n := 4) (fun _ => rfl) ((fkA (n := 4) (he := (fkI .i64).len) (h1 := (fkI .i64).one)).len _) (cells_all (hs.cells 1 rfl)) ?_
  show G _ _ _ _ [_,_,_,_,_,_,_,_,_,_,_,_,_,_,_,_,_,_,_,_,_,_,_,_,_,_,_,_,_,_,_,_,_,_,_,_,_] _
  refine g_op (v := Value.int .i64 a3) rfl rfl rfl ?_
  obtain ⟨r8, Hr8, H⟩ := bind_get H
  obtain ⟨_ | q9, x10⟩ := r8
  ·
   dsimp only at H
   refine s_call (args := [Value.int .i64 a1, Value.agg ((encA (encI .i64)) a2).toArray, Value.int .i64 a3]) rfl rfl (x_call rfl (callFunc_enter Try.func34 rfl rfl) rfl) (spec_l06Start.calls (a1 := a1) (a2 := a2) (a3 := a3) Hr8) ?_
   rintro _ w ⟨rfl, hs2⟩
   have hs : St _ [_, _] _ := hs.call hs2
   show G _ _ _ _ [_,_,_,_,_,_,_,_,_,_,_,_,_,_,_,_,_,_,_,_,_,_,_,_,_,_,_,_,_,_,_,_,_,_,_,_,_] _
   refine g_op (v := Value.tuple #[Value.pointer none, Value.int .i64 x10]) rfl rfl rfl ?_
   refine g_op (v := Value.pointer none) rfl rfl rfl ?_
   refine g_op (v := Value.int .i64 x10) rfl rfl rfl ?_
   refine g_op (v := Value.pointer none) rfl rfl rfl ?_
   show G _ _ _ _ [_,_,_,_,_,_,_,_,_,_,_,_,_,_,_,_,_,_,_,_,_,_,_,_,_,_,_,_,_,_,_,_,_,_,_,_,_] _
   refine g_op (v := Value.int .i64 x10) rfl rfl rfl ?_
   show G _ _ _ _ [_,_,_,_,_,_,_,_,_,_,_,_,_,_,_,_,_,_,_,_,_,_,_,_,_,_,_,_,_,_,_,_,_,_,_,_,_] _
   refine g_ops_nil ?_
   refine g_seq ?_
   refine g_seq ?_
   refine g_region ?_
   show G _ _ _ (.inRegion _ [0, 1] :: _) _ _
   refine g_op (v := Value.int .i64 x10) rfl rfl rfl ?_
   refine g_op_b (B := x10 != 0) rfl rfl rfl ?_ ?_
   ·
    intro hb
    rw [if_neg (b_bne_t hb)] at H
    show G _ _ _ _ [_,_,_,_,_,_,_,_,_,_,_,_,_,_,_,_,_,_,_,_,_,_,_,_,_,_,_,_,_,_,_,_,_,_,_,_,_] _
    refine g_ops_nil ?_
    refine g_cond_true rfl ?_
    refine g_seq ?_
    refine g_region ?_
    show G _ _ _ (.inRegion _ [0, 1, 2, 3] :: _) _ _
    refine g_op (v := Value.agg ((encA (encI .i64)) (Ar.rep 4 0)).toArray) rfl rfl (x_build rfl rfl) ?_
    show G _ _ _ _ [_,_,_,_,_,_,_,_,_,_,_,_,_,_,_,_,_,_,_,_,_,_,_,_,_,_,_,_,_,_,_,_,_,_,_,_,_] _
    refine g_op (v := Value.int .i64 x10) rfl rfl rfl ?_
    refine s_storeAll (n := 4) hs ((fkA (n := 4) (he := (fkI .i64).len) (h1 := (fkI .i64).one)).len _) rfl rfl (vs := ((encA (encI .i64)) (Ar.rep 4 0))) rfl rfl rfl (fun _ => rfl) ((fkA (n := 4) (he := (fkI .i64).len) (h1 := (fkI .i64).one)).len _) ((fkA (n := 4) (he := (fkI .i64).len) (h1 := (fkI .i64).one)).one _) ?_
    intro w hs
    refine g_op (v := Value.int .i64 x10) rfl rfl rfl ?_
    show G _ _ _ _ [_,_,_,_,_,_,_,_,_,_,_,_,_,_,_,_,_,_,_,_,_,_,_,_,_,_,_,_,_,_,_,_,_,_,_,_,_] _
    refine g_ops_nil ?_
    obtain rfl := Option.some.inj H
    refine g_ret Try.func19 (v := Value.tuple #[Value.agg ((encA (encI .i64)) (Ar.rep 4 0)).toArray, Value.int .i64 x10]) (resN (l := Try.f19.results.toList) (vs := [Value.agg ((encA (encI .i64)) (Ar.rep 4 0)).toArray, Value.int .i64 x10]) rfl ⟨⟨_, rfl, (run_loadVar_agg (es := ((encA (encI .i64)) (Ar.rep 4 0))) rfl (congrArg (Result.ok · _) ((fkA (n := 4) (he := (fkI .i64).len) (h1 := (fkI .i64).one)).len _).symm) (cells_all (hs.cells 0 rfl)))⟩, rfl, trivial⟩ (by simp)) ?_
    have hs : St _ [] _ := St.take (Γ' := [_,_]) hs
    exact ⟨_, rfl, rfl, hs⟩
   ·
    intro hb
    rw [if_pos (b_bne_f hb)] at H
    show G _ _ _ _ [_,_,_,_,_,_,_,_,_,_,_,_,_,_,_,_,_,_,_,_,_,_,_,_,_,_,_,_,_,_,_,_,_,_,_,_,_] _
    refine g_ops_nil ?_
    refine g_cond_false rfl ?_
    refine g_skip ?_
    refine g_seq ?_
    refine g_seq ?_
    refine g_region ?_
    show G _ _ _ (.inRegion _ [0, 1] :: _) _ _
    refine g_op (v := Value.int .i64 a3) rfl rfl rfl ?_
    refine g_op_b (B := a3 == 0) rfl rfl rfl ?_ ?_
    ·
     intro hb
     rw [if_pos (b_beq_t hb)] at H
     show G _ _ _ _ [_,_,_,_,_,_,_,_,_,_,_,_,_,_,_,_,_,_,_,_,_,_,_,_,_,_,_,_,_,_,_,_,_,_,_,_,_] _
     refine g_ops_nil ?_
     refine g_cond_true rfl ?_
     refine g_seq ?_
     refine g_region ?_
     show G _ _ _ (.inRegion _ [0, 1, 2] :: _) _ _
     refine g_op (v := Value.agg ((encA (encI .i64)) (Ar.rep 4 0)).toArray) rfl rfl (x_build rfl rfl) ?_
     show G _ _ _ _ [_,_,_,_,_,_,_,_,_,_,_,_,_,_,_,_,_,_,_,_,_,_,_,_,_,_,_,_,_,_,_,_,_,_,_,_,_] _
     refine s_storeAll (n := 4) hs ((fkA (n := 4) (he := (fkI .i64).len) (h1 := (fkI .i64).one)).len _) rfl rfl (vs := ((encA (encI .i64)) (Ar.rep 4 0))) rfl rfl rfl (fun _ => rfl) ((fkA (n := 4) (he := (fkI .i64).len) (h1 := (fkI .i64).one)).len _) ((fkA (n := 4) (he := (fkI .i64).len) (h1 := (fkI .i64).one)).one _) ?_
     intro w hs
     refine g_op (v := Value.int .i64 6) rfl rfl rfl ?_
     show G _ _ _ _ [_,_,_,_,_,_,_,_,_,_,_,_,_,_,_,_,_,_,_,_,_,_,_,_,_,_,_,_,_,_,_,_,_,_,_,_,_] _
     refine g_ops_nil ?_
     obtain rfl := Option.some.inj H
     refine g_ret Try.func19 (v := Value.tuple #[Value.agg ((encA (encI .i64)) (Ar.rep 4 0)).toArray, Value.int .i64 6]) (resN (l := Try.f19.results.toList) (vs := [Value.agg ((encA (encI .i64)) (Ar.rep 4 0)).toArray, Value.int .i64 6]) rfl ⟨⟨_, rfl, (run_loadVar_agg (es := ((encA (encI .i64)) (Ar.rep 4 0))) rfl (congrArg (Result.ok · _) ((fkA (n := 4) (he := (fkI .i64).len) (h1 := (fkI .i64).one)).len _).symm) (cells_all (hs.cells 0 rfl)))⟩, rfl, trivial⟩ (by simp)) ?_
     have hs : St _ [] _ := St.take (Γ' := [_,_]) hs
     exact ⟨_, rfl, rfl, hs⟩
    ·
     intro hb
     rw [if_neg (b_beq_f hb)] at H
     show G _ _ _ _ [_,_,_,_,_,_,_,_,_,_,_,_,_,_,_,_,_,_,_,_,_,_,_,_,_,_,_,_,_,_,_,_,_,_,_,_,_] _
     refine g_ops_nil ?_
     refine g_cond_false rfl ?_
     refine g_skip ?_
     refine g_seq ?_
     refine g_region ?_
     show G _ _ _ (.inRegion _ [0, 1, 2, 3, 4, 5, 6, 7, 8, 9] :: _) _ _
     refine g_op (v := Value.pointer none) rfl rfl rfl ?_
     refine s_loadA rfl rfl (es := ((encA (encI .i64)) a2)) rfl rfl (fun _ => rfl) (n := 4) (fun _ => rfl) ((fkA (n := 4) (he := (fkI .i64).len) (h1 := (fkI .i64).one)).len _) (cells_all (hs.cells 1 rfl)) ?_
     show G _ _ _ _ [_,_,_,_,_,_,_,_,_,_,_,_,_,_,_,_,_,_,_,_,_,_,_,_,_,_,_,_,_,_,_,_,_,_,_,_,_] _
     refine g_op (v := Value.int .i64 a3) rfl rfl rfl ?_
     cases H
  ·
   dsimp only at H
   refine s_call (args := [Value.int .i64 a1, Value.agg ((encA (encI .i64)) a2).toArray, Value.int .i64 a3]) rfl rfl (x_call rfl (callFunc_enter Try.func34 rfl rfl) rfl) (spec_l06Start.calls (a1 := a1) (a2 := a2) (a3 := a3) Hr8) ?_
   rintro _ w ⟨b11, v12, rfl, hs2⟩
   have hs : St _ [_, _, _, _] _ := hs.call hs2
   show G _ _ _ _ [_,_,_,_,_,_,_,_,_,_,_,_,_,_,_,_,_,_,_,_,_,_,_,_,_,_,_,_,_,_,_,_,_,_,_,_,_] _
   refine g_op (v := Value.tuple #[Value.pointer (some ⟨b11, 0, none⟩), Value.int .i64 x10]) rfl rfl rfl ?_
   refine g_op (v := Value.pointer (some ⟨b11, 0, none⟩)) rfl rfl rfl ?_
   refine g_op (v := Value.int .i64 x10) rfl rfl rfl ?_
   refine g_op (v := Value.pointer (some ⟨b11, 0, none⟩)) rfl rfl rfl ?_
   show G _ _ _ _ [_,_,_,_,_,_,_,_,_,_,_,_,_,_,_,_,_,_,_,_,_,_,_,_,_,_,_,_,_,_,_,_,_,_,_,_,_] _
   refine g_op (v := Value.int .i64 x10) rfl rfl rfl ?_
   show G _ _ _ _ [_,_,_,_,_,_,_,_,_,_,_,_,_,_,_,_,_,_,_,_,_,_,_,_,_,_,_,_,_,_,_,_,_,_,_,_,_] _
   refine g_ops_nil ?_
   refine g_seq ?_
   refine g_seq ?_
   refine g_region ?_
   show G _ _ _ (.inRegion _ [0, 1] :: _) _ _
   refine g_op (v := Value.int .i64 x10) rfl rfl rfl ?_
   refine g_op_b (B := x10 != 0) rfl rfl rfl ?_ ?_
   ·
    intro hb
    rw [if_neg (b_bne_t hb)] at H
    show G _ _ _ _ [_,_,_,_,_,_,_,_,_,_,_,_,_,_,_,_,_,_,_,_,_,_,_,_,_,_,_,_,_,_,_,_,_,_,_,_,_] _
    refine g_ops_nil ?_
    refine g_cond_true rfl ?_
    refine g_seq ?_
    refine g_region ?_
    show G _ _ _ (.inRegion _ [0, 1, 2, 3] :: _) _ _
    refine g_op (v := Value.agg ((encA (encI .i64)) (Ar.rep 4 0)).toArray) rfl rfl (x_build rfl rfl) ?_
    show G _ _ _ _ [_,_,_,_,_,_,_,_,_,_,_,_,_,_,_,_,_,_,_,_,_,_,_,_,_,_,_,_,_,_,_,_,_,_,_,_,_] _
    refine g_op (v := Value.int .i64 x10) rfl rfl rfl ?_
    have hs := hs.pull 2 rfl
    have hs : St _ [_,_,_,_] _ := hs
    refine s_storeAll (n := 4) hs ((fkA (n := 4) (he := (fkI .i64).len) (h1 := (fkI .i64).one)).len _) rfl rfl (vs := ((encA (encI .i64)) (Ar.rep 4 0))) rfl rfl rfl (fun _ => rfl) ((fkA (n := 4) (he := (fkI .i64).len) (h1 := (fkI .i64).one)).len _) ((fkA (n := 4) (he := (fkI .i64).len) (h1 := (fkI .i64).one)).one _) ?_
    intro w hs
    refine g_op (v := Value.int .i64 x10) rfl rfl rfl ?_
    show G _ _ _ _ [_,_,_,_,_,_,_,_,_,_,_,_,_,_,_,_,_,_,_,_,_,_,_,_,_,_,_,_,_,_,_,_,_,_,_,_,_] _
    refine g_ops_nil ?_
    obtain rfl := Option.some.inj H
    refine g_ret Try.func19 (v := Value.tuple #[Value.agg ((encA (encI .i64)) (Ar.rep 4 0)).toArray, Value.int .i64 x10]) (resN (l := Try.f19.results.toList) (vs := [Value.agg ((encA (encI .i64)) (Ar.rep 4 0)).toArray, Value.int .i64 x10]) rfl ⟨⟨_, rfl, (run_loadVar_agg (es := ((encA (encI .i64)) (Ar.rep 4 0))) rfl (congrArg (Result.ok · _) ((fkA (n := 4) (he := (fkI .i64).len) (h1 := (fkI .i64).one)).len _).symm) (cells_all (hs.cells 0 rfl)))⟩, rfl, trivial⟩ (by simp)) ?_
    have hs : St _ [] _ := St.take (Γ' := [_,_,_,_]) hs
    exact ⟨_, rfl, rfl, hs⟩
   ·
    intro hb
    rw [if_pos (b_bne_f hb)] at H
    show G _ _ _ _ [_,_,_,_,_,_,_,_,_,_,_,_,_,_,_,_,_,_,_,_,_,_,_,_,_,_,_,_,_,_,_,_,_,_,_,_,_] _
    refine g_ops_nil ?_
    refine g_cond_false rfl ?_
    refine g_skip ?_
    refine g_seq ?_
    refine g_seq ?_
    refine g_region ?_
    show G _ _ _ (.inRegion _ [0, 1] :: _) _ _
    refine g_op (v := Value.int .i64 a3) rfl rfl rfl ?_
    refine g_op_b (B := a3 == 0) rfl rfl rfl ?_ ?_
    ·
     intro hb
     rw [if_pos (b_beq_t hb)] at H
     show G _ _ _ _ [_,_,_,_,_,_,_,_,_,_,_,_,_,_,_,_,_,_,_,_,_,_,_,_,_,_,_,_,_,_,_,_,_,_,_,_,_] _
     refine g_ops_nil ?_
     refine g_cond_true rfl ?_
     refine g_seq ?_
     refine g_region ?_
     show G _ _ _ (.inRegion _ [0, 1, 2] :: _) _ _
     refine g_op (v := Value.agg ((encA (encI .i64)) (Ar.rep 4 0)).toArray) rfl rfl (x_build rfl rfl) ?_
     show G _ _ _ _ [_,_,_,_,_,_,_,_,_,_,_,_,_,_,_,_,_,_,_,_,_,_,_,_,_,_,_,_,_,_,_,_,_,_,_,_,_] _
     have hs := hs.pull 2 rfl
     have hs : St _ [_,_,_,_] _ := hs
     refine s_storeAll (n := 4) hs ((fkA (n := 4) (he := (fkI .i64).len) (h1 := (fkI .i64).one)).len _) rfl rfl (vs := ((encA (encI .i64)) (Ar.rep 4 0))) rfl rfl rfl (fun _ => rfl) ((fkA (n := 4) (he := (fkI .i64).len) (h1 := (fkI .i64).one)).len _) ((fkA (n := 4) (he := (fkI .i64).len) (h1 := (fkI .i64).one)).one _) ?_
     intro w hs
     refine g_op (v := Value.int .i64 6) rfl rfl rfl ?_
     show G _ _ _ _ [_,_,_,_,_,_,_,_,_,_,_,_,_,_,_,_,_,_,_,_,_,_,_,_,_,_,_,_,_,_,_,_,_,_,_,_,_] _
     refine g_ops_nil ?_
     obtain rfl := Option.some.inj H
     refine g_ret Try.func19 (v := Value.tuple #[Value.agg ((encA (encI .i64)) (Ar.rep 4 0)).toArray, Value.int .i64 6]) (resN (l := Try.f19.results.toList) (vs := [Value.agg ((encA (encI .i64)) (Ar.rep 4 0)).toArray, Value.int .i64 6]) rfl ⟨⟨_, rfl, (run_loadVar_agg (es := ((encA (encI .i64)) (Ar.rep 4 0))) rfl (congrArg (Result.ok · _) ((fkA (n := 4) (he := (fkI .i64).len) (h1 := (fkI .i64).one)).len _).symm) (cells_all (hs.cells 0 rfl)))⟩, rfl, trivial⟩ (by simp)) ?_
     have hs : St _ [] _ := St.take (Γ' := [_,_,_,_]) hs
     exact ⟨_, rfl, rfl, hs⟩
    ·
     intro hb
     rw [if_neg (b_beq_f hb)] at H
     show G _ _ _ _ [_,_,_,_,_,_,_,_,_,_,_,_,_,_,_,_,_,_,_,_,_,_,_,_,_,_,_,_,_,_,_,_,_,_,_,_,_] _
     refine g_ops_nil ?_
     refine g_cond_false rfl ?_
     refine g_skip ?_
     refine g_seq ?_
     refine g_region ?_
     show G _ _ _ (.inRegion _ [0, 1, 2, 3, 4, 5, 6, 7, 8, 9] :: _) _ _
     refine g_op (v := Value.pointer (some ⟨b11, 0, none⟩)) rfl rfl rfl ?_
     refine s_loadA rfl rfl (es := ((encA (encI .i64)) a2)) rfl rfl (fun _ => rfl) (n := 4) (fun _ => rfl) ((fkA (n := 4) (he := (fkI .i64).len) (h1 := (fkI .i64).one)).len _) (cells_all (hs.cells 3 rfl)) ?_
     show G _ _ _ _ [_,_,_,_,_,_,_,_,_,_,_,_,_,_,_,_,_,_,_,_,_,_,_,_,_,_,_,_,_,_,_,_,_,_,_,_,_] _
     refine g_op (v := Value.int .i64 a3) rfl rfl rfl ?_
     obtain ⟨r15, Hr15, H⟩ := bind_get H
     have hs := hs.pull 0 rfl
     have hs := hs.pull 1 rfl
     have hs : St _ [_,_,_,_] _ := hs
     have hs := hs.pack 2
     refine s_call (args := [Value.pointer (some ⟨b11, 0, none⟩), Value.agg ((encA (encI .i64)) a2).toArray, Value.int .i64 a3]) rfl rfl (x_call rfl (callFunc_enter Try.func37 rfl rfl) rfl) (_spec_l06Finder_first.calls _spec_l06Finder_can.ih (a1 := (⟨q9.f_lies, q9.f_seen⟩ : S_spec_l06Finder)) (a6 := a2) (a7 := a3) hs Hr15) ?_
     rintro _ w ⟨rfl, hs⟩
     have hs := St.unpack (Γ := [_,_]) hs
     have hs : St _ [_,_,_,_] _ := hs
     show G _ _ _ _ [_,_,_,_,_,_,_,_,_,_,_,_,_,_,_,_,_,_,_,_,_,_,_,_,_,_,_,_,_,_,_,_,_,_,_,_,_] _
     refine g_op (v := Value.tuple #[Value.agg ((encA (encI .i64)) r15.1).toArray, Value.bool r15.2.1]) rfl rfl rfl ?_
     refine g_op (v := Value.agg ((encA (encI .i64)) r15.1).toArray) rfl rfl rfl ?_
     refine g_op (v := Value.bool r15.2.1) rfl rfl rfl ?_
     refine s_alloc hs rfl rfl (z := (Value.agg #[Value.int .i64 0, Value.int .i64 0, Value.int .i64 0, Value.int .i64 0])) (cs := ((encA (encI .i64)) (Ar.rep 4 0))) rfl (fun _ => rfl) rfl ?_
     intro b16 w hs
     show G _ _ _ _ [_,_,_,_,_,_,_,_,_,_,_,_,_,_,_,_,_,_,_,_,_,_,_,_,_,_,_,_,_,_,_,_,_,_,_,_,_] _
     refine s_storeAll (n := 4) hs ((fkA (n := 4) (he := (fkI .i64).len) (h1 := (fkI .i64).one)).len _) rfl rfl (vs := ((encA (encI .i64)) r15.1)) rfl rfl rfl (fun _ => rfl) ((fkA (n := 4) (he := (fkI .i64).len) (h1 := (fkI .i64).one)).len _) ((fkA (n := 4) (he := (fkI .i64).len) (h1 := (fkI .i64).one)).one _) ?_
     intro w hs
     refine g_op (v := Value.bool r15.2.1) rfl rfl rfl ?_
     show G _ _ _ _ [_,_,_,_,_,_,_,_,_,_,_,_,_,_,_,_,_,_,_,_,_,_,_,_,_,_,_,_,_,_,_,_,_,_,_,_,_] _
     refine g_ops_nil ?_
     refine g_seq ?_
     refine g_seq ?_
     refine g_region ?_
     show G _ _ _ (.inRegion _ [0, 1] :: _) _ _
     refine g_op_b (B := r15.2.1) rfl rfl rfl ?_ ?_
     ·
      intro hb
      rw [if_pos (b_var_t hb)] at H
      refine g_op (v := Value.bool false) rfl rfl rfl ?_
      show G _ _ _ _ [_,_,_,_,_,_,_,_,_,_,_,_,_,_,_,_,_,_,_,_,_,_,_,_,_,_,_,_,_,_,_,_,_,_,_,_,_] _
      refine g_ops_nil ?_
      refine g_cond_false rfl ?_
      refine g_skip ?_
      refine g_seq ?_
      refine g_region ?_
      show G _ _ _ (.inRegion _ [0, 1, 2] :: _) _ _
      refine s_loadA rfl rfl (es := ((encA (encI .i64)) r15.1)) rfl rfl (fun _ => rfl) (n := 4) (fun _ => rfl) ((fkA (n := 4) (he := (fkI .i64).len) (h1 := (fkI .i64).one)).len _) (cells_all (hs.cells 0 rfl)) ?_
      show G _ _ _ _ [_,_,_,_,_,_,_,_,_,_,_,_,_,_,_,_,_,_,_,_,_,_,_,_,_,_,_,_,_,_,_,_,_,_,_,_,_] _
      have hs := hs.pull 3 rfl
      have hs : St _ [_,_,_,_,_] _ := hs
      refine s_storeAll (n := 4) hs ((fkA (n := 4) (he := (fkI .i64).len) (h1 := (fkI .i64).one)).len _) rfl rfl (vs := ((encA (encI .i64)) r15.1)) rfl rfl rfl (fun _ => rfl) ((fkA (n := 4) (he := (fkI .i64).len) (h1 := (fkI .i64).one)).len _) ((fkA (n := 4) (he := (fkI .i64).len) (h1 := (fkI .i64).one)).one _) ?_
      intro w hs
      refine g_op (v := Value.int .i64 0) rfl rfl rfl ?_
      show G _ _ _ _ [_,_,_,_,_,_,_,_,_,_,_,_,_,_,_,_,_,_,_,_,_,_,_,_,_,_,_,_,_,_,_,_,_,_,_,_,_] _
      refine g_ops_nil ?_
      obtain rfl := Option.some.inj H
      refine g_ret Try.func19 (v := Value.tuple #[Value.agg ((encA (encI .i64)) r15.1).toArray, Value.int .i64 0]) (resN (l := Try.f19.results.toList) (vs := [Value.agg ((encA (encI .i64)) r15.1).toArray, Value.int .i64 0]) rfl ⟨⟨_, rfl, (run_loadVar_agg (es := ((encA (encI .i64)) r15.1)) rfl (congrArg (Result.ok · _) ((fkA (n := 4) (he := (fkI .i64).len) (h1 := (fkI .i64).one)).len _).symm) (cells_all (hs.cells 0 rfl)))⟩, rfl, trivial⟩ (by simp)) ?_
      have hs : St _ [] _ := St.take (Γ' := [_,_,_,_,_]) hs
      exact ⟨_, rfl, rfl, hs⟩
     ·
      intro hb
      rw [if_neg (b_var_f hb)] at H
      refine g_op (v := Value.bool true) rfl rfl rfl ?_
      show G _ _ _ _ [_,_,_,_,_,_,_,_,_,_,_,_,_,_,_,_,_,_,_,_,_,_,_,_,_,_,_,_,_,_,_,_,_,_,_,_,_] _
      refine g_ops_nil ?_
      refine g_cond_true rfl ?_
      refine g_seq ?_
      refine g_region ?_
      show G _ _ _ (.inRegion _ [0, 1, 2] :: _) _ _
      refine g_op (v := Value.agg ((encA (encI .i64)) (Ar.rep 4 0)).toArray) rfl rfl (x_build rfl rfl) ?_
      show G _ _ _ _ [_,_,_,_,_,_,_,_,_,_,_,_,_,_,_,_,_,_,_,_,_,_,_,_,_,_,_,_,_,_,_,_,_,_,_,_,_] _
      have hs := hs.pull 3 rfl
      have hs : St _ [_,_,_,_,_] _ := hs
      refine s_storeAll (n := 4) hs ((fkA (n := 4) (he := (fkI .i64).len) (h1 := (fkI .i64).one)).len _) rfl rfl (vs := ((encA (encI .i64)) (Ar.rep 4 0))) rfl rfl rfl (fun _ => rfl) ((fkA (n := 4) (he := (fkI .i64).len) (h1 := (fkI .i64).one)).len _) ((fkA (n := 4) (he := (fkI .i64).len) (h1 := (fkI .i64).one)).one _) ?_
      intro w hs
      refine g_op (v := Value.int .i64 6) rfl rfl rfl ?_
      show G _ _ _ _ [_,_,_,_,_,_,_,_,_,_,_,_,_,_,_,_,_,_,_,_,_,_,_,_,_,_,_,_,_,_,_,_,_,_,_,_,_] _
      refine g_ops_nil ?_
      obtain rfl := Option.some.inj H
      refine g_ret Try.func19 (v := Value.tuple #[Value.agg ((encA (encI .i64)) (Ar.rep 4 0)).toArray, Value.int .i64 6]) (resN (l := Try.f19.results.toList) (vs := [Value.agg ((encA (encI .i64)) (Ar.rep 4 0)).toArray, Value.int .i64 6]) rfl ⟨⟨_, rfl, (run_loadVar_agg (es := ((encA (encI .i64)) (Ar.rep 4 0))) rfl (congrArg (Result.ok · _) ((fkA (n := 4) (he := (fkI .i64).len) (h1 := (fkI .i64).one)).len _).symm) (cells_all (hs.cells 0 rfl)))⟩, rfl, trivial⟩ (by simp)) ?_
      have hs : St _ [] _ := St.take (Γ' := [_,_,_,_,_]) hs
      exact ⟨_, rfl, rfl, hs⟩

end Go.Proofs.YtfnfoecocicigaaX
