/- Contracts, printed by gen.py. -/
import Derived.Test.YtfnfoecocicigaaXT
import Derived.Test.YtfnfoecocicigaaProg
import Derived.Test.YtfnfoecocicigaaXRowR
import Derived.Test.YtfnfoecocicigaaXSeg
import Derived.Test.YtfnfoecocicigaaXKey
namespace Go.Proofs.YtfnfoecocicigaaX
open Go Go.RowKit Go.Proofs
set_option linter.unusedVariables false
set_option linter.unusedSimpArgs false
/- function 43 spec_l06Choose -/
def spec_l06Choose.post (w0 : World) (r : Int) (v : Value) (w : World) : Prop := v = Value.int .i64 r ∧ St w0 [] w
set_option maxHeartbeats 8000000 in
set_option maxRecDepth 100000 in
theorem spec_l06Choose.calls {N : Nat} {a1 : Int} {a2 : Int} {w0 : World} {r : Int} (H : spec_l06Choose.f N a1 a2 = some r) :
    Calls Try.prog 43 #[Value.int .i64 a1, Value.int .i64 a2] w0 fun e w => ∃ v, e = .returned v ∧ spec_l06Choose.post w0 r v w := by
  unfold spec_l06Choose.f at H
  have hs : St w0 [] w0 := St.refl w0
  refine calls_of_g (n := 28) Try.func43 rfl rfl ?_
  show G _ _ _ _ [_,_,_,_,_,_,_,_,_,_,_,_,_,_,_,_,_,_,_,_,_,_,_,_,_,_,_,_,_,_] _
  refine g_seq ?_
  refine g_region ?_
  show G _ _ _ (.inRegion _ [0] :: _) _ _
  refine g_op (v := Value.int .i64 0) rfl rfl rfl ?_
  show G _ _ _ _ [_,_,_,_,_,_,_,_,_,_,_,_,_,_,_,_,_,_,_,_,_,_,_,_,_,_,_,_,_,_] _
  refine g_ops_nil ?_
  refine g_seq ?_
  refine g_region ?_
  show G _ _ _ (.inRegion _ [0] :: _) _ _
  refine g_op (v := Value.int .i64 0) rfl rfl rfl ?_
  show G _ _ _ _ [_,_,_,_,_,_,_,_,_,_,_,_,_,_,_,_,_,_,_,_,_,_,_,_,_,_,_,_,_,_] _
  refine g_ops_nil ?_
  refine g_seq ?_
  refine g_region ?_
  show G _ _ _ (.inRegion _ [0] :: _) _ _
  refine g_op (v := Value.int .i64 1) rfl rfl rfl ?_
  show G _ _ _ _ [_,_,_,_,_,_,_,_,_,_,_,_,_,_,_,_,_,_,_,_,_,_,_,_,_,_,_,_,_,_] _
  refine g_ops_nil ?_
  refine g_seq ?_
  refine g_seq ?_
  refine g_region ?_
  show G _ _ _ (.inRegion _ [0] :: _) _ _
  refine g_op (v := Value.int .i64 0) rfl rfl rfl ?_
  show G _ _ _ _ [_,_,_,_,_,_,_,_,_,_,_,_,_,_,_,_,_,_,_,_,_,_,_,_,_,_,_,_,_,_] _
  refine g_ops_nil ?_
  obtain ⟨o1_, Ho, Hr1_⟩ := bind_get H
  refine g_block_join (J := fun t w => ∃ x6 : Int, spec_l06Choose.a0 N x6 = some r ∧ Fr t (fun O => ([O 0, O 1, O 2, O 3, O 4, Value.int .i64 x6, O 6, O 7, O 8, O 9, O 10, O 11, O 12, O 13, O 14, O 15, O 16, O 17, O 18, O 19, O 20, O 21, O 22, O 23, O 24, O 25, O 26, O 27, O 28, O 29] : List Value)) ∧ St w0 [] w) ?_ ?_
  ·
   rintro t w ⟨x6, H, hf, hs⟩
   obtain ⟨O, rfl⟩ := hf.open
   show G _ _ _ _ [_,_,_,_,_,_,_,_,_,_,_,_,_,_,_,_,_,_,_,_,_,_,_,_,_,_,_,_,_,_] _
   unfold spec_l06Choose.a0 at H
   refine g_seq ?_
   refine g_region ?_
   show G _ _ _ (.inRegion _ [0, 1] :: _) _ _
   refine g_op (v := Value.int .i64 x6) rfl rfl rfl ?_
   refine g_op (v := Value.int .i64 x6) rfl rfl rfl ?_
   show G _ _ _ _ [_,_,_,_,_,_,_,_,_,_,_,_,_,_,_,_,_,_,_,_,_,_,_,_,_,_,_,_,_,_] _
   refine g_ops_nil ?_
   obtain rfl := Option.some.inj H
   refine g_ret Try.func43 (v := Value.int .i64 x6) (res1 rfl rfl) ?_
   have hs : St _ [] _ := St.take (Γ' := []) hs
   exact ⟨_, rfl, rfl, hs⟩
  ·
   intro ha1_
   have hs : St _ [] _ := St.take (Γ' := []) hs
   refine g_loop_fuel (I := fun n_ t w => ∃ x3 : Int, ∃ x4 : Int, ∃ x5 : Int, rounds (fun s => spec_l06Choose.b0 N a2 a1 s.1 s.2.1 s.2.2) n_ (x3, x4, x5) = some o1_ ∧ Fr t (fun O => ([Value.int .i64 a1, Value.int .i64 a2, O 2, O 3, O 4, Value.int .i64 x3, Value.int .i64 x4, Value.int .i64 x5, O 8, O 9, O 10, O 11, O 12, O 13, O 14, O 15, O 16, O 17, O 18, O 19, O 20, O 21, O 22, O 23, O 24, O 25, O 26, O 27, O 28, O 29] : List Value)) ∧ St w0 [] w) N ⟨0, 1, 0, Ho, rfl, hs⟩ ?_ ?_
   ·
    rintro _ _ ⟨x3, x4, x5, h, _⟩
    exact rounds_zero h
   ·
    intro n_ ih1_
    rintro t w ⟨x3, x4, x5, Ho, hf, hs⟩
    obtain ⟨O, rfl⟩ := hf.open
    show G _ _ _ _ [_,_,_,_,_,_,_,_,_,_,_,_,_,_,_,_,_,_,_,_,_,_,_,_,_,_,_,_,_,_] _
    obtain ⟨x2_, H, Hx1_⟩ := rounds_succ Ho
    have H : spec_l06Choose.b0 N a2 a1 x3 x4 x5 = some x2_ := H
    unfold spec_l06Choose.b0 at H
    refine g_seq ?_
    refine g_seq ?_
    refine g_region ?_
    show G _ _ _ (.inRegion _ [0, 1, 2, 3, 4, 5, 6, 7] :: _) _ _
    refine g_op (v := Value.int .i64 x5) rfl rfl rfl ?_
    refine g_op (v := Value.int .i64 a2) rfl rfl rfl ?_
    refine g_op_b (B := decide (x5 ≤ a2)) rfl rfl rfl ?_ ?_
    ·
     intro hb
     rw [if_pos (b_dec_t hb)] at H
     show G _ _ _ _ [_,_,_,_,_,_,_,_,_,_,_,_,_,_,_,_,_,_,_,_,_,_,_,_,_,_,_,_,_,_] _
     refine g_op (v := Value.bool true) rfl rfl rfl ?_
     refine g_op (v := Value.int .i64 x5) rfl rfl rfl ?_
     refine g_op (v := Value.int .i64 a1) rfl rfl rfl ?_
     refine g_op_b (B := decide (x5 ≤ a1)) rfl rfl rfl ?_ ?_
     ·
      intro hb
      rw [if_pos (b_dec_t hb)] at H
      show G _ _ _ _ [_,_,_,_,_,_,_,_,_,_,_,_,_,_,_,_,_,_,_,_,_,_,_,_,_,_,_,_,_,_] _
      refine g_op (v := Value.bool true) rfl rfl rfl ?_
      show G _ _ _ _ [_,_,_,_,_,_,_,_,_,_,_,_,_,_,_,_,_,_,_,_,_,_,_,_,_,_,_,_,_,_] _
      refine g_ops_nil ?_
      refine g_cond_true rfl ?_
      refine g_skip ?_
      refine g_seq ?_
      refine g_block ?_
      refine g_seq ?_
      refine g_region ?_
      show G _ _ _ (.inRegion _ [0, 1, 2, 3] :: _) _ _
      refine g_op (v := Value.int .i64 x3) rfl rfl rfl ?_
      refine g_op (v := Value.int .i64 x4) rfl rfl rfl ?_
      refine g_op (v := Value.int .i64 (i64w (x3 + x4))) rfl rfl rfl ?_
      show G _ _ _ _ [_,_,_,_,_,_,_,_,_,_,_,_,_,_,_,_,_,_,_,_,_,_,_,_,_,_,_,_,_,_] _
      refine g_op (v := Value.int .i64 (i64w (x3 + x4))) rfl rfl rfl ?_
      show G _ _ _ _ [_,_,_,_,_,_,_,_,_,_,_,_,_,_,_,_,_,_,_,_,_,_,_,_,_,_,_,_,_,_] _
      refine g_ops_nil ?_
      refine g_region ?_
      show G _ _ _ (.inRegion _ [0, 1, 2, 3, 4, 5, 6, 7, 8] :: _) _ _
      refine g_op (v := Value.int .i64 x4) rfl rfl rfl ?_
      refine g_op (v := Value.int .i64 a1) rfl rfl rfl ?_
      refine g_op (v := Value.int .i64 x5) rfl rfl rfl ?_
      refine g_op (v := Value.int .i64 (i64w (a1 - x5))) rfl rfl rfl ?_
      show G _ _ _ _ [_,_,_,_,_,_,_,_,_,_,_,_,_,_,_,_,_,_,_,_,_,_,_,_,_,_,_,_,_,_] _
      refine g_op (v := Value.int .i64 (i64w (x4 * (i64w (a1 - x5))))) rfl rfl rfl ?_
      show G _ _ _ _ [_,_,_,_,_,_,_,_,_,_,_,_,_,_,_,_,_,_,_,_,_,_,_,_,_,_,_,_,_,_] _
      refine g_op (v := Value.int .i64 x5) rfl rfl rfl ?_
      refine g_op (v := Value.int .i64 (i64w (x5 + 1))) rfl rfl rfl ?_
      show G _ _ _ _ [_,_,_,_,_,_,_,_,_,_,_,_,_,_,_,_,_,_,_,_,_,_,_,_,_,_,_,_,_,_] _
      obtain ⟨g1, H⟩ := ite_get H
      refine g_op (v := Value.int .i64 (i64w ((i64w (x4 * (i64w (a1 - x5)))).tdiv (i64w (x5 + 1))))) rfl rfl (x_divquo rfl rfl rfl g1) ?_
      show G _ _ _ _ [_,_,_,_,_,_,_,_,_,_,_,_,_,_,_,_,_,_,_,_,_,_,_,_,_,_,_,_,_,_] _
      refine g_op (v := Value.int .i64 (i64w ((i64w (x4 * (i64w (a1 - x5)))).tdiv (i64w (x5 + 1))))) rfl rfl rfl ?_
      show G _ _ _ _ [_,_,_,_,_,_,_,_,_,_,_,_,_,_,_,_,_,_,_,_,_,_,_,_,_,_,_,_,_,_] _
      refine g_ops_nil ?_
      refine g_inBlock ?_
      refine g_region ?_
      show G _ _ _ (.inRegion _ [0, 1, 2] :: _) _ _
      refine g_op (v := Value.int .i64 x5) rfl rfl rfl ?_
      refine g_op (v := Value.int .i64 (i64w (x5 + 1))) rfl rfl rfl ?_
      show G _ _ _ _ [_,_,_,_,_,_,_,_,_,_,_,_,_,_,_,_,_,_,_,_,_,_,_,_,_,_,_,_,_,_] _
      refine g_op (v := Value.int .i64 (i64w (x5 + 1))) rfl rfl rfl ?_
      show G _ _ _ _ [_,_,_,_,_,_,_,_,_,_,_,_,_,_,_,_,_,_,_,_,_,_,_,_,_,_,_,_,_,_] _
      refine g_ops_nil ?_
      obtain rfl := Option.some.inj H
      have hs : St _ [] _ := St.take (Γ' := []) hs
      exact ih1_ _ _ ⟨i64w (x3 + x4), i64w ((i64w (x4 * (i64w (a1 - x5)))).tdiv (i64w (x5 + 1))), i64w (x5 + 1), Hx1_, rfl, hs⟩
     ·
      intro hb
      rw [if_neg (b_dec_f hb)] at H
      show G _ _ _ _ [_,_,_,_,_,_,_,_,_,_,_,_,_,_,_,_,_,_,_,_,_,_,_,_,_,_,_,_,_,_] _
      refine g_op (v := Value.bool false) rfl rfl rfl ?_
      show G _ _ _ _ [_,_,_,_,_,_,_,_,_,_,_,_,_,_,_,_,_,_,_,_,_,_,_,_,_,_,_,_,_,_] _
      refine g_ops_nil ?_
      refine g_cond_false rfl ?_
      obtain rfl := Option.some.inj H
      subst Hx1_
      have hs : St _ [] _ := St.take (Γ' := []) hs
      refine g_exit rfl ?_
      exact ha1_ _ _ ⟨x3, Hr1_, rfl, hs⟩
    ·
     intro hb
     rw [if_neg (b_dec_f hb)] at H
     show G _ _ _ _ [_,_,_,_,_,_,_,_,_,_,_,_,_,_,_,_,_,_,_,_,_,_,_,_,_,_,_,_,_,_] _
     refine g_op (v := Value.bool false) rfl rfl rfl ?_
     refine g_op_not rfl rfl ?_
     refine g_op_not rfl rfl ?_
     refine g_op_not rfl rfl ?_
     show G _ _ _ _ [_,_,_,_,_,_,_,_,_,_,_,_,_,_,_,_,_,_,_,_,_,_,_,_,_,_,_,_,_,_] _
     refine g_op (v := Value.bool false) rfl rfl rfl ?_
     show G _ _ _ _ [_,_,_,_,_,_,_,_,_,_,_,_,_,_,_,_,_,_,_,_,_,_,_,_,_,_,_,_,_,_] _
     refine g_ops_nil ?_
     refine g_cond_false rfl ?_
     obtain rfl := Option.some.inj H
     subst Hx1_
     have hs : St _ [] _ := St.take (Γ' := []) hs
     refine g_exit rfl ?_
     exact ha1_ _ _ ⟨x3, Hr1_, rfl, hs⟩

/- function 42 spec_l06Weight -/
def spec_l06Weight.post (w0 : World) (r : Int) (v : Value) (w : World) : Prop := v = Value.int .i64 r ∧ St w0 [] w
set_option maxHeartbeats 8000000 in
set_option maxRecDepth 100000 in
theorem spec_l06Weight.calls {N : Nat} {a1 : Int} {a2 : (Ar Int 4)} {a3 : Int} {w0 : World} {r : Int} (H : spec_l06Weight.f N a1 a2 a3 = some r) :
    Calls Try.prog 42 #[Value.int .i64 a1, Value.agg ((encA (encI .i64)) a2).toArray, Value.int .i64 a3] w0 fun e w => ∃ v, e = .returned v ∧ spec_l06Weight.post w0 r v w := by
  unfold spec_l06Weight.f at H
  have hs : St w0 [] w0 := St.refl w0
  refine calls_of_g (n := 23) Try.func42 rfl rfl ?_
  show G _ _ _ _ [_,_,_,_,_,_,_,_,_,_,_,_,_,_,_,_,_,_,_,_,_,_,_,_,_,_] _
  refine g_seq ?_
  refine g_region ?_
  show G _ _ _ (.inRegion _ [0, 1] :: _) _ _
  refine s_box hs rfl rfl (cs := ((encA (encI .i64)) a2)) rfl rfl ?_
  intro b4 w hs
  show G _ _ _ _ [_,_,_,_,_,_,_,_,_,_,_,_,_,_,_,_,_,_,_,_,_,_,_,_,_,_] _
  refine g_op (v := Value.int .i64 0) rfl rfl rfl ?_
  show G _ _ _ _ [_,_,_,_,_,_,_,_,_,_,_,_,_,_,_,_,_,_,_,_,_,_,_,_,_,_] _
  refine g_ops_nil ?_
  refine g_seq ?_
  refine g_region ?_
  show G _ _ _ (.inRegion _ [0] :: _) _ _
  refine g_op (v := Value.int .i64 0) rfl rfl rfl ?_
  show G _ _ _ _ [_,_,_,_,_,_,_,_,_,_,_,_,_,_,_,_,_,_,_,_,_,_,_,_,_,_] _
  refine g_ops_nil ?_
  refine g_seq ?_
  refine g_seq ?_
  refine g_region ?_
  show G _ _ _ (.inRegion _ [0] :: _) _ _
  refine g_op (v := Value.int .i64 0) rfl rfl rfl ?_
  show G _ _ _ _ [_,_,_,_,_,_,_,_,_,_,_,_,_,_,_,_,_,_,_,_,_,_,_,_,_,_] _
  refine g_ops_nil ?_
  obtain ⟨o1_, Ho, Hr1_⟩ := bind_get H
  refine g_block_join (J := fun t w => ∃ x9 : Int, spec_l06Weight.a0 N x9 = some r ∧ Fr t (fun O => ([O 0, O 1, O 2, O 3, O 4, O 5, O 6, Value.int .i64 x9, O 8, O 9, O 10, O 11, O 12, O 13, O 14, O 15, O 16, O 17, O 18, O 19, O 20, O 21, O 22, O 23, O 24, O 25] : List Value)) ∧ St w0 [] w) ?_ ?_
  ·
   rintro t w ⟨x9, H, hf, hs⟩
   obtain ⟨O, rfl⟩ := hf.open
   show G _ _ _ _ [_,_,_,_,_,_,_,_,_,_,_,_,_,_,_,_,_,_,_,_,_,_,_,_,_,_] _
   unfold spec_l06Weight.a0 at H
   refine g_seq ?_
   refine g_region ?_
   show G _ _ _ (.inRegion _ [0, 1] :: _) _ _
   refine g_op (v := Value.int .i64 x9) rfl rfl rfl ?_
   refine g_op (v := Value.int .i64 x9) rfl rfl rfl ?_
   show G _ _ _ _ [_,_,_,_,_,_,_,_,_,_,_,_,_,_,_,_,_,_,_,_,_,_,_,_,_,_] _
   refine g_ops_nil ?_
   obtain rfl := Option.some.inj H
   refine g_ret Try.func42 (v := Value.int .i64 x9) (res1 rfl rfl) ?_
   have hs : St _ [] _ := St.take (Γ' := []) hs
   exact ⟨_, rfl, rfl, hs⟩
  ·
   intro ha1_
   have hs := hs.pull 0 rfl
   have hs : St _ [_] _ := St.take (Γ' := []) hs
   refine g_loop_fuel (I := fun n_ t w => ∃ x6 : Int, ∃ x7 : Int, rounds (fun s => spec_l06Weight.b0 N a1 a3 a2 s.1 s.2) n_ (x6, x7) = some o1_ ∧ Fr t (fun O => ([Value.int .i64 a1, O 1, Value.int .i64 a3, O 3, Value.pointer (some ⟨b4, 0, none⟩), O 5, O 6, Value.int .i64 x6, Value.int .i64 x7, O 9, O 10, O 11, O 12, O 13, O 14, O 15, O 16, O 17, O 18, O 19, O 20, O 21, O 22, O 23, O 24, O 25] : List Value)) ∧ St w0 [Cells b4 ((encA (encI .i64)) a2) 25] w) N ⟨0, 0, Ho, rfl, hs⟩ ?_ ?_
   ·
    rintro _ _ ⟨x6, x7, h, _⟩
    exact rounds_zero h
   ·
    intro n_ ih1_
    rintro t w ⟨x6, x7, Ho, hf, hs⟩
    obtain ⟨O, rfl⟩ := hf.open
    show G _ _ _ _ [_,_,_,_,_,_,_,_,_,_,_,_,_,_,_,_,_,_,_,_,_,_,_,_,_,_] _
    obtain ⟨x2_, H, Hx1_⟩ := rounds_succ Ho
    have H : spec_l06Weight.b0 N a1 a3 a2 x6 x7 = some x2_ := H
    unfold spec_l06Weight.b0 at H
    refine g_seq ?_
    refine g_seq ?_
    refine g_region ?_
    show G _ _ _ (.inRegion _ [0, 1, 2] :: _) _ _
    refine g_op (v := Value.int .i64 x7) rfl rfl rfl ?_
    refine g_op (v := Value.int .i64 a1) rfl rfl rfl ?_
    refine g_op_b (B := decide (x7 ≤ a1)) rfl rfl rfl ?_ ?_
    ·
     intro hb
     rw [if_pos (b_dec_t hb)] at H
     show G _ _ _ _ [_,_,_,_,_,_,_,_,_,_,_,_,_,_,_,_,_,_,_,_,_,_,_,_,_,_] _
     refine g_ops_nil ?_
     refine g_cond_true rfl ?_
     refine g_skip ?_
     refine g_seq ?_
     refine g_block ?_
     obtain ⟨gd1, H⟩ := ite_get H
     obtain ⟨r8, Hr8, H⟩ := bind_get H
     refine g_name ?_
     intro T hT
     refine g_any (n := 12) rfl [0, 1, 2, 3, 4, 5, 6, 7, 8, 9, 10, 11] [0, 1, 2, 3, 4, 5, 6, 7, 8, 9, 10, 11] rfl rfl (Inv := fun D t w => ∃ O : Nat → Value, t = [Value.int .i64 a1, O 1, Value.int .i64 a3, O 3, Value.pointer (some ⟨b4, 0, none⟩), O 5, O 6, cnd (D 11) (Value.int .i64 (i64w (x6 + (i64w ((a2.get x7 0) * r8))))) (Value.int .i64 x6), Value.int .i64 x7, Value.int .i64 x7, Value.int .i64 a1, Value.bool true, O 12, O 13, cnd (D 0) (Value.int .i64 x6) (O 14), cnd (D 1) (Value.int .i64 x7) (O 15), cnd (D 2) (Value.pointer (some ⟨b4, 0 + x7.toNat * 1, none⟩)) (O 16), cnd (D 3) (Value.int .i64 (a2.get x7 0)) (O 17), cnd (D 4) (Value.int .i64 a3) (O 18), cnd (D 5) (Value.int .i64 a1) (O 19), cnd (D 6) (Value.int .i64 x7) (O 20), cnd (D 7) (Value.int .i64 (i64w (a1 - x7))) (O 21), cnd (D 8) (Value.int .i64 r8) (O 22), cnd (D 9) (Value.int .i64 (i64w ((a2.get x7 0) * r8))) (O 23), cnd (D 10) (Value.int .i64 (i64w (x6 + (i64w ((a2.get x7 0) * r8))))) (O 24), O 25] ∧ St w0 [Cells b4 ((encA (encI .i64)) a2) 25] w) ?_ ⟨⟨⟨⟨⟨⟨⟨⟨⟨⟨⟨⟨trivial, ?_⟩, ?_⟩, ?_⟩, ?_⟩, ?_⟩, ?_⟩, ?_⟩, ?_⟩, ?_⟩, ?_⟩, ?_⟩, ?_⟩ ?_
     ·
      intro w hh hbw
      have hs := hs.samew hh hbw
      exact ⟨fun i => T.getD i undef, (by subst hT; rfl), hs⟩
     ·
      intro D t w hD hp hcl hI rest hk
      obtain ⟨O, ht, hs⟩ := hI
      have q10_ : D 10 = false := not_yet (hcl.get 10 (by decide)) 0 0 rfl hD
      have q11_ : D 11 = false := not_yet (hcl.get 11 (by decide)) 0 10 rfl q10_
      simp only [hD, q10_, q11_, cnd_t, cnd_f, Asc_t, Asc_f] at ht hs
      subst ht
      refine g_op (v := Value.int .i64 x6) rfl rfl rfl ?_
      show G _ _ _ _ [_,_,_,_,_,_,_,_,_,_,_,_,_,_,_,_,_,_,_,_,_,_,_,_,_,_] _
      exact hk _ _ ⟨O, (by simp only [upd, Nat.reduceBEq, Bool.true_or, Bool.false_or, q10_, q11_, cnd_t, cnd_f, Asc_t, Asc_f]), hs.cast (by first | rfl | simp only [List.take, List.drop, List.cons_append, List.nil_append, List.set_cons_zero, List.set_cons_succ, List.eraseIdx, upd, Nat.reduceBEq, Bool.true_or, Bool.false_or, q10_, q11_, cnd_t, cnd_f, Asc_t, Asc_f])⟩
     ·
      intro D t w hD hp hcl hI rest hk
      obtain ⟨O, ht, hs⟩ := hI
      have q2_ : D 2 = false := not_yet (hcl.get 2 (by decide)) 0 1 rfl hD
      have q3_ : D 3 = false := not_yet (hcl.get 3 (by decide)) 0 2 rfl q2_
      have q9_ : D 9 = false := not_yet (hcl.get 9 (by decide)) 0 3 rfl q3_
      have q10_ : D 10 = false := not_yet (hcl.get 10 (by decide)) 1 9 rfl q9_
      have q11_ : D 11 = false := not_yet (hcl.get 11 (by decide)) 0 10 rfl q10_
      simp only [hD, q2_, q3_, q9_, q10_, q11_, cnd_t, cnd_f, Asc_t, Asc_f] at ht hs
      subst ht
      refine g_op (v := Value.int .i64 x7) rfl rfl rfl ?_
      show G _ _ _ _ [_,_,_,_,_,_,_,_,_,_,_,_,_,_,_,_,_,_,_,_,_,_,_,_,_,_] _
      exact hk _ _ ⟨O, (by simp only [upd, Nat.reduceBEq, Bool.true_or, Bool.false_or, q2_, q3_, q9_, q10_, q11_, cnd_t, cnd_f, Asc_t, Asc_f]), hs.cast (by first | rfl | simp only [List.take, List.drop, List.cons_append, List.nil_append, List.set_cons_zero, List.set_cons_succ, List.eraseIdx, upd, Nat.reduceBEq, Bool.true_or, Bool.false_or, q2_, q3_, q9_, q10_, q11_, cnd_t, cnd_f, Asc_t, Asc_f])⟩
     ·
      intro D t w hD hp hcl hI rest hk
      obtain ⟨O, ht, hs⟩ := hI
      obtain ⟨p1_, _⟩ := hp
      have q3_ : D 3 = false := not_yet (hcl.get 3 (by decide)) 0 2 rfl hD
      have q9_ : D 9 = false := not_yet (hcl.get 9 (by decide)) 0 3 rfl q3_
      have q10_ : D 10 = false := not_yet (hcl.get 10 (by decide)) 1 9 rfl q9_
      have q11_ : D 11 = false := not_yet (hcl.get 11 (by decide)) 0 10 rfl q10_
      simp only [hD, p1_, q3_, q9_, q10_, q11_, cnd_t, cnd_f, Asc_t, Asc_f] at ht hs
      subst ht
      refine s_idxA (n := x7) (m := 1) rfl (fun _ => rfl) gd1.1 gd1.2 rfl rfl rfl rfl rfl ?_
      show G _ _ _ _ [_,_,_,_,_,_,_,_,_,_,_,_,_,_,_,_,_,_,_,_,_,_,_,_,_,_] _
      exact hk _ _ ⟨O, (by simp only [upd, Nat.reduceBEq, Bool.true_or, Bool.false_or, p1_, q3_, q9_, q10_, q11_, cnd_t, cnd_f, Asc_t, Asc_f]), hs.cast (by first | rfl | simp only [List.take, List.drop, List.cons_append, List.nil_append, List.set_cons_zero, List.set_cons_succ, List.eraseIdx, upd, Nat.reduceBEq, Bool.true_or, Bool.false_or, p1_, q3_, q9_, q10_, q11_, cnd_t, cnd_f, Asc_t, Asc_f])⟩
     ·
      intro D t w hD hp hcl hI rest hk
      obtain ⟨O, ht, hs⟩ := hI
      obtain ⟨p2_, _⟩ := hp
      obtain ⟨p1_, _⟩ := (hcl.get 2 (by decide)) p2_
      have q9_ : D 9 = false := not_yet (hcl.get 9 (by decide)) 0 3 rfl hD
      have q10_ : D 10 = false := not_yet (hcl.get 10 (by decide)) 1 9 rfl q9_
      have q11_ : D 11 = false := not_yet (hcl.get 11 (by decide)) 0 10 rfl q10_
      simp only [hD, p1_, p2_, q9_, q10_, q11_, cnd_t, cnd_f, Asc_t, Asc_f] at ht hs
      subst ht
      refine s_load1 rfl rfl (v := Value.int .i64 (a2.get x7 0)) rfl rfl (fun _ => rfl) (by rw [Nat.zero_add]; exact cells_load (hs.cells 0 rfl) _ _ (encA_at (fkI .i64).len _ _ 0 gd1.1 gd1.2)) ?_
      show G _ _ _ _ [_,_,_,_,_,_,_,_,_,_,_,_,_,_,_,_,_,_,_,_,_,_,_,_,_,_] _
      exact hk _ _ ⟨O, (by simp only [upd, Nat.reduceBEq, Bool.true_or, Bool.false_or, p1_, p2_, q9_, q10_, q11_, cnd_t, cnd_f, Asc_t, Asc_f]), hs.cast (by first | rfl | simp only [List.take, List.drop, List.cons_append, List.nil_append, List.set_cons_zero, List.set_cons_succ, List.eraseIdx, upd, Nat.reduceBEq, Bool.true_or, Bool.false_or, p1_, p2_, q9_, q10_, q11_, cnd_t, cnd_f, Asc_t, Asc_f])⟩
     ·
      intro D t w hD hp hcl hI rest hk
      obtain ⟨O, ht, hs⟩ := hI
      have q8_ : D 8 = false := not_yet (hcl.get 8 (by decide)) 0 4 rfl hD
      have q9_ : D 9 = false := not_yet (hcl.get 9 (by decide)) 1 8 rfl q8_
      have q10_ : D 10 = false := not_yet (hcl.get 10 (by decide)) 1 9 rfl q9_
      have q11_ : D 11 = false := not_yet (hcl.get 11 (by decide)) 0 10 rfl q10_
      simp only [hD, q8_, q9_, q10_, q11_, cnd_t, cnd_f, Asc_t, Asc_f] at ht hs
      subst ht
      refine g_op (v := Value.int .i64 a3) rfl rfl rfl ?_
      show G _ _ _ _ [_,_,_,_,_,_,_,_,_,_,_,_,_,_,_,_,_,_,_,_,_,_,_,_,_,_] _
      exact hk _ _ ⟨O, (by simp only [upd, Nat.reduceBEq, Bool.true_or, Bool.false_or, q8_, q9_, q10_, q11_, cnd_t, cnd_f, Asc_t, Asc_f]), hs.cast (by first | rfl | simp only [List.take, List.drop, List.cons_append, List.nil_append, List.set_cons_zero, List.set_cons_succ, List.eraseIdx, upd, Nat.reduceBEq, Bool.true_or, Bool.false_or, q8_, q9_, q10_, q11_, cnd_t, cnd_f, Asc_t, Asc_f])⟩
     ·
      intro D t w hD hp hcl hI rest hk
      obtain ⟨O, ht, hs⟩ := hI
      have q7_ : D 7 = false := not_yet (hcl.get 7 (by decide)) 0 5 rfl hD
      have q8_ : D 8 = false := not_yet (hcl.get 8 (by decide)) 1 7 rfl q7_
      have q9_ : D 9 = false := not_yet (hcl.get 9 (by decide)) 1 8 rfl q8_
      have q10_ : D 10 = false := not_yet (hcl.get 10 (by decide)) 1 9 rfl q9_
      have q11_ : D 11 = false := not_yet (hcl.get 11 (by decide)) 0 10 rfl q10_
      simp only [hD, q7_, q8_, q9_, q10_, q11_, cnd_t, cnd_f, Asc_t, Asc_f] at ht hs
      subst ht
      refine g_op (v := Value.int .i64 a1) rfl rfl rfl ?_
      show G _ _ _ _ [_,_,_,_,_,_,_,_,_,_,_,_,_,_,_,_,_,_,_,_,_,_,_,_,_,_] _
      exact hk _ _ ⟨O, (by simp only [upd, Nat.reduceBEq, Bool.true_or, Bool.false_or, q7_, q8_, q9_, q10_, q11_, cnd_t, cnd_f, Asc_t, Asc_f]), hs.cast (by first | rfl | simp only [List.take, List.drop, List.cons_append, List.nil_append, List.set_cons_zero, List.set_cons_succ, List.eraseIdx, upd, Nat.reduceBEq, Bool.true_or, Bool.false_or, q7_, q8_, q9_, q10_, q11_, cnd_t, cnd_f, Asc_t, Asc_f])⟩
     ·
      intro D t w hD hp hcl hI rest hk
      obtain ⟨O, ht, hs⟩ := hI
      have q7_ : D 7 = false := not_yet (hcl.get 7 (by decide)) 1 6 rfl hD
      have q8_ : D 8 = false := not_yet (hcl.get 8 (by decide)) 1 7 rfl q7_
      have q9_ : D 9 = false := not_yet (hcl.get 9 (by decide)) 1 8 rfl q8_
      have q10_ : D 10 = false := not_yet (hcl.get 10 (by decide)) 1 9 rfl q9_
      have q11_ : D 11 = false := not_yet (hcl.get 11 (by decide)) 0 10 rfl q10_
      simp only [hD, q7_, q8_, q9_, q10_, q11_, cnd_t, cnd_f, Asc_t, Asc_f] at ht hs
      subst ht
      refine g_op (v := Value.int .i64 x7) rfl rfl rfl ?_
      show G _ _ _ _ [_,_,_,_,_,_,_,_,_,_,_,_,_,_,_,_,_,_,_,_,_,_,_,_,_,_] _
      exact hk _ _ ⟨O, (by simp only [upd, Nat.reduceBEq, Bool.true_or, Bool.false_or, q7_, q8_, q9_, q10_, q11_, cnd_t, cnd_f, Asc_t, Asc_f]), hs.cast (by first | rfl | simp only [List.take, List.drop, List.cons_append, List.nil_append, List.set_cons_zero, List.set_cons_succ, List.eraseIdx, upd, Nat.reduceBEq, Bool.true_or, Bool.false_or, q7_, q8_, q9_, q10_, q11_, cnd_t, cnd_f, Asc_t, Asc_f])⟩
     ·
      intro D t w hD hp hcl hI rest hk
      obtain ⟨O, ht, hs⟩ := hI
      obtain ⟨p5_, p6_, _⟩ := hp
      have q8_ : D 8 = false := not_yet (hcl.get 8 (by decide)) 1 7 rfl hD
      have q9_ : D 9 = false := not_yet (hcl.get 9 (by decide)) 1 8 rfl q8_
      have q10_ : D 10 = false := not_yet (hcl.get 10 (by decide)) 1 9 rfl q9_
      have q11_ : D 11 = false := not_yet (hcl.get 11 (by decide)) 0 10 rfl q10_
      simp only [hD, p5_, p6_, q8_, q9_, q10_, q11_, cnd_t, cnd_f, Asc_t, Asc_f] at ht hs
      subst ht
      refine g_op (v := Value.int .i64 (i64w (a1 - x7))) rfl rfl rfl ?_
      show G _ _ _ _ [_,_,_,_,_,_,_,_,_,_,_,_,_,_,_,_,_,_,_,_,_,_,_,_,_,_] _
      exact hk _ _ ⟨O, (by simp only [upd, Nat.reduceBEq, Bool.true_or, Bool.false_or, p5_, p6_, q8_, q9_, q10_, q11_, cnd_t, cnd_f, Asc_t, Asc_f]), hs.cast (by first | rfl | simp only [List.take, List.drop, List.cons_append, List.nil_append, List.set_cons_zero, List.set_cons_succ, List.eraseIdx, upd, Nat.reduceBEq, Bool.true_or, Bool.false_or, p5_, p6_, q8_, q9_, q10_, q11_, cnd_t, cnd_f, Asc_t, Asc_f])⟩
     ·
      intro D t w hD hp hcl hI rest hk
      obtain ⟨O, ht, hs⟩ := hI
      obtain ⟨p4_, p7_, _⟩ := hp
      obtain ⟨p5_, p6_, _⟩ := (hcl.get 7 (by decide)) p7_
      have q9_ : D 9 = false := not_yet (hcl.get 9 (by decide)) 1 8 rfl hD
      have q10_ : D 10 = false := not_yet (hcl.get 10 (by decide)) 1 9 rfl q9_
      have q11_ : D 11 = false := not_yet (hcl.get 11 (by decide)) 0 10 rfl q10_
      simp only [hD, p4_, p5_, p6_, p7_, q9_, q10_, q11_, cnd_t, cnd_f, Asc_t, Asc_f] at ht hs
      subst ht
      refine s_call (args := [Value.int .i64 a3, Value.int .i64 (i64w (a1 - x7))]) rfl rfl (x_call rfl (callFunc_enter Try.func43 rfl rfl) rfl) (spec_l06Choose.calls (a1 := a3) (a2 := i64w (a1 - x7)) Hr8) ?_
      rintro _ w ⟨rfl, hs2⟩
      have hs : St _ [_] _ := hs.call hs2
      show G _ _ _ _ [_,_,_,_,_,_,_,_,_,_,_,_,_,_,_,_,_,_,_,_,_,_,_,_,_,_] _
      exact hk _ _ ⟨O, (by simp only [upd, Nat.reduceBEq, Bool.true_or, Bool.false_or, p4_, p5_, p6_, p7_, q9_, q10_, q11_, cnd_t, cnd_f, Asc_t, Asc_f]), hs.cast (by first | rfl | simp only [List.take, List.drop, List.cons_append, List.nil_append, List.set_cons_zero, List.set_cons_succ, List.eraseIdx, upd, Nat.reduceBEq, Bool.true_or, Bool.false_or, p4_, p5_, p6_, p7_, q9_, q10_, q11_, cnd_t, cnd_f, Asc_t, Asc_f])⟩
     ·
      intro D t w hD hp hcl hI rest hk
      obtain ⟨O, ht, hs⟩ := hI
      obtain ⟨p3_, p8_, _⟩ := hp
      obtain ⟨p4_, p7_, _⟩ := (hcl.get 8 (by decide)) p8_
      obtain ⟨p5_, p6_, _⟩ := (hcl.get 7 (by decide)) p7_
      obtain ⟨p2_, _⟩ := (hcl.get 3 (by decide)) p3_
      obtain ⟨p1_, _⟩ := (hcl.get 2 (by decide)) p2_
      have q10_ : D 10 = false := not_yet (hcl.get 10 (by decide)) 1 9 rfl hD
      have q11_ : D 11 = false := not_yet (hcl.get 11 (by decide)) 0 10 rfl q10_
      simp only [hD, p1_, p2_, p3_, p4_, p5_, p6_, p7_, p8_, q10_, q11_, cnd_t, cnd_f, Asc_t, Asc_f] at ht hs
      subst ht
      refine g_op (v := Value.int .i64 (i64w ((a2.get x7 0) * r8))) rfl rfl rfl ?_
      show G _ _ _ _ [_,_,_,_,_,_,_,_,_,_,_,_,_,_,_,_,_,_,_,_,_,_,_,_,_,_] _
      exact hk _ _ ⟨O, (by simp only [upd, Nat.reduceBEq, Bool.true_or, Bool.false_or, p1_, p2_, p3_, p4_, p5_, p6_, p7_, p8_, q10_, q11_, cnd_t, cnd_f, Asc_t, Asc_f]), hs.cast (by first | rfl | simp only [List.take, List.drop, List.cons_append, List.nil_append, List.set_cons_zero, List.set_cons_succ, List.eraseIdx, upd, Nat.reduceBEq, Bool.true_or, Bool.false_or, p1_, p2_, p3_, p4_, p5_, p6_, p7_, p8_, q10_, q11_, cnd_t, cnd_f, Asc_t, Asc_f])⟩
     ·
      intro D t w hD hp hcl hI rest hk
      obtain ⟨O, ht, hs⟩ := hI
      obtain ⟨p0_, p9_, _⟩ := hp
      obtain ⟨p3_, p8_, _⟩ := (hcl.get 9 (by decide)) p9_
      obtain ⟨p4_, p7_, _⟩ := (hcl.get 8 (by decide)) p8_
      obtain ⟨p5_, p6_, _⟩ := (hcl.get 7 (by decide)) p7_
      obtain ⟨p2_, _⟩ := (hcl.get 3 (by decide)) p3_
      obtain ⟨p1_, _⟩ := (hcl.get 2 (by decide)) p2_
      have q11_ : D 11 = false := not_yet (hcl.get 11 (by decide)) 0 10 rfl hD
      simp only [hD, p0_, p1_, p2_, p3_, p4_, p5_, p6_, p7_, p8_, p9_, q11_, cnd_t, cnd_f, Asc_t, Asc_f] at ht hs
      subst ht
      refine g_op (v := Value.int .i64 (i64w (x6 + (i64w ((a2.get x7 0) * r8))))) rfl rfl rfl ?_
      show G _ _ _ _ [_,_,_,_,_,_,_,_,_,_,_,_,_,_,_,_,_,_,_,_,_,_,_,_,_,_] _
      exact hk _ _ ⟨O, (by simp only [upd, Nat.reduceBEq, Bool.true_or, Bool.false_or, p0_, p1_, p2_, p3_, p4_, p5_, p6_, p7_, p8_, p9_, q11_, cnd_t, cnd_f, Asc_t, Asc_f]), hs.cast (by first | rfl | simp only [List.take, List.drop, List.cons_append, List.nil_append, List.set_cons_zero, List.set_cons_succ, List.eraseIdx, upd, Nat.reduceBEq, Bool.true_or, Bool.false_or, p0_, p1_, p2_, p3_, p4_, p5_, p6_, p7_, p8_, p9_, q11_, cnd_t, cnd_f, Asc_t, Asc_f])⟩
     ·
      intro D t w hD hp hcl hI rest hk
      obtain ⟨O, ht, hs⟩ := hI
      obtain ⟨p10_, p8_, p0_, p1_, p2_, p3_, p4_, p5_, p6_, p7_, _, p9_, _, _⟩ := hp
      simp only [hD, p0_, p1_, p2_, p3_, p4_, p5_, p6_, p7_, p8_, p9_, p10_, cnd_t, cnd_f, Asc_t, Asc_f] at ht hs
      subst ht
      refine g_op (v := Value.int .i64 (i64w (x6 + (i64w ((a2.get x7 0) * r8))))) rfl rfl rfl ?_
      show G _ _ _ _ [_,_,_,_,_,_,_,_,_,_,_,_,_,_,_,_,_,_,_,_,_,_,_,_,_,_] _
      exact hk _ _ ⟨O, (by simp only [upd, Nat.reduceBEq, Bool.true_or, Bool.false_or, p0_, p1_, p2_, p3_, p4_, p5_, p6_, p7_, p8_, p9_, p10_, cnd_t, cnd_f, Asc_t, Asc_f]), hs.cast (by first | rfl | simp only [List.take, List.drop, List.cons_append, List.nil_append, List.set_cons_zero, List.set_cons_succ, List.eraseIdx, upd, Nat.reduceBEq, Bool.true_or, Bool.false_or, p0_, p1_, p2_, p3_, p4_, p5_, p6_, p7_, p8_, p9_, p10_, cnd_t, cnd_f, Asc_t, Asc_f])⟩
     ·
      intro D t w hall hI
      obtain ⟨O, ht, hs⟩ := hI
      have p0_ : D 0 = true := hall 0 (by decide)
      have p1_ : D 1 = true := hall 1 (by decide)
      have p2_ : D 2 = true := hall 2 (by decide)
      have p3_ : D 3 = true := hall 3 (by decide)
      have p4_ : D 4 = true := hall 4 (by decide)
      have p5_ : D 5 = true := hall 5 (by decide)
      have p6_ : D 6 = true := hall 6 (by decide)
      have p7_ : D 7 = true := hall 7 (by decide)
      have p8_ : D 8 = true := hall 8 (by decide)
      have p9_ : D 9 = true := hall 9 (by decide)
      have p10_ : D 10 = true := hall 10 (by decide)
      have p11_ : D 11 = true := hall 11 (by decide)
      simp only [p0_, p1_, p2_, p3_, p4_, p5_, p6_, p7_, p8_, p9_, p10_, p11_, cnd_t, cnd_f, Asc_t, Asc_f] at ht hs
      subst ht
      refine g_inBlock ?_
      refine g_region ?_
      show G _ _ _ (.inRegion _ [0, 1, 2] :: _) _ _
      refine g_op (v := Value.int .i64 x7) rfl rfl rfl ?_
      refine g_op (v := Value.int .i64 (i64w (x7 + 1))) rfl rfl rfl ?_
      show G _ _ _ _ [_,_,_,_,_,_,_,_,_,_,_,_,_,_,_,_,_,_,_,_,_,_,_,_,_,_] _
      refine g_op (v := Value.int .i64 (i64w (x7 + 1))) rfl rfl rfl ?_
      show G _ _ _ _ [_,_,_,_,_,_,_,_,_,_,_,_,_,_,_,_,_,_,_,_,_,_,_,_,_,_] _
      refine g_ops_nil ?_
      obtain rfl := Option.some.inj H
      have hs := hs.pull 0 rfl
      have hs : St _ [_] _ := St.take (Γ' := []) hs
      exact ih1_ _ _ ⟨i64w (x6 + (i64w ((a2.get x7 0) * r8))), i64w (x7 + 1), Hx1_, rfl, hs⟩
    ·
     intro hb
     rw [if_neg (b_dec_f hb)] at H
     show G _ _ _ _ [_,_,_,_,_,_,_,_,_,_,_,_,_,_,_,_,_,_,_,_,_,_,_,_,_,_] _
     refine g_ops_nil ?_
     refine g_cond_false rfl ?_
     obtain rfl := Option.some.inj H
     subst Hx1_
     have hs : St _ [] _ := St.take (Γ' := [_]) hs
     refine g_exit rfl ?_
     exact ha1_ _ _ ⟨x6, Hr1_, rfl, hs⟩

end Go.Proofs.YtfnfoecocicigaaX
