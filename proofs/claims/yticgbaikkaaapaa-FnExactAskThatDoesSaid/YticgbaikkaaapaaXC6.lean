/- Contracts, printed by gen.py. -/
import Derived.Test.YticgbaikkaaapaaXC5
namespace Go.Proofs.YticgbaikkaaapaaX
open Go Go.RowKit Go.Proofs
set_option linter.unusedVariables false
set_option linter.unusedSimpArgs false
/- function 25 impl_weight -/
def impl_weight.post (w0 : World) (r : Int) (v : Value) (w : World) : Prop := v = Value.int .i64 r ∧ St w0 [] w
set_option maxHeartbeats 8000000 in
set_option maxRecDepth 100000 in
theorem impl_weight.calls {N : Nat} {a1 : Int} {a2 : (Ar Int 4)} {a3 : Int} {w0 : World} {r : Int} (H : impl_weight.f N a1 a2 a3 = some r) :
    Calls Try.prog 25 #[Value.int .i64 a1, Value.agg ((encA (encI .i64)) a2).toArray, Value.int .i64 a3] w0 fun e w => ∃ v, e = .returned v ∧ impl_weight.post w0 r v w := by
  unfold impl_weight.f at H
  have hs : St w0 [] w0 := St.refl w0
  refine calls_of_g (n := 40) Try.func25 rfl rfl ?_
  show G _ _ _ _ [_, _, _, _, _, _, _, _, _, _, _, _, _, _, _, _, _, _, _, _, _, _, _, _, _, _, _, _, _, _, _, _, _, _, _, _, _, _, _, _, _, _, _] _
  refine g_seq ?_
  refine g_region ?_
  show G _ _ _ (.inRegion _ [0, 1] :: _) _ _
  refine s_box hs rfl rfl (cs := ((encA (encI .i64)) a2)) rfl rfl ?_
  intro b4 w hs
  show G _ _ _ _ [_, _, _, _, _, _, _, _, _, _, _, _, _, _, _, _, _, _, _, _, _, _, _, _, _, _, _, _, _, _, _, _, _, _, _, _, _, _, _, _, _, _, _] _
  refine g_op (v := Value.int .i64 0) rfl rfl rfl ?_
  show G _ _ _ _ [_, _, _, _, _, _, _, _, _, _, _, _, _, _, _, _, _, _, _, _, _, _, _, _, _, _, _, _, _, _, _, _, _, _, _, _, _, _, _, _, _, _, _] _
  refine g_ops_nil ?_
  refine g_seq ?_
  refine g_region ?_
  show G _ _ _ (.inRegion _ [0] :: _) _ _
  refine g_op (v := Value.int .i64 0) rfl rfl rfl ?_
  show G _ _ _ _ [_, _, _, _, _, _, _, _, _, _, _, _, _, _, _, _, _, _, _, _, _, _, _, _, _, _, _, _, _, _, _, _, _, _, _, _, _, _, _, _, _, _, _] _
  refine g_ops_nil ?_
  refine g_seq ?_
  refine g_seq ?_
  refine g_region ?_
  show G _ _ _ (.inRegion _ [0, 1] :: _) _ _
  refine s_loadA rfl rfl (es := ((encA (encI .i64)) a2)) rfl rfl (fun _ => rfl) (n := 4) (fun _ => rfl) ((fkA (n := 4) (he := (fkI .i64).len) (h1 := (fkI .i64).one)).len _) (cells_all (hs.cells 0 rfl)) ?_
  show G _ _ _ _ [_, _, _, _, _, _, _, _, _, _, _, _, _, _, _, _, _, _, _, _, _, _, _, _, _, _, _, _, _, _, _, _, _, _, _, _, _, _, _, _, _, _, _] _
  refine g_op (v := Value.int .i64 0) rfl rfl rfl ?_
  refine g_ops_nil ?_
  obtain ⟨o1_, Ho, Hr1_⟩ := bind_get H
  refine g_block_join (J := fun t w => ∃ x12 : Int, impl_weight.a0 N x12 = some r ∧ Fr t (fun O => ([O 0, O 1, O 2, O 3, O 4, O 5, O 6, Value.int .i64 x12, O 8, O 9, O 10, O 11, O 12, O 13, O 14, O 15, O 16, O 17, O 18, O 19, O 20, O 21, O 22, O 23, O 24, O 25, O 26, O 27, O 28, O 29, O 30, O 31, O 32, O 33, O 34, O 35, O 36, O 37, O 38, O 39, O 40, O 41, O 42] : List Value)) ∧ St w0 [] w) ?_ ?_
  ·
   rintro t w ⟨x12, H, hf, hs⟩
   obtain ⟨O, rfl⟩ := hf.open
   show G _ _ _ _ [_, _, _, _, _, _, _, _, _, _, _, _, _, _, _, _, _, _, _, _, _, _, _, _, _, _, _, _, _, _, _, _, _, _, _, _, _, _, _, _, _, _, _] _
   unfold impl_weight.a0 at H
   refine g_seq ?_
   refine g_region ?_
   show G _ _ _ (.inRegion _ [0, 1] :: _) _ _
   refine g_op (v := Value.int .i64 x12) rfl rfl rfl ?_
   refine g_op (v := Value.int .i64 x12) rfl rfl rfl ?_
   show G _ _ _ _ [_, _, _, _, _, _, _, _, _, _, _, _, _, _, _, _, _, _, _, _, _, _, _, _, _, _, _, _, _, _, _, _, _, _, _, _, _, _, _, _, _, _, _] _
   refine g_ops_nil ?_
   obtain rfl := Option.some.inj H
   refine g_ret Try.func25 (v := Value.int .i64 x12) (res1 rfl rfl) ?_
   have hs : St _ [] _ := St.take (Γ' := []) hs
   exact ⟨_, rfl, rfl, hs⟩
  ·
   intro ha1_
   have hs : St _ [] _ := St.take (Γ' := [_]) hs
   refine g_loop_fuel (I := fun n_ t w => ∃ x6 : Int, ∃ x7 : Int, rounds (fun s => impl_weight.b0 N a1 a3 a2 s.1 s.2) n_ (x6, x7) = some o1_ ∧ Fr t (fun O => ([Value.int .i64 a1, O 1, Value.int .i64 a3, O 3, O 4, O 5, O 6, Value.int .i64 x6, O 8, O 9, O 10, O 11, O 12, Value.agg ((encA (encI .i64)) a2).toArray, Value.int .i64 x7, O 15, O 16, O 17, O 18, O 19, O 20, O 21, O 22, O 23, O 24, O 25, O 26, O 27, O 28, O 29, O 30, O 31, O 32, O 33, O 34, O 35, O 36, O 37, O 38, O 39, O 40, O 41, O 42] : List Value)) ∧ St w0 [] w) N ⟨0, 0, Ho, rfl, hs⟩ ?_ ?_
   ·
    rintro _ _ ⟨x6, x7, h, _⟩
    exact rounds_zero h
   ·
    intro n_ ih1_
    rintro t w ⟨x6, x7, Ho, hf, hs⟩
    obtain ⟨O, rfl⟩ := hf.open
    show G _ _ _ _ [_, _, _, _, _, _, _, _, _, _, _, _, _, _, _, _, _, _, _, _, _, _, _, _, _, _, _, _, _, _, _, _, _, _, _, _, _, _, _, _, _, _, _] _
    obtain ⟨x4_, H, Hx1_⟩ := rounds_succ Ho
    have H : impl_weight.b0 N a1 a3 a2 x6 x7 = some x4_ := H
    unfold impl_weight.b0 at H
    refine g_seq ?_
    refine g_region ?_
    show G _ _ _ (.inRegion _ [0] :: _) _ _
    refine g_op_b (B := decide (x7 < 4)) rfl rfl rfl ?_ ?_
    ·
     intro hb
     rw [if_pos (b_dec_t hb)] at H
     show G _ _ _ _ [_, _, _, _, _, _, _, _, _, _, _, _, _, _, _, _, _, _, _, _, _, _, _, _, _, _, _, _, _, _, _, _, _, _, _, _, _, _, _, _, _, _, _] _
     refine g_ops_nil ?_
     refine g_seq ?_
     refine g_cond_true rfl ?_
     refine g_skip ?_
     refine g_seq ?_
     refine g_block ?_
     refine g_seq ?_
     refine g_region ?_
     show G _ _ _ (.inRegion _ [0, 1, 2, 3] :: _) _ _
     refine g_op (v := Value.int .i64 x7) rfl rfl rfl ?_
     obtain ⟨g1, H⟩ := ite_get H
     refine s_indexV (enc := (encI .i64)) (c := Value.int .i64) (fun _ => rfl) 0 rfl (fun _ => rfl) (fun _ => rfl) g1.1 g1.2 rfl rfl rfl rfl rfl ?_
     show G _ _ _ _ [_, _, _, _, _, _, _, _, _, _, _, _, _, _, _, _, _, _, _, _, _, _, _, _, _, _, _, _, _, _, _, _, _, _, _, _, _, _, _, _, _, _, _] _
     refine g_op (v := Value.int .i64 x7) rfl rfl rfl ?_
     show G _ _ _ _ [_, _, _, _, _, _, _, _, _, _, _, _, _, _, _, _, _, _, _, _, _, _, _, _, _, _, _, _, _, _, _, _, _, _, _, _, _, _, _, _, _, _, _] _
     refine g_op (v := Value.int .i64 (a2.get x7 0)) rfl rfl rfl ?_
     show G _ _ _ _ [_, _, _, _, _, _, _, _, _, _, _, _, _, _, _, _, _, _, _, _, _, _, _, _, _, _, _, _, _, _, _, _, _, _, _, _, _, _, _, _, _, _, _] _
     refine g_ops_nil ?_
     refine g_seq ?_
     refine g_region ?_
     show G _ _ _ (.inRegion _ [0, 1] :: _) _ _
     refine g_op (v := Value.int .i64 1) rfl rfl rfl ?_
     show G _ _ _ _ [_, _, _, _, _, _, _, _, _, _, _, _, _, _, _, _, _, _, _, _, _, _, _, _, _, _, _, _, _, _, _, _, _, _, _, _, _, _, _, _, _, _, _] _
     refine g_op (v := Value.int .i64 0) rfl rfl rfl ?_
     show G _ _ _ _ [_, _, _, _, _, _, _, _, _, _, _, _, _, _, _, _, _, _, _, _, _, _, _, _, _, _, _, _, _, _, _, _, _, _, _, _, _, _, _, _, _, _, _] _
     refine g_ops_nil ?_
     refine g_seq ?_
     refine g_seq ?_
     refine g_region ?_
     show G _ _ _ (.inRegion _ [0] :: _) _ _
     refine g_op (v := Value.int .i64 0) rfl rfl rfl ?_
     show G _ _ _ _ [_, _, _, _, _, _, _, _, _, _, _, _, _, _, _, _, _, _, _, _, _, _, _, _, _, _, _, _, _, _, _, _, _, _, _, _, _, _, _, _, _, _, _] _
     refine g_ops_nil ?_
     obtain ⟨o2_, Ho, Hr2_⟩ := bind_get H
     refine g_block_join (J := fun t w => ∃ x11 : Int, impl_weight.a2 N x6 a2 x7 x11 = some x4_ ∧ Fr t (fun O => ([Value.int .i64 a1, O 1, Value.int .i64 a3, O 3, O 4, O 5, O 6, Value.int .i64 x6, O 8, Value.int .i64 (a2.get x7 0), O 10, Value.int .i64 x11, O 12, Value.agg ((encA (encI .i64)) a2).toArray, Value.int .i64 x7, O 15, O 16, O 17, O 18, O 19, O 20, O 21, O 22, O 23, O 24, O 25, O 26, O 27, O 28, O 29, O 30, O 31, O 32, O 33, O 34, O 35, O 36, O 37, O 38, O 39, O 40, O 41, O 42] : List Value)) ∧ St w0 [] w) ?_ ?_
     ·
      rintro t w ⟨x11, H, hf, hs⟩
      obtain ⟨O, rfl⟩ := hf.open
      show G _ _ _ _ [_, _, _, _, _, _, _, _, _, _, _, _, _, _, _, _, _, _, _, _, _, _, _, _, _, _, _, _, _, _, _, _, _, _, _, _, _, _, _, _, _, _, _] _
      unfold impl_weight.a2 at H
      refine g_region ?_
      show G _ _ _ (.inRegion _ [0, 1, 2, 3, 4, 5] :: _) _ _
      refine g_op (v := Value.int .i64 x6) rfl rfl rfl ?_
      refine g_op (v := Value.int .i64 (a2.get x7 0)) rfl rfl rfl ?_
      refine g_op (v := Value.int .i64 x11) rfl rfl rfl ?_
      refine g_op (v := Value.int .i64 (i64w ((a2.get x7 0) * x11))) rfl rfl rfl ?_
      show G _ _ _ _ [_, _, _, _, _, _, _, _, _, _, _, _, _, _, _, _, _, _, _, _, _, _, _, _, _, _, _, _, _, _, _, _, _, _, _, _, _, _, _, _, _, _, _] _
      refine g_op (v := Value.int .i64 (i64w (x6 + (i64w ((a2.get x7 0) * x11))))) rfl rfl rfl ?_
      show G _ _ _ _ [_, _, _, _, _, _, _, _, _, _, _, _, _, _, _, _, _, _, _, _, _, _, _, _, _, _, _, _, _, _, _, _, _, _, _, _, _, _, _, _, _, _, _] _
      refine g_op (v := Value.int .i64 (i64w (x6 + (i64w ((a2.get x7 0) * x11))))) rfl rfl rfl ?_
      show G _ _ _ _ [_, _, _, _, _, _, _, _, _, _, _, _, _, _, _, _, _, _, _, _, _, _, _, _, _, _, _, _, _, _, _, _, _, _, _, _, _, _, _, _, _, _, _] _
      refine g_ops_nil ?_
      refine g_inBlock ?_
      refine g_region ?_
      show G _ _ _ (.inRegion _ [0, 1] :: _) _ _
      refine g_op (v := Value.int .i64 (i64w (x7 + 1))) rfl rfl rfl ?_
      show G _ _ _ _ [_, _, _, _, _, _, _, _, _, _, _, _, _, _, _, _, _, _, _, _, _, _, _, _, _, _, _, _, _, _, _, _, _, _, _, _, _, _, _, _, _, _, _] _
      refine g_op (v := Value.int .i64 (i64w (x7 + 1))) rfl rfl rfl ?_
      refine g_ops_nil ?_
      obtain rfl := Option.some.inj H
      have hs : St _ [] _ := St.take (Γ' := []) hs
      exact ih1_ _ _ ⟨i64w (x6 + (i64w ((a2.get x7 0) * x11))), i64w (x7 + 1), Hx1_, rfl, hs⟩
     ·
      intro ha2_
      have hs : St _ [] _ := St.take (Γ' := []) hs
      refine g_loop_fuel (I := fun n_ t w => ∃ x8 : Int, ∃ x9 : Int, ∃ x10 : Int, rounds (fun s => impl_weight.b2 N a1 x7 a3 s.1 s.2.1 s.2.2) n_ (x8, x9, x10) = some o2_ ∧ Fr t (fun O => ([Value.int .i64 a1, O 1, Value.int .i64 a3, O 3, O 4, O 5, O 6, Value.int .i64 x6, Value.int .i64 x7, Value.int .i64 (a2.get x7 0), Value.int .i64 x8, Value.int .i64 x9, Value.int .i64 x10, Value.agg ((encA (encI .i64)) a2).toArray, Value.int .i64 x7, O 15, O 16, O 17, O 18, O 19, O 20, O 21, O 22, O 23, O 24, O 25, O 26, O 27, O 28, O 29, O 30, O 31, O 32, O 33, O 34, O 35, O 36, O 37, O 38, O 39, O 40, O 41, O 42] : List Value)) ∧ St w0 [] w) N ⟨1, 0, 0, Ho, rfl, hs⟩ ?_ ?_
      ·
       rintro _ _ ⟨x8, x9, x10, h, _⟩
       exact rounds_zero h
      ·
       intro n_ ih2_
       rintro t w ⟨x8, x9, x10, Ho, hf, hs⟩
       obtain ⟨O, rfl⟩ := hf.open
       show G _ _ _ _ [_, _, _, _, _, _, _, _, _, _, _, _, _, _, _, _, _, _, _, _, _, _, _, _, _, _, _, _, _, _, _, _, _, _, _, _, _, _, _, _, _, _, _] _
       obtain ⟨x3_, H, Hx2_⟩ := rounds_succ Ho
       have H : impl_weight.b2 N a1 x7 a3 x8 x9 x10 = some x3_ := H
       unfold impl_weight.b2 at H
       refine g_seq ?_
       refine g_seq ?_
       refine g_region ?_
       show G _ _ _ (.inRegion _ [0, 1, 2, 3, 4] :: _) _ _
       refine g_op (v := Value.int .i64 x10) rfl rfl rfl ?_
       refine g_op (v := Value.int .i64 a1) rfl rfl rfl ?_
       refine g_op (v := Value.int .i64 x7) rfl rfl rfl ?_
       refine g_op (v := Value.int .i64 (i64w (a1 - x7))) rfl rfl rfl ?_
       show G _ _ _ _ [_, _, _, _, _, _, _, _, _, _, _, _, _, _, _, _, _, _, _, _, _, _, _, _, _, _, _, _, _, _, _, _, _, _, _, _, _, _, _, _, _, _, _] _
       refine g_op_b (B := decide (x10 ≤ (i64w (a1 - x7)))) rfl rfl rfl ?_ ?_
       ·
        intro hb
        rw [if_pos (b_dec_t hb)] at H
        show G _ _ _ _ [_, _, _, _, _, _, _, _, _, _, _, _, _, _, _, _, _, _, _, _, _, _, _, _, _, _, _, _, _, _, _, _, _, _, _, _, _, _, _, _, _, _, _] _
        refine g_ops_nil ?_
        refine g_cond_true rfl ?_
        refine g_skip ?_
        refine g_seq ?_
        refine g_block ?_
        refine g_seq ?_
        refine g_region ?_
        show G _ _ _ (.inRegion _ [0, 1, 2, 3] :: _) _ _
        refine g_op (v := Value.int .i64 x9) rfl rfl rfl ?_
        refine g_op (v := Value.int .i64 x8) rfl rfl rfl ?_
        refine g_op (v := Value.int .i64 (i64w (x9 + x8))) rfl rfl rfl ?_
        show G _ _ _ _ [_, _, _, _, _, _, _, _, _, _, _, _, _, _, _, _, _, _, _, _, _, _, _, _, _, _, _, _, _, _, _, _, _, _, _, _, _, _, _, _, _, _, _] _
        refine g_op (v := Value.int .i64 (i64w (x9 + x8))) rfl rfl rfl ?_
        show G _ _ _ _ [_, _, _, _, _, _, _, _, _, _, _, _, _, _, _, _, _, _, _, _, _, _, _, _, _, _, _, _, _, _, _, _, _, _, _, _, _, _, _, _, _, _, _] _
        refine g_ops_nil ?_
        refine g_region ?_
        show G _ _ _ (.inRegion _ [0, 1, 2, 3, 4, 5, 6, 7, 8] :: _) _ _
        refine g_op (v := Value.int .i64 x8) rfl rfl rfl ?_
        refine g_op (v := Value.int .i64 a3) rfl rfl rfl ?_
        refine g_op (v := Value.int .i64 x10) rfl rfl rfl ?_
        refine g_op (v := Value.int .i64 (i64w (a3 - x10))) rfl rfl rfl ?_
        show G _ _ _ _ [_, _, _, _, _, _, _, _, _, _, _, _, _, _, _, _, _, _, _, _, _, _, _, _, _, _, _, _, _, _, _, _, _, _, _, _, _, _, _, _, _, _, _] _
        refine g_op (v := Value.int .i64 (i64w (x8 * (i64w (a3 - x10))))) rfl rfl rfl ?_
        show G _ _ _ _ [_, _, _, _, _, _, _, _, _, _, _, _, _, _, _, _, _, _, _, _, _, _, _, _, _, _, _, _, _, _, _, _, _, _, _, _, _, _, _, _, _, _, _] _
        refine g_op (v := Value.int .i64 x10) rfl rfl rfl ?_
        refine g_op (v := Value.int .i64 (i64w (x10 + 1))) rfl rfl rfl ?_
        show G _ _ _ _ [_, _, _, _, _, _, _, _, _, _, _, _, _, _, _, _, _, _, _, _, _, _, _, _, _, _, _, _, _, _, _, _, _, _, _, _, _, _, _, _, _, _, _] _
        obtain ⟨g2, H⟩ := ite_get H
        refine g_op (v := Value.int .i64 (i64w ((i64w (x8 * (i64w (a3 - x10)))).tdiv (i64w (x10 + 1))))) rfl rfl (x_divquo rfl rfl rfl g2) ?_
        show G _ _ _ _ [_, _, _, _, _, _, _, _, _, _, _, _, _, _, _, _, _, _, _, _, _, _, _, _, _, _, _, _, _, _, _, _, _, _, _, _, _, _, _, _, _, _, _] _
        refine g_op (v := Value.int .i64 (i64w ((i64w (x8 * (i64w (a3 - x10)))).tdiv (i64w (x10 + 1))))) rfl rfl rfl ?_
        show G _ _ _ _ [_, _, _, _, _, _, _, _, _, _, _, _, _, _, _, _, _, _, _, _, _, _, _, _, _, _, _, _, _, _, _, _, _, _, _, _, _, _, _, _, _, _, _] _
        refine g_ops_nil ?_
        refine g_inBlock ?_
        refine g_region ?_
        show G _ _ _ (.inRegion _ [0, 1, 2] :: _) _ _
        refine g_op (v := Value.int .i64 x10) rfl rfl rfl ?_
        refine g_op (v := Value.int .i64 (i64w (x10 + 1))) rfl rfl rfl ?_
        show G _ _ _ _ [_, _, _, _, _, _, _, _, _, _, _, _, _, _, _, _, _, _, _, _, _, _, _, _, _, _, _, _, _, _, _, _, _, _, _, _, _, _, _, _, _, _, _] _
        refine g_op (v := Value.int .i64 (i64w (x10 + 1))) rfl rfl rfl ?_
        show G _ _ _ _ [_, _, _, _, _, _, _, _, _, _, _, _, _, _, _, _, _, _, _, _, _, _, _, _, _, _, _, _, _, _, _, _, _, _, _, _, _, _, _, _, _, _, _] _
        refine g_ops_nil ?_
        obtain rfl := Option.some.inj H
        have hs : St _ [] _ := St.take (Γ' := []) hs
        exact ih2_ _ _ ⟨i64w ((i64w (x8 * (i64w (a3 - x10)))).tdiv (i64w (x10 + 1))), i64w (x9 + x8), i64w (x10 + 1), Hx2_, rfl, hs⟩
       ·
        intro hb
        rw [if_neg (b_dec_f hb)] at H
        show G _ _ _ _ [_, _, _, _, _, _, _, _, _, _, _, _, _, _, _, _, _, _, _, _, _, _, _, _, _, _, _, _, _, _, _, _, _, _, _, _, _, _, _, _, _, _, _] _
        refine g_ops_nil ?_
        refine g_cond_false rfl ?_
        obtain rfl := Option.some.inj H
        subst Hx2_
        have hs : St _ [] _ := St.take (Γ' := []) hs
        refine g_exit rfl ?_
        exact ha2_ _ _ ⟨x9, Hr2_, rfl, hs⟩
    ·
     intro hb
     rw [if_neg (b_dec_f hb)] at H
     show G _ _ _ _ [_, _, _, _, _, _, _, _, _, _, _, _, _, _, _, _, _, _, _, _, _, _, _, _, _, _, _, _, _, _, _, _, _, _, _, _, _, _, _, _, _, _, _] _
     refine g_ops_nil ?_
     refine g_seq ?_
     refine g_cond_false rfl ?_
     obtain rfl := Option.some.inj H
     subst Hx1_
     have hs : St _ [] _ := St.take (Γ' := []) hs
     refine g_exit rfl ?_
     exact ha1_ _ _ ⟨x6, Hr1_, rfl, hs⟩

end Go.Proofs.YticgbaikkaaapaaX
