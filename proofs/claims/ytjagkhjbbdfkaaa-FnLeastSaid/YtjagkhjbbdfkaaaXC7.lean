/- Contracts, printed by gen.py. -/
import Derived.Test.YtjagkhjbbdfkaaaXT
import Derived.Test.YtjagkhjbbdfkaaaProg
import Derived.Test.YtjagkhjbbdfkaaaXRowR
import Derived.Test.YtjagkhjbbdfkaaaXSeg
import Derived.Test.YtjagkhjbbdfkaaaXKey
import Derived.Test.YtjagkhjbbdfkaaaXIter
import Derived.Test.YtjagkhjbbdfkaaaXRow2
import Derived.Test.YtjagkhjbbdfkaaaFBX
import Derived.Test.YtjagkhjbbdfkaaaXDel
import Derived.Test.YtjagkhjbbdfkaaaXShelf
import Derived.Test.YtjagkhjbbdfkaaaXC2
namespace Go.Proofs.YtjagkhjbbdfkaaaX
open Go Go.RowKit Go.Proofs
set_option linter.unusedVariables false
set_option linter.unusedSimpArgs false
/- function 13 spec_BalancedDigits -/
def spec_BalancedDigits.post (w0 : World) (r : ((List Int) × Int)) (v : Value) (w : World) : Prop := ∃ u1 : Value, v = Value.tuple #[u1, Value.int .i64 r.2] ∧ St w0 [Row 39 (K.int .i8) u1 r.1] w
set_option maxHeartbeats 8000000 in
set_option maxRecDepth 100000 in
theorem spec_BalancedDigits.calls {N : Nat} {a1 : Int} {w0 : World} {r : ((List Int) × Int)} (H : spec_BalancedDigits.f N a1 = some r) :
    Calls Try.prog 13 #[Value.int .i64 a1] w0 fun e w => ∃ v, e = .returned v ∧ spec_BalancedDigits.post w0 r v w := by
  unfold spec_BalancedDigits.f at H
  have hs : St w0 [] w0 := St.refl w0
  refine calls_of_g (n := 28) Try.func13 rfl rfl ?_
  show G _ _ _ _ [_,_,_,_,_,_,_,_,_,_,_,_,_,_,_,_,_,_,_,_,_,_,_,_,_,_,_,_,_] _
  refine g_seq ?_
  refine g_region ?_
  show G _ _ _ (.inRegion _ [0, 1] :: _) _ _
  refine g_op (v := Value.slice none 0 0) rfl rfl rfl ?_
  show G _ _ _ _ [_,_,_,_,_,_,_,_,_,_,_,_,_,_,_,_,_,_,_,_,_,_,_,_,_,_,_,_,_] _
  refine g_op (v := Value.int .i64 0) rfl rfl rfl ?_
  show G _ _ _ _ [_,_,_,_,_,_,_,_,_,_,_,_,_,_,_,_,_,_,_,_,_,_,_,_,_,_,_,_,_] _
  refine g_ops_nil ?_
  refine g_seq ?_
  refine g_seq ?_
  refine g_region ?_
  show G _ _ _ (.inRegion _ [0, 1, 2] :: _) _ _
  refine g_op (v := Value.int .i64 a1) rfl rfl rfl ?_
  obtain ⟨r2, Hr2, H⟩ := bind_get H
  refine s_call (args := [Value.int .i64 a1, Value.int .i64 (-1000000000), Value.int .i64 1000000000]) rfl rfl (x_call rfl (callFunc_enter Try.func18 rfl rfl) rfl) (spec_l00In.calls (a1 := a1) (a2 := (-1000000000)) (a3 := 1000000000) Hr2) ?_
  rintro _ w ⟨rfl, hs2⟩
  have hs : St _ [] _ := hs.call hs2
  cases r2 with
  | true =>
    rw [if_pos rfl] at H
    show G _ _ _ _ [_,_,_,_,_,_,_,_,_,_,_,_,_,_,_,_,_,_,_,_,_,_,_,_,_,_,_,_,_] _
    refine g_op (v := Value.bool false) rfl rfl rfl ?_
    show G _ _ _ _ [_,_,_,_,_,_,_,_,_,_,_,_,_,_,_,_,_,_,_,_,_,_,_,_,_,_,_,_,_] _
    refine g_ops_nil ?_
    refine g_cond_false rfl ?_
    refine g_skip ?_
    refine g_seq ?_
    refine g_region ?_
    show G _ _ _ (.inRegion _ [0, 1] :: _) _ _
    refine s_lit0 (κ := (K.int .i8)) hs rfl rfl rfl rfl (fun _ => rfl) ?_
    intro v3 w hs
    show G _ _ _ _ [_,_,_,_,_,_,_,_,_,_,_,_,_,_,_,_,_,_,_,_,_,_,_,_,_,_,_,_,_] _
    refine g_op (v := v3) rfl rfl rfl ?_
    show G _ _ _ _ [_,_,_,_,_,_,_,_,_,_,_,_,_,_,_,_,_,_,_,_,_,_,_,_,_,_,_,_,_] _
    refine g_ops_nil ?_
    refine g_seq ?_
    obtain ⟨o1_, Ho, Hr1_⟩ := bind_get H
    refine g_block_join (J := fun t w => ∃ v13 : Value, ∃ x14 : (List Int), spec_BalancedDigits.a0 N x14 = some r ∧ Fr t (fun O => ([O 0, O 1, O 2, O 3, v13, O 5, O 6, O 7, O 8, O 9, O 10, O 11, O 12, O 13, O 14, O 15, O 16, O 17, O 18, O 19, O 20, O 21, O 22, O 23, O 24, O 25, O 26, O 27, O 28] : List Value)) ∧ St w0 [Row 39 (K.int .i8) v13 x14] w) ?_ ?_
    ·
     rintro t w ⟨v13, x14, H, hf, hs⟩
     obtain ⟨O, rfl⟩ := hf.open
     show G _ _ _ _ [_,_,_,_,_,_,_,_,_,_,_,_,_,_,_,_,_,_,_,_,_,_,_,_,_,_,_,_,_] _
     unfold spec_BalancedDigits.a0 at H
     refine g_seq ?_
     refine g_region ?_
     show G _ _ _ (.inRegion _ [0, 1, 2] :: _) _ _
     refine g_op (v := v13) rfl rfl rfl ?_
     refine g_op (v := v13) rfl rfl rfl ?_
     show G _ _ _ _ [_,_,_,_,_,_,_,_,_,_,_,_,_,_,_,_,_,_,_,_,_,_,_,_,_,_,_,_,_] _
     refine g_op (v := Value.int .i64 0) rfl rfl rfl ?_
     show G _ _ _ _ [_,_,_,_,_,_,_,_,_,_,_,_,_,_,_,_,_,_,_,_,_,_,_,_,_,_,_,_,_] _
     refine g_ops_nil ?_
     obtain rfl := Option.some.inj H
     refine g_ret Try.func13 (v := Value.tuple #[v13, Value.int .i64 0]) (resN (l := Try.f13.results.toList) (vs := [v13, Value.int .i64 0]) rfl ⟨rfl, rfl, trivial⟩ (by simp)) ?_
     have hs := hs.pull 0 rfl
     have hs : St _ [_] _ := St.take (Γ' := []) hs
     exact ⟨_, rfl, v13, rfl, hs⟩
    ·
     intro ha1_
     have hs := hs.pull 0 rfl
     have hs : St _ [_] _ := St.take (Γ' := []) hs
     refine g_loop_fuel (I := fun n_ t w => ∃ x5 : Int, ∃ v7 : Value, ∃ x8 : (List Int), rounds (fun s => spec_BalancedDigits.b0 N s.1 s.2) n_ (x5, x8) = some o1_ ∧ Fr t (fun O => ([Value.int .i64 x5, O 1, O 2, O 3, v7, O 5, O 6, O 7, O 8, O 9, O 10, O 11, O 12, O 13, O 14, O 15, O 16, O 17, O 18, O 19, O 20, O 21, O 22, O 23, O 24, O 25, O 26, O 27, O 28] : List Value)) ∧ St w0 [Row 39 (K.int .i8) v7 x8] w) N ⟨a1, v3, ([] : List Int), Ho, rfl, hs⟩ ?_ ?_
     ·
      rintro _ _ ⟨x5, v7, x8, h, _⟩
      exact rounds_zero h
     ·
      intro n_ ih1_
      rintro t w ⟨x5, v7, x8, Ho, hf, hs⟩
      obtain ⟨O, rfl⟩ := hf.open
      show G _ _ _ _ [_,_,_,_,_,_,_,_,_,_,_,_,_,_,_,_,_,_,_,_,_,_,_,_,_,_,_,_,_] _
      obtain ⟨x1_, H, Hx1_⟩ := rounds_succ Ho
      have H : spec_BalancedDigits.b0 N x5 x8 = some x1_ := H
      unfold spec_BalancedDigits.b0 at H
      refine g_seq ?_
      refine g_seq ?_
      refine g_region ?_
      show G _ _ _ (.inRegion _ [0, 1] :: _) _ _
      refine g_op (v := Value.int .i64 x5) rfl rfl rfl ?_
      refine g_op_b (B := x5 != 0) rfl rfl rfl ?_ ?_
      ·
       intro hb
       rw [if_neg (b_bne_t hb)] at H
       show G _ _ _ _ [_,_,_,_,_,_,_,_,_,_,_,_,_,_,_,_,_,_,_,_,_,_,_,_,_,_,_,_,_] _
       refine g_ops_nil ?_
       refine g_cond_true rfl ?_
       refine g_skip ?_
       refine g_block ?_
       refine g_seq ?_
       refine g_region ?_
       show G _ _ _ (.inRegion _ [0, 1, 2, 3, 4, 5, 6] :: _) _ _
       refine g_op (v := Value.int .i64 x5) rfl rfl rfl ?_
       refine g_op (v := Value.int .i64 (i64w (x5 + 1))) rfl rfl rfl ?_
       show G _ _ _ _ [_,_,_,_,_,_,_,_,_,_,_,_,_,_,_,_,_,_,_,_,_,_,_,_,_,_,_,_,_] _
       refine g_op (v := Value.int .i64 ((i64w (x5 + 1)).tmod 3)) rfl rfl rfl ?_
       show G _ _ _ _ [_,_,_,_,_,_,_,_,_,_,_,_,_,_,_,_,_,_,_,_,_,_,_,_,_,_,_,_,_] _
       refine g_op (v := Value.int .i64 (i64w (((i64w (x5 + 1)).tmod 3) + 3))) rfl rfl rfl ?_
       show G _ _ _ _ [_,_,_,_,_,_,_,_,_,_,_,_,_,_,_,_,_,_,_,_,_,_,_,_,_,_,_,_,_] _
       refine g_op (v := Value.int .i64 ((i64w (((i64w (x5 + 1)).tmod 3) + 3)).tmod 3)) rfl rfl rfl ?_
       show G _ _ _ _ [_,_,_,_,_,_,_,_,_,_,_,_,_,_,_,_,_,_,_,_,_,_,_,_,_,_,_,_,_] _
       refine g_op (v := Value.int .i64 (i64w (((i64w (((i64w (x5 + 1)).tmod 3) + 3)).tmod 3) - 1))) rfl rfl rfl ?_
       show G _ _ _ _ [_,_,_,_,_,_,_,_,_,_,_,_,_,_,_,_,_,_,_,_,_,_,_,_,_,_,_,_,_] _
       refine g_op (v := Value.int .i64 (i64w (((i64w (((i64w (x5 + 1)).tmod 3) + 3)).tmod 3) - 1))) rfl rfl rfl ?_
       show G _ _ _ _ [_,_,_,_,_,_,_,_,_,_,_,_,_,_,_,_,_,_,_,_,_,_,_,_,_,_,_,_,_] _
       refine g_ops_nil ?_
       refine g_seq ?_
       refine g_region ?_
       show G _ _ _ (.inRegion _ [0, 1, 2, 3, 4, 5] :: _) _ _
       refine g_op (v := v7) rfl rfl rfl ?_
       refine g_op (v := Value.int .i64 (i64w (((i64w (((i64w (x5 + 1)).tmod 3) + 3)).tmod 3) - 1))) rfl rfl rfl ?_
       refine g_op (v := Value.int .i8 (i8w (i64w (((i64w (((i64w (x5 + 1)).tmod 3) + 3)).tmod 3) - 1)))) rfl rfl rfl ?_
       refine s_lit1 (fkI .i8) (y := i8w (i64w (((i64w (((i64w (x5 + 1)).tmod 3) + 3)).tmod 3) - 1))) hs rfl rfl rfl rfl (fun _ => rfl) (zv := (Value.int .i8 0)) (fun _ => rfl) rfl (by decide) (by decide) rfl ?_
       intro v9 w hs
       show G _ _ _ _ [_,_,_,_,_,_,_,_,_,_,_,_,_,_,_,_,_,_,_,_,_,_,_,_,_,_,_,_,_] _
       have hs := hs.pull 1 rfl
       have hs : St _ [_,_] _ := hs
       obtain ⟨g, H⟩ := ite_get H
       refine s_append (fkI .i8) (zv := (Value.int .i8 0)) (B := 1) hs (hs.row 1 rfl) rfl rfl rfl rfl rfl rfl rfl rfl rfl (by decide) rfl rfl (by decide) (by omega) ?_
       intro v11 w hs
       show G _ _ _ _ [_,_,_,_,_,_,_,_,_,_,_,_,_,_,_,_,_,_,_,_,_,_,_,_,_,_,_,_,_] _
       refine g_op (v := v11) rfl rfl rfl ?_
       show G _ _ _ _ [_,_,_,_,_,_,_,_,_,_,_,_,_,_,_,_,_,_,_,_,_,_,_,_,_,_,_,_,_] _
       refine g_ops_nil ?_
       refine g_region ?_
       show G _ _ _ (.inRegion _ [0, 1, 2, 3, 4] :: _) _ _
       refine g_op (v := Value.int .i64 x5) rfl rfl rfl ?_
       refine g_op (v := Value.int .i64 (i64w (((i64w (((i64w (x5 + 1)).tmod 3) + 3)).tmod 3) - 1))) rfl rfl rfl ?_
       refine g_op (v := Value.int .i64 (i64w (x5 - (i64w (((i64w (((i64w (x5 + 1)).tmod 3) + 3)).tmod 3) - 1))))) rfl rfl rfl ?_
       show G _ _ _ _ [_,_,_,_,_,_,_,_,_,_,_,_,_,_,_,_,_,_,_,_,_,_,_,_,_,_,_,_,_] _
       refine g_op (v := Value.int .i64 (i64w ((i64w (x5 - (i64w (((i64w (((i64w (x5 + 1)).tmod 3) + 3)).tmod 3) - 1)))).tdiv 3))) rfl rfl rfl ?_
       show G _ _ _ _ [_,_,_,_,_,_,_,_,_,_,_,_,_,_,_,_,_,_,_,_,_,_,_,_,_,_,_,_,_] _
       refine g_op (v := Value.int .i64 (i64w ((i64w (x5 - (i64w (((i64w (((i64w (x5 + 1)).tmod 3) + 3)).tmod 3) - 1)))).tdiv 3))) rfl rfl rfl ?_
       show G _ _ _ _ [_,_,_,_,_,_,_,_,_,_,_,_,_,_,_,_,_,_,_,_,_,_,_,_,_,_,_,_,_] _
       refine g_ops_nil ?_
       refine g_inBlock ?_
       obtain rfl := Option.some.inj H
       have hs := hs.pull 0 rfl
       have hs : St _ [_] _ := St.take (Γ' := [_]) hs
       exact ih1_ _ _ ⟨i64w ((i64w (x5 - (i64w (((i64w (((i64w (x5 + 1)).tmod 3) + 3)).tmod 3) - 1)))).tdiv 3), v11, x8 ++ ([i8w (i64w (((i64w (((i64w (x5 + 1)).tmod 3) + 3)).tmod 3) - 1))]), Hx1_, rfl, hs⟩
      ·
       intro hb
       rw [if_pos (b_bne_f hb)] at H
       show G _ _ _ _ [_,_,_,_,_,_,_,_,_,_,_,_,_,_,_,_,_,_,_,_,_,_,_,_,_,_,_,_,_] _
       refine g_ops_nil ?_
       refine g_cond_false rfl ?_
       obtain rfl := Option.some.inj H
       subst Hx1_
       have hs := hs.pull 0 rfl
       have hs : St _ [_] _ := St.take (Γ' := []) hs
       refine g_exit rfl ?_
       exact ha1_ _ _ ⟨v7, x8, Hr1_, rfl, hs⟩
  | false =>
    rw [if_neg Bool.false_ne_true] at H
    show G _ _ _ _ [_,_,_,_,_,_,_,_,_,_,_,_,_,_,_,_,_,_,_,_,_,_,_,_,_,_,_,_,_] _
    refine g_op (v := Value.bool true) rfl rfl rfl ?_
    show G _ _ _ _ [_,_,_,_,_,_,_,_,_,_,_,_,_,_,_,_,_,_,_,_,_,_,_,_,_,_,_,_,_] _
    refine g_ops_nil ?_
    refine g_cond_true rfl ?_
    refine g_seq ?_
    refine g_region ?_
    show G _ _ _ (.inRegion _ [0, 1, 2] :: _) _ _
    refine s_lit0 (κ := (K.int .i8)) hs rfl rfl rfl rfl (fun _ => rfl) ?_
    intro v16 w hs
    show G _ _ _ _ [_,_,_,_,_,_,_,_,_,_,_,_,_,_,_,_,_,_,_,_,_,_,_,_,_,_,_,_,_] _
    refine g_op (v := v16) rfl rfl rfl ?_
    show G _ _ _ _ [_,_,_,_,_,_,_,_,_,_,_,_,_,_,_,_,_,_,_,_,_,_,_,_,_,_,_,_,_] _
    refine g_op (v := Value.int .i64 2) rfl rfl rfl ?_
    show G _ _ _ _ [_,_,_,_,_,_,_,_,_,_,_,_,_,_,_,_,_,_,_,_,_,_,_,_,_,_,_,_,_] _
    refine g_ops_nil ?_
    obtain rfl := Option.some.inj H
    refine g_ret Try.func13 (v := Value.tuple #[v16, Value.int .i64 2]) (resN (l := Try.f13.results.toList) (vs := [v16, Value.int .i64 2]) rfl ⟨rfl, rfl, trivial⟩ (by simp)) ?_
    have hs := hs.pull 0 rfl
    have hs : St _ [_] _ := St.take (Γ' := []) hs
    exact ⟨_, rfl, v16, rfl, hs⟩

/- function 25 impl_FromBalanced_1 -/
def impl_FromBalanced_1.post (w0 : World) (r : Bool) (v : Value) (w : World) : Prop := v = Value.bool r ∧ St w0 [] w
set_option maxHeartbeats 8000000 in
set_option maxRecDepth 100000 in
theorem impl_FromBalanced_1.calls {N : Nat} {a1 : Int} {w0 : World} {r : Bool} (H : impl_FromBalanced_1.f N a1 = some r) :
    Calls Try.prog 25 #[Value.int .i8 a1] w0 fun e w => ∃ v, e = .returned v ∧ impl_FromBalanced_1.post w0 r v w := by
  unfold impl_FromBalanced_1.f at H
  have hs : St w0 [] w0 := St.refl w0
  refine calls_of_g (n := 8) Try.func25 rfl rfl ?_
  show G _ _ _ _ [_,_,_,_,_,_,_,_,_] _
  refine g_seq ?_
  refine g_region ?_
  show G _ _ _ (.inRegion _ [0] :: _) _ _
  refine g_op (v := Value.bool false) rfl rfl rfl ?_
  show G _ _ _ _ [_,_,_,_,_,_,_,_,_] _
  refine g_ops_nil ?_
  refine g_seq ?_
  refine g_region ?_
  show G _ _ _ (.inRegion _ [0, 1, 2, 3, 4, 5, 6] :: _) _ _
  refine g_op (v := Value.int .i8 a1) rfl rfl rfl ?_
  show G _ _ _ _ [_,_,_,_,_,_,_,_,_] _
  refine g_op_b (B := decide (a1 < (-1))) rfl rfl rfl ?_ ?_
  ·
   intro hb
   rw [if_pos (b_dec_t hb)] at H
   show G _ _ _ _ [_,_,_,_,_,_,_,_,_] _
   refine g_op (v := Value.bool true) rfl rfl rfl ?_
   show G _ _ _ _ [_,_,_,_,_,_,_,_,_] _
   refine g_op_not rfl rfl ?_
   show G _ _ _ _ [_,_,_,_,_,_,_,_,_] _
   refine g_op_not rfl rfl ?_
   show G _ _ _ _ [_,_,_,_,_,_,_,_,_] _
   refine g_op (v := Value.bool true) rfl rfl rfl ?_
   show G _ _ _ _ [_,_,_,_,_,_,_,_,_] _
   refine g_op (v := Value.bool true) rfl rfl rfl ?_
   show G _ _ _ _ [_,_,_,_,_,_,_,_,_] _
   refine g_ops_nil ?_
   obtain rfl := Option.some.inj H
   refine g_ret Try.func25 (v := Value.bool true) (res1 rfl rfl) ?_
   have hs : St _ [] _ := St.take (Γ' := []) hs
   exact ⟨_, rfl, rfl, hs⟩
  ·
   intro hb
   rw [if_neg (b_dec_f hb)] at H
   show G _ _ _ _ [_,_,_,_,_,_,_,_,_] _
   refine g_op (v := Value.bool false) rfl rfl rfl ?_
   show G _ _ _ _ [_,_,_,_,_,_,_,_,_] _
   refine g_op (v := Value.int .i8 a1) rfl rfl rfl ?_
   show G _ _ _ _ [_,_,_,_,_,_,_,_,_] _
   refine g_op (v := Value.bool (decide (a1 > 1))) rfl rfl rfl ?_
   show G _ _ _ _ [_,_,_,_,_,_,_,_,_] _
   refine g_op (v := Value.bool (decide (a1 > 1))) rfl rfl rfl ?_
   show G _ _ _ _ [_,_,_,_,_,_,_,_,_] _
   refine g_op (v := Value.bool (decide (a1 > 1))) rfl rfl rfl ?_
   show G _ _ _ _ [_,_,_,_,_,_,_,_,_] _
   refine g_ops_nil ?_
   obtain rfl := Option.some.inj H
   refine g_ret Try.func25 (v := Value.bool (decide (a1 > 1))) (res1 rfl rfl) ?_
   have hs : St _ [] _ := St.take (Γ' := []) hs
   exact ⟨_, rfl, rfl, hs⟩

/- function 32 slices_IndexFunc_int8_int8_at_impl_FromBalanced_1 -/
def slices_IndexFunc_int8_int8_at_impl_FromBalanced_1.post (w0 : World) (r : Int) (v : Value) (w : World) : Prop := v = Value.int .i64 r ∧ St w0 [] w
set_option maxHeartbeats 8000000 in
set_option maxRecDepth 100000 in
theorem slices_IndexFunc_int8_int8_at_impl_FromBalanced_1.calls {N : Nat} {a1 : (List Int)} {v2 : Value} {w0 : World} {r : Int} (hr0 : RdRow (K.int .i8) w0 v2 a1) (H : slices_IndexFunc_int8_int8_at_impl_FromBalanced_1.f N a1 = some r) :
    Calls Try.prog 32 #[v2, Value.func (Fn.func 25) #[] #[]] w0 fun e w => ∃ v, e = .returned v ∧ slices_IndexFunc_int8_int8_at_impl_FromBalanced_1.post w0 r v w := by
  unfold slices_IndexFunc_int8_int8_at_impl_FromBalanced_1.f at H
  have hs : St w0 [] w0 := St.refl w0
  refine calls_of_g (n := 17) Try.func32 rfl rfl ?_
  show G _ _ _ _ [_,_,_,_,_,_,_,_,_,_,_,_,_,_,_,_,_,_,_] _
  refine g_seq ?_
  refine g_region ?_
  show G _ _ _ (.inRegion _ [0] :: _) _ _
  refine g_op (v := Value.int .i64 0) rfl rfl rfl ?_
  show G _ _ _ _ [_,_,_,_,_,_,_,_,_,_,_,_,_,_,_,_,_,_,_] _
  refine g_ops_nil ?_
  refine g_seq ?_
  refine g_seq ?_
  refine g_region ?_
  show G _ _ _ (.inRegion _ [0, 1, 2] :: _) _ _
  refine g_op (v := v2) rfl rfl rfl ?_
  show G _ _ _ _ [_,_,_,_,_,_,_,_,_,_,_,_,_,_,_,_,_,_,_] _
  refine s_len (hs.rd hr0) rfl rfl rfl rfl rfl ?_
  show G _ _ _ _ [_,_,_,_,_,_,_,_,_,_,_,_,_,_,_,_,_,_,_] _
  refine g_op (v := Value.int .i64 0) rfl rfl rfl ?_
  show G _ _ _ _ [_,_,_,_,_,_,_,_,_,_,_,_,_,_,_,_,_,_,_] _
  refine g_ops_nil ?_
  obtain ⟨o1_, Ho, Hr1_⟩ := bind_get H
  refine g_block_join (J := fun t w => slices_IndexFunc_int8_int8_at_impl_FromBalanced_1.a0 N = some r ∧ Fr t (fun O => ([O 0, O 1, O 2, O 3, O 4, O 5, O 6, O 7, O 8, O 9, O 10, O 11, O 12, O 13, O 14, O 15, O 16, O 17, O 18] : List Value)) ∧ St w0 [] w) ?_ ?_
  ·
   rintro t w ⟨H, hf, hs⟩
   obtain ⟨O, rfl⟩ := hf.open
   show G _ _ _ _ [_,_,_,_,_,_,_,_,_,_,_,_,_,_,_,_,_,_,_] _
   unfold slices_IndexFunc_int8_int8_at_impl_FromBalanced_1.a0 at H
   refine g_seq ?_
   refine g_region ?_
   show G _ _ _ (.inRegion _ [0] :: _) _ _
   refine g_op (v := Value.int .i64 (-1)) rfl rfl rfl ?_
   show G _ _ _ _ [_,_,_,_,_,_,_,_,_,_,_,_,_,_,_,_,_,_,_] _
   refine g_ops_nil ?_
   obtain rfl := Option.some.inj H
   refine g_ret Try.func32 (v := Value.int .i64 (-1)) (res1 rfl rfl) ?_
   have hs : St _ [] _ := St.take (Γ' := []) hs
   exact ⟨_, rfl, rfl, hs⟩
  ·
   intro ha1_
   have hs : St _ [] _ := St.take (Γ' := []) hs
   refine g_loop_fuel (I := fun n_ t w => ∃ x3 : Int, rounds (fun s => slices_IndexFunc_int8_int8_at_impl_FromBalanced_1.b0 N a1 s) n_ x3 = some o1_ ∧ Fr t (fun O => ([v2, Value.func (Fn.func 25) #[] #[], O 2, O 3, O 4, O 5, O 6, Value.int .i64 (a1.length : Int), Value.int .i64 x3, O 9, O 10, O 11, O 12, O 13, O 14, O 15, O 16, O 17, O 18] : List Value)) ∧ St w0 [] w) N ⟨0, Ho, rfl, hs⟩ ?_ ?_
   ·
    rintro _ _ ⟨x3, h, _⟩
    exact rounds_zero h
   ·
    intro n_ ih1_
    rintro t w ⟨x3, Ho, hf, hs⟩
    obtain ⟨O, rfl⟩ := hf.open
    show G _ _ _ _ [_,_,_,_,_,_,_,_,_,_,_,_,_,_,_,_,_,_,_] _
    obtain ⟨x2_, H, Hx1_⟩ := rounds_succ Ho
    have H : slices_IndexFunc_int8_int8_at_impl_FromBalanced_1.b0 N a1 x3 = some x2_ := H
    unfold slices_IndexFunc_int8_int8_at_impl_FromBalanced_1.b0 at H
    refine g_seq ?_
    refine g_region ?_
    show G _ _ _ (.inRegion _ [0] :: _) _ _
    refine g_op_b (B := decide (x3 < (a1.length : Int))) rfl rfl rfl ?_ ?_
    ·
     intro hb
     rw [if_pos (b_dec_t hb)] at H
     show G _ _ _ _ [_,_,_,_,_,_,_,_,_,_,_,_,_,_,_,_,_,_,_] _
     refine g_ops_nil ?_
     refine g_seq ?_
     refine g_cond_true rfl ?_
     refine g_skip ?_
     refine g_seq ?_
     refine g_block ?_
     refine g_seq ?_
     refine g_region ?_
     show G _ _ _ (.inRegion _ [0, 1] :: _) _ _
     refine g_op (v := Value.int .i64 x3) rfl rfl rfl ?_
     show G _ _ _ _ [_,_,_,_,_,_,_,_,_,_,_,_,_,_,_,_,_,_,_] _
     refine g_op (v := Value.int .i64 x3) rfl rfl rfl ?_
     show G _ _ _ _ [_,_,_,_,_,_,_,_,_,_,_,_,_,_,_,_,_,_,_] _
     refine g_ops_nil ?_
     refine g_seq ?_
     refine g_region ?_
     show G _ _ _ (.inRegion _ [0, 1, 2, 3, 4, 5] :: _) _ _
     refine g_op (v := Value.func (Fn.func 25) #[] #[]) rfl rfl rfl ?_
     show G _ _ _ _ [_,_,_,_,_,_,_,_,_,_,_,_,_,_,_,_,_,_,_] _
     refine g_op (v := v2) rfl rfl rfl ?_
     show G _ _ _ _ [_,_,_,_,_,_,_,_,_,_,_,_,_,_,_,_,_,_,_] _
     refine g_op (v := Value.int .i64 x3) rfl rfl rfl ?_
     show G _ _ _ _ [_,_,_,_,_,_,_,_,_,_,_,_,_,_,_,_,_,_,_] _
     obtain ⟨g1, H⟩ := ite_get H
     refine s_idx (fkI .i8) 0 (hs.rd hr0) rfl (fun _ => rfl) g1.1 g1.2 rfl rfl rfl rfl rfl ?_
     intro p4 hp4 lp4 op4
     show G _ _ _ _ [_,_,_,_,_,_,_,_,_,_,_,_,_,_,_,_,_,_,_] _
     refine s_load1 rfl rfl (v := Value.int .i8 (rdL a1 x3 0)) rfl rfl (fun _ => rfl) hp4 ?_
     show G _ _ _ _ [_,_,_,_,_,_,_,_,_,_,_,_,_,_,_,_,_,_,_] _
     obtain ⟨r5, Hr5, H⟩ := bind_get H
     refine s_call (args := [Value.int .i8 (rdL a1 x3 0)]) rfl rfl (x_callV rfl (callFunc_enter Try.func25 rfl rfl) rfl rfl) (impl_FromBalanced_1.calls (a1 := rdL a1 x3 0) Hr5) ?_
     rintro _ w ⟨rfl, hs2⟩
     have hs : St _ [] _ := hs.call hs2
     cases r5 with
     | true =>
       rw [if_pos rfl] at H
       show G _ _ _ _ [_,_,_,_,_,_,_,_,_,_,_,_,_,_,_,_,_,_,_] _
       refine g_ops_nil ?_
       refine g_cond_true rfl ?_
       refine g_seq ?_
       refine g_region ?_
       show G _ _ _ (.inRegion _ [0, 1] :: _) _ _
       refine g_op (v := Value.int .i64 x3) rfl rfl rfl ?_
       show G _ _ _ _ [_,_,_,_,_,_,_,_,_,_,_,_,_,_,_,_,_,_,_] _
       refine g_op (v := Value.int .i64 x3) rfl rfl rfl ?_
       show G _ _ _ _ [_,_,_,_,_,_,_,_,_,_,_,_,_,_,_,_,_,_,_] _
       refine g_ops_nil ?_
       obtain rfl := Option.some.inj H
       subst Hx1_
       have H := Option.some.inj Hr1_
       subst H
       refine g_ret Try.func32 (v := Value.int .i64 x3) (res1 rfl rfl) ?_
       have hs : St _ [] _ := St.take (Γ' := []) hs
       exact ⟨_, rfl, rfl, hs⟩
     | false =>
       rw [if_neg Bool.false_ne_true] at H
       show G _ _ _ _ [_,_,_,_,_,_,_,_,_,_,_,_,_,_,_,_,_,_,_] _
       refine g_ops_nil ?_
       refine g_cond_false rfl ?_
       refine g_skip ?_
       refine g_inBlock ?_
       refine g_region ?_
       show G _ _ _ (.inRegion _ [0, 1] :: _) _ _
       refine g_op (v := Value.int .i64 (i64w (x3 + 1))) rfl rfl rfl ?_
       show G _ _ _ _ [_,_,_,_,_,_,_,_,_,_,_,_,_,_,_,_,_,_,_] _
       refine g_op (v := Value.int .i64 (i64w (x3 + 1))) rfl rfl rfl ?_
       show G _ _ _ _ [_,_,_,_,_,_,_,_,_,_,_,_,_,_,_,_,_,_,_] _
       refine g_ops_nil ?_
       obtain rfl := Option.some.inj H
       have hs : St _ [] _ := St.take (Γ' := []) hs
       exact ih1_ _ _ ⟨i64w (x3 + 1), Hx1_, rfl, hs⟩
    ·
     intro hb
     rw [if_neg (b_dec_f hb)] at H
     show G _ _ _ _ [_,_,_,_,_,_,_,_,_,_,_,_,_,_,_,_,_,_,_] _
     refine g_ops_nil ?_
     refine g_seq ?_
     refine g_cond_false rfl ?_
     obtain rfl := Option.some.inj H
     subst Hx1_
     have hs : St _ [] _ := St.take (Γ' := []) hs
     refine g_exit rfl ?_
     exact ha1_ _ _ ⟨Hr1_, rfl, hs⟩

/- function 24 slices_ContainsFunc_int8_int8_at_impl_FromBalanced_1 -/
def slices_ContainsFunc_int8_int8_at_impl_FromBalanced_1.post (w0 : World) (r : Bool) (v : Value) (w : World) : Prop := v = Value.bool r ∧ St w0 [] w
set_option maxHeartbeats 8000000 in
set_option maxRecDepth 100000 in
theorem slices_ContainsFunc_int8_int8_at_impl_FromBalanced_1.calls {N : Nat} {a1 : (List Int)} {v2 : Value} {w0 : World} {r : Bool} (hr0 : RdRow (K.int .i8) w0 v2 a1) (H : slices_ContainsFunc_int8_int8_at_impl_FromBalanced_1.f N a1 = some r) :
    Calls Try.prog 24 #[v2, Value.func (Fn.func 25) #[] #[]] w0 fun e w => ∃ v, e = .returned v ∧ slices_ContainsFunc_int8_int8_at_impl_FromBalanced_1.post w0 r v w := by
  unfold slices_ContainsFunc_int8_int8_at_impl_FromBalanced_1.f at H
  have hs : St w0 [] w0 := St.refl w0
  refine calls_of_g (n := 7) Try.func24 rfl rfl ?_
  show G _ _ _ _ [_,_,_,_,_,_,_,_,_] _
  refine g_seq ?_
  refine g_region ?_
  show G _ _ _ (.inRegion _ [0] :: _) _ _
  refine g_op (v := Value.bool false) rfl rfl rfl ?_
  show G _ _ _ _ [_,_,_,_,_,_,_,_,_] _
  refine g_ops_nil ?_
  refine g_seq ?_
  refine g_region ?_
  show G _ _ _ (.inRegion _ [0, 1, 2, 3, 4] :: _) _ _
  refine g_op (v := v2) rfl rfl rfl ?_
  show G _ _ _ _ [_,_,_,_,_,_,_,_,_] _
  refine g_op (v := Value.func (Fn.func 25) #[] #[]) rfl rfl rfl ?_
  show G _ _ _ _ [_,_,_,_,_,_,_,_,_] _
  obtain ⟨r3, Hr3, H⟩ := bind_get H
  refine s_call (args := [v2, Value.func (Fn.func 25) #[] #[]]) rfl rfl (x_call rfl (callFunc_enter Try.func32 rfl rfl) rfl) (slices_IndexFunc_int8_int8_at_impl_FromBalanced_1.calls (a1 := a1) (hs.rd hr0) Hr3) ?_
  rintro _ w ⟨rfl, hs2⟩
  have hs : St _ [] _ := hs.call hs2
  show G _ _ _ _ [_,_,_,_,_,_,_,_,_] _
  refine g_op (v := Value.bool (decide (r3 ≥ 0))) rfl rfl rfl ?_
  show G _ _ _ _ [_,_,_,_,_,_,_,_,_] _
  refine g_op (v := Value.bool (decide (r3 ≥ 0))) rfl rfl rfl ?_
  show G _ _ _ _ [_,_,_,_,_,_,_,_,_] _
  refine g_ops_nil ?_
  obtain rfl := Option.some.inj H
  refine g_ret Try.func24 (v := Value.bool (decide (r3 ≥ 0))) (res1 rfl rfl) ?_
  have hs : St _ [] _ := St.take (Γ' := []) hs
  exact ⟨_, rfl, rfl, hs⟩

/- function 14 impl_FromBalanced -/
def impl_FromBalanced.post (w0 : World) (r : (Int × Int)) (v : Value) (w : World) : Prop := v = Value.tuple #[Value.int .i64 r.1, Value.int .i64 r.2] ∧ St w0 [] w
theorem impl_FromBalanced.calls {N : Nat} {a1 : (List Int)} {v2 : Value} {w0 : World} {r : (Int × Int)} (hr0 : RdRow (K.int .i8) w0 v2 a1) (H : impl_FromBalanced.f N a1 = some r) :
    Calls Try.prog 14 #[v2] w0 fun e w => ∃ v, e = .returned v ∧ impl_FromBalanced.post w0 r v w := by
  obtain ⟨c, hc, H⟩ := bind_get H
  obtain rfl := Option.some.inj H
  refine fb_calls (c := c) hr0 ((slices_ContainsFunc_int8_int8_at_impl_FromBalanced_1.calls hr0 hc).mono fun e w ⟨v, he, hv, hs⟩ => ⟨by rw [he, hv], hs.1⟩)

/- function 15 spec_A2Placed -/
def spec_A2Placed.post (w0 : World) (r : Bool) (v : Value) (w : World) : Prop := v = Value.bool r ∧ St w0 [] w
set_option maxHeartbeats 8000000 in
set_option maxRecDepth 100000 in
theorem spec_A2Placed.calls {N : Nat} {a1 : (List Int)} {a3 : (List Int)} {v2 : Value} {v4 : Value} {w0 : World} {r : Bool} (hr0 : RdRow (K.int .i8) w0 v2 a1) (hr1 : RdRow (K.int .i8) w0 v4 a3) (H : spec_A2Placed.f N a1 a3 = some r) :
    Calls Try.prog 15 #[v2, v4] w0 fun e w => ∃ v, e = .returned v ∧ spec_A2Placed.post w0 r v w := by
  unfold spec_A2Placed.f at H
  have hs : St w0 [] w0 := St.refl w0
  refine calls_of_g (n := 24) Try.func15 rfl rfl ?_
  show G _ _ _ _ [_,_,_,_,_,_,_,_,_,_,_,_,_,_,_,_,_,_,_,_,_,_,_,_,_,_] _
  refine g_seq ?_
  refine g_region ?_
  show G _ _ _ (.inRegion _ [0] :: _) _ _
  refine g_op (v := Value.bool false) rfl rfl rfl ?_
  show G _ _ _ _ [_,_,_,_,_,_,_,_,_,_,_,_,_,_,_,_,_,_,_,_,_,_,_,_,_,_] _
  refine g_ops_nil ?_
  refine g_seq ?_
  refine g_seq ?_
  refine g_region ?_
  show G _ _ _ (.inRegion _ [0, 1, 2, 3, 4] :: _) _ _
  refine g_op (v := v2) rfl rfl rfl ?_
  refine s_len (hs.rd hr0) rfl rfl rfl rfl rfl ?_
  show G _ _ _ _ [_,_,_,_,_,_,_,_,_,_,_,_,_,_,_,_,_,_,_,_,_,_,_,_,_,_] _
  refine g_op (v := v4) rfl rfl rfl ?_
  refine s_len (hs.rd hr1) rfl rfl rfl rfl rfl ?_
  show G _ _ _ _ [_,_,_,_,_,_,_,_,_,_,_,_,_,_,_,_,_,_,_,_,_,_,_,_,_,_] _
  refine g_op_b (B := (a1.length : Int) != (a3.length : Int)) rfl rfl rfl ?_ ?_
  ·
   intro hb
   rw [if_neg (b_bne_t hb)] at H
   show G _ _ _ _ [_,_,_,_,_,_,_,_,_,_,_,_,_,_,_,_,_,_,_,_,_,_,_,_,_,_] _
   refine g_ops_nil ?_
   refine g_cond_true rfl ?_
   refine g_seq ?_
   refine g_region ?_
   show G _ _ _ (.inRegion _ [0] :: _) _ _
   refine g_op (v := Value.bool false) rfl rfl rfl ?_
   show G _ _ _ _ [_,_,_,_,_,_,_,_,_,_,_,_,_,_,_,_,_,_,_,_,_,_,_,_,_,_] _
   refine g_ops_nil ?_
   obtain rfl := Option.some.inj H
   refine g_ret Try.func15 (v := Value.bool false) (res1 rfl rfl) ?_
   have hs : St _ [] _ := St.take (Γ' := []) hs
   exact ⟨_, rfl, rfl, hs⟩
  ·
   intro hb
   rw [if_pos (b_bne_f hb)] at H
   show G _ _ _ _ [_,_,_,_,_,_,_,_,_,_,_,_,_,_,_,_,_,_,_,_,_,_,_,_,_,_] _
   refine g_ops_nil ?_
   refine g_cond_false rfl ?_
   refine g_skip ?_
   refine g_seq ?_
   refine g_seq ?_
   refine g_region ?_
   show G _ _ _ (.inRegion _ [0] :: _) _ _
   refine g_op (v := Value.int .i64 0) rfl rfl rfl ?_
   show G _ _ _ _ [_,_,_,_,_,_,_,_,_,_,_,_,_,_,_,_,_,_,_,_,_,_,_,_,_,_] _
   refine g_ops_nil ?_
   obtain ⟨o1_, Ho, Hr1_⟩ := bind_get H
   refine g_block_join (J := fun t w => spec_A2Placed.a0 N = some r ∧ Fr t (fun O => ([O 0, O 1, O 2, O 3, O 4, O 5, O 6, O 7, O 8, O 9, O 10, O 11, O 12, O 13, O 14, O 15, O 16, O 17, O 18, O 19, O 20, O 21, O 22, O 23, O 24, O 25] : List Value)) ∧ St w0 [] w) ?_ ?_
   ·
    rintro t w ⟨H, hf, hs⟩
    obtain ⟨O, rfl⟩ := hf.open
    show G _ _ _ _ [_,_,_,_,_,_,_,_,_,_,_,_,_,_,_,_,_,_,_,_,_,_,_,_,_,_] _
    unfold spec_A2Placed.a0 at H
    refine g_seq ?_
    refine g_region ?_
    show G _ _ _ (.inRegion _ [0] :: _) _ _
    refine g_op (v := Value.bool true) rfl rfl rfl ?_
    show G _ _ _ _ [_,_,_,_,_,_,_,_,_,_,_,_,_,_,_,_,_,_,_,_,_,_,_,_,_,_] _
    refine g_ops_nil ?_
    obtain rfl := Option.some.inj H
    refine g_ret Try.func15 (v := Value.bool true) (res1 rfl rfl) ?_
    have hs : St _ [] _ := St.take (Γ' := []) hs
    exact ⟨_, rfl, rfl, hs⟩
   ·
    intro ha1_
    have hs : St _ [] _ := St.take (Γ' := []) hs
    refine g_loop_fuel (I := fun n_ t w => ∃ x5 : Int, rounds (fun s => spec_A2Placed.b0 N a1 a3 s) n_ x5 = some o1_ ∧ Fr t (fun O => ([v2, v4, O 2, O 3, O 4, Value.int .i64 x5, O 6, O 7, O 8, O 9, O 10, O 11, O 12, O 13, O 14, O 15, O 16, O 17, O 18, O 19, O 20, O 21, O 22, O 23, O 24, O 25] : List Value)) ∧ St w0 [] w) N ⟨0, Ho, rfl, hs⟩ ?_ ?_
    ·
     rintro _ _ ⟨x5, h, _⟩
     exact rounds_zero h
    ·
     intro n_ ih1_
     rintro t w ⟨x5, Ho, hf, hs⟩
     obtain ⟨O, rfl⟩ := hf.open
     show G _ _ _ _ [_,_,_,_,_,_,_,_,_,_,_,_,_,_,_,_,_,_,_,_,_,_,_,_,_,_] _
     obtain ⟨x7_, H, Hx1_⟩ := rounds_succ Ho
     have H : spec_A2Placed.b0 N a1 a3 x5 = some x7_ := H
     unfold spec_A2Placed.b0 at H
     refine g_seq ?_
     refine g_seq ?_
     refine g_region ?_
     show G _ _ _ (.inRegion _ [0, 1, 2, 3] :: _) _ _
     refine g_op (v := Value.int .i64 x5) rfl rfl rfl ?_
     refine g_op (v := v2) rfl rfl rfl ?_
     refine s_len (hs.rd hr0) rfl rfl rfl rfl rfl ?_
     show G _ _ _ _ [_,_,_,_,_,_,_,_,_,_,_,_,_,_,_,_,_,_,_,_,_,_,_,_,_,_] _
     refine g_op_b (B := decide (x5 < (a1.length : Int))) rfl rfl rfl ?_ ?_
     ·
      intro hb
      rw [if_pos (b_dec_t hb)] at H
      show G _ _ _ _ [_,_,_,_,_,_,_,_,_,_,_,_,_,_,_,_,_,_,_,_,_,_,_,_,_,_] _
      refine g_ops_nil ?_
      refine g_cond_true rfl ?_
      refine g_skip ?_
      refine g_seq ?_
      refine g_block ?_
      refine g_seq ?_
      refine g_lay (n := 9) rfl [0, 1, 2, 3, 4, 5, 6, 7, 8] [0, 1, 2, 3, 4, 5, 6, 7, 8] rfl rfl ?_
      intro rest w hh hbw hO
      have hs := hs.samew hh hbw
      show G _ _ _ _ [_,_,_,_,_,_,_,_,_,_,_,_,_,_,_,_,_,_,_,_,_,_,_,_,_,_] _
      obtain ⟨gd2, H⟩ := ite_get H
      obtain ⟨ad3_, ad3_N, ad3_C, had3_⟩ := sl_at (hs.rd hr0) gd2.1 gd2.2
      obtain ⟨gd4, H⟩ := ite_get H
      obtain ⟨ad5_, ad5_N, ad5_C, had5_⟩ := sl_at (hs.rd hr1) gd4.1 gd4.2
      refine g_name ?_
      intro T hT
      refine g_layer (m0 := 0) hO rfl 255 [0, 1, 2, 3, 4, 5, 6, 7] [0, 0, 3, 7, 0, 0, 48, 112, 255] (by decide +kernel) (fun D t w => ∃ O : Nat → Value, t = [v2, v4, O 2, O 3, O 4, Value.int .i64 x5, O 6, O 7, O 8, O 9, O 10, Value.int .i64 x5, v2, Value.int .i64 (a1.length : Int), Value.bool true, O 15, O 16, cnd (D 0) v2 (O 17), cnd (D 1) (Value.int .i64 x5) (O 18), cnd (D 2) (Value.pointer (some (ad3_.add (x5.toNat * 1)))) (O 19), cnd (D 3) (Value.int .i8 (rdL a1 x5 0)) (O 20), cnd (D 4) v4 (O 21), cnd (D 5) (Value.int .i64 x5) (O 22), cnd (D 6) (Value.pointer (some (ad5_.add (x5.toNat * 1)))) (O 23), cnd (D 7) (Value.int .i8 (rdL a3 x5 0)) (O 24), O 25] ∧ St w0 [] w) ?_ ⟨?_, ⟨?_, ⟨?_, ⟨?_, ⟨?_, ⟨?_, ⟨?_, ⟨?_, trivial⟩⟩⟩⟩⟩⟩⟩⟩ ?_
      · exact ⟨fun i => T.getD i undef, (by subst hT; rfl), hs⟩
      ·
       intro D t w hD hp hcl hI rest hk
       obtain ⟨O, ht, hs⟩ := hI
       have hp : AllDone D [] := hp
       have q2_ : D 2 = false := not_yet (show D 2 = true → AllDone D [0, 1] from hcl 2 (by decide)) 0 0 rfl hD
       have q3_ : D 3 = false := not_yet (show D 3 = true → AllDone D [2] from hcl 3 (by decide)) 0 2 rfl q2_
       simp only [hD, q2_, q3_, cnd_t, cnd_f, Asc_t, Asc_f] at ht hs
       subst ht
       refine g_op (v := v2) rfl rfl rfl ?_
       show G _ _ _ _ [_,_,_,_,_,_,_,_,_,_,_,_,_,_,_,_,_,_,_,_,_,_,_,_,_,_] _
       exact hk _ _ ⟨O, (by simp only [upd, Nat.reduceBEq, Bool.true_or, Bool.false_or, q2_, q3_, cnd_t, cnd_f, Asc_t, Asc_f]), hs.cast (by first | rfl | simp only [List.take, List.drop, List.cons_append, List.nil_append, List.set_cons_zero, List.set_cons_succ, List.eraseIdx, upd, Nat.reduceBEq, Bool.true_or, Bool.false_or, q2_, q3_, cnd_t, cnd_f, Asc_t, Asc_f])⟩
      ·
       intro D t w hD hp hcl hI rest hk
       obtain ⟨O, ht, hs⟩ := hI
       have hp : AllDone D [] := hp
       have q2_ : D 2 = false := not_yet (show D 2 = true → AllDone D [0, 1] from hcl 2 (by decide)) 1 1 rfl hD
       have q3_ : D 3 = false := not_yet (show D 3 = true → AllDone D [2] from hcl 3 (by decide)) 0 2 rfl q2_
       simp only [hD, q2_, q3_, cnd_t, cnd_f, Asc_t, Asc_f] at ht hs
       subst ht
       refine g_op (v := Value.int .i64 x5) rfl rfl rfl ?_
       show G _ _ _ _ [_,_,_,_,_,_,_,_,_,_,_,_,_,_,_,_,_,_,_,_,_,_,_,_,_,_] _
       exact hk _ _ ⟨O, (by simp only [upd, Nat.reduceBEq, Bool.true_or, Bool.false_or, q2_, q3_, cnd_t, cnd_f, Asc_t, Asc_f]), hs.cast (by first | rfl | simp only [List.take, List.drop, List.cons_append, List.nil_append, List.set_cons_zero, List.set_cons_succ, List.eraseIdx, upd, Nat.reduceBEq, Bool.true_or, Bool.false_or, q2_, q3_, cnd_t, cnd_f, Asc_t, Asc_f])⟩
      ·
       intro D t w hD hp hcl hI rest hk
       obtain ⟨O, ht, hs⟩ := hI
       have hp : AllDone D [0, 1] := hp
       obtain ⟨p0_, p1_, _⟩ := hp
       have q3_ : D 3 = false := not_yet (show D 3 = true → AllDone D [2] from hcl 3 (by decide)) 0 2 rfl hD
       simp only [hD, p0_, p1_, q3_, cnd_t, cnd_f, Asc_t, Asc_f] at ht hs
       subst ht
       refine s_idxD (κ := (K.int .i8)) (m := 1) rfl (hs.rd hr0) rfl (fun _ => rfl) gd2.1 gd2.2 had3_ rfl rfl rfl rfl rfl ?_
       show G _ _ _ _ [_,_,_,_,_,_,_,_,_,_,_,_,_,_,_,_,_,_,_,_,_,_,_,_,_,_] _
       exact hk _ _ ⟨O, (by simp only [upd, Nat.reduceBEq, Bool.true_or, Bool.false_or, p0_, p1_, q3_, cnd_t, cnd_f, Asc_t, Asc_f]), hs.cast (by first | rfl | simp only [List.take, List.drop, List.cons_append, List.nil_append, List.set_cons_zero, List.set_cons_succ, List.eraseIdx, upd, Nat.reduceBEq, Bool.true_or, Bool.false_or, p0_, p1_, q3_, cnd_t, cnd_f, Asc_t, Asc_f])⟩
      ·
       intro D t w hD hp hcl hI rest hk
       obtain ⟨O, ht, hs⟩ := hI
       have hp : AllDone D [2] := hp
       obtain ⟨p2_, _⟩ := hp
       obtain ⟨p0_, p1_, _⟩ := (show D 2 = true → AllDone D [0, 1] from hcl 2 (by decide)) p2_
       simp only [hD, p0_, p1_, p2_, cnd_t, cnd_f, Asc_t, Asc_f] at ht hs
       subst ht
       refine s_load1 rfl rfl (v := Value.int .i8 (rdL a1 x5 0)) rfl rfl (fun _ => rfl) (cellsAt_of (fkI .i8) 0 (hs.rd hr0) had3_ gd2.1 gd2.2) ?_
       show G _ _ _ _ [_,_,_,_,_,_,_,_,_,_,_,_,_,_,_,_,_,_,_,_,_,_,_,_,_,_] _
       exact hk _ _ ⟨O, (by simp only [upd, Nat.reduceBEq, Bool.true_or, Bool.false_or, p0_, p1_, p2_, cnd_t, cnd_f, Asc_t, Asc_f]), hs.cast (by first | rfl | simp only [List.take, List.drop, List.cons_append, List.nil_append, List.set_cons_zero, List.set_cons_succ, List.eraseIdx, upd, Nat.reduceBEq, Bool.true_or, Bool.false_or, p0_, p1_, p2_, cnd_t, cnd_f, Asc_t, Asc_f])⟩
      ·
       intro D t w hD hp hcl hI rest hk
       obtain ⟨O, ht, hs⟩ := hI
       have hp : AllDone D [] := hp
       have q6_ : D 6 = false := not_yet (show D 6 = true → AllDone D [4, 5] from hcl 6 (by decide)) 0 4 rfl hD
       have q7_ : D 7 = false := not_yet (show D 7 = true → AllDone D [6] from hcl 7 (by decide)) 0 6 rfl q6_
       simp only [hD, q6_, q7_, cnd_t, cnd_f, Asc_t, Asc_f] at ht hs
       subst ht
       refine g_op (v := v4) rfl rfl rfl ?_
       show G _ _ _ _ [_,_,_,_,_,_,_,_,_,_,_,_,_,_,_,_,_,_,_,_,_,_,_,_,_,_] _
       exact hk _ _ ⟨O, (by simp only [upd, Nat.reduceBEq, Bool.true_or, Bool.false_or, q6_, q7_, cnd_t, cnd_f, Asc_t, Asc_f]), hs.cast (by first | rfl | simp only [List.take, List.drop, List.cons_append, List.nil_append, List.set_cons_zero, List.set_cons_succ, List.eraseIdx, upd, Nat.reduceBEq, Bool.true_or, Bool.false_or, q6_, q7_, cnd_t, cnd_f, Asc_t, Asc_f])⟩
      ·
       intro D t w hD hp hcl hI rest hk
       obtain ⟨O, ht, hs⟩ := hI
       have hp : AllDone D [] := hp
       have q6_ : D 6 = false := not_yet (show D 6 = true → AllDone D [4, 5] from hcl 6 (by decide)) 1 5 rfl hD
       have q7_ : D 7 = false := not_yet (show D 7 = true → AllDone D [6] from hcl 7 (by decide)) 0 6 rfl q6_
       simp only [hD, q6_, q7_, cnd_t, cnd_f, Asc_t, Asc_f] at ht hs
       subst ht
       refine g_op (v := Value.int .i64 x5) rfl rfl rfl ?_
       show G _ _ _ _ [_,_,_,_,_,_,_,_,_,_,_,_,_,_,_,_,_,_,_,_,_,_,_,_,_,_] _
       exact hk _ _ ⟨O, (by simp only [upd, Nat.reduceBEq, Bool.true_or, Bool.false_or, q6_, q7_, cnd_t, cnd_f, Asc_t, Asc_f]), hs.cast (by first | rfl | simp only [List.take, List.drop, List.cons_append, List.nil_append, List.set_cons_zero, List.set_cons_succ, List.eraseIdx, upd, Nat.reduceBEq, Bool.true_or, Bool.false_or, q6_, q7_, cnd_t, cnd_f, Asc_t, Asc_f])⟩
      ·
       intro D t w hD hp hcl hI rest hk
       obtain ⟨O, ht, hs⟩ := hI
       have hp : AllDone D [4, 5] := hp
       obtain ⟨p4_, p5_, _⟩ := hp
       have q7_ : D 7 = false := not_yet (show D 7 = true → AllDone D [6] from hcl 7 (by decide)) 0 6 rfl hD
       simp only [hD, p4_, p5_, q7_, cnd_t, cnd_f, Asc_t, Asc_f] at ht hs
       subst ht
       refine s_idxD (κ := (K.int .i8)) (m := 1) rfl (hs.rd hr1) rfl (fun _ => rfl) gd4.1 gd4.2 had5_ rfl rfl rfl rfl rfl ?_
       show G _ _ _ _ [_,_,_,_,_,_,_,_,_,_,_,_,_,_,_,_,_,_,_,_,_,_,_,_,_,_] _
       exact hk _ _ ⟨O, (by simp only [upd, Nat.reduceBEq, Bool.true_or, Bool.false_or, p4_, p5_, q7_, cnd_t, cnd_f, Asc_t, Asc_f]), hs.cast (by first | rfl | simp only [List.take, List.drop, List.cons_append, List.nil_append, List.set_cons_zero, List.set_cons_succ, List.eraseIdx, upd, Nat.reduceBEq, Bool.true_or, Bool.false_or, p4_, p5_, q7_, cnd_t, cnd_f, Asc_t, Asc_f])⟩
      ·
       intro D t w hD hp hcl hI rest hk
       obtain ⟨O, ht, hs⟩ := hI
       have hp : AllDone D [6] := hp
       obtain ⟨p6_, _⟩ := hp
       obtain ⟨p4_, p5_, _⟩ := (show D 6 = true → AllDone D [4, 5] from hcl 6 (by decide)) p6_
       simp only [hD, p4_, p5_, p6_, cnd_t, cnd_f, Asc_t, Asc_f] at ht hs
       subst ht
       refine s_load1 rfl rfl (v := Value.int .i8 (rdL a3 x5 0)) rfl rfl (fun _ => rfl) (cellsAt_of (fkI .i8) 0 (hs.rd hr1) had5_ gd4.1 gd4.2) ?_
       show G _ _ _ _ [_,_,_,_,_,_,_,_,_,_,_,_,_,_,_,_,_,_,_,_,_,_,_,_,_,_] _
       exact hk _ _ ⟨O, (by simp only [upd, Nat.reduceBEq, Bool.true_or, Bool.false_or, p4_, p5_, p6_, cnd_t, cnd_f, Asc_t, Asc_f]), hs.cast (by first | rfl | simp only [List.take, List.drop, List.cons_append, List.nil_append, List.set_cons_zero, List.set_cons_succ, List.eraseIdx, upd, Nat.reduceBEq, Bool.true_or, Bool.false_or, p4_, p5_, p6_, cnd_t, cnd_f, Asc_t, Asc_f])⟩
      ·
       intro D t w rest hall hO1_ hI
       obtain ⟨O, ht, hs⟩ := hI
       have p0_ : D 0 = true := hall 0 (by decide) rfl
       have p1_ : D 1 = true := hall 1 (by decide) rfl
       have p2_ : D 2 = true := hall 2 (by decide) rfl
       have p3_ : D 3 = true := hall 3 (by decide) rfl
       have p4_ : D 4 = true := hall 4 (by decide) rfl
       have p5_ : D 5 = true := hall 5 (by decide) rfl
       have p6_ : D 6 = true := hall 6 (by decide) rfl
       have p7_ : D 7 = true := hall 7 (by decide) rfl
       simp only [p0_, p1_, p2_, p3_, p4_, p5_, p6_, p7_, cnd_t, cnd_f, Asc_t, Asc_f] at ht hs
       subst ht
       obtain ⟨rest, rfl, hO6_⟩ := ord_one (m := 255) hO1_ rfl 8 (m' := 511) (by decide +kernel) rfl
       clear hO1_
       refine g_op_b (B := (rdL a1 x5 0) != (rdL a3 x5 0)) rfl rfl rfl ?_ ?_
       ·
        intro hb
        rw [if_neg (b_bne_t hb)] at H
        show G _ _ _ _ [_,_,_,_,_,_,_,_,_,_,_,_,_,_,_,_,_,_,_,_,_,_,_,_,_,_] _
        obtain rfl := ord_end hO6_ rfl (by decide +kernel)
        refine g_ops_nil ?_
        refine g_cond_true rfl ?_
        refine g_seq ?_
        refine g_region ?_
        show G _ _ _ (.inRegion _ [0] :: _) _ _
        refine g_op (v := Value.bool false) rfl rfl rfl ?_
        show G _ _ _ _ [_,_,_,_,_,_,_,_,_,_,_,_,_,_,_,_,_,_,_,_,_,_,_,_,_,_] _
        refine g_ops_nil ?_
        obtain rfl := Option.some.inj H
        subst Hx1_
        have H := Option.some.inj Hr1_
        subst H
        refine g_ret Try.func15 (v := Value.bool false) (res1 rfl rfl) ?_
        have hs : St _ [] _ := St.take (Γ' := []) hs
        exact ⟨_, rfl, rfl, hs⟩
       ·
        intro hb
        rw [if_pos (b_bne_f hb)] at H
        show G _ _ _ _ [_,_,_,_,_,_,_,_,_,_,_,_,_,_,_,_,_,_,_,_,_,_,_,_,_,_] _
        obtain rfl := ord_end hO6_ rfl (by decide +kernel)
        refine g_ops_nil ?_
        refine g_cond_false rfl ?_
        refine g_skip ?_
        refine g_inBlock ?_
        refine g_region ?_
        show G _ _ _ (.inRegion _ [0, 1, 2] :: _) _ _
        refine g_op (v := Value.int .i64 x5) rfl rfl rfl ?_
        refine g_op (v := Value.int .i64 (i64w (x5 + 1))) rfl rfl rfl ?_
        show G _ _ _ _ [_,_,_,_,_,_,_,_,_,_,_,_,_,_,_,_,_,_,_,_,_,_,_,_,_,_] _
        refine g_op (v := Value.int .i64 (i64w (x5 + 1))) rfl rfl rfl ?_
        show G _ _ _ _ [_,_,_,_,_,_,_,_,_,_,_,_,_,_,_,_,_,_,_,_,_,_,_,_,_,_] _
        refine g_ops_nil ?_
        obtain rfl := Option.some.inj H
        have hs : St _ [] _ := St.take (Γ' := []) hs
        exact ih1_ _ _ ⟨i64w (x5 + 1), Hx1_, rfl, hs⟩
     ·
      intro hb
      rw [if_neg (b_dec_f hb)] at H
      show G _ _ _ _ [_,_,_,_,_,_,_,_,_,_,_,_,_,_,_,_,_,_,_,_,_,_,_,_,_,_] _
      refine g_ops_nil ?_
      refine g_cond_false rfl ?_
      obtain rfl := Option.some.inj H
      subst Hx1_
      have hs : St _ [] _ := St.take (Γ' := []) hs
      refine g_exit rfl ?_
      exact ha1_ _ _ ⟨Hr1_, rfl, hs⟩

end Go.Proofs.YtjagkhjbbdfkaaaX
