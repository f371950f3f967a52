/- Contracts, printed by gen.py. -/
import Derived.Test.YtgachgjcnmeicaaXC1
namespace Go.Proofs.YtgachgjcnmeicaaX
open Go Go.RowKit Go.Proofs
set_option linter.unusedVariables false
set_option linter.unusedSimpArgs false
/- function 17 spec_TurnsIn -/
def spec_TurnsIn.post (w0 : World) (r : (Int × Int)) (v : Value) (w : World) : Prop := v = Value.tuple #[Value.int .i64 r.1, Value.int .i64 r.2] ∧ St w0 [] w
set_option maxHeartbeats 400000 in
set_option maxRecDepth 100000 in
theorem spec_TurnsIn.calls {N : Nat} {a1 : (List Int)} {v2 : Value} {w0 : World} {r : (Int × Int)} (hr0 : RdRow (K.int .u8) w0 v2 a1) (H : spec_TurnsIn.f N a1 = some r) :
    Calls Try.prog 17 #[v2] w0 fun e w => ∃ v, e = .returned v ∧ spec_TurnsIn.post w0 r v w := by
  unfold spec_TurnsIn.f at H
  have hs : St w0 [] w0 := St.refl w0
  refine calls_of_g (n := 25) Try.func17 rfl rfl ?_
  show G _ _ _ _ [_, _, _, _, _, _, _, _, _, _, _, _, _, _, _, _, _, _, _, _, _, _, _, _, _, _] _
  refine g_seq ?_
  refine g_region ?_
  show G _ _ _ (.inRegion _ [0, 1] :: _) _ _
  refine g_op (v := Value.int .i64 0) rfl rfl rfl ?_
  show G _ _ _ _ [_, _, _, _, _, _, _, _, _, _, _, _, _, _, _, _, _, _, _, _, _, _, _, _, _, _] _
  refine g_op (v := Value.int .i64 0) rfl rfl rfl ?_
  show G _ _ _ _ [_, _, _, _, _, _, _, _, _, _, _, _, _, _, _, _, _, _, _, _, _, _, _, _, _, _] _
  refine g_ops_nil ?_
  refine g_seq ?_
  refine g_seq ?_
  refine g_region ?_
  show G _ _ _ (.inRegion _ [0, 1, 2] :: _) _ _
  refine g_op (v := v2) rfl rfl rfl ?_
  show G _ _ _ _ [_, _, _, _, _, _, _, _, _, _, _, _, _, _, _, _, _, _, _, _, _, _, _, _, _, _] _
  obtain ⟨r3, Hr3, H⟩ := bind_get H
  refine s_call (args := [v2]) rfl rfl (x_call rfl (callFunc_enter Try.func50 rfl rfl) rfl) (spec_l07Planned.calls (a1 := a1) (hs.rd hr0) Hr3) ?_
  rintro _ w ⟨rfl, hs2⟩
  have hs : St _ [] _ := hs.call hs2
  show G _ _ _ _ [_, _, _, _, _, _, _, _, _, _, _, _, _, _, _, _, _, _, _, _, _, _, _, _, _, _] _
  refine g_op (v := Value.int .i64 r3) rfl rfl rfl ?_
  show G _ _ _ _ [_, _, _, _, _, _, _, _, _, _, _, _, _, _, _, _, _, _, _, _, _, _, _, _, _, _] _
  refine g_ops_nil ?_
  refine g_seq ?_
  refine g_region ?_
  show G _ _ _ (.inRegion _ [0, 1] :: _) _ _
  refine g_op (v := Value.int .i64 r3) rfl rfl rfl ?_
  show G _ _ _ _ [_, _, _, _, _, _, _, _, _, _, _, _, _, _, _, _, _, _, _, _, _, _, _, _, _, _] _
  refine g_op_b (B := r3 != 0) rfl rfl rfl ?_ ?_
  · intro hb
    rw [if_neg (b_bne_t hb)] at H
    show G _ _ _ _ [_, _, _, _, _, _, _, _, _, _, _, _, _, _, _, _, _, _, _, _, _, _, _, _, _, _] _
    refine g_ops_nil ?_
    refine g_cond_true rfl ?_
    refine g_seq ?_
    refine g_region ?_
    show G _ _ _ (.inRegion _ [0, 1, 2] :: _) _ _
    refine g_op (v := Value.int .i64 r3) rfl rfl rfl ?_
    show G _ _ _ _ [_, _, _, _, _, _, _, _, _, _, _, _, _, _, _, _, _, _, _, _, _, _, _, _, _, _] _
    refine g_op (v := Value.int .i64 0) rfl rfl rfl ?_
    show G _ _ _ _ [_, _, _, _, _, _, _, _, _, _, _, _, _, _, _, _, _, _, _, _, _, _, _, _, _, _] _
    refine g_op (v := Value.int .i64 r3) rfl rfl rfl ?_
    show G _ _ _ _ [_, _, _, _, _, _, _, _, _, _, _, _, _, _, _, _, _, _, _, _, _, _, _, _, _, _] _
    refine g_ops_nil ?_
    obtain rfl := Option.some.inj H
    refine g_ret Try.func17 (v := Value.tuple #[Value.int .i64 0, Value.int .i64 r3]) (resN (l := Try.f17.results.toList) (vs := [Value.int .i64 0, Value.int .i64 r3]) rfl ⟨rfl, rfl, trivial⟩ (by simp)) ?_
    have hs : St _ [] _ := St.take (Γ' := []) hs
    exact ⟨_, rfl, rfl, hs⟩
  · intro hb
    rw [if_pos (b_bne_f hb)] at H
    show G _ _ _ _ [_, _, _, _, _, _, _, _, _, _, _, _, _, _, _, _, _, _, _, _, _, _, _, _, _, _] _
    refine g_ops_nil ?_
    refine g_cond_false rfl ?_
    refine g_skip ?_
    refine g_seq ?_
    refine g_region ?_
    show G _ _ _ (.inRegion _ [0] :: _) _ _
    refine g_op (v := Value.int .i64 0) rfl rfl rfl ?_
    show G _ _ _ _ [_, _, _, _, _, _, _, _, _, _, _, _, _, _, _, _, _, _, _, _, _, _, _, _, _, _] _
    refine g_ops_nil ?_
    refine g_seq ?_
    refine g_seq ?_
    refine g_region ?_
    show G _ _ _ (.inRegion _ [0] :: _) _ _
    refine g_op (v := Value.int .i64 0) rfl rfl rfl ?_
    show G _ _ _ _ [_, _, _, _, _, _, _, _, _, _, _, _, _, _, _, _, _, _, _, _, _, _, _, _, _, _] _
    refine g_ops_nil ?_
    obtain ⟨o1_, Ho, Hr1_⟩ := bind_get H
    refine g_block_join (J := fun t w => ∃ x8 : Int, spec_TurnsIn.a0 N x8 = some r ∧ Fr t (fun O => ([O 0, O 1, O 2, O 3, O 4, Value.int .i64 x8, O 6, O 7, O 8, O 9, O 10, O 11, O 12, O 13, O 14, O 15, O 16, O 17, O 18, O 19, O 20, O 21, O 22, O 23, O 24, O 25] : List Value)) ∧ St w0 [] w) ?_ ?_
    · rintro t w ⟨x8, H, hf, hs⟩
      obtain ⟨O, rfl⟩ := hf.open
      show G _ _ _ _ [_, _, _, _, _, _, _, _, _, _, _, _, _, _, _, _, _, _, _, _, _, _, _, _, _, _] _
      unfold spec_TurnsIn.a0 at H
      refine g_seq ?_
      refine g_region ?_
      show G _ _ _ (.inRegion _ [0, 1, 2] :: _) _ _
      refine g_op (v := Value.int .i64 x8) rfl rfl rfl ?_
      show G _ _ _ _ [_, _, _, _, _, _, _, _, _, _, _, _, _, _, _, _, _, _, _, _, _, _, _, _, _, _] _
      refine g_op (v := Value.int .i64 x8) rfl rfl rfl ?_
      show G _ _ _ _ [_, _, _, _, _, _, _, _, _, _, _, _, _, _, _, _, _, _, _, _, _, _, _, _, _, _] _
      refine g_op (v := Value.int .i64 0) rfl rfl rfl ?_
      show G _ _ _ _ [_, _, _, _, _, _, _, _, _, _, _, _, _, _, _, _, _, _, _, _, _, _, _, _, _, _] _
      refine g_ops_nil ?_
      obtain rfl := Option.some.inj H
      refine g_ret Try.func17 (v := Value.tuple #[Value.int .i64 x8, Value.int .i64 0]) (resN (l := Try.f17.results.toList) (vs := [Value.int .i64 x8, Value.int .i64 0]) rfl ⟨rfl, rfl, trivial⟩ (by simp)) ?_
      have hs : St _ [] _ := St.take (Γ' := []) hs
      exact ⟨_, rfl, rfl, hs⟩
    · intro ha1_
      have hs : St _ [] _ := St.take (Γ' := []) hs
      refine g_loop_fuel (I := fun n_ t w => ∃ x4 : Int, ∃ x5 : Int, rounds (fun s => spec_TurnsIn.b0 N a1 s.1 s.2) n_ (x4, x5) = some o1_ ∧ Fr t (fun O => ([v2, O 1, O 2, O 3, O 4, Value.int .i64 x4, Value.int .i64 x5, O 7, O 8, O 9, O 10, O 11, O 12, O 13, O 14, O 15, O 16, O 17, O 18, O 19, O 20, O 21, O 22, O 23, O 24, O 25] : List Value)) ∧ St w0 [] w) N ⟨0, 0, Ho, rfl, hs⟩ ?_ ?_
      · rintro _ _ ⟨x4, x5, h, _⟩
        exact rounds_zero h
      · intro n_ ih1_
        rintro t w ⟨x4, x5, Ho, hf, hs⟩
        obtain ⟨O, rfl⟩ := hf.open
        show G _ _ _ _ [_, _, _, _, _, _, _, _, _, _, _, _, _, _, _, _, _, _, _, _, _, _, _, _, _, _] _
        obtain ⟨x2_, H, Hx1_⟩ := rounds_succ Ho
        have H : spec_TurnsIn.b0 N a1 x4 x5 = some x2_ := H
        unfold spec_TurnsIn.b0 at H
        refine g_seq ?_
        refine g_seq ?_
        refine g_region ?_
        show G _ _ _ (.inRegion _ [0, 1, 2, 3] :: _) _ _
        refine g_op (v := Value.int .i64 x5) rfl rfl rfl ?_
        show G _ _ _ _ [_, _, _, _, _, _, _, _, _, _, _, _, _, _, _, _, _, _, _, _, _, _, _, _, _, _] _
        refine g_op (v := v2) rfl rfl rfl ?_
        show G _ _ _ _ [_, _, _, _, _, _, _, _, _, _, _, _, _, _, _, _, _, _, _, _, _, _, _, _, _, _] _
        refine s_len (hs.rd hr0) rfl rfl rfl rfl rfl ?_
        show G _ _ _ _ [_, _, _, _, _, _, _, _, _, _, _, _, _, _, _, _, _, _, _, _, _, _, _, _, _, _] _
        refine g_op_b (B := decide (x5 < (a1.length : Int))) rfl rfl rfl ?_ ?_
        · intro hb
          rw [if_pos (b_dec_t hb)] at H
          show G _ _ _ _ [_, _, _, _, _, _, _, _, _, _, _, _, _, _, _, _, _, _, _, _, _, _, _, _, _, _] _
          refine g_ops_nil ?_
          refine g_cond_true rfl ?_
          refine g_skip ?_
          refine g_seq ?_
          refine g_block ?_
          refine g_region ?_
          show G _ _ _ (.inRegion _ [0, 1, 2, 3, 4, 5, 6, 7] :: _) _ _
          refine g_op (v := Value.int .i64 x4) rfl rfl rfl ?_
          show G _ _ _ _ [_, _, _, _, _, _, _, _, _, _, _, _, _, _, _, _, _, _, _, _, _, _, _, _, _, _] _
          refine g_op (v := v2) rfl rfl rfl ?_
          show G _ _ _ _ [_, _, _, _, _, _, _, _, _, _, _, _, _, _, _, _, _, _, _, _, _, _, _, _, _, _] _
          refine g_op (v := Value.int .i64 x5) rfl rfl rfl ?_
          show G _ _ _ _ [_, _, _, _, _, _, _, _, _, _, _, _, _, _, _, _, _, _, _, _, _, _, _, _, _, _] _
          obtain ⟨g1, H⟩ := ite_get H
          refine s_idx (fkI .u8) 0 (hs.rd hr0) rfl (fun _ => rfl) g1.1 g1.2 rfl rfl rfl rfl rfl ?_
          intro p6 hp6 lp6 op6
          show G _ _ _ _ [_, _, _, _, _, _, _, _, _, _, _, _, _, _, _, _, _, _, _, _, _, _, _, _, _, _] _
          refine s_load1 rfl rfl (v := Value.int .u8 (rdL a1 x5 0)) rfl rfl (fun _ => rfl) hp6 ?_
          show G _ _ _ _ [_, _, _, _, _, _, _, _, _, _, _, _, _, _, _, _, _, _, _, _, _, _, _, _, _, _] _
          obtain ⟨r7, Hr7, H⟩ := bind_get H
          refine s_call (args := [Value.int .u8 (rdL a1 x5 0)]) rfl rfl (x_call rfl (callFunc_enter Try.func51 rfl rfl) rfl) (spec_l07Turns.calls (a1 := rdL a1 x5 0) Hr7) ?_
          rintro _ w ⟨rfl, hs2⟩
          have hs : St _ [] _ := hs.call hs2
          show G _ _ _ _ [_, _, _, _, _, _, _, _, _, _, _, _, _, _, _, _, _, _, _, _, _, _, _, _, _, _] _
          refine g_op (v := Value.int .i64 (i64w (x4 + r7))) rfl rfl rfl ?_
          show G _ _ _ _ [_, _, _, _, _, _, _, _, _, _, _, _, _, _, _, _, _, _, _, _, _, _, _, _, _, _] _
          refine g_op (v := Value.int .i64 (i64w (x4 + r7))) rfl rfl rfl ?_
          show G _ _ _ _ [_, _, _, _, _, _, _, _, _, _, _, _, _, _, _, _, _, _, _, _, _, _, _, _, _, _] _
          refine g_ops_nil ?_
          refine g_inBlock ?_
          refine g_region ?_
          show G _ _ _ (.inRegion _ [0, 1, 2] :: _) _ _
          refine g_op (v := Value.int .i64 x5) rfl rfl rfl ?_
          show G _ _ _ _ [_, _, _, _, _, _, _, _, _, _, _, _, _, _, _, _, _, _, _, _, _, _, _, _, _, _] _
          refine g_op (v := Value.int .i64 (i64w (x5 + 1))) rfl rfl rfl ?_
          show G _ _ _ _ [_, _, _, _, _, _, _, _, _, _, _, _, _, _, _, _, _, _, _, _, _, _, _, _, _, _] _
          refine g_op (v := Value.int .i64 (i64w (x5 + 1))) rfl rfl rfl ?_
          show G _ _ _ _ [_, _, _, _, _, _, _, _, _, _, _, _, _, _, _, _, _, _, _, _, _, _, _, _, _, _] _
          refine g_ops_nil ?_
          obtain rfl := Option.some.inj H
          have hs : St _ [] _ := St.take (Γ' := []) hs
          exact ih1_ _ _ ⟨i64w (x4 + r7), i64w (x5 + 1), Hx1_, rfl, hs⟩
        · intro hb
          rw [if_neg (b_dec_f hb)] at H
          show G _ _ _ _ [_, _, _, _, _, _, _, _, _, _, _, _, _, _, _, _, _, _, _, _, _, _, _, _, _, _] _
          refine g_ops_nil ?_
          refine g_cond_false rfl ?_
          obtain rfl := Option.some.inj H
          subst Hx1_
          have hs : St _ [] _ := St.take (Γ' := []) hs
          refine g_exit rfl ?_
          exact ha1_ _ _ ⟨x4, Hr1_, rfl, hs⟩

/- function 52 bits_OnesCount8 -/
def bits_OnesCount8.post (w0 : World) (r : Int) (v : Value) (w : World) : Prop := v = Value.int .i64 r ∧ St w0 [] w
set_option maxHeartbeats 400000 in
set_option maxRecDepth 100000 in
theorem bits_OnesCount8.calls {N : Nat} {a1 : Int} {w0 : World} {r : Int} (H : bits_OnesCount8.f N a1 = some r) :
    Calls Try.prog 52 #[Value.int .u8 a1] w0 fun e w => ∃ v, e = .returned v ∧ bits_OnesCount8.post w0 r v w := by
  unfold bits_OnesCount8.f at H
  have hs : St w0 [] w0 := St.refl w0
  refine calls_of_g (n := 5) Try.func52 rfl rfl ?_
  show G _ _ _ _ [_, _, _, _, _, _] _
  refine g_seq ?_
  refine g_region ?_
  show G _ _ _ (.inRegion _ [0] :: _) _ _
  refine g_op (v := Value.int .i64 0) rfl rfl rfl ?_
  show G _ _ _ _ [_, _, _, _, _, _] _
  refine g_ops_nil ?_
  refine g_seq ?_
  refine g_region ?_
  show G _ _ _ (.inRegion _ [0, 1, 2, 3] :: _) _ _
  refine g_op (v := Value.int .u8 a1) rfl rfl rfl ?_
  show G _ _ _ _ [_, _, _, _, _, _] _
  obtain ⟨g1, H⟩ := ite_get H
  refine g_op (v := Value.int .u8 (btS (⟨#[0, 1, 1, 2, 1, 2, 2, 3, 1, 2, 2, 3, 2, 3, 3, 4, 1, 2, 2, 3, 2, 3, 3, 4, 2, 3, 3, 4, 3, 4, 4, 5, 1, 2, 2, 3, 2, 3, 3, 4, 2, 3, 3, 4, 3, 4, 4, 5, 2, 3, 3, 4, 3, 4, 4, 5, 3, 4, 4, 5, 4, 5, 5, 6, 1, 2, 2, 3, 2, 3, 3, 4, 2, 3, 3, 4, 3, 4, 4, 5, 2, 3, 3, 4, 3, 4, 4, 5, 3, 4, 4, 5, 4, 5, 5, 6, 2, 3, 3, 4, 3, 4, 4, 5, 3, 4, 4, 5, 4, 5, 5, 6, 3, 4, 4, 5, 4, 5, 5, 6, 4, 5, 5, 6, 5, 6, 6, 7, 1, 2, 2, 3, 2, 3, 3, 4, 2, 3, 3, 4, 3, 4, 4, 5, 2, 3, 3, 4, 3, 4, 4, 5, 3, 4, 4, 5, 4, 5, 5, 6, 2, 3, 3, 4, 3, 4, 4, 5, 3, 4, 4, 5, 4, 5, 5, 6, 3, 4, 4, 5, 4, 5, 5, 6, 4, 5, 5, 6, 5, 6, 6, 7, 2, 3, 3, 4, 3, 4, 4, 5, 3, 4, 4, 5, 4, 5, 5, 6, 3, 4, 4, 5, 4, 5, 5, 6, 4, 5, 5, 6, 5, 6, 6, 7, 3, 4, 4, 5, 4, 5, 5, 6, 4, 5, 5, 6, 5, 6, 6, 7, 4, 5, 5, 6, 5, 6, 6, 7, 5, 6, 6, 7, 6, 7, 7, 8]⟩ : ByteArray) a1)) rfl rfl (x_indexS rfl rfl rfl rfl g1.1 g1.2) ?_
  show G _ _ _ _ [_, _, _, _, _, _] _
  refine g_op (v := Value.int .i64 (i64w (btS (⟨#[0, 1, 1, 2, 1, 2, 2, 3, 1, 2, 2, 3, 2, 3, 3, 4, 1, 2, 2, 3, 2, 3, 3, 4, 2, 3, 3, 4, 3, 4, 4, 5, 1, 2, 2, 3, 2, 3, 3, 4, 2, 3, 3, 4, 3, 4, 4, 5, 2, 3, 3, 4, 3, 4, 4, 5, 3, 4, 4, 5, 4, 5, 5, 6, 1, 2, 2, 3, 2, 3, 3, 4, 2, 3, 3, 4, 3, 4, 4, 5, 2, 3, 3, 4, 3, 4, 4, 5, 3, 4, 4, 5, 4, 5, 5, 6, 2, 3, 3, 4, 3, 4, 4, 5, 3, 4, 4, 5, 4, 5, 5, 6, 3, 4, 4, 5, 4, 5, 5, 6, 4, 5, 5, 6, 5, 6, 6, 7, 1, 2, 2, 3, 2, 3, 3, 4, 2, 3, 3, 4, 3, 4, 4, 5, 2, 3, 3, 4, 3, 4, 4, 5, 3, 4, 4, 5, 4, 5, 5, 6, 2, 3, 3, 4, 3, 4, 4, 5, 3, 4, 4, 5, 4, 5, 5, 6, 3, 4, 4, 5, 4, 5, 5, 6, 4, 5, 5, 6, 5, 6, 6, 7, 2, 3, 3, 4, 3, 4, 4, 5, 3, 4, 4, 5, 4, 5, 5, 6, 3, 4, 4, 5, 4, 5, 5, 6, 4, 5, 5, 6, 5, 6, 6, 7, 3, 4, 4, 5, 4, 5, 5, 6, 4, 5, 5, 6, 5, 6, 6, 7, 4, 5, 5, 6, 5, 6, 6, 7, 5, 6, 6, 7, 6, 7, 7, 8]⟩ : ByteArray) a1))) rfl rfl rfl ?_
  show G _ _ _ _ [_, _, _, _, _, _] _
  refine g_op (v := Value.int .i64 (i64w (btS (⟨#[0, 1, 1, 2, 1, 2, 2, 3, 1, 2, 2, 3, 2, 3, 3, 4, 1, 2, 2, 3, 2, 3, 3, 4, 2, 3, 3, 4, 3, 4, 4, 5, 1, 2, 2, 3, 2, 3, 3, 4, 2, 3, 3, 4, 3, 4, 4, 5, 2, 3, 3, 4, 3, 4, 4, 5, 3, 4, 4, 5, 4, 5, 5, 6, 1, 2, 2, 3, 2, 3, 3, 4, 2, 3, 3, 4, 3, 4, 4, 5, 2, 3, 3, 4, 3, 4, 4, 5, 3, 4, 4, 5, 4, 5, 5, 6, 2, 3, 3, 4, 3, 4, 4, 5, 3, 4, 4, 5, 4, 5, 5, 6, 3, 4, 4, 5, 4, 5, 5, 6, 4, 5, 5, 6, 5, 6, 6, 7, 1, 2, 2, 3, 2, 3, 3, 4, 2, 3, 3, 4, 3, 4, 4, 5, 2, 3, 3, 4, 3, 4, 4, 5, 3, 4, 4, 5, 4, 5, 5, 6, 2, 3, 3, 4, 3, 4, 4, 5, 3, 4, 4, 5, 4, 5, 5, 6, 3, 4, 4, 5, 4, 5, 5, 6, 4, 5, 5, 6, 5, 6, 6, 7, 2, 3, 3, 4, 3, 4, 4, 5, 3, 4, 4, 5, 4, 5, 5, 6, 3, 4, 4, 5, 4, 5, 5, 6, 4, 5, 5, 6, 5, 6, 6, 7, 3, 4, 4, 5, 4, 5, 5, 6, 4, 5, 5, 6, 5, 6, 6, 7, 4, 5, 5, 6, 5, 6, 6, 7, 5, 6, 6, 7, 6, 7, 7, 8]⟩ : ByteArray) a1))) rfl rfl rfl ?_
  show G _ _ _ _ [_, _, _, _, _, _] _
  refine g_ops_nil ?_
  obtain rfl := Option.some.inj H
  refine g_ret Try.func52 (v := Value.int .i64 (i64w (btS (⟨#[0, 1, 1, 2, 1, 2, 2, 3, 1, 2, 2, 3, 2, 3, 3, 4, 1, 2, 2, 3, 2, 3, 3, 4, 2, 3, 3, 4, 3, 4, 4, 5, 1, 2, 2, 3, 2, 3, 3, 4, 2, 3, 3, 4, 3, 4, 4, 5, 2, 3, 3, 4, 3, 4, 4, 5, 3, 4, 4, 5, 4, 5, 5, 6, 1, 2, 2, 3, 2, 3, 3, 4, 2, 3, 3, 4, 3, 4, 4, 5, 2, 3, 3, 4, 3, 4, 4, 5, 3, 4, 4, 5, 4, 5, 5, 6, 2, 3, 3, 4, 3, 4, 4, 5, 3, 4, 4, 5, 4, 5, 5, 6, 3, 4, 4, 5, 4, 5, 5, 6, 4, 5, 5, 6, 5, 6, 6, 7, 1, 2, 2, 3, 2, 3, 3, 4, 2, 3, 3, 4, 3, 4, 4, 5, 2, 3, 3, 4, 3, 4, 4, 5, 3, 4, 4, 5, 4, 5, 5, 6, 2, 3, 3, 4, 3, 4, 4, 5, 3, 4, 4, 5, 4, 5, 5, 6, 3, 4, 4, 5, 4, 5, 5, 6, 4, 5, 5, 6, 5, 6, 6, 7, 2, 3, 3, 4, 3, 4, 4, 5, 3, 4, 4, 5, 4, 5, 5, 6, 3, 4, 4, 5, 4, 5, 5, 6, 4, 5, 5, 6, 5, 6, 6, 7, 3, 4, 4, 5, 4, 5, 5, 6, 4, 5, 5, 6, 5, 6, 6, 7, 4, 5, 5, 6, 5, 6, 6, 7, 5, 6, 6, 7, 6, 7, 7, 8]⟩ : ByteArray) a1))) (res1 rfl rfl) ?_
  have hs : St _ [] _ := St.take (Γ' := []) hs
  exact ⟨_, rfl, rfl, hs⟩

/- function 19 impl_TurnsIn -/
def impl_TurnsIn.post (w0 : World) (r : (Int × Int)) (v : Value) (w : World) : Prop := v = Value.tuple #[Value.int .i64 r.1, Value.int .i64 r.2] ∧ St w0 [] w
set_option maxHeartbeats 400000 in
set_option maxRecDepth 100000 in
theorem impl_TurnsIn.calls {N : Nat} {a1 : (List Int)} {v2 : Value} {w0 : World} {r : (Int × Int)} (hr0 : RdRow (K.int .u8) w0 v2 a1) (H : impl_TurnsIn.f N a1 = some r) :
    Calls Try.prog 19 #[v2] w0 fun e w => ∃ v, e = .returned v ∧ impl_TurnsIn.post w0 r v w := by
  unfold impl_TurnsIn.f at H
  have hs : St w0 [] w0 := St.refl w0
  refine calls_of_g (n := 23) Try.func19 rfl rfl ?_
  show G _ _ _ _ [_, _, _, _, _, _, _, _, _, _, _, _, _, _, _, _, _, _, _, _, _, _, _, _] _
  refine g_seq ?_
  refine g_region ?_
  show G _ _ _ (.inRegion _ [0, 1] :: _) _ _
  refine g_op (v := Value.int .i64 0) rfl rfl rfl ?_
  show G _ _ _ _ [_, _, _, _, _, _, _, _, _, _, _, _, _, _, _, _, _, _, _, _, _, _, _, _] _
  refine g_op (v := Value.int .i64 0) rfl rfl rfl ?_
  show G _ _ _ _ [_, _, _, _, _, _, _, _, _, _, _, _, _, _, _, _, _, _, _, _, _, _, _, _] _
  refine g_ops_nil ?_
  refine g_seq ?_
  refine g_region ?_
  show G _ _ _ (.inRegion _ [0] :: _) _ _
  refine g_op (v := Value.int .i64 0) rfl rfl rfl ?_
  show G _ _ _ _ [_, _, _, _, _, _, _, _, _, _, _, _, _, _, _, _, _, _, _, _, _, _, _, _] _
  refine g_ops_nil ?_
  refine g_seq ?_
  refine g_seq ?_
  refine g_region ?_
  show G _ _ _ (.inRegion _ [0, 1, 2] :: _) _ _
  refine g_op (v := v2) rfl rfl rfl ?_
  show G _ _ _ _ [_, _, _, _, _, _, _, _, _, _, _, _, _, _, _, _, _, _, _, _, _, _, _, _] _
  refine s_len (hs.rd hr0) rfl rfl rfl rfl rfl ?_
  show G _ _ _ _ [_, _, _, _, _, _, _, _, _, _, _, _, _, _, _, _, _, _, _, _, _, _, _, _] _
  refine g_op (v := Value.int .i64 0) rfl rfl rfl ?_
  show G _ _ _ _ [_, _, _, _, _, _, _, _, _, _, _, _, _, _, _, _, _, _, _, _, _, _, _, _] _
  refine g_ops_nil ?_
  obtain ⟨o1_, Ho, Hr1_⟩ := bind_get H
  refine g_block_join (J := fun t w => ∃ x7 : Int, impl_TurnsIn.a0 N a1 x7 = some r ∧ Fr t (fun O => ([v2, O 1, O 2, O 3, Value.int .i64 x7, O 5, O 6, O 7, O 8, O 9, O 10, O 11, O 12, O 13, O 14, O 15, O 16, O 17, O 18, O 19, O 20, O 21, O 22, O 23] : List Value)) ∧ St w0 [] w) ?_ ?_
  · rintro t w ⟨x7, H, hf, hs⟩
    obtain ⟨O, rfl⟩ := hf.open
    show G _ _ _ _ [_, _, _, _, _, _, _, _, _, _, _, _, _, _, _, _, _, _, _, _, _, _, _, _] _
    unfold impl_TurnsIn.a0 at H
    refine g_seq ?_
    refine g_seq ?_
    refine g_region ?_
    show G _ _ _ (.inRegion _ [0, 1, 2] :: _) _ _
    refine g_op (v := v2) rfl rfl rfl ?_
    show G _ _ _ _ [_, _, _, _, _, _, _, _, _, _, _, _, _, _, _, _, _, _, _, _, _, _, _, _] _
    refine s_len (hs.rd hr0) rfl rfl rfl rfl rfl ?_
    show G _ _ _ _ [_, _, _, _, _, _, _, _, _, _, _, _, _, _, _, _, _, _, _, _, _, _, _, _] _
    refine g_op_b (B := decide ((a1.length : Int) > 60)) rfl rfl rfl ?_ ?_
    · intro hb
      rw [if_pos (b_dec_t hb)] at H
      show G _ _ _ _ [_, _, _, _, _, _, _, _, _, _, _, _, _, _, _, _, _, _, _, _, _, _, _, _] _
      refine g_ops_nil ?_
      refine g_cond_true rfl ?_
      refine g_seq ?_
      refine g_region ?_
      show G _ _ _ (.inRegion _ [0, 1] :: _) _ _
      refine g_op (v := Value.int .i64 0) rfl rfl rfl ?_
      show G _ _ _ _ [_, _, _, _, _, _, _, _, _, _, _, _, _, _, _, _, _, _, _, _, _, _, _, _] _
      refine g_op (v := Value.int .i64 3) rfl rfl rfl ?_
      show G _ _ _ _ [_, _, _, _, _, _, _, _, _, _, _, _, _, _, _, _, _, _, _, _, _, _, _, _] _
      refine g_ops_nil ?_
      obtain rfl := Option.some.inj H
      refine g_ret Try.func19 (v := Value.tuple #[Value.int .i64 0, Value.int .i64 3]) (resN (l := Try.f19.results.toList) (vs := [Value.int .i64 0, Value.int .i64 3]) rfl ⟨rfl, rfl, trivial⟩ (by simp)) ?_
      have hs : St _ [] _ := St.take (Γ' := []) hs
      exact ⟨_, rfl, rfl, hs⟩
    · intro hb
      rw [if_neg (b_dec_f hb)] at H
      show G _ _ _ _ [_, _, _, _, _, _, _, _, _, _, _, _, _, _, _, _, _, _, _, _, _, _, _, _] _
      refine g_ops_nil ?_
      refine g_cond_false rfl ?_
      refine g_skip ?_
      refine g_seq ?_
      refine g_region ?_
      show G _ _ _ (.inRegion _ [0, 1, 2] :: _) _ _
      refine g_op (v := Value.int .i64 x7) rfl rfl rfl ?_
      show G _ _ _ _ [_, _, _, _, _, _, _, _, _, _, _, _, _, _, _, _, _, _, _, _, _, _, _, _] _
      refine g_op (v := Value.int .i64 x7) rfl rfl rfl ?_
      show G _ _ _ _ [_, _, _, _, _, _, _, _, _, _, _, _, _, _, _, _, _, _, _, _, _, _, _, _] _
      refine g_op (v := Value.int .i64 0) rfl rfl rfl ?_
      show G _ _ _ _ [_, _, _, _, _, _, _, _, _, _, _, _, _, _, _, _, _, _, _, _, _, _, _, _] _
      refine g_ops_nil ?_
      obtain rfl := Option.some.inj H
      refine g_ret Try.func19 (v := Value.tuple #[Value.int .i64 x7, Value.int .i64 0]) (resN (l := Try.f19.results.toList) (vs := [Value.int .i64 x7, Value.int .i64 0]) rfl ⟨rfl, rfl, trivial⟩ (by simp)) ?_
      have hs : St _ [] _ := St.take (Γ' := []) hs
      exact ⟨_, rfl, rfl, hs⟩
  · intro ha1_
    have hs : St _ [] _ := St.take (Γ' := []) hs
    refine g_loop_fuel (I := fun n_ t w => ∃ x3 : Int, ∃ x4 : Int, rounds (fun s => impl_TurnsIn.b0 N a1 s.1 s.2) n_ (x3, x4) = some o1_ ∧ Fr t (fun O => ([v2, O 1, O 2, O 3, Value.int .i64 x3, O 5, O 6, v2, Value.int .i64 (a1.length : Int), Value.int .i64 x4, O 10, O 11, O 12, O 13, O 14, O 15, O 16, O 17, O 18, O 19, O 20, O 21, O 22, O 23] : List Value)) ∧ St w0 [] w) N ⟨0, 0, Ho, rfl, hs⟩ ?_ ?_
    · rintro _ _ ⟨x3, x4, h, _⟩
      exact rounds_zero h
    · intro n_ ih1_
      rintro t w ⟨x3, x4, Ho, hf, hs⟩
      obtain ⟨O, rfl⟩ := hf.open
      show G _ _ _ _ [_, _, _, _, _, _, _, _, _, _, _, _, _, _, _, _, _, _, _, _, _, _, _, _] _
      obtain ⟨x2_, H, Hx1_⟩ := rounds_succ Ho
      have H : impl_TurnsIn.b0 N a1 x3 x4 = some x2_ := H
      unfold impl_TurnsIn.b0 at H
      refine g_seq ?_
      refine g_region ?_
      show G _ _ _ (.inRegion _ [0] :: _) _ _
      refine g_op_b (B := decide (x4 < (a1.length : Int))) rfl rfl rfl ?_ ?_
      · intro hb
        rw [if_pos (b_dec_t hb)] at H
        show G _ _ _ _ [_, _, _, _, _, _, _, _, _, _, _, _, _, _, _, _, _, _, _, _, _, _, _, _] _
        refine g_ops_nil ?_
        refine g_seq ?_
        refine g_cond_true rfl ?_
        refine g_skip ?_
        refine g_seq ?_
        refine g_block ?_
        refine g_seq ?_
        refine g_region ?_
        show G _ _ _ (.inRegion _ [0, 1, 2] :: _) _ _
        obtain ⟨g1, H⟩ := ite_get H
        refine s_idx (fkI .u8) 0 (hs.rd hr0) rfl (fun _ => rfl) g1.1 g1.2 rfl rfl rfl rfl rfl ?_
        intro p5 hp5 lp5 op5
        show G _ _ _ _ [_, _, _, _, _, _, _, _, _, _, _, _, _, _, _, _, _, _, _, _, _, _, _, _] _
        refine s_load1 rfl rfl (v := Value.int .u8 (rdL a1 x4 0)) rfl rfl (fun _ => rfl) hp5 ?_
        show G _ _ _ _ [_, _, _, _, _, _, _, _, _, _, _, _, _, _, _, _, _, _, _, _, _, _, _, _] _
        refine g_op (v := Value.int .u8 (rdL a1 x4 0)) rfl rfl rfl ?_
        show G _ _ _ _ [_, _, _, _, _, _, _, _, _, _, _, _, _, _, _, _, _, _, _, _, _, _, _, _] _
        refine g_ops_nil ?_
        refine g_seq ?_
        refine g_seq ?_
        refine g_region ?_
        show G _ _ _ (.inRegion _ [0, 1] :: _) _ _
        refine g_op (v := Value.int .u8 (rdL a1 x4 0)) rfl rfl rfl ?_
        show G _ _ _ _ [_, _, _, _, _, _, _, _, _, _, _, _, _, _, _, _, _, _, _, _, _, _, _, _] _
        refine g_op_b (B := decide ((rdL a1 x4 0) ≥ 16)) rfl rfl rfl ?_ ?_
        · intro hb
          rw [if_pos (b_dec_t hb)] at H
          show G _ _ _ _ [_, _, _, _, _, _, _, _, _, _, _, _, _, _, _, _, _, _, _, _, _, _, _, _] _
          refine g_ops_nil ?_
          refine g_cond_true rfl ?_
          refine g_seq ?_
          refine g_region ?_
          show G _ _ _ (.inRegion _ [0, 1] :: _) _ _
          refine g_op (v := Value.int .i64 0) rfl rfl rfl ?_
          show G _ _ _ _ [_, _, _, _, _, _, _, _, _, _, _, _, _, _, _, _, _, _, _, _, _, _, _, _] _
          refine g_op (v := Value.int .i64 2) rfl rfl rfl ?_
          show G _ _ _ _ [_, _, _, _, _, _, _, _, _, _, _, _, _, _, _, _, _, _, _, _, _, _, _, _] _
          refine g_ops_nil ?_
          obtain rfl := Option.some.inj H
          subst Hx1_
          have H := Option.some.inj Hr1_
          subst H
          refine g_ret Try.func19 (v := Value.tuple #[Value.int .i64 0, Value.int .i64 2]) (resN (l := Try.f19.results.toList) (vs := [Value.int .i64 0, Value.int .i64 2]) rfl ⟨rfl, rfl, trivial⟩ (by simp)) ?_
          have hs : St _ [] _ := St.take (Γ' := []) hs
          exact ⟨_, rfl, rfl, hs⟩
        · intro hb
          rw [if_neg (b_dec_f hb)] at H
          show G _ _ _ _ [_, _, _, _, _, _, _, _, _, _, _, _, _, _, _, _, _, _, _, _, _, _, _, _] _
          refine g_ops_nil ?_
          refine g_cond_false rfl ?_
          refine g_skip ?_
          refine g_region ?_
          show G _ _ _ (.inRegion _ [0, 1, 2, 3, 4] :: _) _ _
          refine g_op (v := Value.int .i64 x3) rfl rfl rfl ?_
          show G _ _ _ _ [_, _, _, _, _, _, _, _, _, _, _, _, _, _, _, _, _, _, _, _, _, _, _, _] _
          refine g_op (v := Value.int .u8 (rdL a1 x4 0)) rfl rfl rfl ?_
          show G _ _ _ _ [_, _, _, _, _, _, _, _, _, _, _, _, _, _, _, _, _, _, _, _, _, _, _, _] _
          obtain ⟨r6, Hr6, H⟩ := bind_get H
          refine s_call (args := [Value.int .u8 (rdL a1 x4 0)]) rfl rfl (x_call rfl (callFunc_enter Try.func52 rfl rfl) rfl) (bits_OnesCount8.calls (a1 := rdL a1 x4 0) Hr6) ?_
          rintro _ w ⟨rfl, hs2⟩
          have hs : St _ [] _ := hs.call hs2
          show G _ _ _ _ [_, _, _, _, _, _, _, _, _, _, _, _, _, _, _, _, _, _, _, _, _, _, _, _] _
          refine g_op (v := Value.int .i64 (i64w (x3 + r6))) rfl rfl rfl ?_
          show G _ _ _ _ [_, _, _, _, _, _, _, _, _, _, _, _, _, _, _, _, _, _, _, _, _, _, _, _] _
          refine g_op (v := Value.int .i64 (i64w (x3 + r6))) rfl rfl rfl ?_
          show G _ _ _ _ [_, _, _, _, _, _, _, _, _, _, _, _, _, _, _, _, _, _, _, _, _, _, _, _] _
          refine g_ops_nil ?_
          refine g_inBlock ?_
          refine g_region ?_
          show G _ _ _ (.inRegion _ [0, 1] :: _) _ _
          refine g_op (v := Value.int .i64 (i64w (x4 + 1))) rfl rfl rfl ?_
          show G _ _ _ _ [_, _, _, _, _, _, _, _, _, _, _, _, _, _, _, _, _, _, _, _, _, _, _, _] _
          refine g_op (v := Value.int .i64 (i64w (x4 + 1))) rfl rfl rfl ?_
          show G _ _ _ _ [_, _, _, _, _, _, _, _, _, _, _, _, _, _, _, _, _, _, _, _, _, _, _, _] _
          refine g_ops_nil ?_
          obtain rfl := Option.some.inj H
          have hs : St _ [] _ := St.take (Γ' := []) hs
          exact ih1_ _ _ ⟨i64w (x3 + r6), i64w (x4 + 1), Hx1_, rfl, hs⟩
      · intro hb
        rw [if_neg (b_dec_f hb)] at H
        show G _ _ _ _ [_, _, _, _, _, _, _, _, _, _, _, _, _, _, _, _, _, _, _, _, _, _, _, _] _
        refine g_ops_nil ?_
        refine g_seq ?_
        refine g_cond_false rfl ?_
        obtain rfl := Option.some.inj H
        subst Hx1_
        have hs : St _ [] _ := St.take (Γ' := []) hs
        refine g_exit rfl ?_
        exact ha1_ _ _ ⟨x3, Hr1_, rfl, hs⟩

/- function 20 laws_eqByteS -/
def laws_eqByteS.post (w0 : World) (r : Bool) (v : Value) (w : World) : Prop := v = Value.bool r ∧ St w0 [] w
set_option maxHeartbeats 400000 in
set_option maxRecDepth 100000 in
theorem laws_eqByteS.calls {N : Nat} {a1 : (List Int)} {a3 : (List Int)} {v2 : Value} {v4 : Value} {w0 : World} {r : Bool} (hr0 : RdRow (K.int .u8) w0 v2 a1) (hr1 : RdRow (K.int .u8) w0 v4 a3) (H : laws_eqByteS.f N a1 a3 = some r) :
    Calls Try.prog 20 #[v2, v4] w0 fun e w => ∃ v, e = .returned v ∧ laws_eqByteS.post w0 r v w := by
  unfold laws_eqByteS.f at H
  have hs : St w0 [] w0 := St.refl w0
  refine calls_of_g (n := 24) Try.func20 rfl rfl ?_
  show G _ _ _ _ [_, _, _, _, _, _, _, _, _, _, _, _, _, _, _, _, _, _, _, _, _, _, _, _, _, _] _
  refine g_seq ?_
  refine g_region ?_
  show G _ _ _ (.inRegion _ [0] :: _) _ _
  refine g_op (v := Value.bool false) rfl rfl rfl ?_
  show G _ _ _ _ [_, _, _, _, _, _, _, _, _, _, _, _, _, _, _, _, _, _, _, _, _, _, _, _, _, _] _
  refine g_ops_nil ?_
  refine g_seq ?_
  refine g_seq ?_
  refine g_region ?_
  show G _ _ _ (.inRegion _ [0, 1, 2, 3, 4] :: _) _ _
  refine g_op (v := v2) rfl rfl rfl ?_
  show G _ _ _ _ [_, _, _, _, _, _, _, _, _, _, _, _, _, _, _, _, _, _, _, _, _, _, _, _, _, _] _
  refine s_len (hs.rd hr0) rfl rfl rfl rfl rfl ?_
  show G _ _ _ _ [_, _, _, _, _, _, _, _, _, _, _, _, _, _, _, _, _, _, _, _, _, _, _, _, _, _] _
  refine g_op (v := v4) rfl rfl rfl ?_
  show G _ _ _ _ [_, _, _, _, _, _, _, _, _, _, _, _, _, _, _, _, _, _, _, _, _, _, _, _, _, _] _
  refine s_len (hs.rd hr1) rfl rfl rfl rfl rfl ?_
  show G _ _ _ _ [_, _, _, _, _, _, _, _, _, _, _, _, _, _, _, _, _, _, _, _, _, _, _, _, _, _] _
  refine g_op_b (B := (a1.length : Int) != (a3.length : Int)) rfl rfl rfl ?_ ?_
  · intro hb
    rw [if_neg (b_bne_t hb)] at H
    show G _ _ _ _ [_, _, _, _, _, _, _, _, _, _, _, _, _, _, _, _, _, _, _, _, _, _, _, _, _, _] _
    refine g_ops_nil ?_
    refine g_cond_true rfl ?_
    refine g_seq ?_
    refine g_region ?_
    show G _ _ _ (.inRegion _ [0] :: _) _ _
    refine g_op (v := Value.bool false) rfl rfl rfl ?_
    show G _ _ _ _ [_, _, _, _, _, _, _, _, _, _, _, _, _, _, _, _, _, _, _, _, _, _, _, _, _, _] _
    refine g_ops_nil ?_
    obtain rfl := Option.some.inj H
    refine g_ret Try.func20 (v := Value.bool false) (res1 rfl rfl) ?_
    have hs : St _ [] _ := St.take (Γ' := []) hs
    exact ⟨_, rfl, rfl, hs⟩
  · intro hb
    rw [if_pos (b_bne_f hb)] at H
    show G _ _ _ _ [_, _, _, _, _, _, _, _, _, _, _, _, _, _, _, _, _, _, _, _, _, _, _, _, _, _] _
    refine g_ops_nil ?_
    refine g_cond_false rfl ?_
    refine g_skip ?_
    refine g_seq ?_
    refine g_seq ?_
    refine g_region ?_
    show G _ _ _ (.inRegion _ [0] :: _) _ _
    refine g_op (v := Value.int .i64 0) rfl rfl rfl ?_
    show G _ _ _ _ [_, _, _, _, _, _, _, _, _, _, _, _, _, _, _, _, _, _, _, _, _, _, _, _, _, _] _
    refine g_ops_nil ?_
    obtain ⟨o1_, Ho, Hr1_⟩ := bind_get H
    refine g_block_join (J := fun t w => laws_eqByteS.a0 N = some r ∧ Fr t (fun O => ([O 0, O 1, O 2, O 3, O 4, O 5, O 6, O 7, O 8, O 9, O 10, O 11, O 12, O 13, O 14, O 15, O 16, O 17, O 18, O 19, O 20, O 21, O 22, O 23, O 24, O 25] : List Value)) ∧ St w0 [] w) ?_ ?_
    · rintro t w ⟨H, hf, hs⟩
      obtain ⟨O, rfl⟩ := hf.open
      show G _ _ _ _ [_, _, _, _, _, _, _, _, _, _, _, _, _, _, _, _, _, _, _, _, _, _, _, _, _, _] _
      unfold laws_eqByteS.a0 at H
      refine g_seq ?_
      refine g_region ?_
      show G _ _ _ (.inRegion _ [0] :: _) _ _
      refine g_op (v := Value.bool true) rfl rfl rfl ?_
      show G _ _ _ _ [_, _, _, _, _, _, _, _, _, _, _, _, _, _, _, _, _, _, _, _, _, _, _, _, _, _] _
      refine g_ops_nil ?_
      obtain rfl := Option.some.inj H
      refine g_ret Try.func20 (v := Value.bool true) (res1 rfl rfl) ?_
      have hs : St _ [] _ := St.take (Γ' := []) hs
      exact ⟨_, rfl, rfl, hs⟩
    · intro ha1_
      have hs : St _ [] _ := St.take (Γ' := []) hs
      refine g_loop_fuel (I := fun n_ t w => ∃ x5 : Int, rounds (fun s => laws_eqByteS.b0 N a1 a3 s) n_ x5 = some o1_ ∧ Fr t (fun O => ([v2, v4, O 2, O 3, O 4, Value.int .i64 x5, O 6, O 7, O 8, O 9, O 10, O 11, O 12, O 13, O 14, O 15, O 16, O 17, O 18, O 19, O 20, O 21, O 22, O 23, O 24, O 25] : List Value)) ∧ St w0 [] w) N ⟨0, Ho, rfl, hs⟩ ?_ ?_
      · rintro _ _ ⟨x5, h, _⟩
        exact rounds_zero h
      · intro n_ ih1_
        rintro t w ⟨x5, Ho, hf, hs⟩
        obtain ⟨O, rfl⟩ := hf.open
        show G _ _ _ _ [_, _, _, _, _, _, _, _, _, _, _, _, _, _, _, _, _, _, _, _, _, _, _, _, _, _] _
        obtain ⟨x5_, H, Hx1_⟩ := rounds_succ Ho
        have H : laws_eqByteS.b0 N a1 a3 x5 = some x5_ := H
        unfold laws_eqByteS.b0 at H
        refine g_seq ?_
        refine g_seq ?_
        refine g_region ?_
        show G _ _ _ (.inRegion _ [0, 1, 2, 3] :: _) _ _
        refine g_op (v := Value.int .i64 x5) rfl rfl rfl ?_
        show G _ _ _ _ [_, _, _, _, _, _, _, _, _, _, _, _, _, _, _, _, _, _, _, _, _, _, _, _, _, _] _
        refine g_op (v := v2) rfl rfl rfl ?_
        show G _ _ _ _ [_, _, _, _, _, _, _, _, _, _, _, _, _, _, _, _, _, _, _, _, _, _, _, _, _, _] _
        refine s_len (hs.rd hr0) rfl rfl rfl rfl rfl ?_
        show G _ _ _ _ [_, _, _, _, _, _, _, _, _, _, _, _, _, _, _, _, _, _, _, _, _, _, _, _, _, _] _
        refine g_op_b (B := decide (x5 < (a1.length : Int))) rfl rfl rfl ?_ ?_
        · intro hb
          rw [if_pos (b_dec_t hb)] at H
          show G _ _ _ _ [_, _, _, _, _, _, _, _, _, _, _, _, _, _, _, _, _, _, _, _, _, _, _, _, _, _] _
          refine g_ops_nil ?_
          refine g_cond_true rfl ?_
          refine g_skip ?_
          refine g_seq ?_
          refine g_block ?_
          refine g_seq ?_
          obtain ⟨gd1, H⟩ := ite_get H
          obtain ⟨ad2_, ad2_N, ad2_C, had2_⟩ := sl_at (hs.rd hr0) gd1.1 gd1.2
          obtain ⟨gd3, H⟩ := ite_get H
          obtain ⟨ad4_, ad4_N, ad4_C, had4_⟩ := sl_at (hs.rd hr1) gd3.1 gd3.2
          refine g_name ?_
          intro T hT
          refine g_any (n := 9) rfl [0, 1, 2, 3, 4, 5, 6, 7, 8] [0, 1, 2, 3, 4, 5, 6, 7, 8] rfl rfl (Inv := fun D t w => ∃ O : Nat → Value, t = [v2, v4, O 2, O 3, O 4, Value.int .i64 x5, O 6, O 7, O 8, O 9, O 10, Value.int .i64 x5, v2, Value.int .i64 (a1.length : Int), Value.bool true, O 15, O 16, cnd (D 0) v2 (O 17), cnd (D 1) (Value.int .i64 x5) (O 18), cnd (D 2) (Value.pointer (some (ad2_.add (x5.toNat * 1)))) (O 19), cnd (D 3) (Value.int .u8 (rdL a1 x5 0)) (O 20), cnd (D 4) v4 (O 21), cnd (D 5) (Value.int .i64 x5) (O 22), cnd (D 6) (Value.pointer (some (ad4_.add (x5.toNat * 1)))) (O 23), cnd (D 7) (Value.int .u8 (rdL a3 x5 0)) (O 24), cnd (D 8) (Value.bool ((rdL a1 x5 0) != (rdL a3 x5 0))) (O 25)] ∧ St w0 [] w) ?_ ⟨⟨⟨⟨⟨⟨⟨⟨⟨trivial, ?_⟩, ?_⟩, ?_⟩, ?_⟩, ?_⟩, ?_⟩, ?_⟩, ?_⟩, ?_⟩ ?_
          · intro w hh hbw
            have hs := hs.samew hh hbw
            exact ⟨fun i => T.getD i undef, (by subst hT; rfl), hs⟩
          · intro D t w hD hp hcl hI rest hk
            obtain ⟨O, ht, hs⟩ := hI
            have q2_ : D 2 = false := not_yet (hcl.get 2 (by decide)) 0 0 rfl hD
            have q3_ : D 3 = false := not_yet (hcl.get 3 (by decide)) 0 2 rfl q2_
            have q8_ : D 8 = false := not_yet (hcl.get 8 (by decide)) 0 3 rfl q3_
            have u0_ : upd D 0 0 = true := rfl
            have u1_ : upd D 0 1 = D 1 := rfl
            have u2_ : upd D 0 2 = D 2 := rfl
            have u3_ : upd D 0 3 = D 3 := rfl
            have u4_ : upd D 0 4 = D 4 := rfl
            have u5_ : upd D 0 5 = D 5 := rfl
            have u6_ : upd D 0 6 = D 6 := rfl
            have u7_ : upd D 0 7 = D 7 := rfl
            have u8_ : upd D 0 8 = D 8 := rfl
            simp only [hD, q2_, q3_, q8_, cnd_t, cnd_f, Asc_t, Asc_f] at ht hs
            subst ht
            refine g_op (v := v2) rfl rfl rfl ?_
            show G _ _ _ _ [_, _, _, _, _, _, _, _, _, _, _, _, _, _, _, _, _, _, _, _, _, _, _, _, _, _] _
            exact hk _ _ ⟨O, (by simp only [u0_, u1_, u2_, u3_, u4_, u5_, u6_, u7_, u8_, q2_, q3_, q8_, cnd_t, cnd_f, Asc_t, Asc_f]), hs.cast (by first | rfl | simp only [List.take, List.drop, List.cons_append, List.nil_append, List.set_cons_zero, List.set_cons_succ, List.eraseIdx, u0_, u1_, u2_, u3_, u4_, u5_, u6_, u7_, u8_, q2_, q3_, q8_, cnd_t, cnd_f, Asc_t, Asc_f])⟩
          · intro D t w hD hp hcl hI rest hk
            obtain ⟨O, ht, hs⟩ := hI
            have q2_ : D 2 = false := not_yet (hcl.get 2 (by decide)) 1 1 rfl hD
            have q3_ : D 3 = false := not_yet (hcl.get 3 (by decide)) 0 2 rfl q2_
            have q8_ : D 8 = false := not_yet (hcl.get 8 (by decide)) 0 3 rfl q3_
            have u0_ : upd D 1 0 = D 0 := rfl
            have u1_ : upd D 1 1 = true := rfl
            have u2_ : upd D 1 2 = D 2 := rfl
            have u3_ : upd D 1 3 = D 3 := rfl
            have u4_ : upd D 1 4 = D 4 := rfl
            have u5_ : upd D 1 5 = D 5 := rfl
            have u6_ : upd D 1 6 = D 6 := rfl
            have u7_ : upd D 1 7 = D 7 := rfl
            have u8_ : upd D 1 8 = D 8 := rfl
            simp only [hD, q2_, q3_, q8_, cnd_t, cnd_f, Asc_t, Asc_f] at ht hs
            subst ht
            refine g_op (v := Value.int .i64 x5) rfl rfl rfl ?_
            show G _ _ _ _ [_, _, _, _, _, _, _, _, _, _, _, _, _, _, _, _, _, _, _, _, _, _, _, _, _, _] _
            exact hk _ _ ⟨O, (by simp only [u0_, u1_, u2_, u3_, u4_, u5_, u6_, u7_, u8_, q2_, q3_, q8_, cnd_t, cnd_f, Asc_t, Asc_f]), hs.cast (by first | rfl | simp only [List.take, List.drop, List.cons_append, List.nil_append, List.set_cons_zero, List.set_cons_succ, List.eraseIdx, u0_, u1_, u2_, u3_, u4_, u5_, u6_, u7_, u8_, q2_, q3_, q8_, cnd_t, cnd_f, Asc_t, Asc_f])⟩
          · intro D t w hD hp hcl hI rest hk
            obtain ⟨O, ht, hs⟩ := hI
            obtain ⟨p0_, p1_, _⟩ := hp
            have q3_ : D 3 = false := not_yet (hcl.get 3 (by decide)) 0 2 rfl hD
            have q8_ : D 8 = false := not_yet (hcl.get 8 (by decide)) 0 3 rfl q3_
            have u0_ : upd D 2 0 = D 0 := rfl
            have u1_ : upd D 2 1 = D 1 := rfl
            have u2_ : upd D 2 2 = true := rfl
            have u3_ : upd D 2 3 = D 3 := rfl
            have u4_ : upd D 2 4 = D 4 := rfl
            have u5_ : upd D 2 5 = D 5 := rfl
            have u6_ : upd D 2 6 = D 6 := rfl
            have u7_ : upd D 2 7 = D 7 := rfl
            have u8_ : upd D 2 8 = D 8 := rfl
            simp only [hD, p0_, p1_, q3_, q8_, cnd_t, cnd_f, Asc_t, Asc_f] at ht hs
            subst ht
            refine s_idxD (κ := (K.int .u8)) (m := 1) rfl (hs.rd hr0) rfl (fun _ => rfl) gd1.1 gd1.2 had2_ rfl rfl rfl rfl rfl ?_
            show G _ _ _ _ [_, _, _, _, _, _, _, _, _, _, _, _, _, _, _, _, _, _, _, _, _, _, _, _, _, _] _
            exact hk _ _ ⟨O, (by simp only [u0_, u1_, u2_, u3_, u4_, u5_, u6_, u7_, u8_, p0_, p1_, q3_, q8_, cnd_t, cnd_f, Asc_t, Asc_f]), hs.cast (by first | rfl | simp only [List.take, List.drop, List.cons_append, List.nil_append, List.set_cons_zero, List.set_cons_succ, List.eraseIdx, u0_, u1_, u2_, u3_, u4_, u5_, u6_, u7_, u8_, p0_, p1_, q3_, q8_, cnd_t, cnd_f, Asc_t, Asc_f])⟩
          · intro D t w hD hp hcl hI rest hk
            obtain ⟨O, ht, hs⟩ := hI
            obtain ⟨p2_, _⟩ := hp
            obtain ⟨p0_, p1_, _⟩ := hcl.get 2 (by decide) p2_
            have q8_ : D 8 = false := not_yet (hcl.get 8 (by decide)) 0 3 rfl hD
            have u0_ : upd D 3 0 = D 0 := rfl
            have u1_ : upd D 3 1 = D 1 := rfl
            have u2_ : upd D 3 2 = D 2 := rfl
            have u3_ : upd D 3 3 = true := rfl
            have u4_ : upd D 3 4 = D 4 := rfl
            have u5_ : upd D 3 5 = D 5 := rfl
            have u6_ : upd D 3 6 = D 6 := rfl
            have u7_ : upd D 3 7 = D 7 := rfl
            have u8_ : upd D 3 8 = D 8 := rfl
            simp only [hD, p0_, p1_, p2_, q8_, cnd_t, cnd_f, Asc_t, Asc_f] at ht hs
            subst ht
            refine s_load1 rfl rfl (v := Value.int .u8 (rdL a1 x5 0)) rfl rfl (fun _ => rfl) (cellsAt_of (fkI .u8) 0 (hs.rd hr0) had2_ gd1.1 gd1.2) ?_
            show G _ _ _ _ [_, _, _, _, _, _, _, _, _, _, _, _, _, _, _, _, _, _, _, _, _, _, _, _, _, _] _
            exact hk _ _ ⟨O, (by simp only [u0_, u1_, u2_, u3_, u4_, u5_, u6_, u7_, u8_, p0_, p1_, p2_, q8_, cnd_t, cnd_f, Asc_t, Asc_f]), hs.cast (by first | rfl | simp only [List.take, List.drop, List.cons_append, List.nil_append, List.set_cons_zero, List.set_cons_succ, List.eraseIdx, u0_, u1_, u2_, u3_, u4_, u5_, u6_, u7_, u8_, p0_, p1_, p2_, q8_, cnd_t, cnd_f, Asc_t, Asc_f])⟩
          · intro D t w hD hp hcl hI rest hk
            obtain ⟨O, ht, hs⟩ := hI
            have q6_ : D 6 = false := not_yet (hcl.get 6 (by decide)) 0 4 rfl hD
            have q7_ : D 7 = false := not_yet (hcl.get 7 (by decide)) 0 6 rfl q6_
            have q8_ : D 8 = false := not_yet (hcl.get 8 (by decide)) 1 7 rfl q7_
            have u0_ : upd D 4 0 = D 0 := rfl
            have u1_ : upd D 4 1 = D 1 := rfl
            have u2_ : upd D 4 2 = D 2 := rfl
            have u3_ : upd D 4 3 = D 3 := rfl
            have u4_ : upd D 4 4 = true := rfl
            have u5_ : upd D 4 5 = D 5 := rfl
            have u6_ : upd D 4 6 = D 6 := rfl
            have u7_ : upd D 4 7 = D 7 := rfl
            have u8_ : upd D 4 8 = D 8 := rfl
            simp only [hD, q6_, q7_, q8_, cnd_t, cnd_f, Asc_t, Asc_f] at ht hs
            subst ht
            refine g_op (v := v4) rfl rfl rfl ?_
            show G _ _ _ _ [_, _, _, _, _, _, _, _, _, _, _, _, _, _, _, _, _, _, _, _, _, _, _, _, _, _] _
            exact hk _ _ ⟨O, (by simp only [u0_, u1_, u2_, u3_, u4_, u5_, u6_, u7_, u8_, q6_, q7_, q8_, cnd_t, cnd_f, Asc_t, Asc_f]), hs.cast (by first | rfl | simp only [List.take, List.drop, List.cons_append, List.nil_append, List.set_cons_zero, List.set_cons_succ, List.eraseIdx, u0_, u1_, u2_, u3_, u4_, u5_, u6_, u7_, u8_, q6_, q7_, q8_, cnd_t, cnd_f, Asc_t, Asc_f])⟩
          · intro D t w hD hp hcl hI rest hk
            obtain ⟨O, ht, hs⟩ := hI
            have q6_ : D 6 = false := not_yet (hcl.get 6 (by decide)) 1 5 rfl hD
            have q7_ : D 7 = false := not_yet (hcl.get 7 (by decide)) 0 6 rfl q6_
            have q8_ : D 8 = false := not_yet (hcl.get 8 (by decide)) 1 7 rfl q7_
            have u0_ : upd D 5 0 = D 0 := rfl
            have u1_ : upd D 5 1 = D 1 := rfl
            have u2_ : upd D 5 2 = D 2 := rfl
            have u3_ : upd D 5 3 = D 3 := rfl
            have u4_ : upd D 5 4 = D 4 := rfl
            have u5_ : upd D 5 5 = true := rfl
            have u6_ : upd D 5 6 = D 6 := rfl
            have u7_ : upd D 5 7 = D 7 := rfl
            have u8_ : upd D 5 8 = D 8 := rfl
            simp only [hD, q6_, q7_, q8_, cnd_t, cnd_f, Asc_t, Asc_f] at ht hs
            subst ht
            refine g_op (v := Value.int .i64 x5) rfl rfl rfl ?_
            show G _ _ _ _ [_, _, _, _, _, _, _, _, _, _, _, _, _, _, _, _, _, _, _, _, _, _, _, _, _, _] _
            exact hk _ _ ⟨O, (by simp only [u0_, u1_, u2_, u3_, u4_, u5_, u6_, u7_, u8_, q6_, q7_, q8_, cnd_t, cnd_f, Asc_t, Asc_f]), hs.cast (by first | rfl | simp only [List.take, List.drop, List.cons_append, List.nil_append, List.set_cons_zero, List.set_cons_succ, List.eraseIdx, u0_, u1_, u2_, u3_, u4_, u5_, u6_, u7_, u8_, q6_, q7_, q8_, cnd_t, cnd_f, Asc_t, Asc_f])⟩
          · intro D t w hD hp hcl hI rest hk
            obtain ⟨O, ht, hs⟩ := hI
            obtain ⟨p4_, p5_, _⟩ := hp
            have q7_ : D 7 = false := not_yet (hcl.get 7 (by decide)) 0 6 rfl hD
            have q8_ : D 8 = false := not_yet (hcl.get 8 (by decide)) 1 7 rfl q7_
            have u0_ : upd D 6 0 = D 0 := rfl
            have u1_ : upd D 6 1 = D 1 := rfl
            have u2_ : upd D 6 2 = D 2 := rfl
            have u3_ : upd D 6 3 = D 3 := rfl
            have u4_ : upd D 6 4 = D 4 := rfl
            have u5_ : upd D 6 5 = D 5 := rfl
            have u6_ : upd D 6 6 = true := rfl
            have u7_ : upd D 6 7 = D 7 := rfl
            have u8_ : upd D 6 8 = D 8 := rfl
            simp only [hD, p4_, p5_, q7_, q8_, cnd_t, cnd_f, Asc_t, Asc_f] at ht hs
            subst ht
            refine s_idxD (κ := (K.int .u8)) (m := 1) rfl (hs.rd hr1) rfl (fun _ => rfl) gd3.1 gd3.2 had4_ rfl rfl rfl rfl rfl ?_
            show G _ _ _ _ [_, _, _, _, _, _, _, _, _, _, _, _, _, _, _, _, _, _, _, _, _, _, _, _, _, _] _
            exact hk _ _ ⟨O, (by simp only [u0_, u1_, u2_, u3_, u4_, u5_, u6_, u7_, u8_, p4_, p5_, q7_, q8_, cnd_t, cnd_f, Asc_t, Asc_f]), hs.cast (by first | rfl | simp only [List.take, List.drop, List.cons_append, List.nil_append, List.set_cons_zero, List.set_cons_succ, List.eraseIdx, u0_, u1_, u2_, u3_, u4_, u5_, u6_, u7_, u8_, p4_, p5_, q7_, q8_, cnd_t, cnd_f, Asc_t, Asc_f])⟩
          · intro D t w hD hp hcl hI rest hk
            obtain ⟨O, ht, hs⟩ := hI
            obtain ⟨p6_, _⟩ := hp
            obtain ⟨p4_, p5_, _⟩ := hcl.get 6 (by decide) p6_
            have q8_ : D 8 = false := not_yet (hcl.get 8 (by decide)) 1 7 rfl hD
            have u0_ : upd D 7 0 = D 0 := rfl
            have u1_ : upd D 7 1 = D 1 := rfl
            have u2_ : upd D 7 2 = D 2 := rfl
            have u3_ : upd D 7 3 = D 3 := rfl
            have u4_ : upd D 7 4 = D 4 := rfl
            have u5_ : upd D 7 5 = D 5 := rfl
            have u6_ : upd D 7 6 = D 6 := rfl
            have u7_ : upd D 7 7 = true := rfl
            have u8_ : upd D 7 8 = D 8 := rfl
            simp only [hD, p4_, p5_, p6_, q8_, cnd_t, cnd_f, Asc_t, Asc_f] at ht hs
            subst ht
            refine s_load1 rfl rfl (v := Value.int .u8 (rdL a3 x5 0)) rfl rfl (fun _ => rfl) (cellsAt_of (fkI .u8) 0 (hs.rd hr1) had4_ gd3.1 gd3.2) ?_
            show G _ _ _ _ [_, _, _, _, _, _, _, _, _, _, _, _, _, _, _, _, _, _, _, _, _, _, _, _, _, _] _
            exact hk _ _ ⟨O, (by simp only [u0_, u1_, u2_, u3_, u4_, u5_, u6_, u7_, u8_, p4_, p5_, p6_, q8_, cnd_t, cnd_f, Asc_t, Asc_f]), hs.cast (by first | rfl | simp only [List.take, List.drop, List.cons_append, List.nil_append, List.set_cons_zero, List.set_cons_succ, List.eraseIdx, u0_, u1_, u2_, u3_, u4_, u5_, u6_, u7_, u8_, p4_, p5_, p6_, q8_, cnd_t, cnd_f, Asc_t, Asc_f])⟩
          · intro D t w hD hp hcl hI rest hk
            obtain ⟨O, ht, hs⟩ := hI
            obtain ⟨p3_, p7_, _⟩ := hp
            obtain ⟨p6_, _⟩ := hcl.get 7 (by decide) p7_
            obtain ⟨p4_, p5_, _⟩ := hcl.get 6 (by decide) p6_
            obtain ⟨p2_, _⟩ := hcl.get 3 (by decide) p3_
            obtain ⟨p0_, p1_, _⟩ := hcl.get 2 (by decide) p2_
            have u0_ : upd D 8 0 = D 0 := rfl
            have u1_ : upd D 8 1 = D 1 := rfl
            have u2_ : upd D 8 2 = D 2 := rfl
            have u3_ : upd D 8 3 = D 3 := rfl
            have u4_ : upd D 8 4 = D 4 := rfl
            have u5_ : upd D 8 5 = D 5 := rfl
            have u6_ : upd D 8 6 = D 6 := rfl
            have u7_ : upd D 8 7 = D 7 := rfl
            have u8_ : upd D 8 8 = true := rfl
            simp only [hD, p0_, p1_, p2_, p3_, p4_, p5_, p6_, p7_, cnd_t, cnd_f, Asc_t, Asc_f] at ht hs
            subst ht
            refine g_op (v := Value.bool ((rdL a1 x5 0) != (rdL a3 x5 0))) rfl rfl rfl ?_
            show G _ _ _ _ [_, _, _, _, _, _, _, _, _, _, _, _, _, _, _, _, _, _, _, _, _, _, _, _, _, _] _
            exact hk _ _ ⟨O, (by simp only [u0_, u1_, u2_, u3_, u4_, u5_, u6_, u7_, u8_, p0_, p1_, p2_, p3_, p4_, p5_, p6_, p7_, cnd_t, cnd_f, Asc_t, Asc_f]), hs.cast (by first | rfl | simp only [List.take, List.drop, List.cons_append, List.nil_append, List.set_cons_zero, List.set_cons_succ, List.eraseIdx, u0_, u1_, u2_, u3_, u4_, u5_, u6_, u7_, u8_, p0_, p1_, p2_, p3_, p4_, p5_, p6_, p7_, cnd_t, cnd_f, Asc_t, Asc_f])⟩
          · intro D t w hall hI
            obtain ⟨O, ht, hs⟩ := hI
            have p0_ := hall 0 (by decide)
            have p1_ := hall 1 (by decide)
            have p2_ := hall 2 (by decide)
            have p3_ := hall 3 (by decide)
            have p4_ := hall 4 (by decide)
            have p5_ := hall 5 (by decide)
            have p6_ := hall 6 (by decide)
            have p7_ := hall 7 (by decide)
            have p8_ := hall 8 (by decide)
            simp only [p0_, p1_, p2_, p3_, p4_, p5_, p6_, p7_, p8_, cnd_t, cnd_f, Asc_t, Asc_f] at ht hs
            subst ht
            refine g_cond_b (b := (rdL a1 x5 0) != (rdL a3 x5 0)) rfl ?_ ?_
            · intro hb
              rw [if_neg (b_bne_t hb)] at H
              refine g_seq ?_
              refine g_region ?_
              show G _ _ _ (.inRegion _ [0] :: _) _ _
              refine g_op (v := Value.bool false) rfl rfl rfl ?_
              show G _ _ _ _ [_, _, _, _, _, _, _, _, _, _, _, _, _, _, _, _, _, _, _, _, _, _, _, _, _, _] _
              refine g_ops_nil ?_
              obtain rfl := Option.some.inj H
              subst Hx1_
              have H := Option.some.inj Hr1_
              subst H
              refine g_ret Try.func20 (v := Value.bool false) (res1 rfl rfl) ?_
              have hs : St _ [] _ := St.take (Γ' := []) hs
              exact ⟨_, rfl, rfl, hs⟩
            · intro hb
              rw [if_pos (b_bne_f hb)] at H
              refine g_skip ?_
              refine g_inBlock ?_
              refine g_region ?_
              show G _ _ _ (.inRegion _ [0, 1, 2] :: _) _ _
              refine g_op (v := Value.int .i64 x5) rfl rfl rfl ?_
              show G _ _ _ _ [_, _, _, _, _, _, _, _, _, _, _, _, _, _, _, _, _, _, _, _, _, _, _, _, _, _] _
              refine g_op (v := Value.int .i64 (i64w (x5 + 1))) rfl rfl rfl ?_
              show G _ _ _ _ [_, _, _, _, _, _, _, _, _, _, _, _, _, _, _, _, _, _, _, _, _, _, _, _, _, _] _
              refine g_op (v := Value.int .i64 (i64w (x5 + 1))) rfl rfl rfl ?_
              show G _ _ _ _ [_, _, _, _, _, _, _, _, _, _, _, _, _, _, _, _, _, _, _, _, _, _, _, _, _, _] _
              refine g_ops_nil ?_
              obtain rfl := Option.some.inj H
              have hs : St _ [] _ := St.take (Γ' := []) hs
              exact ih1_ _ _ ⟨i64w (x5 + 1), Hx1_, rfl, hs⟩
        · intro hb
          rw [if_neg (b_dec_f hb)] at H
          show G _ _ _ _ [_, _, _, _, _, _, _, _, _, _, _, _, _, _, _, _, _, _, _, _, _, _, _, _, _, _] _
          refine g_ops_nil ?_
          refine g_cond_false rfl ?_
          obtain rfl := Option.some.inj H
          subst Hx1_
          have hs : St _ [] _ := St.take (Γ' := []) hs
          refine g_exit rfl ?_
          exact ha1_ _ _ ⟨Hr1_, rfl, hs⟩

end Go.Proofs.YtgachgjcnmeicaaX
