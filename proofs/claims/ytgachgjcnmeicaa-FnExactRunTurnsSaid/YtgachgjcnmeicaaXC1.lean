/- Contracts, printed by gen.py. -/
import Derived.Test.YtgachgjcnmeicaaXC0
namespace Go.Proofs.YtgachgjcnmeicaaX
open Go Go.RowKit Go.Proofs
set_option linter.unusedVariables false
set_option linter.unusedSimpArgs false
/- function 53 spec_l07Ok -/
def spec_l07Ok.post (w0 : World) (r : Bool) (v : Value) (w : World) : Prop := v = Value.bool r ∧ St w0 [] w
set_option maxHeartbeats 400000 in
set_option maxRecDepth 100000 in
theorem spec_l07Ok.calls {N : Nat} {a1 : (List Int)} {a3 : (Ar Int 4)} {v2 : Value} {w0 : World} {r : Bool} (hr0 : RdRow (K.int .i16) w0 v2 a1) (H : spec_l07Ok.f N a1 a3 = some r) :
    Calls Try.prog 53 #[v2, Value.agg ((encA (encI .i16)) a3).toArray] w0 fun e w => ∃ v, e = .returned v ∧ spec_l07Ok.post w0 r v w := by
  unfold spec_l07Ok.f at H
  have hs : St w0 [] w0 := St.refl w0
  refine calls_of_g (n := 31) Try.func53 rfl rfl ?_
  show G _ _ _ _ [_, _, _, _, _, _, _, _, _, _, _, _, _, _, _, _, _, _, _, _, _, _, _, _, _, _, _, _, _, _, _, _, _] _
  refine g_seq ?_
  refine g_region ?_
  show G _ _ _ (.inRegion _ [0, 1] :: _) _ _
  refine s_box hs rfl rfl (cs := ((encA (encI .i16)) a3)) rfl rfl ?_
  intro b4 w hs
  show G _ _ _ _ [_, _, _, _, _, _, _, _, _, _, _, _, _, _, _, _, _, _, _, _, _, _, _, _, _, _, _, _, _, _, _, _, _] _
  refine g_op (v := Value.bool false) rfl rfl rfl ?_
  show G _ _ _ _ [_, _, _, _, _, _, _, _, _, _, _, _, _, _, _, _, _, _, _, _, _, _, _, _, _, _, _, _, _, _, _, _, _] _
  refine g_ops_nil ?_
  refine g_seq ?_
  refine g_seq ?_
  refine g_region ?_
  show G _ _ _ (.inRegion _ [0, 1, 2] :: _) _ _
  refine g_op (v := v2) rfl rfl rfl ?_
  show G _ _ _ _ [_, _, _, _, _, _, _, _, _, _, _, _, _, _, _, _, _, _, _, _, _, _, _, _, _, _, _, _, _, _, _, _, _] _
  obtain ⟨r6, Hr6, H⟩ := bind_get H
  refine s_call (args := [v2]) rfl rfl (x_call rfl (callFunc_enter Try.func44 rfl rfl) rfl) (spec_l07States.calls (a1 := a1) (hs.rd hr0) Hr6) ?_
  rintro _ w ⟨rfl, hs2⟩
  have hs : St _ [_] _ := hs.call hs2
  show G _ _ _ _ [_, _, _, _, _, _, _, _, _, _, _, _, _, _, _, _, _, _, _, _, _, _, _, _, _, _, _, _, _, _, _, _, _] _
  refine g_op_b (B := r6 == 0) rfl rfl rfl ?_ ?_
  · intro hb
    rw [if_pos (b_beq_t hb)] at H
    show G _ _ _ _ [_, _, _, _, _, _, _, _, _, _, _, _, _, _, _, _, _, _, _, _, _, _, _, _, _, _, _, _, _, _, _, _, _] _
    refine g_ops_nil ?_
    refine g_cond_true rfl ?_
    refine g_seq ?_
    refine g_region ?_
    show G _ _ _ (.inRegion _ [0] :: _) _ _
    refine g_op (v := Value.bool false) rfl rfl rfl ?_
    show G _ _ _ _ [_, _, _, _, _, _, _, _, _, _, _, _, _, _, _, _, _, _, _, _, _, _, _, _, _, _, _, _, _, _, _, _, _] _
    refine g_ops_nil ?_
    obtain rfl := Option.some.inj H
    refine g_ret Try.func53 (v := Value.bool false) (res1 rfl rfl) ?_
    have hs : St _ [] _ := St.take (Γ' := [_]) hs
    exact ⟨_, rfl, rfl, hs⟩
  · intro hb
    rw [if_neg (b_beq_f hb)] at H
    show G _ _ _ _ [_, _, _, _, _, _, _, _, _, _, _, _, _, _, _, _, _, _, _, _, _, _, _, _, _, _, _, _, _, _, _, _, _] _
    refine g_ops_nil ?_
    refine g_cond_false rfl ?_
    refine g_skip ?_
    refine g_seq ?_
    refine g_seq ?_
    refine g_region ?_
    show G _ _ _ (.inRegion _ [0] :: _) _ _
    refine g_op (v := Value.int .i64 0) rfl rfl rfl ?_
    show G _ _ _ _ [_, _, _, _, _, _, _, _, _, _, _, _, _, _, _, _, _, _, _, _, _, _, _, _, _, _, _, _, _, _, _, _, _] _
    refine g_ops_nil ?_
    obtain ⟨o1_, Ho, Hr1_⟩ := bind_get H
    refine g_block_join (J := fun t w => spec_l07Ok.a0 N = some r ∧ Fr t (fun O => ([O 0, O 1, O 2, O 3, O 4, O 5, O 6, O 7, O 8, O 9, O 10, O 11, O 12, O 13, O 14, O 15, O 16, O 17, O 18, O 19, O 20, O 21, O 22, O 23, O 24, O 25, O 26, O 27, O 28, O 29, O 30, O 31, O 32] : List Value)) ∧ St w0 [] w) ?_ ?_
    · rintro t w ⟨H, hf, hs⟩
      obtain ⟨O, rfl⟩ := hf.open
      show G _ _ _ _ [_, _, _, _, _, _, _, _, _, _, _, _, _, _, _, _, _, _, _, _, _, _, _, _, _, _, _, _, _, _, _, _, _] _
      unfold spec_l07Ok.a0 at H
      refine g_seq ?_
      refine g_region ?_
      show G _ _ _ (.inRegion _ [0] :: _) _ _
      refine g_op (v := Value.bool true) rfl rfl rfl ?_
      show G _ _ _ _ [_, _, _, _, _, _, _, _, _, _, _, _, _, _, _, _, _, _, _, _, _, _, _, _, _, _, _, _, _, _, _, _, _] _
      refine g_ops_nil ?_
      obtain rfl := Option.some.inj H
      refine g_ret Try.func53 (v := Value.bool true) (res1 rfl rfl) ?_
      have hs : St _ [] _ := St.take (Γ' := []) hs
      exact ⟨_, rfl, rfl, hs⟩
    · intro ha1_
      have hs := hs.pull 0 rfl
      have hs : St _ [_] _ := St.take (Γ' := []) hs
      refine g_loop_fuel (I := fun n_ t w => ∃ x7 : Int, rounds (fun s => spec_l07Ok.b0 N a1 a3 s) n_ x7 = some o1_ ∧ Fr t (fun O => ([v2, O 1, O 2, Value.pointer (some ⟨b4, 0, none⟩), O 4, Value.int .i64 x7, O 6, O 7, O 8, O 9, O 10, O 11, O 12, O 13, O 14, O 15, O 16, O 17, O 18, O 19, O 20, O 21, O 22, O 23, O 24, O 25, O 26, O 27, O 28, O 29, O 30, O 31, O 32] : List Value)) ∧ St w0 [Cells b4 ((encA (encI .i16)) a3) 37] w) N ⟨0, Ho, rfl, hs⟩ ?_ ?_
      · rintro _ _ ⟨x7, h, _⟩
        exact rounds_zero h
      · intro n_ ih1_
        rintro t w ⟨x7, Ho, hf, hs⟩
        obtain ⟨O, rfl⟩ := hf.open
        show G _ _ _ _ [_, _, _, _, _, _, _, _, _, _, _, _, _, _, _, _, _, _, _, _, _, _, _, _, _, _, _, _, _, _, _, _, _] _
        obtain ⟨x4_, H, Hx1_⟩ := rounds_succ Ho
        have H : spec_l07Ok.b0 N a1 a3 x7 = some x4_ := H
        unfold spec_l07Ok.b0 at H
        refine g_seq ?_
        refine g_seq ?_
        refine g_region ?_
        show G _ _ _ (.inRegion _ [0, 1] :: _) _ _
        refine g_op (v := Value.int .i64 x7) rfl rfl rfl ?_
        show G _ _ _ _ [_, _, _, _, _, _, _, _, _, _, _, _, _, _, _, _, _, _, _, _, _, _, _, _, _, _, _, _, _, _, _, _, _] _
        refine g_op_b (B := decide (x7 < 4)) rfl rfl rfl ?_ ?_
        · intro hb
          rw [if_pos (b_dec_t hb)] at H
          show G _ _ _ _ [_, _, _, _, _, _, _, _, _, _, _, _, _, _, _, _, _, _, _, _, _, _, _, _, _, _, _, _, _, _, _, _, _] _
          refine g_ops_nil ?_
          refine g_cond_true rfl ?_
          refine g_skip ?_
          refine g_seq ?_
          refine g_block ?_
          refine g_seq ?_
          refine g_region ?_
          show G _ _ _ (.inRegion _ [0] :: _) _ _
          refine g_op (v := Value.int .i16 0) rfl rfl rfl ?_
          show G _ _ _ _ [_, _, _, _, _, _, _, _, _, _, _, _, _, _, _, _, _, _, _, _, _, _, _, _, _, _, _, _, _, _, _, _, _] _
          refine g_ops_nil ?_
          refine g_seq ?_
          refine g_seq ?_
          refine g_join2 (J := (fun t w => ∃ x9 : Int, spec_l07Ok.j2 N x7 a3 x9 = some x4_ ∧ Fr t (fun O => ([v2, O 1, O 2, Value.pointer (some ⟨b4, 0, none⟩), O 4, Value.int .i64 x7, Value.int .i16 x9, O 7, O 8, O 9, O 10, O 11, O 12, O 13, O 14, O 15, O 16, O 17, O 18, O 19, O 20, O 21, O 22, O 23, O 24, O 25, O 26, O 27, O 28, O 29, O 30, O 31, O 32] : List Value)) ∧ St w0 [Cells b4 ((encA (encI .i16)) a3) 37] w)) ?_ ?_
          · rintro t w ⟨x9, H, hf, hs⟩
            obtain ⟨O, rfl⟩ := hf.open
            show G _ _ _ _ [_, _, _, _, _, _, _, _, _, _, _, _, _, _, _, _, _, _, _, _, _, _, _, _, _, _, _, _, _, _, _, _, _] _
            unfold spec_l07Ok.j2 at H
            refine g_seq ?_
            refine g_region ?_
            show G _ _ _ (.inRegion _ [0, 1, 2, 3, 4, 5, 6, 7, 8, 9, 10] :: _) _ _
            refine g_op (v := Value.int .i64 x7) rfl rfl rfl ?_
            show G _ _ _ _ [_, _, _, _, _, _, _, _, _, _, _, _, _, _, _, _, _, _, _, _, _, _, _, _, _, _, _, _, _, _, _, _, _] _
            obtain ⟨g2, H⟩ := ite_get H
            refine s_idxA (n := x7) (m := 1) rfl (fun _ => rfl) g2.1 g2.2 rfl rfl rfl rfl rfl ?_
            show G _ _ _ _ [_, _, _, _, _, _, _, _, _, _, _, _, _, _, _, _, _, _, _, _, _, _, _, _, _, _, _, _, _, _, _, _, _] _
            refine s_load1 rfl rfl (v := Value.int .i16 (a3.get x7 0)) rfl rfl (fun _ => rfl) (by rw [Nat.zero_add]; exact cells_load (hs.cells 0 rfl) _ _ (encA_at (fkI .i16).len _ _ 0 g2.1 g2.2)) ?_
            show G _ _ _ _ [_, _, _, _, _, _, _, _, _, _, _, _, _, _, _, _, _, _, _, _, _, _, _, _, _, _, _, _, _, _, _, _, _] _
            refine g_op_b (B := decide ((a3.get x7 0) < 0)) rfl rfl rfl ?_ ?_
            · intro hb
              rw [if_pos (b_dec_t hb)] at H
              show G _ _ _ _ [_, _, _, _, _, _, _, _, _, _, _, _, _, _, _, _, _, _, _, _, _, _, _, _, _, _, _, _, _, _, _, _, _] _
              refine g_op (v := Value.bool true) rfl rfl rfl ?_
              show G _ _ _ _ [_, _, _, _, _, _, _, _, _, _, _, _, _, _, _, _, _, _, _, _, _, _, _, _, _, _, _, _, _, _, _, _, _] _
              refine g_op_not rfl rfl ?_
              show G _ _ _ _ [_, _, _, _, _, _, _, _, _, _, _, _, _, _, _, _, _, _, _, _, _, _, _, _, _, _, _, _, _, _, _, _, _] _
              refine g_op_not rfl rfl ?_
              show G _ _ _ _ [_, _, _, _, _, _, _, _, _, _, _, _, _, _, _, _, _, _, _, _, _, _, _, _, _, _, _, _, _, _, _, _, _] _
              refine g_op_not rfl rfl ?_
              show G _ _ _ _ [_, _, _, _, _, _, _, _, _, _, _, _, _, _, _, _, _, _, _, _, _, _, _, _, _, _, _, _, _, _, _, _, _] _
              refine g_op_not rfl rfl ?_
              show G _ _ _ _ [_, _, _, _, _, _, _, _, _, _, _, _, _, _, _, _, _, _, _, _, _, _, _, _, _, _, _, _, _, _, _, _, _] _
              refine g_op_not rfl rfl ?_
              show G _ _ _ _ [_, _, _, _, _, _, _, _, _, _, _, _, _, _, _, _, _, _, _, _, _, _, _, _, _, _, _, _, _, _, _, _, _] _
              refine g_op (v := Value.bool true) rfl rfl rfl ?_
              show G _ _ _ _ [_, _, _, _, _, _, _, _, _, _, _, _, _, _, _, _, _, _, _, _, _, _, _, _, _, _, _, _, _, _, _, _, _] _
              refine g_ops_nil ?_
              refine g_cond_true rfl ?_
              refine g_seq ?_
              refine g_region ?_
              show G _ _ _ (.inRegion _ [0] :: _) _ _
              refine g_op (v := Value.bool false) rfl rfl rfl ?_
              show G _ _ _ _ [_, _, _, _, _, _, _, _, _, _, _, _, _, _, _, _, _, _, _, _, _, _, _, _, _, _, _, _, _, _, _, _, _] _
              refine g_ops_nil ?_
              obtain rfl := Option.some.inj H
              subst Hx1_
              have H := Option.some.inj Hr1_
              subst H
              refine g_ret Try.func53 (v := Value.bool false) (res1 rfl rfl) ?_
              have hs : St _ [] _ := St.take (Γ' := [_]) hs
              exact ⟨_, rfl, rfl, hs⟩
            · intro hb
              rw [if_neg (b_dec_f hb)] at H
              show G _ _ _ _ [_, _, _, _, _, _, _, _, _, _, _, _, _, _, _, _, _, _, _, _, _, _, _, _, _, _, _, _, _, _, _, _, _] _
              refine g_op (v := Value.bool false) rfl rfl rfl ?_
              show G _ _ _ _ [_, _, _, _, _, _, _, _, _, _, _, _, _, _, _, _, _, _, _, _, _, _, _, _, _, _, _, _, _, _, _, _, _] _
              refine g_op (v := Value.int .i64 x7) rfl rfl rfl ?_
              show G _ _ _ _ [_, _, _, _, _, _, _, _, _, _, _, _, _, _, _, _, _, _, _, _, _, _, _, _, _, _, _, _, _, _, _, _, _] _
              obtain ⟨g3, H⟩ := ite_get H
              refine s_idxA (n := x7) (m := 1) rfl (fun _ => rfl) g3.1 g3.2 rfl rfl rfl rfl rfl ?_
              show G _ _ _ _ [_, _, _, _, _, _, _, _, _, _, _, _, _, _, _, _, _, _, _, _, _, _, _, _, _, _, _, _, _, _, _, _, _] _
              refine s_load1 rfl rfl (v := Value.int .i16 (a3.get x7 0)) rfl rfl (fun _ => rfl) (by rw [Nat.zero_add]; exact cells_load (hs.cells 0 rfl) _ _ (encA_at (fkI .i16).len _ _ 0 g3.1 g3.2)) ?_
              show G _ _ _ _ [_, _, _, _, _, _, _, _, _, _, _, _, _, _, _, _, _, _, _, _, _, _, _, _, _, _, _, _, _, _, _, _, _] _
              refine g_op (v := Value.int .i16 x9) rfl rfl rfl ?_
              show G _ _ _ _ [_, _, _, _, _, _, _, _, _, _, _, _, _, _, _, _, _, _, _, _, _, _, _, _, _, _, _, _, _, _, _, _, _] _
              refine g_op_b (B := decide ((a3.get x7 0) > x9)) rfl rfl rfl ?_ ?_
              · intro hb
                rw [if_pos (b_dec_t hb)] at H
                show G _ _ _ _ [_, _, _, _, _, _, _, _, _, _, _, _, _, _, _, _, _, _, _, _, _, _, _, _, _, _, _, _, _, _, _, _, _] _
                refine g_op (v := Value.bool true) rfl rfl rfl ?_
                show G _ _ _ _ [_, _, _, _, _, _, _, _, _, _, _, _, _, _, _, _, _, _, _, _, _, _, _, _, _, _, _, _, _, _, _, _, _] _
                refine g_ops_nil ?_
                refine g_cond_true rfl ?_
                refine g_seq ?_
                refine g_region ?_
                show G _ _ _ (.inRegion _ [0] :: _) _ _
                refine g_op (v := Value.bool false) rfl rfl rfl ?_
                show G _ _ _ _ [_, _, _, _, _, _, _, _, _, _, _, _, _, _, _, _, _, _, _, _, _, _, _, _, _, _, _, _, _, _, _, _, _] _
                refine g_ops_nil ?_
                obtain rfl := Option.some.inj H
                subst Hx1_
                have H := Option.some.inj Hr1_
                subst H
                refine g_ret Try.func53 (v := Value.bool false) (res1 rfl rfl) ?_
                have hs : St _ [] _ := St.take (Γ' := [_]) hs
                exact ⟨_, rfl, rfl, hs⟩
              · intro hb
                rw [if_neg (b_dec_f hb)] at H
                show G _ _ _ _ [_, _, _, _, _, _, _, _, _, _, _, _, _, _, _, _, _, _, _, _, _, _, _, _, _, _, _, _, _, _, _, _, _] _
                refine g_op (v := Value.bool false) rfl rfl rfl ?_
                show G _ _ _ _ [_, _, _, _, _, _, _, _, _, _, _, _, _, _, _, _, _, _, _, _, _, _, _, _, _, _, _, _, _, _, _, _, _] _
                refine g_ops_nil ?_
                refine g_cond_false rfl ?_
                refine g_skip ?_
                refine g_inBlock ?_
                refine g_region ?_
                show G _ _ _ (.inRegion _ [0, 1, 2] :: _) _ _
                refine g_op (v := Value.int .i64 x7) rfl rfl rfl ?_
                show G _ _ _ _ [_, _, _, _, _, _, _, _, _, _, _, _, _, _, _, _, _, _, _, _, _, _, _, _, _, _, _, _, _, _, _, _, _] _
                refine g_op (v := Value.int .i64 (i64w (x7 + 1))) rfl rfl rfl ?_
                show G _ _ _ _ [_, _, _, _, _, _, _, _, _, _, _, _, _, _, _, _, _, _, _, _, _, _, _, _, _, _, _, _, _, _, _, _, _] _
                refine g_op (v := Value.int .i64 (i64w (x7 + 1))) rfl rfl rfl ?_
                show G _ _ _ _ [_, _, _, _, _, _, _, _, _, _, _, _, _, _, _, _, _, _, _, _, _, _, _, _, _, _, _, _, _, _, _, _, _] _
                refine g_ops_nil ?_
                obtain rfl := Option.some.inj H
                have hs := hs.pull 0 rfl
                have hs : St _ [_] _ := St.take (Γ' := []) hs
                exact ih1_ _ _ ⟨i64w (x7 + 1), Hx1_, rfl, hs⟩
          · intro ha
            refine g_region ?_
            show G _ _ _ (.inRegion _ [0, 1, 2, 3] :: _) _ _
            refine g_op (v := Value.int .i64 x7) rfl rfl rfl ?_
            show G _ _ _ _ [_, _, _, _, _, _, _, _, _, _, _, _, _, _, _, _, _, _, _, _, _, _, _, _, _, _, _, _, _, _, _, _, _] _
            refine g_op (v := v2) rfl rfl rfl ?_
            show G _ _ _ _ [_, _, _, _, _, _, _, _, _, _, _, _, _, _, _, _, _, _, _, _, _, _, _, _, _, _, _, _, _, _, _, _, _] _
            refine s_len (hs.rd hr0) rfl rfl rfl rfl rfl ?_
            show G _ _ _ _ [_, _, _, _, _, _, _, _, _, _, _, _, _, _, _, _, _, _, _, _, _, _, _, _, _, _, _, _, _, _, _, _, _] _
            refine g_op_b (B := decide (x7 < (a1.length : Int))) rfl rfl rfl ?_ ?_
            · intro hb
              rw [if_pos (b_dec_t hb)] at H
              show G _ _ _ _ [_, _, _, _, _, _, _, _, _, _, _, _, _, _, _, _, _, _, _, _, _, _, _, _, _, _, _, _, _, _, _, _, _] _
              refine g_ops_nil ?_
              refine g_cond_true rfl ?_
              refine g_region ?_
              show G _ _ _ (.inRegion _ [0, 1, 2, 3, 4] :: _) _ _
              refine g_op (v := v2) rfl rfl rfl ?_
              show G _ _ _ _ [_, _, _, _, _, _, _, _, _, _, _, _, _, _, _, _, _, _, _, _, _, _, _, _, _, _, _, _, _, _, _, _, _] _
              refine g_op (v := Value.int .i64 x7) rfl rfl rfl ?_
              show G _ _ _ _ [_, _, _, _, _, _, _, _, _, _, _, _, _, _, _, _, _, _, _, _, _, _, _, _, _, _, _, _, _, _, _, _, _] _
              obtain ⟨g1, H⟩ := ite_get H
              refine s_idx (fkI .i16) 0 (hs.rd hr0) rfl (fun _ => rfl) g1.1 g1.2 rfl rfl rfl rfl rfl ?_
              intro p8 hp8 lp8 op8
              show G _ _ _ _ [_, _, _, _, _, _, _, _, _, _, _, _, _, _, _, _, _, _, _, _, _, _, _, _, _, _, _, _, _, _, _, _, _] _
              refine s_load1 rfl rfl (v := Value.int .i16 (rdL a1 x7 0)) rfl rfl (fun _ => rfl) hp8 ?_
              show G _ _ _ _ [_, _, _, _, _, _, _, _, _, _, _, _, _, _, _, _, _, _, _, _, _, _, _, _, _, _, _, _, _, _, _, _, _] _
              refine g_op (v := Value.int .i16 (rdL a1 x7 0)) rfl rfl rfl ?_
              show G _ _ _ _ [_, _, _, _, _, _, _, _, _, _, _, _, _, _, _, _, _, _, _, _, _, _, _, _, _, _, _, _, _, _, _, _, _] _
              refine g_ops_nil ?_
              have hs := hs.pull 0 rfl
              have hs : St _ [_] _ := St.take (Γ' := []) hs
              exact ha _ _ ⟨rdL a1 x7 0, H, rfl, hs⟩
            · intro hb
              rw [if_neg (b_dec_f hb)] at H
              show G _ _ _ _ [_, _, _, _, _, _, _, _, _, _, _, _, _, _, _, _, _, _, _, _, _, _, _, _, _, _, _, _, _, _, _, _, _] _
              refine g_ops_nil ?_
              refine g_cond_false rfl ?_
              refine g_skip ?_
              have hs := hs.pull 0 rfl
              have hs : St _ [_] _ := St.take (Γ' := []) hs
              exact ha _ _ ⟨0, H, rfl, hs⟩
        · intro hb
          rw [if_neg (b_dec_f hb)] at H
          show G _ _ _ _ [_, _, _, _, _, _, _, _, _, _, _, _, _, _, _, _, _, _, _, _, _, _, _, _, _, _, _, _, _, _, _, _, _] _
          refine g_ops_nil ?_
          refine g_cond_false rfl ?_
          obtain rfl := Option.some.inj H
          subst Hx1_
          have hs : St _ [] _ := St.take (Γ' := [_]) hs
          refine g_exit rfl ?_
          exact ha1_ _ _ ⟨Hr1_, rfl, hs⟩

/- function 59 spec_l07Sets -/
def spec_l07Sets.post (w0 : World) (r : Int) (v : Value) (w : World) : Prop := v = Value.int .i64 r ∧ St w0 [] w
set_option maxHeartbeats 400000 in
set_option maxRecDepth 100000 in
theorem spec_l07Sets.calls {N : Nat} {a1 : (List Int)} {v2 : Value} {w0 : World} {r : Int} (hr0 : RdRow (K.int .i16) w0 v2 a1) (H : spec_l07Sets.f N a1 = some r) :
    Calls Try.prog 59 #[v2] w0 fun e w => ∃ v, e = .returned v ∧ spec_l07Sets.post w0 r v w := by
  unfold spec_l07Sets.f at H
  have hs : St w0 [] w0 := St.refl w0
  refine calls_of_g (n := 6) Try.func59 rfl rfl ?_
  show G _ _ _ _ [_, _, _, _, _, _, _] _
  refine g_seq ?_
  refine g_region ?_
  show G _ _ _ (.inRegion _ [0] :: _) _ _
  refine g_op (v := Value.int .i64 0) rfl rfl rfl ?_
  show G _ _ _ _ [_, _, _, _, _, _, _] _
  refine g_ops_nil ?_
  refine g_seq ?_
  refine g_region ?_
  show G _ _ _ (.inRegion _ [0, 1, 2, 3, 4] :: _) _ _
  refine g_op (v := v2) rfl rfl rfl ?_
  show G _ _ _ _ [_, _, _, _, _, _, _] _
  refine s_len (hs.rd hr0) rfl rfl rfl rfl rfl ?_
  show G _ _ _ _ [_, _, _, _, _, _, _] _
  refine g_op (v := Value.int .u64 (u64w (a1.length : Int))) rfl rfl rfl ?_
  show G _ _ _ _ [_, _, _, _, _, _, _] _
  obtain ⟨g1, H⟩ := ite_get H
  refine g_op (v := Value.int .i64 (shlI .i64 1 (u64w (a1.length : Int)))) rfl rfl (x_shl rfl rfl rfl g1) ?_
  show G _ _ _ _ [_, _, _, _, _, _, _] _
  refine g_op (v := Value.int .i64 (shlI .i64 1 (u64w (a1.length : Int)))) rfl rfl rfl ?_
  show G _ _ _ _ [_, _, _, _, _, _, _] _
  refine g_ops_nil ?_
  obtain rfl := Option.some.inj H
  refine g_ret Try.func59 (v := Value.int .i64 (shlI .i64 1 (u64w (a1.length : Int)))) (res1 rfl rfl) ?_
  have hs : St _ [] _ := St.take (Γ' := []) hs
  exact ⟨_, rfl, rfl, hs⟩

/- function 60 spec_l07Turn -/
def spec_l07Turn.post (w0 : World) (r : (Ar Int 4)) (v : Value) (w : World) : Prop := v = Value.agg ((encA (encI .i16)) r).toArray ∧ St w0 [] w
set_option maxHeartbeats 400000 in
set_option maxRecDepth 100000 in
theorem spec_l07Turn.calls {N : Nat} {a1 : (List Int)} {a3 : (Ar Int 4)} {a4 : Int} {v2 : Value} {w0 : World} {r : (Ar Int 4)} (hr0 : RdRow (K.int .i16) w0 v2 a1) (H : spec_l07Turn.f N a1 a3 a4 = some r) :
    Calls Try.prog 60 #[v2, Value.agg ((encA (encI .i16)) a3).toArray, Value.int .u8 a4] w0 fun e w => ∃ v, e = .returned v ∧ spec_l07Turn.post w0 r v w := by
  unfold spec_l07Turn.f at H
  have hs : St w0 [] w0 := St.refl w0
  refine calls_of_g (n := 28) Try.func60 rfl rfl ?_
  show G _ _ _ _ [_, _, _, _, _, _, _, _, _, _, _, _, _, _, _, _, _, _, _, _, _, _, _, _, _, _, _, _, _, _, _] _
  refine g_seq ?_
  refine g_region ?_
  show G _ _ _ (.inRegion _ [0, 1] :: _) _ _
  refine s_box hs rfl rfl (cs := ((encA (encI .i16)) a3)) rfl rfl ?_
  intro b5 w hs
  show G _ _ _ _ [_, _, _, _, _, _, _, _, _, _, _, _, _, _, _, _, _, _, _, _, _, _, _, _, _, _, _, _, _, _, _] _
  refine s_alloc hs rfl rfl (z := (Value.agg #[Value.int .i16 0, Value.int .i16 0, Value.int .i16 0, Value.int .i16 0])) (cs := ((encA (encI .i16)) (Ar.rep 4 0))) rfl (fun _ => rfl) rfl ?_
  intro b7 w hs
  show G _ _ _ _ [_, _, _, _, _, _, _, _, _, _, _, _, _, _, _, _, _, _, _, _, _, _, _, _, _, _, _, _, _, _, _] _
  refine g_ops_nil ?_
  refine g_seq ?_
  refine g_seq ?_
  refine g_region ?_
  show G _ _ _ (.inRegion _ [0] :: _) _ _
  refine g_op (v := Value.int .i64 0) rfl rfl rfl ?_
  show G _ _ _ _ [_, _, _, _, _, _, _, _, _, _, _, _, _, _, _, _, _, _, _, _, _, _, _, _, _, _, _, _, _, _, _] _
  refine g_ops_nil ?_
  obtain ⟨o1_, Ho, Hr1_⟩ := bind_get H
  refine g_block_join (J := fun t w => ∃ x14 : (Ar Int 4), spec_l07Turn.a0 N x14 = some r ∧ Fr t (fun O => ([O 0, O 1, O 2, O 3, Value.pointer (some ⟨b5, 0, none⟩), O 5, Value.pointer (some ⟨b7, 0, none⟩), O 7, O 8, O 9, O 10, O 11, O 12, O 13, O 14, O 15, O 16, O 17, O 18, O 19, O 20, O 21, O 22, O 23, O 24, O 25, O 26, O 27, O 28, O 29, O 30] : List Value)) ∧ St w0 [Cells b5 ((encA (encI .i16)) x14) 37, Cells b7 ((encA (encI .i16)) (Ar.rep 4 0)) 37] w) ?_ ?_
  · rintro t w ⟨x14, H, hf, hs⟩
    obtain ⟨O, rfl⟩ := hf.open
    show G _ _ _ _ [_, _, _, _, _, _, _, _, _, _, _, _, _, _, _, _, _, _, _, _, _, _, _, _, _, _, _, _, _, _, _] _
    unfold spec_l07Turn.a0 at H
    refine g_seq ?_
    refine g_region ?_
    show G _ _ _ (.inRegion _ [0, 1] :: _) _ _
    refine s_loadA rfl rfl (es := ((encA (encI .i16)) x14)) rfl rfl (fun _ => rfl) (n := 4) (fun _ => rfl) ((fkA (n := 4) (he := (fkI .i16).len) (h1 := (fkI .i16).one)).len _) (cells_all (hs.cells 0 rfl)) ?_
    show G _ _ _ _ [_, _, _, _, _, _, _, _, _, _, _, _, _, _, _, _, _, _, _, _, _, _, _, _, _, _, _, _, _, _, _] _
    have hs := hs.pull 1 rfl
    have hs : St _ [_, _] _ := hs
    refine s_storeAll (n := 4) hs ((fkA (n := 4) (he := (fkI .i16).len) (h1 := (fkI .i16).one)).len _) rfl rfl (vs := ((encA (encI .i16)) x14)) rfl rfl rfl (fun _ => rfl) ((fkA (n := 4) (he := (fkI .i16).len) (h1 := (fkI .i16).one)).len _) ((fkA (n := 4) (he := (fkI .i16).len) (h1 := (fkI .i16).one)).one _) ?_
    intro w hs
    refine g_ops_nil ?_
    obtain rfl := Option.some.inj H
    refine g_ret Try.func60 (v := Value.agg ((encA (encI .i16)) x14).toArray) (resC rfl ⟨⟨_, rfl, (run_loadVar_agg (es := ((encA (encI .i16)) x14)) rfl (congrArg (Result.ok · _) ((fkA (n := 4) (he := (fkI .i16).len) (h1 := (fkI .i16).one)).len _).symm) (cells_all (hs.cells 0 rfl)))⟩, trivial⟩) ?_
    have hs : St _ [] _ := St.take (Γ' := [_, _]) hs
    exact ⟨_, rfl, rfl, hs⟩
  · intro ha1_
    have hs := hs.pull 0 rfl
    have hs := hs.pull 1 rfl
    have hs : St _ [_, _] _ := St.take (Γ' := []) hs
    refine g_loop_fuel (I := fun n_ t w => ∃ x11 : (Ar Int 4), ∃ x12 : Int, rounds (fun s => spec_l07Turn.b0 N a1 a4 s.1 s.2) n_ (x11, x12) = some o1_ ∧ Fr t (fun O => ([v2, O 1, Value.int .u8 a4, O 3, Value.pointer (some ⟨b5, 0, none⟩), O 5, Value.pointer (some ⟨b7, 0, none⟩), Value.int .i64 x12, O 8, O 9, O 10, O 11, O 12, O 13, O 14, O 15, O 16, O 17, O 18, O 19, O 20, O 21, O 22, O 23, O 24, O 25, O 26, O 27, O 28, O 29, O 30] : List Value)) ∧ St w0 [Cells b5 ((encA (encI .i16)) x11) 37, Cells b7 ((encA (encI .i16)) (Ar.rep 4 0)) 37] w) N ⟨a3, 0, Ho, rfl, hs⟩ ?_ ?_
    · rintro _ _ ⟨x11, x12, h, _⟩
      exact rounds_zero h
    · intro n_ ih1_
      rintro t w ⟨x11, x12, Ho, hf, hs⟩
      obtain ⟨O, rfl⟩ := hf.open
      show G _ _ _ _ [_, _, _, _, _, _, _, _, _, _, _, _, _, _, _, _, _, _, _, _, _, _, _, _, _, _, _, _, _, _, _] _
      obtain ⟨x11_, H, Hx1_⟩ := rounds_succ Ho
      have H : spec_l07Turn.b0 N a1 a4 x11 x12 = some x11_ := H
      unfold spec_l07Turn.b0 at H
      refine g_seq ?_
      refine g_seq ?_
      refine g_region ?_
      show G _ _ _ (.inRegion _ [0, 1, 2, 3] :: _) _ _
      refine g_op (v := Value.int .i64 x12) rfl rfl rfl ?_
      show G _ _ _ _ [_, _, _, _, _, _, _, _, _, _, _, _, _, _, _, _, _, _, _, _, _, _, _, _, _, _, _, _, _, _, _] _
      refine g_op (v := v2) rfl rfl rfl ?_
      show G _ _ _ _ [_, _, _, _, _, _, _, _, _, _, _, _, _, _, _, _, _, _, _, _, _, _, _, _, _, _, _, _, _, _, _] _
      refine s_len (hs.rd hr0) rfl rfl rfl rfl rfl ?_
      show G _ _ _ _ [_, _, _, _, _, _, _, _, _, _, _, _, _, _, _, _, _, _, _, _, _, _, _, _, _, _, _, _, _, _, _] _
      refine g_op_b (B := decide (x12 < (a1.length : Int))) rfl rfl rfl ?_ ?_
      · intro hb
        rw [if_pos (b_dec_t hb)] at H
        show G _ _ _ _ [_, _, _, _, _, _, _, _, _, _, _, _, _, _, _, _, _, _, _, _, _, _, _, _, _, _, _, _, _, _, _] _
        refine g_ops_nil ?_
        refine g_cond_true rfl ?_
        refine g_skip ?_
        refine g_seq ?_
        refine g_block_join (J := (fun t w => ∃ x13 : (Ar Int 4), spec_l07Turn.j2 N x12 x13 = some x11_ ∧ Fr t (fun O => ([v2, O 1, Value.int .u8 a4, O 3, Value.pointer (some ⟨b5, 0, none⟩), O 5, Value.pointer (some ⟨b7, 0, none⟩), Value.int .i64 x12, O 8, O 9, O 10, O 11, O 12, O 13, O 14, O 15, O 16, O 17, O 18, O 19, O 20, O 21, O 22, O 23, O 24, O 25, O 26, O 27, O 28, O 29, O 30] : List Value)) ∧ St w0 [Cells b5 ((encA (encI .i16)) x13) 37, Cells b7 ((encA (encI .i16)) (Ar.rep 4 0)) 37] w)) ?_ ?_
        · rintro t w ⟨x13, H, hf, hs⟩
          obtain ⟨O, rfl⟩ := hf.open
          show G _ _ _ _ [_, _, _, _, _, _, _, _, _, _, _, _, _, _, _, _, _, _, _, _, _, _, _, _, _, _, _, _, _, _, _] _
          unfold spec_l07Turn.j2 at H
          refine g_region ?_
          show G _ _ _ (.inRegion _ [0, 1, 2] :: _) _ _
          refine g_op (v := Value.int .i64 x12) rfl rfl rfl ?_
          show G _ _ _ _ [_, _, _, _, _, _, _, _, _, _, _, _, _, _, _, _, _, _, _, _, _, _, _, _, _, _, _, _, _, _, _] _
          refine g_op (v := Value.int .i64 (i64w (x12 + 1))) rfl rfl rfl ?_
          show G _ _ _ _ [_, _, _, _, _, _, _, _, _, _, _, _, _, _, _, _, _, _, _, _, _, _, _, _, _, _, _, _, _, _, _] _
          refine g_op (v := Value.int .i64 (i64w (x12 + 1))) rfl rfl rfl ?_
          show G _ _ _ _ [_, _, _, _, _, _, _, _, _, _, _, _, _, _, _, _, _, _, _, _, _, _, _, _, _, _, _, _, _, _, _] _
          refine g_ops_nil ?_
          obtain rfl := Option.some.inj H
          have hs := hs.pull 1 rfl
          have hs := hs.pull 1 rfl
          have hs : St _ [_, _] _ := St.take (Γ' := []) hs
          exact ih1_ _ _ ⟨x13, i64w (x12 + 1), Hx1_, rfl, hs⟩
        · intro ha
          refine g_seq ?_
          refine g_region ?_
          show G _ _ _ (.inRegion _ [0, 1, 2, 3, 4, 5] :: _) _ _
          refine g_op (v := Value.int .u8 a4) rfl rfl rfl ?_
          show G _ _ _ _ [_, _, _, _, _, _, _, _, _, _, _, _, _, _, _, _, _, _, _, _, _, _, _, _, _, _, _, _, _, _, _] _
          refine g_op (v := Value.int .i64 x12) rfl rfl rfl ?_
          show G _ _ _ _ [_, _, _, _, _, _, _, _, _, _, _, _, _, _, _, _, _, _, _, _, _, _, _, _, _, _, _, _, _, _, _] _
          refine g_op (v := Value.int .u64 (u64w x12)) rfl rfl rfl ?_
          show G _ _ _ _ [_, _, _, _, _, _, _, _, _, _, _, _, _, _, _, _, _, _, _, _, _, _, _, _, _, _, _, _, _, _, _] _
          obtain ⟨g6, H⟩ := ite_get H
          refine g_op (v := Value.int .u8 (shrI .u8 a4 (u64w x12))) rfl rfl (x_shr rfl rfl rfl g6) ?_
          show G _ _ _ _ [_, _, _, _, _, _, _, _, _, _, _, _, _, _, _, _, _, _, _, _, _, _, _, _, _, _, _, _, _, _, _] _
          refine g_op (v := Value.int .u8 ((shrI .u8 a4 (u64w x12)).tmod 2)) rfl rfl rfl ?_
          show G _ _ _ _ [_, _, _, _, _, _, _, _, _, _, _, _, _, _, _, _, _, _, _, _, _, _, _, _, _, _, _, _, _, _, _] _
          refine g_op_b (B := ((shrI .u8 a4 (u64w x12)).tmod 2) == 1) rfl rfl rfl ?_ ?_
          · intro hb
            rw [if_pos (b_beq_t hb)] at H
            show G _ _ _ _ [_, _, _, _, _, _, _, _, _, _, _, _, _, _, _, _, _, _, _, _, _, _, _, _, _, _, _, _, _, _, _] _
            refine g_ops_nil ?_
            refine g_cond_true rfl ?_
            obtain ⟨gd7, H⟩ := ite_get H
            obtain ⟨ad8_, ad8_N, ad8_C, had8_⟩ := sl_at (hs.rd hr0) gd7.1 gd7.2
            obtain ⟨gd9, H⟩ := ite_get H
            obtain ⟨gd10, H⟩ := ite_get H
            refine g_name ?_
            intro T hT
            refine g_any (n := 11) rfl [0, 1, 2, 3, 4, 5, 6, 7, 8, 9, 10] [0, 1, 2, 3, 4, 5, 6, 7, 8, 9, 10] rfl rfl (Inv := fun D t w => ∃ O : Nat → Value, t = [v2, O 1, Value.int .u8 a4, O 3, Value.pointer (some ⟨b5, 0, none⟩), O 5, Value.pointer (some ⟨b7, 0, none⟩), Value.int .i64 x12, Value.int .i64 x12, v2, Value.int .i64 (a1.length : Int), Value.bool true, O 12, O 13, Value.int .u8 a4, Value.int .i64 x12, Value.int .u64 (u64w x12), Value.int .u8 (shrI .u8 a4 (u64w x12)), Value.int .u8 ((shrI .u8 a4 (u64w x12)).tmod 2), Value.bool true, cnd (D 0) (Value.int .i64 x12) (O 20), cnd (D 1) v2 (O 21), cnd (D 2) (Value.int .i64 x12) (O 22), cnd (D 3) (Value.pointer (some (ad8_.add (x12.toNat * 1)))) (O 23), cnd (D 4) (Value.int .i16 (rdL a1 x12 0)) (O 24), cnd (D 5) (Value.int .i64 x12) (O 25), cnd (D 6) (Value.pointer (some ⟨b5, 0 + x12.toNat * 1, none⟩)) (O 26), cnd (D 7) (Value.int .i16 (x11.get x12 0)) (O 27), cnd (D 8) (Value.int .i16 (i16w ((rdL a1 x12 0) - (x11.get x12 0)))) (O 28), cnd (D 9) (Value.pointer (some ⟨b5, 0 + x12.toNat * 1, none⟩)) (O 29), O 30] ∧ St w0 [Cells b5 (cnd (D 10) ((encA (encI .i16)) (x11.set x12 (i16w ((rdL a1 x12 0) - (x11.get x12 0))))) ((encA (encI .i16)) x11)) 37, Cells b7 ((encA (encI .i16)) (Ar.rep 4 0)) 37] w) ?_ ⟨⟨⟨⟨⟨⟨⟨⟨⟨⟨⟨trivial, ?_⟩, ?_⟩, ?_⟩, ?_⟩, ?_⟩, ?_⟩, ?_⟩, ?_⟩, ?_⟩, ?_⟩, ?_⟩ ?_
            · intro w hh hbw
              have hs := hs.samew hh hbw
              exact ⟨fun i => T.getD i undef, (by subst hT; rfl), hs⟩
            · intro D t w hD hp hcl hI rest hk
              obtain ⟨O, ht, hs⟩ := hI
              have q9_ : D 9 = false := not_yet (hcl.get 9 (by decide)) 0 0 rfl hD
              have q10_ : D 10 = false := not_yet (hcl.get 10 (by decide)) 0 9 rfl q9_
              have u0_ : upd D 0 0 = true := rfl
              have u1_ : upd D 0 1 = D 1 := rfl
              have u2_ : upd D 0 2 = D 2 := rfl
              have u3_ : upd D 0 3 = D 3 := rfl
              have u4_ : upd D 0 4 = D 4 := rfl
              have u5_ : upd D 0 5 = D 5 := rfl
              have u6_ : upd D 0 6 = D 6 := rfl
              have u7_ : upd D 0 7 = D 7 := rfl
              have u8_ : upd D 0 8 = D 8 := rfl
              have u9_ : upd D 0 9 = D 9 := rfl
              have u10_ : upd D 0 10 = D 10 := rfl
              simp only [hD, q9_, q10_, cnd_t, cnd_f, Asc_t, Asc_f] at ht hs
              subst ht
              refine g_op (v := Value.int .i64 x12) rfl rfl rfl ?_
              show G _ _ _ _ [_, _, _, _, _, _, _, _, _, _, _, _, _, _, _, _, _, _, _, _, _, _, _, _, _, _, _, _, _, _, _] _
              exact hk _ _ ⟨O, (by simp only [u0_, u1_, u2_, u3_, u4_, u5_, u6_, u7_, u8_, u9_, u10_, q9_, q10_, cnd_t, cnd_f, Asc_t, Asc_f]), hs.cast (by first | rfl | simp only [List.take, List.drop, List.cons_append, List.nil_append, List.set_cons_zero, List.set_cons_succ, List.eraseIdx, u0_, u1_, u2_, u3_, u4_, u5_, u6_, u7_, u8_, u9_, u10_, q9_, q10_, cnd_t, cnd_f, Asc_t, Asc_f])⟩
            · intro D t w hD hp hcl hI rest hk
              obtain ⟨O, ht, hs⟩ := hI
              have q3_ : D 3 = false := not_yet (hcl.get 3 (by decide)) 0 1 rfl hD
              have q4_ : D 4 = false := not_yet (hcl.get 4 (by decide)) 0 3 rfl q3_
              have q8_ : D 8 = false := not_yet (hcl.get 8 (by decide)) 0 4 rfl q4_
              have q9_ : D 9 = false := not_yet (hcl.get 9 (by decide)) 2 1 rfl hD
              have q10_ : D 10 = false := not_yet (hcl.get 10 (by decide)) 0 9 rfl q9_
              have u0_ : upd D 1 0 = D 0 := rfl
              have u1_ : upd D 1 1 = true := rfl
              have u2_ : upd D 1 2 = D 2 := rfl
              have u3_ : upd D 1 3 = D 3 := rfl
              have u4_ : upd D 1 4 = D 4 := rfl
              have u5_ : upd D 1 5 = D 5 := rfl
              have u6_ : upd D 1 6 = D 6 := rfl
              have u7_ : upd D 1 7 = D 7 := rfl
              have u8_ : upd D 1 8 = D 8 := rfl
              have u9_ : upd D 1 9 = D 9 := rfl
              have u10_ : upd D 1 10 = D 10 := rfl
              simp only [hD, q3_, q4_, q8_, q9_, q10_, cnd_t, cnd_f, Asc_t, Asc_f] at ht hs
              subst ht
              refine g_op (v := v2) rfl rfl rfl ?_
              show G _ _ _ _ [_, _, _, _, _, _, _, _, _, _, _, _, _, _, _, _, _, _, _, _, _, _, _, _, _, _, _, _, _, _, _] _
              exact hk _ _ ⟨O, (by simp only [u0_, u1_, u2_, u3_, u4_, u5_, u6_, u7_, u8_, u9_, u10_, q3_, q4_, q8_, q9_, q10_, cnd_t, cnd_f, Asc_t, Asc_f]), hs.cast (by first | rfl | simp only [List.take, List.drop, List.cons_append, List.nil_append, List.set_cons_zero, List.set_cons_succ, List.eraseIdx, u0_, u1_, u2_, u3_, u4_, u5_, u6_, u7_, u8_, u9_, u10_, q3_, q4_, q8_, q9_, q10_, cnd_t, cnd_f, Asc_t, Asc_f])⟩
            · intro D t w hD hp hcl hI rest hk
              obtain ⟨O, ht, hs⟩ := hI
              have q3_ : D 3 = false := not_yet (hcl.get 3 (by decide)) 1 2 rfl hD
              have q4_ : D 4 = false := not_yet (hcl.get 4 (by decide)) 0 3 rfl q3_
              have q8_ : D 8 = false := not_yet (hcl.get 8 (by decide)) 0 4 rfl q4_
              have q9_ : D 9 = false := not_yet (hcl.get 9 (by decide)) 3 2 rfl hD
              have q10_ : D 10 = false := not_yet (hcl.get 10 (by decide)) 0 9 rfl q9_
              have u0_ : upd D 2 0 = D 0 := rfl
              have u1_ : upd D 2 1 = D 1 := rfl
              have u2_ : upd D 2 2 = true := rfl
              have u3_ : upd D 2 3 = D 3 := rfl
              have u4_ : upd D 2 4 = D 4 := rfl
              have u5_ : upd D 2 5 = D 5 := rfl
              have u6_ : upd D 2 6 = D 6 := rfl
              have u7_ : upd D 2 7 = D 7 := rfl
              have u8_ : upd D 2 8 = D 8 := rfl
              have u9_ : upd D 2 9 = D 9 := rfl
              have u10_ : upd D 2 10 = D 10 := rfl
              simp only [hD, q3_, q4_, q8_, q9_, q10_, cnd_t, cnd_f, Asc_t, Asc_f] at ht hs
              subst ht
              refine g_op (v := Value.int .i64 x12) rfl rfl rfl ?_
              show G _ _ _ _ [_, _, _, _, _, _, _, _, _, _, _, _, _, _, _, _, _, _, _, _, _, _, _, _, _, _, _, _, _, _, _] _
              exact hk _ _ ⟨O, (by simp only [u0_, u1_, u2_, u3_, u4_, u5_, u6_, u7_, u8_, u9_, u10_, q3_, q4_, q8_, q9_, q10_, cnd_t, cnd_f, Asc_t, Asc_f]), hs.cast (by first | rfl | simp only [List.take, List.drop, List.cons_append, List.nil_append, List.set_cons_zero, List.set_cons_succ, List.eraseIdx, u0_, u1_, u2_, u3_, u4_, u5_, u6_, u7_, u8_, u9_, u10_, q3_, q4_, q8_, q9_, q10_, cnd_t, cnd_f, Asc_t, Asc_f])⟩
            · intro D t w hD hp hcl hI rest hk
              obtain ⟨O, ht, hs⟩ := hI
              obtain ⟨p1_, p2_, _⟩ := hp
              have q4_ : D 4 = false := not_yet (hcl.get 4 (by decide)) 0 3 rfl hD
              have q8_ : D 8 = false := not_yet (hcl.get 8 (by decide)) 0 4 rfl q4_
              have q9_ : D 9 = false := not_yet (hcl.get 9 (by decide)) 4 3 rfl hD
              have q10_ : D 10 = false := not_yet (hcl.get 10 (by decide)) 0 9 rfl q9_
              have u0_ : upd D 3 0 = D 0 := rfl
              have u1_ : upd D 3 1 = D 1 := rfl
              have u2_ : upd D 3 2 = D 2 := rfl
              have u3_ : upd D 3 3 = true := rfl
              have u4_ : upd D 3 4 = D 4 := rfl
              have u5_ : upd D 3 5 = D 5 := rfl
              have u6_ : upd D 3 6 = D 6 := rfl
              have u7_ : upd D 3 7 = D 7 := rfl
              have u8_ : upd D 3 8 = D 8 := rfl
              have u9_ : upd D 3 9 = D 9 := rfl
              have u10_ : upd D 3 10 = D 10 := rfl
              simp only [hD, p1_, p2_, q4_, q8_, q9_, q10_, cnd_t, cnd_f, Asc_t, Asc_f] at ht hs
              subst ht
              refine s_idxD (κ := (K.int .i16)) (m := 1) rfl (hs.rd hr0) rfl (fun _ => rfl) gd7.1 gd7.2 had8_ rfl rfl rfl rfl rfl ?_
              show G _ _ _ _ [_, _, _, _, _, _, _, _, _, _, _, _, _, _, _, _, _, _, _, _, _, _, _, _, _, _, _, _, _, _, _] _
              exact hk _ _ ⟨O, (by simp only [u0_, u1_, u2_, u3_, u4_, u5_, u6_, u7_, u8_, u9_, u10_, p1_, p2_, q4_, q8_, q9_, q10_, cnd_t, cnd_f, Asc_t, Asc_f]), hs.cast (by first | rfl | simp only [List.take, List.drop, List.cons_append, List.nil_append, List.set_cons_zero, List.set_cons_succ, List.eraseIdx, u0_, u1_, u2_, u3_, u4_, u5_, u6_, u7_, u8_, u9_, u10_, p1_, p2_, q4_, q8_, q9_, q10_, cnd_t, cnd_f, Asc_t, Asc_f])⟩
            · intro D t w hD hp hcl hI rest hk
              obtain ⟨O, ht, hs⟩ := hI
              obtain ⟨p3_, _⟩ := hp
              obtain ⟨p1_, p2_, _⟩ := hcl.get 3 (by decide) p3_
              have q8_ : D 8 = false := not_yet (hcl.get 8 (by decide)) 0 4 rfl hD
              have q9_ : D 9 = false := not_yet (hcl.get 9 (by decide)) 5 4 rfl hD
              have q10_ : D 10 = false := not_yet (hcl.get 10 (by decide)) 0 9 rfl q9_
              have u0_ : upd D 4 0 = D 0 := rfl
              have u1_ : upd D 4 1 = D 1 := rfl
              have u2_ : upd D 4 2 = D 2 := rfl
              have u3_ : upd D 4 3 = D 3 := rfl
              have u4_ : upd D 4 4 = true := rfl
              have u5_ : upd D 4 5 = D 5 := rfl
              have u6_ : upd D 4 6 = D 6 := rfl
              have u7_ : upd D 4 7 = D 7 := rfl
              have u8_ : upd D 4 8 = D 8 := rfl
              have u9_ : upd D 4 9 = D 9 := rfl
              have u10_ : upd D 4 10 = D 10 := rfl
              simp only [hD, p1_, p2_, p3_, q8_, q9_, q10_, cnd_t, cnd_f, Asc_t, Asc_f] at ht hs
              subst ht
              refine s_load1 rfl rfl (v := Value.int .i16 (rdL a1 x12 0)) rfl rfl (fun _ => rfl) (cellsAt_of (fkI .i16) 0 (hs.rd hr0) had8_ gd7.1 gd7.2) ?_
              show G _ _ _ _ [_, _, _, _, _, _, _, _, _, _, _, _, _, _, _, _, _, _, _, _, _, _, _, _, _, _, _, _, _, _, _] _
              exact hk _ _ ⟨O, (by simp only [u0_, u1_, u2_, u3_, u4_, u5_, u6_, u7_, u8_, u9_, u10_, p1_, p2_, p3_, q8_, q9_, q10_, cnd_t, cnd_f, Asc_t, Asc_f]), hs.cast (by first | rfl | simp only [List.take, List.drop, List.cons_append, List.nil_append, List.set_cons_zero, List.set_cons_succ, List.eraseIdx, u0_, u1_, u2_, u3_, u4_, u5_, u6_, u7_, u8_, u9_, u10_, p1_, p2_, p3_, q8_, q9_, q10_, cnd_t, cnd_f, Asc_t, Asc_f])⟩
            · intro D t w hD hp hcl hI rest hk
              obtain ⟨O, ht, hs⟩ := hI
              have q6_ : D 6 = false := not_yet (hcl.get 6 (by decide)) 0 5 rfl hD
              have q7_ : D 7 = false := not_yet (hcl.get 7 (by decide)) 0 6 rfl q6_
              have q8_ : D 8 = false := not_yet (hcl.get 8 (by decide)) 1 7 rfl q7_
              have q9_ : D 9 = false := not_yet (hcl.get 9 (by decide)) 6 5 rfl hD
              have q10_ : D 10 = false := not_yet (hcl.get 10 (by decide)) 0 9 rfl q9_
              have u0_ : upd D 5 0 = D 0 := rfl
              have u1_ : upd D 5 1 = D 1 := rfl
              have u2_ : upd D 5 2 = D 2 := rfl
              have u3_ : upd D 5 3 = D 3 := rfl
              have u4_ : upd D 5 4 = D 4 := rfl
              have u5_ : upd D 5 5 = true := rfl
              have u6_ : upd D 5 6 = D 6 := rfl
              have u7_ : upd D 5 7 = D 7 := rfl
              have u8_ : upd D 5 8 = D 8 := rfl
              have u9_ : upd D 5 9 = D 9 := rfl
              have u10_ : upd D 5 10 = D 10 := rfl
              simp only [hD, q6_, q7_, q8_, q9_, q10_, cnd_t, cnd_f, Asc_t, Asc_f] at ht hs
              subst ht
              refine g_op (v := Value.int .i64 x12) rfl rfl rfl ?_
              show G _ _ _ _ [_, _, _, _, _, _, _, _, _, _, _, _, _, _, _, _, _, _, _, _, _, _, _, _, _, _, _, _, _, _, _] _
              exact hk _ _ ⟨O, (by simp only [u0_, u1_, u2_, u3_, u4_, u5_, u6_, u7_, u8_, u9_, u10_, q6_, q7_, q8_, q9_, q10_, cnd_t, cnd_f, Asc_t, Asc_f]), hs.cast (by first | rfl | simp only [List.take, List.drop, List.cons_append, List.nil_append, List.set_cons_zero, List.set_cons_succ, List.eraseIdx, u0_, u1_, u2_, u3_, u4_, u5_, u6_, u7_, u8_, u9_, u10_, q6_, q7_, q8_, q9_, q10_, cnd_t, cnd_f, Asc_t, Asc_f])⟩
            · intro D t w hD hp hcl hI rest hk
              obtain ⟨O, ht, hs⟩ := hI
              obtain ⟨p5_, _⟩ := hp
              have q7_ : D 7 = false := not_yet (hcl.get 7 (by decide)) 0 6 rfl hD
              have q8_ : D 8 = false := not_yet (hcl.get 8 (by decide)) 1 7 rfl q7_
              have q9_ : D 9 = false := not_yet (hcl.get 9 (by decide)) 7 6 rfl hD
              have q10_ : D 10 = false := not_yet (hcl.get 10 (by decide)) 0 9 rfl q9_
              have u0_ : upd D 6 0 = D 0 := rfl
              have u1_ : upd D 6 1 = D 1 := rfl
              have u2_ : upd D 6 2 = D 2 := rfl
              have u3_ : upd D 6 3 = D 3 := rfl
              have u4_ : upd D 6 4 = D 4 := rfl
              have u5_ : upd D 6 5 = D 5 := rfl
              have u6_ : upd D 6 6 = true := rfl
              have u7_ : upd D 6 7 = D 7 := rfl
              have u8_ : upd D 6 8 = D 8 := rfl
              have u9_ : upd D 6 9 = D 9 := rfl
              have u10_ : upd D 6 10 = D 10 := rfl
              simp only [hD, p5_, q7_, q8_, q9_, q10_, cnd_t, cnd_f, Asc_t, Asc_f] at ht hs
              subst ht
              refine s_idxA (n := x12) (m := 1) rfl (fun _ => rfl) gd9.1 gd9.2 rfl rfl rfl rfl rfl ?_
              show G _ _ _ _ [_, _, _, _, _, _, _, _, _, _, _, _, _, _, _, _, _, _, _, _, _, _, _, _, _, _, _, _, _, _, _] _
              exact hk _ _ ⟨O, (by simp only [u0_, u1_, u2_, u3_, u4_, u5_, u6_, u7_, u8_, u9_, u10_, p5_, q7_, q8_, q9_, q10_, cnd_t, cnd_f, Asc_t, Asc_f]), hs.cast (by first | rfl | simp only [List.take, List.drop, List.cons_append, List.nil_append, List.set_cons_zero, List.set_cons_succ, List.eraseIdx, u0_, u1_, u2_, u3_, u4_, u5_, u6_, u7_, u8_, u9_, u10_, p5_, q7_, q8_, q9_, q10_, cnd_t, cnd_f, Asc_t, Asc_f])⟩
            · intro D t w hD hp hcl hI rest hk
              obtain ⟨O, ht, hs⟩ := hI
              obtain ⟨p6_, _⟩ := hp
              obtain ⟨p5_, _⟩ := hcl.get 6 (by decide) p6_
              have q8_ : D 8 = false := not_yet (hcl.get 8 (by decide)) 1 7 rfl hD
              have q9_ : D 9 = false := not_yet (hcl.get 9 (by decide)) 8 7 rfl hD
              have q10_ : D 10 = false := not_yet (hcl.get 10 (by decide)) 0 9 rfl q9_
              have u0_ : upd D 7 0 = D 0 := rfl
              have u1_ : upd D 7 1 = D 1 := rfl
              have u2_ : upd D 7 2 = D 2 := rfl
              have u3_ : upd D 7 3 = D 3 := rfl
              have u4_ : upd D 7 4 = D 4 := rfl
              have u5_ : upd D 7 5 = D 5 := rfl
              have u6_ : upd D 7 6 = D 6 := rfl
              have u7_ : upd D 7 7 = true := rfl
              have u8_ : upd D 7 8 = D 8 := rfl
              have u9_ : upd D 7 9 = D 9 := rfl
              have u10_ : upd D 7 10 = D 10 := rfl
              simp only [hD, p5_, p6_, q8_, q9_, q10_, cnd_t, cnd_f, Asc_t, Asc_f] at ht hs
              subst ht
              refine s_load1 rfl rfl (v := Value.int .i16 (x11.get x12 0)) rfl rfl (fun _ => rfl) (by rw [Nat.zero_add]; exact cells_load (hs.cells 0 rfl) _ _ (encA_at (fkI .i16).len _ _ 0 gd9.1 gd9.2)) ?_
              show G _ _ _ _ [_, _, _, _, _, _, _, _, _, _, _, _, _, _, _, _, _, _, _, _, _, _, _, _, _, _, _, _, _, _, _] _
              exact hk _ _ ⟨O, (by simp only [u0_, u1_, u2_, u3_, u4_, u5_, u6_, u7_, u8_, u9_, u10_, p5_, p6_, q8_, q9_, q10_, cnd_t, cnd_f, Asc_t, Asc_f]), hs.cast (by first | rfl | simp only [List.take, List.drop, List.cons_append, List.nil_append, List.set_cons_zero, List.set_cons_succ, List.eraseIdx, u0_, u1_, u2_, u3_, u4_, u5_, u6_, u7_, u8_, u9_, u10_, p5_, p6_, q8_, q9_, q10_, cnd_t, cnd_f, Asc_t, Asc_f])⟩
            · intro D t w hD hp hcl hI rest hk
              obtain ⟨O, ht, hs⟩ := hI
              obtain ⟨p4_, p7_, _⟩ := hp
              obtain ⟨p6_, _⟩ := hcl.get 7 (by decide) p7_
              obtain ⟨p5_, _⟩ := hcl.get 6 (by decide) p6_
              obtain ⟨p3_, _⟩ := hcl.get 4 (by decide) p4_
              obtain ⟨p1_, p2_, _⟩ := hcl.get 3 (by decide) p3_
              have q9_ : D 9 = false := not_yet (hcl.get 9 (by decide)) 9 8 rfl hD
              have q10_ : D 10 = false := not_yet (hcl.get 10 (by decide)) 0 9 rfl q9_
              have u0_ : upd D 8 0 = D 0 := rfl
              have u1_ : upd D 8 1 = D 1 := rfl
              have u2_ : upd D 8 2 = D 2 := rfl
              have u3_ : upd D 8 3 = D 3 := rfl
              have u4_ : upd D 8 4 = D 4 := rfl
              have u5_ : upd D 8 5 = D 5 := rfl
              have u6_ : upd D 8 6 = D 6 := rfl
              have u7_ : upd D 8 7 = D 7 := rfl
              have u8_ : upd D 8 8 = true := rfl
              have u9_ : upd D 8 9 = D 9 := rfl
              have u10_ : upd D 8 10 = D 10 := rfl
              simp only [hD, p1_, p2_, p3_, p4_, p5_, p6_, p7_, q9_, q10_, cnd_t, cnd_f, Asc_t, Asc_f] at ht hs
              subst ht
              refine g_op (v := Value.int .i16 (i16w ((rdL a1 x12 0) - (x11.get x12 0)))) rfl rfl rfl ?_
              show G _ _ _ _ [_, _, _, _, _, _, _, _, _, _, _, _, _, _, _, _, _, _, _, _, _, _, _, _, _, _, _, _, _, _, _] _
              exact hk _ _ ⟨O, (by simp only [u0_, u1_, u2_, u3_, u4_, u5_, u6_, u7_, u8_, u9_, u10_, p1_, p2_, p3_, p4_, p5_, p6_, p7_, q9_, q10_, cnd_t, cnd_f, Asc_t, Asc_f]), hs.cast (by first | rfl | simp only [List.take, List.drop, List.cons_append, List.nil_append, List.set_cons_zero, List.set_cons_succ, List.eraseIdx, u0_, u1_, u2_, u3_, u4_, u5_, u6_, u7_, u8_, u9_, u10_, p1_, p2_, p3_, p4_, p5_, p6_, p7_, q9_, q10_, cnd_t, cnd_f, Asc_t, Asc_f])⟩
            · intro D t w hD hp hcl hI rest hk
              obtain ⟨O, ht, hs⟩ := hI
              obtain ⟨p0_, _, p1_, p2_, p3_, p4_, p5_, p6_, p7_, p8_, _⟩ := hp
              have q10_ : D 10 = false := not_yet (hcl.get 10 (by decide)) 0 9 rfl hD
              have u0_ : upd D 9 0 = D 0 := rfl
              have u1_ : upd D 9 1 = D 1 := rfl
              have u2_ : upd D 9 2 = D 2 := rfl
              have u3_ : upd D 9 3 = D 3 := rfl
              have u4_ : upd D 9 4 = D 4 := rfl
              have u5_ : upd D 9 5 = D 5 := rfl
              have u6_ : upd D 9 6 = D 6 := rfl
              have u7_ : upd D 9 7 = D 7 := rfl
              have u8_ : upd D 9 8 = D 8 := rfl
              have u9_ : upd D 9 9 = true := rfl
              have u10_ : upd D 9 10 = D 10 := rfl
              simp only [hD, p0_, p1_, p2_, p3_, p4_, p5_, p6_, p7_, p8_, q10_, cnd_t, cnd_f, Asc_t, Asc_f] at ht hs
              subst ht
              refine s_idxA (n := x12) (m := 1) rfl (fun _ => rfl) gd10.1 gd10.2 rfl rfl rfl rfl rfl ?_
              show G _ _ _ _ [_, _, _, _, _, _, _, _, _, _, _, _, _, _, _, _, _, _, _, _, _, _, _, _, _, _, _, _, _, _, _] _
              exact hk _ _ ⟨O, (by simp only [u0_, u1_, u2_, u3_, u4_, u5_, u6_, u7_, u8_, u9_, u10_, p0_, p1_, p2_, p3_, p4_, p5_, p6_, p7_, p8_, q10_, cnd_t, cnd_f, Asc_t, Asc_f]), hs.cast (by first | rfl | simp only [List.take, List.drop, List.cons_append, List.nil_append, List.set_cons_zero, List.set_cons_succ, List.eraseIdx, u0_, u1_, u2_, u3_, u4_, u5_, u6_, u7_, u8_, u9_, u10_, p0_, p1_, p2_, p3_, p4_, p5_, p6_, p7_, p8_, q10_, cnd_t, cnd_f, Asc_t, Asc_f])⟩
            · intro D t w hD hp hcl hI rest hk
              obtain ⟨O, ht, hs⟩ := hI
              obtain ⟨p9_, p8_, p0_, p1_, p2_, p3_, p4_, p5_, p6_, p7_, _, _⟩ := hp
              have u0_ : upd D 10 0 = D 0 := rfl
              have u1_ : upd D 10 1 = D 1 := rfl
              have u2_ : upd D 10 2 = D 2 := rfl
              have u3_ : upd D 10 3 = D 3 := rfl
              have u4_ : upd D 10 4 = D 4 := rfl
              have u5_ : upd D 10 5 = D 5 := rfl
              have u6_ : upd D 10 6 = D 6 := rfl
              have u7_ : upd D 10 7 = D 7 := rfl
              have u8_ : upd D 10 8 = D 8 := rfl
              have u9_ : upd D 10 9 = D 9 := rfl
              have u10_ : upd D 10 10 = true := rfl
              simp only [hD, p0_, p1_, p2_, p3_, p4_, p5_, p6_, p7_, p8_, p9_, cnd_t, cnd_f, Asc_t, Asc_f] at ht hs
              subst ht
              refine s_storeA (y := i16w ((rdL a1 x12 0) - (x11.get x12 0))) (fkI .i16).len (fkI .i16).one gd10.1 gd10.2 hs rfl rfl rfl rfl rfl (fun _ => rfl) ?_
              intro w hs
              show G _ _ _ _ [_, _, _, _, _, _, _, _, _, _, _, _, _, _, _, _, _, _, _, _, _, _, _, _, _, _, _, _, _, _, _] _
              have hs := hs.push 0 (by simp)
              exact hk _ _ ⟨O, (by simp only [u0_, u1_, u2_, u3_, u4_, u5_, u6_, u7_, u8_, u9_, u10_, p0_, p1_, p2_, p3_, p4_, p5_, p6_, p7_, p8_, p9_, cnd_t, cnd_f, Asc_t, Asc_f]), hs.cast (by first | rfl | simp only [List.take, List.drop, List.cons_append, List.nil_append, List.set_cons_zero, List.set_cons_succ, List.eraseIdx, u0_, u1_, u2_, u3_, u4_, u5_, u6_, u7_, u8_, u9_, u10_, p0_, p1_, p2_, p3_, p4_, p5_, p6_, p7_, p8_, p9_, cnd_t, cnd_f, Asc_t, Asc_f])⟩
            · intro D t w hall hI
              obtain ⟨O, ht, hs⟩ := hI
              have p0_ := hall 0 (by decide)
              have p1_ := hall 1 (by decide)
              have p2_ := hall 2 (by decide)
              have p3_ := hall 3 (by decide)
              have p4_ := hall 4 (by decide)
              have p5_ := hall 5 (by decide)
              have p6_ := hall 6 (by decide)
              have p7_ := hall 7 (by decide)
              have p8_ := hall 8 (by decide)
              have p9_ := hall 9 (by decide)
              have p10_ := hall 10 (by decide)
              simp only [p0_, p1_, p2_, p3_, p4_, p5_, p6_, p7_, p8_, p9_, p10_, cnd_t, cnd_f, Asc_t, Asc_f] at ht hs
              subst ht
              refine g_inBlock ?_
              have hs := hs.pull 1 rfl
              have hs := hs.pull 1 rfl
              have hs : St _ [_, _] _ := St.take (Γ' := []) hs
              exact ha _ _ ⟨x11.set x12 (i16w ((rdL a1 x12 0) - (x11.get x12 0))), H, rfl, hs⟩
          · intro hb
            rw [if_neg (b_beq_f hb)] at H
            show G _ _ _ _ [_, _, _, _, _, _, _, _, _, _, _, _, _, _, _, _, _, _, _, _, _, _, _, _, _, _, _, _, _, _, _] _
            refine g_ops_nil ?_
            refine g_cond_false rfl ?_
            refine g_skip ?_
            refine g_inBlock ?_
            have hs := hs.pull 1 rfl
            have hs := hs.pull 1 rfl
            have hs : St _ [_, _] _ := St.take (Γ' := []) hs
            exact ha _ _ ⟨x11, H, rfl, hs⟩
      · intro hb
        rw [if_neg (b_dec_f hb)] at H
        show G _ _ _ _ [_, _, _, _, _, _, _, _, _, _, _, _, _, _, _, _, _, _, _, _, _, _, _, _, _, _, _, _, _, _, _] _
        refine g_ops_nil ?_
        refine g_cond_false rfl ?_
        obtain rfl := Option.some.inj H
        subst Hx1_
        have hs := hs.pull 1 rfl
        have hs := hs.pull 1 rfl
        have hs : St _ [_, _] _ := St.take (Γ' := []) hs
        refine g_exit rfl ?_
        exact ha1_ _ _ ⟨x11, Hr1_, rfl, hs⟩

end Go.Proofs.YtgachgjcnmeicaaX
