/- Contracts, printed by gen.py. -/
import Derived.Test.YtgachgjcnmeicaaXC13
namespace Go.Proofs.YtgachgjcnmeicaaX
open Go Go.RowKit Go.Proofs
set_option linter.unusedVariables false
set_option linter.unusedSimpArgs false
/- function 73 spec_l05Text -/
def spec_l05Text.post (w0 : World) (r : ByteArray) (v : Value) (w : World) : Prop := v = Value.string r ∧ St w0 [] w
set_option maxHeartbeats 400000 in
set_option maxRecDepth 100000 in
theorem spec_l05Text.calls {N : Nat} {a1 : Int} {w0 : World} {r : ByteArray} (H : spec_l05Text.f N a1 = some r) :
    Calls Try.prog 73 #[Value.int .u16 a1] w0 fun e w => ∃ v, e = .returned v ∧ spec_l05Text.post w0 r v w := by
  unfold spec_l05Text.f at H
  have hs : St w0 [] w0 := St.refl w0
  refine calls_of_g (n := 24) Try.func73 rfl rfl ?_
  show G _ _ _ _ [_, _, _, _, _, _, _, _, _, _, _, _, _, _, _, _, _, _, _, _, _, _, _, _, _] _
  refine g_seq ?_
  refine g_region ?_
  show G _ _ _ (.inRegion _ [0] :: _) _ _
  refine g_op (v := Value.string (⟨#[]⟩ : ByteArray)) rfl rfl rfl ?_
  show G _ _ _ _ [_, _, _, _, _, _, _, _, _, _, _, _, _, _, _, _, _, _, _, _, _, _, _, _, _] _
  refine g_ops_nil ?_
  refine g_seq ?_
  refine g_seq ?_
  refine g_region ?_
  show G _ _ _ (.inRegion _ [0, 1] :: _) _ _
  refine g_op (v := Value.int .u16 a1) rfl rfl rfl ?_
  show G _ _ _ _ [_, _, _, _, _, _, _, _, _, _, _, _, _, _, _, _, _, _, _, _, _, _, _, _, _] _
  refine g_op_b (B := a1 == 0) rfl rfl rfl ?_ ?_
  · intro hb
    rw [if_pos (b_beq_t hb)] at H
    show G _ _ _ _ [_, _, _, _, _, _, _, _, _, _, _, _, _, _, _, _, _, _, _, _, _, _, _, _, _] _
    refine g_ops_nil ?_
    refine g_cond_true rfl ?_
    refine g_seq ?_
    refine g_region ?_
    show G _ _ _ (.inRegion _ [0] :: _) _ _
    refine g_op (v := Value.string (⟨#[45]⟩ : ByteArray)) rfl rfl rfl ?_
    show G _ _ _ _ [_, _, _, _, _, _, _, _, _, _, _, _, _, _, _, _, _, _, _, _, _, _, _, _, _] _
    refine g_ops_nil ?_
    obtain rfl := Option.some.inj H
    refine g_ret Try.func73 (v := Value.string (⟨#[45]⟩ : ByteArray)) (res1 rfl rfl) ?_
    have hs : St _ [] _ := St.take (Γ' := []) hs
    exact ⟨_, rfl, rfl, hs⟩
  · intro hb
    rw [if_neg (b_beq_f hb)] at H
    show G _ _ _ _ [_, _, _, _, _, _, _, _, _, _, _, _, _, _, _, _, _, _, _, _, _, _, _, _, _] _
    refine g_ops_nil ?_
    refine g_cond_false rfl ?_
    refine g_skip ?_
    refine g_seq ?_
    refine g_region ?_
    show G _ _ _ (.inRegion _ [0] :: _) _ _
    refine g_op (v := Value.string (⟨#[]⟩ : ByteArray)) rfl rfl rfl ?_
    show G _ _ _ _ [_, _, _, _, _, _, _, _, _, _, _, _, _, _, _, _, _, _, _, _, _, _, _, _, _] _
    refine g_ops_nil ?_
    refine g_seq ?_
    refine g_seq ?_
    refine g_region ?_
    show G _ _ _ (.inRegion _ [0] :: _) _ _
    refine g_op (v := Value.int .i64 0) rfl rfl rfl ?_
    show G _ _ _ _ [_, _, _, _, _, _, _, _, _, _, _, _, _, _, _, _, _, _, _, _, _, _, _, _, _] _
    refine g_ops_nil ?_
    obtain ⟨o1_, Ho, Hr1_⟩ := bind_get H
    refine g_block_join (J := fun t w => ∃ x7 : ByteArray, spec_l05Text.a0 N x7 = some r ∧ Fr t (fun O => ([O 0, O 1, O 2, Value.string x7, O 4, O 5, O 6, O 7, O 8, O 9, O 10, O 11, O 12, O 13, O 14, O 15, O 16, O 17, O 18, O 19, O 20, O 21, O 22, O 23, O 24] : List Value)) ∧ St w0 [] w) ?_ ?_
    · rintro t w ⟨x7, H, hf, hs⟩
      obtain ⟨O, rfl⟩ := hf.open
      show G _ _ _ _ [_, _, _, _, _, _, _, _, _, _, _, _, _, _, _, _, _, _, _, _, _, _, _, _, _] _
      unfold spec_l05Text.a0 at H
      refine g_seq ?_
      refine g_region ?_
      show G _ _ _ (.inRegion _ [0, 1] :: _) _ _
      refine g_op (v := Value.string x7) rfl rfl rfl ?_
      show G _ _ _ _ [_, _, _, _, _, _, _, _, _, _, _, _, _, _, _, _, _, _, _, _, _, _, _, _, _] _
      refine g_op (v := Value.string x7) rfl rfl rfl ?_
      show G _ _ _ _ [_, _, _, _, _, _, _, _, _, _, _, _, _, _, _, _, _, _, _, _, _, _, _, _, _] _
      refine g_ops_nil ?_
      obtain rfl := Option.some.inj H
      refine g_ret Try.func73 (v := Value.string x7) (res1 rfl rfl) ?_
      have hs : St _ [] _ := St.take (Γ' := []) hs
      exact ⟨_, rfl, rfl, hs⟩
    · intro ha1_
      have hs : St _ [] _ := St.take (Γ' := []) hs
      refine g_loop_fuel (I := fun n_ t w => ∃ x2 : ByteArray, ∃ x3 : Int, rounds (fun s => spec_l05Text.b0 N a1 s.1 s.2) n_ (x2, x3) = some o1_ ∧ Fr t (fun O => ([Value.int .u16 a1, O 1, O 2, Value.string x2, Value.int .i64 x3, O 5, O 6, O 7, O 8, O 9, O 10, O 11, O 12, O 13, O 14, O 15, O 16, O 17, O 18, O 19, O 20, O 21, O 22, O 23, O 24] : List Value)) ∧ St w0 [] w) N ⟨(⟨#[]⟩ : ByteArray), 0, Ho, rfl, hs⟩ ?_ ?_
      · rintro _ _ ⟨x2, x3, h, _⟩
        exact rounds_zero h
      · intro n_ ih1_
        rintro t w ⟨x2, x3, Ho, hf, hs⟩
        obtain ⟨O, rfl⟩ := hf.open
        show G _ _ _ _ [_, _, _, _, _, _, _, _, _, _, _, _, _, _, _, _, _, _, _, _, _, _, _, _, _] _
        obtain ⟨x3_, H, Hx1_⟩ := rounds_succ Ho
        have H : spec_l05Text.b0 N a1 x2 x3 = some x3_ := H
        unfold spec_l05Text.b0 at H
        refine g_seq ?_
        refine g_seq ?_
        refine g_region ?_
        show G _ _ _ (.inRegion _ [0, 1] :: _) _ _
        refine g_op (v := Value.int .i64 x3) rfl rfl rfl ?_
        show G _ _ _ _ [_, _, _, _, _, _, _, _, _, _, _, _, _, _, _, _, _, _, _, _, _, _, _, _, _] _
        refine g_op_b (B := decide (x3 < 8)) rfl rfl rfl ?_ ?_
        · intro hb
          rw [if_pos (b_dec_t hb)] at H
          show G _ _ _ _ [_, _, _, _, _, _, _, _, _, _, _, _, _, _, _, _, _, _, _, _, _, _, _, _, _] _
          refine g_ops_nil ?_
          refine g_cond_true rfl ?_
          refine g_skip ?_
          refine g_seq ?_
          refine g_block_join (J := (fun t w => ∃ x6 : ByteArray, spec_l05Text.j2 N x3 x6 = some x3_ ∧ Fr t (fun O => ([Value.int .u16 a1, O 1, O 2, Value.string x6, Value.int .i64 x3, O 5, O 6, O 7, O 8, O 9, O 10, O 11, O 12, O 13, O 14, O 15, O 16, O 17, O 18, O 19, O 20, O 21, O 22, O 23, O 24] : List Value)) ∧ St w0 [] w)) ?_ ?_
          · rintro t w ⟨x6, H, hf, hs⟩
            obtain ⟨O, rfl⟩ := hf.open
            show G _ _ _ _ [_, _, _, _, _, _, _, _, _, _, _, _, _, _, _, _, _, _, _, _, _, _, _, _, _] _
            unfold spec_l05Text.j2 at H
            refine g_region ?_
            show G _ _ _ (.inRegion _ [0, 1, 2] :: _) _ _
            refine g_op (v := Value.int .i64 x3) rfl rfl rfl ?_
            show G _ _ _ _ [_, _, _, _, _, _, _, _, _, _, _, _, _, _, _, _, _, _, _, _, _, _, _, _, _] _
            refine g_op (v := Value.int .i64 (i64w (x3 + 1))) rfl rfl rfl ?_
            show G _ _ _ _ [_, _, _, _, _, _, _, _, _, _, _, _, _, _, _, _, _, _, _, _, _, _, _, _, _] _
            refine g_op (v := Value.int .i64 (i64w (x3 + 1))) rfl rfl rfl ?_
            show G _ _ _ _ [_, _, _, _, _, _, _, _, _, _, _, _, _, _, _, _, _, _, _, _, _, _, _, _, _] _
            refine g_ops_nil ?_
            obtain rfl := Option.some.inj H
            have hs : St _ [] _ := St.take (Γ' := []) hs
            exact ih1_ _ _ ⟨x6, i64w (x3 + 1), Hx1_, rfl, hs⟩
          · intro ha
            refine g_seq ?_
            refine g_region ?_
            show G _ _ _ (.inRegion _ [0, 1, 2, 3, 4, 5] :: _) _ _
            refine g_op (v := Value.int .u16 a1) rfl rfl rfl ?_
            show G _ _ _ _ [_, _, _, _, _, _, _, _, _, _, _, _, _, _, _, _, _, _, _, _, _, _, _, _, _] _
            refine g_op (v := Value.int .i64 x3) rfl rfl rfl ?_
            show G _ _ _ _ [_, _, _, _, _, _, _, _, _, _, _, _, _, _, _, _, _, _, _, _, _, _, _, _, _] _
            refine g_op (v := Value.int .u64 (u64w x3)) rfl rfl rfl ?_
            show G _ _ _ _ [_, _, _, _, _, _, _, _, _, _, _, _, _, _, _, _, _, _, _, _, _, _, _, _, _] _
            obtain ⟨g1, H⟩ := ite_get H
            refine g_op (v := Value.int .u16 (shrI .u16 a1 (u64w x3))) rfl rfl (x_shr rfl rfl rfl g1) ?_
            show G _ _ _ _ [_, _, _, _, _, _, _, _, _, _, _, _, _, _, _, _, _, _, _, _, _, _, _, _, _] _
            refine g_op (v := Value.int .u16 ((shrI .u16 a1 (u64w x3)).tmod 2)) rfl rfl rfl ?_
            show G _ _ _ _ [_, _, _, _, _, _, _, _, _, _, _, _, _, _, _, _, _, _, _, _, _, _, _, _, _] _
            refine g_op_b (B := ((shrI .u16 a1 (u64w x3)).tmod 2) == 1) rfl rfl rfl ?_ ?_
            · intro hb
              rw [if_pos (b_beq_t hb)] at H
              show G _ _ _ _ [_, _, _, _, _, _, _, _, _, _, _, _, _, _, _, _, _, _, _, _, _, _, _, _, _] _
              refine g_ops_nil ?_
              refine g_cond_true rfl ?_
              refine g_region ?_
              show G _ _ _ (.inRegion _ [0, 1, 2, 3, 4, 5, 6, 7] :: _) _ _
              refine g_op (v := Value.string x2) rfl rfl rfl ?_
              show G _ _ _ _ [_, _, _, _, _, _, _, _, _, _, _, _, _, _, _, _, _, _, _, _, _, _, _, _, _] _
              refine g_op (v := Value.int .i64 x3) rfl rfl rfl ?_
              show G _ _ _ _ [_, _, _, _, _, _, _, _, _, _, _, _, _, _, _, _, _, _, _, _, _, _, _, _, _] _
              refine g_op (v := Value.int .i64 (i64w (97 + x3))) rfl rfl rfl ?_
              show G _ _ _ _ [_, _, _, _, _, _, _, _, _, _, _, _, _, _, _, _, _, _, _, _, _, _, _, _, _] _
              refine g_op (v := Value.int .u8 (u8w (i64w (97 + x3)))) rfl rfl rfl ?_
              show G _ _ _ _ [_, _, _, _, _, _, _, _, _, _, _, _, _, _, _, _, _, _, _, _, _, _, _, _, _] _
              refine s_lit1 (fkI .u8) (y := u8w (i64w (97 + x3))) hs rfl rfl rfl rfl (fun _ => rfl) (zv := (Value.int .u8 0)) (fun _ => rfl) rfl (by decide) (by decide) rfl ?_
              intro v4 w hs
              show G _ _ _ _ [_, _, _, _, _, _, _, _, _, _, _, _, _, _, _, _, _, _, _, _, _, _, _, _, _] _
              refine g_op (v := Value.string (bsOf ([u8w (i64w (97 + x3))]))) rfl rfl (x_string rfl rfl rfl rfl rfl (hs.row 0 rfl)) ?_
              show G _ _ _ _ [_, _, _, _, _, _, _, _, _, _, _, _, _, _, _, _, _, _, _, _, _, _, _, _, _] _
              obtain ⟨gs2, H⟩ := ite_get H
              refine g_op (v := Value.string (x2 ++ (bsOf ([u8w (i64w (97 + x3))])))) rfl rfl (x_cat rfl rfl rfl gs2) ?_
              show G _ _ _ _ [_, _, _, _, _, _, _, _, _, _, _, _, _, _, _, _, _, _, _, _, _, _, _, _, _] _
              refine g_op (v := Value.string (x2 ++ (bsOf ([u8w (i64w (97 + x3))])))) rfl rfl rfl ?_
              show G _ _ _ _ [_, _, _, _, _, _, _, _, _, _, _, _, _, _, _, _, _, _, _, _, _, _, _, _, _] _
              refine g_ops_nil ?_
              refine g_inBlock ?_
              have hs : St _ [] _ := St.take (Γ' := [_]) hs
              exact ha _ _ ⟨x2 ++ (bsOf ([u8w (i64w (97 + x3))])), H, rfl, hs⟩
            · intro hb
              rw [if_neg (b_beq_f hb)] at H
              show G _ _ _ _ [_, _, _, _, _, _, _, _, _, _, _, _, _, _, _, _, _, _, _, _, _, _, _, _, _] _
              refine g_ops_nil ?_
              refine g_cond_false rfl ?_
              refine g_skip ?_
              refine g_inBlock ?_
              have hs : St _ [] _ := St.take (Γ' := []) hs
              exact ha _ _ ⟨x2, H, rfl, hs⟩
        · intro hb
          rw [if_neg (b_dec_f hb)] at H
          show G _ _ _ _ [_, _, _, _, _, _, _, _, _, _, _, _, _, _, _, _, _, _, _, _, _, _, _, _, _] _
          refine g_ops_nil ?_
          refine g_cond_false rfl ?_
          obtain rfl := Option.some.inj H
          subst Hx1_
          have hs : St _ [] _ := St.take (Γ' := []) hs
          refine g_exit rfl ?_
          exact ha1_ _ _ ⟨x2, Hr1_, rfl, hs⟩

/- function 65 spec_l07PlanText -/
def spec_l07PlanText.post (w0 : World) (r : ByteArray) (v : Value) (w : World) : Prop := v = Value.string r ∧ St w0 [] w
set_option maxHeartbeats 400000 in
set_option maxRecDepth 100000 in
theorem spec_l07PlanText.calls {N : Nat} {a1 : (List Int)} {v2 : Value} {w0 : World} {r : ByteArray} (hr0 : RdRow (K.int .u8) w0 v2 a1) (H : spec_l07PlanText.f N a1 = some r) :
    Calls Try.prog 65 #[v2] w0 fun e w => ∃ v, e = .returned v ∧ spec_l07PlanText.post w0 r v w := by
  unfold spec_l07PlanText.f at H
  have hs : St w0 [] w0 := St.refl w0
  refine calls_of_g (n := 23) Try.func65 rfl rfl ?_
  show G _ _ _ _ [_, _, _, _, _, _, _, _, _, _, _, _, _, _, _, _, _, _, _, _, _, _, _, _] _
  refine g_seq ?_
  refine g_region ?_
  show G _ _ _ (.inRegion _ [0] :: _) _ _
  refine g_op (v := Value.string (⟨#[]⟩ : ByteArray)) rfl rfl rfl ?_
  show G _ _ _ _ [_, _, _, _, _, _, _, _, _, _, _, _, _, _, _, _, _, _, _, _, _, _, _, _] _
  refine g_ops_nil ?_
  refine g_seq ?_
  refine g_region ?_
  show G _ _ _ (.inRegion _ [0] :: _) _ _
  refine g_op (v := Value.string (⟨#[]⟩ : ByteArray)) rfl rfl rfl ?_
  show G _ _ _ _ [_, _, _, _, _, _, _, _, _, _, _, _, _, _, _, _, _, _, _, _, _, _, _, _] _
  refine g_ops_nil ?_
  refine g_seq ?_
  refine g_seq ?_
  refine g_region ?_
  show G _ _ _ (.inRegion _ [0] :: _) _ _
  refine g_op (v := Value.int .i64 0) rfl rfl rfl ?_
  show G _ _ _ _ [_, _, _, _, _, _, _, _, _, _, _, _, _, _, _, _, _, _, _, _, _, _, _, _] _
  refine g_ops_nil ?_
  obtain ⟨o1_, Ho, Hr1_⟩ := bind_get H
  refine g_block_join (J := fun t w => ∃ x8 : ByteArray, spec_l07PlanText.a0 N x8 = some r ∧ Fr t (fun O => ([O 0, O 1, O 2, Value.string x8, O 4, O 5, O 6, O 7, O 8, O 9, O 10, O 11, O 12, O 13, O 14, O 15, O 16, O 17, O 18, O 19, O 20, O 21, O 22, O 23] : List Value)) ∧ St w0 [] w) ?_ ?_
  · rintro t w ⟨x8, H, hf, hs⟩
    obtain ⟨O, rfl⟩ := hf.open
    show G _ _ _ _ [_, _, _, _, _, _, _, _, _, _, _, _, _, _, _, _, _, _, _, _, _, _, _, _] _
    unfold spec_l07PlanText.a0 at H
    refine g_seq ?_
    refine g_region ?_
    show G _ _ _ (.inRegion _ [0, 1] :: _) _ _
    refine g_op (v := Value.string x8) rfl rfl rfl ?_
    show G _ _ _ _ [_, _, _, _, _, _, _, _, _, _, _, _, _, _, _, _, _, _, _, _, _, _, _, _] _
    refine g_op (v := Value.string x8) rfl rfl rfl ?_
    show G _ _ _ _ [_, _, _, _, _, _, _, _, _, _, _, _, _, _, _, _, _, _, _, _, _, _, _, _] _
    refine g_ops_nil ?_
    obtain rfl := Option.some.inj H
    refine g_ret Try.func65 (v := Value.string x8) (res1 rfl rfl) ?_
    have hs : St _ [] _ := St.take (Γ' := []) hs
    exact ⟨_, rfl, rfl, hs⟩
  · intro ha1_
    have hs : St _ [] _ := St.take (Γ' := []) hs
    refine g_loop_fuel (I := fun n_ t w => ∃ x3 : ByteArray, ∃ x4 : Int, rounds (fun s => spec_l07PlanText.b0 N a1 s.1 s.2) n_ (x3, x4) = some o1_ ∧ Fr t (fun O => ([v2, O 1, O 2, Value.string x3, Value.int .i64 x4, O 5, O 6, O 7, O 8, O 9, O 10, O 11, O 12, O 13, O 14, O 15, O 16, O 17, O 18, O 19, O 20, O 21, O 22, O 23] : List Value)) ∧ St w0 [] w) N ⟨(⟨#[]⟩ : ByteArray), 0, Ho, rfl, hs⟩ ?_ ?_
    · rintro _ _ ⟨x3, x4, h, _⟩
      exact rounds_zero h
    · intro n_ ih1_
      rintro t w ⟨x3, x4, Ho, hf, hs⟩
      obtain ⟨O, rfl⟩ := hf.open
      show G _ _ _ _ [_, _, _, _, _, _, _, _, _, _, _, _, _, _, _, _, _, _, _, _, _, _, _, _] _
      obtain ⟨x4_, H, Hx1_⟩ := rounds_succ Ho
      have H : spec_l07PlanText.b0 N a1 x3 x4 = some x4_ := H
      unfold spec_l07PlanText.b0 at H
      refine g_seq ?_
      refine g_seq ?_
      refine g_region ?_
      show G _ _ _ (.inRegion _ [0, 1, 2, 3] :: _) _ _
      refine g_op (v := Value.int .i64 x4) rfl rfl rfl ?_
      show G _ _ _ _ [_, _, _, _, _, _, _, _, _, _, _, _, _, _, _, _, _, _, _, _, _, _, _, _] _
      refine g_op (v := v2) rfl rfl rfl ?_
      show G _ _ _ _ [_, _, _, _, _, _, _, _, _, _, _, _, _, _, _, _, _, _, _, _, _, _, _, _] _
      refine s_len (hs.rd hr0) rfl rfl rfl rfl rfl ?_
      show G _ _ _ _ [_, _, _, _, _, _, _, _, _, _, _, _, _, _, _, _, _, _, _, _, _, _, _, _] _
      refine g_op_b (B := decide (x4 < (a1.length : Int))) rfl rfl rfl ?_ ?_
      · intro hb
        rw [if_pos (b_dec_t hb)] at H
        show G _ _ _ _ [_, _, _, _, _, _, _, _, _, _, _, _, _, _, _, _, _, _, _, _, _, _, _, _] _
        refine g_ops_nil ?_
        refine g_cond_true rfl ?_
        refine g_skip ?_
        refine g_seq ?_
        refine g_block ?_
        refine g_seq ?_
        refine g_seq ?_
        refine g_join2 (J := (fun t w => ∃ x5 : ByteArray, spec_l07PlanText.j2 N x4 a1 x5 = some x4_ ∧ Fr t (fun O => ([v2, O 1, O 2, Value.string x5, Value.int .i64 x4, O 5, O 6, O 7, O 8, O 9, O 10, O 11, O 12, O 13, O 14, O 15, O 16, O 17, O 18, O 19, O 20, O 21, O 22, O 23] : List Value)) ∧ St w0 [] w)) ?_ ?_
        · rintro t w ⟨x5, H, hf, hs⟩
          obtain ⟨O, rfl⟩ := hf.open
          show G _ _ _ _ [_, _, _, _, _, _, _, _, _, _, _, _, _, _, _, _, _, _, _, _, _, _, _, _] _
          unfold spec_l07PlanText.j2 at H
          refine g_region ?_
          show G _ _ _ (.inRegion _ [0, 1, 2, 3, 4, 5, 6, 7, 8] :: _) _ _
          refine g_op (v := Value.string x5) rfl rfl rfl ?_
          show G _ _ _ _ [_, _, _, _, _, _, _, _, _, _, _, _, _, _, _, _, _, _, _, _, _, _, _, _] _
          refine g_op (v := v2) rfl rfl rfl ?_
          show G _ _ _ _ [_, _, _, _, _, _, _, _, _, _, _, _, _, _, _, _, _, _, _, _, _, _, _, _] _
          refine g_op (v := Value.int .i64 x4) rfl rfl rfl ?_
          show G _ _ _ _ [_, _, _, _, _, _, _, _, _, _, _, _, _, _, _, _, _, _, _, _, _, _, _, _] _
          obtain ⟨g2, H⟩ := ite_get H
          refine s_idx (fkI .u8) 0 (hs.rd hr0) rfl (fun _ => rfl) g2.1 g2.2 rfl rfl rfl rfl rfl ?_
          intro p6 hp6 lp6 op6
          show G _ _ _ _ [_, _, _, _, _, _, _, _, _, _, _, _, _, _, _, _, _, _, _, _, _, _, _, _] _
          refine s_load1 rfl rfl (v := Value.int .u8 (rdL a1 x4 0)) rfl rfl (fun _ => rfl) hp6 ?_
          show G _ _ _ _ [_, _, _, _, _, _, _, _, _, _, _, _, _, _, _, _, _, _, _, _, _, _, _, _] _
          refine g_op (v := Value.int .u16 (u16w (rdL a1 x4 0))) rfl rfl rfl ?_
          show G _ _ _ _ [_, _, _, _, _, _, _, _, _, _, _, _, _, _, _, _, _, _, _, _, _, _, _, _] _
          obtain ⟨r7, Hr7, H⟩ := bind_get H
          refine s_call (args := [Value.int .u16 (u16w (rdL a1 x4 0))]) rfl rfl (x_call rfl (callFunc_enter Try.func73 rfl rfl) rfl) (spec_l05Text.calls (a1 := u16w (rdL a1 x4 0)) Hr7) ?_
          rintro _ w ⟨rfl, hs2⟩
          have hs : St _ [] _ := hs.call hs2
          show G _ _ _ _ [_, _, _, _, _, _, _, _, _, _, _, _, _, _, _, _, _, _, _, _, _, _, _, _] _
          obtain ⟨gs3, H⟩ := ite_get H
          refine g_op (v := Value.string (x5 ++ r7)) rfl rfl (x_cat rfl rfl rfl gs3) ?_
          show G _ _ _ _ [_, _, _, _, _, _, _, _, _, _, _, _, _, _, _, _, _, _, _, _, _, _, _, _] _
          refine g_op (v := Value.string (x5 ++ r7)) rfl rfl rfl ?_
          show G _ _ _ _ [_, _, _, _, _, _, _, _, _, _, _, _, _, _, _, _, _, _, _, _, _, _, _, _] _
          refine g_ops_nil ?_
          refine g_inBlock ?_
          refine g_region ?_
          show G _ _ _ (.inRegion _ [0, 1, 2] :: _) _ _
          refine g_op (v := Value.int .i64 x4) rfl rfl rfl ?_
          show G _ _ _ _ [_, _, _, _, _, _, _, _, _, _, _, _, _, _, _, _, _, _, _, _, _, _, _, _] _
          refine g_op (v := Value.int .i64 (i64w (x4 + 1))) rfl rfl rfl ?_
          show G _ _ _ _ [_, _, _, _, _, _, _, _, _, _, _, _, _, _, _, _, _, _, _, _, _, _, _, _] _
          refine g_op (v := Value.int .i64 (i64w (x4 + 1))) rfl rfl rfl ?_
          show G _ _ _ _ [_, _, _, _, _, _, _, _, _, _, _, _, _, _, _, _, _, _, _, _, _, _, _, _] _
          refine g_ops_nil ?_
          obtain rfl := Option.some.inj H
          have hs : St _ [] _ := St.take (Γ' := []) hs
          exact ih1_ _ _ ⟨x5 ++ r7, i64w (x4 + 1), Hx1_, rfl, hs⟩
        · intro ha
          refine g_region ?_
          show G _ _ _ (.inRegion _ [0, 1] :: _) _ _
          refine g_op (v := Value.int .i64 x4) rfl rfl rfl ?_
          show G _ _ _ _ [_, _, _, _, _, _, _, _, _, _, _, _, _, _, _, _, _, _, _, _, _, _, _, _] _
          refine g_op_b (B := decide (x4 > 0)) rfl rfl rfl ?_ ?_
          · intro hb
            rw [if_pos (b_dec_t hb)] at H
            show G _ _ _ _ [_, _, _, _, _, _, _, _, _, _, _, _, _, _, _, _, _, _, _, _, _, _, _, _] _
            refine g_ops_nil ?_
            refine g_cond_true rfl ?_
            refine g_region ?_
            show G _ _ _ (.inRegion _ [0, 1, 2] :: _) _ _
            refine g_op (v := Value.string x3) rfl rfl rfl ?_
            show G _ _ _ _ [_, _, _, _, _, _, _, _, _, _, _, _, _, _, _, _, _, _, _, _, _, _, _, _] _
            obtain ⟨gs1, H⟩ := ite_get H
            refine g_op (v := Value.string (x3 ++ (⟨#[32]⟩ : ByteArray))) rfl rfl (x_cat rfl rfl rfl gs1) ?_
            show G _ _ _ _ [_, _, _, _, _, _, _, _, _, _, _, _, _, _, _, _, _, _, _, _, _, _, _, _] _
            refine g_op (v := Value.string (x3 ++ (⟨#[32]⟩ : ByteArray))) rfl rfl rfl ?_
            show G _ _ _ _ [_, _, _, _, _, _, _, _, _, _, _, _, _, _, _, _, _, _, _, _, _, _, _, _] _
            refine g_ops_nil ?_
            have hs : St _ [] _ := St.take (Γ' := []) hs
            exact ha _ _ ⟨x3 ++ (⟨#[32]⟩ : ByteArray), H, rfl, hs⟩
          · intro hb
            rw [if_neg (b_dec_f hb)] at H
            show G _ _ _ _ [_, _, _, _, _, _, _, _, _, _, _, _, _, _, _, _, _, _, _, _, _, _, _, _] _
            refine g_ops_nil ?_
            refine g_cond_false rfl ?_
            refine g_skip ?_
            have hs : St _ [] _ := St.take (Γ' := []) hs
            exact ha _ _ ⟨x3, H, rfl, hs⟩
      · intro hb
        rw [if_neg (b_dec_f hb)] at H
        show G _ _ _ _ [_, _, _, _, _, _, _, _, _, _, _, _, _, _, _, _, _, _, _, _, _, _, _, _] _
        refine g_ops_nil ?_
        refine g_cond_false rfl ?_
        obtain rfl := Option.some.inj H
        subst Hx1_
        have hs : St _ [] _ := St.take (Γ' := []) hs
        refine g_exit rfl ?_
        exact ha1_ _ _ ⟨x3, Hr1_, rfl, hs⟩

/- function 33 spec_TurnsText -/
def spec_TurnsText.post (w0 : World) (r : ByteArray) (v : Value) (w : World) : Prop := v = Value.string r ∧ St w0 [] w
set_option maxHeartbeats 400000 in
set_option maxRecDepth 100000 in
theorem spec_TurnsText.calls {N : Nat} {a1 : (List Int)} {v2 : Value} {w0 : World} {r : ByteArray} (hr0 : RdRow (K.int .u8) w0 v2 a1) (H : spec_TurnsText.f N a1 = some r) :
    Calls Try.prog 33 #[v2] w0 fun e w => ∃ v, e = .returned v ∧ spec_TurnsText.post w0 r v w := by
  unfold spec_TurnsText.f at H
  have hs : St w0 [] w0 := St.refl w0
  refine calls_of_g (n := 7) Try.func33 rfl rfl ?_
  show G _ _ _ _ [_, _, _, _, _, _, _, _] _
  refine g_seq ?_
  refine g_region ?_
  show G _ _ _ (.inRegion _ [0] :: _) _ _
  refine g_op (v := Value.string (⟨#[]⟩ : ByteArray)) rfl rfl rfl ?_
  show G _ _ _ _ [_, _, _, _, _, _, _, _] _
  refine g_ops_nil ?_
  refine g_seq ?_
  refine g_seq ?_
  refine g_region ?_
  show G _ _ _ (.inRegion _ [0, 1, 2] :: _) _ _
  refine g_op (v := v2) rfl rfl rfl ?_
  show G _ _ _ _ [_, _, _, _, _, _, _, _] _
  obtain ⟨r3, Hr3, H⟩ := bind_get H
  refine s_call (args := [v2]) rfl rfl (x_call rfl (callFunc_enter Try.func50 rfl rfl) rfl) (spec_l07Planned.calls (a1 := a1) (hs.rd hr0) Hr3) ?_
  rintro _ w ⟨rfl, hs2⟩
  have hs : St _ [] _ := hs.call hs2
  show G _ _ _ _ [_, _, _, _, _, _, _, _] _
  refine g_op_b (B := r3 != 0) rfl rfl rfl ?_ ?_
  · intro hb
    rw [if_neg (b_bne_t hb)] at H
    show G _ _ _ _ [_, _, _, _, _, _, _, _] _
    refine g_ops_nil ?_
    refine g_cond_true rfl ?_
    refine g_seq ?_
    refine g_region ?_
    show G _ _ _ (.inRegion _ [0] :: _) _ _
    refine g_op (v := Value.string (⟨#[]⟩ : ByteArray)) rfl rfl rfl ?_
    show G _ _ _ _ [_, _, _, _, _, _, _, _] _
    refine g_ops_nil ?_
    obtain rfl := Option.some.inj H
    refine g_ret Try.func33 (v := Value.string (⟨#[]⟩ : ByteArray)) (res1 rfl rfl) ?_
    have hs : St _ [] _ := St.take (Γ' := []) hs
    exact ⟨_, rfl, rfl, hs⟩
  · intro hb
    rw [if_pos (b_bne_f hb)] at H
    show G _ _ _ _ [_, _, _, _, _, _, _, _] _
    refine g_ops_nil ?_
    refine g_cond_false rfl ?_
    refine g_skip ?_
    refine g_seq ?_
    refine g_region ?_
    show G _ _ _ (.inRegion _ [0, 1, 2] :: _) _ _
    refine g_op (v := v2) rfl rfl rfl ?_
    show G _ _ _ _ [_, _, _, _, _, _, _, _] _
    obtain ⟨r4, Hr4, H⟩ := bind_get H
    refine s_call (args := [v2]) rfl rfl (x_call rfl (callFunc_enter Try.func65 rfl rfl) rfl) (spec_l07PlanText.calls (a1 := a1) (hs.rd hr0) Hr4) ?_
    rintro _ w ⟨rfl, hs2⟩
    have hs : St _ [] _ := hs.call hs2
    show G _ _ _ _ [_, _, _, _, _, _, _, _] _
    refine g_op (v := Value.string r4) rfl rfl rfl ?_
    show G _ _ _ _ [_, _, _, _, _, _, _, _] _
    refine g_ops_nil ?_
    obtain rfl := Option.some.inj H
    refine g_ret Try.func33 (v := Value.string r4) (res1 rfl rfl) ?_
    have hs : St _ [] _ := St.take (Γ' := []) hs
    exact ⟨_, rfl, rfl, hs⟩

/- function 74 impl_letter -/
def impl_letter.post (w0 : World) (r : ByteArray) (v : Value) (w : World) : Prop := v = Value.string r ∧ St w0 [] w
set_option maxHeartbeats 400000 in
set_option maxRecDepth 100000 in
theorem impl_letter.calls {N : Nat} {a1 : Int} {w0 : World} {r : ByteArray} (H : impl_letter.f N a1 = some r) :
    Calls Try.prog 74 #[Value.int .i8 a1] w0 fun e w => ∃ v, e = .returned v ∧ impl_letter.post w0 r v w := by
  unfold impl_letter.f at H
  have hs : St w0 [] w0 := St.refl w0
  refine calls_of_g (n := 7) Try.func74 rfl rfl ?_
  show G _ _ _ _ [_, _, _, _, _, _, _, _] _
  refine g_seq ?_
  refine g_region ?_
  show G _ _ _ (.inRegion _ [0] :: _) _ _
  refine g_op (v := Value.string (⟨#[]⟩ : ByteArray)) rfl rfl rfl ?_
  show G _ _ _ _ [_, _, _, _, _, _, _, _] _
  refine g_ops_nil ?_
  refine g_seq ?_
  refine g_region ?_
  show G _ _ _ (.inRegion _ [0, 1, 2, 3, 4, 5] :: _) _ _
  refine g_op (v := Value.int .i8 a1) rfl rfl rfl ?_
  show G _ _ _ _ [_, _, _, _, _, _, _, _] _
  refine g_op (v := Value.int .i8 (i8w (97 + a1))) rfl rfl rfl ?_
  show G _ _ _ _ [_, _, _, _, _, _, _, _] _
  refine g_op (v := Value.int .u8 (u8w (i8w (97 + a1)))) rfl rfl rfl ?_
  show G _ _ _ _ [_, _, _, _, _, _, _, _] _
  refine s_lit1 (fkI .u8) (y := u8w (i8w (97 + a1))) hs rfl rfl rfl rfl (fun _ => rfl) (zv := (Value.int .u8 0)) (fun _ => rfl) rfl (by decide) (by decide) rfl ?_
  intro v2 w hs
  show G _ _ _ _ [_, _, _, _, _, _, _, _] _
  refine g_op (v := Value.string (bsOf ([u8w (i8w (97 + a1))]))) rfl rfl (x_string rfl rfl rfl rfl rfl (hs.row 0 rfl)) ?_
  show G _ _ _ _ [_, _, _, _, _, _, _, _] _
  refine g_op (v := Value.string (bsOf ([u8w (i8w (97 + a1))]))) rfl rfl rfl ?_
  show G _ _ _ _ [_, _, _, _, _, _, _, _] _
  refine g_ops_nil ?_
  obtain rfl := Option.some.inj H
  refine g_ret Try.func74 (v := Value.string (bsOf ([u8w (i8w (97 + a1))]))) (res1 rfl rfl) ?_
  have hs : St _ [] _ := St.take (Γ' := [_]) hs
  exact ⟨_, rfl, rfl, hs⟩

/- function 66 impl_setText -/
def impl_setText.post (w0 : World) (r : ByteArray) (v : Value) (w : World) : Prop := v = Value.string r ∧ St w0 [] w
set_option maxHeartbeats 400000 in
set_option maxRecDepth 100000 in
theorem impl_setText.calls {N : Nat} {a1 : Int} {w0 : World} {r : ByteArray} (H : impl_setText.f N a1 = some r) :
    Calls Try.prog 66 #[Value.int .u64 a1] w0 fun e w => ∃ v, e = .returned v ∧ impl_setText.post w0 r v w := by
  unfold impl_setText.f at H
  have hs : St w0 [] w0 := St.refl w0
  refine calls_of_g (n := 20) Try.func66 rfl rfl ?_
  show G _ _ _ _ [_, _, _, _, _, _, _, _, _, _, _, _, _, _, _, _, _, _, _, _, _] _
  refine g_seq ?_
  refine g_region ?_
  show G _ _ _ (.inRegion _ [0] :: _) _ _
  refine g_op (v := Value.string (⟨#[]⟩ : ByteArray)) rfl rfl rfl ?_
  show G _ _ _ _ [_, _, _, _, _, _, _, _, _, _, _, _, _, _, _, _, _, _, _, _, _] _
  refine g_ops_nil ?_
  refine g_seq ?_
  refine g_seq ?_
  refine g_region ?_
  show G _ _ _ (.inRegion _ [0, 1] :: _) _ _
  refine g_op (v := Value.int .u64 a1) rfl rfl rfl ?_
  show G _ _ _ _ [_, _, _, _, _, _, _, _, _, _, _, _, _, _, _, _, _, _, _, _, _] _
  refine g_op_b (B := a1 == 0) rfl rfl rfl ?_ ?_
  · intro hb
    rw [if_pos (b_beq_t hb)] at H
    show G _ _ _ _ [_, _, _, _, _, _, _, _, _, _, _, _, _, _, _, _, _, _, _, _, _] _
    refine g_ops_nil ?_
    refine g_cond_true rfl ?_
    refine g_seq ?_
    refine g_region ?_
    show G _ _ _ (.inRegion _ [0] :: _) _ _
    refine g_op (v := Value.string (⟨#[45]⟩ : ByteArray)) rfl rfl rfl ?_
    show G _ _ _ _ [_, _, _, _, _, _, _, _, _, _, _, _, _, _, _, _, _, _, _, _, _] _
    refine g_ops_nil ?_
    obtain rfl := Option.some.inj H
    refine g_ret Try.func66 (v := Value.string (⟨#[45]⟩ : ByteArray)) (res1 rfl rfl) ?_
    have hs : St _ [] _ := St.take (Γ' := []) hs
    exact ⟨_, rfl, rfl, hs⟩
  · intro hb
    rw [if_neg (b_beq_f hb)] at H
    show G _ _ _ _ [_, _, _, _, _, _, _, _, _, _, _, _, _, _, _, _, _, _, _, _, _] _
    refine g_ops_nil ?_
    refine g_cond_false rfl ?_
    refine g_skip ?_
    refine g_seq ?_
    refine g_region ?_
    show G _ _ _ (.inRegion _ [0] :: _) _ _
    refine g_op (v := Value.string (⟨#[]⟩ : ByteArray)) rfl rfl rfl ?_
    show G _ _ _ _ [_, _, _, _, _, _, _, _, _, _, _, _, _, _, _, _, _, _, _, _, _] _
    refine g_ops_nil ?_
    refine g_seq ?_
    refine g_seq ?_
    refine g_region ?_
    show G _ _ _ (.inRegion _ [0] :: _) _ _
    refine g_op (v := Value.int .i8 0) rfl rfl rfl ?_
    show G _ _ _ _ [_, _, _, _, _, _, _, _, _, _, _, _, _, _, _, _, _, _, _, _, _] _
    refine g_ops_nil ?_
    obtain ⟨o1_, Ho, Hr1_⟩ := bind_get H
    refine g_block_join (J := fun t w => ∃ x6 : ByteArray, impl_setText.a0 N x6 = some r ∧ Fr t (fun O => ([O 0, O 1, O 2, Value.string x6, O 4, O 5, O 6, O 7, O 8, O 9, O 10, O 11, O 12, O 13, O 14, O 15, O 16, O 17, O 18, O 19, O 20] : List Value)) ∧ St w0 [] w) ?_ ?_
    · rintro t w ⟨x6, H, hf, hs⟩
      obtain ⟨O, rfl⟩ := hf.open
      show G _ _ _ _ [_, _, _, _, _, _, _, _, _, _, _, _, _, _, _, _, _, _, _, _, _] _
      unfold impl_setText.a0 at H
      refine g_seq ?_
      refine g_region ?_
      show G _ _ _ (.inRegion _ [0, 1] :: _) _ _
      refine g_op (v := Value.string x6) rfl rfl rfl ?_
      show G _ _ _ _ [_, _, _, _, _, _, _, _, _, _, _, _, _, _, _, _, _, _, _, _, _] _
      refine g_op (v := Value.string x6) rfl rfl rfl ?_
      show G _ _ _ _ [_, _, _, _, _, _, _, _, _, _, _, _, _, _, _, _, _, _, _, _, _] _
      refine g_ops_nil ?_
      obtain rfl := Option.some.inj H
      refine g_ret Try.func66 (v := Value.string x6) (res1 rfl rfl) ?_
      have hs : St _ [] _ := St.take (Γ' := []) hs
      exact ⟨_, rfl, rfl, hs⟩
    · intro ha1_
      have hs : St _ [] _ := St.take (Γ' := []) hs
      refine g_loop_fuel (I := fun n_ t w => ∃ x2 : ByteArray, ∃ x3 : Int, rounds (fun s => impl_setText.b0 N a1 s.1 s.2) n_ (x2, x3) = some o1_ ∧ Fr t (fun O => ([Value.int .u64 a1, O 1, O 2, Value.string x2, O 4, O 5, O 6, Value.int .i8 x3, O 8, O 9, O 10, O 11, O 12, O 13, O 14, O 15, O 16, O 17, O 18, O 19, O 20] : List Value)) ∧ St w0 [] w) N ⟨(⟨#[]⟩ : ByteArray), 0, Ho, rfl, hs⟩ ?_ ?_
      · rintro _ _ ⟨x2, x3, h, _⟩
        exact rounds_zero h
      · intro n_ ih1_
        rintro t w ⟨x2, x3, Ho, hf, hs⟩
        obtain ⟨O, rfl⟩ := hf.open
        show G _ _ _ _ [_, _, _, _, _, _, _, _, _, _, _, _, _, _, _, _, _, _, _, _, _] _
        obtain ⟨x3_, H, Hx1_⟩ := rounds_succ Ho
        have H : impl_setText.b0 N a1 x2 x3 = some x3_ := H
        unfold impl_setText.b0 at H
        refine g_seq ?_
        refine g_region ?_
        show G _ _ _ (.inRegion _ [0] :: _) _ _
        refine g_op_b (B := decide (x3 < 64)) rfl rfl rfl ?_ ?_
        · intro hb
          rw [if_pos (b_dec_t hb)] at H
          show G _ _ _ _ [_, _, _, _, _, _, _, _, _, _, _, _, _, _, _, _, _, _, _, _, _] _
          refine g_ops_nil ?_
          refine g_seq ?_
          refine g_cond_true rfl ?_
          refine g_skip ?_
          refine g_seq ?_
          refine g_block_join (J := (fun t w => ∃ x5 : ByteArray, impl_setText.j2 N x3 x5 = some x3_ ∧ Fr t (fun O => ([Value.int .u64 a1, O 1, O 2, Value.string x5, O 4, O 5, O 6, Value.int .i8 x3, O 8, O 9, O 10, O 11, O 12, O 13, O 14, O 15, O 16, O 17, O 18, O 19, O 20] : List Value)) ∧ St w0 [] w)) ?_ ?_
          · rintro t w ⟨x5, H, hf, hs⟩
            obtain ⟨O, rfl⟩ := hf.open
            show G _ _ _ _ [_, _, _, _, _, _, _, _, _, _, _, _, _, _, _, _, _, _, _, _, _] _
            unfold impl_setText.j2 at H
            refine g_region ?_
            show G _ _ _ (.inRegion _ [0, 1] :: _) _ _
            refine g_op (v := Value.int .i8 (i8w (x3 + 1))) rfl rfl rfl ?_
            show G _ _ _ _ [_, _, _, _, _, _, _, _, _, _, _, _, _, _, _, _, _, _, _, _, _] _
            refine g_op (v := Value.int .i8 (i8w (x3 + 1))) rfl rfl rfl ?_
            show G _ _ _ _ [_, _, _, _, _, _, _, _, _, _, _, _, _, _, _, _, _, _, _, _, _] _
            refine g_ops_nil ?_
            obtain rfl := Option.some.inj H
            have hs : St _ [] _ := St.take (Γ' := []) hs
            exact ih1_ _ _ ⟨x5, i8w (x3 + 1), Hx1_, rfl, hs⟩
          · intro ha
            refine g_seq ?_
            refine g_region ?_
            show G _ _ _ (.inRegion _ [0, 1] :: _) _ _
            refine g_op (v := Value.int .i8 x3) rfl rfl rfl ?_
            show G _ _ _ _ [_, _, _, _, _, _, _, _, _, _, _, _, _, _, _, _, _, _, _, _, _] _
            refine g_op (v := Value.int .i8 x3) rfl rfl rfl ?_
            show G _ _ _ _ [_, _, _, _, _, _, _, _, _, _, _, _, _, _, _, _, _, _, _, _, _] _
            refine g_ops_nil ?_
            refine g_seq ?_
            refine g_region ?_
            show G _ _ _ (.inRegion _ [0, 1, 2, 3, 4] :: _) _ _
            refine g_op (v := Value.int .u64 a1) rfl rfl rfl ?_
            show G _ _ _ _ [_, _, _, _, _, _, _, _, _, _, _, _, _, _, _, _, _, _, _, _, _] _
            refine g_op (v := Value.int .i8 x3) rfl rfl rfl ?_
            show G _ _ _ _ [_, _, _, _, _, _, _, _, _, _, _, _, _, _, _, _, _, _, _, _, _] _
            obtain ⟨g1, H⟩ := ite_get H
            refine g_op (v := Value.int .u64 (shrI .u64 a1 x3)) rfl rfl (x_shr rfl rfl rfl g1) ?_
            show G _ _ _ _ [_, _, _, _, _, _, _, _, _, _, _, _, _, _, _, _, _, _, _, _, _] _
            refine g_op (v := Value.int .u64 (bAnd .u64 (shrI .u64 a1 x3) 1)) rfl rfl rfl ?_
            show G _ _ _ _ [_, _, _, _, _, _, _, _, _, _, _, _, _, _, _, _, _, _, _, _, _] _
            refine g_op_b (B := (bAnd .u64 (shrI .u64 a1 x3) 1) == 1) rfl rfl rfl ?_ ?_
            · intro hb
              rw [if_pos (b_beq_t hb)] at H
              show G _ _ _ _ [_, _, _, _, _, _, _, _, _, _, _, _, _, _, _, _, _, _, _, _, _] _
              refine g_ops_nil ?_
              refine g_cond_true rfl ?_
              refine g_region ?_
              show G _ _ _ (.inRegion _ [0, 1, 2, 3, 4] :: _) _ _
              refine g_op (v := Value.string x2) rfl rfl rfl ?_
              show G _ _ _ _ [_, _, _, _, _, _, _, _, _, _, _, _, _, _, _, _, _, _, _, _, _] _
              refine g_op (v := Value.int .i8 x3) rfl rfl rfl ?_
              show G _ _ _ _ [_, _, _, _, _, _, _, _, _, _, _, _, _, _, _, _, _, _, _, _, _] _
              obtain ⟨r4, Hr4, H⟩ := bind_get H
              refine s_call (args := [Value.int .i8 x3]) rfl rfl (x_call rfl (callFunc_enter Try.func74 rfl rfl) rfl) (impl_letter.calls (a1 := x3) Hr4) ?_
              rintro _ w ⟨rfl, hs2⟩
              have hs : St _ [] _ := hs.call hs2
              show G _ _ _ _ [_, _, _, _, _, _, _, _, _, _, _, _, _, _, _, _, _, _, _, _, _] _
              obtain ⟨gs2, H⟩ := ite_get H
              refine g_op (v := Value.string (x2 ++ r4)) rfl rfl (x_cat rfl rfl rfl gs2) ?_
              show G _ _ _ _ [_, _, _, _, _, _, _, _, _, _, _, _, _, _, _, _, _, _, _, _, _] _
              refine g_op (v := Value.string (x2 ++ r4)) rfl rfl rfl ?_
              show G _ _ _ _ [_, _, _, _, _, _, _, _, _, _, _, _, _, _, _, _, _, _, _, _, _] _
              refine g_ops_nil ?_
              refine g_inBlock ?_
              have hs : St _ [] _ := St.take (Γ' := []) hs
              exact ha _ _ ⟨x2 ++ r4, H, rfl, hs⟩
            · intro hb
              rw [if_neg (b_beq_f hb)] at H
              show G _ _ _ _ [_, _, _, _, _, _, _, _, _, _, _, _, _, _, _, _, _, _, _, _, _] _
              refine g_ops_nil ?_
              refine g_cond_false rfl ?_
              refine g_skip ?_
              refine g_inBlock ?_
              have hs : St _ [] _ := St.take (Γ' := []) hs
              exact ha _ _ ⟨x2, H, rfl, hs⟩
        · intro hb
          rw [if_neg (b_dec_f hb)] at H
          show G _ _ _ _ [_, _, _, _, _, _, _, _, _, _, _, _, _, _, _, _, _, _, _, _, _] _
          refine g_ops_nil ?_
          refine g_seq ?_
          refine g_cond_false rfl ?_
          obtain rfl := Option.some.inj H
          subst Hx1_
          have hs : St _ [] _ := St.take (Γ' := []) hs
          refine g_exit rfl ?_
          exact ha1_ _ _ ⟨x2, Hr1_, rfl, hs⟩

/- function 68 spec_l07Asked -/
def spec_l07Asked.post (w0 : World) (r : Int) (v : Value) (w : World) : Prop := v = Value.int .i64 r ∧ St w0 [] w
set_option maxHeartbeats 400000 in
set_option maxRecDepth 100000 in
theorem spec_l07Asked.calls {N : Nat} {a1 : (List Int)} {a3 : (Ar Int 4)} {a4 : Int} {v2 : Value} {w0 : World} {r : Int} (hr0 : RdRow (K.int .i16) w0 v2 a1) (H : spec_l07Asked.f N a1 a3 a4 = some r) :
    Calls Try.prog 68 #[v2, Value.agg ((encA (encI .i16)) a3).toArray, Value.int .i64 a4] w0 fun e w => ∃ v, e = .returned v ∧ spec_l07Asked.post w0 r v w := by
  unfold spec_l07Asked.f at H
  have hs : St w0 [] w0 := St.refl w0
  refine calls_of_g (n := 11) Try.func68 rfl rfl ?_
  show G _ _ _ _ [_, _, _, _, _, _, _, _, _, _, _, _, _, _] _
  refine g_seq ?_
  refine g_region ?_
  show G _ _ _ (.inRegion _ [0, 1] :: _) _ _
  refine s_box hs rfl rfl (cs := ((encA (encI .i16)) a3)) rfl rfl ?_
  intro b5 w hs
  show G _ _ _ _ [_, _, _, _, _, _, _, _, _, _, _, _, _, _] _
  refine g_op (v := Value.int .i64 0) rfl rfl rfl ?_
  show G _ _ _ _ [_, _, _, _, _, _, _, _, _, _, _, _, _, _] _
  refine g_ops_nil ?_
  refine g_seq ?_
  refine g_seq ?_
  refine g_region ?_
  show G _ _ _ (.inRegion _ [0, 1, 2, 3] :: _) _ _
  refine g_op (v := v2) rfl rfl rfl ?_
  show G _ _ _ _ [_, _, _, _, _, _, _, _, _, _, _, _, _, _] _
  refine s_loadA rfl rfl (es := ((encA (encI .i16)) a3)) rfl rfl (fun _ => rfl) (n := 4) (fun _ => rfl) ((fkA (n := 4) (he := (fkI .i16).len) (h1 := (fkI .i16).one)).len _) (cells_all (hs.cells 0 rfl)) ?_
  show G _ _ _ _ [_, _, _, _, _, _, _, _, _, _, _, _, _, _] _
  obtain ⟨r7, Hr7, H⟩ := bind_get H
  refine s_call (args := [v2, Value.agg ((encA (encI .i16)) a3).toArray]) rfl rfl (x_call rfl (callFunc_enter Try.func53 rfl rfl) rfl) (spec_l07Ok.calls (a1 := a1) (a3 := a3) (hs.rd hr0) Hr7) ?_
  rintro _ w ⟨rfl, hs2⟩
  have hs : St _ [_] _ := hs.call hs2
  cases r7 with
  | true =>
    rw [if_pos rfl] at H
    show G _ _ _ _ [_, _, _, _, _, _, _, _, _, _, _, _, _, _] _
    refine g_op (v := Value.bool false) rfl rfl rfl ?_
    show G _ _ _ _ [_, _, _, _, _, _, _, _, _, _, _, _, _, _] _
    refine g_ops_nil ?_
    refine g_cond_false rfl ?_
    refine g_skip ?_
    refine g_seq ?_
    refine g_seq ?_
    refine g_region ?_
    show G _ _ _ (.inRegion _ [0, 1, 2] :: _) _ _
    refine g_op (v := Value.int .i64 a4) rfl rfl rfl ?_
    show G _ _ _ _ [_, _, _, _, _, _, _, _, _, _, _, _, _, _] _
    obtain ⟨r8, Hr8, H⟩ := bind_get H
    refine s_call (args := [Value.int .i64 a4, Value.int .i64 0, Value.int .i64 120]) rfl rfl (x_call rfl (callFunc_enter Try.func71 rfl rfl) rfl) (spec_l00In.calls (a1 := a4) (a2 := 0) (a3 := 120) Hr8) ?_
    rintro _ w ⟨rfl, hs2⟩
    have hs : St _ [_] _ := hs.call hs2
    cases r8 with
    | true =>
      rw [if_pos rfl] at H
      show G _ _ _ _ [_, _, _, _, _, _, _, _, _, _, _, _, _, _] _
      refine g_op (v := Value.bool false) rfl rfl rfl ?_
      show G _ _ _ _ [_, _, _, _, _, _, _, _, _, _, _, _, _, _] _
      refine g_ops_nil ?_
      refine g_cond_false rfl ?_
      refine g_skip ?_
      refine g_seq ?_
      refine g_region ?_
      show G _ _ _ (.inRegion _ [0] :: _) _ _
      refine g_op (v := Value.int .i64 0) rfl rfl rfl ?_
      show G _ _ _ _ [_, _, _, _, _, _, _, _, _, _, _, _, _, _] _
      refine g_ops_nil ?_
      obtain rfl := Option.some.inj H
      refine g_ret Try.func68 (v := Value.int .i64 0) (res1 rfl rfl) ?_
      have hs : St _ [] _ := St.take (Γ' := [_]) hs
      exact ⟨_, rfl, rfl, hs⟩
    | false =>
      rw [if_neg Bool.false_ne_true] at H
      show G _ _ _ _ [_, _, _, _, _, _, _, _, _, _, _, _, _, _] _
      refine g_op (v := Value.bool true) rfl rfl rfl ?_
      show G _ _ _ _ [_, _, _, _, _, _, _, _, _, _, _, _, _, _] _
      refine g_ops_nil ?_
      refine g_cond_true rfl ?_
      refine g_seq ?_
      refine g_region ?_
      show G _ _ _ (.inRegion _ [0] :: _) _ _
      refine g_op (v := Value.int .i64 2) rfl rfl rfl ?_
      show G _ _ _ _ [_, _, _, _, _, _, _, _, _, _, _, _, _, _] _
      refine g_ops_nil ?_
      obtain rfl := Option.some.inj H
      refine g_ret Try.func68 (v := Value.int .i64 2) (res1 rfl rfl) ?_
      have hs : St _ [] _ := St.take (Γ' := [_]) hs
      exact ⟨_, rfl, rfl, hs⟩
  | false =>
    rw [if_neg Bool.false_ne_true] at H
    show G _ _ _ _ [_, _, _, _, _, _, _, _, _, _, _, _, _, _] _
    refine g_op (v := Value.bool true) rfl rfl rfl ?_
    show G _ _ _ _ [_, _, _, _, _, _, _, _, _, _, _, _, _, _] _
    refine g_ops_nil ?_
    refine g_cond_true rfl ?_
    refine g_seq ?_
    refine g_region ?_
    show G _ _ _ (.inRegion _ [0] :: _) _ _
    refine g_op (v := Value.int .i64 1) rfl rfl rfl ?_
    show G _ _ _ _ [_, _, _, _, _, _, _, _, _, _, _, _, _, _] _
    refine g_ops_nil ?_
    obtain rfl := Option.some.inj H
    refine g_ret Try.func68 (v := Value.int .i64 1) (res1 rfl rfl) ?_
    have hs : St _ [] _ := St.take (Γ' := [_]) hs
    exact ⟨_, rfl, rfl, hs⟩

end Go.Proofs.YtgachgjcnmeicaaX
