/- Contracts, printed by gen.py. -/
import Derived.Test.YtgoblgmidejdgaaXC12
namespace Go.Proofs.YtgoblgmidejdgaaX
open Go Go.RowKit Go.Proofs
set_option linter.unusedVariables false
set_option linter.unusedSimpArgs false
/- function 56 spec_l05Proof -/
def spec_l05Proof.post (w0 : World) (r : Bool) (v : Value) (w : World) : Prop := v = Value.bool r ∧ St w0 [] w
set_option maxHeartbeats 400000 in
set_option maxRecDepth 100000 in
theorem spec_l05Proof.calls {N : Nat} {a1 : S_laws_Ferry} {a6 : (List Int)} {b2 : Nat} {v3 : Value} {v7 : Value} {w0 : World} {r : Bool} (hr4 : RdRow (K.int .u16) w0 v3 a1.f_Rules) (hp0 : w0.heap[b2]? = some (.cells ((([Value.int .i8 a1.f_Things, Value.int .i8 a1.f_Boat, v3] : List Value)) : List Value).toArray 32 (0, 0))) (hr1 : RdRow (K.int .i16) w0 v7 a6) (H : spec_l05Proof.f N a1 a6 = some r) :
    Calls Try.prog 56 #[Value.pointer (some ⟨b2, 0, none⟩), v7] w0 fun e w => ∃ v, e = .returned v ∧ spec_l05Proof.post w0 r v w := by
  unfold spec_l05Proof.f at H
  have hs : St w0 [] w0 := St.refl w0
  refine calls_of_g (n := 75) Try.func56 rfl rfl ?_
  show G _ _ _ _ [_, _, _, _, _, _, _, _, _, _, _, _, _, _, _, _, _, _, _, _, _, _, _, _, _, _, _, _, _, _, _, _, _, _, _, _, _, _, _, _, _, _, _, _, _, _, _, _, _, _, _, _, _, _, _, _, _, _, _, _, _, _, _, _, _, _, _, _, _, _, _, _, _, _, _, _, _] _
  refine g_seq ?_
  refine g_region ?_
  show G _ _ _ (.inRegion _ [0] :: _) _ _
  refine g_op (v := Value.bool false) rfl rfl rfl ?_
  show G _ _ _ _ [_, _, _, _, _, _, _, _, _, _, _, _, _, _, _, _, _, _, _, _, _, _, _, _, _, _, _, _, _, _, _, _, _, _, _, _, _, _, _, _, _, _, _, _, _, _, _, _, _, _, _, _, _, _, _, _, _, _, _, _, _, _, _, _, _, _, _, _, _, _, _, _, _, _, _, _, _] _
  refine g_ops_nil ?_
  refine g_seq ?_
  refine g_seq ?_
  refine g_region ?_
  show G _ _ _ (.inRegion _ [0, 1, 2, 3, 4, 5] :: _) _ _
  refine g_op (v := v7) rfl rfl rfl ?_
  show G _ _ _ _ [_, _, _, _, _, _, _, _, _, _, _, _, _, _, _, _, _, _, _, _, _, _, _, _, _, _, _, _, _, _, _, _, _, _, _, _, _, _, _, _, _, _, _, _, _, _, _, _, _, _, _, _, _, _, _, _, _, _, _, _, _, _, _, _, _, _, _, _, _, _, _, _, _, _, _, _, _] _
  refine g_op (v := Value.pointer (some ⟨b2, 0, none⟩)) rfl rfl rfl ?_
  show G _ _ _ _ [_, _, _, _, _, _, _, _, _, _, _, _, _, _, _, _, _, _, _, _, _, _, _, _, _, _, _, _, _, _, _, _, _, _, _, _, _, _, _, _, _, _, _, _, _, _, _, _, _, _, _, _, _, _, _, _, _, _, _, _, _, _, _, _, _, _, _, _, _, _, _, _, _, _, _, _, _] _
  obtain ⟨r8, Hr8, H⟩ := bind_get H
  refine s_call (args := [Value.pointer (some ⟨b2, 0, none⟩)]) rfl rfl (x_call rfl (callFunc_enter Try.func43 rfl rfl) rfl) (spec_l05All.calls (a1 := (⟨a1.f_Things, a1.f_Boat, a1.f_Rules⟩ : S_laws_Ferry)) (hs.rd hr4) (hs.box hp0) Hr8) ?_
  rintro _ w ⟨rfl, hs2⟩
  have hs : St _ [] _ := hs.call hs2
  show G _ _ _ _ [_, _, _, _, _, _, _, _, _, _, _, _, _, _, _, _, _, _, _, _, _, _, _, _, _, _, _, _, _, _, _, _, _, _, _, _, _, _, _, _, _, _, _, _, _, _, _, _, _, _, _, _, _, _, _, _, _, _, _, _, _, _, _, _, _, _, _, _, _, _, _, _, _, _, _, _, _] _
  obtain ⟨g1, H⟩ := ite_get H
  refine s_idx (fkI .i16) 0 (hs.rd hr1) rfl (fun _ => rfl) g1.1 g1.2 rfl rfl rfl rfl rfl ?_
  intro p9 hp9 lp9 op9
  show G _ _ _ _ [_, _, _, _, _, _, _, _, _, _, _, _, _, _, _, _, _, _, _, _, _, _, _, _, _, _, _, _, _, _, _, _, _, _, _, _, _, _, _, _, _, _, _, _, _, _, _, _, _, _, _, _, _, _, _, _, _, _, _, _, _, _, _, _, _, _, _, _, _, _, _, _, _, _, _, _, _] _
  refine s_load1 rfl rfl (v := Value.int .i16 (rdL a6 r8 0)) rfl rfl (fun _ => rfl) hp9 ?_
  show G _ _ _ _ [_, _, _, _, _, _, _, _, _, _, _, _, _, _, _, _, _, _, _, _, _, _, _, _, _, _, _, _, _, _, _, _, _, _, _, _, _, _, _, _, _, _, _, _, _, _, _, _, _, _, _, _, _, _, _, _, _, _, _, _, _, _, _, _, _, _, _, _, _, _, _, _, _, _, _, _, _] _
  refine g_op_b (B := (rdL a6 r8 0) != 0) rfl rfl rfl ?_ ?_
  · intro hb
    rw [if_neg (b_bne_t hb)] at H
    show G _ _ _ _ [_, _, _, _, _, _, _, _, _, _, _, _, _, _, _, _, _, _, _, _, _, _, _, _, _, _, _, _, _, _, _, _, _, _, _, _, _, _, _, _, _, _, _, _, _, _, _, _, _, _, _, _, _, _, _, _, _, _, _, _, _, _, _, _, _, _, _, _, _, _, _, _, _, _, _, _, _] _
    refine g_ops_nil ?_
    refine g_cond_true rfl ?_
    refine g_seq ?_
    refine g_region ?_
    show G _ _ _ (.inRegion _ [0] :: _) _ _
    refine g_op (v := Value.bool false) rfl rfl rfl ?_
    show G _ _ _ _ [_, _, _, _, _, _, _, _, _, _, _, _, _, _, _, _, _, _, _, _, _, _, _, _, _, _, _, _, _, _, _, _, _, _, _, _, _, _, _, _, _, _, _, _, _, _, _, _, _, _, _, _, _, _, _, _, _, _, _, _, _, _, _, _, _, _, _, _, _, _, _, _, _, _, _, _, _] _
    refine g_ops_nil ?_
    obtain rfl := Option.some.inj H
    refine g_ret Try.func56 (v := Value.bool false) (res1 rfl rfl) ?_
    have hs : St _ [] _ := St.take (Γ' := []) hs
    exact ⟨_, rfl, rfl, hs⟩
  · intro hb
    rw [if_pos (b_bne_f hb)] at H
    show G _ _ _ _ [_, _, _, _, _, _, _, _, _, _, _, _, _, _, _, _, _, _, _, _, _, _, _, _, _, _, _, _, _, _, _, _, _, _, _, _, _, _, _, _, _, _, _, _, _, _, _, _, _, _, _, _, _, _, _, _, _, _, _, _, _, _, _, _, _, _, _, _, _, _, _, _, _, _, _, _, _] _
    refine g_ops_nil ?_
    refine g_cond_false rfl ?_
    refine g_skip ?_
    refine g_seq ?_
    refine g_seq ?_
    refine g_region ?_
    show G _ _ _ (.inRegion _ [0] :: _) _ _
    refine g_op (v := Value.int .i64 0) rfl rfl rfl ?_
    show G _ _ _ _ [_, _, _, _, _, _, _, _, _, _, _, _, _, _, _, _, _, _, _, _, _, _, _, _, _, _, _, _, _, _, _, _, _, _, _, _, _, _, _, _, _, _, _, _, _, _, _, _, _, _, _, _, _, _, _, _, _, _, _, _, _, _, _, _, _, _, _, _, _, _, _, _, _, _, _, _, _] _
    refine g_ops_nil ?_
    obtain ⟨o1_, Ho, Hr1_⟩ := bind_get H
    refine g_block_join (J := fun t w => spec_l05Proof.a0 N = some r ∧ Fr t (fun O => ([O 0, O 1, O 2, O 3, O 4, O 5, O 6, O 7, O 8, O 9, O 10, O 11, O 12, O 13, O 14, O 15, O 16, O 17, O 18, O 19, O 20, O 21, O 22, O 23, O 24, O 25, O 26, O 27, O 28, O 29, O 30, O 31, O 32, O 33, O 34, O 35, O 36, O 37, O 38, O 39, O 40, O 41, O 42, O 43, O 44, O 45, O 46, O 47, O 48, O 49, O 50, O 51, O 52, O 53, O 54, O 55, O 56, O 57, O 58, O 59, O 60, O 61, O 62, O 63, O 64, O 65, O 66, O 67, O 68, O 69, O 70, O 71, O 72, O 73, O 74, O 75, O 76] : List Value)) ∧ St w0 [] w) ?_ ?_
    · rintro t w ⟨H, hf, hs⟩
      obtain ⟨O, rfl⟩ := hf.open
      show G _ _ _ _ [_, _, _, _, _, _, _, _, _, _, _, _, _, _, _, _, _, _, _, _, _, _, _, _, _, _, _, _, _, _, _, _, _, _, _, _, _, _, _, _, _, _, _, _, _, _, _, _, _, _, _, _, _, _, _, _, _, _, _, _, _, _, _, _, _, _, _, _, _, _, _, _, _, _, _, _, _] _
      unfold spec_l05Proof.a0 at H
      refine g_seq ?_
      refine g_region ?_
      show G _ _ _ (.inRegion _ [0] :: _) _ _
      refine g_op (v := Value.bool true) rfl rfl rfl ?_
      show G _ _ _ _ [_, _, _, _, _, _, _, _, _, _, _, _, _, _, _, _, _, _, _, _, _, _, _, _, _, _, _, _, _, _, _, _, _, _, _, _, _, _, _, _, _, _, _, _, _, _, _, _, _, _, _, _, _, _, _, _, _, _, _, _, _, _, _, _, _, _, _, _, _, _, _, _, _, _, _, _, _] _
      refine g_ops_nil ?_
      obtain rfl := Option.some.inj H
      refine g_ret Try.func56 (v := Value.bool true) (res1 rfl rfl) ?_
      have hs : St _ [] _ := St.take (Γ' := []) hs
      exact ⟨_, rfl, rfl, hs⟩
    · intro ha1_
      have hs : St _ [] _ := St.take (Γ' := []) hs
      refine g_loop_fuel (I := fun n_ t w => ∃ x10 : Int, rounds (fun s => spec_l05Proof.b0 N a6 a1 s) n_ x10 = some o1_ ∧ Fr t (fun O => ([Value.pointer (some ⟨b2, 0, none⟩), v7, O 2, O 3, O 4, Value.int .i64 x10, O 6, O 7, O 8, O 9, O 10, O 11, O 12, O 13, O 14, O 15, O 16, O 17, O 18, O 19, O 20, O 21, O 22, O 23, O 24, O 25, O 26, O 27, O 28, O 29, O 30, O 31, O 32, O 33, O 34, O 35, O 36, O 37, O 38, O 39, O 40, O 41, O 42, O 43, O 44, O 45, O 46, O 47, O 48, O 49, O 50, O 51, O 52, O 53, O 54, O 55, O 56, O 57, O 58, O 59, O 60, O 61, O 62, O 63, O 64, O 65, O 66, O 67, O 68, O 69, O 70, O 71, O 72, O 73, O 74, O 75, O 76] : List Value)) ∧ St w0 [] w) N ⟨0, Ho, rfl, hs⟩ ?_ ?_
      · rintro _ _ ⟨x10, h, _⟩
        exact rounds_zero h
      · intro n_ ih1_
        rintro t w ⟨x10, Ho, hf, hs⟩
        obtain ⟨O, rfl⟩ := hf.open
        show G _ _ _ _ [_, _, _, _, _, _, _, _, _, _, _, _, _, _, _, _, _, _, _, _, _, _, _, _, _, _, _, _, _, _, _, _, _, _, _, _, _, _, _, _, _, _, _, _, _, _, _, _, _, _, _, _, _, _, _, _, _, _, _, _, _, _, _, _, _, _, _, _, _, _, _, _, _, _, _, _, _] _
        obtain ⟨x7_, H, Hx1_⟩ := rounds_succ Ho
        have H : spec_l05Proof.b0 N a6 a1 x10 = some x7_ := H
        unfold spec_l05Proof.b0 at H
        refine g_seq ?_
        refine g_seq ?_
        refine g_region ?_
        show G _ _ _ (.inRegion _ [0, 1, 2, 3] :: _) _ _
        refine g_op (v := Value.int .i64 x10) rfl rfl rfl ?_
        show G _ _ _ _ [_, _, _, _, _, _, _, _, _, _, _, _, _, _, _, _, _, _, _, _, _, _, _, _, _, _, _, _, _, _, _, _, _, _, _, _, _, _, _, _, _, _, _, _, _, _, _, _, _, _, _, _, _, _, _, _, _, _, _, _, _, _, _, _, _, _, _, _, _, _, _, _, _, _, _, _, _] _
        refine g_op (v := v7) rfl rfl rfl ?_
        show G _ _ _ _ [_, _, _, _, _, _, _, _, _, _, _, _, _, _, _, _, _, _, _, _, _, _, _, _, _, _, _, _, _, _, _, _, _, _, _, _, _, _, _, _, _, _, _, _, _, _, _, _, _, _, _, _, _, _, _, _, _, _, _, _, _, _, _, _, _, _, _, _, _, _, _, _, _, _, _, _, _] _
        refine s_len (hs.rd hr1) rfl rfl rfl rfl rfl ?_
        show G _ _ _ _ [_, _, _, _, _, _, _, _, _, _, _, _, _, _, _, _, _, _, _, _, _, _, _, _, _, _, _, _, _, _, _, _, _, _, _, _, _, _, _, _, _, _, _, _, _, _, _, _, _, _, _, _, _, _, _, _, _, _, _, _, _, _, _, _, _, _, _, _, _, _, _, _, _, _, _, _, _] _
        refine g_op_b (B := decide (x10 < (a6.length : Int))) rfl rfl rfl ?_ ?_
        · intro hb
          rw [if_pos (b_dec_t hb)] at H
          show G _ _ _ _ [_, _, _, _, _, _, _, _, _, _, _, _, _, _, _, _, _, _, _, _, _, _, _, _, _, _, _, _, _, _, _, _, _, _, _, _, _, _, _, _, _, _, _, _, _, _, _, _, _, _, _, _, _, _, _, _, _, _, _, _, _, _, _, _, _, _, _, _, _, _, _, _, _, _, _, _, _] _
          refine g_ops_nil ?_
          refine g_cond_true rfl ?_
          refine g_skip ?_
          refine g_seq ?_
          refine g_block_join (J := (fun t w => spec_l05Proof.j2 N x10 = some x7_ ∧ Fr t (fun O => ([Value.pointer (some ⟨b2, 0, none⟩), v7, O 2, O 3, O 4, Value.int .i64 x10, O 6, O 7, O 8, O 9, O 10, O 11, O 12, O 13, O 14, O 15, O 16, O 17, O 18, O 19, O 20, O 21, O 22, O 23, O 24, O 25, O 26, O 27, O 28, O 29, O 30, O 31, O 32, O 33, O 34, O 35, O 36, O 37, O 38, O 39, O 40, O 41, O 42, O 43, O 44, O 45, O 46, O 47, O 48, O 49, O 50, O 51, O 52, O 53, O 54, O 55, O 56, O 57, O 58, O 59, O 60, O 61, O 62, O 63, O 64, O 65, O 66, O 67, O 68, O 69, O 70, O 71, O 72, O 73, O 74, O 75, O 76] : List Value)) ∧ St w0 [] w)) ?_ ?_
          · rintro t w ⟨H, hf, hs⟩
            obtain ⟨O, rfl⟩ := hf.open
            show G _ _ _ _ [_, _, _, _, _, _, _, _, _, _, _, _, _, _, _, _, _, _, _, _, _, _, _, _, _, _, _, _, _, _, _, _, _, _, _, _, _, _, _, _, _, _, _, _, _, _, _, _, _, _, _, _, _, _, _, _, _, _, _, _, _, _, _, _, _, _, _, _, _, _, _, _, _, _, _, _, _] _
            unfold spec_l05Proof.j2 at H
            refine g_region ?_
            show G _ _ _ (.inRegion _ [0, 1, 2] :: _) _ _
            refine g_op (v := Value.int .i64 x10) rfl rfl rfl ?_
            show G _ _ _ _ [_, _, _, _, _, _, _, _, _, _, _, _, _, _, _, _, _, _, _, _, _, _, _, _, _, _, _, _, _, _, _, _, _, _, _, _, _, _, _, _, _, _, _, _, _, _, _, _, _, _, _, _, _, _, _, _, _, _, _, _, _, _, _, _, _, _, _, _, _, _, _, _, _, _, _, _, _] _
            refine g_op (v := Value.int .i64 (i64w (x10 + 1))) rfl rfl rfl ?_
            show G _ _ _ _ [_, _, _, _, _, _, _, _, _, _, _, _, _, _, _, _, _, _, _, _, _, _, _, _, _, _, _, _, _, _, _, _, _, _, _, _, _, _, _, _, _, _, _, _, _, _, _, _, _, _, _, _, _, _, _, _, _, _, _, _, _, _, _, _, _, _, _, _, _, _, _, _, _, _, _, _, _] _
            refine g_op (v := Value.int .i64 (i64w (x10 + 1))) rfl rfl rfl ?_
            show G _ _ _ _ [_, _, _, _, _, _, _, _, _, _, _, _, _, _, _, _, _, _, _, _, _, _, _, _, _, _, _, _, _, _, _, _, _, _, _, _, _, _, _, _, _, _, _, _, _, _, _, _, _, _, _, _, _, _, _, _, _, _, _, _, _, _, _, _, _, _, _, _, _, _, _, _, _, _, _, _, _] _
            refine g_ops_nil ?_
            obtain rfl := Option.some.inj H
            have hs : St _ [] _ := St.take (Γ' := []) hs
            exact ih1_ _ _ ⟨i64w (x10 + 1), Hx1_, rfl, hs⟩
          · intro ha
            refine g_seq ?_
            refine g_region ?_
            show G _ _ _ (.inRegion _ [0, 1, 2, 3, 4, 5] :: _) _ _
            refine g_op (v := v7) rfl rfl rfl ?_
            show G _ _ _ _ [_, _, _, _, _, _, _, _, _, _, _, _, _, _, _, _, _, _, _, _, _, _, _, _, _, _, _, _, _, _, _, _, _, _, _, _, _, _, _, _, _, _, _, _, _, _, _, _, _, _, _, _, _, _, _, _, _, _, _, _, _, _, _, _, _, _, _, _, _, _, _, _, _, _, _, _, _] _
            refine g_op (v := Value.int .i64 x10) rfl rfl rfl ?_
            show G _ _ _ _ [_, _, _, _, _, _, _, _, _, _, _, _, _, _, _, _, _, _, _, _, _, _, _, _, _, _, _, _, _, _, _, _, _, _, _, _, _, _, _, _, _, _, _, _, _, _, _, _, _, _, _, _, _, _, _, _, _, _, _, _, _, _, _, _, _, _, _, _, _, _, _, _, _, _, _, _, _] _
            obtain ⟨g2, H⟩ := ite_get H
            refine s_idx (fkI .i16) 0 (hs.rd hr1) rfl (fun _ => rfl) g2.1 g2.2 rfl rfl rfl rfl rfl ?_
            intro p11 hp11 lp11 op11
            show G _ _ _ _ [_, _, _, _, _, _, _, _, _, _, _, _, _, _, _, _, _, _, _, _, _, _, _, _, _, _, _, _, _, _, _, _, _, _, _, _, _, _, _, _, _, _, _, _, _, _, _, _, _, _, _, _, _, _, _, _, _, _, _, _, _, _, _, _, _, _, _, _, _, _, _, _, _, _, _, _, _] _
            refine s_load1 rfl rfl (v := Value.int .i16 (rdL a6 x10 0)) rfl rfl (fun _ => rfl) hp11 ?_
            show G _ _ _ _ [_, _, _, _, _, _, _, _, _, _, _, _, _, _, _, _, _, _, _, _, _, _, _, _, _, _, _, _, _, _, _, _, _, _, _, _, _, _, _, _, _, _, _, _, _, _, _, _, _, _, _, _, _, _, _, _, _, _, _, _, _, _, _, _, _, _, _, _, _, _, _, _, _, _, _, _, _] _
            refine g_op (v := Value.int .i64 (i64w (rdL a6 x10 0))) rfl rfl rfl ?_
            show G _ _ _ _ [_, _, _, _, _, _, _, _, _, _, _, _, _, _, _, _, _, _, _, _, _, _, _, _, _, _, _, _, _, _, _, _, _, _, _, _, _, _, _, _, _, _, _, _, _, _, _, _, _, _, _, _, _, _, _, _, _, _, _, _, _, _, _, _, _, _, _, _, _, _, _, _, _, _, _, _, _] _
            refine g_op (v := Value.int .i64 (i64w (rdL a6 x10 0))) rfl rfl rfl ?_
            show G _ _ _ _ [_, _, _, _, _, _, _, _, _, _, _, _, _, _, _, _, _, _, _, _, _, _, _, _, _, _, _, _, _, _, _, _, _, _, _, _, _, _, _, _, _, _, _, _, _, _, _, _, _, _, _, _, _, _, _, _, _, _, _, _, _, _, _, _, _, _, _, _, _, _, _, _, _, _, _, _, _] _
            refine g_ops_nil ?_
            refine g_seq ?_
            refine g_seq ?_
            refine g_region ?_
            show G _ _ _ (.inRegion _ [0, 1] :: _) _ _
            refine g_op (v := Value.int .i64 (i64w (rdL a6 x10 0))) rfl rfl rfl ?_
            show G _ _ _ _ [_, _, _, _, _, _, _, _, _, _, _, _, _, _, _, _, _, _, _, _, _, _, _, _, _, _, _, _, _, _, _, _, _, _, _, _, _, _, _, _, _, _, _, _, _, _, _, _, _, _, _, _, _, _, _, _, _, _, _, _, _, _, _, _, _, _, _, _, _, _, _, _, _, _, _, _, _] _
            refine g_op_b (B := decide ((i64w (rdL a6 x10 0)) < (-1))) rfl rfl rfl ?_ ?_
            · intro hb
              rw [if_pos (b_dec_t hb)] at H
              show G _ _ _ _ [_, _, _, _, _, _, _, _, _, _, _, _, _, _, _, _, _, _, _, _, _, _, _, _, _, _, _, _, _, _, _, _, _, _, _, _, _, _, _, _, _, _, _, _, _, _, _, _, _, _, _, _, _, _, _, _, _, _, _, _, _, _, _, _, _, _, _, _, _, _, _, _, _, _, _, _, _] _
              refine g_ops_nil ?_
              refine g_cond_true rfl ?_
              refine g_seq ?_
              refine g_region ?_
              show G _ _ _ (.inRegion _ [0] :: _) _ _
              refine g_op (v := Value.bool false) rfl rfl rfl ?_
              show G _ _ _ _ [_, _, _, _, _, _, _, _, _, _, _, _, _, _, _, _, _, _, _, _, _, _, _, _, _, _, _, _, _, _, _, _, _, _, _, _, _, _, _, _, _, _, _, _, _, _, _, _, _, _, _, _, _, _, _, _, _, _, _, _, _, _, _, _, _, _, _, _, _, _, _, _, _, _, _, _, _] _
              refine g_ops_nil ?_
              obtain rfl := Option.some.inj H
              subst Hx1_
              have H := Option.some.inj Hr1_
              subst H
              refine g_ret Try.func56 (v := Value.bool false) (res1 rfl rfl) ?_
              have hs : St _ [] _ := St.take (Γ' := []) hs
              exact ⟨_, rfl, rfl, hs⟩
            · intro hb
              rw [if_neg (b_dec_f hb)] at H
              show G _ _ _ _ [_, _, _, _, _, _, _, _, _, _, _, _, _, _, _, _, _, _, _, _, _, _, _, _, _, _, _, _, _, _, _, _, _, _, _, _, _, _, _, _, _, _, _, _, _, _, _, _, _, _, _, _, _, _, _, _, _, _, _, _, _, _, _, _, _, _, _, _, _, _, _, _, _, _, _, _, _] _
              refine g_ops_nil ?_
              refine g_cond_false rfl ?_
              refine g_skip ?_
              refine g_seq ?_
              refine g_region ?_
              show G _ _ _ (.inRegion _ [0, 1, 2, 3, 4] :: _) _ _
              refine g_op (v := Value.pointer (some ⟨b2, 0, none⟩)) rfl rfl rfl ?_
              show G _ _ _ _ [_, _, _, _, _, _, _, _, _, _, _, _, _, _, _, _, _, _, _, _, _, _, _, _, _, _, _, _, _, _, _, _, _, _, _, _, _, _, _, _, _, _, _, _, _, _, _, _, _, _, _, _, _, _, _, _, _, _, _, _, _, _, _, _, _, _, _, _, _, _, _, _, _, _, _, _, _] _
              refine g_op (v := Value.int .i64 x10) rfl rfl rfl ?_
              show G _ _ _ _ [_, _, _, _, _, _, _, _, _, _, _, _, _, _, _, _, _, _, _, _, _, _, _, _, _, _, _, _, _, _, _, _, _, _, _, _, _, _, _, _, _, _, _, _, _, _, _, _, _, _, _, _, _, _, _, _, _, _, _, _, _, _, _, _, _, _, _, _, _, _, _, _, _, _, _, _, _] _
              obtain ⟨r12, Hr12, H⟩ := bind_get H
              refine s_call (args := [Value.pointer (some ⟨b2, 0, none⟩), Value.int .i64 x10]) rfl rfl (x_call rfl (callFunc_enter Try.func76 rfl rfl) rfl) (spec_l05At.calls (a1 := (⟨a1.f_Things, a1.f_Boat, a1.f_Rules⟩ : S_laws_Ferry)) (a6 := x10) (hs.rd hr4) (hs.box hp0) Hr12) ?_
              rintro _ w ⟨rfl, hs2⟩
              have hs : St _ [] _ := hs.call hs2
              show G _ _ _ _ [_, _, _, _, _, _, _, _, _, _, _, _, _, _, _, _, _, _, _, _, _, _, _, _, _, _, _, _, _, _, _, _, _, _, _, _, _, _, _, _, _, _, _, _, _, _, _, _, _, _, _, _, _, _, _, _, _, _, _, _, _, _, _, _, _, _, _, _, _, _, _, _, _, _, _, _, _] _
              refine s_alloc hs rfl rfl (z := (Value.agg #[Value.int .u16 0, Value.bool false])) (cs := (enc_S_impl_Bank z_S_impl_Bank)) rfl (fun _ => rfl) rfl ?_
              intro b13 w hs
              show G _ _ _ _ [_, _, _, _, _, _, _, _, _, _, _, _, _, _, _, _, _, _, _, _, _, _, _, _, _, _, _, _, _, _, _, _, _, _, _, _, _, _, _, _, _, _, _, _, _, _, _, _, _, _, _, _, _, _, _, _, _, _, _, _, _, _, _, _, _, _, _, _, _, _, _, _, _, _, _, _, _] _
              refine s_storeAll (n := 2) hs (fk_S_impl_Bank.len _) rfl rfl (vs := (enc_S_impl_Bank r12)) rfl rfl rfl (fun _ => rfl) (fk_S_impl_Bank.len _) (fk_S_impl_Bank.one _) ?_
              intro w hs
              refine g_ops_nil ?_
              refine g_seq ?_
              refine g_seq ?_
              refine g_region ?_
              show G _ _ _ (.inRegion _ [0, 1, 2, 3, 4, 5, 6, 7] :: _) _ _
              refine g_op (v := Value.int .i64 (i64w (rdL a6 x10 0))) rfl rfl rfl ?_
              show G _ _ _ _ [_, _, _, _, _, _, _, _, _, _, _, _, _, _, _, _, _, _, _, _, _, _, _, _, _, _, _, _, _, _, _, _, _, _, _, _, _, _, _, _, _, _, _, _, _, _, _, _, _, _, _, _, _, _, _, _, _, _, _, _, _, _, _, _, _, _, _, _, _, _, _, _, _, _, _, _, _] _
              refine g_op_b (B := decide ((i64w (rdL a6 x10 0)) < 0)) rfl rfl rfl ?_ ?_
              · intro hb
                rw [if_pos (b_dec_t hb)] at H
                show G _ _ _ _ [_, _, _, _, _, _, _, _, _, _, _, _, _, _, _, _, _, _, _, _, _, _, _, _, _, _, _, _, _, _, _, _, _, _, _, _, _, _, _, _, _, _, _, _, _, _, _, _, _, _, _, _, _, _, _, _, _, _, _, _, _, _, _, _, _, _, _, _, _, _, _, _, _, _, _, _, _] _
                refine g_op (v := Value.bool true) rfl rfl rfl ?_
                show G _ _ _ _ [_, _, _, _, _, _, _, _, _, _, _, _, _, _, _, _, _, _, _, _, _, _, _, _, _, _, _, _, _, _, _, _, _, _, _, _, _, _, _, _, _, _, _, _, _, _, _, _, _, _, _, _, _, _, _, _, _, _, _, _, _, _, _, _, _, _, _, _, _, _, _, _, _, _, _, _, _] _
                refine g_op_not rfl rfl ?_
                show G _ _ _ _ [_, _, _, _, _, _, _, _, _, _, _, _, _, _, _, _, _, _, _, _, _, _, _, _, _, _, _, _, _, _, _, _, _, _, _, _, _, _, _, _, _, _, _, _, _, _, _, _, _, _, _, _, _, _, _, _, _, _, _, _, _, _, _, _, _, _, _, _, _, _, _, _, _, _, _, _, _] _
                refine g_op_not rfl rfl ?_
                show G _ _ _ _ [_, _, _, _, _, _, _, _, _, _, _, _, _, _, _, _, _, _, _, _, _, _, _, _, _, _, _, _, _, _, _, _, _, _, _, _, _, _, _, _, _, _, _, _, _, _, _, _, _, _, _, _, _, _, _, _, _, _, _, _, _, _, _, _, _, _, _, _, _, _, _, _, _, _, _, _, _] _
                refine g_op_not rfl rfl ?_
                show G _ _ _ _ [_, _, _, _, _, _, _, _, _, _, _, _, _, _, _, _, _, _, _, _, _, _, _, _, _, _, _, _, _, _, _, _, _, _, _, _, _, _, _, _, _, _, _, _, _, _, _, _, _, _, _, _, _, _, _, _, _, _, _, _, _, _, _, _, _, _, _, _, _, _, _, _, _, _, _, _, _] _
                refine g_op_not rfl rfl ?_
                show G _ _ _ _ [_, _, _, _, _, _, _, _, _, _, _, _, _, _, _, _, _, _, _, _, _, _, _, _, _, _, _, _, _, _, _, _, _, _, _, _, _, _, _, _, _, _, _, _, _, _, _, _, _, _, _, _, _, _, _, _, _, _, _, _, _, _, _, _, _, _, _, _, _, _, _, _, _, _, _, _, _] _
                refine g_op (v := Value.bool true) rfl rfl rfl ?_
                show G _ _ _ _ [_, _, _, _, _, _, _, _, _, _, _, _, _, _, _, _, _, _, _, _, _, _, _, _, _, _, _, _, _, _, _, _, _, _, _, _, _, _, _, _, _, _, _, _, _, _, _, _, _, _, _, _, _, _, _, _, _, _, _, _, _, _, _, _, _, _, _, _, _, _, _, _, _, _, _, _, _] _
                refine g_ops_nil ?_
                refine g_cond_true rfl ?_
                refine g_exit rfl ?_
                have hs : St _ [] _ := St.take (Γ' := [_]) hs
                exact ha _ _ ⟨H, rfl, hs⟩
              · intro hb
                rw [if_neg (b_dec_f hb)] at H
                show G _ _ _ _ [_, _, _, _, _, _, _, _, _, _, _, _, _, _, _, _, _, _, _, _, _, _, _, _, _, _, _, _, _, _, _, _, _, _, _, _, _, _, _, _, _, _, _, _, _, _, _, _, _, _, _, _, _, _, _, _, _, _, _, _, _, _, _, _, _, _, _, _, _, _, _, _, _, _, _, _, _] _
                refine g_op (v := Value.bool false) rfl rfl rfl ?_
                show G _ _ _ _ [_, _, _, _, _, _, _, _, _, _, _, _, _, _, _, _, _, _, _, _, _, _, _, _, _, _, _, _, _, _, _, _, _, _, _, _, _, _, _, _, _, _, _, _, _, _, _, _, _, _, _, _, _, _, _, _, _, _, _, _, _, _, _, _, _, _, _, _, _, _, _, _, _, _, _, _, _] _
                refine g_op (v := Value.pointer (some ⟨b2, 0, none⟩)) rfl rfl rfl ?_
                show G _ _ _ _ [_, _, _, _, _, _, _, _, _, _, _, _, _, _, _, _, _, _, _, _, _, _, _, _, _, _, _, _, _, _, _, _, _, _, _, _, _, _, _, _, _, _, _, _, _, _, _, _, _, _, _, _, _, _, _, _, _, _, _, _, _, _, _, _, _, _, _, _, _, _, _, _, _, _, _, _, _] _
                refine s_loadA rfl rfl (es := (enc_S_impl_Bank r12)) rfl rfl (fun _ => rfl) (n := 2) (fun _ => rfl) (fk_S_impl_Bank.len _) (cells_all (hs.cells 0 rfl)) ?_
                show G _ _ _ _ [_, _, _, _, _, _, _, _, _, _, _, _, _, _, _, _, _, _, _, _, _, _, _, _, _, _, _, _, _, _, _, _, _, _, _, _, _, _, _, _, _, _, _, _, _, _, _, _, _, _, _, _, _, _, _, _, _, _, _, _, _, _, _, _, _, _, _, _, _, _, _, _, _, _, _, _, _] _
                obtain ⟨r15, Hr15, H⟩ := bind_get H
                refine s_call (args := [Value.pointer (some ⟨b2, 0, none⟩), Value.agg (enc_S_impl_Bank r12).toArray]) rfl rfl (x_call rfl (callFunc_enter Try.func49 rfl rfl) rfl) (spec_l05Bank.calls (a1 := (⟨a1.f_Things, a1.f_Boat, a1.f_Rules⟩ : S_laws_Ferry)) (a6 := r12) (hs.rd hr4) (hs.box hp0) Hr15) ?_
                rintro _ w ⟨rfl, hs2⟩
                have hs : St _ [_] _ := hs.call hs2
                cases r15 with
                | true =>
                  rw [if_pos rfl] at H
                  show G _ _ _ _ [_, _, _, _, _, _, _, _, _, _, _, _, _, _, _, _, _, _, _, _, _, _, _, _, _, _, _, _, _, _, _, _, _, _, _, _, _, _, _, _, _, _, _, _, _, _, _, _, _, _, _, _, _, _, _, _, _, _, _, _, _, _, _, _, _, _, _, _, _, _, _, _, _, _, _, _, _] _
                  refine g_op (v := Value.bool false) rfl rfl rfl ?_
                  show G _ _ _ _ [_, _, _, _, _, _, _, _, _, _, _, _, _, _, _, _, _, _, _, _, _, _, _, _, _, _, _, _, _, _, _, _, _, _, _, _, _, _, _, _, _, _, _, _, _, _, _, _, _, _, _, _, _, _, _, _, _, _, _, _, _, _, _, _, _, _, _, _, _, _, _, _, _, _, _, _, _] _
                  refine g_op (v := Value.bool false) rfl rfl rfl ?_
                  show G _ _ _ _ [_, _, _, _, _, _, _, _, _, _, _, _, _, _, _, _, _, _, _, _, _, _, _, _, _, _, _, _, _, _, _, _, _, _, _, _, _, _, _, _, _, _, _, _, _, _, _, _, _, _, _, _, _, _, _, _, _, _, _, _, _, _, _, _, _, _, _, _, _, _, _, _, _, _, _, _, _] _
                  refine g_ops_nil ?_
                  refine g_cond_false rfl ?_
                  refine g_skip ?_
                  refine g_seq ?_
                  refine g_region ?_
                  show G _ _ _ (.inRegion _ [0, 1, 2, 3] :: _) _ _
                  refine g_op (v := Value.pointer (some ⟨b2, 0, none⟩)) rfl rfl rfl ?_
                  show G _ _ _ _ [_, _, _, _, _, _, _, _, _, _, _, _, _, _, _, _, _, _, _, _, _, _, _, _, _, _, _, _, _, _, _, _, _, _, _, _, _, _, _, _, _, _, _, _, _, _, _, _, _, _, _, _, _, _, _, _, _, _, _, _, _, _, _, _, _, _, _, _, _, _, _, _, _, _, _, _, _] _
                  refine s_loadA rfl rfl (es := (enc_S_impl_Bank r12)) rfl rfl (fun _ => rfl) (n := 2) (fun _ => rfl) (fk_S_impl_Bank.len _) (cells_all (hs.cells 0 rfl)) ?_
                  show G _ _ _ _ [_, _, _, _, _, _, _, _, _, _, _, _, _, _, _, _, _, _, _, _, _, _, _, _, _, _, _, _, _, _, _, _, _, _, _, _, _, _, _, _, _, _, _, _, _, _, _, _, _, _, _, _, _, _, _, _, _, _, _, _, _, _, _, _, _, _, _, _, _, _, _, _, _, _, _, _, _] _
                  obtain ⟨r16, Hr16, H⟩ := bind_get H
                  refine s_call (args := [Value.pointer (some ⟨b2, 0, none⟩), Value.agg (enc_S_impl_Bank r12).toArray]) rfl rfl (x_call rfl (callFunc_enter Try.func50 rfl rfl) rfl) (spec_l05Loads.calls (a1 := (⟨a1.f_Things, a1.f_Boat, a1.f_Rules⟩ : S_laws_Ferry)) (a6 := r12) (hs.rd hr4) (hs.box hp0) Hr16) ?_
                  intro v17 w hs2
                  have hs : St _ [_, _] _ := hs.call hs2
                  show G _ _ _ _ [_, _, _, _, _, _, _, _, _, _, _, _, _, _, _, _, _, _, _, _, _, _, _, _, _, _, _, _, _, _, _, _, _, _, _, _, _, _, _, _, _, _, _, _, _, _, _, _, _, _, _, _, _, _, _, _, _, _, _, _, _, _, _, _, _, _, _, _, _, _, _, _, _, _, _, _, _] _
                  refine g_op (v := v17) rfl rfl rfl ?_
                  show G _ _ _ _ [_, _, _, _, _, _, _, _, _, _, _, _, _, _, _, _, _, _, _, _, _, _, _, _, _, _, _, _, _, _, _, _, _, _, _, _, _, _, _, _, _, _, _, _, _, _, _, _, _, _, _, _, _, _, _, _, _, _, _, _, _, _, _, _, _, _, _, _, _, _, _, _, _, _, _, _, _] _
                  refine g_ops_nil ?_
                  refine g_seq ?_
                  refine g_region ?_
                  show G _ _ _ (.inRegion _ [0] :: _) _ _
                  refine g_op (v := Value.int .i64 0) rfl rfl rfl ?_
                  show G _ _ _ _ [_, _, _, _, _, _, _, _, _, _, _, _, _, _, _, _, _, _, _, _, _, _, _, _, _, _, _, _, _, _, _, _, _, _, _, _, _, _, _, _, _, _, _, _, _, _, _, _, _, _, _, _, _, _, _, _, _, _, _, _, _, _, _, _, _, _, _, _, _, _, _, _, _, _, _, _, _] _
                  refine g_ops_nil ?_
                  obtain ⟨o2_, Ho, Hr2_⟩ := bind_get H
                  refine g_block_join (J := fun t w => spec_l05Proof.a3 N x10 = some x7_ ∧ Fr t (fun O => ([Value.pointer (some ⟨b2, 0, none⟩), v7, O 2, O 3, O 4, Value.int .i64 x10, O 6, O 7, O 8, O 9, O 10, O 11, O 12, O 13, O 14, O 15, O 16, O 17, O 18, O 19, O 20, O 21, O 22, O 23, O 24, O 25, O 26, O 27, O 28, O 29, O 30, O 31, O 32, O 33, O 34, O 35, O 36, O 37, Value.pointer (some ⟨b2, 0, none⟩), Value.agg (enc_S_impl_Bank r12).toArray, Value.bool true, Value.bool false, O 42, O 43, O 44, O 45, O 46, O 47, O 48, O 49, O 50, O 51, O 52, O 53, O 54, O 55, O 56, O 57, O 58, O 59, O 60, O 61, O 62, O 63, O 64, O 65, O 66, O 67, O 68, O 69, O 70, O 71, O 72, O 73, O 74, O 75, O 76] : List Value)) ∧ St w0 [] w) ?_ ?_
                  · rintro t w ⟨H, hf, hs⟩
                    obtain ⟨O, rfl⟩ := hf.open
                    show G _ _ _ _ [_, _, _, _, _, _, _, _, _, _, _, _, _, _, _, _, _, _, _, _, _, _, _, _, _, _, _, _, _, _, _, _, _, _, _, _, _, _, _, _, _, _, _, _, _, _, _, _, _, _, _, _, _, _, _, _, _, _, _, _, _, _, _, _, _, _, _, _, _, _, _, _, _, _, _, _, _] _
                    unfold spec_l05Proof.a3 at H
                    refine g_inBlock ?_
                    have hs : St _ [] _ := St.take (Γ' := []) hs
                    exact ha _ _ ⟨H, rfl, hs⟩
                  · intro ha2_
                    have hs := hs.pull 0 rfl
                    have hs := hs.pull 1 rfl
                    have hs : St _ [_, _] _ := St.take (Γ' := []) hs
                    refine g_loop_fuel (I := fun n_ t w => ∃ x19 : Int, rounds (fun s => spec_l05Proof.b3 N r16 a1 r12 a6 x10 s) n_ x19 = some o2_ ∧ Fr t (fun O => ([Value.pointer (some ⟨b2, 0, none⟩), v7, O 2, O 3, O 4, Value.int .i64 x10, Value.int .i64 (i64w (rdL a6 x10 0)), Value.pointer (some ⟨b13, 0, none⟩), v17, Value.int .i64 x19, O 10, O 11, O 12, O 13, O 14, O 15, O 16, O 17, O 18, O 19, O 20, O 21, O 22, O 23, O 24, O 25, O 26, O 27, O 28, O 29, O 30, O 31, O 32, O 33, O 34, O 35, O 36, O 37, Value.pointer (some ⟨b2, 0, none⟩), Value.agg (enc_S_impl_Bank r12).toArray, Value.bool true, Value.bool false, O 42, O 43, O 44, O 45, O 46, O 47, O 48, O 49, O 50, O 51, O 52, O 53, O 54, O 55, O 56, O 57, O 58, O 59, O 60, O 61, O 62, O 63, O 64, O 65, O 66, O 67, O 68, O 69, O 70, O 71, O 72, O 73, O 74, O 75, O 76] : List Value)) ∧ St w0 [Cells b13 (enc_S_impl_Bank r12) 29, Row 27 (K.int .u16) v17 r16] w) N ⟨0, Ho, rfl, hs⟩ ?_ ?_
                    · rintro _ _ ⟨x19, h, _⟩
                      exact rounds_zero h
                    · intro n_ ih2_
                      rintro t w ⟨x19, Ho, hf, hs⟩
                      obtain ⟨O, rfl⟩ := hf.open
                      show G _ _ _ _ [_, _, _, _, _, _, _, _, _, _, _, _, _, _, _, _, _, _, _, _, _, _, _, _, _, _, _, _, _, _, _, _, _, _, _, _, _, _, _, _, _, _, _, _, _, _, _, _, _, _, _, _, _, _, _, _, _, _, _, _, _, _, _, _, _, _, _, _, _, _, _, _, _, _, _, _, _] _
                      obtain ⟨x6_, H, Hx2_⟩ := rounds_succ Ho
                      have H : spec_l05Proof.b3 N r16 a1 r12 a6 x10 x19 = some x6_ := H
                      unfold spec_l05Proof.b3 at H
                      refine g_seq ?_
                      refine g_seq ?_
                      refine g_region ?_
                      show G _ _ _ (.inRegion _ [0, 1, 2, 3] :: _) _ _
                      refine g_op (v := Value.int .i64 x19) rfl rfl rfl ?_
                      show G _ _ _ _ [_, _, _, _, _, _, _, _, _, _, _, _, _, _, _, _, _, _, _, _, _, _, _, _, _, _, _, _, _, _, _, _, _, _, _, _, _, _, _, _, _, _, _, _, _, _, _, _, _, _, _, _, _, _, _, _, _, _, _, _, _, _, _, _, _, _, _, _, _, _, _, _, _, _, _, _, _] _
                      refine g_op (v := v17) rfl rfl rfl ?_
                      show G _ _ _ _ [_, _, _, _, _, _, _, _, _, _, _, _, _, _, _, _, _, _, _, _, _, _, _, _, _, _, _, _, _, _, _, _, _, _, _, _, _, _, _, _, _, _, _, _, _, _, _, _, _, _, _, _, _, _, _, _, _, _, _, _, _, _, _, _, _, _, _, _, _, _, _, _, _, _, _, _, _] _
                      refine s_len (hs.row 1 rfl) rfl rfl rfl rfl rfl ?_
                      show G _ _ _ _ [_, _, _, _, _, _, _, _, _, _, _, _, _, _, _, _, _, _, _, _, _, _, _, _, _, _, _, _, _, _, _, _, _, _, _, _, _, _, _, _, _, _, _, _, _, _, _, _, _, _, _, _, _, _, _, _, _, _, _, _, _, _, _, _, _, _, _, _, _, _, _, _, _, _, _, _, _] _
                      refine g_op_b (B := decide (x19 < (r16.length : Int))) rfl rfl rfl ?_ ?_
                      · intro hb
                        rw [if_pos (b_dec_t hb)] at H
                        show G _ _ _ _ [_, _, _, _, _, _, _, _, _, _, _, _, _, _, _, _, _, _, _, _, _, _, _, _, _, _, _, _, _, _, _, _, _, _, _, _, _, _, _, _, _, _, _, _, _, _, _, _, _, _, _, _, _, _, _, _, _, _, _, _, _, _, _, _, _, _, _, _, _, _, _, _, _, _, _, _, _] _
                        refine g_ops_nil ?_
                        refine g_cond_true rfl ?_
                        refine g_skip ?_
                        refine g_seq ?_
                        refine g_block ?_
                        refine g_seq ?_
                        obtain ⟨gd3, H⟩ := ite_get H
                        obtain ⟨ad4_, ad4_N, ad4_C, had4_⟩ := sl_at (hs.row 1 rfl) gd3.1 gd3.2
                        obtain ⟨r20, Hr20, H⟩ := bind_get H
                        refine g_name ?_
                        intro T hT
                        refine g_any (n := 13) rfl [0, 1, 2, 3, 4, 5, 6, 7, 8, 9, 10, 11, 12] [0, 1, 2, 3, 4, 5, 6, 7, 8, 11, 9, 10, 12] rfl rfl (Inv := fun D t w => ∃ b21 : Nat, ∃ O : Nat → Value, t = [Value.pointer (some ⟨b2, 0, none⟩), v7, O 2, O 3, O 4, Value.int .i64 x10, Value.int .i64 (i64w (rdL a6 x10 0)), Value.pointer (some ⟨b13, 0, none⟩), v17, Value.int .i64 x19, cnd (D 10) (Value.pointer (some ⟨b21, 0, none⟩)) (O 10), cnd (D 12) (Value.int .i64 r20.2) (O 11), O 12, O 13, O 14, O 15, O 16, O 17, O 18, O 19, O 20, O 21, O 22, O 23, O 24, O 25, O 26, O 27, O 28, O 29, O 30, O 31, O 32, O 33, O 34, O 35, O 36, O 37, Value.pointer (some ⟨b2, 0, none⟩), Value.agg (enc_S_impl_Bank r12).toArray, Value.bool true, Value.bool false, O 42, O 43, O 44, O 45, Value.int .i64 x19, v17, Value.int .i64 (r16.length : Int), Value.bool true, O 50, O 51, cnd (D 7) (Value.tuple #[Value.agg (enc_S_impl_Bank r20.1).toArray, Value.int .i64 r20.2]) (O 52), cnd (D 0) (Value.pointer (some ⟨b2, 0, none⟩)) (O 53), cnd (D 1) (Value.agg (enc_S_impl_Bank r12).toArray) (O 54), cnd (D 2) v17 (O 55), cnd (D 3) (Value.int .i64 x19) (O 56), cnd (D 4) (Value.pointer (some (ad4_.add (x19.toNat * 1)))) (O 57), cnd (D 5) (Value.int .u16 (rdL r16 x19 0)) (O 58), cnd (D 6) (Value.tuple #[Value.agg (enc_S_impl_Bank r20.1).toArray, Value.int .i64 r20.2]) (O 59), cnd (D 8) (Value.agg (enc_S_impl_Bank r20.1).toArray) (O 60), cnd (D 9) (Value.int .i64 r20.2) (O 61), O 62, O 63, O 64, O 65, O 66, O 67, O 68, O 69, O 70, O 71, O 72, O 73, O 74, O 75, O 76] ∧ St w0 [Asc (D 10) (Cells b21 (cnd (D 11) (enc_S_impl_Bank r20.1) (enc_S_impl_Bank z_S_impl_Bank)) 29), Cells b13 (enc_S_impl_Bank r12) 29, Row 27 (K.int .u16) v17 r16] w) ?_ ⟨⟨⟨⟨⟨⟨⟨⟨⟨⟨⟨⟨⟨trivial, ?_⟩, ?_⟩, ?_⟩, ?_⟩, ?_⟩, ?_⟩, ?_⟩, ?_⟩, ?_⟩, ?_⟩, ?_⟩, ?_⟩, ?_⟩ ?_
                        · intro w hh hbw
                          have hs := hs.samew hh hbw
                          have hs := hs.emp
                          exact ⟨0, fun i => T.getD i undef, (by subst hT; rfl), hs⟩
                        · intro D t w hD hp hcl hI rest hk
                          obtain ⟨b21, O, ht, hs⟩ := hI
                          have q6_ : D 6 = false := not_yet (hcl.get 6 (by decide)) 0 0 rfl hD
                          have q7_ : D 7 = false := not_yet (hcl.get 7 (by decide)) 0 6 rfl q6_
                          have q8_ : D 8 = false := not_yet (hcl.get 8 (by decide)) 0 7 rfl q7_
                          have q9_ : D 9 = false := not_yet (hcl.get 9 (by decide)) 0 7 rfl q7_
                          have q11_ : D 11 = false := not_yet (hcl.get 11 (by decide)) 1 8 rfl q8_
                          have q12_ : D 12 = false := not_yet (hcl.get 12 (by decide)) 0 9 rfl q9_
                          have u0_ : upd D 0 0 = true := rfl
                          have u1_ : upd D 0 1 = D 1 := rfl
                          have u2_ : upd D 0 2 = D 2 := rfl
                          have u3_ : upd D 0 3 = D 3 := rfl
                          have u4_ : upd D 0 4 = D 4 := rfl
                          have u5_ : upd D 0 5 = D 5 := rfl
                          have u6_ : upd D 0 6 = D 6 := rfl
                          have u7_ : upd D 0 7 = D 7 := rfl
                          have u8_ : upd D 0 8 = D 8 := rfl
                          have u9_ : upd D 0 9 = D 9 := rfl
                          have u10_ : upd D 0 10 = D 10 := rfl
                          have u11_ : upd D 0 11 = D 11 := rfl
                          have u12_ : upd D 0 12 = D 12 := rfl
                          simp only [hD, q6_, q7_, q8_, q9_, q11_, q12_, cnd_t, cnd_f, Asc_t, Asc_f] at ht hs
                          subst ht
                          refine g_op (v := Value.pointer (some ⟨b2, 0, none⟩)) rfl rfl rfl ?_
                          show G _ _ _ _ [_, _, _, _, _, _, _, _, _, _, _, _, _, _, _, _, _, _, _, _, _, _, _, _, _, _, _, _, _, _, _, _, _, _, _, _, _, _, _, _, _, _, _, _, _, _, _, _, _, _, _, _, _, _, _, _, _, _, _, _, _, _, _, _, _, _, _, _, _, _, _, _, _, _, _, _, _] _
                          exact hk _ _ ⟨b21, O, (by simp only [u0_, u1_, u2_, u3_, u4_, u5_, u6_, u7_, u8_, u9_, u10_, u11_, u12_, q6_, q7_, q8_, q9_, q11_, q12_, cnd_t, cnd_f, Asc_t, Asc_f]), hs.cast (by first | rfl | simp only [List.take, List.drop, List.cons_append, List.nil_append, List.set_cons_zero, List.set_cons_succ, List.eraseIdx, u0_, u1_, u2_, u3_, u4_, u5_, u6_, u7_, u8_, u9_, u10_, u11_, u12_, q6_, q7_, q8_, q9_, q11_, q12_, cnd_t, cnd_f, Asc_t, Asc_f])⟩
                        · intro D t w hD hp hcl hI rest hk
                          obtain ⟨b21, O, ht, hs⟩ := hI
                          have q6_ : D 6 = false := not_yet (hcl.get 6 (by decide)) 1 1 rfl hD
                          have q7_ : D 7 = false := not_yet (hcl.get 7 (by decide)) 0 6 rfl q6_
                          have q8_ : D 8 = false := not_yet (hcl.get 8 (by decide)) 0 7 rfl q7_
                          have q9_ : D 9 = false := not_yet (hcl.get 9 (by decide)) 0 7 rfl q7_
                          have q11_ : D 11 = false := not_yet (hcl.get 11 (by decide)) 1 8 rfl q8_
                          have q12_ : D 12 = false := not_yet (hcl.get 12 (by decide)) 0 9 rfl q9_
                          have u0_ : upd D 1 0 = D 0 := rfl
                          have u1_ : upd D 1 1 = true := rfl
                          have u2_ : upd D 1 2 = D 2 := rfl
                          have u3_ : upd D 1 3 = D 3 := rfl
                          have u4_ : upd D 1 4 = D 4 := rfl
                          have u5_ : upd D 1 5 = D 5 := rfl
                          have u6_ : upd D 1 6 = D 6 := rfl
                          have u7_ : upd D 1 7 = D 7 := rfl
                          have u8_ : upd D 1 8 = D 8 := rfl
                          have u9_ : upd D 1 9 = D 9 := rfl
                          have u10_ : upd D 1 10 = D 10 := rfl
                          have u11_ : upd D 1 11 = D 11 := rfl
                          have u12_ : upd D 1 12 = D 12 := rfl
                          simp only [hD, q6_, q7_, q8_, q9_, q11_, q12_, cnd_t, cnd_f, Asc_t, Asc_f] at ht hs
                          subst ht
                          refine s_loadA rfl rfl (es := (enc_S_impl_Bank r12)) rfl rfl (fun _ => rfl) (n := 2) (fun _ => rfl) (fk_S_impl_Bank.len _) (cells_all (hs.cells 1 rfl)) ?_
                          show G _ _ _ _ [_, _, _, _, _, _, _, _, _, _, _, _, _, _, _, _, _, _, _, _, _, _, _, _, _, _, _, _, _, _, _, _, _, _, _, _, _, _, _, _, _, _, _, _, _, _, _, _, _, _, _, _, _, _, _, _, _, _, _, _, _, _, _, _, _, _, _, _, _, _, _, _, _, _, _, _, _] _
                          exact hk _ _ ⟨b21, O, (by simp only [u0_, u1_, u2_, u3_, u4_, u5_, u6_, u7_, u8_, u9_, u10_, u11_, u12_, q6_, q7_, q8_, q9_, q11_, q12_, cnd_t, cnd_f, Asc_t, Asc_f]), hs.cast (by first | rfl | simp only [List.take, List.drop, List.cons_append, List.nil_append, List.set_cons_zero, List.set_cons_succ, List.eraseIdx, u0_, u1_, u2_, u3_, u4_, u5_, u6_, u7_, u8_, u9_, u10_, u11_, u12_, q6_, q7_, q8_, q9_, q11_, q12_, cnd_t, cnd_f, Asc_t, Asc_f])⟩
                        · intro D t w hD hp hcl hI rest hk
                          obtain ⟨b21, O, ht, hs⟩ := hI
                          have q4_ : D 4 = false := not_yet (hcl.get 4 (by decide)) 0 2 rfl hD
                          have q5_ : D 5 = false := not_yet (hcl.get 5 (by decide)) 0 4 rfl q4_
                          have q6_ : D 6 = false := not_yet (hcl.get 6 (by decide)) 2 5 rfl q5_
                          have q7_ : D 7 = false := not_yet (hcl.get 7 (by decide)) 0 6 rfl q6_
                          have q8_ : D 8 = false := not_yet (hcl.get 8 (by decide)) 0 7 rfl q7_
                          have q9_ : D 9 = false := not_yet (hcl.get 9 (by decide)) 0 7 rfl q7_
                          have q11_ : D 11 = false := not_yet (hcl.get 11 (by decide)) 1 8 rfl q8_
                          have q12_ : D 12 = false := not_yet (hcl.get 12 (by decide)) 0 9 rfl q9_
                          have u0_ : upd D 2 0 = D 0 := rfl
                          have u1_ : upd D 2 1 = D 1 := rfl
                          have u2_ : upd D 2 2 = true := rfl
                          have u3_ : upd D 2 3 = D 3 := rfl
                          have u4_ : upd D 2 4 = D 4 := rfl
                          have u5_ : upd D 2 5 = D 5 := rfl
                          have u6_ : upd D 2 6 = D 6 := rfl
                          have u7_ : upd D 2 7 = D 7 := rfl
                          have u8_ : upd D 2 8 = D 8 := rfl
                          have u9_ : upd D 2 9 = D 9 := rfl
                          have u10_ : upd D 2 10 = D 10 := rfl
                          have u11_ : upd D 2 11 = D 11 := rfl
                          have u12_ : upd D 2 12 = D 12 := rfl
                          simp only [hD, q4_, q5_, q6_, q7_, q8_, q9_, q11_, q12_, cnd_t, cnd_f, Asc_t, Asc_f] at ht hs
                          subst ht
                          refine g_op (v := v17) rfl rfl rfl ?_
                          show G _ _ _ _ [_, _, _, _, _, _, _, _, _, _, _, _, _, _, _, _, _, _, _, _, _, _, _, _, _, _, _, _, _, _, _, _, _, _, _, _, _, _, _, _, _, _, _, _, _, _, _, _, _, _, _, _, _, _, _, _, _, _, _, _, _, _, _, _, _, _, _, _, _, _, _, _, _, _, _, _, _] _
                          exact hk _ _ ⟨b21, O, (by simp only [u0_, u1_, u2_, u3_, u4_, u5_, u6_, u7_, u8_, u9_, u10_, u11_, u12_, q4_, q5_, q6_, q7_, q8_, q9_, q11_, q12_, cnd_t, cnd_f, Asc_t, Asc_f]), hs.cast (by first | rfl | simp only [List.take, List.drop, List.cons_append, List.nil_append, List.set_cons_zero, List.set_cons_succ, List.eraseIdx, u0_, u1_, u2_, u3_, u4_, u5_, u6_, u7_, u8_, u9_, u10_, u11_, u12_, q4_, q5_, q6_, q7_, q8_, q9_, q11_, q12_, cnd_t, cnd_f, Asc_t, Asc_f])⟩
                        · intro D t w hD hp hcl hI rest hk
                          obtain ⟨b21, O, ht, hs⟩ := hI
                          have q4_ : D 4 = false := not_yet (hcl.get 4 (by decide)) 1 3 rfl hD
                          have q5_ : D 5 = false := not_yet (hcl.get 5 (by decide)) 0 4 rfl q4_
                          have q6_ : D 6 = false := not_yet (hcl.get 6 (by decide)) 2 5 rfl q5_
                          have q7_ : D 7 = false := not_yet (hcl.get 7 (by decide)) 0 6 rfl q6_
                          have q8_ : D 8 = false := not_yet (hcl.get 8 (by decide)) 0 7 rfl q7_
                          have q9_ : D 9 = false := not_yet (hcl.get 9 (by decide)) 0 7 rfl q7_
                          have q11_ : D 11 = false := not_yet (hcl.get 11 (by decide)) 1 8 rfl q8_
                          have q12_ : D 12 = false := not_yet (hcl.get 12 (by decide)) 0 9 rfl q9_
                          have u0_ : upd D 3 0 = D 0 := rfl
                          have u1_ : upd D 3 1 = D 1 := rfl
                          have u2_ : upd D 3 2 = D 2 := rfl
                          have u3_ : upd D 3 3 = true := rfl
                          have u4_ : upd D 3 4 = D 4 := rfl
                          have u5_ : upd D 3 5 = D 5 := rfl
                          have u6_ : upd D 3 6 = D 6 := rfl
                          have u7_ : upd D 3 7 = D 7 := rfl
                          have u8_ : upd D 3 8 = D 8 := rfl
                          have u9_ : upd D 3 9 = D 9 := rfl
                          have u10_ : upd D 3 10 = D 10 := rfl
                          have u11_ : upd D 3 11 = D 11 := rfl
                          have u12_ : upd D 3 12 = D 12 := rfl
                          simp only [hD, q4_, q5_, q6_, q7_, q8_, q9_, q11_, q12_, cnd_t, cnd_f, Asc_t, Asc_f] at ht hs
                          subst ht
                          refine g_op (v := Value.int .i64 x19) rfl rfl rfl ?_
                          show G _ _ _ _ [_, _, _, _, _, _, _, _, _, _, _, _, _, _, _, _, _, _, _, _, _, _, _, _, _, _, _, _, _, _, _, _, _, _, _, _, _, _, _, _, _, _, _, _, _, _, _, _, _, _, _, _, _, _, _, _, _, _, _, _, _, _, _, _, _, _, _, _, _, _, _, _, _, _, _, _, _] _
                          exact hk _ _ ⟨b21, O, (by simp only [u0_, u1_, u2_, u3_, u4_, u5_, u6_, u7_, u8_, u9_, u10_, u11_, u12_, q4_, q5_, q6_, q7_, q8_, q9_, q11_, q12_, cnd_t, cnd_f, Asc_t, Asc_f]), hs.cast (by first | rfl | simp only [List.take, List.drop, List.cons_append, List.nil_append, List.set_cons_zero, List.set_cons_succ, List.eraseIdx, u0_, u1_, u2_, u3_, u4_, u5_, u6_, u7_, u8_, u9_, u10_, u11_, u12_, q4_, q5_, q6_, q7_, q8_, q9_, q11_, q12_, cnd_t, cnd_f, Asc_t, Asc_f])⟩
                        · intro D t w hD hp hcl hI rest hk
                          obtain ⟨b21, O, ht, hs⟩ := hI
                          obtain ⟨p2_, p3_, _⟩ := hp
                          have q5_ : D 5 = false := not_yet (hcl.get 5 (by decide)) 0 4 rfl hD
                          have q6_ : D 6 = false := not_yet (hcl.get 6 (by decide)) 2 5 rfl q5_
                          have q7_ : D 7 = false := not_yet (hcl.get 7 (by decide)) 0 6 rfl q6_
                          have q8_ : D 8 = false := not_yet (hcl.get 8 (by decide)) 0 7 rfl q7_
                          have q9_ : D 9 = false := not_yet (hcl.get 9 (by decide)) 0 7 rfl q7_
                          have q11_ : D 11 = false := not_yet (hcl.get 11 (by decide)) 1 8 rfl q8_
                          have q12_ : D 12 = false := not_yet (hcl.get 12 (by decide)) 0 9 rfl q9_
                          have u0_ : upd D 4 0 = D 0 := rfl
                          have u1_ : upd D 4 1 = D 1 := rfl
                          have u2_ : upd D 4 2 = D 2 := rfl
                          have u3_ : upd D 4 3 = D 3 := rfl
                          have u4_ : upd D 4 4 = true := rfl
                          have u5_ : upd D 4 5 = D 5 := rfl
                          have u6_ : upd D 4 6 = D 6 := rfl
                          have u7_ : upd D 4 7 = D 7 := rfl
                          have u8_ : upd D 4 8 = D 8 := rfl
                          have u9_ : upd D 4 9 = D 9 := rfl
                          have u10_ : upd D 4 10 = D 10 := rfl
                          have u11_ : upd D 4 11 = D 11 := rfl
                          have u12_ : upd D 4 12 = D 12 := rfl
                          simp only [hD, p2_, p3_, q5_, q6_, q7_, q8_, q9_, q11_, q12_, cnd_t, cnd_f, Asc_t, Asc_f] at ht hs
                          subst ht
                          refine s_idxD (κ := (K.int .u16)) (m := 1) rfl (hs.row 2 rfl) rfl (fun _ => rfl) gd3.1 gd3.2 had4_ rfl rfl rfl rfl rfl ?_
                          show G _ _ _ _ [_, _, _, _, _, _, _, _, _, _, _, _, _, _, _, _, _, _, _, _, _, _, _, _, _, _, _, _, _, _, _, _, _, _, _, _, _, _, _, _, _, _, _, _, _, _, _, _, _, _, _, _, _, _, _, _, _, _, _, _, _, _, _, _, _, _, _, _, _, _, _, _, _, _, _, _, _] _
                          exact hk _ _ ⟨b21, O, (by simp only [u0_, u1_, u2_, u3_, u4_, u5_, u6_, u7_, u8_, u9_, u10_, u11_, u12_, p2_, p3_, q5_, q6_, q7_, q8_, q9_, q11_, q12_, cnd_t, cnd_f, Asc_t, Asc_f]), hs.cast (by first | rfl | simp only [List.take, List.drop, List.cons_append, List.nil_append, List.set_cons_zero, List.set_cons_succ, List.eraseIdx, u0_, u1_, u2_, u3_, u4_, u5_, u6_, u7_, u8_, u9_, u10_, u11_, u12_, p2_, p3_, q5_, q6_, q7_, q8_, q9_, q11_, q12_, cnd_t, cnd_f, Asc_t, Asc_f])⟩
                        · intro D t w hD hp hcl hI rest hk
                          obtain ⟨b21, O, ht, hs⟩ := hI
                          obtain ⟨p4_, _⟩ := hp
                          obtain ⟨p2_, p3_, _⟩ := (hcl.get 4 (by decide)) p4_
                          have q6_ : D 6 = false := not_yet (hcl.get 6 (by decide)) 2 5 rfl hD
                          have q7_ : D 7 = false := not_yet (hcl.get 7 (by decide)) 0 6 rfl q6_
                          have q8_ : D 8 = false := not_yet (hcl.get 8 (by decide)) 0 7 rfl q7_
                          have q9_ : D 9 = false := not_yet (hcl.get 9 (by decide)) 0 7 rfl q7_
                          have q11_ : D 11 = false := not_yet (hcl.get 11 (by decide)) 1 8 rfl q8_
                          have q12_ : D 12 = false := not_yet (hcl.get 12 (by decide)) 0 9 rfl q9_
                          have u0_ : upd D 5 0 = D 0 := rfl
                          have u1_ : upd D 5 1 = D 1 := rfl
                          have u2_ : upd D 5 2 = D 2 := rfl
                          have u3_ : upd D 5 3 = D 3 := rfl
                          have u4_ : upd D 5 4 = D 4 := rfl
                          have u5_ : upd D 5 5 = true := rfl
                          have u6_ : upd D 5 6 = D 6 := rfl
                          have u7_ : upd D 5 7 = D 7 := rfl
                          have u8_ : upd D 5 8 = D 8 := rfl
                          have u9_ : upd D 5 9 = D 9 := rfl
                          have u10_ : upd D 5 10 = D 10 := rfl
                          have u11_ : upd D 5 11 = D 11 := rfl
                          have u12_ : upd D 5 12 = D 12 := rfl
                          simp only [hD, p2_, p3_, p4_, q6_, q7_, q8_, q9_, q11_, q12_, cnd_t, cnd_f, Asc_t, Asc_f] at ht hs
                          subst ht
                          refine s_load1 rfl rfl (v := Value.int .u16 (rdL r16 x19 0)) rfl rfl (fun _ => rfl) (cellsAt_of (fkI .u16) 0 (hs.row 2 rfl) had4_ gd3.1 gd3.2) ?_
                          show G _ _ _ _ [_, _, _, _, _, _, _, _, _, _, _, _, _, _, _, _, _, _, _, _, _, _, _, _, _, _, _, _, _, _, _, _, _, _, _, _, _, _, _, _, _, _, _, _, _, _, _, _, _, _, _, _, _, _, _, _, _, _, _, _, _, _, _, _, _, _, _, _, _, _, _, _, _, _, _, _, _] _
                          exact hk _ _ ⟨b21, O, (by simp only [u0_, u1_, u2_, u3_, u4_, u5_, u6_, u7_, u8_, u9_, u10_, u11_, u12_, p2_, p3_, p4_, q6_, q7_, q8_, q9_, q11_, q12_, cnd_t, cnd_f, Asc_t, Asc_f]), hs.cast (by first | rfl | simp only [List.take, List.drop, List.cons_append, List.nil_append, List.set_cons_zero, List.set_cons_succ, List.eraseIdx, u0_, u1_, u2_, u3_, u4_, u5_, u6_, u7_, u8_, u9_, u10_, u11_, u12_, p2_, p3_, p4_, q6_, q7_, q8_, q9_, q11_, q12_, cnd_t, cnd_f, Asc_t, Asc_f])⟩
                        · intro D t w hD hp hcl hI rest hk
                          obtain ⟨b21, O, ht, hs⟩ := hI
                          obtain ⟨p0_, p1_, p5_, _⟩ := hp
                          obtain ⟨p4_, _⟩ := (hcl.get 5 (by decide)) p5_
                          obtain ⟨p2_, p3_, _⟩ := (hcl.get 4 (by decide)) p4_
                          have q7_ : D 7 = false := not_yet (hcl.get 7 (by decide)) 0 6 rfl hD
                          have q8_ : D 8 = false := not_yet (hcl.get 8 (by decide)) 0 7 rfl q7_
                          have q9_ : D 9 = false := not_yet (hcl.get 9 (by decide)) 0 7 rfl q7_
                          have q11_ : D 11 = false := not_yet (hcl.get 11 (by decide)) 1 8 rfl q8_
                          have q12_ : D 12 = false := not_yet (hcl.get 12 (by decide)) 0 9 rfl q9_
                          have u0_ : upd D 6 0 = D 0 := rfl
                          have u1_ : upd D 6 1 = D 1 := rfl
                          have u2_ : upd D 6 2 = D 2 := rfl
                          have u3_ : upd D 6 3 = D 3 := rfl
                          have u4_ : upd D 6 4 = D 4 := rfl
                          have u5_ : upd D 6 5 = D 5 := rfl
                          have u6_ : upd D 6 6 = true := rfl
                          have u7_ : upd D 6 7 = D 7 := rfl
                          have u8_ : upd D 6 8 = D 8 := rfl
                          have u9_ : upd D 6 9 = D 9 := rfl
                          have u10_ : upd D 6 10 = D 10 := rfl
                          have u11_ : upd D 6 11 = D 11 := rfl
                          have u12_ : upd D 6 12 = D 12 := rfl
                          simp only [hD, p0_, p1_, p2_, p3_, p4_, p5_, q7_, q8_, q9_, q11_, q12_, cnd_t, cnd_f, Asc_t, Asc_f] at ht hs
                          subst ht
                          refine s_call (args := [Value.pointer (some ⟨b2, 0, none⟩), Value.agg (enc_S_impl_Bank r12).toArray, Value.int .u16 (rdL r16 x19 0)]) rfl rfl (x_call rfl (callFunc_enter Try.func44 rfl rfl) rfl) (spec_l05Cross.calls (a1 := (⟨a1.f_Things, a1.f_Boat, a1.f_Rules⟩ : S_laws_Ferry)) (a6 := r12) (a7 := rdL r16 x19 0) (hs.rd hr4) (hs.box hp0) Hr20) ?_
                          rintro _ w ⟨rfl, hs2⟩
                          have hs : St _ [_, _, _] _ := hs.call hs2
                          show G _ _ _ _ [_, _, _, _, _, _, _, _, _, _, _, _, _, _, _, _, _, _, _, _, _, _, _, _, _, _, _, _, _, _, _, _, _, _, _, _, _, _, _, _, _, _, _, _, _, _, _, _, _, _, _, _, _, _, _, _, _, _, _, _, _, _, _, _, _, _, _, _, _, _, _, _, _, _, _, _, _] _
                          exact hk _ _ ⟨b21, O, (by simp only [u0_, u1_, u2_, u3_, u4_, u5_, u6_, u7_, u8_, u9_, u10_, u11_, u12_, p0_, p1_, p2_, p3_, p4_, p5_, q7_, q8_, q9_, q11_, q12_, cnd_t, cnd_f, Asc_t, Asc_f]), hs.cast (by first | rfl | simp only [List.take, List.drop, List.cons_append, List.nil_append, List.set_cons_zero, List.set_cons_succ, List.eraseIdx, u0_, u1_, u2_, u3_, u4_, u5_, u6_, u7_, u8_, u9_, u10_, u11_, u12_, p0_, p1_, p2_, p3_, p4_, p5_, q7_, q8_, q9_, q11_, q12_, cnd_t, cnd_f, Asc_t, Asc_f])⟩
                        · intro D t w hD hp hcl hI rest hk
                          obtain ⟨b21, O, ht, hs⟩ := hI
                          obtain ⟨p6_, _⟩ := hp
                          obtain ⟨p0_, p1_, p5_, _⟩ := (hcl.get 6 (by decide)) p6_
                          obtain ⟨p4_, _⟩ := (hcl.get 5 (by decide)) p5_
                          obtain ⟨p2_, p3_, _⟩ := (hcl.get 4 (by decide)) p4_
                          have q8_ : D 8 = false := not_yet (hcl.get 8 (by decide)) 0 7 rfl hD
                          have q9_ : D 9 = false := not_yet (hcl.get 9 (by decide)) 0 7 rfl hD
                          have q11_ : D 11 = false := not_yet (hcl.get 11 (by decide)) 1 8 rfl q8_
                          have q12_ : D 12 = false := not_yet (hcl.get 12 (by decide)) 0 9 rfl q9_
                          have u0_ : upd D 7 0 = D 0 := rfl
                          have u1_ : upd D 7 1 = D 1 := rfl
                          have u2_ : upd D 7 2 = D 2 := rfl
                          have u3_ : upd D 7 3 = D 3 := rfl
                          have u4_ : upd D 7 4 = D 4 := rfl
                          have u5_ : upd D 7 5 = D 5 := rfl
                          have u6_ : upd D 7 6 = D 6 := rfl
                          have u7_ : upd D 7 7 = true := rfl
                          have u8_ : upd D 7 8 = D 8 := rfl
                          have u9_ : upd D 7 9 = D 9 := rfl
                          have u10_ : upd D 7 10 = D 10 := rfl
                          have u11_ : upd D 7 11 = D 11 := rfl
                          have u12_ : upd D 7 12 = D 12 := rfl
                          simp only [hD, p0_, p1_, p2_, p3_, p4_, p5_, p6_, q8_, q9_, q11_, q12_, cnd_t, cnd_f, Asc_t, Asc_f] at ht hs
                          subst ht
                          refine g_op (v := Value.tuple #[Value.agg (enc_S_impl_Bank r20.1).toArray, Value.int .i64 r20.2]) rfl rfl rfl ?_
                          show G _ _ _ _ [_, _, _, _, _, _, _, _, _, _, _, _, _, _, _, _, _, _, _, _, _, _, _, _, _, _, _, _, _, _, _, _, _, _, _, _, _, _, _, _, _, _, _, _, _, _, _, _, _, _, _, _, _, _, _, _, _, _, _, _, _, _, _, _, _, _, _, _, _, _, _, _, _, _, _, _, _] _
                          exact hk _ _ ⟨b21, O, (by simp only [u0_, u1_, u2_, u3_, u4_, u5_, u6_, u7_, u8_, u9_, u10_, u11_, u12_, p0_, p1_, p2_, p3_, p4_, p5_, p6_, q8_, q9_, q11_, q12_, cnd_t, cnd_f, Asc_t, Asc_f]), hs.cast (by first | rfl | simp only [List.take, List.drop, List.cons_append, List.nil_append, List.set_cons_zero, List.set_cons_succ, List.eraseIdx, u0_, u1_, u2_, u3_, u4_, u5_, u6_, u7_, u8_, u9_, u10_, u11_, u12_, p0_, p1_, p2_, p3_, p4_, p5_, p6_, q8_, q9_, q11_, q12_, cnd_t, cnd_f, Asc_t, Asc_f])⟩
                        · intro D t w hD hp hcl hI rest hk
                          obtain ⟨b21, O, ht, hs⟩ := hI
                          obtain ⟨p7_, _⟩ := hp
                          obtain ⟨p6_, _⟩ := (hcl.get 7 (by decide)) p7_
                          obtain ⟨p0_, p1_, p5_, _⟩ := (hcl.get 6 (by decide)) p6_
                          obtain ⟨p4_, _⟩ := (hcl.get 5 (by decide)) p5_
                          obtain ⟨p2_, p3_, _⟩ := (hcl.get 4 (by decide)) p4_
                          have q11_ : D 11 = false := not_yet (hcl.get 11 (by decide)) 1 8 rfl hD
                          have q12_ : D 12 = false := not_yet (hcl.get 12 (by decide)) 1 11 rfl q11_
                          have u0_ : upd D 8 0 = D 0 := rfl
                          have u1_ : upd D 8 1 = D 1 := rfl
                          have u2_ : upd D 8 2 = D 2 := rfl
                          have u3_ : upd D 8 3 = D 3 := rfl
                          have u4_ : upd D 8 4 = D 4 := rfl
                          have u5_ : upd D 8 5 = D 5 := rfl
                          have u6_ : upd D 8 6 = D 6 := rfl
                          have u7_ : upd D 8 7 = D 7 := rfl
                          have u8_ : upd D 8 8 = true := rfl
                          have u9_ : upd D 8 9 = D 9 := rfl
                          have u10_ : upd D 8 10 = D 10 := rfl
                          have u11_ : upd D 8 11 = D 11 := rfl
                          have u12_ : upd D 8 12 = D 12 := rfl
                          simp only [hD, p0_, p1_, p2_, p3_, p4_, p5_, p6_, p7_, q11_, q12_, cnd_t, cnd_f, Asc_t, Asc_f] at ht hs
                          subst ht
                          refine g_op (v := Value.agg (enc_S_impl_Bank r20.1).toArray) rfl rfl rfl ?_
                          show G _ _ _ _ [_, _, _, _, _, _, _, _, _, _, _, _, _, _, _, _, _, _, _, _, _, _, _, _, _, _, _, _, _, _, _, _, _, _, _, _, _, _, _, _, _, _, _, _, _, _, _, _, _, _, _, _, _, _, _, _, _, _, _, _, _, _, _, _, _, _, _, _, _, _, _, _, _, _, _, _, _] _
                          exact hk _ _ ⟨b21, O, (by simp only [u0_, u1_, u2_, u3_, u4_, u5_, u6_, u7_, u8_, u9_, u10_, u11_, u12_, p0_, p1_, p2_, p3_, p4_, p5_, p6_, p7_, q11_, q12_, cnd_t, cnd_f, Asc_t, Asc_f]), hs.cast (by first | rfl | simp only [List.take, List.drop, List.cons_append, List.nil_append, List.set_cons_zero, List.set_cons_succ, List.eraseIdx, u0_, u1_, u2_, u3_, u4_, u5_, u6_, u7_, u8_, u9_, u10_, u11_, u12_, p0_, p1_, p2_, p3_, p4_, p5_, p6_, p7_, q11_, q12_, cnd_t, cnd_f, Asc_t, Asc_f])⟩
                        · intro D t w hD hp hcl hI rest hk
                          obtain ⟨b21, O, ht, hs⟩ := hI
                          obtain ⟨p7_, _⟩ := hp
                          obtain ⟨p6_, _⟩ := (hcl.get 7 (by decide)) p7_
                          obtain ⟨p0_, p1_, p5_, _⟩ := (hcl.get 6 (by decide)) p6_
                          obtain ⟨p4_, _⟩ := (hcl.get 5 (by decide)) p5_
                          obtain ⟨p2_, p3_, _⟩ := (hcl.get 4 (by decide)) p4_
                          have q12_ : D 12 = false := not_yet (hcl.get 12 (by decide)) 0 9 rfl hD
                          have u0_ : upd D 9 0 = D 0 := rfl
                          have u1_ : upd D 9 1 = D 1 := rfl
                          have u2_ : upd D 9 2 = D 2 := rfl
                          have u3_ : upd D 9 3 = D 3 := rfl
                          have u4_ : upd D 9 4 = D 4 := rfl
                          have u5_ : upd D 9 5 = D 5 := rfl
                          have u6_ : upd D 9 6 = D 6 := rfl
                          have u7_ : upd D 9 7 = D 7 := rfl
                          have u8_ : upd D 9 8 = D 8 := rfl
                          have u9_ : upd D 9 9 = true := rfl
                          have u10_ : upd D 9 10 = D 10 := rfl
                          have u11_ : upd D 9 11 = D 11 := rfl
                          have u12_ : upd D 9 12 = D 12 := rfl
                          simp only [hD, p0_, p1_, p2_, p3_, p4_, p5_, p6_, p7_, q12_, cnd_t, cnd_f, Asc_t, Asc_f] at ht hs
                          subst ht
                          refine g_op (v := Value.int .i64 r20.2) rfl rfl rfl ?_
                          show G _ _ _ _ [_, _, _, _, _, _, _, _, _, _, _, _, _, _, _, _, _, _, _, _, _, _, _, _, _, _, _, _, _, _, _, _, _, _, _, _, _, _, _, _, _, _, _, _, _, _, _, _, _, _, _, _, _, _, _, _, _, _, _, _, _, _, _, _, _, _, _, _, _, _, _, _, _, _, _, _, _] _
                          exact hk _ _ ⟨b21, O, (by simp only [u0_, u1_, u2_, u3_, u4_, u5_, u6_, u7_, u8_, u9_, u10_, u11_, u12_, p0_, p1_, p2_, p3_, p4_, p5_, p6_, p7_, q12_, cnd_t, cnd_f, Asc_t, Asc_f]), hs.cast (by first | rfl | simp only [List.take, List.drop, List.cons_append, List.nil_append, List.set_cons_zero, List.set_cons_succ, List.eraseIdx, u0_, u1_, u2_, u3_, u4_, u5_, u6_, u7_, u8_, u9_, u10_, u11_, u12_, p0_, p1_, p2_, p3_, p4_, p5_, p6_, p7_, q12_, cnd_t, cnd_f, Asc_t, Asc_f])⟩
                        · intro D t w hD hp hcl hI rest hk
                          obtain ⟨b21, O, ht, hs⟩ := hI
                          have q11_ : D 11 = false := not_yet (hcl.get 11 (by decide)) 0 10 rfl hD
                          have q12_ : D 12 = false := not_yet (hcl.get 12 (by decide)) 1 11 rfl q11_
                          have u0_ : upd D 10 0 = D 0 := rfl
                          have u1_ : upd D 10 1 = D 1 := rfl
                          have u2_ : upd D 10 2 = D 2 := rfl
                          have u3_ : upd D 10 3 = D 3 := rfl
                          have u4_ : upd D 10 4 = D 4 := rfl
                          have u5_ : upd D 10 5 = D 5 := rfl
                          have u6_ : upd D 10 6 = D 6 := rfl
                          have u7_ : upd D 10 7 = D 7 := rfl
                          have u8_ : upd D 10 8 = D 8 := rfl
                          have u9_ : upd D 10 9 = D 9 := rfl
                          have u10_ : upd D 10 10 = true := rfl
                          have u11_ : upd D 10 11 = D 11 := rfl
                          have u12_ : upd D 10 12 = D 12 := rfl
                          simp only [hD, q11_, q12_, cnd_t, cnd_f, Asc_t, Asc_f] at ht hs
                          subst ht
                          refine s_alloc hs rfl rfl (z := (Value.agg #[Value.int .u16 0, Value.bool false])) (cs := (enc_S_impl_Bank z_S_impl_Bank)) rfl (fun _ => rfl) rfl ?_
                          intro b21 w hs
                          show G _ _ _ _ [_, _, _, _, _, _, _, _, _, _, _, _, _, _, _, _, _, _, _, _, _, _, _, _, _, _, _, _, _, _, _, _, _, _, _, _, _, _, _, _, _, _, _, _, _, _, _, _, _, _, _, _, _, _, _, _, _, _, _, _, _, _, _, _, _, _, _, _, _, _, _, _, _, _, _, _, _] _
                          have hs := hs.fill 0 rfl
                          exact hk _ _ ⟨b21, O, (by simp only [u0_, u1_, u2_, u3_, u4_, u5_, u6_, u7_, u8_, u9_, u10_, u11_, u12_, q11_, q12_, cnd_t, cnd_f, Asc_t, Asc_f]), hs.cast (by first | rfl | simp only [List.take, List.drop, List.cons_append, List.nil_append, List.set_cons_zero, List.set_cons_succ, List.eraseIdx, u0_, u1_, u2_, u3_, u4_, u5_, u6_, u7_, u8_, u9_, u10_, u11_, u12_, q11_, q12_, cnd_t, cnd_f, Asc_t, Asc_f])⟩
                        · intro D t w hD hp hcl hI rest hk
                          obtain ⟨b21, O, ht, hs⟩ := hI
                          obtain ⟨p10_, p8_, p6_, p0_, p1_, p2_, p3_, p4_, p5_, _, p7_, _, _, _⟩ := hp
                          have q12_ : D 12 = false := not_yet (hcl.get 12 (by decide)) 1 11 rfl hD
                          have u0_ : upd D 11 0 = D 0 := rfl
                          have u1_ : upd D 11 1 = D 1 := rfl
                          have u2_ : upd D 11 2 = D 2 := rfl
                          have u3_ : upd D 11 3 = D 3 := rfl
                          have u4_ : upd D 11 4 = D 4 := rfl
                          have u5_ : upd D 11 5 = D 5 := rfl
                          have u6_ : upd D 11 6 = D 6 := rfl
                          have u7_ : upd D 11 7 = D 7 := rfl
                          have u8_ : upd D 11 8 = D 8 := rfl
                          have u9_ : upd D 11 9 = D 9 := rfl
                          have u10_ : upd D 11 10 = D 10 := rfl
                          have u11_ : upd D 11 11 = true := rfl
                          have u12_ : upd D 11 12 = D 12 := rfl
                          simp only [hD, p0_, p1_, p2_, p3_, p4_, p5_, p6_, p7_, p8_, p10_, q12_, cnd_t, cnd_f, Asc_t, Asc_f] at ht hs
                          subst ht
                          refine s_storeAll (n := 2) hs (fk_S_impl_Bank.len _) rfl rfl (vs := (enc_S_impl_Bank r20.1)) rfl rfl rfl (fun _ => rfl) (fk_S_impl_Bank.len _) (fk_S_impl_Bank.one _) ?_
                          intro w hs
                          show G _ _ _ _ [_, _, _, _, _, _, _, _, _, _, _, _, _, _, _, _, _, _, _, _, _, _, _, _, _, _, _, _, _, _, _, _, _, _, _, _, _, _, _, _, _, _, _, _, _, _, _, _, _, _, _, _, _, _, _, _, _, _, _, _, _, _, _, _, _, _, _, _, _, _, _, _, _, _, _, _, _] _
                          have hs := hs.push 0 (by simp)
                          exact hk _ _ ⟨b21, O, (by simp only [u0_, u1_, u2_, u3_, u4_, u5_, u6_, u7_, u8_, u9_, u10_, u11_, u12_, p0_, p1_, p2_, p3_, p4_, p5_, p6_, p7_, p8_, p10_, q12_, cnd_t, cnd_f, Asc_t, Asc_f]), hs.cast (by first | rfl | simp only [List.take, List.drop, List.cons_append, List.nil_append, List.set_cons_zero, List.set_cons_succ, List.eraseIdx, u0_, u1_, u2_, u3_, u4_, u5_, u6_, u7_, u8_, u9_, u10_, u11_, u12_, p0_, p1_, p2_, p3_, p4_, p5_, p6_, p7_, p8_, p10_, q12_, cnd_t, cnd_f, Asc_t, Asc_f])⟩
                        · intro D t w hD hp hcl hI rest hk
                          obtain ⟨b21, O, ht, hs⟩ := hI
                          obtain ⟨p9_, p11_, p0_, p1_, p2_, p3_, p4_, p5_, p6_, p7_, p8_, _, p10_, _, _⟩ := hp
                          have u0_ : upd D 12 0 = D 0 := rfl
                          have u1_ : upd D 12 1 = D 1 := rfl
                          have u2_ : upd D 12 2 = D 2 := rfl
                          have u3_ : upd D 12 3 = D 3 := rfl
                          have u4_ : upd D 12 4 = D 4 := rfl
                          have u5_ : upd D 12 5 = D 5 := rfl
                          have u6_ : upd D 12 6 = D 6 := rfl
                          have u7_ : upd D 12 7 = D 7 := rfl
                          have u8_ : upd D 12 8 = D 8 := rfl
                          have u9_ : upd D 12 9 = D 9 := rfl
                          have u10_ : upd D 12 10 = D 10 := rfl
                          have u11_ : upd D 12 11 = D 11 := rfl
                          have u12_ : upd D 12 12 = true := rfl
                          simp only [hD, p0_, p1_, p2_, p3_, p4_, p5_, p6_, p7_, p8_, p9_, p10_, p11_, cnd_t, cnd_f, Asc_t, Asc_f] at ht hs
                          subst ht
                          refine g_op (v := Value.int .i64 r20.2) rfl rfl rfl ?_
                          show G _ _ _ _ [_, _, _, _, _, _, _, _, _, _, _, _, _, _, _, _, _, _, _, _, _, _, _, _, _, _, _, _, _, _, _, _, _, _, _, _, _, _, _, _, _, _, _, _, _, _, _, _, _, _, _, _, _, _, _, _, _, _, _, _, _, _, _, _, _, _, _, _, _, _, _, _, _, _, _, _, _] _
                          exact hk _ _ ⟨b21, O, (by simp only [u0_, u1_, u2_, u3_, u4_, u5_, u6_, u7_, u8_, u9_, u10_, u11_, u12_, p0_, p1_, p2_, p3_, p4_, p5_, p6_, p7_, p8_, p9_, p10_, p11_, cnd_t, cnd_f, Asc_t, Asc_f]), hs.cast (by first | rfl | simp only [List.take, List.drop, List.cons_append, List.nil_append, List.set_cons_zero, List.set_cons_succ, List.eraseIdx, u0_, u1_, u2_, u3_, u4_, u5_, u6_, u7_, u8_, u9_, u10_, u11_, u12_, p0_, p1_, p2_, p3_, p4_, p5_, p6_, p7_, p8_, p9_, p10_, p11_, cnd_t, cnd_f, Asc_t, Asc_f])⟩
                        · intro D t w hall hI
                          obtain ⟨b21, O, ht, hs⟩ := hI
                          have p0_ : D 0 = true := hall 0 (by decide)
                          have p1_ : D 1 = true := hall 1 (by decide)
                          have p2_ : D 2 = true := hall 2 (by decide)
                          have p3_ : D 3 = true := hall 3 (by decide)
                          have p4_ : D 4 = true := hall 4 (by decide)
                          have p5_ : D 5 = true := hall 5 (by decide)
                          have p6_ : D 6 = true := hall 6 (by decide)
                          have p7_ : D 7 = true := hall 7 (by decide)
                          have p8_ : D 8 = true := hall 8 (by decide)
                          have p9_ : D 9 = true := hall 9 (by decide)
                          have p10_ : D 10 = true := hall 10 (by decide)
                          have p11_ : D 11 = true := hall 11 (by decide)
                          have p12_ : D 12 = true := hall 12 (by decide)
                          simp only [p0_, p1_, p2_, p3_, p4_, p5_, p6_, p7_, p8_, p9_, p10_, p11_, p12_, cnd_t, cnd_f, Asc_t, Asc_f] at ht hs
                          subst ht
                          refine g_seq ?_
                          refine g_region ?_
                          show G _ _ _ (.inRegion _ [0, 1, 2, 3, 4, 5, 6, 7] :: _) _ _
                          refine g_op (v := v7) rfl rfl rfl ?_
                          show G _ _ _ _ [_, _, _, _, _, _, _, _, _, _, _, _, _, _, _, _, _, _, _, _, _, _, _, _, _, _, _, _, _, _, _, _, _, _, _, _, _, _, _, _, _, _, _, _, _, _, _, _, _, _, _, _, _, _, _, _, _, _, _, _, _, _, _, _, _, _, _, _, _, _, _, _, _, _, _, _, _] _
                          refine g_op (v := Value.pointer (some ⟨b2, 0, none⟩)) rfl rfl rfl ?_
                          show G _ _ _ _ [_, _, _, _, _, _, _, _, _, _, _, _, _, _, _, _, _, _, _, _, _, _, _, _, _, _, _, _, _, _, _, _, _, _, _, _, _, _, _, _, _, _, _, _, _, _, _, _, _, _, _, _, _, _, _, _, _, _, _, _, _, _, _, _, _, _, _, _, _, _, _, _, _, _, _, _, _] _
                          refine s_loadA rfl rfl (es := (enc_S_impl_Bank r20.1)) rfl rfl (fun _ => rfl) (n := 2) (fun _ => rfl) (fk_S_impl_Bank.len _) (cells_all (hs.cells 0 rfl)) ?_
                          show G _ _ _ _ [_, _, _, _, _, _, _, _, _, _, _, _, _, _, _, _, _, _, _, _, _, _, _, _, _, _, _, _, _, _, _, _, _, _, _, _, _, _, _, _, _, _, _, _, _, _, _, _, _, _, _, _, _, _, _, _, _, _, _, _, _, _, _, _, _, _, _, _, _, _, _, _, _, _, _, _, _] _
                          obtain ⟨r24, Hr24, H⟩ := bind_get H
                          refine s_call (args := [Value.pointer (some ⟨b2, 0, none⟩), Value.agg (enc_S_impl_Bank r20.1).toArray]) rfl rfl (x_call rfl (callFunc_enter Try.func77 rfl rfl) rfl) (spec_l05Index.calls (a1 := (⟨a1.f_Things, a1.f_Boat, a1.f_Rules⟩ : S_laws_Ferry)) (a6 := r20.1) (hs.rd hr4) (hs.box hp0) Hr24) ?_
                          rintro _ w ⟨rfl, hs2⟩
                          have hs : St _ [_, _, _] _ := hs.call hs2
                          show G _ _ _ _ [_, _, _, _, _, _, _, _, _, _, _, _, _, _, _, _, _, _, _, _, _, _, _, _, _, _, _, _, _, _, _, _, _, _, _, _, _, _, _, _, _, _, _, _, _, _, _, _, _, _, _, _, _, _, _, _, _, _, _, _, _, _, _, _, _, _, _, _, _, _, _, _, _, _, _, _, _] _
                          obtain ⟨g5, H⟩ := ite_get H
                          refine s_idx (fkI .i16) 0 (hs.rd hr1) rfl (fun _ => rfl) g5.1 g5.2 rfl rfl rfl rfl rfl ?_
                          intro p25 hp25 lp25 op25
                          show G _ _ _ _ [_, _, _, _, _, _, _, _, _, _, _, _, _, _, _, _, _, _, _, _, _, _, _, _, _, _, _, _, _, _, _, _, _, _, _, _, _, _, _, _, _, _, _, _, _, _, _, _, _, _, _, _, _, _, _, _, _, _, _, _, _, _, _, _, _, _, _, _, _, _, _, _, _, _, _, _, _] _
                          refine s_load1 rfl rfl (v := Value.int .i16 (rdL a6 r24 0)) rfl rfl (fun _ => rfl) hp25 ?_
                          show G _ _ _ _ [_, _, _, _, _, _, _, _, _, _, _, _, _, _, _, _, _, _, _, _, _, _, _, _, _, _, _, _, _, _, _, _, _, _, _, _, _, _, _, _, _, _, _, _, _, _, _, _, _, _, _, _, _, _, _, _, _, _, _, _, _, _, _, _, _, _, _, _, _, _, _, _, _, _, _, _, _] _
                          refine g_op (v := Value.int .i64 (i64w (rdL a6 r24 0))) rfl rfl rfl ?_
                          show G _ _ _ _ [_, _, _, _, _, _, _, _, _, _, _, _, _, _, _, _, _, _, _, _, _, _, _, _, _, _, _, _, _, _, _, _, _, _, _, _, _, _, _, _, _, _, _, _, _, _, _, _, _, _, _, _, _, _, _, _, _, _, _, _, _, _, _, _, _, _, _, _, _, _, _, _, _, _, _, _, _] _
                          refine g_op (v := Value.int .i64 (i64w (rdL a6 r24 0))) rfl rfl rfl ?_
                          show G _ _ _ _ [_, _, _, _, _, _, _, _, _, _, _, _, _, _, _, _, _, _, _, _, _, _, _, _, _, _, _, _, _, _, _, _, _, _, _, _, _, _, _, _, _, _, _, _, _, _, _, _, _, _, _, _, _, _, _, _, _, _, _, _, _, _, _, _, _, _, _, _, _, _, _, _, _, _, _, _, _] _
                          refine g_ops_nil ?_
                          refine g_seq ?_
                          refine g_region ?_
                          show G _ _ _ (.inRegion _ [0, 1, 2, 3, 4, 5, 6, 7] :: _) _ _
                          refine g_op (v := Value.int .i64 (i64w (rdL a6 r24 0))) rfl rfl rfl ?_
                          show G _ _ _ _ [_, _, _, _, _, _, _, _, _, _, _, _, _, _, _, _, _, _, _, _, _, _, _, _, _, _, _, _, _, _, _, _, _, _, _, _, _, _, _, _, _, _, _, _, _, _, _, _, _, _, _, _, _, _, _, _, _, _, _, _, _, _, _, _, _, _, _, _, _, _, _, _, _, _, _, _, _] _
                          refine g_op_b (B := decide ((i64w (rdL a6 r24 0)) < 0)) rfl rfl rfl ?_ ?_
                          · intro hb
                            rw [if_pos (b_dec_t hb)] at H
                            show G _ _ _ _ [_, _, _, _, _, _, _, _, _, _, _, _, _, _, _, _, _, _, _, _, _, _, _, _, _, _, _, _, _, _, _, _, _, _, _, _, _, _, _, _, _, _, _, _, _, _, _, _, _, _, _, _, _, _, _, _, _, _, _, _, _, _, _, _, _, _, _, _, _, _, _, _, _, _, _, _, _] _
                            refine g_op (v := Value.bool true) rfl rfl rfl ?_
                            show G _ _ _ _ [_, _, _, _, _, _, _, _, _, _, _, _, _, _, _, _, _, _, _, _, _, _, _, _, _, _, _, _, _, _, _, _, _, _, _, _, _, _, _, _, _, _, _, _, _, _, _, _, _, _, _, _, _, _, _, _, _, _, _, _, _, _, _, _, _, _, _, _, _, _, _, _, _, _, _, _, _] _
                            refine g_op_not rfl rfl ?_
                            show G _ _ _ _ [_, _, _, _, _, _, _, _, _, _, _, _, _, _, _, _, _, _, _, _, _, _, _, _, _, _, _, _, _, _, _, _, _, _, _, _, _, _, _, _, _, _, _, _, _, _, _, _, _, _, _, _, _, _, _, _, _, _, _, _, _, _, _, _, _, _, _, _, _, _, _, _, _, _, _, _, _] _
                            refine g_op_not rfl rfl ?_
                            show G _ _ _ _ [_, _, _, _, _, _, _, _, _, _, _, _, _, _, _, _, _, _, _, _, _, _, _, _, _, _, _, _, _, _, _, _, _, _, _, _, _, _, _, _, _, _, _, _, _, _, _, _, _, _, _, _, _, _, _, _, _, _, _, _, _, _, _, _, _, _, _, _, _, _, _, _, _, _, _, _, _] _
                            refine g_op_not rfl rfl ?_
                            show G _ _ _ _ [_, _, _, _, _, _, _, _, _, _, _, _, _, _, _, _, _, _, _, _, _, _, _, _, _, _, _, _, _, _, _, _, _, _, _, _, _, _, _, _, _, _, _, _, _, _, _, _, _, _, _, _, _, _, _, _, _, _, _, _, _, _, _, _, _, _, _, _, _, _, _, _, _, _, _, _, _] _
                            refine g_op_not rfl rfl ?_
                            show G _ _ _ _ [_, _, _, _, _, _, _, _, _, _, _, _, _, _, _, _, _, _, _, _, _, _, _, _, _, _, _, _, _, _, _, _, _, _, _, _, _, _, _, _, _, _, _, _, _, _, _, _, _, _, _, _, _, _, _, _, _, _, _, _, _, _, _, _, _, _, _, _, _, _, _, _, _, _, _, _, _] _
                            refine g_op (v := Value.bool true) rfl rfl rfl ?_
                            show G _ _ _ _ [_, _, _, _, _, _, _, _, _, _, _, _, _, _, _, _, _, _, _, _, _, _, _, _, _, _, _, _, _, _, _, _, _, _, _, _, _, _, _, _, _, _, _, _, _, _, _, _, _, _, _, _, _, _, _, _, _, _, _, _, _, _, _, _, _, _, _, _, _, _, _, _, _, _, _, _, _] _
                            refine g_ops_nil ?_
                            refine g_cond_true rfl ?_
                            refine g_seq ?_
                            refine g_region ?_
                            show G _ _ _ (.inRegion _ [0] :: _) _ _
                            refine g_op (v := Value.bool false) rfl rfl rfl ?_
                            show G _ _ _ _ [_, _, _, _, _, _, _, _, _, _, _, _, _, _, _, _, _, _, _, _, _, _, _, _, _, _, _, _, _, _, _, _, _, _, _, _, _, _, _, _, _, _, _, _, _, _, _, _, _, _, _, _, _, _, _, _, _, _, _, _, _, _, _, _, _, _, _, _, _, _, _, _, _, _, _, _, _] _
                            refine g_ops_nil ?_
                            obtain rfl := Option.some.inj H
                            subst Hx2_
                            have H := Option.some.inj Hr2_
                            subst H
                            subst Hx1_
                            have H := Option.some.inj Hr1_
                            subst H
                            refine g_ret Try.func56 (v := Value.bool false) (res1 rfl rfl) ?_
                            have hs : St _ [] _ := St.take (Γ' := [_, _, _]) hs
                            exact ⟨_, rfl, rfl, hs⟩
                          · intro hb
                            rw [if_neg (b_dec_f hb)] at H
                            show G _ _ _ _ [_, _, _, _, _, _, _, _, _, _, _, _, _, _, _, _, _, _, _, _, _, _, _, _, _, _, _, _, _, _, _, _, _, _, _, _, _, _, _, _, _, _, _, _, _, _, _, _, _, _, _, _, _, _, _, _, _, _, _, _, _, _, _, _, _, _, _, _, _, _, _, _, _, _, _, _, _] _
                            refine g_op (v := Value.bool false) rfl rfl rfl ?_
                            show G _ _ _ _ [_, _, _, _, _, _, _, _, _, _, _, _, _, _, _, _, _, _, _, _, _, _, _, _, _, _, _, _, _, _, _, _, _, _, _, _, _, _, _, _, _, _, _, _, _, _, _, _, _, _, _, _, _, _, _, _, _, _, _, _, _, _, _, _, _, _, _, _, _, _, _, _, _, _, _, _, _] _
                            refine g_op (v := Value.int .i64 (i64w (rdL a6 r24 0))) rfl rfl rfl ?_
                            show G _ _ _ _ [_, _, _, _, _, _, _, _, _, _, _, _, _, _, _, _, _, _, _, _, _, _, _, _, _, _, _, _, _, _, _, _, _, _, _, _, _, _, _, _, _, _, _, _, _, _, _, _, _, _, _, _, _, _, _, _, _, _, _, _, _, _, _, _, _, _, _, _, _, _, _, _, _, _, _, _, _] _
                            refine g_op (v := Value.int .i64 (i64w (rdL a6 x10 0))) rfl rfl rfl ?_
                            show G _ _ _ _ [_, _, _, _, _, _, _, _, _, _, _, _, _, _, _, _, _, _, _, _, _, _, _, _, _, _, _, _, _, _, _, _, _, _, _, _, _, _, _, _, _, _, _, _, _, _, _, _, _, _, _, _, _, _, _, _, _, _, _, _, _, _, _, _, _, _, _, _, _, _, _, _, _, _, _, _, _] _
                            refine g_op (v := Value.int .i64 (i64w ((i64w (rdL a6 x10 0)) + 1))) rfl rfl rfl ?_
                            show G _ _ _ _ [_, _, _, _, _, _, _, _, _, _, _, _, _, _, _, _, _, _, _, _, _, _, _, _, _, _, _, _, _, _, _, _, _, _, _, _, _, _, _, _, _, _, _, _, _, _, _, _, _, _, _, _, _, _, _, _, _, _, _, _, _, _, _, _, _, _, _, _, _, _, _, _, _, _, _, _, _] _
                            refine g_op_b (B := decide ((i64w (rdL a6 r24 0)) > (i64w ((i64w (rdL a6 x10 0)) + 1)))) rfl rfl rfl ?_ ?_
                            · intro hb
                              rw [if_pos (b_dec_t hb)] at H
                              show G _ _ _ _ [_, _, _, _, _, _, _, _, _, _, _, _, _, _, _, _, _, _, _, _, _, _, _, _, _, _, _, _, _, _, _, _, _, _, _, _, _, _, _, _, _, _, _, _, _, _, _, _, _, _, _, _, _, _, _, _, _, _, _, _, _, _, _, _, _, _, _, _, _, _, _, _, _, _, _, _, _] _
                              refine g_op (v := Value.bool true) rfl rfl rfl ?_
                              show G _ _ _ _ [_, _, _, _, _, _, _, _, _, _, _, _, _, _, _, _, _, _, _, _, _, _, _, _, _, _, _, _, _, _, _, _, _, _, _, _, _, _, _, _, _, _, _, _, _, _, _, _, _, _, _, _, _, _, _, _, _, _, _, _, _, _, _, _, _, _, _, _, _, _, _, _, _, _, _, _, _] _
                              refine g_ops_nil ?_
                              refine g_cond_true rfl ?_
                              refine g_seq ?_
                              refine g_region ?_
                              show G _ _ _ (.inRegion _ [0] :: _) _ _
                              refine g_op (v := Value.bool false) rfl rfl rfl ?_
                              show G _ _ _ _ [_, _, _, _, _, _, _, _, _, _, _, _, _, _, _, _, _, _, _, _, _, _, _, _, _, _, _, _, _, _, _, _, _, _, _, _, _, _, _, _, _, _, _, _, _, _, _, _, _, _, _, _, _, _, _, _, _, _, _, _, _, _, _, _, _, _, _, _, _, _, _, _, _, _, _, _, _] _
                              refine g_ops_nil ?_
                              obtain rfl := Option.some.inj H
                              subst Hx2_
                              have H := Option.some.inj Hr2_
                              subst H
                              subst Hx1_
                              have H := Option.some.inj Hr1_
                              subst H
                              refine g_ret Try.func56 (v := Value.bool false) (res1 rfl rfl) ?_
                              have hs : St _ [] _ := St.take (Γ' := [_, _, _]) hs
                              exact ⟨_, rfl, rfl, hs⟩
                            · intro hb
                              rw [if_neg (b_dec_f hb)] at H
                              show G _ _ _ _ [_, _, _, _, _, _, _, _, _, _, _, _, _, _, _, _, _, _, _, _, _, _, _, _, _, _, _, _, _, _, _, _, _, _, _, _, _, _, _, _, _, _, _, _, _, _, _, _, _, _, _, _, _, _, _, _, _, _, _, _, _, _, _, _, _, _, _, _, _, _, _, _, _, _, _, _, _] _
                              refine g_op (v := Value.bool false) rfl rfl rfl ?_
                              show G _ _ _ _ [_, _, _, _, _, _, _, _, _, _, _, _, _, _, _, _, _, _, _, _, _, _, _, _, _, _, _, _, _, _, _, _, _, _, _, _, _, _, _, _, _, _, _, _, _, _, _, _, _, _, _, _, _, _, _, _, _, _, _, _, _, _, _, _, _, _, _, _, _, _, _, _, _, _, _, _, _] _
                              refine g_ops_nil ?_
                              refine g_cond_false rfl ?_
                              refine g_skip ?_
                              refine g_inBlock ?_
                              refine g_region ?_
                              show G _ _ _ (.inRegion _ [0, 1, 2] :: _) _ _
                              refine g_op (v := Value.int .i64 x19) rfl rfl rfl ?_
                              show G _ _ _ _ [_, _, _, _, _, _, _, _, _, _, _, _, _, _, _, _, _, _, _, _, _, _, _, _, _, _, _, _, _, _, _, _, _, _, _, _, _, _, _, _, _, _, _, _, _, _, _, _, _, _, _, _, _, _, _, _, _, _, _, _, _, _, _, _, _, _, _, _, _, _, _, _, _, _, _, _, _] _
                              refine g_op (v := Value.int .i64 (i64w (x19 + 1))) rfl rfl rfl ?_
                              show G _ _ _ _ [_, _, _, _, _, _, _, _, _, _, _, _, _, _, _, _, _, _, _, _, _, _, _, _, _, _, _, _, _, _, _, _, _, _, _, _, _, _, _, _, _, _, _, _, _, _, _, _, _, _, _, _, _, _, _, _, _, _, _, _, _, _, _, _, _, _, _, _, _, _, _, _, _, _, _, _, _] _
                              refine g_op (v := Value.int .i64 (i64w (x19 + 1))) rfl rfl rfl ?_
                              show G _ _ _ _ [_, _, _, _, _, _, _, _, _, _, _, _, _, _, _, _, _, _, _, _, _, _, _, _, _, _, _, _, _, _, _, _, _, _, _, _, _, _, _, _, _, _, _, _, _, _, _, _, _, _, _, _, _, _, _, _, _, _, _, _, _, _, _, _, _, _, _, _, _, _, _, _, _, _, _, _, _] _
                              refine g_ops_nil ?_
                              obtain rfl := Option.some.inj H
                              have hs := hs.pull 2 rfl
                              have hs := hs.pull 2 rfl
                              have hs : St _ [_, _] _ := St.take (Γ' := [_]) hs
                              exact ih2_ _ _ ⟨i64w (x19 + 1), Hx2_, rfl, hs⟩
                      · intro hb
                        rw [if_neg (b_dec_f hb)] at H
                        show G _ _ _ _ [_, _, _, _, _, _, _, _, _, _, _, _, _, _, _, _, _, _, _, _, _, _, _, _, _, _, _, _, _, _, _, _, _, _, _, _, _, _, _, _, _, _, _, _, _, _, _, _, _, _, _, _, _, _, _, _, _, _, _, _, _, _, _, _, _, _, _, _, _, _, _, _, _, _, _, _, _] _
                        refine g_ops_nil ?_
                        refine g_cond_false rfl ?_
                        obtain rfl := Option.some.inj H
                        subst Hx2_
                        have hs : St _ [] _ := St.take (Γ' := [_, _]) hs
                        refine g_exit rfl ?_
                        exact ha2_ _ _ ⟨Hr2_, rfl, hs⟩
                | false =>
                  rw [if_neg Bool.false_ne_true] at H
                  show G _ _ _ _ [_, _, _, _, _, _, _, _, _, _, _, _, _, _, _, _, _, _, _, _, _, _, _, _, _, _, _, _, _, _, _, _, _, _, _, _, _, _, _, _, _, _, _, _, _, _, _, _, _, _, _, _, _, _, _, _, _, _, _, _, _, _, _, _, _, _, _, _, _, _, _, _, _, _, _, _, _] _
                  refine g_op (v := Value.bool true) rfl rfl rfl ?_
                  show G _ _ _ _ [_, _, _, _, _, _, _, _, _, _, _, _, _, _, _, _, _, _, _, _, _, _, _, _, _, _, _, _, _, _, _, _, _, _, _, _, _, _, _, _, _, _, _, _, _, _, _, _, _, _, _, _, _, _, _, _, _, _, _, _, _, _, _, _, _, _, _, _, _, _, _, _, _, _, _, _, _] _
                  refine g_op (v := Value.bool true) rfl rfl rfl ?_
                  show G _ _ _ _ [_, _, _, _, _, _, _, _, _, _, _, _, _, _, _, _, _, _, _, _, _, _, _, _, _, _, _, _, _, _, _, _, _, _, _, _, _, _, _, _, _, _, _, _, _, _, _, _, _, _, _, _, _, _, _, _, _, _, _, _, _, _, _, _, _, _, _, _, _, _, _, _, _, _, _, _, _] _
                  refine g_ops_nil ?_
                  refine g_cond_true rfl ?_
                  refine g_exit rfl ?_
                  have hs : St _ [] _ := St.take (Γ' := [_]) hs
                  exact ha _ _ ⟨H, rfl, hs⟩
        · intro hb
          rw [if_neg (b_dec_f hb)] at H
          show G _ _ _ _ [_, _, _, _, _, _, _, _, _, _, _, _, _, _, _, _, _, _, _, _, _, _, _, _, _, _, _, _, _, _, _, _, _, _, _, _, _, _, _, _, _, _, _, _, _, _, _, _, _, _, _, _, _, _, _, _, _, _, _, _, _, _, _, _, _, _, _, _, _, _, _, _, _, _, _, _, _] _
          refine g_ops_nil ?_
          refine g_cond_false rfl ?_
          obtain rfl := Option.some.inj H
          subst Hx1_
          have hs : St _ [] _ := St.take (Γ' := []) hs
          refine g_exit rfl ?_
          exact ha1_ _ _ ⟨Hr1_, rfl, hs⟩

end Go.Proofs.YtgoblgmidejdgaaX
