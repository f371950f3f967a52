/- Contracts, printed by gen.py. -/
import Derived.Test.YtcocgeodfbiehaaXC9
namespace Go.Proofs.YtcocgeodfbiehaaX
open Go Go.RowKit Go.Proofs
set_option linter.unusedVariables false
set_option linter.unusedSimpArgs false
/- function 59 impl_size_impl_Case -/
def impl_size_impl_Case.post (w0 : World) (r : Int) (v : Value) (w : World) : Prop := v = Value.int .i64 r ∧ St w0 [] w
set_option maxHeartbeats 400000 in
set_option maxRecDepth 100000 in
theorem impl_size_impl_Case.calls {N : Nat} {a1 : (List S_impl_Case)} {v2 : Value} {w0 : World} {r : Int} (hr0 : RdRow k_S_impl_Case w0 v2 a1) (H : impl_size_impl_Case.f N a1 = some r) :
    Calls Try.prog 59 #[v2] w0 fun e w => ∃ v, e = .returned v ∧ impl_size_impl_Case.post w0 r v w := by
  unfold impl_size_impl_Case.f at H
  have hs : St w0 [] w0 := St.refl w0
  refine calls_of_g (n := 4) Try.func59 rfl rfl ?_
  show G _ _ _ _ [_, _, _, _, _] _
  refine g_seq ?_
  refine g_region ?_
  show G _ _ _ (.inRegion _ [0] :: _) _ _
  refine g_op (v := Value.int .i64 0) rfl rfl rfl ?_
  show G _ _ _ _ [_, _, _, _, _] _
  refine g_ops_nil ?_
  refine g_seq ?_
  refine g_region ?_
  show G _ _ _ (.inRegion _ [0, 1, 2] :: _) _ _
  refine g_op (v := v2) rfl rfl rfl ?_
  show G _ _ _ _ [_, _, _, _, _] _
  refine s_len (hs.rd hr0) rfl rfl rfl rfl rfl ?_
  show G _ _ _ _ [_, _, _, _, _] _
  refine g_op (v := Value.int .i64 (a1.length : Int)) rfl rfl rfl ?_
  show G _ _ _ _ [_, _, _, _, _] _
  refine g_ops_nil ?_
  obtain rfl := Option.some.inj H
  refine g_ret Try.func59 (v := Value.int .i64 (a1.length : Int)) (res1 rfl rfl) ?_
  have hs : St _ [] _ := St.take (Γ' := []) hs
  exact ⟨_, rfl, rfl, hs⟩

/- function 29 impl_FairestWeighing -/
def impl_FairestWeighing.post (w0 : World) (r : (Int × Int × Int)) (v : Value) (w : World) : Prop := v = Value.tuple #[Value.int .i64 r.1, Value.int .i64 r.2.1, Value.int .i64 r.2.2] ∧ St w0 [] w
set_option maxHeartbeats 400000 in
set_option maxRecDepth 100000 in
theorem impl_FairestWeighing.calls {N : Nat} {a1 : S_laws_Task} {a2 : (List S_impl_Case)} {a4 : (List (Ar Int 14))} {v3 : Value} {v5 : Value} {w0 : World} {r : (Int × Int × Int)} (hr1 : RdRow k_S_impl_Case w0 v3 a2) (hr2 : RdRow (K.ar 14 1 (encI .i8) (fkI .i8).len (fkI .i8).one) w0 v5 a4) (H : impl_FairestWeighing.f N a1 a2 a4 = some r) :
    Calls Try.prog 29 #[Value.agg (enc_S_laws_Task a1).toArray, v3, v5] w0 fun e w => ∃ v, e = .returned v ∧ impl_FairestWeighing.post w0 r v w := by
  unfold impl_FairestWeighing.f at H
  have hs : St w0 [] w0 := St.refl w0
  refine calls_of_g (n := 58) Try.func29 rfl rfl ?_
  show G _ _ _ _ [_, _, _, _, _, _, _, _, _, _, _, _, _, _, _, _, _, _, _, _, _, _, _, _, _, _, _, _, _, _, _, _, _, _, _, _, _, _, _, _, _, _, _, _, _, _, _, _, _, _, _, _, _, _, _, _, _, _, _, _, _] _
  refine g_seq ?_
  refine g_region ?_
  show G _ _ _ (.inRegion _ [0, 1, 2, 3] :: _) _ _
  refine s_box hs rfl rfl (cs := (enc_S_laws_Task a1)) rfl rfl ?_
  intro b6 w hs
  show G _ _ _ _ [_, _, _, _, _, _, _, _, _, _, _, _, _, _, _, _, _, _, _, _, _, _, _, _, _, _, _, _, _, _, _, _, _, _, _, _, _, _, _, _, _, _, _, _, _, _, _, _, _, _, _, _, _, _, _, _, _, _, _, _, _] _
  refine g_op (v := Value.int .i64 0) rfl rfl rfl ?_
  show G _ _ _ _ [_, _, _, _, _, _, _, _, _, _, _, _, _, _, _, _, _, _, _, _, _, _, _, _, _, _, _, _, _, _, _, _, _, _, _, _, _, _, _, _, _, _, _, _, _, _, _, _, _, _, _, _, _, _, _, _, _, _, _, _, _] _
  refine g_op (v := Value.int .i64 0) rfl rfl rfl ?_
  show G _ _ _ _ [_, _, _, _, _, _, _, _, _, _, _, _, _, _, _, _, _, _, _, _, _, _, _, _, _, _, _, _, _, _, _, _, _, _, _, _, _, _, _, _, _, _, _, _, _, _, _, _, _, _, _, _, _, _, _, _, _, _, _, _, _] _
  refine g_op (v := Value.int .i64 0) rfl rfl rfl ?_
  show G _ _ _ _ [_, _, _, _, _, _, _, _, _, _, _, _, _, _, _, _, _, _, _, _, _, _, _, _, _, _, _, _, _, _, _, _, _, _, _, _, _, _, _, _, _, _, _, _, _, _, _, _, _, _, _, _, _, _, _, _, _, _, _, _, _] _
  refine g_ops_nil ?_
  refine g_seq ?_
  refine g_region ?_
  show G _ _ _ (.inRegion _ [0, 1, 2, 3, 4] :: _) _ _
  refine s_loadA rfl rfl (es := (enc_S_laws_Task a1)) rfl rfl (fun _ => rfl) (n := 4) (fun _ => rfl) (fk_S_laws_Task.len _) (cells_all (hs.cells 0 rfl)) ?_
  show G _ _ _ _ [_, _, _, _, _, _, _, _, _, _, _, _, _, _, _, _, _, _, _, _, _, _, _, _, _, _, _, _, _, _, _, _, _, _, _, _, _, _, _, _, _, _, _, _, _, _, _, _, _, _, _, _, _, _, _, _, _, _, _, _, _] _
  refine g_op (v := v5) rfl rfl rfl ?_
  show G _ _ _ _ [_, _, _, _, _, _, _, _, _, _, _, _, _, _, _, _, _, _, _, _, _, _, _, _, _, _, _, _, _, _, _, _, _, _, _, _, _, _, _, _, _, _, _, _, _, _, _, _, _, _, _, _, _, _, _, _, _, _, _, _, _] _
  refine g_op (v := v3) rfl rfl rfl ?_
  show G _ _ _ _ [_, _, _, _, _, _, _, _, _, _, _, _, _, _, _, _, _, _, _, _, _, _, _, _, _, _, _, _, _, _, _, _, _, _, _, _, _, _, _, _, _, _, _, _, _, _, _, _, _, _, _, _, _, _, _, _, _, _, _, _, _] _
  obtain ⟨r8, Hr8, H⟩ := bind_get H
  refine s_call (args := [Value.agg (enc_S_laws_Task a1).toArray, v5, v3]) rfl rfl (x_call rfl (callFunc_enter Try.func48 rfl rfl) rfl) (impl_splitCode.calls (a1 := a1) (a2 := a4) (a4 := a2) (hs.rd hr2) (hs.rd hr1) Hr8) ?_
  rintro _ w ⟨rfl, hs2⟩
  have hs : St _ [_] _ := hs.call hs2
  show G _ _ _ _ [_, _, _, _, _, _, _, _, _, _, _, _, _, _, _, _, _, _, _, _, _, _, _, _, _, _, _, _, _, _, _, _, _, _, _, _, _, _, _, _, _, _, _, _, _, _, _, _, _, _, _, _, _, _, _, _, _, _, _, _, _] _
  refine g_op (v := Value.int .i64 r8) rfl rfl rfl ?_
  show G _ _ _ _ [_, _, _, _, _, _, _, _, _, _, _, _, _, _, _, _, _, _, _, _, _, _, _, _, _, _, _, _, _, _, _, _, _, _, _, _, _, _, _, _, _, _, _, _, _, _, _, _, _, _, _, _, _, _, _, _, _, _, _, _, _] _
  refine g_ops_nil ?_
  refine g_seq ?_
  refine g_seq ?_
  refine g_join2 (J := (fun t w => ∃ x12 : Int, impl_FairestWeighing.j0 N a4 a2 x12 = some r ∧ Fr t (fun O => ([O 0, v3, v5, O 3, O 4, O 5, O 6, O 7, O 8, Value.int .i64 x12, O 10, O 11, O 12, O 13, O 14, O 15, O 16, O 17, O 18, O 19, O 20, O 21, O 22, O 23, O 24, O 25, O 26, O 27, O 28, O 29, O 30, O 31, O 32, O 33, O 34, O 35, O 36, O 37, O 38, O 39, O 40, O 41, O 42, O 43, O 44, O 45, O 46, O 47, O 48, O 49, O 50, O 51, O 52, O 53, O 54, O 55, O 56, O 57, O 58, O 59, O 60] : List Value)) ∧ St w0 [] w)) ?_ ?_
  · rintro t w ⟨x12, H, hf, hs⟩
    obtain ⟨O, rfl⟩ := hf.open
    show G _ _ _ _ [_, _, _, _, _, _, _, _, _, _, _, _, _, _, _, _, _, _, _, _, _, _, _, _, _, _, _, _, _, _, _, _, _, _, _, _, _, _, _, _, _, _, _, _, _, _, _, _, _, _, _, _, _, _, _, _, _, _, _, _, _] _
    unfold impl_FairestWeighing.j0 at H
    refine g_seq ?_
    refine g_seq ?_
    refine g_region ?_
    show G _ _ _ (.inRegion _ [0, 1] :: _) _ _
    refine g_op (v := Value.int .i64 x12) rfl rfl rfl ?_
    show G _ _ _ _ [_, _, _, _, _, _, _, _, _, _, _, _, _, _, _, _, _, _, _, _, _, _, _, _, _, _, _, _, _, _, _, _, _, _, _, _, _, _, _, _, _, _, _, _, _, _, _, _, _, _, _, _, _, _, _, _, _, _, _, _, _] _
    refine g_op_b (B := x12 != 0) rfl rfl rfl ?_ ?_
    · intro hb
      rw [if_neg (b_bne_t hb)] at H
      show G _ _ _ _ [_, _, _, _, _, _, _, _, _, _, _, _, _, _, _, _, _, _, _, _, _, _, _, _, _, _, _, _, _, _, _, _, _, _, _, _, _, _, _, _, _, _, _, _, _, _, _, _, _, _, _, _, _, _, _, _, _, _, _, _, _] _
      refine g_ops_nil ?_
      refine g_cond_true rfl ?_
      refine g_seq ?_
      refine g_region ?_
      show G _ _ _ (.inRegion _ [0, 1, 2, 3] :: _) _ _
      refine g_op (v := Value.int .i64 x12) rfl rfl rfl ?_
      show G _ _ _ _ [_, _, _, _, _, _, _, _, _, _, _, _, _, _, _, _, _, _, _, _, _, _, _, _, _, _, _, _, _, _, _, _, _, _, _, _, _, _, _, _, _, _, _, _, _, _, _, _, _, _, _, _, _, _, _, _, _, _, _, _, _] _
      refine g_op (v := Value.int .i64 0) rfl rfl rfl ?_
      show G _ _ _ _ [_, _, _, _, _, _, _, _, _, _, _, _, _, _, _, _, _, _, _, _, _, _, _, _, _, _, _, _, _, _, _, _, _, _, _, _, _, _, _, _, _, _, _, _, _, _, _, _, _, _, _, _, _, _, _, _, _, _, _, _, _] _
      refine g_op (v := Value.int .i64 0) rfl rfl rfl ?_
      show G _ _ _ _ [_, _, _, _, _, _, _, _, _, _, _, _, _, _, _, _, _, _, _, _, _, _, _, _, _, _, _, _, _, _, _, _, _, _, _, _, _, _, _, _, _, _, _, _, _, _, _, _, _, _, _, _, _, _, _, _, _, _, _, _, _] _
      refine g_op (v := Value.int .i64 x12) rfl rfl rfl ?_
      show G _ _ _ _ [_, _, _, _, _, _, _, _, _, _, _, _, _, _, _, _, _, _, _, _, _, _, _, _, _, _, _, _, _, _, _, _, _, _, _, _, _, _, _, _, _, _, _, _, _, _, _, _, _, _, _, _, _, _, _, _, _, _, _, _, _] _
      refine g_ops_nil ?_
      obtain rfl := Option.some.inj H
      refine g_ret Try.func29 (v := Value.tuple #[Value.int .i64 0, Value.int .i64 0, Value.int .i64 x12]) (resN (l := Try.f29.results.toList) (vs := [Value.int .i64 0, Value.int .i64 0, Value.int .i64 x12]) rfl ⟨rfl, rfl, rfl, trivial⟩ (by simp)) ?_
      have hs : St _ [] _ := St.take (Γ' := []) hs
      exact ⟨_, rfl, rfl, hs⟩
    · intro hb
      rw [if_pos (b_bne_f hb)] at H
      show G _ _ _ _ [_, _, _, _, _, _, _, _, _, _, _, _, _, _, _, _, _, _, _, _, _, _, _, _, _, _, _, _, _, _, _, _, _, _, _, _, _, _, _, _, _, _, _, _, _, _, _, _, _, _, _, _, _, _, _, _, _, _, _, _, _] _
      refine g_ops_nil ?_
      refine g_cond_false rfl ?_
      refine g_skip ?_
      refine g_seq ?_
      refine g_region ?_
      show G _ _ _ (.inRegion _ [0, 1] :: _) _ _
      refine g_op (v := Value.int .i64 0) rfl rfl rfl ?_
      show G _ _ _ _ [_, _, _, _, _, _, _, _, _, _, _, _, _, _, _, _, _, _, _, _, _, _, _, _, _, _, _, _, _, _, _, _, _, _, _, _, _, _, _, _, _, _, _, _, _, _, _, _, _, _, _, _, _, _, _, _, _, _, _, _, _] _
      refine g_op (v := Value.int .i64 (-1)) rfl rfl rfl ?_
      show G _ _ _ _ [_, _, _, _, _, _, _, _, _, _, _, _, _, _, _, _, _, _, _, _, _, _, _, _, _, _, _, _, _, _, _, _, _, _, _, _, _, _, _, _, _, _, _, _, _, _, _, _, _, _, _, _, _, _, _, _, _, _, _, _, _] _
      refine g_ops_nil ?_
      refine g_seq ?_
      refine g_seq ?_
      refine g_region ?_
      show G _ _ _ (.inRegion _ [0, 1, 2] :: _) _ _
      refine g_op (v := v5) rfl rfl rfl ?_
      show G _ _ _ _ [_, _, _, _, _, _, _, _, _, _, _, _, _, _, _, _, _, _, _, _, _, _, _, _, _, _, _, _, _, _, _, _, _, _, _, _, _, _, _, _, _, _, _, _, _, _, _, _, _, _, _, _, _, _, _, _, _, _, _, _, _] _
      refine s_len (hs.rd hr2) rfl rfl rfl rfl rfl ?_
      show G _ _ _ _ [_, _, _, _, _, _, _, _, _, _, _, _, _, _, _, _, _, _, _, _, _, _, _, _, _, _, _, _, _, _, _, _, _, _, _, _, _, _, _, _, _, _, _, _, _, _, _, _, _, _, _, _, _, _, _, _, _, _, _, _, _] _
      refine g_op (v := Value.int .i64 0) rfl rfl rfl ?_
      show G _ _ _ _ [_, _, _, _, _, _, _, _, _, _, _, _, _, _, _, _, _, _, _, _, _, _, _, _, _, _, _, _, _, _, _, _, _, _, _, _, _, _, _, _, _, _, _, _, _, _, _, _, _, _, _, _, _, _, _, _, _, _, _, _, _] _
      refine g_ops_nil ?_
      obtain ⟨o1_, Ho, Hr1_⟩ := bind_get H
      refine g_block_join (J := fun t w => ∃ x33 : Int, ∃ x34 : Int, impl_FairestWeighing.a1 N x33 x34 = some r ∧ Fr t (fun O => ([O 0, O 1, O 2, O 3, O 4, O 5, O 6, O 7, O 8, O 9, Value.int .i64 x33, Value.int .i64 x34, O 12, O 13, O 14, O 15, O 16, O 17, O 18, O 19, O 20, O 21, O 22, O 23, O 24, O 25, O 26, O 27, O 28, O 29, O 30, O 31, O 32, O 33, O 34, O 35, O 36, O 37, O 38, O 39, O 40, O 41, O 42, O 43, O 44, O 45, O 46, O 47, O 48, O 49, O 50, O 51, O 52, O 53, O 54, O 55, O 56, O 57, O 58, O 59, O 60] : List Value)) ∧ St w0 [] w) ?_ ?_
      · rintro t w ⟨x33, x34, H, hf, hs⟩
        obtain ⟨O, rfl⟩ := hf.open
        show G _ _ _ _ [_, _, _, _, _, _, _, _, _, _, _, _, _, _, _, _, _, _, _, _, _, _, _, _, _, _, _, _, _, _, _, _, _, _, _, _, _, _, _, _, _, _, _, _, _, _, _, _, _, _, _, _, _, _, _, _, _, _, _, _, _] _
        unfold impl_FairestWeighing.a1 at H
        refine g_seq ?_
        refine g_region ?_
        show G _ _ _ (.inRegion _ [0, 1, 2, 3, 4] :: _) _ _
        refine g_op (v := Value.int .i64 x33) rfl rfl rfl ?_
        show G _ _ _ _ [_, _, _, _, _, _, _, _, _, _, _, _, _, _, _, _, _, _, _, _, _, _, _, _, _, _, _, _, _, _, _, _, _, _, _, _, _, _, _, _, _, _, _, _, _, _, _, _, _, _, _, _, _, _, _, _, _, _, _, _, _] _
        refine g_op (v := Value.int .i64 x34) rfl rfl rfl ?_
        show G _ _ _ _ [_, _, _, _, _, _, _, _, _, _, _, _, _, _, _, _, _, _, _, _, _, _, _, _, _, _, _, _, _, _, _, _, _, _, _, _, _, _, _, _, _, _, _, _, _, _, _, _, _, _, _, _, _, _, _, _, _, _, _, _, _] _
        refine g_op (v := Value.int .i64 x33) rfl rfl rfl ?_
        show G _ _ _ _ [_, _, _, _, _, _, _, _, _, _, _, _, _, _, _, _, _, _, _, _, _, _, _, _, _, _, _, _, _, _, _, _, _, _, _, _, _, _, _, _, _, _, _, _, _, _, _, _, _, _, _, _, _, _, _, _, _, _, _, _, _] _
        refine g_op (v := Value.int .i64 x34) rfl rfl rfl ?_
        show G _ _ _ _ [_, _, _, _, _, _, _, _, _, _, _, _, _, _, _, _, _, _, _, _, _, _, _, _, _, _, _, _, _, _, _, _, _, _, _, _, _, _, _, _, _, _, _, _, _, _, _, _, _, _, _, _, _, _, _, _, _, _, _, _, _] _
        refine g_op (v := Value.int .i64 0) rfl rfl rfl ?_
        show G _ _ _ _ [_, _, _, _, _, _, _, _, _, _, _, _, _, _, _, _, _, _, _, _, _, _, _, _, _, _, _, _, _, _, _, _, _, _, _, _, _, _, _, _, _, _, _, _, _, _, _, _, _, _, _, _, _, _, _, _, _, _, _, _, _] _
        refine g_ops_nil ?_
        obtain rfl := Option.some.inj H
        refine g_ret Try.func29 (v := Value.tuple #[Value.int .i64 x33, Value.int .i64 x34, Value.int .i64 0]) (resN (l := Try.f29.results.toList) (vs := [Value.int .i64 x33, Value.int .i64 x34, Value.int .i64 0]) rfl ⟨rfl, rfl, rfl, trivial⟩ (by simp)) ?_
        have hs : St _ [] _ := St.take (Γ' := []) hs
        exact ⟨_, rfl, rfl, hs⟩
      · intro ha1_
        have hs : St _ [] _ := St.take (Γ' := []) hs
        refine g_loop_fuel (I := fun n_ t w => ∃ x13 : Int, ∃ x14 : Int, ∃ x15 : Int, rounds (fun s => impl_FairestWeighing.b1 N a4 a2 s.1 s.2.1 s.2.2) n_ (x13, x14, x15) = some o1_ ∧ Fr t (fun O => ([O 0, v3, O 2, O 3, O 4, O 5, O 6, O 7, O 8, O 9, Value.int .i64 x13, Value.int .i64 x14, O 12, O 13, O 14, O 15, O 16, O 17, O 18, O 19, O 20, O 21, O 22, O 23, O 24, O 25, O 26, O 27, O 28, v5, Value.int .i64 (a4.length : Int), Value.int .i64 x15, O 32, O 33, O 34, O 35, O 36, O 37, O 38, O 39, O 40, O 41, O 42, O 43, O 44, O 45, O 46, O 47, O 48, O 49, O 50, O 51, O 52, O 53, O 54, O 55, O 56, O 57, O 58, O 59, O 60] : List Value)) ∧ St w0 [] w) N ⟨0, (-1), 0, Ho, rfl, hs⟩ ?_ ?_
        · rintro _ _ ⟨x13, x14, x15, h, _⟩
          exact rounds_zero h
        · intro n_ ih1_
          rintro t w ⟨x13, x14, x15, Ho, hf, hs⟩
          obtain ⟨O, rfl⟩ := hf.open
          show G _ _ _ _ [_, _, _, _, _, _, _, _, _, _, _, _, _, _, _, _, _, _, _, _, _, _, _, _, _, _, _, _, _, _, _, _, _, _, _, _, _, _, _, _, _, _, _, _, _, _, _, _, _, _, _, _, _, _, _, _, _, _, _, _, _] _
          obtain ⟨x2_, H, Hx1_⟩ := rounds_succ Ho
          have H : impl_FairestWeighing.b1 N a4 a2 x13 x14 x15 = some x2_ := H
          unfold impl_FairestWeighing.b1 at H
          refine g_seq ?_
          refine g_region ?_
          show G _ _ _ (.inRegion _ [0] :: _) _ _
          refine g_op_b (B := decide (x15 < (a4.length : Int))) rfl rfl rfl ?_ ?_
          · intro hb
            rw [if_pos (b_dec_t hb)] at H
            show G _ _ _ _ [_, _, _, _, _, _, _, _, _, _, _, _, _, _, _, _, _, _, _, _, _, _, _, _, _, _, _, _, _, _, _, _, _, _, _, _, _, _, _, _, _, _, _, _, _, _, _, _, _, _, _, _, _, _, _, _, _, _, _, _, _] _
            refine g_ops_nil ?_
            refine g_seq ?_
            refine g_cond_true rfl ?_
            refine g_skip ?_
            refine g_seq ?_
            refine g_block_join (J := (fun t w => ∃ x31 : Int, ∃ x32 : Int, impl_FairestWeighing.j3 N x15 x31 x32 = some x2_ ∧ Fr t (fun O => ([O 0, v3, O 2, O 3, O 4, O 5, O 6, O 7, O 8, O 9, Value.int .i64 x31, Value.int .i64 x32, O 12, O 13, O 14, O 15, O 16, O 17, O 18, O 19, O 20, O 21, O 22, O 23, O 24, O 25, O 26, O 27, O 28, v5, Value.int .i64 (a4.length : Int), Value.int .i64 x15, O 32, O 33, O 34, O 35, O 36, O 37, O 38, O 39, O 40, O 41, O 42, O 43, O 44, O 45, O 46, O 47, O 48, O 49, O 50, O 51, O 52, O 53, O 54, O 55, O 56, O 57, O 58, O 59, O 60] : List Value)) ∧ St w0 [] w)) ?_ ?_
            · rintro t w ⟨x31, x32, H, hf, hs⟩
              obtain ⟨O, rfl⟩ := hf.open
              show G _ _ _ _ [_, _, _, _, _, _, _, _, _, _, _, _, _, _, _, _, _, _, _, _, _, _, _, _, _, _, _, _, _, _, _, _, _, _, _, _, _, _, _, _, _, _, _, _, _, _, _, _, _, _, _, _, _, _, _, _, _, _, _, _, _] _
              unfold impl_FairestWeighing.j3 at H
              refine g_region ?_
              show G _ _ _ (.inRegion _ [0, 1] :: _) _ _
              refine g_op (v := Value.int .i64 (i64w (x15 + 1))) rfl rfl rfl ?_
              show G _ _ _ _ [_, _, _, _, _, _, _, _, _, _, _, _, _, _, _, _, _, _, _, _, _, _, _, _, _, _, _, _, _, _, _, _, _, _, _, _, _, _, _, _, _, _, _, _, _, _, _, _, _, _, _, _, _, _, _, _, _, _, _, _, _] _
              refine g_op (v := Value.int .i64 (i64w (x15 + 1))) rfl rfl rfl ?_
              show G _ _ _ _ [_, _, _, _, _, _, _, _, _, _, _, _, _, _, _, _, _, _, _, _, _, _, _, _, _, _, _, _, _, _, _, _, _, _, _, _, _, _, _, _, _, _, _, _, _, _, _, _, _, _, _, _, _, _, _, _, _, _, _, _, _] _
              refine g_ops_nil ?_
              obtain rfl := Option.some.inj H
              have hs : St _ [] _ := St.take (Γ' := []) hs
              exact ih1_ _ _ ⟨x31, x32, i64w (x15 + 1), Hx1_, rfl, hs⟩
            · intro ha
              refine g_seq ?_
              refine g_region ?_
              show G _ _ _ (.inRegion _ [0, 1, 2, 3, 4, 5] :: _) _ _
              refine g_op (v := Value.int .i64 x15) rfl rfl rfl ?_
              show G _ _ _ _ [_, _, _, _, _, _, _, _, _, _, _, _, _, _, _, _, _, _, _, _, _, _, _, _, _, _, _, _, _, _, _, _, _, _, _, _, _, _, _, _, _, _, _, _, _, _, _, _, _, _, _, _, _, _, _, _, _, _, _, _, _] _
              obtain ⟨g1, H⟩ := ite_get H
              refine s_idx (fkA (n := 14) (he := (fkI .i8).len) (h1 := (fkI .i8).one)) (Ar.rep 14 0) (hs.rd hr2) rfl (fun _ => rfl) g1.1 g1.2 rfl rfl rfl rfl rfl ?_
              intro p16 hp16 lp16 op16
              show G _ _ _ _ [_, _, _, _, _, _, _, _, _, _, _, _, _, _, _, _, _, _, _, _, _, _, _, _, _, _, _, _, _, _, _, _, _, _, _, _, _, _, _, _, _, _, _, _, _, _, _, _, _, _, _, _, _, _, _, _, _, _, _, _, _] _
              refine s_loadA rfl rfl (es := ((encA (encI .i8)) (rdL a4 x15 (Ar.rep 14 0)))) rfl rfl (fun _ => rfl) (n := 14) (fun _ => rfl) ((fkA (n := 14) (he := (fkI .i8).len) (h1 := (fkI .i8).one)).len _) hp16 ?_
              show G _ _ _ _ [_, _, _, _, _, _, _, _, _, _, _, _, _, _, _, _, _, _, _, _, _, _, _, _, _, _, _, _, _, _, _, _, _, _, _, _, _, _, _, _, _, _, _, _, _, _, _, _, _, _, _, _, _, _, _, _, _, _, _, _, _] _
              refine s_alloc hs rfl rfl (z := (Value.agg #[Value.int .i8 0, Value.int .i8 0, Value.int .i8 0, Value.int .i8 0, Value.int .i8 0, Value.int .i8 0, Value.int .i8 0, Value.int .i8 0, Value.int .i8 0, Value.int .i8 0, Value.int .i8 0, Value.int .i8 0, Value.int .i8 0, Value.int .i8 0])) (cs := ((encA (encI .i8)) (Ar.rep 14 0))) rfl (fun _ => rfl) rfl ?_
              intro b17 w hs
              show G _ _ _ _ [_, _, _, _, _, _, _, _, _, _, _, _, _, _, _, _, _, _, _, _, _, _, _, _, _, _, _, _, _, _, _, _, _, _, _, _, _, _, _, _, _, _, _, _, _, _, _, _, _, _, _, _, _, _, _, _, _, _, _, _, _] _
              refine g_op (v := Value.int .i64 x15) rfl rfl rfl ?_
              show G _ _ _ _ [_, _, _, _, _, _, _, _, _, _, _, _, _, _, _, _, _, _, _, _, _, _, _, _, _, _, _, _, _, _, _, _, _, _, _, _, _, _, _, _, _, _, _, _, _, _, _, _, _, _, _, _, _, _, _, _, _, _, _, _, _] _
              refine s_storeAll (n := 14) hs ((fkA (n := 14) (he := (fkI .i8).len) (h1 := (fkI .i8).one)).len _) rfl rfl (vs := ((encA (encI .i8)) (rdL a4 x15 (Ar.rep 14 0)))) rfl rfl rfl (fun _ => rfl) ((fkA (n := 14) (he := (fkI .i8).len) (h1 := (fkI .i8).one)).len _) ((fkA (n := 14) (he := (fkI .i8).len) (h1 := (fkI .i8).one)).one _) ?_
              intro w hs
              refine g_ops_nil ?_
              refine g_seq ?_
              refine g_region ?_
              show G _ _ _ (.inRegion _ [0, 1, 2, 3, 4] :: _) _ _
              refine s_loadA rfl rfl (es := ((encA (encI .i8)) (rdL a4 x15 (Ar.rep 14 0)))) rfl rfl (fun _ => rfl) (n := 14) (fun _ => rfl) ((fkA (n := 14) (he := (fkI .i8).len) (h1 := (fkI .i8).one)).len _) (cells_all (hs.cells 0 rfl)) ?_
              show G _ _ _ _ [_, _, _, _, _, _, _, _, _, _, _, _, _, _, _, _, _, _, _, _, _, _, _, _, _, _, _, _, _, _, _, _, _, _, _, _, _, _, _, _, _, _, _, _, _, _, _, _, _, _, _, _, _, _, _, _, _, _, _, _, _] _
              refine g_op (v := v3) rfl rfl rfl ?_
              show G _ _ _ _ [_, _, _, _, _, _, _, _, _, _, _, _, _, _, _, _, _, _, _, _, _, _, _, _, _, _, _, _, _, _, _, _, _, _, _, _, _, _, _, _, _, _, _, _, _, _, _, _, _, _, _, _, _, _, _, _, _, _, _, _, _] _
              obtain ⟨r19, Hr19, H⟩ := bind_get H
              refine s_call (args := [Value.agg ((encA (encI .i8)) (rdL a4 x15 (Ar.rep 14 0))).toArray, v3]) rfl rfl (x_call rfl (callFunc_enter Try.func49 rfl rfl) rfl) (impl_split.calls (a1 := rdL a4 x15 (Ar.rep 14 0)) (a2 := a2) (hs.rd hr1) Hr19) ?_
              rintro _ w ⟨v20, v21, v22, rfl, hs2⟩
              have hs : St _ [_, _, _, _] _ := hs.call hs2
              show G _ _ _ _ [_, _, _, _, _, _, _, _, _, _, _, _, _, _, _, _, _, _, _, _, _, _, _, _, _, _, _, _, _, _, _, _, _, _, _, _, _, _, _, _, _, _, _, _, _, _, _, _, _, _, _, _, _, _, _, _, _, _, _, _, _] _
              refine s_alloc hs rfl rfl (z := (Value.agg #[Value.slice none 0 0, Value.slice none 0 0, Value.slice none 0 0])) (cs := (([Value.slice none 0 0, Value.slice none 0 0, Value.slice none 0 0] : List Value))) rfl (fun _ => rfl) rfl ?_
              intro b26 w hs
              show G _ _ _ _ [_, _, _, _, _, _, _, _, _, _, _, _, _, _, _, _, _, _, _, _, _, _, _, _, _, _, _, _, _, _, _, _, _, _, _, _, _, _, _, _, _, _, _, _, _, _, _, _, _, _, _, _, _, _, _, _, _, _, _, _, _] _
              refine s_storeAll (n := 3) hs rfl rfl rfl (vs := (([v20, v21, v22] : List Value))) rfl rfl rfl (fun _ => rfl) rfl (by intro v hv; simp only [List.mem_append, List.mem_cons, List.not_mem_nil, or_false] at hv; repeat (first | (subst hv; first | rfl | exact slOne (hs.row 1 rfl) | exact slOne (hs.row 2 rfl) | exact slOne (hs.row 3 rfl)) | (rcases hv with hv | hv))) ?_
              intro w hs
              refine g_ops_nil ?_
              refine g_seq ?_
              obtain ⟨r28, Hr28, H⟩ := bind_get H
              obtain ⟨r29, Hr29, H⟩ := bind_get H
              obtain ⟨r30, Hr30, H⟩ := bind_get H
              refine g_name ?_
              intro T hT
              refine g_any (n := 11) rfl [0, 1, 2, 3, 4, 5, 6, 7, 8, 9, 10] [0, 1, 2, 3, 4, 5, 6, 7, 8, 9, 10] rfl rfl (Inv := fun D t w => ∃ O : Nat → Value, t = [O 0, v3, O 2, O 3, O 4, O 5, O 6, O 7, O 8, O 9, Value.int .i64 x13, Value.int .i64 x14, Value.int .i64 x15, Value.pointer (some ⟨b17, 0, none⟩), Value.pointer (some ⟨b26, 0, none⟩), cnd (D 10) (Value.int .i64 (mxI (mxI r28 r29) r30)) (O 15), O 16, O 17, O 18, O 19, O 20, O 21, O 22, O 23, O 24, O 25, O 26, O 27, O 28, v5, Value.int .i64 (a4.length : Int), Value.int .i64 x15, Value.bool true, Value.int .i64 x15, Value.pointer (some p16), Value.agg ((encA (encI .i8)) (rdL a4 x15 (Ar.rep 14 0))).toArray, Value.agg ((encA (encI .i8)) (rdL a4 x15 (Ar.rep 14 0))).toArray, v3, Value.agg (([v20, v21, v22] : List Value)).toArray, cnd (D 0) (Value.pointer (some ⟨b26, 0 + 0 * 1, none⟩)) (O 39), cnd (D 1) v20 (O 40), cnd (D 2) (Value.int .i64 r28) (O 41), cnd (D 3) (Value.pointer (some ⟨b26, 0 + 1 * 1, none⟩)) (O 42), cnd (D 4) v21 (O 43), cnd (D 5) (Value.int .i64 r29) (O 44), cnd (D 6) (Value.pointer (some ⟨b26, 0 + 2 * 1, none⟩)) (O 45), cnd (D 7) v22 (O 46), cnd (D 8) (Value.int .i64 r30) (O 47), cnd (D 9) (Value.int .i64 (mxI (mxI r28 r29) r30)) (O 48), O 49, O 50, O 51, O 52, O 53, O 54, O 55, O 56, O 57, O 58, O 59, O 60] ∧ St w0 [Cells b26 (([v20, v21, v22] : List Value)) 47, Row 84 k_S_impl_Case v20 (r19.get 0 []), Row 84 k_S_impl_Case v21 (r19.get 1 []), Row 84 k_S_impl_Case v22 (r19.get 2 []), Cells b17 ((encA (encI .i8)) (rdL a4 x15 (Ar.rep 14 0))) 52] w) ?_ ⟨⟨⟨⟨⟨⟨⟨⟨⟨⟨⟨trivial, ?_⟩, ?_⟩, ?_⟩, ?_⟩, ?_⟩, ?_⟩, ?_⟩, ?_⟩, ?_⟩, ?_⟩, ?_⟩ ?_
              · intro w hh hbw
                have hs := hs.samew hh hbw
                exact ⟨fun i => T.getD i undef, (by subst hT; rfl), hs⟩
              · intro D t w hD hp hcl hI rest hk
                obtain ⟨O, ht, hs⟩ := hI
                have q1_ : D 1 = false := not_yet (hcl.get 1 (by decide)) 0 0 rfl hD
                have q2_ : D 2 = false := not_yet (hcl.get 2 (by decide)) 0 1 rfl q1_
                have q5_ : D 5 = false := not_yet (hcl.get 5 (by decide)) 1 2 rfl q2_
                have q8_ : D 8 = false := not_yet (hcl.get 8 (by decide)) 1 5 rfl q5_
                have q9_ : D 9 = false := not_yet (hcl.get 9 (by decide)) 0 2 rfl q2_
                have q10_ : D 10 = false := not_yet (hcl.get 10 (by decide)) 0 9 rfl q9_
                have u0_ : upd D 0 0 = true := rfl
                have u1_ : upd D 0 1 = D 1 := rfl
                have u2_ : upd D 0 2 = D 2 := rfl
                have u3_ : upd D 0 3 = D 3 := rfl
                have u4_ : upd D 0 4 = D 4 := rfl
                have u5_ : upd D 0 5 = D 5 := rfl
                have u6_ : upd D 0 6 = D 6 := rfl
                have u7_ : upd D 0 7 = D 7 := rfl
                have u8_ : upd D 0 8 = D 8 := rfl
                have u9_ : upd D 0 9 = D 9 := rfl
                have u10_ : upd D 0 10 = D 10 := rfl
                simp only [hD, q1_, q2_, q5_, q8_, q9_, q10_, cnd_t, cnd_f, Asc_t, Asc_f] at ht hs
                subst ht
                refine s_idxJ (m := 1) 0 rfl (by decide) rfl (fun _ => rfl) rfl rfl rfl rfl rfl ?_
                show G _ _ _ _ [_, _, _, _, _, _, _, _, _, _, _, _, _, _, _, _, _, _, _, _, _, _, _, _, _, _, _, _, _, _, _, _, _, _, _, _, _, _, _, _, _, _, _, _, _, _, _, _, _, _, _, _, _, _, _, _, _, _, _, _, _] _
                exact hk _ _ ⟨O, (by simp only [u0_, u1_, u2_, u3_, u4_, u5_, u6_, u7_, u8_, u9_, u10_, q1_, q2_, q5_, q8_, q9_, q10_, cnd_t, cnd_f, Asc_t, Asc_f]), hs.cast (by first | rfl | simp only [List.take, List.drop, List.cons_append, List.nil_append, List.set_cons_zero, List.set_cons_succ, List.eraseIdx, u0_, u1_, u2_, u3_, u4_, u5_, u6_, u7_, u8_, u9_, u10_, q1_, q2_, q5_, q8_, q9_, q10_, cnd_t, cnd_f, Asc_t, Asc_f])⟩
              · intro D t w hD hp hcl hI rest hk
                obtain ⟨O, ht, hs⟩ := hI
                obtain ⟨p0_, _⟩ := hp
                have q2_ : D 2 = false := not_yet (hcl.get 2 (by decide)) 0 1 rfl hD
                have q5_ : D 5 = false := not_yet (hcl.get 5 (by decide)) 1 2 rfl q2_
                have q8_ : D 8 = false := not_yet (hcl.get 8 (by decide)) 1 5 rfl q5_
                have q9_ : D 9 = false := not_yet (hcl.get 9 (by decide)) 0 2 rfl q2_
                have q10_ : D 10 = false := not_yet (hcl.get 10 (by decide)) 0 9 rfl q9_
                have u0_ : upd D 1 0 = D 0 := rfl
                have u1_ : upd D 1 1 = true := rfl
                have u2_ : upd D 1 2 = D 2 := rfl
                have u3_ : upd D 1 3 = D 3 := rfl
                have u4_ : upd D 1 4 = D 4 := rfl
                have u5_ : upd D 1 5 = D 5 := rfl
                have u6_ : upd D 1 6 = D 6 := rfl
                have u7_ : upd D 1 7 = D 7 := rfl
                have u8_ : upd D 1 8 = D 8 := rfl
                have u9_ : upd D 1 9 = D 9 := rfl
                have u10_ : upd D 1 10 = D 10 := rfl
                simp only [hD, p0_, q2_, q5_, q8_, q9_, q10_, cnd_t, cnd_f, Asc_t, Asc_f] at ht hs
                subst ht
                refine s_load1 rfl rfl (v := v20) rfl rfl (fun _ => rfl) (cells_load (hs.cells 0 rfl) 0 1 rfl) ?_
                show G _ _ _ _ [_, _, _, _, _, _, _, _, _, _, _, _, _, _, _, _, _, _, _, _, _, _, _, _, _, _, _, _, _, _, _, _, _, _, _, _, _, _, _, _, _, _, _, _, _, _, _, _, _, _, _, _, _, _, _, _, _, _, _, _, _] _
                exact hk _ _ ⟨O, (by simp only [u0_, u1_, u2_, u3_, u4_, u5_, u6_, u7_, u8_, u9_, u10_, p0_, q2_, q5_, q8_, q9_, q10_, cnd_t, cnd_f, Asc_t, Asc_f]), hs.cast (by first | rfl | simp only [List.take, List.drop, List.cons_append, List.nil_append, List.set_cons_zero, List.set_cons_succ, List.eraseIdx, u0_, u1_, u2_, u3_, u4_, u5_, u6_, u7_, u8_, u9_, u10_, p0_, q2_, q5_, q8_, q9_, q10_, cnd_t, cnd_f, Asc_t, Asc_f])⟩
              · intro D t w hD hp hcl hI rest hk
                obtain ⟨O, ht, hs⟩ := hI
                obtain ⟨p1_, _⟩ := hp
                obtain ⟨p0_, _⟩ := (hcl.get 1 (by decide)) p1_
                have q5_ : D 5 = false := not_yet (hcl.get 5 (by decide)) 1 2 rfl hD
                have q8_ : D 8 = false := not_yet (hcl.get 8 (by decide)) 1 5 rfl q5_
                have q9_ : D 9 = false := not_yet (hcl.get 9 (by decide)) 0 2 rfl hD
                have q10_ : D 10 = false := not_yet (hcl.get 10 (by decide)) 0 9 rfl q9_
                have u0_ : upd D 2 0 = D 0 := rfl
                have u1_ : upd D 2 1 = D 1 := rfl
                have u2_ : upd D 2 2 = true := rfl
                have u3_ : upd D 2 3 = D 3 := rfl
                have u4_ : upd D 2 4 = D 4 := rfl
                have u5_ : upd D 2 5 = D 5 := rfl
                have u6_ : upd D 2 6 = D 6 := rfl
                have u7_ : upd D 2 7 = D 7 := rfl
                have u8_ : upd D 2 8 = D 8 := rfl
                have u9_ : upd D 2 9 = D 9 := rfl
                have u10_ : upd D 2 10 = D 10 := rfl
                simp only [hD, p0_, p1_, q5_, q8_, q9_, q10_, cnd_t, cnd_f, Asc_t, Asc_f] at ht hs
                subst ht
                refine s_call (args := [v20]) rfl rfl (x_call rfl (callFunc_enter Try.func59 rfl rfl) rfl) (impl_size_impl_Case.calls (a1 := (r19.get 0 [])) (hs.row 1 rfl) Hr28) ?_
                rintro _ w ⟨rfl, hs2⟩
                have hs : St _ [_, _, _, _, _] _ := hs.call hs2
                show G _ _ _ _ [_, _, _, _, _, _, _, _, _, _, _, _, _, _, _, _, _, _, _, _, _, _, _, _, _, _, _, _, _, _, _, _, _, _, _, _, _, _, _, _, _, _, _, _, _, _, _, _, _, _, _, _, _, _, _, _, _, _, _, _, _] _
                exact hk _ _ ⟨O, (by simp only [u0_, u1_, u2_, u3_, u4_, u5_, u6_, u7_, u8_, u9_, u10_, p0_, p1_, q5_, q8_, q9_, q10_, cnd_t, cnd_f, Asc_t, Asc_f]), hs.cast (by first | rfl | simp only [List.take, List.drop, List.cons_append, List.nil_append, List.set_cons_zero, List.set_cons_succ, List.eraseIdx, u0_, u1_, u2_, u3_, u4_, u5_, u6_, u7_, u8_, u9_, u10_, p0_, p1_, q5_, q8_, q9_, q10_, cnd_t, cnd_f, Asc_t, Asc_f])⟩
              · intro D t w hD hp hcl hI rest hk
                obtain ⟨O, ht, hs⟩ := hI
                have q4_ : D 4 = false := not_yet (hcl.get 4 (by decide)) 0 3 rfl hD
                have q5_ : D 5 = false := not_yet (hcl.get 5 (by decide)) 0 4 rfl q4_
                have q8_ : D 8 = false := not_yet (hcl.get 8 (by decide)) 1 5 rfl q5_
                have q9_ : D 9 = false := not_yet (hcl.get 9 (by decide)) 1 5 rfl q5_
                have q10_ : D 10 = false := not_yet (hcl.get 10 (by decide)) 0 9 rfl q9_
                have u0_ : upd D 3 0 = D 0 := rfl
                have u1_ : upd D 3 1 = D 1 := rfl
                have u2_ : upd D 3 2 = D 2 := rfl
                have u3_ : upd D 3 3 = true := rfl
                have u4_ : upd D 3 4 = D 4 := rfl
                have u5_ : upd D 3 5 = D 5 := rfl
                have u6_ : upd D 3 6 = D 6 := rfl
                have u7_ : upd D 3 7 = D 7 := rfl
                have u8_ : upd D 3 8 = D 8 := rfl
                have u9_ : upd D 3 9 = D 9 := rfl
                have u10_ : upd D 3 10 = D 10 := rfl
                simp only [hD, q4_, q5_, q8_, q9_, q10_, cnd_t, cnd_f, Asc_t, Asc_f] at ht hs
                subst ht
                refine s_idxJ (m := 1) 1 rfl (by decide) rfl (fun _ => rfl) rfl rfl rfl rfl rfl ?_
                show G _ _ _ _ [_, _, _, _, _, _, _, _, _, _, _, _, _, _, _, _, _, _, _, _, _, _, _, _, _, _, _, _, _, _, _, _, _, _, _, _, _, _, _, _, _, _, _, _, _, _, _, _, _, _, _, _, _, _, _, _, _, _, _, _, _] _
                exact hk _ _ ⟨O, (by simp only [u0_, u1_, u2_, u3_, u4_, u5_, u6_, u7_, u8_, u9_, u10_, q4_, q5_, q8_, q9_, q10_, cnd_t, cnd_f, Asc_t, Asc_f]), hs.cast (by first | rfl | simp only [List.take, List.drop, List.cons_append, List.nil_append, List.set_cons_zero, List.set_cons_succ, List.eraseIdx, u0_, u1_, u2_, u3_, u4_, u5_, u6_, u7_, u8_, u9_, u10_, q4_, q5_, q8_, q9_, q10_, cnd_t, cnd_f, Asc_t, Asc_f])⟩
              · intro D t w hD hp hcl hI rest hk
                obtain ⟨O, ht, hs⟩ := hI
                obtain ⟨p3_, _⟩ := hp
                have q5_ : D 5 = false := not_yet (hcl.get 5 (by decide)) 0 4 rfl hD
                have q8_ : D 8 = false := not_yet (hcl.get 8 (by decide)) 1 5 rfl q5_
                have q9_ : D 9 = false := not_yet (hcl.get 9 (by decide)) 1 5 rfl q5_
                have q10_ : D 10 = false := not_yet (hcl.get 10 (by decide)) 0 9 rfl q9_
                have u0_ : upd D 4 0 = D 0 := rfl
                have u1_ : upd D 4 1 = D 1 := rfl
                have u2_ : upd D 4 2 = D 2 := rfl
                have u3_ : upd D 4 3 = D 3 := rfl
                have u4_ : upd D 4 4 = true := rfl
                have u5_ : upd D 4 5 = D 5 := rfl
                have u6_ : upd D 4 6 = D 6 := rfl
                have u7_ : upd D 4 7 = D 7 := rfl
                have u8_ : upd D 4 8 = D 8 := rfl
                have u9_ : upd D 4 9 = D 9 := rfl
                have u10_ : upd D 4 10 = D 10 := rfl
                simp only [hD, p3_, q5_, q8_, q9_, q10_, cnd_t, cnd_f, Asc_t, Asc_f] at ht hs
                subst ht
                refine s_load1 rfl rfl (v := v21) rfl rfl (fun _ => rfl) (cells_load (hs.cells 0 rfl) 1 1 rfl) ?_
                show G _ _ _ _ [_, _, _, _, _, _, _, _, _, _, _, _, _, _, _, _, _, _, _, _, _, _, _, _, _, _, _, _, _, _, _, _, _, _, _, _, _, _, _, _, _, _, _, _, _, _, _, _, _, _, _, _, _, _, _, _, _, _, _, _, _] _
                exact hk _ _ ⟨O, (by simp only [u0_, u1_, u2_, u3_, u4_, u5_, u6_, u7_, u8_, u9_, u10_, p3_, q5_, q8_, q9_, q10_, cnd_t, cnd_f, Asc_t, Asc_f]), hs.cast (by first | rfl | simp only [List.take, List.drop, List.cons_append, List.nil_append, List.set_cons_zero, List.set_cons_succ, List.eraseIdx, u0_, u1_, u2_, u3_, u4_, u5_, u6_, u7_, u8_, u9_, u10_, p3_, q5_, q8_, q9_, q10_, cnd_t, cnd_f, Asc_t, Asc_f])⟩
              · intro D t w hD hp hcl hI rest hk
                obtain ⟨O, ht, hs⟩ := hI
                obtain ⟨p4_, p2_, _⟩ := hp
                obtain ⟨p3_, _⟩ := (hcl.get 4 (by decide)) p4_
                obtain ⟨p1_, _⟩ := (hcl.get 2 (by decide)) p2_
                obtain ⟨p0_, _⟩ := (hcl.get 1 (by decide)) p1_
                have q8_ : D 8 = false := not_yet (hcl.get 8 (by decide)) 1 5 rfl hD
                have q9_ : D 9 = false := not_yet (hcl.get 9 (by decide)) 1 5 rfl hD
                have q10_ : D 10 = false := not_yet (hcl.get 10 (by decide)) 0 9 rfl q9_
                have u0_ : upd D 5 0 = D 0 := rfl
                have u1_ : upd D 5 1 = D 1 := rfl
                have u2_ : upd D 5 2 = D 2 := rfl
                have u3_ : upd D 5 3 = D 3 := rfl
                have u4_ : upd D 5 4 = D 4 := rfl
                have u5_ : upd D 5 5 = true := rfl
                have u6_ : upd D 5 6 = D 6 := rfl
                have u7_ : upd D 5 7 = D 7 := rfl
                have u8_ : upd D 5 8 = D 8 := rfl
                have u9_ : upd D 5 9 = D 9 := rfl
                have u10_ : upd D 5 10 = D 10 := rfl
                simp only [hD, p0_, p1_, p2_, p3_, p4_, q8_, q9_, q10_, cnd_t, cnd_f, Asc_t, Asc_f] at ht hs
                subst ht
                refine s_call (args := [v21]) rfl rfl (x_call rfl (callFunc_enter Try.func59 rfl rfl) rfl) (impl_size_impl_Case.calls (a1 := (r19.get 1 [])) (hs.row 2 rfl) Hr29) ?_
                rintro _ w ⟨rfl, hs2⟩
                have hs : St _ [_, _, _, _, _] _ := hs.call hs2
                show G _ _ _ _ [_, _, _, _, _, _, _, _, _, _, _, _, _, _, _, _, _, _, _, _, _, _, _, _, _, _, _, _, _, _, _, _, _, _, _, _, _, _, _, _, _, _, _, _, _, _, _, _, _, _, _, _, _, _, _, _, _, _, _, _, _] _
                exact hk _ _ ⟨O, (by simp only [u0_, u1_, u2_, u3_, u4_, u5_, u6_, u7_, u8_, u9_, u10_, p0_, p1_, p2_, p3_, p4_, q8_, q9_, q10_, cnd_t, cnd_f, Asc_t, Asc_f]), hs.cast (by first | rfl | simp only [List.take, List.drop, List.cons_append, List.nil_append, List.set_cons_zero, List.set_cons_succ, List.eraseIdx, u0_, u1_, u2_, u3_, u4_, u5_, u6_, u7_, u8_, u9_, u10_, p0_, p1_, p2_, p3_, p4_, q8_, q9_, q10_, cnd_t, cnd_f, Asc_t, Asc_f])⟩
              · intro D t w hD hp hcl hI rest hk
                obtain ⟨O, ht, hs⟩ := hI
                have q7_ : D 7 = false := not_yet (hcl.get 7 (by decide)) 0 6 rfl hD
                have q8_ : D 8 = false := not_yet (hcl.get 8 (by decide)) 0 7 rfl q7_
                have q9_ : D 9 = false := not_yet (hcl.get 9 (by decide)) 2 8 rfl q8_
                have q10_ : D 10 = false := not_yet (hcl.get 10 (by decide)) 0 9 rfl q9_
                have u0_ : upd D 6 0 = D 0 := rfl
                have u1_ : upd D 6 1 = D 1 := rfl
                have u2_ : upd D 6 2 = D 2 := rfl
                have u3_ : upd D 6 3 = D 3 := rfl
                have u4_ : upd D 6 4 = D 4 := rfl
                have u5_ : upd D 6 5 = D 5 := rfl
                have u6_ : upd D 6 6 = true := rfl
                have u7_ : upd D 6 7 = D 7 := rfl
                have u8_ : upd D 6 8 = D 8 := rfl
                have u9_ : upd D 6 9 = D 9 := rfl
                have u10_ : upd D 6 10 = D 10 := rfl
                simp only [hD, q7_, q8_, q9_, q10_, cnd_t, cnd_f, Asc_t, Asc_f] at ht hs
                subst ht
                refine s_idxJ (m := 1) 2 rfl (by decide) rfl (fun _ => rfl) rfl rfl rfl rfl rfl ?_
                show G _ _ _ _ [_, _, _, _, _, _, _, _, _, _, _, _, _, _, _, _, _, _, _, _, _, _, _, _, _, _, _, _, _, _, _, _, _, _, _, _, _, _, _, _, _, _, _, _, _, _, _, _, _, _, _, _, _, _, _, _, _, _, _, _, _] _
                exact hk _ _ ⟨O, (by simp only [u0_, u1_, u2_, u3_, u4_, u5_, u6_, u7_, u8_, u9_, u10_, q7_, q8_, q9_, q10_, cnd_t, cnd_f, Asc_t, Asc_f]), hs.cast (by first | rfl | simp only [List.take, List.drop, List.cons_append, List.nil_append, List.set_cons_zero, List.set_cons_succ, List.eraseIdx, u0_, u1_, u2_, u3_, u4_, u5_, u6_, u7_, u8_, u9_, u10_, q7_, q8_, q9_, q10_, cnd_t, cnd_f, Asc_t, Asc_f])⟩
              · intro D t w hD hp hcl hI rest hk
                obtain ⟨O, ht, hs⟩ := hI
                obtain ⟨p6_, _⟩ := hp
                have q8_ : D 8 = false := not_yet (hcl.get 8 (by decide)) 0 7 rfl hD
                have q9_ : D 9 = false := not_yet (hcl.get 9 (by decide)) 2 8 rfl q8_
                have q10_ : D 10 = false := not_yet (hcl.get 10 (by decide)) 0 9 rfl q9_
                have u0_ : upd D 7 0 = D 0 := rfl
                have u1_ : upd D 7 1 = D 1 := rfl
                have u2_ : upd D 7 2 = D 2 := rfl
                have u3_ : upd D 7 3 = D 3 := rfl
                have u4_ : upd D 7 4 = D 4 := rfl
                have u5_ : upd D 7 5 = D 5 := rfl
                have u6_ : upd D 7 6 = D 6 := rfl
                have u7_ : upd D 7 7 = true := rfl
                have u8_ : upd D 7 8 = D 8 := rfl
                have u9_ : upd D 7 9 = D 9 := rfl
                have u10_ : upd D 7 10 = D 10 := rfl
                simp only [hD, p6_, q8_, q9_, q10_, cnd_t, cnd_f, Asc_t, Asc_f] at ht hs
                subst ht
                refine s_load1 rfl rfl (v := v22) rfl rfl (fun _ => rfl) (cells_load (hs.cells 0 rfl) 2 1 rfl) ?_
                show G _ _ _ _ [_, _, _, _, _, _, _, _, _, _, _, _, _, _, _, _, _, _, _, _, _, _, _, _, _, _, _, _, _, _, _, _, _, _, _, _, _, _, _, _, _, _, _, _, _, _, _, _, _, _, _, _, _, _, _, _, _, _, _, _, _] _
                exact hk _ _ ⟨O, (by simp only [u0_, u1_, u2_, u3_, u4_, u5_, u6_, u7_, u8_, u9_, u10_, p6_, q8_, q9_, q10_, cnd_t, cnd_f, Asc_t, Asc_f]), hs.cast (by first | rfl | simp only [List.take, List.drop, List.cons_append, List.nil_append, List.set_cons_zero, List.set_cons_succ, List.eraseIdx, u0_, u1_, u2_, u3_, u4_, u5_, u6_, u7_, u8_, u9_, u10_, p6_, q8_, q9_, q10_, cnd_t, cnd_f, Asc_t, Asc_f])⟩
              · intro D t w hD hp hcl hI rest hk
                obtain ⟨O, ht, hs⟩ := hI
                obtain ⟨p7_, p5_, _⟩ := hp
                obtain ⟨p6_, _⟩ := (hcl.get 7 (by decide)) p7_
                obtain ⟨p4_, p2_, _⟩ := (hcl.get 5 (by decide)) p5_
                obtain ⟨p3_, _⟩ := (hcl.get 4 (by decide)) p4_
                obtain ⟨p1_, _⟩ := (hcl.get 2 (by decide)) p2_
                obtain ⟨p0_, _⟩ := (hcl.get 1 (by decide)) p1_
                have q9_ : D 9 = false := not_yet (hcl.get 9 (by decide)) 2 8 rfl hD
                have q10_ : D 10 = false := not_yet (hcl.get 10 (by decide)) 0 9 rfl q9_
                have u0_ : upd D 8 0 = D 0 := rfl
                have u1_ : upd D 8 1 = D 1 := rfl
                have u2_ : upd D 8 2 = D 2 := rfl
                have u3_ : upd D 8 3 = D 3 := rfl
                have u4_ : upd D 8 4 = D 4 := rfl
                have u5_ : upd D 8 5 = D 5 := rfl
                have u6_ : upd D 8 6 = D 6 := rfl
                have u7_ : upd D 8 7 = D 7 := rfl
                have u8_ : upd D 8 8 = true := rfl
                have u9_ : upd D 8 9 = D 9 := rfl
                have u10_ : upd D 8 10 = D 10 := rfl
                simp only [hD, p0_, p1_, p2_, p3_, p4_, p5_, p6_, p7_, q9_, q10_, cnd_t, cnd_f, Asc_t, Asc_f] at ht hs
                subst ht
                refine s_call (args := [v22]) rfl rfl (x_call rfl (callFunc_enter Try.func59 rfl rfl) rfl) (impl_size_impl_Case.calls (a1 := (r19.get 2 [])) (hs.row 3 rfl) Hr30) ?_
                rintro _ w ⟨rfl, hs2⟩
                have hs : St _ [_, _, _, _, _] _ := hs.call hs2
                show G _ _ _ _ [_, _, _, _, _, _, _, _, _, _, _, _, _, _, _, _, _, _, _, _, _, _, _, _, _, _, _, _, _, _, _, _, _, _, _, _, _, _, _, _, _, _, _, _, _, _, _, _, _, _, _, _, _, _, _, _, _, _, _, _, _] _
                exact hk _ _ ⟨O, (by simp only [u0_, u1_, u2_, u3_, u4_, u5_, u6_, u7_, u8_, u9_, u10_, p0_, p1_, p2_, p3_, p4_, p5_, p6_, p7_, q9_, q10_, cnd_t, cnd_f, Asc_t, Asc_f]), hs.cast (by first | rfl | simp only [List.take, List.drop, List.cons_append, List.nil_append, List.set_cons_zero, List.set_cons_succ, List.eraseIdx, u0_, u1_, u2_, u3_, u4_, u5_, u6_, u7_, u8_, u9_, u10_, p0_, p1_, p2_, p3_, p4_, p5_, p6_, p7_, q9_, q10_, cnd_t, cnd_f, Asc_t, Asc_f])⟩
              · intro D t w hD hp hcl hI rest hk
                obtain ⟨O, ht, hs⟩ := hI
                obtain ⟨p2_, p5_, p8_, _⟩ := hp
                obtain ⟨p7_, _, _⟩ := (hcl.get 8 (by decide)) p8_
                obtain ⟨p6_, _⟩ := (hcl.get 7 (by decide)) p7_
                obtain ⟨p4_, _, _⟩ := (hcl.get 5 (by decide)) p5_
                obtain ⟨p3_, _⟩ := (hcl.get 4 (by decide)) p4_
                obtain ⟨p1_, _⟩ := (hcl.get 2 (by decide)) p2_
                obtain ⟨p0_, _⟩ := (hcl.get 1 (by decide)) p1_
                have q10_ : D 10 = false := not_yet (hcl.get 10 (by decide)) 0 9 rfl hD
                have u0_ : upd D 9 0 = D 0 := rfl
                have u1_ : upd D 9 1 = D 1 := rfl
                have u2_ : upd D 9 2 = D 2 := rfl
                have u3_ : upd D 9 3 = D 3 := rfl
                have u4_ : upd D 9 4 = D 4 := rfl
                have u5_ : upd D 9 5 = D 5 := rfl
                have u6_ : upd D 9 6 = D 6 := rfl
                have u7_ : upd D 9 7 = D 7 := rfl
                have u8_ : upd D 9 8 = D 8 := rfl
                have u9_ : upd D 9 9 = true := rfl
                have u10_ : upd D 9 10 = D 10 := rfl
                simp only [hD, p0_, p1_, p2_, p3_, p4_, p5_, p6_, p7_, p8_, q10_, cnd_t, cnd_f, Asc_t, Asc_f] at ht hs
                subst ht
                refine g_op (v := Value.int .i64 (mxI (mxI r28 r29) r30)) rfl rfl (x_max3 rfl rfl rfl rfl) ?_
                show G _ _ _ _ [_, _, _, _, _, _, _, _, _, _, _, _, _, _, _, _, _, _, _, _, _, _, _, _, _, _, _, _, _, _, _, _, _, _, _, _, _, _, _, _, _, _, _, _, _, _, _, _, _, _, _, _, _, _, _, _, _, _, _, _, _] _
                exact hk _ _ ⟨O, (by simp only [u0_, u1_, u2_, u3_, u4_, u5_, u6_, u7_, u8_, u9_, u10_, p0_, p1_, p2_, p3_, p4_, p5_, p6_, p7_, p8_, q10_, cnd_t, cnd_f, Asc_t, Asc_f]), hs.cast (by first | rfl | simp only [List.take, List.drop, List.cons_append, List.nil_append, List.set_cons_zero, List.set_cons_succ, List.eraseIdx, u0_, u1_, u2_, u3_, u4_, u5_, u6_, u7_, u8_, u9_, u10_, p0_, p1_, p2_, p3_, p4_, p5_, p6_, p7_, p8_, q10_, cnd_t, cnd_f, Asc_t, Asc_f])⟩
              · intro D t w hD hp hcl hI rest hk
                obtain ⟨O, ht, hs⟩ := hI
                obtain ⟨p9_, p8_, p0_, p1_, p2_, p3_, p4_, p5_, p6_, p7_, _, _, _⟩ := hp
                have u0_ : upd D 10 0 = D 0 := rfl
                have u1_ : upd D 10 1 = D 1 := rfl
                have u2_ : upd D 10 2 = D 2 := rfl
                have u3_ : upd D 10 3 = D 3 := rfl
                have u4_ : upd D 10 4 = D 4 := rfl
                have u5_ : upd D 10 5 = D 5 := rfl
                have u6_ : upd D 10 6 = D 6 := rfl
                have u7_ : upd D 10 7 = D 7 := rfl
                have u8_ : upd D 10 8 = D 8 := rfl
                have u9_ : upd D 10 9 = D 9 := rfl
                have u10_ : upd D 10 10 = true := rfl
                simp only [hD, p0_, p1_, p2_, p3_, p4_, p5_, p6_, p7_, p8_, p9_, cnd_t, cnd_f, Asc_t, Asc_f] at ht hs
                subst ht
                refine g_op (v := Value.int .i64 (mxI (mxI r28 r29) r30)) rfl rfl rfl ?_
                show G _ _ _ _ [_, _, _, _, _, _, _, _, _, _, _, _, _, _, _, _, _, _, _, _, _, _, _, _, _, _, _, _, _, _, _, _, _, _, _, _, _, _, _, _, _, _, _, _, _, _, _, _, _, _, _, _, _, _, _, _, _, _, _, _, _] _
                exact hk _ _ ⟨O, (by simp only [u0_, u1_, u2_, u3_, u4_, u5_, u6_, u7_, u8_, u9_, u10_, p0_, p1_, p2_, p3_, p4_, p5_, p6_, p7_, p8_, p9_, cnd_t, cnd_f, Asc_t, Asc_f]), hs.cast (by first | rfl | simp only [List.take, List.drop, List.cons_append, List.nil_append, List.set_cons_zero, List.set_cons_succ, List.eraseIdx, u0_, u1_, u2_, u3_, u4_, u5_, u6_, u7_, u8_, u9_, u10_, p0_, p1_, p2_, p3_, p4_, p5_, p6_, p7_, p8_, p9_, cnd_t, cnd_f, Asc_t, Asc_f])⟩
              · intro D t w hall hI
                obtain ⟨O, ht, hs⟩ := hI
                have p0_ : D 0 = true := hall 0 (by decide)
                have p1_ : D 1 = true := hall 1 (by decide)
                have p2_ : D 2 = true := hall 2 (by decide)
                have p3_ : D 3 = true := hall 3 (by decide)
                have p4_ : D 4 = true := hall 4 (by decide)
                have p5_ : D 5 = true := hall 5 (by decide)
                have p6_ : D 6 = true := hall 6 (by decide)
                have p7_ : D 7 = true := hall 7 (by decide)
                have p8_ : D 8 = true := hall 8 (by decide)
                have p9_ : D 9 = true := hall 9 (by decide)
                have p10_ : D 10 = true := hall 10 (by decide)
                simp only [p0_, p1_, p2_, p3_, p4_, p5_, p6_, p7_, p8_, p9_, p10_, cnd_t, cnd_f, Asc_t, Asc_f] at ht hs
                subst ht
                refine g_seq ?_
                refine g_region ?_
                show G _ _ _ (.inRegion _ [0, 1, 2, 3, 4, 5, 6] :: _) _ _
                refine g_op (v := Value.int .i64 x14) rfl rfl rfl ?_
                show G _ _ _ _ [_, _, _, _, _, _, _, _, _, _, _, _, _, _, _, _, _, _, _, _, _, _, _, _, _, _, _, _, _, _, _, _, _, _, _, _, _, _, _, _, _, _, _, _, _, _, _, _, _, _, _, _, _, _, _, _, _, _, _, _, _] _
                refine g_op_b (B := decide (x14 < 0)) rfl rfl rfl ?_ ?_
                · intro hb
                  rw [if_pos (b_dec_t hb)] at H
                  show G _ _ _ _ [_, _, _, _, _, _, _, _, _, _, _, _, _, _, _, _, _, _, _, _, _, _, _, _, _, _, _, _, _, _, _, _, _, _, _, _, _, _, _, _, _, _, _, _, _, _, _, _, _, _, _, _, _, _, _, _, _, _, _, _, _] _
                  refine g_op (v := Value.bool true) rfl rfl rfl ?_
                  show G _ _ _ _ [_, _, _, _, _, _, _, _, _, _, _, _, _, _, _, _, _, _, _, _, _, _, _, _, _, _, _, _, _, _, _, _, _, _, _, _, _, _, _, _, _, _, _, _, _, _, _, _, _, _, _, _, _, _, _, _, _, _, _, _, _] _
                  refine g_op_not rfl rfl ?_
                  show G _ _ _ _ [_, _, _, _, _, _, _, _, _, _, _, _, _, _, _, _, _, _, _, _, _, _, _, _, _, _, _, _, _, _, _, _, _, _, _, _, _, _, _, _, _, _, _, _, _, _, _, _, _, _, _, _, _, _, _, _, _, _, _, _, _] _
                  refine g_op_not rfl rfl ?_
                  show G _ _ _ _ [_, _, _, _, _, _, _, _, _, _, _, _, _, _, _, _, _, _, _, _, _, _, _, _, _, _, _, _, _, _, _, _, _, _, _, _, _, _, _, _, _, _, _, _, _, _, _, _, _, _, _, _, _, _, _, _, _, _, _, _, _] _
                  refine g_op_not rfl rfl ?_
                  show G _ _ _ _ [_, _, _, _, _, _, _, _, _, _, _, _, _, _, _, _, _, _, _, _, _, _, _, _, _, _, _, _, _, _, _, _, _, _, _, _, _, _, _, _, _, _, _, _, _, _, _, _, _, _, _, _, _, _, _, _, _, _, _, _, _] _
                  refine g_op (v := Value.bool true) rfl rfl rfl ?_
                  show G _ _ _ _ [_, _, _, _, _, _, _, _, _, _, _, _, _, _, _, _, _, _, _, _, _, _, _, _, _, _, _, _, _, _, _, _, _, _, _, _, _, _, _, _, _, _, _, _, _, _, _, _, _, _, _, _, _, _, _, _, _, _, _, _, _] _
                  refine g_ops_nil ?_
                  refine g_cond_true rfl ?_
                  refine g_region ?_
                  show G _ _ _ (.inRegion _ [0, 1, 2, 3] :: _) _ _
                  refine g_op (v := Value.int .i64 x15) rfl rfl rfl ?_
                  show G _ _ _ _ [_, _, _, _, _, _, _, _, _, _, _, _, _, _, _, _, _, _, _, _, _, _, _, _, _, _, _, _, _, _, _, _, _, _, _, _, _, _, _, _, _, _, _, _, _, _, _, _, _, _, _, _, _, _, _, _, _, _, _, _, _] _
                  refine g_op (v := Value.int .i64 (mxI (mxI r28 r29) r30)) rfl rfl rfl ?_
                  show G _ _ _ _ [_, _, _, _, _, _, _, _, _, _, _, _, _, _, _, _, _, _, _, _, _, _, _, _, _, _, _, _, _, _, _, _, _, _, _, _, _, _, _, _, _, _, _, _, _, _, _, _, _, _, _, _, _, _, _, _, _, _, _, _, _] _
                  refine g_op (v := Value.int .i64 x15) rfl rfl rfl ?_
                  show G _ _ _ _ [_, _, _, _, _, _, _, _, _, _, _, _, _, _, _, _, _, _, _, _, _, _, _, _, _, _, _, _, _, _, _, _, _, _, _, _, _, _, _, _, _, _, _, _, _, _, _, _, _, _, _, _, _, _, _, _, _, _, _, _, _] _
                  refine g_op (v := Value.int .i64 (mxI (mxI r28 r29) r30)) rfl rfl rfl ?_
                  show G _ _ _ _ [_, _, _, _, _, _, _, _, _, _, _, _, _, _, _, _, _, _, _, _, _, _, _, _, _, _, _, _, _, _, _, _, _, _, _, _, _, _, _, _, _, _, _, _, _, _, _, _, _, _, _, _, _, _, _, _, _, _, _, _, _] _
                  refine g_ops_nil ?_
                  refine g_inBlock ?_
                  have hs : St _ [] _ := St.take (Γ' := [_, _, _, _, _]) hs
                  exact ha _ _ ⟨x15, mxI (mxI r28 r29) r30, H, rfl, hs⟩
                · intro hb
                  rw [if_neg (b_dec_f hb)] at H
                  show G _ _ _ _ [_, _, _, _, _, _, _, _, _, _, _, _, _, _, _, _, _, _, _, _, _, _, _, _, _, _, _, _, _, _, _, _, _, _, _, _, _, _, _, _, _, _, _, _, _, _, _, _, _, _, _, _, _, _, _, _, _, _, _, _, _] _
                  refine g_op (v := Value.bool false) rfl rfl rfl ?_
                  show G _ _ _ _ [_, _, _, _, _, _, _, _, _, _, _, _, _, _, _, _, _, _, _, _, _, _, _, _, _, _, _, _, _, _, _, _, _, _, _, _, _, _, _, _, _, _, _, _, _, _, _, _, _, _, _, _, _, _, _, _, _, _, _, _, _] _
                  refine g_op (v := Value.int .i64 (mxI (mxI r28 r29) r30)) rfl rfl rfl ?_
                  show G _ _ _ _ [_, _, _, _, _, _, _, _, _, _, _, _, _, _, _, _, _, _, _, _, _, _, _, _, _, _, _, _, _, _, _, _, _, _, _, _, _, _, _, _, _, _, _, _, _, _, _, _, _, _, _, _, _, _, _, _, _, _, _, _, _] _
                  refine g_op (v := Value.int .i64 x14) rfl rfl rfl ?_
                  show G _ _ _ _ [_, _, _, _, _, _, _, _, _, _, _, _, _, _, _, _, _, _, _, _, _, _, _, _, _, _, _, _, _, _, _, _, _, _, _, _, _, _, _, _, _, _, _, _, _, _, _, _, _, _, _, _, _, _, _, _, _, _, _, _, _] _
                  refine g_op_b (B := decide ((mxI (mxI r28 r29) r30) < x14)) rfl rfl rfl ?_ ?_
                  · intro hb
                    rw [if_pos (b_dec_t hb)] at H
                    show G _ _ _ _ [_, _, _, _, _, _, _, _, _, _, _, _, _, _, _, _, _, _, _, _, _, _, _, _, _, _, _, _, _, _, _, _, _, _, _, _, _, _, _, _, _, _, _, _, _, _, _, _, _, _, _, _, _, _, _, _, _, _, _, _, _] _
                    refine g_op (v := Value.bool true) rfl rfl rfl ?_
                    show G _ _ _ _ [_, _, _, _, _, _, _, _, _, _, _, _, _, _, _, _, _, _, _, _, _, _, _, _, _, _, _, _, _, _, _, _, _, _, _, _, _, _, _, _, _, _, _, _, _, _, _, _, _, _, _, _, _, _, _, _, _, _, _, _, _] _
                    refine g_ops_nil ?_
                    refine g_cond_true rfl ?_
                    refine g_region ?_
                    show G _ _ _ (.inRegion _ [0, 1, 2, 3] :: _) _ _
                    refine g_op (v := Value.int .i64 x15) rfl rfl rfl ?_
                    show G _ _ _ _ [_, _, _, _, _, _, _, _, _, _, _, _, _, _, _, _, _, _, _, _, _, _, _, _, _, _, _, _, _, _, _, _, _, _, _, _, _, _, _, _, _, _, _, _, _, _, _, _, _, _, _, _, _, _, _, _, _, _, _, _, _] _
                    refine g_op (v := Value.int .i64 (mxI (mxI r28 r29) r30)) rfl rfl rfl ?_
                    show G _ _ _ _ [_, _, _, _, _, _, _, _, _, _, _, _, _, _, _, _, _, _, _, _, _, _, _, _, _, _, _, _, _, _, _, _, _, _, _, _, _, _, _, _, _, _, _, _, _, _, _, _, _, _, _, _, _, _, _, _, _, _, _, _, _] _
                    refine g_op (v := Value.int .i64 x15) rfl rfl rfl ?_
                    show G _ _ _ _ [_, _, _, _, _, _, _, _, _, _, _, _, _, _, _, _, _, _, _, _, _, _, _, _, _, _, _, _, _, _, _, _, _, _, _, _, _, _, _, _, _, _, _, _, _, _, _, _, _, _, _, _, _, _, _, _, _, _, _, _, _] _
                    refine g_op (v := Value.int .i64 (mxI (mxI r28 r29) r30)) rfl rfl rfl ?_
                    show G _ _ _ _ [_, _, _, _, _, _, _, _, _, _, _, _, _, _, _, _, _, _, _, _, _, _, _, _, _, _, _, _, _, _, _, _, _, _, _, _, _, _, _, _, _, _, _, _, _, _, _, _, _, _, _, _, _, _, _, _, _, _, _, _, _] _
                    refine g_ops_nil ?_
                    refine g_inBlock ?_
                    have hs : St _ [] _ := St.take (Γ' := [_, _, _, _, _]) hs
                    exact ha _ _ ⟨x15, mxI (mxI r28 r29) r30, H, rfl, hs⟩
                  · intro hb
                    rw [if_neg (b_dec_f hb)] at H
                    show G _ _ _ _ [_, _, _, _, _, _, _, _, _, _, _, _, _, _, _, _, _, _, _, _, _, _, _, _, _, _, _, _, _, _, _, _, _, _, _, _, _, _, _, _, _, _, _, _, _, _, _, _, _, _, _, _, _, _, _, _, _, _, _, _, _] _
                    refine g_op (v := Value.bool false) rfl rfl rfl ?_
                    show G _ _ _ _ [_, _, _, _, _, _, _, _, _, _, _, _, _, _, _, _, _, _, _, _, _, _, _, _, _, _, _, _, _, _, _, _, _, _, _, _, _, _, _, _, _, _, _, _, _, _, _, _, _, _, _, _, _, _, _, _, _, _, _, _, _] _
                    refine g_ops_nil ?_
                    refine g_cond_false rfl ?_
                    refine g_skip ?_
                    refine g_inBlock ?_
                    have hs : St _ [] _ := St.take (Γ' := [_, _, _, _, _]) hs
                    exact ha _ _ ⟨x13, x14, H, rfl, hs⟩
          · intro hb
            rw [if_neg (b_dec_f hb)] at H
            show G _ _ _ _ [_, _, _, _, _, _, _, _, _, _, _, _, _, _, _, _, _, _, _, _, _, _, _, _, _, _, _, _, _, _, _, _, _, _, _, _, _, _, _, _, _, _, _, _, _, _, _, _, _, _, _, _, _, _, _, _, _, _, _, _, _] _
            refine g_ops_nil ?_
            refine g_seq ?_
            refine g_cond_false rfl ?_
            obtain rfl := Option.some.inj H
            subst Hx1_
            have hs : St _ [] _ := St.take (Γ' := []) hs
            refine g_exit rfl ?_
            exact ha1_ _ _ ⟨x13, x14, Hr1_, rfl, hs⟩
  · intro ha
    refine g_region ?_
    show G _ _ _ (.inRegion _ [0, 1] :: _) _ _
    refine g_op (v := Value.int .i64 r8) rfl rfl rfl ?_
    show G _ _ _ _ [_, _, _, _, _, _, _, _, _, _, _, _, _, _, _, _, _, _, _, _, _, _, _, _, _, _, _, _, _, _, _, _, _, _, _, _, _, _, _, _, _, _, _, _, _, _, _, _, _, _, _, _, _, _, _, _, _, _, _, _, _] _
    refine g_op_b (B := r8 == 0) rfl rfl rfl ?_ ?_
    · intro hb
      rw [if_pos (b_beq_t hb)] at H
      show G _ _ _ _ [_, _, _, _, _, _, _, _, _, _, _, _, _, _, _, _, _, _, _, _, _, _, _, _, _, _, _, _, _, _, _, _, _, _, _, _, _, _, _, _, _, _, _, _, _, _, _, _, _, _, _, _, _, _, _, _, _, _, _, _, _] _
      refine g_ops_nil ?_
      refine g_cond_true rfl ?_
      refine g_region ?_
      show G _ _ _ (.inRegion _ [0, 1, 2, 3, 4] :: _) _ _
      refine g_op (v := v5) rfl rfl rfl ?_
      show G _ _ _ _ [_, _, _, _, _, _, _, _, _, _, _, _, _, _, _, _, _, _, _, _, _, _, _, _, _, _, _, _, _, _, _, _, _, _, _, _, _, _, _, _, _, _, _, _, _, _, _, _, _, _, _, _, _, _, _, _, _, _, _, _, _] _
      obtain ⟨r9, Hr9, H⟩ := bind_get H
      refine s_call (args := [v5]) rfl rfl (x_call rfl (callFunc_enter Try.func58 rfl rfl) rfl) (impl_size_impl_Weighing.calls (a1 := a4) (hs.rd hr2) Hr9) ?_
      rintro _ w ⟨rfl, hs2⟩
      have hs : St _ [_] _ := hs.call hs2
      show G _ _ _ _ [_, _, _, _, _, _, _, _, _, _, _, _, _, _, _, _, _, _, _, _, _, _, _, _, _, _, _, _, _, _, _, _, _, _, _, _, _, _, _, _, _, _, _, _, _, _, _, _, _, _, _, _, _, _, _, _, _, _, _, _, _] _
      obtain ⟨r10, Hr10, H⟩ := bind_get H
      refine s_call (args := [Value.int .i64 r9, Value.int .i64 1, Value.int .i64 60]) rfl rfl (x_call rfl (callFunc_enter Try.func57 rfl rfl) rfl) (impl_within.calls (a1 := r9) (a2 := 1) (a3 := 60) Hr10) ?_
      rintro _ w ⟨rfl, hs2⟩
      have hs : St _ [_] _ := hs.call hs2
      show G _ _ _ _ [_, _, _, _, _, _, _, _, _, _, _, _, _, _, _, _, _, _, _, _, _, _, _, _, _, _, _, _, _, _, _, _, _, _, _, _, _, _, _, _, _, _, _, _, _, _, _, _, _, _, _, _, _, _, _, _, _, _, _, _, _] _
      obtain ⟨r11, Hr11, H⟩ := bind_get H
      refine s_call (args := [Value.bool r10, Value.int .i64 2]) rfl rfl (x_call rfl (callFunc_enter Try.func56 rfl rfl) rfl) (impl_unless.calls (a1 := r10) (a2 := 2) Hr11) ?_
      rintro _ w ⟨rfl, hs2⟩
      have hs : St _ [_] _ := hs.call hs2
      show G _ _ _ _ [_, _, _, _, _, _, _, _, _, _, _, _, _, _, _, _, _, _, _, _, _, _, _, _, _, _, _, _, _, _, _, _, _, _, _, _, _, _, _, _, _, _, _, _, _, _, _, _, _, _, _, _, _, _, _, _, _, _, _, _, _] _
      refine g_op (v := Value.int .i64 r11) rfl rfl rfl ?_
      show G _ _ _ _ [_, _, _, _, _, _, _, _, _, _, _, _, _, _, _, _, _, _, _, _, _, _, _, _, _, _, _, _, _, _, _, _, _, _, _, _, _, _, _, _, _, _, _, _, _, _, _, _, _, _, _, _, _, _, _, _, _, _, _, _, _] _
      refine g_ops_nil ?_
      have hs : St _ [] _ := St.take (Γ' := [_]) hs
      exact ha _ _ ⟨r11, H, rfl, hs⟩
    · intro hb
      rw [if_neg (b_beq_f hb)] at H
      show G _ _ _ _ [_, _, _, _, _, _, _, _, _, _, _, _, _, _, _, _, _, _, _, _, _, _, _, _, _, _, _, _, _, _, _, _, _, _, _, _, _, _, _, _, _, _, _, _, _, _, _, _, _, _, _, _, _, _, _, _, _, _, _, _, _] _
      refine g_ops_nil ?_
      refine g_cond_false rfl ?_
      refine g_skip ?_
      have hs : St _ [] _ := St.take (Γ' := [_]) hs
      exact ha _ _ ⟨r8, H, rfl, hs⟩

end Go.Proofs.YtcocgeodfbiehaaX
