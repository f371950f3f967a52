/- Contracts, printed by gen.py. -/
import Derived.Test.YtpbkenbmjgchkaaXC12
namespace Go.Proofs.YtpbkenbmjgchkaaX
open Go Go.RowKit Go.Proofs
set_option linter.unusedVariables false
set_option linter.unusedSimpArgs false
/- function 60 _impl_Game_setFor -/
def _impl_Game_setFor.post (w0 : World) (r : Int) (v : Value) (w : World) : Prop := v = Value.int .u64 r ∧ St w0 [] w
set_option maxHeartbeats 8000000 in
set_option maxRecDepth 100000 in
theorem _impl_Game_setFor.calls {N : Nat} {a1 : S_impl_Game} {a4 : (Ar Int 4)} {v2 : Value} {w0 : World} {r : Int} (hr3 : RdRow k_S_impl_Ask w0 v2 a1.f_Asked) (H : _impl_Game_setFor.f N a1 a4 = some r) :
    Calls Try.prog 60 #[Value.agg (([Value.int .i8 a1.f_Numbers, Value.int .i8 a1.f_Lies, v2] : List Value)).toArray, Value.agg ((encA (encI .i64)) a4).toArray] w0 fun e w => ∃ v, e = .returned v ∧ _impl_Game_setFor.post w0 r v w := by
  unfold _impl_Game_setFor.f at H
  have hs : St w0 [] w0 := St.refl w0
  refine calls_of_g (n := 31) Try.func60 rfl rfl ?_
  show G _ _ _ _ [_, _, _, _, _, _, _, _, _, _, _, _, _, _, _, _, _, _, _, _, _, _, _, _, _, _, _, _, _, _, _, _, _] _
  refine g_seq ?_
  refine g_region ?_
  show G _ _ _ (.inRegion _ [0, 1, 2] :: _) _ _
  refine s_box hs rfl rfl (cs := (([Value.int .i8 a1.f_Numbers, Value.int .i8 a1.f_Lies, v2] : List Value))) rfl rfl ?_
  intro b5 w hs
  show G _ _ _ _ [_, _, _, _, _, _, _, _, _, _, _, _, _, _, _, _, _, _, _, _, _, _, _, _, _, _, _, _, _, _, _, _, _] _
  refine s_box hs rfl rfl (cs := ((encA (encI .i64)) a4)) rfl rfl ?_
  intro b7 w hs
  show G _ _ _ _ [_, _, _, _, _, _, _, _, _, _, _, _, _, _, _, _, _, _, _, _, _, _, _, _, _, _, _, _, _, _, _, _, _] _
  refine g_op (v := Value.int .u64 0) rfl rfl rfl ?_
  show G _ _ _ _ [_, _, _, _, _, _, _, _, _, _, _, _, _, _, _, _, _, _, _, _, _, _, _, _, _, _, _, _, _, _, _, _, _] _
  refine g_ops_nil ?_
  refine g_seq ?_
  refine g_region ?_
  show G _ _ _ (.inRegion _ [0] :: _) _ _
  refine g_op (v := Value.int .u64 0) rfl rfl rfl ?_
  show G _ _ _ _ [_, _, _, _, _, _, _, _, _, _, _, _, _, _, _, _, _, _, _, _, _, _, _, _, _, _, _, _, _, _, _, _, _] _
  refine g_ops_nil ?_
  refine g_seq ?_
  refine g_seq ?_
  refine g_region ?_
  show G _ _ _ (.inRegion _ [0, 1, 2] :: _) _ _
  refine s_loadA rfl rfl (es := (([Value.int .i8 a1.f_Numbers, Value.int .i8 a1.f_Lies, v2] : List Value))) rfl rfl (fun _ => rfl) (n := 3) (fun _ => rfl) rfl (cells_all (hs.cells 1 rfl)) ?_
  show G _ _ _ _ [_, _, _, _, _, _, _, _, _, _, _, _, _, _, _, _, _, _, _, _, _, _, _, _, _, _, _, _, _, _, _, _, _] _
  obtain ⟨r9, Hr9, H⟩ := bind_get H
  refine s_call (args := [Value.agg (([Value.int .i8 a1.f_Numbers, Value.int .i8 a1.f_Lies, v2] : List Value)).toArray]) rfl rfl (x_call rfl (callFunc_enter Try.func50 rfl rfl) rfl) (_impl_Game_sorts.calls (a1 := (⟨a1.f_Numbers, a1.f_Lies, a1.f_Asked⟩ : S_impl_Game)) (hs.rd hr3) Hr9) ?_
  rintro _ w ⟨v10, v11, v12, v13, rfl, hs2⟩
  have hs : St _ [_, _, _, _, _, _] _ := hs.call hs2
  show G _ _ _ _ [_, _, _, _, _, _, _, _, _, _, _, _, _, _, _, _, _, _, _, _, _, _, _, _, _, _, _, _, _, _, _, _, _] _
  refine g_op (v := Value.int .i64 0) rfl rfl rfl ?_
  refine g_ops_nil ?_
  obtain ⟨o1_, Ho, Hr1_⟩ := bind_get H
  refine g_block_join (J := fun t w => ∃ x57 : Int, _impl_Game_setFor.a0 N x57 = some r ∧ Fr t (fun O => ([O 0, O 1, O 2, O 3, O 4, Value.int .u64 x57, O 6, O 7, O 8, O 9, O 10, O 11, O 12, O 13, O 14, O 15, O 16, O 17, O 18, O 19, O 20, O 21, O 22, O 23, O 24, O 25, O 26, O 27, O 28, O 29, O 30, O 31, O 32] : List Value)) ∧ St w0 [] w) ?_ ?_
  ·
   rintro t w ⟨x57, H, hf, hs⟩
   obtain ⟨O, rfl⟩ := hf.open
   show G _ _ _ _ [_, _, _, _, _, _, _, _, _, _, _, _, _, _, _, _, _, _, _, _, _, _, _, _, _, _, _, _, _, _, _, _, _] _
   unfold _impl_Game_setFor.a0 at H
   refine g_seq ?_
   refine g_region ?_
   show G _ _ _ (.inRegion _ [0, 1] :: _) _ _
   refine g_op (v := Value.int .u64 x57) rfl rfl rfl ?_
   refine g_op (v := Value.int .u64 x57) rfl rfl rfl ?_
   show G _ _ _ _ [_, _, _, _, _, _, _, _, _, _, _, _, _, _, _, _, _, _, _, _, _, _, _, _, _, _, _, _, _, _, _, _, _] _
   refine g_ops_nil ?_
   obtain rfl := Option.some.inj H
   refine g_ret Try.func60 (v := Value.int .u64 x57) (res1 rfl rfl) ?_
   have hs : St _ [] _ := St.take (Γ' := []) hs
   exact ⟨_, rfl, rfl, hs⟩
  ·
   intro ha1_
   have hs := hs.pull 3 rfl
   have hs := hs.pull 3 rfl
   have hs := hs.pull 3 rfl
   have hs := hs.pull 3 rfl
   have hs := hs.pull 4 rfl
   have hs : St _ [_, _, _, _, _] _ := St.take (Γ' := [_]) hs
   refine g_loop_fuel (I := fun n_ t w => ∃ x18 : Int, ∃ x19 : Int, rounds (fun s => _impl_Game_setFor.b0 N a4 r9 s.1 s.2) n_ (x18, x19) = some o1_ ∧ Fr t (fun O => ([O 0, O 1, O 2, Value.pointer (some ⟨b7, 0, none⟩), O 4, Value.int .u64 x18, O 6, O 7, O 8, O 9, O 10, Value.agg (([v10, v11, v12, v13] : List Value)).toArray, Value.int .i64 x19, O 13, O 14, O 15, O 16, O 17, O 18, O 19, O 20, O 21, O 22, O 23, O 24, O 25, O 26, O 27, O 28, O 29, O 30, O 31, O 32] : List Value)) ∧ St w0 [Cells b7 ((encA (encI .i64)) a4) 85, Row 2 (K.int .i64) v10 (r9.get 0 []), Row 2 (K.int .i64) v11 (r9.get 1 []), Row 2 (K.int .i64) v12 (r9.get 2 []), Row 2 (K.int .i64) v13 (r9.get 3 [])] w) N ⟨0, 0, Ho, rfl, hs⟩ ?_ ?_
   ·
    rintro _ _ ⟨x18, x19, h, _⟩
    exact rounds_zero h
   ·
    intro n_ ih1_
    rintro t w ⟨x18, x19, Ho, hf, hs⟩
    obtain ⟨O, rfl⟩ := hf.open
    show G _ _ _ _ [_, _, _, _, _, _, _, _, _, _, _, _, _, _, _, _, _, _, _, _, _, _, _, _, _, _, _, _, _, _, _, _, _] _
    obtain ⟨x25_, H, Hx1_⟩ := rounds_succ Ho
    have H : _impl_Game_setFor.b0 N a4 r9 x18 x19 = some x25_ := H
    unfold _impl_Game_setFor.b0 at H
    refine g_seq ?_
    refine g_region ?_
    show G _ _ _ (.inRegion _ [0] :: _) _ _
    refine g_op_b (B := decide (x19 < 4)) rfl rfl rfl ?_ ?_
    ·
     intro hb
     rw [if_pos (b_dec_t hb)] at H
     show G _ _ _ _ [_, _, _, _, _, _, _, _, _, _, _, _, _, _, _, _, _, _, _, _, _, _, _, _, _, _, _, _, _, _, _, _, _] _
     refine g_ops_nil ?_
     refine g_seq ?_
     refine g_cond_true rfl ?_
     refine g_skip ?_
     refine g_seq ?_
     refine g_block_join (J := (fun t w => ∃ x52 : Int, _impl_Game_setFor.j2 N x19 x52 = some x25_ ∧ Fr t (fun O => ([O 0, O 1, O 2, Value.pointer (some ⟨b7, 0, none⟩), O 4, Value.int .u64 x52, O 6, O 7, O 8, O 9, O 10, Value.agg (([v10, v11, v12, v13] : List Value)).toArray, Value.int .i64 x19, O 13, O 14, O 15, O 16, O 17, O 18, O 19, O 20, O 21, O 22, O 23, O 24, O 25, O 26, O 27, O 28, O 29, O 30, O 31, O 32] : List Value)) ∧ St w0 [Cells b7 ((encA (encI .i64)) a4) 85, Row 2 (K.int .i64) v10 (r9.get 0 []), Row 2 (K.int .i64) v11 (r9.get 1 []), Row 2 (K.int .i64) v12 (r9.get 2 []), Row 2 (K.int .i64) v13 (r9.get 3 [])] w)) ?_ ?_
     ·
      rintro t w ⟨x52, H, hf, hs⟩
      obtain ⟨O, rfl⟩ := hf.open
      show G _ _ _ _ [_, _, _, _, _, _, _, _, _, _, _, _, _, _, _, _, _, _, _, _, _, _, _, _, _, _, _, _, _, _, _, _, _] _
      unfold _impl_Game_setFor.j2 at H
      refine g_region ?_
      show G _ _ _ (.inRegion _ [0, 1] :: _) _ _
      refine g_op (v := Value.int .i64 (i64w (x19 + 1))) rfl rfl rfl ?_
      show G _ _ _ _ [_, _, _, _, _, _, _, _, _, _, _, _, _, _, _, _, _, _, _, _, _, _, _, _, _, _, _, _, _, _, _, _, _] _
      refine g_op (v := Value.int .i64 (i64w (x19 + 1))) rfl rfl rfl ?_
      refine g_ops_nil ?_
      obtain rfl := Option.some.inj H
      have hs := hs.pull 4 rfl
      have hs := hs.pull 4 rfl
      have hs := hs.pull 4 rfl
      have hs := hs.pull 4 rfl
      have hs := hs.pull 4 rfl
      have hs : St _ [_, _, _, _, _] _ := St.take (Γ' := []) hs
      exact ih1_ _ _ ⟨x52, i64w (x19 + 1), Hx1_, rfl, hs⟩
     ·
      intro ha
      refine g_seq ?_
      by_cases hk1_ : x19 = 0
      ·
       rw [if_pos hk1_] at H
       refine g_region ?_
       show G _ _ _ (.inRegion _ [0, 1, 2, 3] :: _) _ _
       refine g_op (v := Value.int .i64 x19) rfl rfl rfl ?_
       refine s_indexJ 0 hk1_ (by decide) (cs := ([v10, v11, v12, v13] : List Value)) (v := v10) rfl rfl (fun _ => rfl) (fun _ => rfl) rfl rfl rfl rfl rfl ?_
       show G _ _ _ _ [_, _, _, _, _, _, _, _, _, _, _, _, _, _, _, _, _, _, _, _, _, _, _, _, _, _, _, _, _, _, _, _, _] _
       refine g_op (v := Value.int .i64 x19) rfl rfl rfl ?_
       show G _ _ _ _ [_, _, _, _, _, _, _, _, _, _, _, _, _, _, _, _, _, _, _, _, _, _, _, _, _, _, _, _, _, _, _, _, _] _
       refine g_op (v := v10) rfl rfl rfl ?_
       show G _ _ _ _ [_, _, _, _, _, _, _, _, _, _, _, _, _, _, _, _, _, _, _, _, _, _, _, _, _, _, _, _, _, _, _, _, _] _
       refine g_ops_nil ?_
       refine g_seq ?_
       refine g_region ?_
       show G _ _ _ (.inRegion _ [0, 1, 2, 3, 4, 5, 6] :: _) _ _
       refine g_op (v := v10) rfl rfl rfl ?_
       refine g_op (v := Value.int .i64 x19) rfl rfl rfl ?_
       obtain ⟨g2, H⟩ := ite_get H
       refine s_idxA (n := x19) (m := 1) rfl (fun _ => rfl) g2.1 g2.2 rfl rfl rfl rfl rfl ?_
       show G _ _ _ _ [_, _, _, _, _, _, _, _, _, _, _, _, _, _, _, _, _, _, _, _, _, _, _, _, _, _, _, _, _, _, _, _, _] _
       refine s_load1 rfl rfl (v := Value.int .i64 (a4.get x19 0)) rfl rfl (fun _ => rfl) (by rw [Nat.zero_add]; exact cells_load (hs.cells 0 rfl) _ _ (encA_at (fkI .i64).len _ _ 0 g2.1 g2.2)) ?_
       show G _ _ _ _ [_, _, _, _, _, _, _, _, _, _, _, _, _, _, _, _, _, _, _, _, _, _, _, _, _, _, _, _, _, _, _, _, _] _
       obtain ⟨g3, H⟩ := ite_get H
       refine g_op (v := subV v10 1 ((0 : Int)).toNat ((a4.get x19 0)).toNat) rfl rfl (x_slice (hs.row 1 rfl) rfl rfl (fun _ => rfl) rfl (.inl ⟨rfl, rfl⟩) (.inr ⟨_, _, rfl, rfl⟩) g3.1 g3.2.1 g3.2.2) ?_
       show G _ _ _ _ [_, _, _, _, _, _, _, _, _, _, _, _, _, _, _, _, _, _, _, _, _, _, _, _, _, _, _, _, _, _, _, _, _] _
       refine s_len (rdSub (hs.row 1 rfl) 1 rfl g3.1 g3.2.1 g3.2.2) rfl rfl rfl rfl rfl ?_
       show G _ _ _ _ [_, _, _, _, _, _, _, _, _, _, _, _, _, _, _, _, _, _, _, _, _, _, _, _, _, _, _, _, _, _, _, _, _] _
       refine g_op (v := Value.int .i64 0) rfl rfl rfl ?_
       refine g_ops_nil ?_
       obtain ⟨o2_, Ho, Hr2_⟩ := bind_get H
       refine g_block_join (J := fun t w => ∃ x23 : Int, _impl_Game_setFor.a3 N x19 x23 = some x25_ ∧ Fr t (fun O => ([O 0, O 1, O 2, Value.pointer (some ⟨b7, 0, none⟩), O 4, Value.int .u64 x23, O 6, O 7, O 8, O 9, O 10, Value.agg (([v10, v11, v12, v13] : List Value)).toArray, Value.int .i64 x19, O 13, O 14, O 15, O 16, O 17, O 18, O 19, O 20, O 21, O 22, O 23, O 24, O 25, O 26, O 27, O 28, O 29, O 30, O 31, O 32] : List Value)) ∧ St w0 [Cells b7 ((encA (encI .i64)) a4) 85, Row 2 (K.int .i64) v10 (r9.get 0 []), Row 2 (K.int .i64) v11 (r9.get 1 []), Row 2 (K.int .i64) v12 (r9.get 2 []), Row 2 (K.int .i64) v13 (r9.get 3 [])] w) ?_ ?_
       ·
        rintro t w ⟨x23, H, hf, hs⟩
        obtain ⟨O, rfl⟩ := hf.open
        show G _ _ _ _ [_, _, _, _, _, _, _, _, _, _, _, _, _, _, _, _, _, _, _, _, _, _, _, _, _, _, _, _, _, _, _, _, _] _
        unfold _impl_Game_setFor.a3 at H
        refine g_inBlock ?_
        have hs := hs.pull 4 rfl
        have hs := hs.pull 4 rfl
        have hs := hs.pull 4 rfl
        have hs := hs.pull 4 rfl
        have hs := hs.pull 4 rfl
        have hs : St _ [_, _, _, _, _] _ := St.take (Γ' := []) hs
        exact ha _ _ ⟨x23, H, rfl, hs⟩
       ·
        intro ha2_
        have hs := hs.pull 4 rfl
        have hs := hs.pull 4 rfl
        have hs := hs.pull 4 rfl
        have hs := hs.pull 4 rfl
        have hs := hs.pull 4 rfl
        have hs : St _ [_, _, _, _, _] _ := St.take (Γ' := []) hs
        refine g_loop_fuel (I := fun n_ t w => ∃ x20 : Int, ∃ x21 : Int, rounds (fun s => _impl_Game_setFor.b3 N r9 a4 x19 s.1 s.2) n_ (x20, x21) = some o2_ ∧ Fr t (fun O => ([O 0, O 1, O 2, Value.pointer (some ⟨b7, 0, none⟩), O 4, Value.int .u64 x20, O 6, O 7, O 8, O 9, O 10, Value.agg (([v10, v11, v12, v13] : List Value)).toArray, Value.int .i64 x19, O 13, O 14, O 15, O 16, O 17, O 18, O 19, subV v10 1 ((0 : Int)).toNat ((a4.get x19 0)).toNat, Value.int .i64 ((((r9.get 0 []).drop ((0 : Int)).toNat).take (((a4.get x19 0)).toNat - ((0 : Int)).toNat)).length : Int), Value.int .i64 x21, O 23, O 24, O 25, O 26, O 27, O 28, O 29, O 30, O 31, O 32] : List Value)) ∧ St w0 [Cells b7 ((encA (encI .i64)) a4) 85, Row 2 (K.int .i64) v10 (r9.get 0 []), Row 2 (K.int .i64) v11 (r9.get 1 []), Row 2 (K.int .i64) v12 (r9.get 2 []), Row 2 (K.int .i64) v13 (r9.get 3 [])] w) N ⟨x18, 0, Ho, rfl, hs⟩ ?_ ?_
        ·
         rintro _ _ ⟨x20, x21, h, _⟩
         exact rounds_zero h
        ·
         intro n_ ih2_
         rintro t w ⟨x20, x21, Ho, hf, hs⟩
         obtain ⟨O, rfl⟩ := hf.open
         show G _ _ _ _ [_, _, _, _, _, _, _, _, _, _, _, _, _, _, _, _, _, _, _, _, _, _, _, _, _, _, _, _, _, _, _, _, _] _
         obtain ⟨x6_, H, Hx2_⟩ := rounds_succ Ho
         have H : _impl_Game_setFor.b3 N r9 a4 x19 x20 x21 = some x6_ := H
         unfold _impl_Game_setFor.b3 at H
         refine g_seq ?_
         refine g_region ?_
         show G _ _ _ (.inRegion _ [0] :: _) _ _
         refine g_op_b (B := decide (x21 < ((((r9.get 0 []).drop ((0 : Int)).toNat).take (((a4.get x19 0)).toNat - ((0 : Int)).toNat)).length : Int))) rfl rfl rfl ?_ ?_
         ·
          intro hb
          rw [if_pos (b_dec_t hb)] at H
          show G _ _ _ _ [_, _, _, _, _, _, _, _, _, _, _, _, _, _, _, _, _, _, _, _, _, _, _, _, _, _, _, _, _, _, _, _, _] _
          refine g_ops_nil ?_
          refine g_seq ?_
          refine g_cond_true rfl ?_
          refine g_skip ?_
          refine g_seq ?_
          refine g_block ?_
          refine g_seq ?_
          refine g_region ?_
          show G _ _ _ (.inRegion _ [0, 1, 2] :: _) _ _
          obtain ⟨g4, H⟩ := ite_get H
          refine s_idx (fkI .i64) 0 (rdSub (hs.row 1 rfl) 1 rfl g3.1 g3.2.1 g3.2.2) rfl (fun _ => rfl) g4.1 g4.2 rfl rfl rfl rfl rfl ?_
          intro p22 hp22 lp22 op22
          show G _ _ _ _ [_, _, _, _, _, _, _, _, _, _, _, _, _, _, _, _, _, _, _, _, _, _, _, _, _, _, _, _, _, _, _, _, _] _
          refine s_load1 rfl rfl (v := Value.int .i64 (rdL (((r9.get 0 []).drop ((0 : Int)).toNat).take (((a4.get x19 0)).toNat - ((0 : Int)).toNat)) x21 0)) rfl rfl (fun _ => rfl) hp22 ?_
          show G _ _ _ _ [_, _, _, _, _, _, _, _, _, _, _, _, _, _, _, _, _, _, _, _, _, _, _, _, _, _, _, _, _, _, _, _, _] _
          refine g_op (v := Value.int .i64 (rdL (((r9.get 0 []).drop ((0 : Int)).toNat).take (((a4.get x19 0)).toNat - ((0 : Int)).toNat)) x21 0)) rfl rfl rfl ?_
          show G _ _ _ _ [_, _, _, _, _, _, _, _, _, _, _, _, _, _, _, _, _, _, _, _, _, _, _, _, _, _, _, _, _, _, _, _, _] _
          refine g_ops_nil ?_
          refine g_region ?_
          show G _ _ _ (.inRegion _ [0, 1, 2, 3, 4] :: _) _ _
          refine g_op (v := Value.int .u64 x20) rfl rfl rfl ?_
          refine g_op (v := Value.int .i64 (rdL (((r9.get 0 []).drop ((0 : Int)).toNat).take (((a4.get x19 0)).toNat - ((0 : Int)).toNat)) x21 0)) rfl rfl rfl ?_
          obtain ⟨g5, H⟩ := ite_get H
          refine g_op (v := Value.int .u64 (shlI .u64 1 (rdL (((r9.get 0 []).drop ((0 : Int)).toNat).take (((a4.get x19 0)).toNat - ((0 : Int)).toNat)) x21 0))) rfl rfl (x_shl rfl rfl rfl g5) ?_
          show G _ _ _ _ [_, _, _, _, _, _, _, _, _, _, _, _, _, _, _, _, _, _, _, _, _, _, _, _, _, _, _, _, _, _, _, _, _] _
          refine g_op (v := Value.int .u64 (bOr .u64 x20 (shlI .u64 1 (rdL (((r9.get 0 []).drop ((0 : Int)).toNat).take (((a4.get x19 0)).toNat - ((0 : Int)).toNat)) x21 0)))) rfl rfl rfl ?_
          show G _ _ _ _ [_, _, _, _, _, _, _, _, _, _, _, _, _, _, _, _, _, _, _, _, _, _, _, _, _, _, _, _, _, _, _, _, _] _
          refine g_op (v := Value.int .u64 (bOr .u64 x20 (shlI .u64 1 (rdL (((r9.get 0 []).drop ((0 : Int)).toNat).take (((a4.get x19 0)).toNat - ((0 : Int)).toNat)) x21 0)))) rfl rfl rfl ?_
          show G _ _ _ _ [_, _, _, _, _, _, _, _, _, _, _, _, _, _, _, _, _, _, _, _, _, _, _, _, _, _, _, _, _, _, _, _, _] _
          refine g_ops_nil ?_
          refine g_inBlock ?_
          refine g_region ?_
          show G _ _ _ (.inRegion _ [0, 1] :: _) _ _
          refine g_op (v := Value.int .i64 (i64w (x21 + 1))) rfl rfl rfl ?_
          show G _ _ _ _ [_, _, _, _, _, _, _, _, _, _, _, _, _, _, _, _, _, _, _, _, _, _, _, _, _, _, _, _, _, _, _, _, _] _
          refine g_op (v := Value.int .i64 (i64w (x21 + 1))) rfl rfl rfl ?_
          refine g_ops_nil ?_
          obtain rfl := Option.some.inj H
          have hs := hs.pull 4 rfl
          have hs := hs.pull 4 rfl
          have hs := hs.pull 4 rfl
          have hs := hs.pull 4 rfl
          have hs := hs.pull 4 rfl
          have hs : St _ [_, _, _, _, _] _ := St.take (Γ' := []) hs
          exact ih2_ _ _ ⟨bOr .u64 x20 (shlI .u64 1 (rdL (((r9.get 0 []).drop ((0 : Int)).toNat).take (((a4.get x19 0)).toNat - ((0 : Int)).toNat)) x21 0)), i64w (x21 + 1), Hx2_, rfl, hs⟩
         ·
          intro hb
          rw [if_neg (b_dec_f hb)] at H
          show G _ _ _ _ [_, _, _, _, _, _, _, _, _, _, _, _, _, _, _, _, _, _, _, _, _, _, _, _, _, _, _, _, _, _, _, _, _] _
          refine g_ops_nil ?_
          refine g_seq ?_
          refine g_cond_false rfl ?_
          obtain rfl := Option.some.inj H
          subst Hx2_
          have hs := hs.pull 4 rfl
          have hs := hs.pull 4 rfl
          have hs := hs.pull 4 rfl
          have hs := hs.pull 4 rfl
          have hs := hs.pull 4 rfl
          have hs : St _ [_, _, _, _, _] _ := St.take (Γ' := []) hs
          refine g_exit rfl ?_
          exact ha2_ _ _ ⟨x20, Hr2_, rfl, hs⟩
      ·
       rw [if_neg hk1_] at H
       by_cases hk7_ : x19 = 1
       ·
        rw [if_pos hk7_] at H
        refine g_region ?_
        show G _ _ _ (.inRegion _ [0, 1, 2, 3] :: _) _ _
        refine g_op (v := Value.int .i64 x19) rfl rfl rfl ?_
        refine s_indexJ 1 hk7_ (by decide) (cs := ([v10, v11, v12, v13] : List Value)) (v := v11) rfl rfl (fun _ => rfl) (fun _ => rfl) rfl rfl rfl rfl rfl ?_
        show G _ _ _ _ [_, _, _, _, _, _, _, _, _, _, _, _, _, _, _, _, _, _, _, _, _, _, _, _, _, _, _, _, _, _, _, _, _] _
        refine g_op (v := Value.int .i64 x19) rfl rfl rfl ?_
        show G _ _ _ _ [_, _, _, _, _, _, _, _, _, _, _, _, _, _, _, _, _, _, _, _, _, _, _, _, _, _, _, _, _, _, _, _, _] _
        refine g_op (v := v11) rfl rfl rfl ?_
        show G _ _ _ _ [_, _, _, _, _, _, _, _, _, _, _, _, _, _, _, _, _, _, _, _, _, _, _, _, _, _, _, _, _, _, _, _, _] _
        refine g_ops_nil ?_
        refine g_seq ?_
        refine g_region ?_
        show G _ _ _ (.inRegion _ [0, 1, 2, 3, 4, 5, 6] :: _) _ _
        refine g_op (v := v11) rfl rfl rfl ?_
        refine g_op (v := Value.int .i64 x19) rfl rfl rfl ?_
        obtain ⟨g8, H⟩ := ite_get H
        refine s_idxA (n := x19) (m := 1) rfl (fun _ => rfl) g8.1 g8.2 rfl rfl rfl rfl rfl ?_
        show G _ _ _ _ [_, _, _, _, _, _, _, _, _, _, _, _, _, _, _, _, _, _, _, _, _, _, _, _, _, _, _, _, _, _, _, _, _] _
        refine s_load1 rfl rfl (v := Value.int .i64 (a4.get x19 0)) rfl rfl (fun _ => rfl) (by rw [Nat.zero_add]; exact cells_load (hs.cells 0 rfl) _ _ (encA_at (fkI .i64).len _ _ 0 g8.1 g8.2)) ?_
        show G _ _ _ _ [_, _, _, _, _, _, _, _, _, _, _, _, _, _, _, _, _, _, _, _, _, _, _, _, _, _, _, _, _, _, _, _, _] _
        obtain ⟨g9, H⟩ := ite_get H
        refine g_op (v := subV v11 1 ((0 : Int)).toNat ((a4.get x19 0)).toNat) rfl rfl (x_slice (hs.row 2 rfl) rfl rfl (fun _ => rfl) rfl (.inl ⟨rfl, rfl⟩) (.inr ⟨_, _, rfl, rfl⟩) g9.1 g9.2.1 g9.2.2) ?_
        show G _ _ _ _ [_, _, _, _, _, _, _, _, _, _, _, _, _, _, _, _, _, _, _, _, _, _, _, _, _, _, _, _, _, _, _, _, _] _
        refine s_len (rdSub (hs.row 2 rfl) 1 rfl g9.1 g9.2.1 g9.2.2) rfl rfl rfl rfl rfl ?_
        show G _ _ _ _ [_, _, _, _, _, _, _, _, _, _, _, _, _, _, _, _, _, _, _, _, _, _, _, _, _, _, _, _, _, _, _, _, _] _
        refine g_op (v := Value.int .i64 0) rfl rfl rfl ?_
        refine g_ops_nil ?_
        obtain ⟨o2_, Ho, Hr2_⟩ := bind_get H
        refine g_block_join (J := fun t w => ∃ x31 : Int, _impl_Game_setFor.a5 N x19 x31 = some x25_ ∧ Fr t (fun O => ([O 0, O 1, O 2, Value.pointer (some ⟨b7, 0, none⟩), O 4, Value.int .u64 x31, O 6, O 7, O 8, O 9, O 10, Value.agg (([v10, v11, v12, v13] : List Value)).toArray, Value.int .i64 x19, O 13, O 14, O 15, O 16, O 17, O 18, O 19, O 20, O 21, O 22, O 23, O 24, O 25, O 26, O 27, O 28, O 29, O 30, O 31, O 32] : List Value)) ∧ St w0 [Cells b7 ((encA (encI .i64)) a4) 85, Row 2 (K.int .i64) v10 (r9.get 0 []), Row 2 (K.int .i64) v11 (r9.get 1 []), Row 2 (K.int .i64) v12 (r9.get 2 []), Row 2 (K.int .i64) v13 (r9.get 3 [])] w) ?_ ?_
        ·
         rintro t w ⟨x31, H, hf, hs⟩
         obtain ⟨O, rfl⟩ := hf.open
         show G _ _ _ _ [_, _, _, _, _, _, _, _, _, _, _, _, _, _, _, _, _, _, _, _, _, _, _, _, _, _, _, _, _, _, _, _, _] _
         unfold _impl_Game_setFor.a5 at H
         refine g_inBlock ?_
         have hs := hs.pull 4 rfl
         have hs := hs.pull 4 rfl
         have hs := hs.pull 4 rfl
         have hs := hs.pull 4 rfl
         have hs := hs.pull 4 rfl
         have hs : St _ [_, _, _, _, _] _ := St.take (Γ' := []) hs
         exact ha _ _ ⟨x31, H, rfl, hs⟩
        ·
         intro ha2_
         have hs := hs.pull 4 rfl
         have hs := hs.pull 4 rfl
         have hs := hs.pull 4 rfl
         have hs := hs.pull 4 rfl
         have hs := hs.pull 4 rfl
         have hs : St _ [_, _, _, _, _] _ := St.take (Γ' := []) hs
         refine g_loop_fuel (I := fun n_ t w => ∃ x28 : Int, ∃ x29 : Int, rounds (fun s => _impl_Game_setFor.b5 N r9 a4 x19 s.1 s.2) n_ (x28, x29) = some o2_ ∧ Fr t (fun O => ([O 0, O 1, O 2, Value.pointer (some ⟨b7, 0, none⟩), O 4, Value.int .u64 x28, O 6, O 7, O 8, O 9, O 10, Value.agg (([v10, v11, v12, v13] : List Value)).toArray, Value.int .i64 x19, O 13, O 14, O 15, O 16, O 17, O 18, O 19, subV v11 1 ((0 : Int)).toNat ((a4.get x19 0)).toNat, Value.int .i64 ((((r9.get 1 []).drop ((0 : Int)).toNat).take (((a4.get x19 0)).toNat - ((0 : Int)).toNat)).length : Int), Value.int .i64 x29, O 23, O 24, O 25, O 26, O 27, O 28, O 29, O 30, O 31, O 32] : List Value)) ∧ St w0 [Cells b7 ((encA (encI .i64)) a4) 85, Row 2 (K.int .i64) v10 (r9.get 0 []), Row 2 (K.int .i64) v11 (r9.get 1 []), Row 2 (K.int .i64) v12 (r9.get 2 []), Row 2 (K.int .i64) v13 (r9.get 3 [])] w) N ⟨x18, 0, Ho, rfl, hs⟩ ?_ ?_
         ·
          rintro _ _ ⟨x28, x29, h, _⟩
          exact rounds_zero h
         ·
          intro n_ ih2_
          rintro t w ⟨x28, x29, Ho, hf, hs⟩
          obtain ⟨O, rfl⟩ := hf.open
          show G _ _ _ _ [_, _, _, _, _, _, _, _, _, _, _, _, _, _, _, _, _, _, _, _, _, _, _, _, _, _, _, _, _, _, _, _, _] _
          obtain ⟨x12_, H, Hx2_⟩ := rounds_succ Ho
          have H : _impl_Game_setFor.b5 N r9 a4 x19 x28 x29 = some x12_ := H
          unfold _impl_Game_setFor.b5 at H
          refine g_seq ?_
          refine g_region ?_
          show G _ _ _ (.inRegion _ [0] :: _) _ _
          refine g_op_b (B := decide (x29 < ((((r9.get 1 []).drop ((0 : Int)).toNat).take (((a4.get x19 0)).toNat - ((0 : Int)).toNat)).length : Int))) rfl rfl rfl ?_ ?_
          ·
           intro hb
           rw [if_pos (b_dec_t hb)] at H
           show G _ _ _ _ [_, _, _, _, _, _, _, _, _, _, _, _, _, _, _, _, _, _, _, _, _, _, _, _, _, _, _, _, _, _, _, _, _] _
           refine g_ops_nil ?_
           refine g_seq ?_
           refine g_cond_true rfl ?_
           refine g_skip ?_
           refine g_seq ?_
           refine g_block ?_
           refine g_seq ?_
           refine g_region ?_
           show G _ _ _ (.inRegion _ [0, 1, 2] :: _) _ _
           obtain ⟨g10, H⟩ := ite_get H
           refine s_idx (fkI .i64) 0 (rdSub (hs.row 2 rfl) 1 rfl g9.1 g9.2.1 g9.2.2) rfl (fun _ => rfl) g10.1 g10.2 rfl rfl rfl rfl rfl ?_
           intro p30 hp30 lp30 op30
           show G _ _ _ _ [_, _, _, _, _, _, _, _, _, _, _, _, _, _, _, _, _, _, _, _, _, _, _, _, _, _, _, _, _, _, _, _, _] _
           refine s_load1 rfl rfl (v := Value.int .i64 (rdL (((r9.get 1 []).drop ((0 : Int)).toNat).take (((a4.get x19 0)).toNat - ((0 : Int)).toNat)) x29 0)) rfl rfl (fun _ => rfl) hp30 ?_
           show G _ _ _ _ [_, _, _, _, _, _, _, _, _, _, _, _, _, _, _, _, _, _, _, _, _, _, _, _, _, _, _, _, _, _, _, _, _] _
           refine g_op (v := Value.int .i64 (rdL (((r9.get 1 []).drop ((0 : Int)).toNat).take (((a4.get x19 0)).toNat - ((0 : Int)).toNat)) x29 0)) rfl rfl rfl ?_
           show G _ _ _ _ [_, _, _, _, _, _, _, _, _, _, _, _, _, _, _, _, _, _, _, _, _, _, _, _, _, _, _, _, _, _, _, _, _] _
           refine g_ops_nil ?_
           refine g_region ?_
           show G _ _ _ (.inRegion _ [0, 1, 2, 3, 4] :: _) _ _
           refine g_op (v := Value.int .u64 x28) rfl rfl rfl ?_
           refine g_op (v := Value.int .i64 (rdL (((r9.get 1 []).drop ((0 : Int)).toNat).take (((a4.get x19 0)).toNat - ((0 : Int)).toNat)) x29 0)) rfl rfl rfl ?_
           obtain ⟨g11, H⟩ := ite_get H
           refine g_op (v := Value.int .u64 (shlI .u64 1 (rdL (((r9.get 1 []).drop ((0 : Int)).toNat).take (((a4.get x19 0)).toNat - ((0 : Int)).toNat)) x29 0))) rfl rfl (x_shl rfl rfl rfl g11) ?_
           show G _ _ _ _ [_, _, _, _, _, _, _, _, _, _, _, _, _, _, _, _, _, _, _, _, _, _, _, _, _, _, _, _, _, _, _, _, _] _
           refine g_op (v := Value.int .u64 (bOr .u64 x28 (shlI .u64 1 (rdL (((r9.get 1 []).drop ((0 : Int)).toNat).take (((a4.get x19 0)).toNat - ((0 : Int)).toNat)) x29 0)))) rfl rfl rfl ?_
           show G _ _ _ _ [_, _, _, _, _, _, _, _, _, _, _, _, _, _, _, _, _, _, _, _, _, _, _, _, _, _, _, _, _, _, _, _, _] _
           refine g_op (v := Value.int .u64 (bOr .u64 x28 (shlI .u64 1 (rdL (((r9.get 1 []).drop ((0 : Int)).toNat).take (((a4.get x19 0)).toNat - ((0 : Int)).toNat)) x29 0)))) rfl rfl rfl ?_
           show G _ _ _ _ [_, _, _, _, _, _, _, _, _, _, _, _, _, _, _, _, _, _, _, _, _, _, _, _, _, _, _, _, _, _, _, _, _] _
           refine g_ops_nil ?_
           refine g_inBlock ?_
           refine g_region ?_
           show G _ _ _ (.inRegion _ [0, 1] :: _) _ _
           refine g_op (v := Value.int .i64 (i64w (x29 + 1))) rfl rfl rfl ?_
           show G _ _ _ _ [_, _, _, _, _, _, _, _, _, _, _, _, _, _, _, _, _, _, _, _, _, _, _, _, _, _, _, _, _, _, _, _, _] _
           refine g_op (v := Value.int .i64 (i64w (x29 + 1))) rfl rfl rfl ?_
           refine g_ops_nil ?_
           obtain rfl := Option.some.inj H
           have hs := hs.pull 4 rfl
           have hs := hs.pull 4 rfl
           have hs := hs.pull 4 rfl
           have hs := hs.pull 4 rfl
           have hs := hs.pull 4 rfl
           have hs : St _ [_, _, _, _, _] _ := St.take (Γ' := []) hs
           exact ih2_ _ _ ⟨bOr .u64 x28 (shlI .u64 1 (rdL (((r9.get 1 []).drop ((0 : Int)).toNat).take (((a4.get x19 0)).toNat - ((0 : Int)).toNat)) x29 0)), i64w (x29 + 1), Hx2_, rfl, hs⟩
          ·
           intro hb
           rw [if_neg (b_dec_f hb)] at H
           show G _ _ _ _ [_, _, _, _, _, _, _, _, _, _, _, _, _, _, _, _, _, _, _, _, _, _, _, _, _, _, _, _, _, _, _, _, _] _
           refine g_ops_nil ?_
           refine g_seq ?_
           refine g_cond_false rfl ?_
           obtain rfl := Option.some.inj H
           subst Hx2_
           have hs := hs.pull 4 rfl
           have hs := hs.pull 4 rfl
           have hs := hs.pull 4 rfl
           have hs := hs.pull 4 rfl
           have hs := hs.pull 4 rfl
           have hs : St _ [_, _, _, _, _] _ := St.take (Γ' := []) hs
           refine g_exit rfl ?_
           exact ha2_ _ _ ⟨x28, Hr2_, rfl, hs⟩
       ·
        rw [if_neg hk7_] at H
        by_cases hk13_ : x19 = 2
        ·
         rw [if_pos hk13_] at H
         refine g_region ?_
         show G _ _ _ (.inRegion _ [0, 1, 2, 3] :: _) _ _
         refine g_op (v := Value.int .i64 x19) rfl rfl rfl ?_
         refine s_indexJ 2 hk13_ (by decide) (cs := ([v10, v11, v12, v13] : List Value)) (v := v12) rfl rfl (fun _ => rfl) (fun _ => rfl) rfl rfl rfl rfl rfl ?_
         show G _ _ _ _ [_, _, _, _, _, _, _, _, _, _, _, _, _, _, _, _, _, _, _, _, _, _, _, _, _, _, _, _, _, _, _, _, _] _
         refine g_op (v := Value.int .i64 x19) rfl rfl rfl ?_
         show G _ _ _ _ [_, _, _, _, _, _, _, _, _, _, _, _, _, _, _, _, _, _, _, _, _, _, _, _, _, _, _, _, _, _, _, _, _] _
         refine g_op (v := v12) rfl rfl rfl ?_
         show G _ _ _ _ [_, _, _, _, _, _, _, _, _, _, _, _, _, _, _, _, _, _, _, _, _, _, _, _, _, _, _, _, _, _, _, _, _] _
         refine g_ops_nil ?_
         refine g_seq ?_
         refine g_region ?_
         show G _ _ _ (.inRegion _ [0, 1, 2, 3, 4, 5, 6] :: _) _ _
         refine g_op (v := v12) rfl rfl rfl ?_
         refine g_op (v := Value.int .i64 x19) rfl rfl rfl ?_
         obtain ⟨g14, H⟩ := ite_get H
         refine s_idxA (n := x19) (m := 1) rfl (fun _ => rfl) g14.1 g14.2 rfl rfl rfl rfl rfl ?_
         show G _ _ _ _ [_, _, _, _, _, _, _, _, _, _, _, _, _, _, _, _, _, _, _, _, _, _, _, _, _, _, _, _, _, _, _, _, _] _
         refine s_load1 rfl rfl (v := Value.int .i64 (a4.get x19 0)) rfl rfl (fun _ => rfl) (by rw [Nat.zero_add]; exact cells_load (hs.cells 0 rfl) _ _ (encA_at (fkI .i64).len _ _ 0 g14.1 g14.2)) ?_
         show G _ _ _ _ [_, _, _, _, _, _, _, _, _, _, _, _, _, _, _, _, _, _, _, _, _, _, _, _, _, _, _, _, _, _, _, _, _] _
         obtain ⟨g15, H⟩ := ite_get H
         refine g_op (v := subV v12 1 ((0 : Int)).toNat ((a4.get x19 0)).toNat) rfl rfl (x_slice (hs.row 3 rfl) rfl rfl (fun _ => rfl) rfl (.inl ⟨rfl, rfl⟩) (.inr ⟨_, _, rfl, rfl⟩) g15.1 g15.2.1 g15.2.2) ?_
         show G _ _ _ _ [_, _, _, _, _, _, _, _, _, _, _, _, _, _, _, _, _, _, _, _, _, _, _, _, _, _, _, _, _, _, _, _, _] _
         refine s_len (rdSub (hs.row 3 rfl) 1 rfl g15.1 g15.2.1 g15.2.2) rfl rfl rfl rfl rfl ?_
         show G _ _ _ _ [_, _, _, _, _, _, _, _, _, _, _, _, _, _, _, _, _, _, _, _, _, _, _, _, _, _, _, _, _, _, _, _, _] _
         refine g_op (v := Value.int .i64 0) rfl rfl rfl ?_
         refine g_ops_nil ?_
         obtain ⟨o2_, Ho, Hr2_⟩ := bind_get H
         refine g_block_join (J := fun t w => ∃ x39 : Int, _impl_Game_setFor.a7 N x19 x39 = some x25_ ∧ Fr t (fun O => ([O 0, O 1, O 2, Value.pointer (some ⟨b7, 0, none⟩), O 4, Value.int .u64 x39, O 6, O 7, O 8, O 9, O 10, Value.agg (([v10, v11, v12, v13] : List Value)).toArray, Value.int .i64 x19, O 13, O 14, O 15, O 16, O 17, O 18, O 19, O 20, O 21, O 22, O 23, O 24, O 25, O 26, O 27, O 28, O 29, O 30, O 31, O 32] : List Value)) ∧ St w0 [Cells b7 ((encA (encI .i64)) a4) 85, Row 2 (K.int .i64) v10 (r9.get 0 []), Row 2 (K.int .i64) v11 (r9.get 1 []), Row 2 (K.int .i64) v12 (r9.get 2 []), Row 2 (K.int .i64) v13 (r9.get 3 [])] w) ?_ ?_
         ·
          rintro t w ⟨x39, H, hf, hs⟩
          obtain ⟨O, rfl⟩ := hf.open
          show G _ _ _ _ [_, _, _, _, _, _, _, _, _, _, _, _, _, _, _, _, _, _, _, _, _, _, _, _, _, _, _, _, _, _, _, _, _] _
          unfold _impl_Game_setFor.a7 at H
          refine g_inBlock ?_
          have hs := hs.pull 4 rfl
          have hs := hs.pull 4 rfl
          have hs := hs.pull 4 rfl
          have hs := hs.pull 4 rfl
          have hs := hs.pull 4 rfl
          have hs : St _ [_, _, _, _, _] _ := St.take (Γ' := []) hs
          exact ha _ _ ⟨x39, H, rfl, hs⟩
         ·
          intro ha2_
          have hs := hs.pull 4 rfl
          have hs := hs.pull 4 rfl
          have hs := hs.pull 4 rfl
          have hs := hs.pull 4 rfl
          have hs := hs.pull 4 rfl
          have hs : St _ [_, _, _, _, _] _ := St.take (Γ' := []) hs
          refine g_loop_fuel (I := fun n_ t w => ∃ x36 : Int, ∃ x37 : Int, rounds (fun s => _impl_Game_setFor.b7 N r9 a4 x19 s.1 s.2) n_ (x36, x37) = some o2_ ∧ Fr t (fun O => ([O 0, O 1, O 2, Value.pointer (some ⟨b7, 0, none⟩), O 4, Value.int .u64 x36, O 6, O 7, O 8, O 9, O 10, Value.agg (([v10, v11, v12, v13] : List Value)).toArray, Value.int .i64 x19, O 13, O 14, O 15, O 16, O 17, O 18, O 19, subV v12 1 ((0 : Int)).toNat ((a4.get x19 0)).toNat, Value.int .i64 ((((r9.get 2 []).drop ((0 : Int)).toNat).take (((a4.get x19 0)).toNat - ((0 : Int)).toNat)).length : Int), Value.int .i64 x37, O 23, O 24, O 25, O 26, O 27, O 28, O 29, O 30, O 31, O 32] : List Value)) ∧ St w0 [Cells b7 ((encA (encI .i64)) a4) 85, Row 2 (K.int .i64) v10 (r9.get 0 []), Row 2 (K.int .i64) v11 (r9.get 1 []), Row 2 (K.int .i64) v12 (r9.get 2 []), Row 2 (K.int .i64) v13 (r9.get 3 [])] w) N ⟨x18, 0, Ho, rfl, hs⟩ ?_ ?_
          ·
           rintro _ _ ⟨x36, x37, h, _⟩
           exact rounds_zero h
          ·
           intro n_ ih2_
           rintro t w ⟨x36, x37, Ho, hf, hs⟩
           obtain ⟨O, rfl⟩ := hf.open
           show G _ _ _ _ [_, _, _, _, _, _, _, _, _, _, _, _, _, _, _, _, _, _, _, _, _, _, _, _, _, _, _, _, _, _, _, _, _] _
           obtain ⟨x18_, H, Hx2_⟩ := rounds_succ Ho
           have H : _impl_Game_setFor.b7 N r9 a4 x19 x36 x37 = some x18_ := H
           unfold _impl_Game_setFor.b7 at H
           refine g_seq ?_
           refine g_region ?_
           show G _ _ _ (.inRegion _ [0] :: _) _ _
           refine g_op_b (B := decide (x37 < ((((r9.get 2 []).drop ((0 : Int)).toNat).take (((a4.get x19 0)).toNat - ((0 : Int)).toNat)).length : Int))) rfl rfl rfl ?_ ?_
           ·
            intro hb
            rw [if_pos (b_dec_t hb)] at H
            show G _ _ _ _ [_, _, _, _, _, _, _, _, _, _, _, _, _, _, _, _, _, _, _, _, _, _, _, _, _, _, _, _, _, _, _, _, _] _
            refine g_ops_nil ?_
            refine g_seq ?_
            refine g_cond_true rfl ?_
            refine g_skip ?_
            refine g_seq ?_
            refine g_block ?_
            refine g_seq ?_
            refine g_region ?_
            show G _ _ _ (.inRegion _ [0, 1, 2] :: _) _ _
            obtain ⟨g16, H⟩ := ite_get H
            refine s_idx (fkI .i64) 0 (rdSub (hs.row 3 rfl) 1 rfl g15.1 g15.2.1 g15.2.2) rfl (fun _ => rfl) g16.1 g16.2 rfl rfl rfl rfl rfl ?_
            intro p38 hp38 lp38 op38
            show G _ _ _ _ [_, _, _, _, _, _, _, _, _, _, _, _, _, _, _, _, _, _, _, _, _, _, _, _, _, _, _, _, _, _, _, _, _] _
            refine s_load1 rfl rfl (v := Value.int .i64 (rdL (((r9.get 2 []).drop ((0 : Int)).toNat).take (((a4.get x19 0)).toNat - ((0 : Int)).toNat)) x37 0)) rfl rfl (fun _ => rfl) hp38 ?_
            show G _ _ _ _ [_, _, _, _, _, _, _, _, _, _, _, _, _, _, _, _, _, _, _, _, _, _, _, _, _, _, _, _, _, _, _, _, _] _
            refine g_op (v := Value.int .i64 (rdL (((r9.get 2 []).drop ((0 : Int)).toNat).take (((a4.get x19 0)).toNat - ((0 : Int)).toNat)) x37 0)) rfl rfl rfl ?_
            show G _ _ _ _ [_, _, _, _, _, _, _, _, _, _, _, _, _, _, _, _, _, _, _, _, _, _, _, _, _, _, _, _, _, _, _, _, _] _
            refine g_ops_nil ?_
            refine g_region ?_
            show G _ _ _ (.inRegion _ [0, 1, 2, 3, 4] :: _) _ _
            refine g_op (v := Value.int .u64 x36) rfl rfl rfl ?_
            refine g_op (v := Value.int .i64 (rdL (((r9.get 2 []).drop ((0 : Int)).toNat).take (((a4.get x19 0)).toNat - ((0 : Int)).toNat)) x37 0)) rfl rfl rfl ?_
            obtain ⟨g17, H⟩ := ite_get H
            refine g_op (v := Value.int .u64 (shlI .u64 1 (rdL (((r9.get 2 []).drop ((0 : Int)).toNat).take (((a4.get x19 0)).toNat - ((0 : Int)).toNat)) x37 0))) rfl rfl (x_shl rfl rfl rfl g17) ?_
            show G _ _ _ _ [_, _, _, _, _, _, _, _, _, _, _, _, _, _, _, _, _, _, _, _, _, _, _, _, _, _, _, _, _, _, _, _, _] _
            refine g_op (v := Value.int .u64 (bOr .u64 x36 (shlI .u64 1 (rdL (((r9.get 2 []).drop ((0 : Int)).toNat).take (((a4.get x19 0)).toNat - ((0 : Int)).toNat)) x37 0)))) rfl rfl rfl ?_
            show G _ _ _ _ [_, _, _, _, _, _, _, _, _, _, _, _, _, _, _, _, _, _, _, _, _, _, _, _, _, _, _, _, _, _, _, _, _] _
            refine g_op (v := Value.int .u64 (bOr .u64 x36 (shlI .u64 1 (rdL (((r9.get 2 []).drop ((0 : Int)).toNat).take (((a4.get x19 0)).toNat - ((0 : Int)).toNat)) x37 0)))) rfl rfl rfl ?_
            show G _ _ _ _ [_, _, _, _, _, _, _, _, _, _, _, _, _, _, _, _, _, _, _, _, _, _, _, _, _, _, _, _, _, _, _, _, _] _
            refine g_ops_nil ?_
            refine g_inBlock ?_
            refine g_region ?_
            show G _ _ _ (.inRegion _ [0, 1] :: _) _ _
            refine g_op (v := Value.int .i64 (i64w (x37 + 1))) rfl rfl rfl ?_
            show G _ _ _ _ [_, _, _, _, _, _, _, _, _, _, _, _, _, _, _, _, _, _, _, _, _, _, _, _, _, _, _, _, _, _, _, _, _] _
            refine g_op (v := Value.int .i64 (i64w (x37 + 1))) rfl rfl rfl ?_
            refine g_ops_nil ?_
            obtain rfl := Option.some.inj H
            have hs := hs.pull 4 rfl
            have hs := hs.pull 4 rfl
            have hs := hs.pull 4 rfl
            have hs := hs.pull 4 rfl
            have hs := hs.pull 4 rfl
            have hs : St _ [_, _, _, _, _] _ := St.take (Γ' := []) hs
            exact ih2_ _ _ ⟨bOr .u64 x36 (shlI .u64 1 (rdL (((r9.get 2 []).drop ((0 : Int)).toNat).take (((a4.get x19 0)).toNat - ((0 : Int)).toNat)) x37 0)), i64w (x37 + 1), Hx2_, rfl, hs⟩
           ·
            intro hb
            rw [if_neg (b_dec_f hb)] at H
            show G _ _ _ _ [_, _, _, _, _, _, _, _, _, _, _, _, _, _, _, _, _, _, _, _, _, _, _, _, _, _, _, _, _, _, _, _, _] _
            refine g_ops_nil ?_
            refine g_seq ?_
            refine g_cond_false rfl ?_
            obtain rfl := Option.some.inj H
            subst Hx2_
            have hs := hs.pull 4 rfl
            have hs := hs.pull 4 rfl
            have hs := hs.pull 4 rfl
            have hs := hs.pull 4 rfl
            have hs := hs.pull 4 rfl
            have hs : St _ [_, _, _, _, _] _ := St.take (Γ' := []) hs
            refine g_exit rfl ?_
            exact ha2_ _ _ ⟨x36, Hr2_, rfl, hs⟩
        ·
         rw [if_neg hk13_] at H
         by_cases hk19_ : x19 = 3
         ·
          rw [if_pos hk19_] at H
          refine g_region ?_
          show G _ _ _ (.inRegion _ [0, 1, 2, 3] :: _) _ _
          refine g_op (v := Value.int .i64 x19) rfl rfl rfl ?_
          refine s_indexJ 3 hk19_ (by decide) (cs := ([v10, v11, v12, v13] : List Value)) (v := v13) rfl rfl (fun _ => rfl) (fun _ => rfl) rfl rfl rfl rfl rfl ?_
          show G _ _ _ _ [_, _, _, _, _, _, _, _, _, _, _, _, _, _, _, _, _, _, _, _, _, _, _, _, _, _, _, _, _, _, _, _, _] _
          refine g_op (v := Value.int .i64 x19) rfl rfl rfl ?_
          show G _ _ _ _ [_, _, _, _, _, _, _, _, _, _, _, _, _, _, _, _, _, _, _, _, _, _, _, _, _, _, _, _, _, _, _, _, _] _
          refine g_op (v := v13) rfl rfl rfl ?_
          show G _ _ _ _ [_, _, _, _, _, _, _, _, _, _, _, _, _, _, _, _, _, _, _, _, _, _, _, _, _, _, _, _, _, _, _, _, _] _
          refine g_ops_nil ?_
          refine g_seq ?_
          refine g_region ?_
          show G _ _ _ (.inRegion _ [0, 1, 2, 3, 4, 5, 6] :: _) _ _
          refine g_op (v := v13) rfl rfl rfl ?_
          refine g_op (v := Value.int .i64 x19) rfl rfl rfl ?_
          obtain ⟨g20, H⟩ := ite_get H
          refine s_idxA (n := x19) (m := 1) rfl (fun _ => rfl) g20.1 g20.2 rfl rfl rfl rfl rfl ?_
          show G _ _ _ _ [_, _, _, _, _, _, _, _, _, _, _, _, _, _, _, _, _, _, _, _, _, _, _, _, _, _, _, _, _, _, _, _, _] _
          refine s_load1 rfl rfl (v := Value.int .i64 (a4.get x19 0)) rfl rfl (fun _ => rfl) (by rw [Nat.zero_add]; exact cells_load (hs.cells 0 rfl) _ _ (encA_at (fkI .i64).len _ _ 0 g20.1 g20.2)) ?_
          show G _ _ _ _ [_, _, _, _, _, _, _, _, _, _, _, _, _, _, _, _, _, _, _, _, _, _, _, _, _, _, _, _, _, _, _, _, _] _
          obtain ⟨g21, H⟩ := ite_get H
          refine g_op (v := subV v13 1 ((0 : Int)).toNat ((a4.get x19 0)).toNat) rfl rfl (x_slice (hs.row 4 rfl) rfl rfl (fun _ => rfl) rfl (.inl ⟨rfl, rfl⟩) (.inr ⟨_, _, rfl, rfl⟩) g21.1 g21.2.1 g21.2.2) ?_
          show G _ _ _ _ [_, _, _, _, _, _, _, _, _, _, _, _, _, _, _, _, _, _, _, _, _, _, _, _, _, _, _, _, _, _, _, _, _] _
          refine s_len (rdSub (hs.row 4 rfl) 1 rfl g21.1 g21.2.1 g21.2.2) rfl rfl rfl rfl rfl ?_
          show G _ _ _ _ [_, _, _, _, _, _, _, _, _, _, _, _, _, _, _, _, _, _, _, _, _, _, _, _, _, _, _, _, _, _, _, _, _] _
          refine g_op (v := Value.int .i64 0) rfl rfl rfl ?_
          refine g_ops_nil ?_
          obtain ⟨o2_, Ho, Hr2_⟩ := bind_get H
          refine g_block_join (J := fun t w => ∃ x47 : Int, _impl_Game_setFor.a9 N x19 x47 = some x25_ ∧ Fr t (fun O => ([O 0, O 1, O 2, Value.pointer (some ⟨b7, 0, none⟩), O 4, Value.int .u64 x47, O 6, O 7, O 8, O 9, O 10, Value.agg (([v10, v11, v12, v13] : List Value)).toArray, Value.int .i64 x19, O 13, O 14, O 15, O 16, O 17, O 18, O 19, O 20, O 21, O 22, O 23, O 24, O 25, O 26, O 27, O 28, O 29, O 30, O 31, O 32] : List Value)) ∧ St w0 [Cells b7 ((encA (encI .i64)) a4) 85, Row 2 (K.int .i64) v10 (r9.get 0 []), Row 2 (K.int .i64) v11 (r9.get 1 []), Row 2 (K.int .i64) v12 (r9.get 2 []), Row 2 (K.int .i64) v13 (r9.get 3 [])] w) ?_ ?_
          ·
           rintro t w ⟨x47, H, hf, hs⟩
           obtain ⟨O, rfl⟩ := hf.open
           show G _ _ _ _ [_, _, _, _, _, _, _, _, _, _, _, _, _, _, _, _, _, _, _, _, _, _, _, _, _, _, _, _, _, _, _, _, _] _
           unfold _impl_Game_setFor.a9 at H
           refine g_inBlock ?_
           have hs := hs.pull 4 rfl
           have hs := hs.pull 4 rfl
           have hs := hs.pull 4 rfl
           have hs := hs.pull 4 rfl
           have hs := hs.pull 4 rfl
           have hs : St _ [_, _, _, _, _] _ := St.take (Γ' := []) hs
           exact ha _ _ ⟨x47, H, rfl, hs⟩
          ·
           intro ha2_
           have hs := hs.pull 4 rfl
           have hs := hs.pull 4 rfl
           have hs := hs.pull 4 rfl
           have hs := hs.pull 4 rfl
           have hs := hs.pull 4 rfl
           have hs : St _ [_, _, _, _, _] _ := St.take (Γ' := []) hs
           refine g_loop_fuel (I := fun n_ t w => ∃ x44 : Int, ∃ x45 : Int, rounds (fun s => _impl_Game_setFor.b9 N r9 a4 x19 s.1 s.2) n_ (x44, x45) = some o2_ ∧ Fr t (fun O => ([O 0, O 1, O 2, Value.pointer (some ⟨b7, 0, none⟩), O 4, Value.int .u64 x44, O 6, O 7, O 8, O 9, O 10, Value.agg (([v10, v11, v12, v13] : List Value)).toArray, Value.int .i64 x19, O 13, O 14, O 15, O 16, O 17, O 18, O 19, subV v13 1 ((0 : Int)).toNat ((a4.get x19 0)).toNat, Value.int .i64 ((((r9.get 3 []).drop ((0 : Int)).toNat).take (((a4.get x19 0)).toNat - ((0 : Int)).toNat)).length : Int), Value.int .i64 x45, O 23, O 24, O 25, O 26, O 27, O 28, O 29, O 30, O 31, O 32] : List Value)) ∧ St w0 [Cells b7 ((encA (encI .i64)) a4) 85, Row 2 (K.int .i64) v10 (r9.get 0 []), Row 2 (K.int .i64) v11 (r9.get 1 []), Row 2 (K.int .i64) v12 (r9.get 2 []), Row 2 (K.int .i64) v13 (r9.get 3 [])] w) N ⟨x18, 0, Ho, rfl, hs⟩ ?_ ?_
           ·
            rintro _ _ ⟨x44, x45, h, _⟩
            exact rounds_zero h
           ·
            intro n_ ih2_
            rintro t w ⟨x44, x45, Ho, hf, hs⟩
            obtain ⟨O, rfl⟩ := hf.open
            show G _ _ _ _ [_, _, _, _, _, _, _, _, _, _, _, _, _, _, _, _, _, _, _, _, _, _, _, _, _, _, _, _, _, _, _, _, _] _
            obtain ⟨x24_, H, Hx2_⟩ := rounds_succ Ho
            have H : _impl_Game_setFor.b9 N r9 a4 x19 x44 x45 = some x24_ := H
            unfold _impl_Game_setFor.b9 at H
            refine g_seq ?_
            refine g_region ?_
            show G _ _ _ (.inRegion _ [0] :: _) _ _
            refine g_op_b (B := decide (x45 < ((((r9.get 3 []).drop ((0 : Int)).toNat).take (((a4.get x19 0)).toNat - ((0 : Int)).toNat)).length : Int))) rfl rfl rfl ?_ ?_
            ·
             intro hb
             rw [if_pos (b_dec_t hb)] at H
             show G _ _ _ _ [_, _, _, _, _, _, _, _, _, _, _, _, _, _, _, _, _, _, _, _, _, _, _, _, _, _, _, _, _, _, _, _, _] _
             refine g_ops_nil ?_
             refine g_seq ?_
             refine g_cond_true rfl ?_
             refine g_skip ?_
             refine g_seq ?_
             refine g_block ?_
             refine g_seq ?_
             refine g_region ?_
             show G _ _ _ (.inRegion _ [0, 1, 2] :: _) _ _
             obtain ⟨g22, H⟩ := ite_get H
             refine s_idx (fkI .i64) 0 (rdSub (hs.row 4 rfl) 1 rfl g21.1 g21.2.1 g21.2.2) rfl (fun _ => rfl) g22.1 g22.2 rfl rfl rfl rfl rfl ?_
             intro p46 hp46 lp46 op46
             show G _ _ _ _ [_, _, _, _, _, _, _, _, _, _, _, _, _, _, _, _, _, _, _, _, _, _, _, _, _, _, _, _, _, _, _, _, _] _
             refine s_load1 rfl rfl (v := Value.int .i64 (rdL (((r9.get 3 []).drop ((0 : Int)).toNat).take (((a4.get x19 0)).toNat - ((0 : Int)).toNat)) x45 0)) rfl rfl (fun _ => rfl) hp46 ?_
             show G _ _ _ _ [_, _, _, _, _, _, _, _, _, _, _, _, _, _, _, _, _, _, _, _, _, _, _, _, _, _, _, _, _, _, _, _, _] _
             refine g_op (v := Value.int .i64 (rdL (((r9.get 3 []).drop ((0 : Int)).toNat).take (((a4.get x19 0)).toNat - ((0 : Int)).toNat)) x45 0)) rfl rfl rfl ?_
             show G _ _ _ _ [_, _, _, _, _, _, _, _, _, _, _, _, _, _, _, _, _, _, _, _, _, _, _, _, _, _, _, _, _, _, _, _, _] _
             refine g_ops_nil ?_
             refine g_region ?_
             show G _ _ _ (.inRegion _ [0, 1, 2, 3, 4] :: _) _ _
             refine g_op (v := Value.int .u64 x44) rfl rfl rfl ?_
             refine g_op (v := Value.int .i64 (rdL (((r9.get 3 []).drop ((0 : Int)).toNat).take (((a4.get x19 0)).toNat - ((0 : Int)).toNat)) x45 0)) rfl rfl rfl ?_
             obtain ⟨g23, H⟩ := ite_get H
             refine g_op (v := Value.int .u64 (shlI .u64 1 (rdL (((r9.get 3 []).drop ((0 : Int)).toNat).take (((a4.get x19 0)).toNat - ((0 : Int)).toNat)) x45 0))) rfl rfl (x_shl rfl rfl rfl g23) ?_
             show G _ _ _ _ [_, _, _, _, _, _, _, _, _, _, _, _, _, _, _, _, _, _, _, _, _, _, _, _, _, _, _, _, _, _, _, _, _] _
             refine g_op (v := Value.int .u64 (bOr .u64 x44 (shlI .u64 1 (rdL (((r9.get 3 []).drop ((0 : Int)).toNat).take (((a4.get x19 0)).toNat - ((0 : Int)).toNat)) x45 0)))) rfl rfl rfl ?_
             show G _ _ _ _ [_, _, _, _, _, _, _, _, _, _, _, _, _, _, _, _, _, _, _, _, _, _, _, _, _, _, _, _, _, _, _, _, _] _
             refine g_op (v := Value.int .u64 (bOr .u64 x44 (shlI .u64 1 (rdL (((r9.get 3 []).drop ((0 : Int)).toNat).take (((a4.get x19 0)).toNat - ((0 : Int)).toNat)) x45 0)))) rfl rfl rfl ?_
             show G _ _ _ _ [_, _, _, _, _, _, _, _, _, _, _, _, _, _, _, _, _, _, _, _, _, _, _, _, _, _, _, _, _, _, _, _, _] _
             refine g_ops_nil ?_
             refine g_inBlock ?_
             refine g_region ?_
             show G _ _ _ (.inRegion _ [0, 1] :: _) _ _
             refine g_op (v := Value.int .i64 (i64w (x45 + 1))) rfl rfl rfl ?_
             show G _ _ _ _ [_, _, _, _, _, _, _, _, _, _, _, _, _, _, _, _, _, _, _, _, _, _, _, _, _, _, _, _, _, _, _, _, _] _
             refine g_op (v := Value.int .i64 (i64w (x45 + 1))) rfl rfl rfl ?_
             refine g_ops_nil ?_
             obtain rfl := Option.some.inj H
             have hs := hs.pull 4 rfl
             have hs := hs.pull 4 rfl
             have hs := hs.pull 4 rfl
             have hs := hs.pull 4 rfl
             have hs := hs.pull 4 rfl
             have hs : St _ [_, _, _, _, _] _ := St.take (Γ' := []) hs
             exact ih2_ _ _ ⟨bOr .u64 x44 (shlI .u64 1 (rdL (((r9.get 3 []).drop ((0 : Int)).toNat).take (((a4.get x19 0)).toNat - ((0 : Int)).toNat)) x45 0)), i64w (x45 + 1), Hx2_, rfl, hs⟩
            ·
             intro hb
             rw [if_neg (b_dec_f hb)] at H
             show G _ _ _ _ [_, _, _, _, _, _, _, _, _, _, _, _, _, _, _, _, _, _, _, _, _, _, _, _, _, _, _, _, _, _, _, _, _] _
             refine g_ops_nil ?_
             refine g_seq ?_
             refine g_cond_false rfl ?_
             obtain rfl := Option.some.inj H
             subst Hx2_
             have hs := hs.pull 4 rfl
             have hs := hs.pull 4 rfl
             have hs := hs.pull 4 rfl
             have hs := hs.pull 4 rfl
             have hs := hs.pull 4 rfl
             have hs : St _ [_, _, _, _, _] _ := St.take (Γ' := []) hs
             refine g_exit rfl ?_
             exact ha2_ _ _ ⟨x44, Hr2_, rfl, hs⟩
         ·
          rw [if_neg hk19_] at H
          cases H
    ·
     intro hb
     rw [if_neg (b_dec_f hb)] at H
     show G _ _ _ _ [_, _, _, _, _, _, _, _, _, _, _, _, _, _, _, _, _, _, _, _, _, _, _, _, _, _, _, _, _, _, _, _, _] _
     refine g_ops_nil ?_
     refine g_seq ?_
     refine g_cond_false rfl ?_
     obtain rfl := Option.some.inj H
     subst Hx1_
     have hs : St _ [] _ := St.take (Γ' := [_, _, _, _, _]) hs
     refine g_exit rfl ?_
     exact ha1_ _ _ ⟨x18, Hr1_, rfl, hs⟩

end Go.Proofs.YtpbkenbmjgchkaaX
