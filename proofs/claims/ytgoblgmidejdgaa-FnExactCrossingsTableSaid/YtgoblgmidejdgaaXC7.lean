/- Contracts, printed by gen.py. -/
import Derived.Test.YtgoblgmidejdgaaXC6
namespace Go.Proofs.YtgoblgmidejdgaaX
open Go Go.RowKit Go.Proofs
set_option linter.unusedVariables false
set_option linter.unusedSimpArgs false
/- function 79 slices_Repeat_int16_int16 -/
def slices_Repeat_int16_int16.post (w0 : World) (r : (List Int)) (v : Value) (w : World) : Prop := St w0 [Row 72 (K.int .i16) v r] w
set_option maxHeartbeats 8000000 in
set_option maxRecDepth 100000 in
theorem slices_Repeat_int16_int16.calls {N : Nat} {a1 : (List Int)} {a3 : Int} {v2 : Value} {w0 : World} {r : (List Int)} (hr0 : RdRow (K.int .i16) w0 v2 a1) (H : slices_Repeat_int16_int16.f N a1 a3 = some r) :
    Calls Try.prog 79 #[v2, Value.int .i64 a3] w0 fun e w => ∃ v, e = .returned v ∧ slices_Repeat_int16_int16.post w0 r v w := by
  unfold slices_Repeat_int16_int16.f at H
  have hs : St w0 [] w0 := St.refl w0
  refine calls_of_g (n := 46) Try.func79 rfl rfl ?_
  show G _ _ _ _ [_, _, _, _, _, _, _, _, _, _, _, _, _, _, _, _, _, _, _, _, _, _, _, _, _, _, _, _, _, _, _, _, _, _, _, _, _, _, _, _, _, _, _, _, _, _, _, _] _
  refine g_seq ?_
  refine g_region ?_
  show G _ _ _ (.inRegion _ [0] :: _) _ _
  refine g_op (v := Value.slice none 0 0) rfl rfl rfl ?_
  show G _ _ _ _ [_, _, _, _, _, _, _, _, _, _, _, _, _, _, _, _, _, _, _, _, _, _, _, _, _, _, _, _, _, _, _, _, _, _, _, _, _, _, _, _, _, _, _, _, _, _, _, _] _
  refine g_ops_nil ?_
  refine g_seq ?_
  refine g_seq ?_
  refine g_region ?_
  show G _ _ _ (.inRegion _ [0, 1] :: _) _ _
  refine g_op (v := Value.int .i64 a3) rfl rfl rfl ?_
  refine g_op_b (B := decide (a3 < 0)) rfl rfl rfl ?_ ?_
  ·
   intro hb
   rw [if_pos (b_dec_t hb)] at H
   show G _ _ _ _ [_, _, _, _, _, _, _, _, _, _, _, _, _, _, _, _, _, _, _, _, _, _, _, _, _, _, _, _, _, _, _, _, _, _, _, _, _, _, _, _, _, _, _, _, _, _, _, _] _
   refine g_ops_nil ?_
   refine g_cond_true rfl ?_
   cases H
  ·
   intro hb
   rw [if_neg (b_dec_f hb)] at H
   show G _ _ _ _ [_, _, _, _, _, _, _, _, _, _, _, _, _, _, _, _, _, _, _, _, _, _, _, _, _, _, _, _, _, _, _, _, _, _, _, _, _, _, _, _, _, _, _, _, _, _, _, _] _
   refine g_ops_nil ?_
   refine g_cond_false rfl ?_
   refine g_skip ?_
   refine g_seq ?_
   refine g_region ?_
   show G _ _ _ (.inRegion _ [0, 1, 2, 3, 4, 5, 6, 7, 8, 9, 10] :: _) _ _
   refine g_op (v := v2) rfl rfl rfl ?_
   refine s_len (hs.rd hr0) rfl rfl rfl rfl rfl ?_
   show G _ _ _ _ [_, _, _, _, _, _, _, _, _, _, _, _, _, _, _, _, _, _, _, _, _, _, _, _, _, _, _, _, _, _, _, _, _, _, _, _, _, _, _, _, _, _, _, _, _, _, _, _] _
   refine g_op (v := Value.int .u64 (u64w (a1.length : Int))) rfl rfl rfl ?_
   refine g_op (v := Value.int .i64 a3) rfl rfl rfl ?_
   refine g_op (v := Value.int .u64 (u64w a3)) rfl rfl rfl ?_
   obtain ⟨r4, Hr4, H⟩ := bind_get H
   refine s_call (args := [Value.int .u64 (u64w (a1.length : Int)), Value.int .u64 (u64w a3)]) rfl rfl (x_call rfl (callFunc_enter Try.func82 rfl rfl) rfl) (bits_Mul.calls (a1 := u64w (a1.length : Int)) (a2 := u64w a3) Hr4) ?_
   rintro _ w ⟨rfl, hs2⟩
   have hs : St _ [] _ := hs.call hs2
   show G _ _ _ _ [_, _, _, _, _, _, _, _, _, _, _, _, _, _, _, _, _, _, _, _, _, _, _, _, _, _, _, _, _, _, _, _, _, _, _, _, _, _, _, _, _, _, _, _, _, _, _, _] _
   refine g_op (v := Value.tuple #[Value.int .u64 r4.1, Value.int .u64 r4.2]) rfl rfl rfl ?_
   refine g_op (v := Value.int .u64 r4.1) rfl rfl rfl ?_
   refine g_op (v := Value.int .u64 r4.2) rfl rfl rfl ?_
   refine g_op (v := Value.int .u64 r4.1) rfl rfl rfl ?_
   show G _ _ _ _ [_, _, _, _, _, _, _, _, _, _, _, _, _, _, _, _, _, _, _, _, _, _, _, _, _, _, _, _, _, _, _, _, _, _, _, _, _, _, _, _, _, _, _, _, _, _, _, _] _
   refine g_op (v := Value.int .u64 r4.2) rfl rfl rfl ?_
   show G _ _ _ _ [_, _, _, _, _, _, _, _, _, _, _, _, _, _, _, _, _, _, _, _, _, _, _, _, _, _, _, _, _, _, _, _, _, _, _, _, _, _, _, _, _, _, _, _, _, _, _, _] _
   refine g_ops_nil ?_
   refine g_seq ?_
   refine g_seq ?_
   refine g_region ?_
   show G _ _ _ (.inRegion _ [0, 1, 2, 3, 4, 5] :: _) _ _
   refine g_op (v := Value.int .u64 r4.1) rfl rfl rfl ?_
   refine g_op_b (B := decide (r4.1 > 0)) rfl rfl rfl ?_ ?_
   ·
    intro hb
    rw [if_pos (b_dec_t hb)] at H
    show G _ _ _ _ [_, _, _, _, _, _, _, _, _, _, _, _, _, _, _, _, _, _, _, _, _, _, _, _, _, _, _, _, _, _, _, _, _, _, _, _, _, _, _, _, _, _, _, _, _, _, _, _] _
    refine g_op (v := Value.bool true) rfl rfl rfl ?_
    refine g_op_not rfl rfl ?_
    refine g_op_not rfl rfl ?_
    show G _ _ _ _ [_, _, _, _, _, _, _, _, _, _, _, _, _, _, _, _, _, _, _, _, _, _, _, _, _, _, _, _, _, _, _, _, _, _, _, _, _, _, _, _, _, _, _, _, _, _, _, _] _
    refine g_op (v := Value.bool true) rfl rfl rfl ?_
    show G _ _ _ _ [_, _, _, _, _, _, _, _, _, _, _, _, _, _, _, _, _, _, _, _, _, _, _, _, _, _, _, _, _, _, _, _, _, _, _, _, _, _, _, _, _, _, _, _, _, _, _, _] _
    refine g_ops_nil ?_
    refine g_cond_true rfl ?_
    cases H
   ·
    intro hb
    rw [if_neg (b_dec_f hb)] at H
    show G _ _ _ _ [_, _, _, _, _, _, _, _, _, _, _, _, _, _, _, _, _, _, _, _, _, _, _, _, _, _, _, _, _, _, _, _, _, _, _, _, _, _, _, _, _, _, _, _, _, _, _, _] _
    refine g_op (v := Value.bool false) rfl rfl rfl ?_
    refine g_op (v := Value.int .u64 r4.2) rfl rfl rfl ?_
    refine g_op_b (B := decide (r4.2 > 9223372036854775807)) rfl rfl rfl ?_ ?_
    ·
     intro hb
     rw [if_pos (b_dec_t hb)] at H
     show G _ _ _ _ [_, _, _, _, _, _, _, _, _, _, _, _, _, _, _, _, _, _, _, _, _, _, _, _, _, _, _, _, _, _, _, _, _, _, _, _, _, _, _, _, _, _, _, _, _, _, _, _] _
     refine g_op (v := Value.bool true) rfl rfl rfl ?_
     show G _ _ _ _ [_, _, _, _, _, _, _, _, _, _, _, _, _, _, _, _, _, _, _, _, _, _, _, _, _, _, _, _, _, _, _, _, _, _, _, _, _, _, _, _, _, _, _, _, _, _, _, _] _
     refine g_ops_nil ?_
     refine g_cond_true rfl ?_
     cases H
    ·
     intro hb
     rw [if_neg (b_dec_f hb)] at H
     show G _ _ _ _ [_, _, _, _, _, _, _, _, _, _, _, _, _, _, _, _, _, _, _, _, _, _, _, _, _, _, _, _, _, _, _, _, _, _, _, _, _, _, _, _, _, _, _, _, _, _, _, _] _
     refine g_op (v := Value.bool false) rfl rfl rfl ?_
     show G _ _ _ _ [_, _, _, _, _, _, _, _, _, _, _, _, _, _, _, _, _, _, _, _, _, _, _, _, _, _, _, _, _, _, _, _, _, _, _, _, _, _, _, _, _, _, _, _, _, _, _, _] _
     refine g_ops_nil ?_
     refine g_cond_false rfl ?_
     refine g_skip ?_
     refine g_seq ?_
     refine g_region ?_
     show G _ _ _ (.inRegion _ [0, 1, 2, 3] :: _) _ _
     refine g_op (v := Value.int .u64 r4.2) rfl rfl rfl ?_
     refine g_op (v := Value.int .i64 (i64w r4.2)) rfl rfl rfl ?_
     obtain ⟨g, H⟩ := ite_get H
     refine s_make (κ := (K.int .i16)) (z := 0) (zc := ((encI .i16) 0)) (zv := (Value.int .i16 0)) (B := 2) hs rfl rfl rfl rfl rfl g.1 rfl rfl rfl rfl rfl (fun _ => ⟨rfl, rfl⟩) rfl (by decide) (by have := g.2; omega) ?_
     intro v5 w hs
     show G _ _ _ _ [_, _, _, _, _, _, _, _, _, _, _, _, _, _, _, _, _, _, _, _, _, _, _, _, _, _, _, _, _, _, _, _, _, _, _, _, _, _, _, _, _, _, _, _, _, _, _, _] _
     refine g_op (v := v5) rfl rfl rfl ?_
     show G _ _ _ _ [_, _, _, _, _, _, _, _, _, _, _, _, _, _, _, _, _, _, _, _, _, _, _, _, _, _, _, _, _, _, _, _, _, _, _, _, _, _, _, _, _, _, _, _, _, _, _, _] _
     refine g_ops_nil ?_
     refine g_seq ?_
     refine g_region ?_
     show G _ _ _ (.inRegion _ [0, 1, 2, 3] :: _) _ _
     refine g_op (v := v5) rfl rfl rfl ?_
     refine g_op (v := v2) rfl rfl rfl ?_
     refine s_copy (fkI .i16) (Value.int .i16) (fun _ => rfl) rfl (lo := (0 : Int)) (hi := ((List.replicate (i64w r4.2).toNat (0 : Int)).length : Int)) hs (hs.rd hr0) (Int.le_refl 0) (Int.natCast_nonneg _) (Int.le_refl _) rfl rfl rfl Try.underlying49 rfl (.inl ⟨rfl, rfl, rfl⟩) rfl ?_
     intro w hs
     show G _ _ _ _ [_, _, _, _, _, _, _, _, _, _, _, _, _, _, _, _, _, _, _, _, _, _, _, _, _, _, _, _, _, _, _, _, _, _, _, _, _, _, _, _, _, _, _, _, _, _, _, _] _
     refine g_op (v := Value.int .i64 (cpN (List.replicate (i64w r4.2).toNat (0 : Int)) a1 (0 : Int) ((List.replicate (i64w r4.2).toNat (0 : Int)).length : Int) : Int)) rfl rfl rfl ?_
     show G _ _ _ _ [_, _, _, _, _, _, _, _, _, _, _, _, _, _, _, _, _, _, _, _, _, _, _, _, _, _, _, _, _, _, _, _, _, _, _, _, _, _, _, _, _, _, _, _, _, _, _, _] _
     refine g_ops_nil ?_
     refine g_seq ?_
     obtain ⟨o1_, Ho, Hr1_⟩ := bind_get H
     refine g_block_join (J := fun t w => ∃ x10 : (List Int), slices_Repeat_int16_int16.a0 N x10 = some r ∧ Fr t (fun O => ([O 0, O 1, O 2, O 3, O 4, O 5, O 6, v5, O 8, O 9, O 10, O 11, O 12, O 13, O 14, O 15, O 16, O 17, O 18, O 19, O 20, O 21, O 22, O 23, O 24, O 25, O 26, O 27, O 28, O 29, O 30, O 31, O 32, O 33, O 34, O 35, O 36, O 37, O 38, O 39, O 40, O 41, O 42, O 43, O 44, O 45, O 46, O 47] : List Value)) ∧ St w0 [Row 72 (K.int .i16) v5 x10] w) ?_ ?_
     ·
      rintro t w ⟨x10, H, hf, hs⟩
      obtain ⟨O, rfl⟩ := hf.open
      show G _ _ _ _ [_, _, _, _, _, _, _, _, _, _, _, _, _, _, _, _, _, _, _, _, _, _, _, _, _, _, _, _, _, _, _, _, _, _, _, _, _, _, _, _, _, _, _, _, _, _, _, _] _
      unfold slices_Repeat_int16_int16.a0 at H
      refine g_seq ?_
      refine g_region ?_
      show G _ _ _ (.inRegion _ [0, 1] :: _) _ _
      refine g_op (v := v5) rfl rfl rfl ?_
      refine g_op (v := v5) rfl rfl rfl ?_
      show G _ _ _ _ [_, _, _, _, _, _, _, _, _, _, _, _, _, _, _, _, _, _, _, _, _, _, _, _, _, _, _, _, _, _, _, _, _, _, _, _, _, _, _, _, _, _, _, _, _, _, _, _] _
      refine g_ops_nil ?_
      obtain rfl := Option.some.inj H
      refine g_ret Try.func79 (v := v5) (res1 rfl rfl) ?_
      have hs := hs.pull 0 rfl
      have hs : St _ [_] _ := St.take (Γ' := []) hs
      exact ⟨_, rfl, hs⟩
     ·
      intro ha1_
      have hs := hs.pull 0 rfl
      have hs : St _ [_] _ := St.take (Γ' := []) hs
      refine g_loop_fuel (I := fun n_ t w => ∃ x8 : (List Int), ∃ x9 : Int, rounds (fun s => slices_Repeat_int16_int16.b0 N s.1 s.2) n_ (x8, x9) = some o1_ ∧ Fr t (fun O => ([O 0, O 1, O 2, O 3, O 4, O 5, O 6, v5, Value.int .i64 x9, O 9, O 10, O 11, O 12, O 13, O 14, O 15, O 16, O 17, O 18, O 19, O 20, O 21, O 22, O 23, O 24, O 25, O 26, O 27, O 28, O 29, O 30, O 31, O 32, O 33, O 34, O 35, O 36, O 37, O 38, O 39, O 40, O 41, O 42, O 43, O 44, O 45, O 46, O 47] : List Value)) ∧ St w0 [Row 72 (K.int .i16) v5 x8] w) N ⟨cpL (List.replicate (i64w r4.2).toNat (0 : Int)) a1 (0 : Int) ((List.replicate (i64w r4.2).toNat (0 : Int)).length : Int), (cpN (List.replicate (i64w r4.2).toNat (0 : Int)) a1 (0 : Int) ((List.replicate (i64w r4.2).toNat (0 : Int)).length : Int) : Int), Ho, rfl, hs⟩ ?_ ?_
      ·
       rintro _ _ ⟨x8, x9, h, _⟩
       exact rounds_zero h
      ·
       intro n_ ih1_
       rintro t w ⟨x8, x9, Ho, hf, hs⟩
       obtain ⟨O, rfl⟩ := hf.open
       show G _ _ _ _ [_, _, _, _, _, _, _, _, _, _, _, _, _, _, _, _, _, _, _, _, _, _, _, _, _, _, _, _, _, _, _, _, _, _, _, _, _, _, _, _, _, _, _, _, _, _, _, _] _
       obtain ⟨x5_, H, Hx1_⟩ := rounds_succ Ho
       have H : slices_Repeat_int16_int16.b0 N x8 x9 = some x5_ := H
       unfold slices_Repeat_int16_int16.b0 at H
       refine g_seq ?_
       refine g_seq ?_
       refine g_region ?_
       show G _ _ _ (.inRegion _ [0, 1, 2, 3] :: _) _ _
       refine g_op (v := Value.int .i64 x9) rfl rfl rfl ?_
       refine g_op (v := v5) rfl rfl rfl ?_
       refine s_len (hs.row 0 rfl) rfl rfl rfl rfl rfl ?_
       show G _ _ _ _ [_, _, _, _, _, _, _, _, _, _, _, _, _, _, _, _, _, _, _, _, _, _, _, _, _, _, _, _, _, _, _, _, _, _, _, _, _, _, _, _, _, _, _, _, _, _, _, _] _
       refine g_op_b (B := decide (x9 < (x8.length : Int))) rfl rfl rfl ?_ ?_
       ·
        intro hb
        rw [if_pos (b_dec_t hb)] at H
        show G _ _ _ _ [_, _, _, _, _, _, _, _, _, _, _, _, _, _, _, _, _, _, _, _, _, _, _, _, _, _, _, _, _, _, _, _, _, _, _, _, _, _, _, _, _, _, _, _, _, _, _, _] _
        refine g_ops_nil ?_
        refine g_cond_true rfl ?_
        refine g_skip ?_
        refine g_block ?_
        obtain ⟨gd3, H⟩ := ite_get H
        obtain ⟨gd4, H⟩ := ite_get H
        refine g_name ?_
        intro T hT
        refine g_any (n := 10) rfl [0, 1, 2, 3, 4, 5, 6, 7, 8, 9] [0, 1, 2, 3, 4, 5, 6, 7, 8, 9] rfl rfl (Inv := fun D t w => ∃ O : Nat → Value, t = [O 0, O 1, O 2, O 3, O 4, O 5, O 6, v5, cnd (D 9) (Value.int .i64 (i64w (x9 + (cpN x8 ((x8.drop ((0 : Int)).toNat).take ((x9).toNat - ((0 : Int)).toNat)) x9 (x8.length : Int) : Int)))) (Value.int .i64 x9), O 9, O 10, O 11, O 12, O 13, O 14, O 15, O 16, O 17, O 18, O 19, O 20, O 21, O 22, O 23, O 24, O 25, O 26, O 27, O 28, O 29, O 30, O 31, O 32, O 33, Value.int .i64 x9, v5, Value.int .i64 (x8.length : Int), Value.bool true, cnd (D 0) (Value.int .i64 x9) (O 38), cnd (D 1) v5 (O 39), cnd (D 2) (Value.int .i64 x9) (O 40), cnd (D 3) (subV v5 1 (x9).toNat ((x8.length : Int)).toNat) (O 41), cnd (D 4) v5 (O 42), cnd (D 5) (Value.int .i64 x9) (O 43), cnd (D 6) (subV v5 1 ((0 : Int)).toNat (x9).toNat) (O 44), cnd (D 7) (Value.int .i64 (cpN x8 ((x8.drop ((0 : Int)).toNat).take ((x9).toNat - ((0 : Int)).toNat)) x9 (x8.length : Int) : Int)) (O 45), cnd (D 8) (Value.int .i64 (i64w (x9 + (cpN x8 ((x8.drop ((0 : Int)).toNat).take ((x9).toNat - ((0 : Int)).toNat)) x9 (x8.length : Int) : Int)))) (O 46), O 47] ∧ St w0 [Row 72 (K.int .i16) (cnd (D 7) v5 v5) (cnd (D 7) (cpL x8 ((x8.drop ((0 : Int)).toNat).take ((x9).toNat - ((0 : Int)).toNat)) x9 (x8.length : Int)) x8)] w) ?_ ⟨⟨⟨⟨⟨⟨⟨⟨⟨⟨trivial, ?_⟩, ?_⟩, ?_⟩, ?_⟩, ?_⟩, ?_⟩, ?_⟩, ?_⟩, ?_⟩, ?_⟩ ?_
        ·
         intro w hh hbw
         have hs := hs.samew hh hbw
         exact ⟨fun i => T.getD i undef, (by subst hT; rfl), hs⟩
        ·
         intro D t w hD hp hcl hI rest hk
         obtain ⟨O, ht, hs⟩ := hI
         have q8_ : D 8 = false := not_yet (hcl.get 8 (by decide)) 0 0 rfl hD
         have q9_ : D 9 = false := not_yet (hcl.get 9 (by decide)) 0 8 rfl q8_
         have u0_ : upd D 0 0 = true := rfl; have u1_ : upd D 0 1 = D 1 := rfl; have u2_ : upd D 0 2 = D 2 := rfl; have u3_ : upd D 0 3 = D 3 := rfl; have u4_ : upd D 0 4 = D 4 := rfl; have u5_ : upd D 0 5 = D 5 := rfl; have u6_ : upd D 0 6 = D 6 := rfl; have u7_ : upd D 0 7 = D 7 := rfl; have u8_ : upd D 0 8 = D 8 := rfl; have u9_ : upd D 0 9 = D 9 := rfl
         simp only [hD, q8_, q9_, cnd_t, cnd_f, Asc_t, Asc_f] at ht hs
         subst ht
         refine g_op (v := Value.int .i64 x9) rfl rfl rfl ?_
         show G _ _ _ _ [_, _, _, _, _, _, _, _, _, _, _, _, _, _, _, _, _, _, _, _, _, _, _, _, _, _, _, _, _, _, _, _, _, _, _, _, _, _, _, _, _, _, _, _, _, _, _, _] _
         exact hk _ _ ⟨O, (by simp only [u0_, u1_, u2_, u3_, u4_, u5_, u6_, u7_, u8_, u9_, q8_, q9_, cnd_t, cnd_f, Asc_t, Asc_f]), hs.cast (by first | rfl | simp only [List.take, List.drop, List.cons_append, List.nil_append, List.set_cons_zero, List.set_cons_succ, List.eraseIdx, u0_, u1_, u2_, u3_, u4_, u5_, u6_, u7_, u8_, u9_, q8_, q9_, cnd_t, cnd_f, Asc_t, Asc_f])⟩
        ·
         intro D t w hD hp hcl hI rest hk
         obtain ⟨O, ht, hs⟩ := hI
         have q3_ : D 3 = false := not_yet (hcl.get 3 (by decide)) 0 1 rfl hD
         have q7_ : D 7 = false := not_yet (hcl.get 7 (by decide)) 0 3 rfl q3_
         have q8_ : D 8 = false := not_yet (hcl.get 8 (by decide)) 1 7 rfl q7_
         have q9_ : D 9 = false := not_yet (hcl.get 9 (by decide)) 0 8 rfl q8_
         have u0_ : upd D 1 0 = D 0 := rfl; have u1_ : upd D 1 1 = true := rfl; have u2_ : upd D 1 2 = D 2 := rfl; have u3_ : upd D 1 3 = D 3 := rfl; have u4_ : upd D 1 4 = D 4 := rfl; have u5_ : upd D 1 5 = D 5 := rfl; have u6_ : upd D 1 6 = D 6 := rfl; have u7_ : upd D 1 7 = D 7 := rfl; have u8_ : upd D 1 8 = D 8 := rfl; have u9_ : upd D 1 9 = D 9 := rfl
         simp only [hD, q3_, q7_, q8_, q9_, cnd_t, cnd_f, Asc_t, Asc_f] at ht hs
         subst ht
         refine g_op (v := v5) rfl rfl rfl ?_
         show G _ _ _ _ [_, _, _, _, _, _, _, _, _, _, _, _, _, _, _, _, _, _, _, _, _, _, _, _, _, _, _, _, _, _, _, _, _, _, _, _, _, _, _, _, _, _, _, _, _, _, _, _] _
         exact hk _ _ ⟨O, (by simp only [u0_, u1_, u2_, u3_, u4_, u5_, u6_, u7_, u8_, u9_, q3_, q7_, q8_, q9_, cnd_t, cnd_f, Asc_t, Asc_f]), hs.cast (by first | rfl | simp only [List.take, List.drop, List.cons_append, List.nil_append, List.set_cons_zero, List.set_cons_succ, List.eraseIdx, u0_, u1_, u2_, u3_, u4_, u5_, u6_, u7_, u8_, u9_, q3_, q7_, q8_, q9_, cnd_t, cnd_f, Asc_t, Asc_f])⟩
        ·
         intro D t w hD hp hcl hI rest hk
         obtain ⟨O, ht, hs⟩ := hI
         have q3_ : D 3 = false := not_yet (hcl.get 3 (by decide)) 1 2 rfl hD
         have q7_ : D 7 = false := not_yet (hcl.get 7 (by decide)) 0 3 rfl q3_
         have q8_ : D 8 = false := not_yet (hcl.get 8 (by decide)) 1 7 rfl q7_
         have q9_ : D 9 = false := not_yet (hcl.get 9 (by decide)) 0 8 rfl q8_
         have u0_ : upd D 2 0 = D 0 := rfl; have u1_ : upd D 2 1 = D 1 := rfl; have u2_ : upd D 2 2 = true := rfl; have u3_ : upd D 2 3 = D 3 := rfl; have u4_ : upd D 2 4 = D 4 := rfl; have u5_ : upd D 2 5 = D 5 := rfl; have u6_ : upd D 2 6 = D 6 := rfl; have u7_ : upd D 2 7 = D 7 := rfl; have u8_ : upd D 2 8 = D 8 := rfl; have u9_ : upd D 2 9 = D 9 := rfl
         simp only [hD, q3_, q7_, q8_, q9_, cnd_t, cnd_f, Asc_t, Asc_f] at ht hs
         subst ht
         refine g_op (v := Value.int .i64 x9) rfl rfl rfl ?_
         show G _ _ _ _ [_, _, _, _, _, _, _, _, _, _, _, _, _, _, _, _, _, _, _, _, _, _, _, _, _, _, _, _, _, _, _, _, _, _, _, _, _, _, _, _, _, _, _, _, _, _, _, _] _
         exact hk _ _ ⟨O, (by simp only [u0_, u1_, u2_, u3_, u4_, u5_, u6_, u7_, u8_, u9_, q3_, q7_, q8_, q9_, cnd_t, cnd_f, Asc_t, Asc_f]), hs.cast (by first | rfl | simp only [List.take, List.drop, List.cons_append, List.nil_append, List.set_cons_zero, List.set_cons_succ, List.eraseIdx, u0_, u1_, u2_, u3_, u4_, u5_, u6_, u7_, u8_, u9_, q3_, q7_, q8_, q9_, cnd_t, cnd_f, Asc_t, Asc_f])⟩
        ·
         intro D t w hD hp hcl hI rest hk
         obtain ⟨O, ht, hs⟩ := hI
         obtain ⟨p1_, p2_, _⟩ := hp
         have q7_ : D 7 = false := not_yet (hcl.get 7 (by decide)) 0 3 rfl hD
         have q8_ : D 8 = false := not_yet (hcl.get 8 (by decide)) 1 7 rfl q7_
         have q9_ : D 9 = false := not_yet (hcl.get 9 (by decide)) 0 8 rfl q8_
         have u0_ : upd D 3 0 = D 0 := rfl; have u1_ : upd D 3 1 = D 1 := rfl; have u2_ : upd D 3 2 = D 2 := rfl; have u3_ : upd D 3 3 = true := rfl; have u4_ : upd D 3 4 = D 4 := rfl; have u5_ : upd D 3 5 = D 5 := rfl; have u6_ : upd D 3 6 = D 6 := rfl; have u7_ : upd D 3 7 = D 7 := rfl; have u8_ : upd D 3 8 = D 8 := rfl; have u9_ : upd D 3 9 = D 9 := rfl
         simp only [hD, p1_, p2_, q7_, q8_, q9_, cnd_t, cnd_f, Asc_t, Asc_f] at ht hs
         subst ht
         refine g_op (v := subV v5 1 (x9).toNat ((x8.length : Int)).toNat) rfl rfl (x_slice (hs.row 0 rfl) rfl rfl (fun _ => rfl) rfl (.inr ⟨_, _, rfl, rfl⟩) (.inl ⟨rfl, rfl⟩) gd3.1 gd3.2.1 gd3.2.2) ?_
         show G _ _ _ _ [_, _, _, _, _, _, _, _, _, _, _, _, _, _, _, _, _, _, _, _, _, _, _, _, _, _, _, _, _, _, _, _, _, _, _, _, _, _, _, _, _, _, _, _, _, _, _, _] _
         exact hk _ _ ⟨O, (by simp only [u0_, u1_, u2_, u3_, u4_, u5_, u6_, u7_, u8_, u9_, p1_, p2_, q7_, q8_, q9_, cnd_t, cnd_f, Asc_t, Asc_f]), hs.cast (by first | rfl | simp only [List.take, List.drop, List.cons_append, List.nil_append, List.set_cons_zero, List.set_cons_succ, List.eraseIdx, u0_, u1_, u2_, u3_, u4_, u5_, u6_, u7_, u8_, u9_, p1_, p2_, q7_, q8_, q9_, cnd_t, cnd_f, Asc_t, Asc_f])⟩
        ·
         intro D t w hD hp hcl hI rest hk
         obtain ⟨O, ht, hs⟩ := hI
         have q6_ : D 6 = false := not_yet (hcl.get 6 (by decide)) 0 4 rfl hD
         have q7_ : D 7 = false := not_yet (hcl.get 7 (by decide)) 1 6 rfl q6_
         have q8_ : D 8 = false := not_yet (hcl.get 8 (by decide)) 1 7 rfl q7_
         have q9_ : D 9 = false := not_yet (hcl.get 9 (by decide)) 0 8 rfl q8_
         have u0_ : upd D 4 0 = D 0 := rfl; have u1_ : upd D 4 1 = D 1 := rfl; have u2_ : upd D 4 2 = D 2 := rfl; have u3_ : upd D 4 3 = D 3 := rfl; have u4_ : upd D 4 4 = true := rfl; have u5_ : upd D 4 5 = D 5 := rfl; have u6_ : upd D 4 6 = D 6 := rfl; have u7_ : upd D 4 7 = D 7 := rfl; have u8_ : upd D 4 8 = D 8 := rfl; have u9_ : upd D 4 9 = D 9 := rfl
         simp only [hD, q6_, q7_, q8_, q9_, cnd_t, cnd_f, Asc_t, Asc_f] at ht hs
         subst ht
         refine g_op (v := v5) rfl rfl rfl ?_
         show G _ _ _ _ [_, _, _, _, _, _, _, _, _, _, _, _, _, _, _, _, _, _, _, _, _, _, _, _, _, _, _, _, _, _, _, _, _, _, _, _, _, _, _, _, _, _, _, _, _, _, _, _] _
         exact hk _ _ ⟨O, (by simp only [u0_, u1_, u2_, u3_, u4_, u5_, u6_, u7_, u8_, u9_, q6_, q7_, q8_, q9_, cnd_t, cnd_f, Asc_t, Asc_f]), hs.cast (by first | rfl | simp only [List.take, List.drop, List.cons_append, List.nil_append, List.set_cons_zero, List.set_cons_succ, List.eraseIdx, u0_, u1_, u2_, u3_, u4_, u5_, u6_, u7_, u8_, u9_, q6_, q7_, q8_, q9_, cnd_t, cnd_f, Asc_t, Asc_f])⟩
        ·
         intro D t w hD hp hcl hI rest hk
         obtain ⟨O, ht, hs⟩ := hI
         have q6_ : D 6 = false := not_yet (hcl.get 6 (by decide)) 1 5 rfl hD
         have q7_ : D 7 = false := not_yet (hcl.get 7 (by decide)) 1 6 rfl q6_
         have q8_ : D 8 = false := not_yet (hcl.get 8 (by decide)) 1 7 rfl q7_
         have q9_ : D 9 = false := not_yet (hcl.get 9 (by decide)) 0 8 rfl q8_
         have u0_ : upd D 5 0 = D 0 := rfl; have u1_ : upd D 5 1 = D 1 := rfl; have u2_ : upd D 5 2 = D 2 := rfl; have u3_ : upd D 5 3 = D 3 := rfl; have u4_ : upd D 5 4 = D 4 := rfl; have u5_ : upd D 5 5 = true := rfl; have u6_ : upd D 5 6 = D 6 := rfl; have u7_ : upd D 5 7 = D 7 := rfl; have u8_ : upd D 5 8 = D 8 := rfl; have u9_ : upd D 5 9 = D 9 := rfl
         simp only [hD, q6_, q7_, q8_, q9_, cnd_t, cnd_f, Asc_t, Asc_f] at ht hs
         subst ht
         refine g_op (v := Value.int .i64 x9) rfl rfl rfl ?_
         show G _ _ _ _ [_, _, _, _, _, _, _, _, _, _, _, _, _, _, _, _, _, _, _, _, _, _, _, _, _, _, _, _, _, _, _, _, _, _, _, _, _, _, _, _, _, _, _, _, _, _, _, _] _
         exact hk _ _ ⟨O, (by simp only [u0_, u1_, u2_, u3_, u4_, u5_, u6_, u7_, u8_, u9_, q6_, q7_, q8_, q9_, cnd_t, cnd_f, Asc_t, Asc_f]), hs.cast (by first | rfl | simp only [List.take, List.drop, List.cons_append, List.nil_append, List.set_cons_zero, List.set_cons_succ, List.eraseIdx, u0_, u1_, u2_, u3_, u4_, u5_, u6_, u7_, u8_, u9_, q6_, q7_, q8_, q9_, cnd_t, cnd_f, Asc_t, Asc_f])⟩
        ·
         intro D t w hD hp hcl hI rest hk
         obtain ⟨O, ht, hs⟩ := hI
         obtain ⟨p4_, p5_, _⟩ := hp
         have q7_ : D 7 = false := not_yet (hcl.get 7 (by decide)) 1 6 rfl hD
         have q8_ : D 8 = false := not_yet (hcl.get 8 (by decide)) 1 7 rfl q7_
         have q9_ : D 9 = false := not_yet (hcl.get 9 (by decide)) 0 8 rfl q8_
         have u0_ : upd D 6 0 = D 0 := rfl; have u1_ : upd D 6 1 = D 1 := rfl; have u2_ : upd D 6 2 = D 2 := rfl; have u3_ : upd D 6 3 = D 3 := rfl; have u4_ : upd D 6 4 = D 4 := rfl; have u5_ : upd D 6 5 = D 5 := rfl; have u6_ : upd D 6 6 = true := rfl; have u7_ : upd D 6 7 = D 7 := rfl; have u8_ : upd D 6 8 = D 8 := rfl; have u9_ : upd D 6 9 = D 9 := rfl
         simp only [hD, p4_, p5_, q7_, q8_, q9_, cnd_t, cnd_f, Asc_t, Asc_f] at ht hs
         subst ht
         refine g_op (v := subV v5 1 ((0 : Int)).toNat (x9).toNat) rfl rfl (x_slice (hs.row 0 rfl) rfl rfl (fun _ => rfl) rfl (.inl ⟨rfl, rfl⟩) (.inr ⟨_, _, rfl, rfl⟩) gd4.1 gd4.2.1 gd4.2.2) ?_
         show G _ _ _ _ [_, _, _, _, _, _, _, _, _, _, _, _, _, _, _, _, _, _, _, _, _, _, _, _, _, _, _, _, _, _, _, _, _, _, _, _, _, _, _, _, _, _, _, _, _, _, _, _] _
         exact hk _ _ ⟨O, (by simp only [u0_, u1_, u2_, u3_, u4_, u5_, u6_, u7_, u8_, u9_, p4_, p5_, q7_, q8_, q9_, cnd_t, cnd_f, Asc_t, Asc_f]), hs.cast (by first | rfl | simp only [List.take, List.drop, List.cons_append, List.nil_append, List.set_cons_zero, List.set_cons_succ, List.eraseIdx, u0_, u1_, u2_, u3_, u4_, u5_, u6_, u7_, u8_, u9_, p4_, p5_, q7_, q8_, q9_, cnd_t, cnd_f, Asc_t, Asc_f])⟩
        ·
         intro D t w hD hp hcl hI rest hk
         obtain ⟨O, ht, hs⟩ := hI
         obtain ⟨p3_, p6_, _⟩ := hp
         obtain ⟨p4_, p5_, _⟩ := (hcl.get 6 (by decide)) p6_
         obtain ⟨p1_, p2_, _⟩ := (hcl.get 3 (by decide)) p3_
         have q8_ : D 8 = false := not_yet (hcl.get 8 (by decide)) 1 7 rfl hD
         have q9_ : D 9 = false := not_yet (hcl.get 9 (by decide)) 0 8 rfl q8_
         have u0_ : upd D 7 0 = D 0 := rfl; have u1_ : upd D 7 1 = D 1 := rfl; have u2_ : upd D 7 2 = D 2 := rfl; have u3_ : upd D 7 3 = D 3 := rfl; have u4_ : upd D 7 4 = D 4 := rfl; have u5_ : upd D 7 5 = D 5 := rfl; have u6_ : upd D 7 6 = D 6 := rfl; have u7_ : upd D 7 7 = true := rfl; have u8_ : upd D 7 8 = D 8 := rfl; have u9_ : upd D 7 9 = D 9 := rfl
         simp only [hD, p1_, p2_, p3_, p4_, p5_, p6_, q8_, q9_, cnd_t, cnd_f, Asc_t, Asc_f] at ht hs
         subst ht
         refine s_copy (fkI .i16) (Value.int .i16) (fun _ => rfl) rfl (lo := x9) (hi := (x8.length : Int)) hs (rdSub (hs.row 0 rfl) 1 rfl gd4.1 gd4.2.1 gd4.2.2) gd3.1 gd3.2.1 gd3.2.2 rfl rfl rfl Try.underlying49 rfl (.inr rfl) rfl ?_
         intro w hs
         show G _ _ _ _ [_, _, _, _, _, _, _, _, _, _, _, _, _, _, _, _, _, _, _, _, _, _, _, _, _, _, _, _, _, _, _, _, _, _, _, _, _, _, _, _, _, _, _, _, _, _, _, _] _
         have hs := hs.push 0 (by simp)
         exact hk _ _ ⟨O, (by simp only [u0_, u1_, u2_, u3_, u4_, u5_, u6_, u7_, u8_, u9_, p1_, p2_, p3_, p4_, p5_, p6_, q8_, q9_, cnd_t, cnd_f, Asc_t, Asc_f]), hs.cast (by first | rfl | simp only [List.take, List.drop, List.cons_append, List.nil_append, List.set_cons_zero, List.set_cons_succ, List.eraseIdx, u0_, u1_, u2_, u3_, u4_, u5_, u6_, u7_, u8_, u9_, p1_, p2_, p3_, p4_, p5_, p6_, q8_, q9_, cnd_t, cnd_f, Asc_t, Asc_f])⟩
        ·
         intro D t w hD hp hcl hI rest hk
         obtain ⟨O, ht, hs⟩ := hI
         obtain ⟨p0_, p7_, _⟩ := hp
         obtain ⟨p3_, p6_, _⟩ := (hcl.get 7 (by decide)) p7_
         obtain ⟨p4_, p5_, _⟩ := (hcl.get 6 (by decide)) p6_
         obtain ⟨p1_, p2_, _⟩ := (hcl.get 3 (by decide)) p3_
         have q9_ : D 9 = false := not_yet (hcl.get 9 (by decide)) 0 8 rfl hD
         have u0_ : upd D 8 0 = D 0 := rfl; have u1_ : upd D 8 1 = D 1 := rfl; have u2_ : upd D 8 2 = D 2 := rfl; have u3_ : upd D 8 3 = D 3 := rfl; have u4_ : upd D 8 4 = D 4 := rfl; have u5_ : upd D 8 5 = D 5 := rfl; have u6_ : upd D 8 6 = D 6 := rfl; have u7_ : upd D 8 7 = D 7 := rfl; have u8_ : upd D 8 8 = true := rfl; have u9_ : upd D 8 9 = D 9 := rfl
         simp only [hD, p0_, p1_, p2_, p3_, p4_, p5_, p6_, p7_, q9_, cnd_t, cnd_f, Asc_t, Asc_f] at ht hs
         subst ht
         refine g_op (v := Value.int .i64 (i64w (x9 + (cpN x8 ((x8.drop ((0 : Int)).toNat).take ((x9).toNat - ((0 : Int)).toNat)) x9 (x8.length : Int) : Int)))) rfl rfl rfl ?_
         show G _ _ _ _ [_, _, _, _, _, _, _, _, _, _, _, _, _, _, _, _, _, _, _, _, _, _, _, _, _, _, _, _, _, _, _, _, _, _, _, _, _, _, _, _, _, _, _, _, _, _, _, _] _
         exact hk _ _ ⟨O, (by simp only [u0_, u1_, u2_, u3_, u4_, u5_, u6_, u7_, u8_, u9_, p0_, p1_, p2_, p3_, p4_, p5_, p6_, p7_, q9_, cnd_t, cnd_f, Asc_t, Asc_f]), hs.cast (by first | rfl | simp only [List.take, List.drop, List.cons_append, List.nil_append, List.set_cons_zero, List.set_cons_succ, List.eraseIdx, u0_, u1_, u2_, u3_, u4_, u5_, u6_, u7_, u8_, u9_, p0_, p1_, p2_, p3_, p4_, p5_, p6_, p7_, q9_, cnd_t, cnd_f, Asc_t, Asc_f])⟩
        ·
         intro D t w hD hp hcl hI rest hk
         obtain ⟨O, ht, hs⟩ := hI
         obtain ⟨p8_, p7_, p0_, p1_, p2_, p3_, p4_, p5_, p6_, _, _, _⟩ := hp
         have u0_ : upd D 9 0 = D 0 := rfl; have u1_ : upd D 9 1 = D 1 := rfl; have u2_ : upd D 9 2 = D 2 := rfl; have u3_ : upd D 9 3 = D 3 := rfl; have u4_ : upd D 9 4 = D 4 := rfl; have u5_ : upd D 9 5 = D 5 := rfl; have u6_ : upd D 9 6 = D 6 := rfl; have u7_ : upd D 9 7 = D 7 := rfl; have u8_ : upd D 9 8 = D 8 := rfl; have u9_ : upd D 9 9 = true := rfl
         simp only [hD, p0_, p1_, p2_, p3_, p4_, p5_, p6_, p7_, p8_, cnd_t, cnd_f, Asc_t, Asc_f] at ht hs
         subst ht
         refine g_op (v := Value.int .i64 (i64w (x9 + (cpN x8 ((x8.drop ((0 : Int)).toNat).take ((x9).toNat - ((0 : Int)).toNat)) x9 (x8.length : Int) : Int)))) rfl rfl rfl ?_
         show G _ _ _ _ [_, _, _, _, _, _, _, _, _, _, _, _, _, _, _, _, _, _, _, _, _, _, _, _, _, _, _, _, _, _, _, _, _, _, _, _, _, _, _, _, _, _, _, _, _, _, _, _] _
         exact hk _ _ ⟨O, (by simp only [u0_, u1_, u2_, u3_, u4_, u5_, u6_, u7_, u8_, u9_, p0_, p1_, p2_, p3_, p4_, p5_, p6_, p7_, p8_, cnd_t, cnd_f, Asc_t, Asc_f]), hs.cast (by first | rfl | simp only [List.take, List.drop, List.cons_append, List.nil_append, List.set_cons_zero, List.set_cons_succ, List.eraseIdx, u0_, u1_, u2_, u3_, u4_, u5_, u6_, u7_, u8_, u9_, p0_, p1_, p2_, p3_, p4_, p5_, p6_, p7_, p8_, cnd_t, cnd_f, Asc_t, Asc_f])⟩
        ·
         intro D t w hall hI
         obtain ⟨O, ht, hs⟩ := hI
         have p0_ : D 0 = true := hall 0 (by decide)
         have p1_ : D 1 = true := hall 1 (by decide)
         have p2_ : D 2 = true := hall 2 (by decide)
         have p3_ : D 3 = true := hall 3 (by decide)
         have p4_ : D 4 = true := hall 4 (by decide)
         have p5_ : D 5 = true := hall 5 (by decide)
         have p6_ : D 6 = true := hall 6 (by decide)
         have p7_ : D 7 = true := hall 7 (by decide)
         have p8_ : D 8 = true := hall 8 (by decide)
         have p9_ : D 9 = true := hall 9 (by decide)
         simp only [p0_, p1_, p2_, p3_, p4_, p5_, p6_, p7_, p8_, p9_, cnd_t, cnd_f, Asc_t, Asc_f] at ht hs
         subst ht
         refine g_inBlock ?_
         obtain rfl := Option.some.inj H
         have hs := hs.pull 0 rfl
         have hs : St _ [_] _ := St.take (Γ' := []) hs
         exact ih1_ _ _ ⟨cpL x8 ((x8.drop ((0 : Int)).toNat).take ((x9).toNat - ((0 : Int)).toNat)) x9 (x8.length : Int), i64w (x9 + (cpN x8 ((x8.drop ((0 : Int)).toNat).take ((x9).toNat - ((0 : Int)).toNat)) x9 (x8.length : Int) : Int)), Hx1_, rfl, hs⟩
       ·
        intro hb
        rw [if_neg (b_dec_f hb)] at H
        show G _ _ _ _ [_, _, _, _, _, _, _, _, _, _, _, _, _, _, _, _, _, _, _, _, _, _, _, _, _, _, _, _, _, _, _, _, _, _, _, _, _, _, _, _, _, _, _, _, _, _, _, _] _
        refine g_ops_nil ?_
        refine g_cond_false rfl ?_
        obtain rfl := Option.some.inj H
        subst Hx1_
        have hs := hs.pull 0 rfl
        have hs : St _ [_] _ := St.take (Γ' := []) hs
        refine g_exit rfl ?_
        exact ha1_ _ _ ⟨x8, Hr1_, rfl, hs⟩

end Go.Proofs.YtgoblgmidejdgaaX
