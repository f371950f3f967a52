/- Contracts, printed by gen.py. -/
import Derived.Test.YtioefkcldfjobaaXT
import Derived.Test.YtioefkcldfjobaaProg
import Derived.Test.YtioefkcldfjobaaXRowR
import Derived.Test.YtioefkcldfjobaaXSeg
import Derived.Test.YtioefkcldfjobaaXKey
import Derived.Test.YtioefkcldfjobaaXIter
import Derived.Test.YtioefkcldfjobaaXRow2
import Derived.Test.YtioefkcldfjobaaXC0
import Derived.Test.YtioefkcldfjobaaXC6
namespace Go.Proofs.YtioefkcldfjobaaX
open Go Go.RowKit Go.Proofs
set_option linter.unusedVariables false
set_option linter.unusedSimpArgs false
/- function 57 slices_Reverse_uint8_uint8 -/
def slices_Reverse_uint8_uint8.post (wb : World) (Z : As) (v2 : Value) (r : (List Int)) (v : Value) (w : World) : Prop := v = Value.tuple #[] ∧ St wb [Row 5 (K.int .u8) v2 r, Z] w
set_option maxHeartbeats 8000000 in
set_option maxRecDepth 100000 in
theorem slices_Reverse_uint8_uint8.calls {N : Nat} {a1 : (List Int)} {v2 : Value} {wb : World} {Z : As} {w0 : World} {r : (List Int)} (hs : St wb [Row 5 (K.int .u8) v2 a1, Z] w0) (H : slices_Reverse_uint8_uint8.f N a1 = some r) :
    Calls Try.prog 57 #[v2] w0 fun e w => ∃ v, e = .returned v ∧ slices_Reverse_uint8_uint8.post wb Z v2 r v w := by
  unfold slices_Reverse_uint8_uint8.f at H
  refine calls_of_g (n := 27) Try.func57 rfl rfl ?_
  show G _ _ _ _ [_,_,_,_,_,_,_,_,_,_,_,_,_,_,_,_,_,_,_,_,_,_,_,_,_,_,_,_] _
  refine g_seq ?_
  refine g_region ?_
  show G _ _ _ (.inRegion _ [0, 1, 2, 3, 4] :: _) _ _
  refine g_op (v := v2) rfl rfl rfl ?_
  refine s_len (hs.row 0 rfl) rfl rfl rfl rfl rfl ?_
  show G _ _ _ _ [_,_,_,_,_,_,_,_,_,_,_,_,_,_,_,_,_,_,_,_,_,_,_,_,_,_,_,_] _
  refine g_op (v := Value.int .i64 (i64w ((a1.length : Int) - 1))) rfl rfl rfl ?_
  show G _ _ _ _ [_,_,_,_,_,_,_,_,_,_,_,_,_,_,_,_,_,_,_,_,_,_,_,_,_,_,_,_] _
  refine g_op (v := Value.int .i64 0) rfl rfl rfl ?_
  show G _ _ _ _ [_,_,_,_,_,_,_,_,_,_,_,_,_,_,_,_,_,_,_,_,_,_,_,_,_,_,_,_] _
  refine g_op (v := Value.int .i64 (i64w ((a1.length : Int) - 1))) rfl rfl rfl ?_
  show G _ _ _ _ [_,_,_,_,_,_,_,_,_,_,_,_,_,_,_,_,_,_,_,_,_,_,_,_,_,_,_,_] _
  refine g_ops_nil ?_
  obtain ⟨o1_, Ho, Hr1_⟩ := bind_get H
  refine g_block_join (J := fun t w => ∃ x9 : (List Int), slices_Reverse_uint8_uint8.a0 N x9 = some r ∧ Fr t (fun O => ([O 0, O 1, O 2, O 3, O 4, O 5, O 6, O 7, O 8, O 9, O 10, O 11, O 12, O 13, O 14, O 15, O 16, O 17, O 18, O 19, O 20, O 21, O 22, O 23, O 24, O 25, O 26, O 27] : List Value)) ∧ St wb [Row 5 (K.int .u8) v2 x9, Z] w) ?_ ?_
  ·
   rintro t w ⟨x9, H, hf, hs⟩
   obtain ⟨O, rfl⟩ := hf.open
   show G _ _ _ _ [_,_,_,_,_,_,_,_,_,_,_,_,_,_,_,_,_,_,_,_,_,_,_,_,_,_,_,_] _
   unfold slices_Reverse_uint8_uint8.a0 at H
   obtain rfl := Option.some.inj H
   refine g_end Try.func57 (v := Value.tuple #[]) (resN (l := Try.f57.results.toList) (vs := []) rfl trivial (by simp)) ?_
   have hs := hs.pull 1 rfl
   have hs := hs.pull 1 rfl
   have hs : St _ [_,_] _ := St.take (Γ' := []) hs
   exact ⟨_, rfl, rfl, hs⟩
  ·
   intro ha1_
   have hs := hs.pull 1 rfl
   have hs := hs.pull 1 rfl
   have hs : St _ [_,_] _ := St.take (Γ' := []) hs
   refine g_loop_fuel (I := fun n_ t w => ∃ x6 : (List Int), ∃ x7 : Int, ∃ x8 : Int, rounds (fun s => slices_Reverse_uint8_uint8.b0 N s.1 s.2.1 s.2.2) n_ (x6, x7, x8) = some o1_ ∧ Fr t (fun O => ([v2, O 1, Value.int .i64 x7, Value.int .i64 x8, O 4, O 5, O 6, O 7, O 8, O 9, O 10, O 11, O 12, O 13, O 14, O 15, O 16, O 17, O 18, O 19, O 20, O 21, O 22, O 23, O 24, O 25, O 26, O 27] : List Value)) ∧ St wb [Row 5 (K.int .u8) v2 x6, Z] w) N ⟨a1, 0, i64w ((a1.length : Int) - 1), Ho, rfl, hs⟩ ?_ ?_
   ·
    rintro _ _ ⟨x6, x7, x8, h, _⟩
    exact rounds_zero h
   ·
    intro n_ ih1_
    rintro t w ⟨x6, x7, x8, Ho, hf, hs⟩
    obtain ⟨O, rfl⟩ := hf.open
    show G _ _ _ _ [_,_,_,_,_,_,_,_,_,_,_,_,_,_,_,_,_,_,_,_,_,_,_,_,_,_,_,_] _
    obtain ⟨x17_, H, Hx1_⟩ := rounds_succ Ho
    have H : slices_Reverse_uint8_uint8.b0 N x6 x7 x8 = some x17_ := H
    unfold slices_Reverse_uint8_uint8.b0 at H
    refine g_seq ?_
    refine g_seq ?_
    refine g_region ?_
    show G _ _ _ (.inRegion _ [0, 1, 2] :: _) _ _
    refine g_op (v := Value.int .i64 x7) rfl rfl rfl ?_
    refine g_op (v := Value.int .i64 x8) rfl rfl rfl ?_
    refine g_op_b (B := decide (x7 < x8)) rfl rfl rfl ?_ ?_
    ·
     intro hb
     rw [if_pos (b_dec_t hb)] at H
     show G _ _ _ _ [_,_,_,_,_,_,_,_,_,_,_,_,_,_,_,_,_,_,_,_,_,_,_,_,_,_,_,_] _
     refine g_ops_nil ?_
     refine g_cond_true rfl ?_
     refine g_skip ?_
     refine g_seq ?_
     refine g_block ?_
     obtain ⟨gd9, H⟩ := ite_get H
     obtain ⟨ad10_, ad10_N, ad10_C, had10_⟩ := sl_at (hs.row 0 rfl) gd9.1 gd9.2
     obtain ⟨gd11, H⟩ := ite_get H
     obtain ⟨ad12_, ad12_N, ad12_C, had12_⟩ := sl_at (hs.row 0 rfl) gd11.1 gd11.2
     obtain ⟨gd13, H⟩ := ite_get H
     obtain ⟨ad14_, ad14_N, ad14_C, had14_⟩ := sl_at (hs.row 0 rfl) gd13.1 gd13.2
     obtain ⟨gd15, H⟩ := ite_get H
     obtain ⟨ad16_, ad16_N, ad16_C, had16_⟩ := sl_at (hs.row 0 rfl) gd15.1 (by simpa only [stL, List.length_set] using gd15.2)
     refine g_name ?_
     intro T hT
     refine g_any (n := 16) rfl [0, 1, 2, 3, 4, 5, 6, 7, 8, 9, 10, 11, 12, 13, 14, 15] [0, 1, 12, 13, 2, 3, 4, 5, 6, 7, 8, 9, 10, 11, 14, 15] rfl rfl (Inv := fun D t w => ∃ O : Nat → Value, t = [v2, O 1, Value.int .i64 x7, Value.int .i64 x8, O 4, O 5, O 6, Value.int .i64 x7, Value.int .i64 x8, Value.bool true, O 10, O 11, O 12, O 13, cnd (D 0) v2 (O 14), cnd (D 1) (Value.int .i64 x7) (O 15), cnd (D 2) v2 (O 16), cnd (D 3) (Value.int .i64 x8) (O 17), cnd (D 4) v2 (O 18), cnd (D 5) (Value.int .i64 x8) (O 19), cnd (D 6) (Value.pointer (some (ad10_.add (x8.toNat * 1)))) (O 20), cnd (D 7) (Value.int .u8 (rdL x6 x8 0)) (O 21), cnd (D 8) v2 (O 22), cnd (D 9) (Value.int .i64 x7) (O 23), cnd (D 10) (Value.pointer (some (ad12_.add (x7.toNat * 1)))) (O 24), cnd (D 11) (Value.int .u8 (rdL x6 x7 0)) (O 25), cnd (D 12) (Value.pointer (some (ad14_.add (x7.toNat * 1)))) (O 26), cnd (D 14) (Value.pointer (some (ad16_.add (x8.toNat * 1)))) (O 27)] ∧ St wb [Row 5 (K.int .u8) (cnd (D 15) v2 (cnd (D 13) v2 v2)) (cnd (D 15) (stL (stL x6 x7 (rdL x6 x8 0)) x8 (rdL x6 x7 0)) (cnd (D 13) (stL x6 x7 (rdL x6 x8 0)) x6)), Z] w) ?_ ⟨⟨⟨⟨⟨⟨⟨⟨⟨⟨⟨⟨⟨⟨⟨⟨trivial, ?_⟩, ?_⟩, ?_⟩, ?_⟩, ?_⟩, ?_⟩, ?_⟩, ?_⟩, ?_⟩, ?_⟩, ?_⟩, ?_⟩, ?_⟩, ?_⟩, ?_⟩, ?_⟩ ?_
     ·
      intro w hh hbw
      have hs := hs.samew hh hbw
      exact ⟨fun i => T.getD i undef, (by subst hT; rfl), hs⟩
     ·
      intro D t w hD hp hcl hI rest hk
      obtain ⟨O, ht, hs⟩ := hI
      have q12_ : D 12 = false := not_yet (hcl.get 12 (by decide)) 0 0 rfl hD
      have q13_ : D 13 = false := not_yet (hcl.get 13 (by decide)) 0 12 rfl q12_
      have q14_ : D 14 = false := not_yet (hcl.get 14 (by decide)) 2 0 rfl hD
      have q15_ : D 15 = false := not_yet (hcl.get 15 (by decide)) 0 14 rfl q14_
      simp only [hD, q12_, q13_, q14_, q15_, cnd_t, cnd_f, Asc_t, Asc_f] at ht hs
      subst ht
      refine g_op (v := v2) rfl rfl rfl ?_
      show G _ _ _ _ [_,_,_,_,_,_,_,_,_,_,_,_,_,_,_,_,_,_,_,_,_,_,_,_,_,_,_,_] _
      exact hk _ _ ⟨O, (by simp only [upd, Nat.reduceBEq, Bool.true_or, Bool.false_or, q12_, q13_, q14_, q15_, cnd_t, cnd_f, Asc_t, Asc_f]), hs.cast (by first | rfl | simp only [List.take, List.drop, List.cons_append, List.nil_append, List.set_cons_zero, List.set_cons_succ, List.eraseIdx, upd, Nat.reduceBEq, Bool.true_or, Bool.false_or, q12_, q13_, q14_, q15_, cnd_t, cnd_f, Asc_t, Asc_f])⟩
     ·
      intro D t w hD hp hcl hI rest hk
      obtain ⟨O, ht, hs⟩ := hI
      have q12_ : D 12 = false := not_yet (hcl.get 12 (by decide)) 1 1 rfl hD
      have q13_ : D 13 = false := not_yet (hcl.get 13 (by decide)) 0 12 rfl q12_
      have q14_ : D 14 = false := not_yet (hcl.get 14 (by decide)) 3 1 rfl hD
      have q15_ : D 15 = false := not_yet (hcl.get 15 (by decide)) 0 14 rfl q14_
      simp only [hD, q12_, q13_, q14_, q15_, cnd_t, cnd_f, Asc_t, Asc_f] at ht hs
      subst ht
      refine g_op (v := Value.int .i64 x7) rfl rfl rfl ?_
      show G _ _ _ _ [_,_,_,_,_,_,_,_,_,_,_,_,_,_,_,_,_,_,_,_,_,_,_,_,_,_,_,_] _
      exact hk _ _ ⟨O, (by simp only [upd, Nat.reduceBEq, Bool.true_or, Bool.false_or, q12_, q13_, q14_, q15_, cnd_t, cnd_f, Asc_t, Asc_f]), hs.cast (by first | rfl | simp only [List.take, List.drop, List.cons_append, List.nil_append, List.set_cons_zero, List.set_cons_succ, List.eraseIdx, upd, Nat.reduceBEq, Bool.true_or, Bool.false_or, q12_, q13_, q14_, q15_, cnd_t, cnd_f, Asc_t, Asc_f])⟩
     ·
      intro D t w hD hp hcl hI rest hk
      obtain ⟨O, ht, hs⟩ := hI
      have q14_ : D 14 = false := not_yet (hcl.get 14 (by decide)) 0 2 rfl hD
      have q15_ : D 15 = false := not_yet (hcl.get 15 (by decide)) 0 14 rfl q14_
      simp only [hD, q14_, q15_, cnd_t, cnd_f, Asc_t, Asc_f] at ht hs
      subst ht
      refine g_op (v := v2) rfl rfl rfl ?_
      show G _ _ _ _ [_,_,_,_,_,_,_,_,_,_,_,_,_,_,_,_,_,_,_,_,_,_,_,_,_,_,_,_] _
      exact hk _ _ ⟨O, (by simp only [upd, Nat.reduceBEq, Bool.true_or, Bool.false_or, q14_, q15_, cnd_t, cnd_f, Asc_t, Asc_f]), hs.cast (by first | rfl | simp only [List.take, List.drop, List.cons_append, List.nil_append, List.set_cons_zero, List.set_cons_succ, List.eraseIdx, upd, Nat.reduceBEq, Bool.true_or, Bool.false_or, q14_, q15_, cnd_t, cnd_f, Asc_t, Asc_f])⟩
     ·
      intro D t w hD hp hcl hI rest hk
      obtain ⟨O, ht, hs⟩ := hI
      have q14_ : D 14 = false := not_yet (hcl.get 14 (by decide)) 1 3 rfl hD
      have q15_ : D 15 = false := not_yet (hcl.get 15 (by decide)) 0 14 rfl q14_
      simp only [hD, q14_, q15_, cnd_t, cnd_f, Asc_t, Asc_f] at ht hs
      subst ht
      refine g_op (v := Value.int .i64 x8) rfl rfl rfl ?_
      show G _ _ _ _ [_,_,_,_,_,_,_,_,_,_,_,_,_,_,_,_,_,_,_,_,_,_,_,_,_,_,_,_] _
      exact hk _ _ ⟨O, (by simp only [upd, Nat.reduceBEq, Bool.true_or, Bool.false_or, q14_, q15_, cnd_t, cnd_f, Asc_t, Asc_f]), hs.cast (by first | rfl | simp only [List.take, List.drop, List.cons_append, List.nil_append, List.set_cons_zero, List.set_cons_succ, List.eraseIdx, upd, Nat.reduceBEq, Bool.true_or, Bool.false_or, q14_, q15_, cnd_t, cnd_f, Asc_t, Asc_f])⟩
     ·
      intro D t w hD hp hcl hI rest hk
      obtain ⟨O, ht, hs⟩ := hI
      have q6_ : D 6 = false := not_yet (hcl.get 6 (by decide)) 0 4 rfl hD
      have q7_ : D 7 = false := not_yet (hcl.get 7 (by decide)) 0 6 rfl q6_
      have q12_ : D 12 = false := not_yet (hcl.get 12 (by decide)) 4 4 rfl hD
      have q13_ : D 13 = false := not_yet (hcl.get 13 (by decide)) 0 12 rfl q12_
      have q14_ : D 14 = false := not_yet (hcl.get 14 (by decide)) 6 4 rfl hD
      have q15_ : D 15 = false := not_yet (hcl.get 15 (by decide)) 0 14 rfl q14_
      simp only [hD, q6_, q7_, q12_, q13_, q14_, q15_, cnd_t, cnd_f, Asc_t, Asc_f] at ht hs
      subst ht
      refine g_op (v := v2) rfl rfl rfl ?_
      show G _ _ _ _ [_,_,_,_,_,_,_,_,_,_,_,_,_,_,_,_,_,_,_,_,_,_,_,_,_,_,_,_] _
      exact hk _ _ ⟨O, (by simp only [upd, Nat.reduceBEq, Bool.true_or, Bool.false_or, q6_, q7_, q12_, q13_, q14_, q15_, cnd_t, cnd_f, Asc_t, Asc_f]), hs.cast (by first | rfl | simp only [List.take, List.drop, List.cons_append, List.nil_append, List.set_cons_zero, List.set_cons_succ, List.eraseIdx, upd, Nat.reduceBEq, Bool.true_or, Bool.false_or, q6_, q7_, q12_, q13_, q14_, q15_, cnd_t, cnd_f, Asc_t, Asc_f])⟩
     ·
      intro D t w hD hp hcl hI rest hk
      obtain ⟨O, ht, hs⟩ := hI
      have q6_ : D 6 = false := not_yet (hcl.get 6 (by decide)) 1 5 rfl hD
      have q7_ : D 7 = false := not_yet (hcl.get 7 (by decide)) 0 6 rfl q6_
      have q12_ : D 12 = false := not_yet (hcl.get 12 (by decide)) 5 5 rfl hD
      have q13_ : D 13 = false := not_yet (hcl.get 13 (by decide)) 0 12 rfl q12_
      have q14_ : D 14 = false := not_yet (hcl.get 14 (by decide)) 7 5 rfl hD
      have q15_ : D 15 = false := not_yet (hcl.get 15 (by decide)) 0 14 rfl q14_
      simp only [hD, q6_, q7_, q12_, q13_, q14_, q15_, cnd_t, cnd_f, Asc_t, Asc_f] at ht hs
      subst ht
      refine g_op (v := Value.int .i64 x8) rfl rfl rfl ?_
      show G _ _ _ _ [_,_,_,_,_,_,_,_,_,_,_,_,_,_,_,_,_,_,_,_,_,_,_,_,_,_,_,_] _
      exact hk _ _ ⟨O, (by simp only [upd, Nat.reduceBEq, Bool.true_or, Bool.false_or, q6_, q7_, q12_, q13_, q14_, q15_, cnd_t, cnd_f, Asc_t, Asc_f]), hs.cast (by first | rfl | simp only [List.take, List.drop, List.cons_append, List.nil_append, List.set_cons_zero, List.set_cons_succ, List.eraseIdx, upd, Nat.reduceBEq, Bool.true_or, Bool.false_or, q6_, q7_, q12_, q13_, q14_, q15_, cnd_t, cnd_f, Asc_t, Asc_f])⟩
     ·
      intro D t w hD hp hcl hI rest hk
      obtain ⟨O, ht, hs⟩ := hI
      obtain ⟨p4_, p5_, _⟩ := hp
      have q7_ : D 7 = false := not_yet (hcl.get 7 (by decide)) 0 6 rfl hD
      have q12_ : D 12 = false := not_yet (hcl.get 12 (by decide)) 6 6 rfl hD
      have q13_ : D 13 = false := not_yet (hcl.get 13 (by decide)) 0 12 rfl q12_
      have q14_ : D 14 = false := not_yet (hcl.get 14 (by decide)) 8 6 rfl hD
      have q15_ : D 15 = false := not_yet (hcl.get 15 (by decide)) 0 14 rfl q14_
      simp only [hD, p4_, p5_, q7_, q12_, q13_, q14_, q15_, cnd_t, cnd_f, Asc_t, Asc_f] at ht hs
      subst ht
      refine s_idxD (κ := (K.int .u8)) (m := 1) rfl (hs.row 0 rfl) rfl (fun _ => rfl) gd9.1 gd9.2 had10_ rfl rfl rfl rfl rfl ?_
      show G _ _ _ _ [_,_,_,_,_,_,_,_,_,_,_,_,_,_,_,_,_,_,_,_,_,_,_,_,_,_,_,_] _
      exact hk _ _ ⟨O, (by simp only [upd, Nat.reduceBEq, Bool.true_or, Bool.false_or, p4_, p5_, q7_, q12_, q13_, q14_, q15_, cnd_t, cnd_f, Asc_t, Asc_f]), hs.cast (by first | rfl | simp only [List.take, List.drop, List.cons_append, List.nil_append, List.set_cons_zero, List.set_cons_succ, List.eraseIdx, upd, Nat.reduceBEq, Bool.true_or, Bool.false_or, p4_, p5_, q7_, q12_, q13_, q14_, q15_, cnd_t, cnd_f, Asc_t, Asc_f])⟩
     ·
      intro D t w hD hp hcl hI rest hk
      obtain ⟨O, ht, hs⟩ := hI
      obtain ⟨p6_, _⟩ := hp
      obtain ⟨p4_, p5_, _⟩ := (hcl.get 6 (by decide)) p6_
      have q12_ : D 12 = false := not_yet (hcl.get 12 (by decide)) 7 7 rfl hD
      have q13_ : D 13 = false := not_yet (hcl.get 13 (by decide)) 0 12 rfl q12_
      have q14_ : D 14 = false := not_yet (hcl.get 14 (by decide)) 9 7 rfl hD
      have q15_ : D 15 = false := not_yet (hcl.get 15 (by decide)) 0 14 rfl q14_
      simp only [hD, p4_, p5_, p6_, q12_, q13_, q14_, q15_, cnd_t, cnd_f, Asc_t, Asc_f] at ht hs
      subst ht
      refine s_load1 rfl rfl (v := Value.int .u8 (rdL x6 x8 0)) rfl rfl (fun _ => rfl) (cellsAt_of (fkI .u8) 0 (hs.row 0 rfl) had10_ gd9.1 gd9.2) ?_
      show G _ _ _ _ [_,_,_,_,_,_,_,_,_,_,_,_,_,_,_,_,_,_,_,_,_,_,_,_,_,_,_,_] _
      exact hk _ _ ⟨O, (by simp only [upd, Nat.reduceBEq, Bool.true_or, Bool.false_or, p4_, p5_, p6_, q12_, q13_, q14_, q15_, cnd_t, cnd_f, Asc_t, Asc_f]), hs.cast (by first | rfl | simp only [List.take, List.drop, List.cons_append, List.nil_append, List.set_cons_zero, List.set_cons_succ, List.eraseIdx, upd, Nat.reduceBEq, Bool.true_or, Bool.false_or, p4_, p5_, p6_, q12_, q13_, q14_, q15_, cnd_t, cnd_f, Asc_t, Asc_f])⟩
     ·
      intro D t w hD hp hcl hI rest hk
      obtain ⟨O, ht, hs⟩ := hI
      have q10_ : D 10 = false := not_yet (hcl.get 10 (by decide)) 0 8 rfl hD
      have q11_ : D 11 = false := not_yet (hcl.get 11 (by decide)) 0 10 rfl q10_
      have q12_ : D 12 = false := not_yet (hcl.get 12 (by decide)) 8 11 rfl q11_
      have q13_ : D 13 = false := not_yet (hcl.get 13 (by decide)) 0 12 rfl q12_
      have q14_ : D 14 = false := not_yet (hcl.get 14 (by decide)) 10 8 rfl hD
      have q15_ : D 15 = false := not_yet (hcl.get 15 (by decide)) 0 14 rfl q14_
      simp only [hD, q10_, q11_, q12_, q13_, q14_, q15_, cnd_t, cnd_f, Asc_t, Asc_f] at ht hs
      subst ht
      refine g_op (v := v2) rfl rfl rfl ?_
      show G _ _ _ _ [_,_,_,_,_,_,_,_,_,_,_,_,_,_,_,_,_,_,_,_,_,_,_,_,_,_,_,_] _
      exact hk _ _ ⟨O, (by simp only [upd, Nat.reduceBEq, Bool.true_or, Bool.false_or, q10_, q11_, q12_, q13_, q14_, q15_, cnd_t, cnd_f, Asc_t, Asc_f]), hs.cast (by first | rfl | simp only [List.take, List.drop, List.cons_append, List.nil_append, List.set_cons_zero, List.set_cons_succ, List.eraseIdx, upd, Nat.reduceBEq, Bool.true_or, Bool.false_or, q10_, q11_, q12_, q13_, q14_, q15_, cnd_t, cnd_f, Asc_t, Asc_f])⟩
     ·
      intro D t w hD hp hcl hI rest hk
      obtain ⟨O, ht, hs⟩ := hI
      have q10_ : D 10 = false := not_yet (hcl.get 10 (by decide)) 1 9 rfl hD
      have q11_ : D 11 = false := not_yet (hcl.get 11 (by decide)) 0 10 rfl q10_
      have q12_ : D 12 = false := not_yet (hcl.get 12 (by decide)) 8 11 rfl q11_
      have q13_ : D 13 = false := not_yet (hcl.get 13 (by decide)) 0 12 rfl q12_
      have q14_ : D 14 = false := not_yet (hcl.get 14 (by decide)) 11 9 rfl hD
      have q15_ : D 15 = false := not_yet (hcl.get 15 (by decide)) 0 14 rfl q14_
      simp only [hD, q10_, q11_, q12_, q13_, q14_, q15_, cnd_t, cnd_f, Asc_t, Asc_f] at ht hs
      subst ht
      refine g_op (v := Value.int .i64 x7) rfl rfl rfl ?_
      show G _ _ _ _ [_,_,_,_,_,_,_,_,_,_,_,_,_,_,_,_,_,_,_,_,_,_,_,_,_,_,_,_] _
      exact hk _ _ ⟨O, (by simp only [upd, Nat.reduceBEq, Bool.true_or, Bool.false_or, q10_, q11_, q12_, q13_, q14_, q15_, cnd_t, cnd_f, Asc_t, Asc_f]), hs.cast (by first | rfl | simp only [List.take, List.drop, List.cons_append, List.nil_append, List.set_cons_zero, List.set_cons_succ, List.eraseIdx, upd, Nat.reduceBEq, Bool.true_or, Bool.false_or, q10_, q11_, q12_, q13_, q14_, q15_, cnd_t, cnd_f, Asc_t, Asc_f])⟩
     ·
      intro D t w hD hp hcl hI rest hk
      obtain ⟨O, ht, hs⟩ := hI
      obtain ⟨p8_, p9_, _⟩ := hp
      have q11_ : D 11 = false := not_yet (hcl.get 11 (by decide)) 0 10 rfl hD
      have q12_ : D 12 = false := not_yet (hcl.get 12 (by decide)) 8 11 rfl q11_
      have q13_ : D 13 = false := not_yet (hcl.get 13 (by decide)) 0 12 rfl q12_
      have q14_ : D 14 = false := not_yet (hcl.get 14 (by decide)) 12 10 rfl hD
      have q15_ : D 15 = false := not_yet (hcl.get 15 (by decide)) 0 14 rfl q14_
      simp only [hD, p8_, p9_, q11_, q12_, q13_, q14_, q15_, cnd_t, cnd_f, Asc_t, Asc_f] at ht hs
      subst ht
      refine s_idxD (κ := (K.int .u8)) (m := 1) rfl (hs.row 0 rfl) rfl (fun _ => rfl) gd11.1 gd11.2 had12_ rfl rfl rfl rfl rfl ?_
      show G _ _ _ _ [_,_,_,_,_,_,_,_,_,_,_,_,_,_,_,_,_,_,_,_,_,_,_,_,_,_,_,_] _
      exact hk _ _ ⟨O, (by simp only [upd, Nat.reduceBEq, Bool.true_or, Bool.false_or, p8_, p9_, q11_, q12_, q13_, q14_, q15_, cnd_t, cnd_f, Asc_t, Asc_f]), hs.cast (by first | rfl | simp only [List.take, List.drop, List.cons_append, List.nil_append, List.set_cons_zero, List.set_cons_succ, List.eraseIdx, upd, Nat.reduceBEq, Bool.true_or, Bool.false_or, p8_, p9_, q11_, q12_, q13_, q14_, q15_, cnd_t, cnd_f, Asc_t, Asc_f])⟩
     ·
      intro D t w hD hp hcl hI rest hk
      obtain ⟨O, ht, hs⟩ := hI
      obtain ⟨p10_, _⟩ := hp
      obtain ⟨p8_, p9_, _⟩ := (hcl.get 10 (by decide)) p10_
      have q12_ : D 12 = false := not_yet (hcl.get 12 (by decide)) 8 11 rfl hD
      have q13_ : D 13 = false := not_yet (hcl.get 13 (by decide)) 0 12 rfl q12_
      have q14_ : D 14 = false := not_yet (hcl.get 14 (by decide)) 13 11 rfl hD
      have q15_ : D 15 = false := not_yet (hcl.get 15 (by decide)) 0 14 rfl q14_
      simp only [hD, p8_, p9_, p10_, q12_, q13_, q14_, q15_, cnd_t, cnd_f, Asc_t, Asc_f] at ht hs
      subst ht
      refine s_load1 rfl rfl (v := Value.int .u8 (rdL x6 x7 0)) rfl rfl (fun _ => rfl) (cellsAt_of (fkI .u8) 0 (hs.row 0 rfl) had12_ gd11.1 gd11.2) ?_
      show G _ _ _ _ [_,_,_,_,_,_,_,_,_,_,_,_,_,_,_,_,_,_,_,_,_,_,_,_,_,_,_,_] _
      exact hk _ _ ⟨O, (by simp only [upd, Nat.reduceBEq, Bool.true_or, Bool.false_or, p8_, p9_, p10_, q12_, q13_, q14_, q15_, cnd_t, cnd_f, Asc_t, Asc_f]), hs.cast (by first | rfl | simp only [List.take, List.drop, List.cons_append, List.nil_append, List.set_cons_zero, List.set_cons_succ, List.eraseIdx, upd, Nat.reduceBEq, Bool.true_or, Bool.false_or, p8_, p9_, p10_, q12_, q13_, q14_, q15_, cnd_t, cnd_f, Asc_t, Asc_f])⟩
     ·
      intro D t w hD hp hcl hI rest hk
      obtain ⟨O, ht, hs⟩ := hI
      obtain ⟨p0_, p1_, _, _, p4_, p5_, p6_, p7_, p11_, _⟩ := hp
      obtain ⟨p10_, _⟩ := (hcl.get 11 (by decide)) p11_
      obtain ⟨p8_, p9_, _⟩ := (hcl.get 10 (by decide)) p10_
      have q13_ : D 13 = false := not_yet (hcl.get 13 (by decide)) 0 12 rfl hD
      have q14_ : D 14 = false := not_yet (hcl.get 14 (by decide)) 14 12 rfl hD
      have q15_ : D 15 = false := not_yet (hcl.get 15 (by decide)) 0 14 rfl q14_
      simp only [hD, p0_, p1_, p4_, p5_, p6_, p7_, p8_, p9_, p10_, p11_, q13_, q14_, q15_, cnd_t, cnd_f, Asc_t, Asc_f] at ht hs
      subst ht
      refine s_idxD (κ := (K.int .u8)) (m := 1) rfl (hs.row 0 rfl) rfl (fun _ => rfl) gd13.1 gd13.2 had14_ rfl rfl rfl rfl rfl ?_
      show G _ _ _ _ [_,_,_,_,_,_,_,_,_,_,_,_,_,_,_,_,_,_,_,_,_,_,_,_,_,_,_,_] _
      exact hk _ _ ⟨O, (by simp only [upd, Nat.reduceBEq, Bool.true_or, Bool.false_or, p0_, p1_, p4_, p5_, p6_, p7_, p8_, p9_, p10_, p11_, q13_, q14_, q15_, cnd_t, cnd_f, Asc_t, Asc_f]), hs.cast (by first | rfl | simp only [List.take, List.drop, List.cons_append, List.nil_append, List.set_cons_zero, List.set_cons_succ, List.eraseIdx, upd, Nat.reduceBEq, Bool.true_or, Bool.false_or, p0_, p1_, p4_, p5_, p6_, p7_, p8_, p9_, p10_, p11_, q13_, q14_, q15_, cnd_t, cnd_f, Asc_t, Asc_f])⟩
     ·
      intro D t w hD hp hcl hI rest hk
      obtain ⟨O, ht, hs⟩ := hI
      obtain ⟨p12_, p7_, p0_, p1_, p4_, p5_, p6_, _, p11_, _⟩ := hp
      obtain ⟨p10_, _⟩ := (hcl.get 11 (by decide)) p11_
      obtain ⟨p8_, p9_, _⟩ := (hcl.get 10 (by decide)) p10_
      have q14_ : D 14 = false := not_yet (hcl.get 14 (by decide)) 15 13 rfl hD
      have q15_ : D 15 = false := not_yet (hcl.get 15 (by decide)) 0 14 rfl q14_
      simp only [hD, p0_, p1_, p4_, p5_, p6_, p7_, p8_, p9_, p10_, p11_, p12_, q14_, q15_, cnd_t, cnd_f, Asc_t, Asc_f] at ht hs
      subst ht
      refine s_stRow (y := rdL x6 x8 0) (fkI .u8) gd13.1 gd13.2 (hown_of had14_) hs rfl rfl rfl rfl rfl (fun _ => rfl) ?_
      intro w hs
      show G _ _ _ _ [_,_,_,_,_,_,_,_,_,_,_,_,_,_,_,_,_,_,_,_,_,_,_,_,_,_,_,_] _
      have hs := hs.push 0 (by simp)
      exact hk _ _ ⟨O, (by simp only [upd, Nat.reduceBEq, Bool.true_or, Bool.false_or, p0_, p1_, p4_, p5_, p6_, p7_, p8_, p9_, p10_, p11_, p12_, q14_, q15_, cnd_t, cnd_f, Asc_t, Asc_f]), hs.cast (by first | rfl | simp only [List.take, List.drop, List.cons_append, List.nil_append, List.set_cons_zero, List.set_cons_succ, List.eraseIdx, upd, Nat.reduceBEq, Bool.true_or, Bool.false_or, p0_, p1_, p4_, p5_, p6_, p7_, p8_, p9_, p10_, p11_, p12_, q14_, q15_, cnd_t, cnd_f, Asc_t, Asc_f])⟩
     ·
      intro D t w hD hp hcl hI rest hk
      obtain ⟨O, ht, hs⟩ := hI
      obtain ⟨p2_, p3_, p0_, p1_, _, _, p4_, p5_, p6_, p7_, p8_, p9_, p10_, p11_, p12_, p13_, _⟩ := hp
      have q15_ : D 15 = false := not_yet (hcl.get 15 (by decide)) 0 14 rfl hD
      simp only [hD, p0_, p1_, p2_, p3_, p4_, p5_, p6_, p7_, p8_, p9_, p10_, p11_, p12_, p13_, q15_, cnd_t, cnd_f, Asc_t, Asc_f] at ht hs
      subst ht
      refine s_idxD (κ := (K.int .u8)) (m := 1) rfl (hs.row 0 rfl) rfl (fun _ => rfl) gd15.1 gd15.2 had16_ rfl rfl rfl rfl rfl ?_
      show G _ _ _ _ [_,_,_,_,_,_,_,_,_,_,_,_,_,_,_,_,_,_,_,_,_,_,_,_,_,_,_,_] _
      exact hk _ _ ⟨O, (by simp only [upd, Nat.reduceBEq, Bool.true_or, Bool.false_or, p0_, p1_, p2_, p3_, p4_, p5_, p6_, p7_, p8_, p9_, p10_, p11_, p12_, p13_, q15_, cnd_t, cnd_f, Asc_t, Asc_f]), hs.cast (by first | rfl | simp only [List.take, List.drop, List.cons_append, List.nil_append, List.set_cons_zero, List.set_cons_succ, List.eraseIdx, upd, Nat.reduceBEq, Bool.true_or, Bool.false_or, p0_, p1_, p2_, p3_, p4_, p5_, p6_, p7_, p8_, p9_, p10_, p11_, p12_, p13_, q15_, cnd_t, cnd_f, Asc_t, Asc_f])⟩
     ·
      intro D t w hD hp hcl hI rest hk
      obtain ⟨O, ht, hs⟩ := hI
      obtain ⟨p14_, p11_, p13_, p0_, p1_, p2_, p3_, p4_, p5_, p6_, p7_, p8_, p9_, p10_, _, p12_, _, _⟩ := hp
      simp only [hD, p0_, p1_, p2_, p3_, p4_, p5_, p6_, p7_, p8_, p9_, p10_, p11_, p12_, p13_, p14_, cnd_t, cnd_f, Asc_t, Asc_f] at ht hs
      subst ht
      refine s_stRow (y := rdL x6 x7 0) (fkI .u8) gd15.1 gd15.2 (hown_of had16_) hs rfl rfl rfl rfl rfl (fun _ => rfl) ?_
      intro w hs
      show G _ _ _ _ [_,_,_,_,_,_,_,_,_,_,_,_,_,_,_,_,_,_,_,_,_,_,_,_,_,_,_,_] _
      have hs := hs.push 0 (by simp)
      exact hk _ _ ⟨O, (by simp only [upd, Nat.reduceBEq, Bool.true_or, Bool.false_or, p0_, p1_, p2_, p3_, p4_, p5_, p6_, p7_, p8_, p9_, p10_, p11_, p12_, p13_, p14_, cnd_t, cnd_f, Asc_t, Asc_f]), hs.cast (by first | rfl | simp only [List.take, List.drop, List.cons_append, List.nil_append, List.set_cons_zero, List.set_cons_succ, List.eraseIdx, upd, Nat.reduceBEq, Bool.true_or, Bool.false_or, p0_, p1_, p2_, p3_, p4_, p5_, p6_, p7_, p8_, p9_, p10_, p11_, p12_, p13_, p14_, cnd_t, cnd_f, Asc_t, Asc_f])⟩
     ·
      intro D t w hall hI
      obtain ⟨O, ht, hs⟩ := hI
      have p0_ : D 0 = true := hall 0 (by decide)
      have p1_ : D 1 = true := hall 1 (by decide)
      have p2_ : D 2 = true := hall 2 (by decide)
      have p3_ : D 3 = true := hall 3 (by decide)
      have p4_ : D 4 = true := hall 4 (by decide)
      have p5_ : D 5 = true := hall 5 (by decide)
      have p6_ : D 6 = true := hall 6 (by decide)
      have p7_ : D 7 = true := hall 7 (by decide)
      have p8_ : D 8 = true := hall 8 (by decide)
      have p9_ : D 9 = true := hall 9 (by decide)
      have p10_ : D 10 = true := hall 10 (by decide)
      have p11_ : D 11 = true := hall 11 (by decide)
      have p12_ : D 12 = true := hall 12 (by decide)
      have p13_ : D 13 = true := hall 13 (by decide)
      have p14_ : D 14 = true := hall 14 (by decide)
      have p15_ : D 15 = true := hall 15 (by decide)
      simp only [p0_, p1_, p2_, p3_, p4_, p5_, p6_, p7_, p8_, p9_, p10_, p11_, p12_, p13_, p14_, p15_, cnd_t, cnd_f, Asc_t, Asc_f] at ht hs
      subst ht
      refine g_inBlock ?_
      refine g_region ?_
      show G _ _ _ (.inRegion _ [0, 1, 2, 3, 4, 5] :: _) _ _
      refine g_op (v := Value.int .i64 x7) rfl rfl rfl ?_
      refine g_op (v := Value.int .i64 (i64w (x7 + 1))) rfl rfl rfl ?_
      show G _ _ _ _ [_,_,_,_,_,_,_,_,_,_,_,_,_,_,_,_,_,_,_,_,_,_,_,_,_,_,_,_] _
      refine g_op (v := Value.int .i64 x8) rfl rfl rfl ?_
      refine g_op (v := Value.int .i64 (i64w (x8 - 1))) rfl rfl rfl ?_
      show G _ _ _ _ [_,_,_,_,_,_,_,_,_,_,_,_,_,_,_,_,_,_,_,_,_,_,_,_,_,_,_,_] _
      refine g_op (v := Value.int .i64 (i64w (x7 + 1))) rfl rfl rfl ?_
      show G _ _ _ _ [_,_,_,_,_,_,_,_,_,_,_,_,_,_,_,_,_,_,_,_,_,_,_,_,_,_,_,_] _
      refine g_op (v := Value.int .i64 (i64w (x8 - 1))) rfl rfl rfl ?_
      show G _ _ _ _ [_,_,_,_,_,_,_,_,_,_,_,_,_,_,_,_,_,_,_,_,_,_,_,_,_,_,_,_] _
      refine g_ops_nil ?_
      obtain rfl := Option.some.inj H
      have hs := hs.pull 1 rfl
      have hs := hs.pull 1 rfl
      have hs : St _ [_,_] _ := St.take (Γ' := []) hs
      exact ih1_ _ _ ⟨stL (stL x6 x7 (rdL x6 x8 0)) x8 (rdL x6 x7 0), i64w (x7 + 1), i64w (x8 - 1), Hx1_, rfl, hs⟩
    ·
     intro hb
     rw [if_neg (b_dec_f hb)] at H
     show G _ _ _ _ [_,_,_,_,_,_,_,_,_,_,_,_,_,_,_,_,_,_,_,_,_,_,_,_,_,_,_,_] _
     refine g_ops_nil ?_
     refine g_cond_false rfl ?_
     obtain rfl := Option.some.inj H
     subst Hx1_
     have hs := hs.pull 1 rfl
     have hs := hs.pull 1 rfl
     have hs : St _ [_,_] _ := St.take (Γ' := []) hs
     refine g_exit rfl ?_
     exact ha1_ _ _ ⟨x6, Hr1_, rfl, hs⟩

/- function 58 impl_PlanFrom_1 -/
def impl_PlanFrom_1.post (wb : World) (Z : As) (b5 : Nat) (b4 : Nat) (b5 : Nat) (v10 : Value) (b9 : Nat) (v10 : Value) (b14 : Nat) (r : ((List (S_impl_moment × Bool)) × (List (S_impl_moment × Bool)) × (List S_impl_step) × (List S_impl_step) × Int)) (v : Value) (w : World) : Prop := ∃ y2 : Value, v = Value.tuple #[] ∧ St wb [MapAs b5 ek_S_impl_moment Value.bool r.1, Cells b4 ([Value.map (some b5)]) 84, Row 82 k_S_impl_step y2 r.2.2.1, Cells b9 [y2] 83, Cells b14 ((encI .i64) r.2.2.2.2) 3, Z] w
set_option maxHeartbeats 8000000 in
set_option maxRecDepth 100000 in
theorem impl_PlanFrom_1.calls {N : Nat} {a1 : Int} {a2 : S_impl_moment} {a3 : (List (S_impl_moment × Bool))} {a8 : (List S_impl_step)} {a13 : Int} {b4 : Nat} {b5 : Nat} {b9 : Nat} {v10 : Value} {b14 : Nat} {wb : World} {Z : As} {w0 : World} {r : ((List (S_impl_moment × Bool)) × (List (S_impl_moment × Bool)) × (List S_impl_step) × (List S_impl_step) × Int)} (hs : St wb [MapAs b5 ek_S_impl_moment Value.bool a3, Cells b4 ([Value.map (some b5)]) 84, Row 82 k_S_impl_step v10 a8, Cells b9 ([v10]) 83, Cells b14 ((encI .i64) a13) 3, Z] w0) (H : impl_PlanFrom_1.f N a1 a2 a3 a8 a13 = some r) :
    Calls Try.prog 58 #[Value.int .u8 a1, Value.agg (enc_S_impl_moment a2).toArray, Value.pointer (some ⟨b4, 0, none⟩), Value.pointer (some ⟨b9, 0, none⟩), Value.pointer (some ⟨b14, 0, none⟩)] w0 fun e w => ∃ v, e = .returned v ∧ impl_PlanFrom_1.post wb Z b5 b4 b5 v10 b9 v10 b14 r v w := by
  unfold impl_PlanFrom_1.f at H
  refine calls_of_g (n := 15) Try.func58 rfl rfl ?_
  show G _ _ _ _ [_,_,_,_,_,_,_,_,_,_,_,_,_,_,_,_,_,_,_,_] _
  refine g_seq ?_
  refine g_region ?_
  show G _ _ _ (.inRegion _ [0] :: _) _ _
  refine s_box hs rfl rfl (cs := (enc_S_impl_moment a2)) rfl rfl ?_
  intro b16 w hs
  show G _ _ _ _ [_,_,_,_,_,_,_,_,_,_,_,_,_,_,_,_,_,_,_,_] _
  refine g_ops_nil ?_
  refine g_seq ?_
  refine g_region ?_
  show G _ _ _ (.inRegion _ [0, 1, 2, 3] :: _) _ _
  refine s_load1 rfl rfl (v := Value.map (some b5)) rfl rfl (fun _ => rfl) (cells_load (hs.cells 2 rfl) 0 1 rfl) ?_
  show G _ _ _ _ [_,_,_,_,_,_,_,_,_,_,_,_,_,_,_,_,_,_,_,_] _
  refine s_loadA rfl rfl (es := (enc_S_impl_moment a2)) rfl rfl (fun _ => rfl) (n := 5) (fun _ => rfl) (fk_S_impl_moment.len _) (cells_all (hs.cells 0 rfl)) ?_
  show G _ _ _ _ [_,_,_,_,_,_,_,_,_,_,_,_,_,_,_,_,_,_,_,_] _
  refine g_op_b (B := mGet a3 a2 false) rfl rfl (x_lookup key_S_impl_moment_73 (a := a2) (z := false) (hs.mp 1 rfl) rfl Try.underlying84 rfl rfl (fun _ => rfl)) ?_ ?_
  ·
   intro hb
   rw [if_pos (b_var_t hb)] at H
   show G _ _ _ _ [_,_,_,_,_,_,_,_,_,_,_,_,_,_,_,_,_,_,_,_] _
   refine g_op (v := Value.bool false) rfl rfl rfl ?_
   show G _ _ _ _ [_,_,_,_,_,_,_,_,_,_,_,_,_,_,_,_,_,_,_,_] _
   refine g_ops_nil ?_
   refine g_cond_false rfl ?_
   refine g_skip ?_
   obtain rfl := Option.some.inj H
   refine g_end Try.func58 (v := Value.tuple #[]) (resN (l := Try.f58.results.toList) (vs := []) rfl trivial (by simp)) ?_
   have hs := hs.pull 6 rfl
   have hs := hs.pull 6 rfl
   have hs := hs.pull 6 rfl
   have hs := hs.pull 6 rfl
   have hs := hs.pull 6 rfl
   have hs := hs.pull 6 rfl
   have hs : St _ [_,_,_,_,_,_] _ := St.take (Γ' := [_]) hs
   exact ⟨_, rfl, v10, rfl, hs⟩
  ·
   intro hb
   rw [if_neg (b_var_f hb)] at H
   show G _ _ _ _ [_,_,_,_,_,_,_,_,_,_,_,_,_,_,_,_,_,_,_,_] _
   refine g_op (v := Value.bool true) rfl rfl rfl ?_
   show G _ _ _ _ [_,_,_,_,_,_,_,_,_,_,_,_,_,_,_,_,_,_,_,_] _
   refine g_ops_nil ?_
   refine g_cond_true rfl ?_
   refine g_seq ?_
   refine g_region ?_
   show G _ _ _ (.inRegion _ [0, 1, 2] :: _) _ _
   refine s_load1 rfl rfl (v := Value.map (some b5)) rfl rfl (fun _ => rfl) (cells_load (hs.cells 2 rfl) 0 1 rfl) ?_
   show G _ _ _ _ [_,_,_,_,_,_,_,_,_,_,_,_,_,_,_,_,_,_,_,_] _
   refine s_loadA rfl rfl (es := (enc_S_impl_moment a2)) rfl rfl (fun _ => rfl) (n := 5) (fun _ => rfl) (fk_S_impl_moment.len _) (cells_all (hs.cells 0 rfl)) ?_
   show G _ _ _ _ [_,_,_,_,_,_,_,_,_,_,_,_,_,_,_,_,_,_,_,_] _
   have hs := hs.pull 1 rfl
   have hs : St _ [_,_,_,_,_,_,_] _ := hs
   refine s_mapSet key_S_impl_moment_73 (a := a2) (v := true) hs rfl rfl (.inl rfl) Try.underlying84 rfl rfl rfl ?_
   intro w hs
   refine g_ops_nil ?_
   refine g_region ?_
   show G _ _ _ (.inRegion _ [0, 1, 2, 3, 4, 5, 6, 7] :: _) _ _
   refine s_load1 rfl rfl (v := v10) rfl rfl (fun _ => rfl) (cells_load (hs.cells 4 rfl) 0 1 rfl) ?_
   show G _ _ _ _ [_,_,_,_,_,_,_,_,_,_,_,_,_,_,_,_,_,_,_,_] _
   refine s_loadA rfl rfl (es := (enc_S_impl_moment a2)) rfl rfl (fun _ => rfl) (n := 5) (fun _ => rfl) (fk_S_impl_moment.len _) (cells_all (hs.cells 1 rfl)) ?_
   show G _ _ _ _ [_,_,_,_,_,_,_,_,_,_,_,_,_,_,_,_,_,_,_,_] _
   refine s_load1 rfl rfl (v := Value.int .i64 a13) rfl rfl (fun _ => rfl) (cells_load (hs.cells 5 rfl) 0 1 rfl) ?_
   show G _ _ _ _ [_,_,_,_,_,_,_,_,_,_,_,_,_,_,_,_,_,_,_,_] _
   refine g_op (v := Value.int .u8 a1) rfl rfl rfl ?_
   show G _ _ _ _ [_,_,_,_,_,_,_,_,_,_,_,_,_,_,_,_,_,_,_,_] _
   refine g_op (v := Value.agg (enc_S_impl_step (⟨a2, a13, a1⟩ : S_impl_step)).toArray) rfl rfl (x_buildS (cs := (enc_S_impl_step (⟨a2, a13, a1⟩ : S_impl_step))) (segs := [[Value.int .i64 0, Value.int .i16 0, Value.int .i16 0, Value.int .i16 0, Value.int .i16 0], [Value.int .i64 0], [Value.int .u8 0]]) rfl rfl (fun _ => rfl) ⟨rfl, (fun _ => rfl), rfl, (fun _ => rfl), rfl, (fun _ => rfl), trivial⟩ (by simp only [List.map_cons, List.map_nil, List.forall_mem_cons, List.not_mem_nil, false_implies, implies_true, and_true]; exact ⟨⟨_, rfl, fk_S_impl_moment.len _⟩, ⟨_, rfl, rfl⟩, ⟨_, rfl, rfl⟩⟩) (by first | rfl | (simp [ev, enc_S_impl_step]; done) | (simp [ev, enc_S_impl_step]; rfl))) ?_
   show G _ _ _ _ [_,_,_,_,_,_,_,_,_,_,_,_,_,_,_,_,_,_,_,_] _
   refine s_lit1 fk_S_impl_step (y := (⟨a2, a13, a1⟩ : S_impl_step)) hs rfl rfl rfl rfl (fun _ => rfl) (zv := (Value.agg #[Value.int .i64 0, Value.int .i16 0, Value.int .i16 0, Value.int .i16 0, Value.int .i16 0, Value.int .i64 0, Value.int .u8 0])) (fun _ => rfl) rfl (by decide) (by decide) rfl ?_
   intro v18 w hs
   show G _ _ _ _ [_,_,_,_,_,_,_,_,_,_,_,_,_,_,_,_,_,_,_,_] _
   have hs := hs.pull 4 rfl
   have hs : St _ [_,_,_,_,_,_,_,_] _ := hs
   obtain ⟨g, H⟩ := ite_get H
   refine s_append fk_S_impl_step (zv := (Value.agg #[Value.int .i64 0, Value.int .i16 0, Value.int .i16 0, Value.int .i16 0, Value.int .i16 0, Value.int .i64 0, Value.int .u8 0])) (B := 32) hs (hs.row 1 rfl) rfl rfl rfl rfl rfl rfl rfl rfl rfl (by decide) rfl rfl (by decide) (by omega) ?_
   intro v20 w hs
   show G _ _ _ _ [_,_,_,_,_,_,_,_,_,_,_,_,_,_,_,_,_,_,_,_] _
   have hs := hs.pull 5 rfl
   have hs : St _ [_,_,_,_,_,_,_,_] _ := hs
   refine s_storeAll (n := 1) hs rfl rfl rfl (vs := [v20]) rfl rfl (slCells (hs.row 1 rfl)) (fun _ => rfl) rfl (by intro v hv; simp only [List.mem_cons, List.not_mem_nil, or_false] at hv; subst hv; exact slOne (hs.row 1 rfl)) ?_
   intro w hs
   refine g_ops_nil ?_
   obtain rfl := Option.some.inj H
   refine g_end Try.func58 (v := Value.tuple #[]) (resN (l := Try.f58.results.toList) (vs := []) rfl trivial (by simp)) ?_
   have hs := hs.pull 7 rfl
   have hs := hs.pull 7 rfl
   have hs := hs.pull 2 rfl
   have hs := hs.pull 3 rfl
   have hs := hs.pull 7 rfl
   have hs := hs.pull 6 rfl
   have hs : St _ [_,_,_,_,_,_] _ := St.take (Γ' := [_,_]) hs
   exact ⟨_, rfl, v20, rfl, hs⟩

/- function 55 _impl_Glasses_events_at_impl_PlanFrom_1 -/
def _impl_Glasses_events_at_impl_PlanFrom_1.post (wb : World) (Z : As) (b7 : Nat) (b6 : Nat) (b7 : Nat) (v12 : Value) (b11 : Nat) (v12 : Value) (b16 : Nat) (r : ((List (S_impl_moment × Bool)) × (List (S_impl_moment × Bool)) × (List S_impl_step) × (List S_impl_step) × Int)) (v : Value) (w : World) : Prop := ∃ y2 : Value, v = Value.tuple #[] ∧ St wb [MapAs b7 ek_S_impl_moment Value.bool r.1, Cells b6 ([Value.map (some b7)]) 84, Row 82 k_S_impl_step y2 r.2.2.1, Cells b11 [y2] 83, Cells b16 ((encI .i64) r.2.2.2.2) 3, Z] w
set_option maxHeartbeats 8000000 in
set_option maxRecDepth 100000 in
theorem _impl_Glasses_events_at_impl_PlanFrom_1.calls {N : Nat} {a1 : (List Int)} {a3 : S_impl_moment} {a4 : Int} {a5 : (List (S_impl_moment × Bool))} {a10 : (List S_impl_step)} {a15 : Int} {v2 : Value} {b6 : Nat} {b7 : Nat} {b11 : Nat} {v12 : Value} {b16 : Nat} {wb : World} {Z : As} {w0 : World} {r : ((List (S_impl_moment × Bool)) × (List (S_impl_moment × Bool)) × (List S_impl_step) × (List S_impl_step) × Int)} (hs : St wb [MapAs b7 ek_S_impl_moment Value.bool a5, Cells b6 ([Value.map (some b7)]) 84, Row 82 k_S_impl_step v12 a10, Cells b11 ([v12]) 83, Cells b16 ((encI .i64) a15) 3, Z] w0) (hr0 : RdRow (K.int .i16) wb v2 a1) (H : _impl_Glasses_events_at_impl_PlanFrom_1.f N a1 a3 a4 a5 a10 a15 = some r) :
    Calls Try.prog 55 #[v2, Value.agg (enc_S_impl_moment a3).toArray, Value.int .i64 a4, Value.func (Fn.func 58) #[] #[Value.pointer (some ⟨b6, 0, none⟩), Value.pointer (some ⟨b11, 0, none⟩), Value.pointer (some ⟨b16, 0, none⟩)]] w0 fun e w => ∃ v, e = .returned v ∧ _impl_Glasses_events_at_impl_PlanFrom_1.post wb Z b7 b6 b7 v12 b11 v12 b16 r v w := by
  unfold _impl_Glasses_events_at_impl_PlanFrom_1.f at H
  refine calls_of_g (n := 44) Try.func55 rfl rfl ?_
  show G _ _ _ _ [_,_,_,_,_,_,_,_,_,_,_,_,_,_,_,_,_,_,_,_,_,_,_,_,_,_,_,_,_,_,_,_,_,_,_,_,_,_,_,_,_,_,_,_,_,_,_,_] _
  refine g_seq ?_
  refine g_region ?_
  show G _ _ _ (.inRegion _ [0] :: _) _ _
  refine s_box hs rfl rfl (cs := (enc_S_impl_moment a3)) rfl rfl ?_
  intro b18 w hs
  refine g_ops_nil ?_
  refine g_seq ?_
  refine g_region ?_
  show G _ _ _ (.inRegion _ [0, 1, 2, 3] :: _) _ _
  refine g_op (v := v2) rfl rfl rfl ?_
  refine s_len (hs.rd hr0) rfl rfl rfl rfl rfl ?_
  obtain ⟨g1, H⟩ := ite_get H
  refine g_op (v := Value.int .i64 (shlI .i64 1 (a1.length : Int))) rfl rfl (x_shl rfl rfl rfl g1) ?_
  show G _ _ _ _ [_,_,_,_,_,_,_,_,_,_,_,_,_,_,_,_,_,_,_,_,_,_,_,_,_,_,_,_,_,_,_,_,_,_,_,_,_,_,_,_,_,_,_,_,_,_,_,_] _
  refine g_op (v := Value.int .i64 0) rfl rfl rfl ?_
  refine g_ops_nil ?_
  obtain ⟨o1_, Ho, Hr1_⟩ := bind_get H
  refine g_block_join (J := fun t w => ∃ x48 : (List (S_impl_moment × Bool)), ∃ v49 : Value, ∃ x50 : (List S_impl_step), ∃ x52 : Int, _impl_Glasses_events_at_impl_PlanFrom_1.a0 N x48 x50 x52 = some r ∧ Fr t (fun O => ([O 0, O 1, O 2, O 3, O 4, O 5, O 6, O 7, O 8, O 9, O 10, O 11, O 12, O 13, O 14, O 15, O 16, O 17, O 18, O 19, O 20, O 21, O 22, O 23, O 24, O 25, O 26, O 27, O 28, O 29, O 30, O 31, O 32, O 33, O 34, O 35, O 36, O 37, O 38, O 39, O 40, O 41, O 42, O 43, O 44, O 45, O 46, O 47] : List Value)) ∧ St wb [MapAs b7 ek_S_impl_moment Value.bool x48, Cells b6 ([Value.map (some b7)]) 84, Cells b11 ([v49]) 83, Row 82 k_S_impl_step v49 x50, Cells b16 ((encI .i64) x52) 3, Z] w) ?_ ?_
  ·
   rintro t w ⟨x48, v49, x50, x52, H, hf, hs⟩
   obtain ⟨O, rfl⟩ := hf.open
   show G _ _ _ _ [_,_,_,_,_,_,_,_,_,_,_,_,_,_,_,_,_,_,_,_,_,_,_,_,_,_,_,_,_,_,_,_,_,_,_,_,_,_,_,_,_,_,_,_,_,_,_,_] _
   unfold _impl_Glasses_events_at_impl_PlanFrom_1.a0 at H
   obtain rfl := Option.some.inj H
   refine g_end Try.func55 (v := Value.tuple #[]) (resN (l := Try.f55.results.toList) (vs := []) rfl trivial (by simp)) ?_
   have hs := hs.pull 5 rfl
   have hs := hs.pull 5 rfl
   have hs := hs.pull 4 rfl
   have hs := hs.pull 5 rfl
   have hs := hs.pull 5 rfl
   have hs := hs.pull 5 rfl
   have hs : St _ [_,_,_,_,_,_] _ := St.take (Γ' := []) hs
   exact ⟨_, rfl, v49, rfl, hs⟩
  ·
   intro ha1_
   have hs := hs.pull 6 rfl
   have hs := hs.pull 1 rfl
   have hs := hs.pull 6 rfl
   have hs := hs.pull 6 rfl
   have hs := hs.pull 6 rfl
   have hs := hs.pull 6 rfl
   have hs := hs.pull 6 rfl
   have hs : St _ [_,_,_,_,_,_,_] _ := St.take (Γ' := []) hs
   refine g_loop_fuel (I := fun n_ t w => ∃ x32 : (List (S_impl_moment × Bool)), ∃ v33 : Value, ∃ x34 : (List S_impl_step), ∃ x35 : Int, ∃ x36 : Int, rounds (fun s => _impl_Glasses_events_at_impl_PlanFrom_1.b0 N a1 a3 a4 s.1 s.2.1 s.2.2.1 s.2.2.2) n_ (x32, x34, x35, x36) = some o1_ ∧ Fr t (fun O => ([v2, O 1, Value.int .i64 a4, Value.func (Fn.func 58) #[] #[Value.pointer (some ⟨b6, 0, none⟩), Value.pointer (some ⟨b11, 0, none⟩), Value.pointer (some ⟨b16, 0, none⟩)], O 4, Value.pointer (some ⟨b18, 0, none⟩), O 6, O 7, O 8, O 9, O 10, O 11, O 12, Value.int .i64 (shlI .i64 1 (a1.length : Int)), Value.int .i64 x36, O 15, O 16, O 17, O 18, O 19, O 20, O 21, O 22, O 23, O 24, O 25, O 26, O 27, O 28, O 29, O 30, O 31, O 32, O 33, O 34, O 35, O 36, O 37, O 38, O 39, O 40, O 41, O 42, O 43, O 44, O 45, O 46, O 47] : List Value)) ∧ St wb [MapAs b7 ek_S_impl_moment Value.bool x32, Cells b6 ([Value.map (some b7)]) 84, Row 82 k_S_impl_step v33 x34, Cells b11 ([v33]) 83, Cells b16 ((encI .i64) x35) 3, Cells b18 (enc_S_impl_moment a3) 73, Z] w) N ⟨a5, v12, a10, a15, 0, Ho, rfl, hs⟩ ?_ ?_
   ·
    rintro _ _ ⟨x32, v33, x34, x35, x36, h, _⟩
    exact rounds_zero h
   ·
    intro n_ ih1_
    rintro t w ⟨x32, v33, x34, x35, x36, Ho, hf, hs⟩
    obtain ⟨O, rfl⟩ := hf.open
    show G _ _ _ _ [_,_,_,_,_,_,_,_,_,_,_,_,_,_,_,_,_,_,_,_,_,_,_,_,_,_,_,_,_,_,_,_,_,_,_,_,_,_,_,_,_,_,_,_,_,_,_,_] _
    obtain ⟨x2_, H, Hx1_⟩ := rounds_succ Ho
    have H : _impl_Glasses_events_at_impl_PlanFrom_1.b0 N a1 a3 a4 x32 x34 x35 x36 = some x2_ := H
    unfold _impl_Glasses_events_at_impl_PlanFrom_1.b0 at H
    refine g_seq ?_
    refine g_region ?_
    show G _ _ _ (.inRegion _ [0] :: _) _ _
    refine g_op_b (B := decide (x36 < (shlI .i64 1 (a1.length : Int)))) rfl rfl rfl ?_ ?_
    ·
     intro hb
     rw [if_pos (b_dec_t hb)] at H
     refine g_ops_nil ?_
     refine g_seq ?_
     refine g_cond_true rfl ?_
     refine g_skip ?_
     refine g_seq ?_
     refine g_block_join (J := (fun t w => ∃ x43 : (List (S_impl_moment × Bool)), ∃ v44 : Value, ∃ x45 : (List S_impl_step), ∃ x47 : Int, _impl_Glasses_events_at_impl_PlanFrom_1.j2 N x36 x43 x45 x47 = some x2_ ∧ Fr t (fun O => ([v2, O 1, Value.int .i64 a4, Value.func (Fn.func 58) #[] #[Value.pointer (some ⟨b6, 0, none⟩), Value.pointer (some ⟨b11, 0, none⟩), Value.pointer (some ⟨b16, 0, none⟩)], O 4, Value.pointer (some ⟨b18, 0, none⟩), O 6, O 7, O 8, O 9, O 10, O 11, O 12, Value.int .i64 (shlI .i64 1 (a1.length : Int)), Value.int .i64 x36, O 15, O 16, O 17, O 18, O 19, O 20, O 21, O 22, O 23, O 24, O 25, O 26, O 27, O 28, O 29, O 30, O 31, O 32, O 33, O 34, O 35, O 36, O 37, O 38, O 39, O 40, O 41, O 42, O 43, O 44, O 45, O 46, O 47] : List Value)) ∧ St wb [Cells b6 ([Value.map (some b7)]) 84, MapAs b7 ek_S_impl_moment Value.bool x43, Cells b11 ([v44]) 83, Row 82 k_S_impl_step v44 x45, Cells b16 ((encI .i64) x47) 3, Cells b18 (enc_S_impl_moment a3) 73, Z] w)) ?_ ?_
     ·
      rintro t w ⟨x43, v44, x45, x47, H, hf, hs⟩
      obtain ⟨O, rfl⟩ := hf.open
      show G _ _ _ _ [_,_,_,_,_,_,_,_,_,_,_,_,_,_,_,_,_,_,_,_,_,_,_,_,_,_,_,_,_,_,_,_,_,_,_,_,_,_,_,_,_,_,_,_,_,_,_,_] _
      unfold _impl_Glasses_events_at_impl_PlanFrom_1.j2 at H
      refine g_region ?_
      show G _ _ _ (.inRegion _ [0, 1] :: _) _ _
      refine g_op (v := Value.int .i64 (i64w (x36 + 1))) rfl rfl rfl ?_
      refine g_op (v := Value.int .i64 (i64w (x36 + 1))) rfl rfl rfl ?_
      refine g_ops_nil ?_
      obtain rfl := Option.some.inj H
      have hs := hs.pull 6 rfl
      have hs := hs.pull 6 rfl
      have hs := hs.pull 6 rfl
      have hs := hs.pull 5 rfl
      have hs := hs.pull 6 rfl
      have hs := hs.pull 5 rfl
      have hs := hs.pull 6 rfl
      have hs : St _ [_,_,_,_,_,_,_] _ := St.take (Γ' := []) hs
      exact ih1_ _ _ ⟨x43, v44, x45, x47, i64w (x36 + 1), Hx1_, rfl, hs⟩
     ·
      intro ha
      refine g_seq ?_
      refine g_region ?_
      show G _ _ _ (.inRegion _ [0, 1] :: _) _ _
      refine g_op (v := Value.int .i64 x36) rfl rfl rfl ?_
      refine g_op (v := Value.int .i64 x36) rfl rfl rfl ?_
      show G _ _ _ _ [_,_,_,_,_,_,_,_,_,_,_,_,_,_,_,_,_,_,_,_,_,_,_,_,_,_,_,_,_,_,_,_,_,_,_,_,_,_,_,_,_,_,_,_,_,_,_,_] _
      refine g_ops_nil ?_
      refine g_seq ?_
      refine g_region ?_
      show G _ _ _ (.inRegion _ [0, 1, 2, 3, 4, 5, 6, 7, 8, 9, 10, 11, 12] :: _) _ _
      refine g_op (v := v2) rfl rfl rfl ?_
      refine g_op (v := Value.pointer (some ⟨b18, 1, none⟩)) rfl rfl rfl ?_
      refine s_loadA rfl rfl (es := ((encA (encI .i16)) a3.f_tops)) rfl rfl (fun _ => rfl) (n := 4) (fun _ => rfl) ((fkA (n := 4) (he := (fkI .i16).len) (h1 := (fkI .i16).one)).len _) (cells_load (hs.cells 5 rfl) 1 4 (by simp only [enc_S_impl_moment]; first | rfl | exact List.take_of_length_le (Nat.le_of_eq ((fkA (n := 4) (he := (fkI .i16).len) (h1 := (fkI .i16).one)).len _)) | simp [List.drop_append, List.take_append, encAI_len, encAB_len, encA_len, List.take_of_length_le])) ?_
      refine g_op (v := Value.int .i64 x36) rfl rfl rfl ?_
      refine g_op (v := Value.int .u8 (u8w x36)) rfl rfl rfl ?_
      obtain ⟨r37, Hr37, H⟩ := bind_get H
      refine s_call (args := [v2, Value.agg ((encA (encI .i16)) a3.f_tops).toArray, Value.int .u8 (u8w x36)]) rfl rfl (x_call rfl (callFunc_enter Try.func68 rfl rfl) rfl) (_impl_Glasses_turned.calls (a1 := a1) (a3 := a3.f_tops) (a4 := u8w x36) (hs.rd hr0) Hr37) ?_
      rintro _ w ⟨rfl, hs2⟩
      have hs : St _ [_,_,_,_,_,_,_] _ := hs.call hs2
      obtain ⟨r38, Hr38, H⟩ := bind_get H
      refine s_call (args := [Value.agg ((encA (encI .i16)) r37).toArray]) rfl rfl (x_call rfl (callFunc_enter Try.func67 rfl rfl) rfl) (impl_wait.calls (a1 := r37) Hr38) ?_
      rintro _ w ⟨rfl, hs2⟩
      have hs : St _ [_,_,_,_,_,_,_] _ := hs.call hs2
      show G _ _ _ _ [_,_,_,_,_,_,_,_,_,_,_,_,_,_,_,_,_,_,_,_,_,_,_,_,_,_,_,_,_,_,_,_,_,_,_,_,_,_,_,_,_,_,_,_,_,_,_,_] _
      refine g_op (v := Value.tuple #[Value.agg ((encA (encI .i16)) r38.1).toArray, Value.int .i64 r38.2]) rfl rfl rfl ?_
      refine g_op (v := Value.agg ((encA (encI .i16)) r38.1).toArray) rfl rfl rfl ?_
      refine g_op (v := Value.int .i64 r38.2) rfl rfl rfl ?_
      refine s_alloc hs rfl rfl (z := (Value.agg #[Value.int .i16 0, Value.int .i16 0, Value.int .i16 0, Value.int .i16 0])) (cs := ((encA (encI .i16)) (Ar.rep 4 0))) rfl (fun _ => rfl) rfl ?_
      intro b39 w hs
      refine s_storeAll (n := 4) hs ((fkA (n := 4) (he := (fkI .i16).len) (h1 := (fkI .i16).one)).len _) rfl rfl (vs := ((encA (encI .i16)) r38.1)) rfl rfl rfl (fun _ => rfl) ((fkA (n := 4) (he := (fkI .i16).len) (h1 := (fkI .i16).one)).len _) ((fkA (n := 4) (he := (fkI .i16).len) (h1 := (fkI .i16).one)).one _) ?_
      intro w hs
      refine g_op (v := Value.int .i64 r38.2) rfl rfl rfl ?_
      refine g_ops_nil ?_
      refine g_seq ?_
      refine g_region ?_
      show G _ _ _ (.inRegion _ [0, 1, 2, 3, 4, 5, 6, 7, 8, 9] :: _) _ _
      refine g_op (v := Value.int .i64 r38.2) rfl rfl rfl ?_
      refine g_op_b (B := decide (r38.2 > 0)) rfl rfl rfl ?_ ?_
      ·
       intro hb
       rw [if_pos (b_dec_t hb)] at H
       refine g_op (v := Value.bool true) rfl rfl rfl ?_
       refine g_op (v := Value.pointer (some ⟨b18, 0, none⟩)) rfl rfl rfl ?_
       refine s_load1 rfl rfl (v := Value.int .i64 a3.f_time) rfl rfl (fun _ => rfl) (cells_load (hs.cells 6 rfl) 0 1 (by first | rfl | (simp only [enc_S_impl_moment]; simp [List.drop_append, List.take_append, encAI_len, encAB_len, List.take_of_length_le]))) ?_
       show G _ _ _ _ [_,_,_,_,_,_,_,_,_,_,_,_,_,_,_,_,_,_,_,_,_,_,_,_,_,_,_,_,_,_,_,_,_,_,_,_,_,_,_,_,_,_,_,_,_,_,_,_] _
       refine g_op (v := Value.int .i64 r38.2) rfl rfl rfl ?_
       refine g_op (v := Value.int .i64 (i64w (a3.f_time + r38.2))) rfl rfl rfl ?_
       refine g_op (v := Value.int .i64 a4) rfl rfl rfl ?_
       refine g_op_b (B := decide ((i64w (a3.f_time + r38.2)) ≤ a4)) rfl rfl rfl ?_ ?_
       ·
        intro hb
        rw [if_pos (b_dec_t hb)] at H
        refine g_op (v := Value.bool true) rfl rfl rfl ?_
        refine g_ops_nil ?_
        refine g_cond_true rfl ?_
        refine g_region ?_
        show G _ _ _ (.inRegion _ [0, 1, 2, 3, 4, 5, 6, 7, 8, 9] :: _) _ _
        refine g_op (v := Value.func (Fn.func 58) #[] #[Value.pointer (some ⟨b6, 0, none⟩), Value.pointer (some ⟨b11, 0, none⟩), Value.pointer (some ⟨b16, 0, none⟩)]) rfl rfl rfl ?_
        refine g_op (v := Value.int .i64 x36) rfl rfl rfl ?_
        refine g_op (v := Value.int .u8 (u8w x36)) rfl rfl rfl ?_
        refine g_op (v := Value.pointer (some ⟨b18, 0, none⟩)) rfl rfl rfl ?_
        refine s_load1 rfl rfl (v := Value.int .i64 a3.f_time) rfl rfl (fun _ => rfl) (cells_load (hs.cells 6 rfl) 0 1 (by first | rfl | (simp only [enc_S_impl_moment]; simp [List.drop_append, List.take_append, encAI_len, encAB_len, List.take_of_length_le]))) ?_
        show G _ _ _ _ [_,_,_,_,_,_,_,_,_,_,_,_,_,_,_,_,_,_,_,_,_,_,_,_,_,_,_,_,_,_,_,_,_,_,_,_,_,_,_,_,_,_,_,_,_,_,_,_] _
        refine g_op (v := Value.int .i64 r38.2) rfl rfl rfl ?_
        refine g_op (v := Value.int .i64 (i64w (a3.f_time + r38.2))) rfl rfl rfl ?_
        refine s_loadA rfl rfl (es := ((encA (encI .i16)) r38.1)) rfl rfl (fun _ => rfl) (n := 4) (fun _ => rfl) ((fkA (n := 4) (he := (fkI .i16).len) (h1 := (fkI .i16).one)).len _) (cells_all (hs.cells 0 rfl)) ?_
        refine g_op (v := Value.agg (enc_S_impl_moment (⟨i64w (a3.f_time + r38.2), r38.1⟩ : S_impl_moment)).toArray) rfl rfl (x_buildS (cs := (enc_S_impl_moment (⟨i64w (a3.f_time + r38.2), r38.1⟩ : S_impl_moment))) (segs := [[Value.int .i64 0], [Value.int .i16 0, Value.int .i16 0, Value.int .i16 0, Value.int .i16 0]]) rfl rfl (fun _ => rfl) ⟨rfl, (fun _ => rfl), rfl, (fun _ => rfl), trivial⟩ (by simp only [List.map_cons, List.map_nil, List.forall_mem_cons, List.not_mem_nil, false_implies, implies_true, and_true]; exact ⟨⟨_, rfl, rfl⟩, ⟨_, rfl, (fkA (n := 4) (he := (fkI .i16).len) (h1 := (fkI .i16).one)).len _⟩⟩) (by first | rfl | (simp [ev, enc_S_impl_moment]; done) | (simp [ev, enc_S_impl_moment]; rfl))) ?_
        show G _ _ _ _ [_,_,_,_,_,_,_,_,_,_,_,_,_,_,_,_,_,_,_,_,_,_,_,_,_,_,_,_,_,_,_,_,_,_,_,_,_,_,_,_,_,_,_,_,_,_,_,_] _
        obtain ⟨r41, Hr41, H⟩ := bind_get H
        have hs := hs.pull 5 rfl
        have hs := hs.pull 5 rfl
        have hs := hs.pull 5 rfl
        have hs := hs.pull 5 rfl
        have hs := hs.pull 5 rfl
        have hs : St _ [_,_,_,_,_,_,_,_] _ := hs
        have hs := hs.pack 5
        refine s_call (args := [Value.int .u8 (u8w x36), Value.agg (enc_S_impl_moment (⟨i64w (a3.f_time + r38.2), r38.1⟩ : S_impl_moment)).toArray, Value.pointer (some ⟨b6, 0, none⟩), Value.pointer (some ⟨b11, 0, none⟩), Value.pointer (some ⟨b16, 0, none⟩)]) rfl rfl (x_callC rfl (callFunc_enter Try.func58 rfl rfl) rfl rfl) (impl_PlanFrom_1.calls (a1 := u8w x36) (a2 := (⟨i64w (a3.f_time + r38.2), r38.1⟩ : S_impl_moment)) (a3 := x32) (a8 := x34) (a13 := x35) hs Hr41) ?_
        rintro _ w ⟨v42, rfl, hs⟩
        have hs := St.unpack (Γ := [_,_,_,_,_]) hs
        have hs : St _ [_,_,_,_,_,_,_,_] _ := hs
        refine g_ops_nil ?_
        refine g_inBlock ?_
        have hs := hs.pull 7 rfl
        have hs := hs.pull 7 rfl
        have hs := hs.pull 6 rfl
        have hs := hs.pull 5 rfl
        have hs := hs.pull 6 rfl
        have hs := hs.pull 5 rfl
        have hs := hs.pull 6 rfl
        have hs : St _ [_,_,_,_,_,_,_] _ := St.take (Γ' := [_]) hs
        exact ha _ _ ⟨r41.1, v42, r41.2.2.1, r41.2.2.2.2, H, rfl, hs⟩
       ·
        intro hb
        rw [if_neg (b_dec_f hb)] at H
        refine g_op (v := Value.bool false) rfl rfl rfl ?_
        show G _ _ _ _ [_,_,_,_,_,_,_,_,_,_,_,_,_,_,_,_,_,_,_,_,_,_,_,_,_,_,_,_,_,_,_,_,_,_,_,_,_,_,_,_,_,_,_,_,_,_,_,_] _
        refine g_ops_nil ?_
        refine g_cond_false rfl ?_
        refine g_skip ?_
        refine g_inBlock ?_
        have hs := hs.pull 7 rfl
        have hs := hs.pull 7 rfl
        have hs := hs.pull 7 rfl
        have hs := hs.pull 6 rfl
        have hs := hs.pull 7 rfl
        have hs := hs.pull 6 rfl
        have hs := hs.pull 7 rfl
        have hs : St _ [_,_,_,_,_,_,_] _ := St.take (Γ' := [_]) hs
        exact ha _ _ ⟨x32, v33, x34, x35, H, rfl, hs⟩
      ·
       intro hb
       rw [if_neg (b_dec_f hb)] at H
       show G _ _ _ _ [_,_,_,_,_,_,_,_,_,_,_,_,_,_,_,_,_,_,_,_,_,_,_,_,_,_,_,_,_,_,_,_,_,_,_,_,_,_,_,_,_,_,_,_,_,_,_,_] _
       refine g_op (v := Value.bool false) rfl rfl rfl ?_
       refine g_op_not rfl rfl ?_
       refine g_op_not rfl rfl ?_
       refine g_op_not rfl rfl ?_
       refine g_op_not rfl rfl ?_
       refine g_op_not rfl rfl ?_
       refine g_op_not rfl rfl ?_
       show G _ _ _ _ [_,_,_,_,_,_,_,_,_,_,_,_,_,_,_,_,_,_,_,_,_,_,_,_,_,_,_,_,_,_,_,_,_,_,_,_,_,_,_,_,_,_,_,_,_,_,_,_] _
       refine g_op (v := Value.bool false) rfl rfl rfl ?_
       refine g_ops_nil ?_
       refine g_cond_false rfl ?_
       refine g_skip ?_
       refine g_inBlock ?_
       have hs := hs.pull 7 rfl
       have hs := hs.pull 7 rfl
       have hs := hs.pull 7 rfl
       have hs := hs.pull 6 rfl
       have hs := hs.pull 7 rfl
       have hs := hs.pull 6 rfl
       have hs := hs.pull 7 rfl
       have hs : St _ [_,_,_,_,_,_,_] _ := St.take (Γ' := [_]) hs
       exact ha _ _ ⟨x32, v33, x34, x35, H, rfl, hs⟩
    ·
     intro hb
     rw [if_neg (b_dec_f hb)] at H
     refine g_ops_nil ?_
     refine g_seq ?_
     refine g_cond_false rfl ?_
     obtain rfl := Option.some.inj H
     subst Hx1_
     have hs := hs.pull 6 rfl
     have hs := hs.pull 5 rfl
     have hs := hs.pull 4 rfl
     have hs := hs.pull 5 rfl
     have hs := hs.pull 5 rfl
     have hs := hs.pull 5 rfl
     have hs : St _ [_,_,_,_,_,_] _ := St.take (Γ' := [_]) hs
     refine g_exit rfl ?_
     exact ha1_ _ _ ⟨x32, v33, x34, x35, Hr1_, rfl, hs⟩

end Go.Proofs.YtioefkcldfjobaaX
