/- Contracts, printed by gen.py. -/
import Derived.Test.YtcaokmnajnfpiaaXT
import Derived.Test.YtcaokmnajnfpiaaProg
import Derived.Test.YtcaokmnajnfpiaaXRowR
import Derived.Test.YtcaokmnajnfpiaaXSq
import Derived.Test.YtcaokmnajnfpiaaXSeg
import Derived.Test.YtcaokmnajnfpiaaXKey
import Derived.Test.YtcaokmnajnfpiaaXC3
import Derived.Test.YtcaokmnajnfpiaaXC4
namespace Go.Proofs.YtcaokmnajnfpiaaX
open Go Go.RowKit Go.Proofs
set_option linter.unusedVariables false
set_option linter.unusedSimpArgs false
/- function 38 slices_Reverse_uint16_uint16 -/
def slices_Reverse_uint16_uint16.post (wb : World) (Z : As) (v2 : Value) (r : (List Int)) (v : Value) (w : World) : Prop := v = Value.tuple #[] ∧ St wb [Row 31 (K.int .u16) v2 r, Z] w
set_option maxHeartbeats 8000000 in
set_option maxRecDepth 100000 in
theorem slices_Reverse_uint16_uint16.calls {N : Nat} {a1 : (List Int)} {v2 : Value} {wb : World} {Z : As} {w0 : World} {r : (List Int)} (hs : St wb [Row 31 (K.int .u16) v2 a1, Z] w0) (H : slices_Reverse_uint16_uint16.f N a1 = some r) :
    Calls Try.prog 38 #[v2] w0 fun e w => ∃ v, e = .returned v ∧ slices_Reverse_uint16_uint16.post wb Z v2 r v w := by
  unfold slices_Reverse_uint16_uint16.f at H
  refine calls_of_g (n := 27) Try.func38 rfl rfl ?_
  show G _ _ _ _ [_,_,_,_,_,_,_,_,_,_,_,_,_,_,_,_,_,_,_,_,_,_,_,_,_,_,_,_] _
  refine g_seq (g_region ?_)
  show G _ _ _ (.inRegion _ [0, 1, 2, 3, 4] :: _) _ _
  refine g_op (v := v2) rfl rfl rfl ?_
  refine s_len (hs.row 0 rfl) rfl rfl rfl rfl rfl ?_
  show G _ _ _ _ [_,_,_,_,_,_,_,_,_,_,_,_,_,_,_,_,_,_,_,_,_,_,_,_,_,_,_,_] _
  refine g_op (v := Value.int .i64 (i64w ((a1.length : Int) - 1))) rfl rfl rfl ?_
  show G _ _ _ _ [_,_,_,_,_,_,_,_,_,_,_,_,_,_,_,_,_,_,_,_,_,_,_,_,_,_,_,_] _
  refine g_op (v := Value.int .i64 0) rfl rfl rfl ?_
  show G _ _ _ _ [_,_,_,_,_,_,_,_,_,_,_,_,_,_,_,_,_,_,_,_,_,_,_,_,_,_,_,_] _
  refine g_op (v := Value.int .i64 (i64w ((a1.length : Int) - 1))) rfl rfl rfl ?_
  show G _ _ _ _ [_,_,_,_,_,_,_,_,_,_,_,_,_,_,_,_,_,_,_,_,_,_,_,_,_,_,_,_] _
  refine g_ops_nil ?_
  obtain ⟨o1_, Ho, Hr1_⟩ := bind_get H
  refine g_block_join (J := fun t w => ∃ x9 : (List Int), slices_Reverse_uint16_uint16.a0 N x9 = some r ∧ Fr t (fun O => ([O 0, O 1, O 2, O 3, O 4, O 5, O 6, O 7, O 8, O 9, O 10, O 11, O 12, O 13, O 14, O 15, O 16, O 17, O 18, O 19, O 20, O 21, O 22, O 23, O 24, O 25, O 26, O 27] : List Value)) ∧ St wb [Row 31 (K.int .u16) v2 x9, Z] w) ?_ ?_
  ·
   rintro t w ⟨x9, H, hf, hs⟩
   obtain ⟨O, rfl⟩ := hf.open
   show G _ _ _ _ [_,_,_,_,_,_,_,_,_,_,_,_,_,_,_,_,_,_,_,_,_,_,_,_,_,_,_,_] _
   unfold slices_Reverse_uint16_uint16.a0 at H
   obtain rfl := Option.some.inj H
   refine g_end Try.func38 (v := Value.tuple #[]) (resN (l := Try.f38.results.toList) (vs := []) rfl trivial (by simp)) ?_
   have hs := hs.pull 1 rfl
   have hs := hs.pull 1 rfl
   have hs : St _ [_,_] _ := St.take (Γ' := []) hs
   exact ⟨_, rfl, rfl, hs⟩
  intro ha1_
  have hs := hs.pull 1 rfl
  have hs := hs.pull 1 rfl
  have hs : St _ [_,_] _ := St.take (Γ' := []) hs
  refine g_loop_fuel (I := fun n_ t w => ∃ x6 : (List Int), ∃ x7 : Int, ∃ x8 : Int, rounds (fun s => slices_Reverse_uint16_uint16.b0 N s.1 s.2.1 s.2.2) n_ (x6, x7, x8) = some o1_ ∧ Fr t (fun O => ([v2, O 1, Value.int .i64 x7, Value.int .i64 x8, O 4, O 5, O 6, O 7, O 8, O 9, O 10, O 11, O 12, O 13, O 14, O 15, O 16, O 17, O 18, O 19, O 20, O 21, O 22, O 23, O 24, O 25, O 26, O 27] : List Value)) ∧ St wb [Row 31 (K.int .u16) v2 x6, Z] w) N ⟨a1, 0, i64w ((a1.length : Int) - 1), Ho, rfl, hs⟩ ?_ ?_
  ·
   rintro _ _ ⟨x6, x7, x8, h, _⟩
   exact rounds_zero h
  intro n_ ih1_
  rintro t w ⟨x6, x7, x8, Ho, hf, hs⟩
  obtain ⟨O, rfl⟩ := hf.open
  show G _ _ _ _ [_,_,_,_,_,_,_,_,_,_,_,_,_,_,_,_,_,_,_,_,_,_,_,_,_,_,_,_] _
  obtain ⟨x17_, H, Hx1_⟩ := rounds_succ Ho
  have H : slices_Reverse_uint16_uint16.b0 N x6 x7 x8 = some x17_ := H
  unfold slices_Reverse_uint16_uint16.b0 at H
  refine g_seq (g_seq (g_region ?_))
  show G _ _ _ (.inRegion _ [0, 1, 2] :: _) _ _
  refine g_op (v := Value.int .i64 x7) rfl rfl rfl ?_
  refine g_op (v := Value.int .i64 x8) rfl rfl rfl ?_
  refine g_op_b (B := decide (x7 < x8)) rfl rfl rfl ?_ ?_
  ·
   intro hb
   rw [if_pos (b_dec_t hb)] at H
   show G _ _ _ _ [_,_,_,_,_,_,_,_,_,_,_,_,_,_,_,_,_,_,_,_,_,_,_,_,_,_,_,_] _
   refine g_ops_nil (g_cond_true rfl (g_skip (g_seq ?_)))
   refine g_block ?_
   obtain ⟨gd9, H⟩ := ite_get H
   obtain ⟨ad10_, ad10_N, ad10_C, had10_⟩ := sl_at (hs.row 0 rfl) gd9.1 gd9.2
   obtain ⟨gd11, H⟩ := ite_get H
   obtain ⟨ad12_, ad12_N, ad12_C, had12_⟩ := sl_at (hs.row 0 rfl) gd11.1 gd11.2
   obtain ⟨gd13, H⟩ := ite_get H
   obtain ⟨ad14_, ad14_N, ad14_C, had14_⟩ := sl_at (hs.row 0 rfl) gd13.1 gd13.2
   obtain ⟨gd15, H⟩ := ite_get H
   obtain ⟨ad16_, ad16_N, ad16_C, had16_⟩ := sl_at (hs.row 0 rfl) gd15.1 (by simpa only [stL, List.length_set] using gd15.2)
   refine g_name ?_
   intro T hT
   refine g_any (n := 16) rfl [0, 1, 2, 3, 4, 5, 6, 7, 8, 9, 10, 11, 12, 13, 14, 15] [0, 1, 12, 13, 2, 3, 4, 5, 6, 7, 8, 9, 10, 11, 14, 15] rfl rfl (Inv := fun D t w => ∃ O : Nat → Value, t = [v2, O 1, Value.int .i64 x7, Value.int .i64 x8, O 4, O 5, O 6, Value.int .i64 x7, Value.int .i64 x8, Value.bool true, O 10, O 11, O 12, O 13, cnd (D 0) v2 (O 14), cnd (D 1) (Value.int .i64 x7) (O 15), cnd (D 2) v2 (O 16), cnd (D 3) (Value.int .i64 x8) (O 17), cnd (D 4) v2 (O 18), cnd (D 5) (Value.int .i64 x8) (O 19), cnd (D 6) (Value.pointer (some (ad10_.add (x8.toNat * 1)))) (O 20), cnd (D 7) (Value.int .u16 (rdL x6 x8 0)) (O 21), cnd (D 8) v2 (O 22), cnd (D 9) (Value.int .i64 x7) (O 23), cnd (D 10) (Value.pointer (some (ad12_.add (x7.toNat * 1)))) (O 24), cnd (D 11) (Value.int .u16 (rdL x6 x7 0)) (O 25), cnd (D 12) (Value.pointer (some (ad14_.add (x7.toNat * 1)))) (O 26), cnd (D 14) (Value.pointer (some (ad16_.add (x8.toNat * 1)))) (O 27)] ∧ St wb [Row 31 (K.int .u16) (cnd (D 15) v2 (cnd (D 13) v2 v2)) (cnd (D 15) (stL (stL x6 x7 (rdL x6 x8 0)) x8 (rdL x6 x7 0)) (cnd (D 13) (stL x6 x7 (rdL x6 x8 0)) x6)), Z] w) ?_ ⟨⟨⟨⟨⟨⟨⟨⟨⟨⟨⟨⟨⟨⟨⟨⟨trivial, ?_⟩, ?_⟩, ?_⟩, ?_⟩, ?_⟩, ?_⟩, ?_⟩, ?_⟩, ?_⟩, ?_⟩, ?_⟩, ?_⟩, ?_⟩, ?_⟩, ?_⟩, ?_⟩ ?_
   ·
    intro w hh hbw
    have hs := hs.samew hh hbw
    exact ⟨fun i => T.getD i undef, (by subst hT; rfl), hs⟩
   ·
    intro D t w hD hp hcl hI rest hk
    obtain ⟨O, ht, hs⟩ := hI
    have q12_ := nz hcl 12 0 hD
    have q13_ := nz hcl 13 0 q12_
    have q14_ := nz hcl 14 2 hD
    have q15_ := nz hcl 15 0 q14_
    simp only [hD, q12_, q13_, q14_, q15_, cq] at ht hs
    subst ht
    refine g_op (v := v2) rfl rfl rfl ?_
    show G _ _ _ _ [_,_,_,_,_,_,_,_,_,_,_,_,_,_,_,_,_,_,_,_,_,_,_,_,_,_,_,_] _
    refine hk _ _ ⟨O, ?_, hs.cast ?_⟩ <;> simp only [lq, cq, Nat.reduceBEq, q12_, q13_, q14_, q15_]
   ·
    intro D t w hD hp hcl hI rest hk
    obtain ⟨O, ht, hs⟩ := hI
    have q12_ := nz hcl 12 1 hD
    have q13_ := nz hcl 13 0 q12_
    have q14_ := nz hcl 14 3 hD
    have q15_ := nz hcl 15 0 q14_
    simp only [hD, q12_, q13_, q14_, q15_, cq] at ht hs
    subst ht
    refine g_op (v := Value.int .i64 x7) rfl rfl rfl ?_
    show G _ _ _ _ [_,_,_,_,_,_,_,_,_,_,_,_,_,_,_,_,_,_,_,_,_,_,_,_,_,_,_,_] _
    refine hk _ _ ⟨O, ?_, hs.cast ?_⟩ <;> simp only [lq, cq, Nat.reduceBEq, q12_, q13_, q14_, q15_]
   ·
    intro D t w hD hp hcl hI rest hk
    obtain ⟨O, ht, hs⟩ := hI
    have q14_ := nz hcl 14 0 hD
    have q15_ := nz hcl 15 0 q14_
    simp only [hD, q14_, q15_, cq] at ht hs
    subst ht
    refine g_op (v := v2) rfl rfl rfl ?_
    show G _ _ _ _ [_,_,_,_,_,_,_,_,_,_,_,_,_,_,_,_,_,_,_,_,_,_,_,_,_,_,_,_] _
    refine hk _ _ ⟨O, ?_, hs.cast ?_⟩ <;> simp only [lq, cq, Nat.reduceBEq, q14_, q15_]
   ·
    intro D t w hD hp hcl hI rest hk
    obtain ⟨O, ht, hs⟩ := hI
    have q14_ := nz hcl 14 1 hD
    have q15_ := nz hcl 15 0 q14_
    simp only [hD, q14_, q15_, cq] at ht hs
    subst ht
    refine g_op (v := Value.int .i64 x8) rfl rfl rfl ?_
    show G _ _ _ _ [_,_,_,_,_,_,_,_,_,_,_,_,_,_,_,_,_,_,_,_,_,_,_,_,_,_,_,_] _
    refine hk _ _ ⟨O, ?_, hs.cast ?_⟩ <;> simp only [lq, cq, Nat.reduceBEq, q14_, q15_]
   ·
    intro D t w hD hp hcl hI rest hk
    obtain ⟨O, ht, hs⟩ := hI
    have q6_ := nz hcl 6 0 hD
    have q7_ := nz hcl 7 0 q6_
    have q12_ := nz hcl 12 4 hD
    have q13_ := nz hcl 13 0 q12_
    have q14_ := nz hcl 14 6 hD
    have q15_ := nz hcl 15 0 q14_
    simp only [hD, q6_, q7_, q12_, q13_, q14_, q15_, cq] at ht hs
    subst ht
    refine g_op (v := v2) rfl rfl rfl ?_
    show G _ _ _ _ [_,_,_,_,_,_,_,_,_,_,_,_,_,_,_,_,_,_,_,_,_,_,_,_,_,_,_,_] _
    refine hk _ _ ⟨O, ?_, hs.cast ?_⟩ <;> simp only [lq, cq, Nat.reduceBEq, q6_, q7_, q12_, q13_, q14_, q15_]
   ·
    intro D t w hD hp hcl hI rest hk
    obtain ⟨O, ht, hs⟩ := hI
    have q6_ := nz hcl 6 1 hD
    have q7_ := nz hcl 7 0 q6_
    have q12_ := nz hcl 12 5 hD
    have q13_ := nz hcl 13 0 q12_
    have q14_ := nz hcl 14 7 hD
    have q15_ := nz hcl 15 0 q14_
    simp only [hD, q6_, q7_, q12_, q13_, q14_, q15_, cq] at ht hs
    subst ht
    refine g_op (v := Value.int .i64 x8) rfl rfl rfl ?_
    show G _ _ _ _ [_,_,_,_,_,_,_,_,_,_,_,_,_,_,_,_,_,_,_,_,_,_,_,_,_,_,_,_] _
    refine hk _ _ ⟨O, ?_, hs.cast ?_⟩ <;> simp only [lq, cq, Nat.reduceBEq, q6_, q7_, q12_, q13_, q14_, q15_]
   ·
    intro D t w hD hp hcl hI rest hk
    obtain ⟨O, ht, hs⟩ := hI
    obtain ⟨p4_, p5_, _⟩ := hp
    have q7_ := nz hcl 7 0 hD
    have q12_ := nz hcl 12 6 hD
    have q13_ := nz hcl 13 0 q12_
    have q14_ := nz hcl 14 8 hD
    have q15_ := nz hcl 15 0 q14_
    simp only [hD, p4_, p5_, q7_, q12_, q13_, q14_, q15_, cq] at ht hs
    subst ht
    refine s_idxD (κ := (K.int .u16)) (m := 1) rfl (hs.row 0 rfl) rfl (fun _ => rfl) gd9.1 gd9.2 had10_ rfl rfl rfl rfl rfl ?_
    show G _ _ _ _ [_,_,_,_,_,_,_,_,_,_,_,_,_,_,_,_,_,_,_,_,_,_,_,_,_,_,_,_] _
    refine hk _ _ ⟨O, ?_, hs.cast ?_⟩ <;> simp only [lq, cq, Nat.reduceBEq, p4_, p5_, q7_, q12_, q13_, q14_, q15_]
   ·
    intro D t w hD hp hcl hI rest hk
    obtain ⟨O, ht, hs⟩ := hI
    obtain ⟨p6_, _⟩ := hp
    obtain ⟨p4_, p5_, _⟩ := (hcl.get 6 (by decide)) p6_
    have q12_ := nz hcl 12 7 hD
    have q13_ := nz hcl 13 0 q12_
    have q14_ := nz hcl 14 9 hD
    have q15_ := nz hcl 15 0 q14_
    simp only [hD, p4_, p5_, p6_, q12_, q13_, q14_, q15_, cq] at ht hs
    subst ht
    refine s_load1 rfl rfl (v := Value.int .u16 (rdL x6 x8 0)) rfl rfl (fun _ => rfl) (cellsAt_of (fkI .u16) 0 (hs.row 0 rfl) had10_ gd9.1 gd9.2) ?_
    show G _ _ _ _ [_,_,_,_,_,_,_,_,_,_,_,_,_,_,_,_,_,_,_,_,_,_,_,_,_,_,_,_] _
    refine hk _ _ ⟨O, ?_, hs.cast ?_⟩ <;> simp only [lq, cq, Nat.reduceBEq, p4_, p5_, p6_, q12_, q13_, q14_, q15_]
   ·
    intro D t w hD hp hcl hI rest hk
    obtain ⟨O, ht, hs⟩ := hI
    have q10_ := nz hcl 10 0 hD
    have q11_ := nz hcl 11 0 q10_
    have q12_ := nz hcl 12 8 q11_
    have q13_ := nz hcl 13 0 q12_
    have q14_ := nz hcl 14 10 hD
    have q15_ := nz hcl 15 0 q14_
    simp only [hD, q10_, q11_, q12_, q13_, q14_, q15_, cq] at ht hs
    subst ht
    refine g_op (v := v2) rfl rfl rfl ?_
    show G _ _ _ _ [_,_,_,_,_,_,_,_,_,_,_,_,_,_,_,_,_,_,_,_,_,_,_,_,_,_,_,_] _
    refine hk _ _ ⟨O, ?_, hs.cast ?_⟩ <;> simp only [lq, cq, Nat.reduceBEq, q10_, q11_, q12_, q13_, q14_, q15_]
   ·
    intro D t w hD hp hcl hI rest hk
    obtain ⟨O, ht, hs⟩ := hI
    have q10_ := nz hcl 10 1 hD
    have q11_ := nz hcl 11 0 q10_
    have q12_ := nz hcl 12 8 q11_
    have q13_ := nz hcl 13 0 q12_
    have q14_ := nz hcl 14 11 hD
    have q15_ := nz hcl 15 0 q14_
    simp only [hD, q10_, q11_, q12_, q13_, q14_, q15_, cq] at ht hs
    subst ht
    refine g_op (v := Value.int .i64 x7) rfl rfl rfl ?_
    show G _ _ _ _ [_,_,_,_,_,_,_,_,_,_,_,_,_,_,_,_,_,_,_,_,_,_,_,_,_,_,_,_] _
    refine hk _ _ ⟨O, ?_, hs.cast ?_⟩ <;> simp only [lq, cq, Nat.reduceBEq, q10_, q11_, q12_, q13_, q14_, q15_]
   ·
    intro D t w hD hp hcl hI rest hk
    obtain ⟨O, ht, hs⟩ := hI
    obtain ⟨p8_, p9_, _⟩ := hp
    have q11_ := nz hcl 11 0 hD
    have q12_ := nz hcl 12 8 q11_
    have q13_ := nz hcl 13 0 q12_
    have q14_ := nz hcl 14 12 hD
    have q15_ := nz hcl 15 0 q14_
    simp only [hD, p8_, p9_, q11_, q12_, q13_, q14_, q15_, cq] at ht hs
    subst ht
    refine s_idxD (κ := (K.int .u16)) (m := 1) rfl (hs.row 0 rfl) rfl (fun _ => rfl) gd11.1 gd11.2 had12_ rfl rfl rfl rfl rfl ?_
    show G _ _ _ _ [_,_,_,_,_,_,_,_,_,_,_,_,_,_,_,_,_,_,_,_,_,_,_,_,_,_,_,_] _
    refine hk _ _ ⟨O, ?_, hs.cast ?_⟩ <;> simp only [lq, cq, Nat.reduceBEq, p8_, p9_, q11_, q12_, q13_, q14_, q15_]
   ·
    intro D t w hD hp hcl hI rest hk
    obtain ⟨O, ht, hs⟩ := hI
    obtain ⟨p10_, _⟩ := hp
    obtain ⟨p8_, p9_, _⟩ := (hcl.get 10 (by decide)) p10_
    have q12_ := nz hcl 12 8 hD
    have q13_ := nz hcl 13 0 q12_
    have q14_ := nz hcl 14 13 hD
    have q15_ := nz hcl 15 0 q14_
    simp only [hD, p8_, p9_, p10_, q12_, q13_, q14_, q15_, cq] at ht hs
    subst ht
    refine s_load1 rfl rfl (v := Value.int .u16 (rdL x6 x7 0)) rfl rfl (fun _ => rfl) (cellsAt_of (fkI .u16) 0 (hs.row 0 rfl) had12_ gd11.1 gd11.2) ?_
    show G _ _ _ _ [_,_,_,_,_,_,_,_,_,_,_,_,_,_,_,_,_,_,_,_,_,_,_,_,_,_,_,_] _
    refine hk _ _ ⟨O, ?_, hs.cast ?_⟩ <;> simp only [lq, cq, Nat.reduceBEq, p8_, p9_, p10_, q12_, q13_, q14_, q15_]
   ·
    intro D t w hD hp hcl hI rest hk
    obtain ⟨O, ht, hs⟩ := hI
    obtain ⟨p0_, p1_, _, _, p4_, p5_, p6_, p7_, p11_, _⟩ := hp
    obtain ⟨p10_, _⟩ := (hcl.get 11 (by decide)) p11_
    obtain ⟨p8_, p9_, _⟩ := (hcl.get 10 (by decide)) p10_
    have q13_ := nz hcl 13 0 hD
    have q14_ := nz hcl 14 14 hD
    have q15_ := nz hcl 15 0 q14_
    simp only [hD, p0_, p1_, p4_, p5_, p6_, p7_, p8_, p9_, p10_, p11_, q13_, q14_, q15_, cq] at ht hs
    subst ht
    refine s_idxD (κ := (K.int .u16)) (m := 1) rfl (hs.row 0 rfl) rfl (fun _ => rfl) gd13.1 gd13.2 had14_ rfl rfl rfl rfl rfl ?_
    show G _ _ _ _ [_,_,_,_,_,_,_,_,_,_,_,_,_,_,_,_,_,_,_,_,_,_,_,_,_,_,_,_] _
    refine hk _ _ ⟨O, ?_, hs.cast ?_⟩ <;> simp only [lq, cq, Nat.reduceBEq, p0_, p1_, p4_, p5_, p6_, p7_, p8_, p9_, p10_, p11_, q13_, q14_, q15_]
   ·
    intro D t w hD hp hcl hI rest hk
    obtain ⟨O, ht, hs⟩ := hI
    obtain ⟨p12_, p7_, p0_, p1_, p4_, p5_, p6_, _, p11_, _⟩ := hp
    obtain ⟨p10_, _⟩ := (hcl.get 11 (by decide)) p11_
    obtain ⟨p8_, p9_, _⟩ := (hcl.get 10 (by decide)) p10_
    have q14_ := nz hcl 14 15 hD
    have q15_ := nz hcl 15 0 q14_
    simp only [hD, p0_, p1_, p4_, p5_, p6_, p7_, p8_, p9_, p10_, p11_, p12_, q14_, q15_, cq] at ht hs
    subst ht
    refine s_stRow (y := rdL x6 x8 0) (fkI .u16) gd13.1 gd13.2 (hown_of had14_) hs rfl rfl rfl rfl rfl (fun _ => rfl) ?_
    intro w hs
    show G _ _ _ _ [_,_,_,_,_,_,_,_,_,_,_,_,_,_,_,_,_,_,_,_,_,_,_,_,_,_,_,_] _
    have hs := hs.push 0 (by simp)
    refine hk _ _ ⟨O, ?_, hs.cast ?_⟩ <;> simp only [lq, cq, Nat.reduceBEq, p0_, p1_, p4_, p5_, p6_, p7_, p8_, p9_, p10_, p11_, p12_, q14_, q15_]
   ·
    intro D t w hD hp hcl hI rest hk
    obtain ⟨O, ht, hs⟩ := hI
    obtain ⟨p2_, p3_, p0_, p1_, _, _, p4_, p5_, p6_, p7_, p8_, p9_, p10_, p11_, p12_, p13_, _⟩ := hp
    have q15_ := nz hcl 15 0 hD
    simp only [hD, p0_, p1_, p2_, p3_, p4_, p5_, p6_, p7_, p8_, p9_, p10_, p11_, p12_, p13_, q15_, cq] at ht hs
    subst ht
    refine s_idxD (κ := (K.int .u16)) (m := 1) rfl (hs.row 0 rfl) rfl (fun _ => rfl) gd15.1 gd15.2 had16_ rfl rfl rfl rfl rfl ?_
    show G _ _ _ _ [_,_,_,_,_,_,_,_,_,_,_,_,_,_,_,_,_,_,_,_,_,_,_,_,_,_,_,_] _
    refine hk _ _ ⟨O, ?_, hs.cast ?_⟩ <;> simp only [lq, cq, Nat.reduceBEq, p0_, p1_, p2_, p3_, p4_, p5_, p6_, p7_, p8_, p9_, p10_, p11_, p12_, p13_, q15_]
   ·
    intro D t w hD hp hcl hI rest hk
    obtain ⟨O, ht, hs⟩ := hI
    obtain ⟨p14_, p11_, p13_, p0_, p1_, p2_, p3_, p4_, p5_, p6_, p7_, p8_, p9_, p10_, _, p12_, _, _⟩ := hp
    simp only [hD, p0_, p1_, p2_, p3_, p4_, p5_, p6_, p7_, p8_, p9_, p10_, p11_, p12_, p13_, p14_, cq] at ht hs
    subst ht
    refine s_stRow (y := rdL x6 x7 0) (fkI .u16) gd15.1 gd15.2 (hown_of had16_) hs rfl rfl rfl rfl rfl (fun _ => rfl) ?_
    intro w hs
    show G _ _ _ _ [_,_,_,_,_,_,_,_,_,_,_,_,_,_,_,_,_,_,_,_,_,_,_,_,_,_,_,_] _
    have hs := hs.push 0 (by simp)
    refine hk _ _ ⟨O, ?_, hs.cast ?_⟩ <;> simp only [lq, cq, Nat.reduceBEq, p0_, p1_, p2_, p3_, p4_, p5_, p6_, p7_, p8_, p9_, p10_, p11_, p12_, p13_, p14_]
   intro D t w hall hI
   obtain ⟨O, ht, hs⟩ := hI
   have p0_ : D 0 = true := hall 0 (by decide)
   have p1_ : D 1 = true := hall 1 (by decide)
   have p2_ : D 2 = true := hall 2 (by decide)
   have p3_ : D 3 = true := hall 3 (by decide)
   have p4_ : D 4 = true := hall 4 (by decide)
   have p5_ : D 5 = true := hall 5 (by decide)
   have p6_ : D 6 = true := hall 6 (by decide)
   have p7_ : D 7 = true := hall 7 (by decide)
   have p8_ : D 8 = true := hall 8 (by decide)
   have p9_ : D 9 = true := hall 9 (by decide)
   have p10_ : D 10 = true := hall 10 (by decide)
   have p11_ : D 11 = true := hall 11 (by decide)
   have p12_ : D 12 = true := hall 12 (by decide)
   have p13_ : D 13 = true := hall 13 (by decide)
   have p14_ : D 14 = true := hall 14 (by decide)
   have p15_ : D 15 = true := hall 15 (by decide)
   simp only [p0_, p1_, p2_, p3_, p4_, p5_, p6_, p7_, p8_, p9_, p10_, p11_, p12_, p13_, p14_, p15_, cq] at ht hs
   subst ht
   refine g_inBlock (g_region ?_)
   show G _ _ _ (.inRegion _ [0, 1, 2, 3, 4, 5] :: _) _ _
   refine g_op (v := Value.int .i64 x7) rfl rfl rfl ?_
   refine g_op (v := Value.int .i64 (i64w (x7 + 1))) rfl rfl rfl ?_
   show G _ _ _ _ [_,_,_,_,_,_,_,_,_,_,_,_,_,_,_,_,_,_,_,_,_,_,_,_,_,_,_,_] _
   refine g_op (v := Value.int .i64 x8) rfl rfl rfl ?_
   refine g_op (v := Value.int .i64 (i64w (x8 - 1))) rfl rfl rfl ?_
   show G _ _ _ _ [_,_,_,_,_,_,_,_,_,_,_,_,_,_,_,_,_,_,_,_,_,_,_,_,_,_,_,_] _
   refine g_op (v := Value.int .i64 (i64w (x7 + 1))) rfl rfl rfl ?_
   show G _ _ _ _ [_,_,_,_,_,_,_,_,_,_,_,_,_,_,_,_,_,_,_,_,_,_,_,_,_,_,_,_] _
   refine g_op (v := Value.int .i64 (i64w (x8 - 1))) rfl rfl rfl ?_
   show G _ _ _ _ [_,_,_,_,_,_,_,_,_,_,_,_,_,_,_,_,_,_,_,_,_,_,_,_,_,_,_,_] _
   refine g_ops_nil ?_
   obtain rfl := Option.some.inj H
   have hs := hs.pull 1 rfl
   have hs := hs.pull 1 rfl
   have hs : St _ [_,_] _ := St.take (Γ' := []) hs
   exact ih1_ _ _ ⟨stL (stL x6 x7 (rdL x6 x8 0)) x8 (rdL x6 x7 0), i64w (x7 + 1), i64w (x8 - 1), Hx1_, rfl, hs⟩
  intro hb
  rw [if_neg (b_dec_f hb)] at H
  show G _ _ _ _ [_,_,_,_,_,_,_,_,_,_,_,_,_,_,_,_,_,_,_,_,_,_,_,_,_,_,_,_] _
  refine g_ops_nil (g_cond_false rfl ?_)
  obtain rfl := Option.some.inj H
  subst Hx1_
  have hs := hs.pull 1 rfl
  have hs := hs.pull 1 rfl
  have hs : St _ [_,_] _ := St.take (Γ' := []) hs
  refine g_exit rfl ?_
  exact ha1_ _ _ ⟨x6, Hr1_, rfl, hs⟩

/- function 14 impl_ShortestCrossing -/
def impl_ShortestCrossing.post (w0 : World) (r : ((List Int) × Int)) (v : Value) (w : World) : Prop := ∃ u1 : Value, v = Value.tuple #[u1, Value.int .i64 r.2] ∧ St w0 [Row 31 (K.int .u16) u1 r.1] w
set_option maxHeartbeats 8000000 in
set_option maxRecDepth 100000 in
theorem impl_ShortestCrossing.calls {N : Nat} {a1 : S_impl_Ferry} {v2 : Value} {w0 : World} {r : ((List Int) × Int)} (hr3 : RdRow (K.int .u16) w0 v2 a1.f_Rules) (H : impl_ShortestCrossing.f N a1 = some r) :
    Calls Try.prog 14 #[Value.agg (([Value.int .i8 a1.f_Things, Value.int .i8 a1.f_Boat, v2] : List Value)).toArray] w0 fun e w => ∃ v, e = .returned v ∧ impl_ShortestCrossing.post w0 r v w := by
  unfold impl_ShortestCrossing.f at H
  have hs : St w0 [] w0 := St.refl w0
  refine calls_of_g (n := 38) Try.func14 rfl rfl ?_
  show G _ _ _ _ [_,_,_,_,_,_,_,_,_,_,_,_,_,_,_,_,_,_,_,_,_,_,_,_,_,_,_,_,_,_,_,_,_,_,_,_,_,_,_] _
  refine g_seq (g_region ?_)
  show G _ _ _ (.inRegion _ [0, 1, 2] :: _) _ _
  refine s_box hs rfl rfl (cs := (([Value.int .i8 a1.f_Things, Value.int .i8 a1.f_Boat, v2] : List Value))) rfl rfl ?_
  intro b4 w hs
  show G _ _ _ _ [_,_,_,_,_,_,_,_,_,_,_,_,_,_,_,_,_,_,_,_,_,_,_,_,_,_,_,_,_,_,_,_,_,_,_,_,_,_,_] _
  refine g_op (v := Value.slice none 0 0) rfl rfl rfl ?_
  show G _ _ _ _ [_,_,_,_,_,_,_,_,_,_,_,_,_,_,_,_,_,_,_,_,_,_,_,_,_,_,_,_,_,_,_,_,_,_,_,_,_,_,_] _
  refine g_op (v := Value.int .i64 0) rfl rfl rfl ?_
  show G _ _ _ _ [_,_,_,_,_,_,_,_,_,_,_,_,_,_,_,_,_,_,_,_,_,_,_,_,_,_,_,_,_,_,_,_,_,_,_,_,_,_,_] _
  refine g_ops_nil (g_seq (g_seq (g_region ?_)))
  show G _ _ _ (.inRegion _ [0, 1, 2] :: _) _ _
  refine s_loadA rfl rfl (es := (([Value.int .i8 a1.f_Things, Value.int .i8 a1.f_Boat, v2] : List Value))) rfl rfl (fun _ => rfl) (n := 3) (fun _ => rfl) rfl (cells_all (hs.cells 0 rfl)) ?_
  show G _ _ _ _ [_,_,_,_,_,_,_,_,_,_,_,_,_,_,_,_,_,_,_,_,_,_,_,_,_,_,_,_,_,_,_,_,_,_,_,_,_,_,_] _
  obtain ⟨r6, Hr6, H⟩ := bind_get H
  refine s_call (args := [Value.agg (([Value.int .i8 a1.f_Things, Value.int .i8 a1.f_Boat, v2] : List Value)).toArray]) rfl rfl (x_call rfl (callFunc_enter Try.func23 rfl rfl) rfl) (impl_ValidFerry.calls (a1 := (⟨a1.f_Things, a1.f_Boat, a1.f_Rules⟩ : S_impl_Ferry)) (hs.rd hr3) Hr6) ?_
  rintro _ w ⟨rfl, hs2⟩
  have hs : St _ [_] _ := hs.call hs2
  cases r6 with
  | true =>
    rw [if_pos rfl] at H
    show G _ _ _ _ [_,_,_,_,_,_,_,_,_,_,_,_,_,_,_,_,_,_,_,_,_,_,_,_,_,_,_,_,_,_,_,_,_,_,_,_,_,_,_] _
    refine g_op (v := Value.bool false) rfl rfl rfl ?_
    show G _ _ _ _ [_,_,_,_,_,_,_,_,_,_,_,_,_,_,_,_,_,_,_,_,_,_,_,_,_,_,_,_,_,_,_,_,_,_,_,_,_,_,_] _
    refine g_ops_nil (g_cond_false rfl (g_skip (g_seq (g_region ?_))))
    show G _ _ _ (.inRegion _ [0, 1, 2] :: _) _ _
    refine s_loadA rfl rfl (es := (([Value.int .i8 a1.f_Things, Value.int .i8 a1.f_Boat, v2] : List Value))) rfl rfl (fun _ => rfl) (n := 3) (fun _ => rfl) rfl (cells_all (hs.cells 0 rfl)) ?_
    show G _ _ _ _ [_,_,_,_,_,_,_,_,_,_,_,_,_,_,_,_,_,_,_,_,_,_,_,_,_,_,_,_,_,_,_,_,_,_,_,_,_,_,_] _
    obtain ⟨r7, Hr7, H⟩ := bind_get H
    refine s_call (args := [Value.agg (([Value.int .i8 a1.f_Things, Value.int .i8 a1.f_Boat, v2] : List Value)).toArray]) rfl rfl (x_call rfl (callFunc_enter Try.func35 rfl rfl) rfl) (_impl_Ferry_search.calls (a1 := (⟨a1.f_Things, a1.f_Boat, a1.f_Rules⟩ : S_impl_Ferry)) (hs.rd hr3) Hr7) ?_
    intro v8 w hs2
    have hs : St _ [_,_] _ := hs.call hs2
    show G _ _ _ _ [_,_,_,_,_,_,_,_,_,_,_,_,_,_,_,_,_,_,_,_,_,_,_,_,_,_,_,_,_,_,_,_,_,_,_,_,_,_,_] _
    refine g_op (v := v8) rfl rfl rfl ?_
    show G _ _ _ _ [_,_,_,_,_,_,_,_,_,_,_,_,_,_,_,_,_,_,_,_,_,_,_,_,_,_,_,_,_,_,_,_,_,_,_,_,_,_,_] _
    refine g_ops_nil (g_seq (g_region ?_))
    show G _ _ _ (.inRegion _ [0, 1, 2] :: _) _ _
    refine g_op (v := v8) rfl rfl rfl ?_
    obtain ⟨r10, Hr10, H⟩ := bind_get H
    refine s_call (args := [v8, Value.func (Fn.func 37) #[] #[]]) rfl rfl (x_call rfl (callFunc_enter Try.func36 rfl rfl) rfl) (slices_IndexFunc_impl_crossing_impl_crossing_at_impl_ShortestCrossing_1.calls (a1 := r7) (hs.row 0 rfl) Hr10) ?_
    rintro _ w ⟨rfl, hs2⟩
    have hs : St _ [_,_] _ := hs.call hs2
    show G _ _ _ _ [_,_,_,_,_,_,_,_,_,_,_,_,_,_,_,_,_,_,_,_,_,_,_,_,_,_,_,_,_,_,_,_,_,_,_,_,_,_,_] _
    refine g_op (v := Value.int .i64 r10) rfl rfl rfl ?_
    show G _ _ _ _ [_,_,_,_,_,_,_,_,_,_,_,_,_,_,_,_,_,_,_,_,_,_,_,_,_,_,_,_,_,_,_,_,_,_,_,_,_,_,_] _
    refine g_ops_nil (g_seq (g_seq (g_region ?_)))
    show G _ _ _ (.inRegion _ [0, 1] :: _) _ _
    refine g_op (v := Value.int .i64 r10) rfl rfl rfl ?_
    refine g_op_b (B := decide (r10 < 0)) rfl rfl rfl ?_ ?_
    ·
     intro hb
     rw [if_pos (b_dec_t hb)] at H
     show G _ _ _ _ [_,_,_,_,_,_,_,_,_,_,_,_,_,_,_,_,_,_,_,_,_,_,_,_,_,_,_,_,_,_,_,_,_,_,_,_,_,_,_] _
     refine g_ops_nil (g_cond_true rfl (g_seq (g_region ?_)))
     show G _ _ _ (.inRegion _ [0, 1] :: _) _ _
     refine g_op (v := Value.slice none 0 0) rfl rfl rfl ?_
     show G _ _ _ _ [_,_,_,_,_,_,_,_,_,_,_,_,_,_,_,_,_,_,_,_,_,_,_,_,_,_,_,_,_,_,_,_,_,_,_,_,_,_,_] _
     refine g_op (v := Value.int .i64 6) rfl rfl rfl ?_
     show G _ _ _ _ [_,_,_,_,_,_,_,_,_,_,_,_,_,_,_,_,_,_,_,_,_,_,_,_,_,_,_,_,_,_,_,_,_,_,_,_,_,_,_] _
     refine g_ops_nil ?_
     obtain rfl := Option.some.inj H
     refine g_ret Try.func14 (v := Value.tuple #[Value.slice none 0 0, Value.int .i64 6]) (resN (l := Try.f14.results.toList) (vs := [Value.slice none 0 0, Value.int .i64 6]) rfl ⟨rfl, rfl, trivial⟩ (by simp)) ?_
     have hs := hs.nil 31 (K.int .u16)
     have hs := hs.pull 0 rfl
     have hs : St _ [_] _ := St.take (Γ' := [_,_]) hs
     exact ⟨_, rfl, (Value.slice none 0 0), rfl, hs⟩
    intro hb
    rw [if_neg (b_dec_f hb)] at H
    show G _ _ _ _ [_,_,_,_,_,_,_,_,_,_,_,_,_,_,_,_,_,_,_,_,_,_,_,_,_,_,_,_,_,_,_,_,_,_,_,_,_,_,_] _
    refine g_ops_nil (g_cond_false rfl (g_skip (g_seq (g_region ?_))))
    show G _ _ _ (.inRegion _ [0, 1] :: _) _ _
    refine s_lit0 (κ := (K.int .u16)) hs rfl rfl rfl rfl (fun _ => rfl) ?_
    intro v11 w hs
    show G _ _ _ _ [_,_,_,_,_,_,_,_,_,_,_,_,_,_,_,_,_,_,_,_,_,_,_,_,_,_,_,_,_,_,_,_,_,_,_,_,_,_,_] _
    refine g_op (v := v11) rfl rfl rfl ?_
    show G _ _ _ _ [_,_,_,_,_,_,_,_,_,_,_,_,_,_,_,_,_,_,_,_,_,_,_,_,_,_,_,_,_,_,_,_,_,_,_,_,_,_,_] _
    refine g_ops_nil (g_seq ?_)
    obtain ⟨o1_, Ho, Hr1_⟩ := bind_get H
    refine g_block_join (J := fun t w => ∃ v24 : Value, ∃ x25 : (List Int), impl_ShortestCrossing.a0 N x25 = some r ∧ Fr t (fun O => ([O 0, O 1, O 2, O 3, O 4, O 5, v24, O 7, O 8, O 9, O 10, O 11, O 12, O 13, O 14, O 15, O 16, O 17, O 18, O 19, O 20, O 21, O 22, O 23, O 24, O 25, O 26, O 27, O 28, O 29, O 30, O 31, O 32, O 33, O 34, O 35, O 36, O 37, O 38] : List Value)) ∧ St w0 [Row 31 (K.int .u16) v24 x25] w) ?_ ?_
    ·
     rintro t w ⟨v24, x25, H, hf, hs⟩
     obtain ⟨O, rfl⟩ := hf.open
     show G _ _ _ _ [_,_,_,_,_,_,_,_,_,_,_,_,_,_,_,_,_,_,_,_,_,_,_,_,_,_,_,_,_,_,_,_,_,_,_,_,_,_,_] _
     unfold impl_ShortestCrossing.a0 at H
     refine g_seq (g_region ?_)
     show G _ _ _ (.inRegion _ [0, 1] :: _) _ _
     refine g_op (v := v24) rfl rfl rfl ?_
     obtain ⟨r27, Hr27, H⟩ := bind_get H
     have hs := hs.pull 0 rfl
     have hs : St _ [_] _ := hs
     have hs := hs.pack 1
     refine s_call (args := [v24]) rfl rfl (x_call rfl (callFunc_enter Try.func38 rfl rfl) rfl) (slices_Reverse_uint16_uint16.calls (a1 := x25) hs Hr27) ?_
     rintro _ w ⟨rfl, hs⟩
     have hs := St.unpack (Γ := [_]) hs
     have hs : St _ [_] _ := hs
     show G _ _ _ _ [_,_,_,_,_,_,_,_,_,_,_,_,_,_,_,_,_,_,_,_,_,_,_,_,_,_,_,_,_,_,_,_,_,_,_,_,_,_,_] _
     refine g_ops_nil (g_seq (g_region ?_))
     show G _ _ _ (.inRegion _ [0, 1, 2] :: _) _ _
     refine g_op (v := v24) rfl rfl rfl ?_
     refine g_op (v := v24) rfl rfl rfl ?_
     show G _ _ _ _ [_,_,_,_,_,_,_,_,_,_,_,_,_,_,_,_,_,_,_,_,_,_,_,_,_,_,_,_,_,_,_,_,_,_,_,_,_,_,_] _
     refine g_op (v := Value.int .i64 0) rfl rfl rfl ?_
     show G _ _ _ _ [_,_,_,_,_,_,_,_,_,_,_,_,_,_,_,_,_,_,_,_,_,_,_,_,_,_,_,_,_,_,_,_,_,_,_,_,_,_,_] _
     refine g_ops_nil ?_
     obtain rfl := Option.some.inj H
     refine g_ret Try.func14 (v := Value.tuple #[v24, Value.int .i64 0]) (resN (l := Try.f14.results.toList) (vs := [v24, Value.int .i64 0]) rfl ⟨rfl, rfl, trivial⟩ (by simp)) ?_
     have hs := hs.pull 0 rfl
     have hs : St _ [_] _ := St.take (Γ' := []) hs
     exact ⟨_, rfl, v24, rfl, hs⟩
    intro ha1_
    have hs := hs.pull 0 rfl
    have hs := hs.pull 1 rfl
    have hs : St _ [_,_] _ := St.take (Γ' := [_]) hs
    refine g_loop_fuel (I := fun n_ t w => ∃ x13 : Int, ∃ v15 : Value, ∃ x16 : (List Int), rounds (fun s => impl_ShortestCrossing.b0 N r7 s.1 s.2) n_ (x13, x16) = some o1_ ∧ Fr t (fun O => ([O 0, O 1, O 2, O 3, v8, Value.int .i64 x13, v15, O 7, O 8, O 9, O 10, O 11, O 12, O 13, O 14, O 15, O 16, O 17, O 18, O 19, O 20, O 21, O 22, O 23, O 24, O 25, O 26, O 27, O 28, O 29, O 30, O 31, O 32, O 33, O 34, O 35, O 36, O 37, O 38] : List Value)) ∧ St w0 [Row 72 k_S_impl_crossing v8 r7, Row 31 (K.int .u16) v15 x16] w) N ⟨r10, v11, ([] : List Int), Ho, rfl, hs⟩ ?_ ?_
    ·
     rintro _ _ ⟨x13, v15, x16, h, _⟩
     exact rounds_zero h
    intro n_ ih1_
    rintro t w ⟨x13, v15, x16, Ho, hf, hs⟩
    obtain ⟨O, rfl⟩ := hf.open
    show G _ _ _ _ [_,_,_,_,_,_,_,_,_,_,_,_,_,_,_,_,_,_,_,_,_,_,_,_,_,_,_,_,_,_,_,_,_,_,_,_,_,_,_] _
    obtain ⟨x4_, H, Hx1_⟩ := rounds_succ Ho
    have H : impl_ShortestCrossing.b0 N r7 x13 x16 = some x4_ := H
    unfold impl_ShortestCrossing.b0 at H
    refine g_seq (g_seq (g_region ?_))
    show G _ _ _ (.inRegion _ [0, 1, 2, 3, 4, 5] :: _) _ _
    refine g_op (v := v8) rfl rfl rfl ?_
    refine g_op (v := Value.int .i64 x13) rfl rfl rfl ?_
    obtain ⟨g1, H⟩ := ite_get H
    refine s_idx fk_S_impl_crossing z_S_impl_crossing (hs.row 0 rfl) rfl (fun _ => rfl) g1.1 g1.2 rfl rfl rfl rfl rfl ?_
    intro p17 hp17 lp17 op17
    show G _ _ _ _ [_,_,_,_,_,_,_,_,_,_,_,_,_,_,_,_,_,_,_,_,_,_,_,_,_,_,_,_,_,_,_,_,_,_,_,_,_,_,_] _
    refine g_op (v := Value.pointer (some (p17.add 2))) rfl rfl (x_fieldAt rfl rfl rfl rfl rfl (m := 1) (fun _ => rfl) (by decide)) ?_
    refine s_load1 rfl rfl (v := Value.int .i64 ((rdL r7 x13 z_S_impl_crossing).f_before)) rfl rfl (fun _ => rfl) (CellsAt.sub hp17 2 1 (by first | rfl | (simp [enc_S_impl_crossing, len_S_impl_Bank, List.drop_append, List.take_append, encAI_len, encAB_len, encA_len, List.take_of_length_le, List.drop_eq_nil_of_le]))) ?_
    show G _ _ _ _ [_,_,_,_,_,_,_,_,_,_,_,_,_,_,_,_,_,_,_,_,_,_,_,_,_,_,_,_,_,_,_,_,_,_,_,_,_,_,_] _
    refine g_op_b (B := decide (((rdL r7 x13 z_S_impl_crossing).f_before) ≥ 0)) rfl rfl rfl ?_ ?_
    ·
     intro hb
     rw [if_pos (b_dec_t hb)] at H
     show G _ _ _ _ [_,_,_,_,_,_,_,_,_,_,_,_,_,_,_,_,_,_,_,_,_,_,_,_,_,_,_,_,_,_,_,_,_,_,_,_,_,_,_] _
     refine g_ops_nil (g_cond_true rfl (g_skip (g_seq ?_)))
     refine g_block (g_region ?_)
     show G _ _ _ (.inRegion _ [0, 1, 2, 3, 4, 5, 6, 7, 8] :: _) _ _
     refine g_op (v := v15) rfl rfl rfl ?_
     refine g_op (v := v8) rfl rfl rfl ?_
     refine g_op (v := Value.int .i64 x13) rfl rfl rfl ?_
     obtain ⟨g2, H⟩ := ite_get H
     refine s_idx fk_S_impl_crossing z_S_impl_crossing (hs.row 0 rfl) rfl (fun _ => rfl) g2.1 g2.2 rfl rfl rfl rfl rfl ?_
     intro p18 hp18 lp18 op18
     show G _ _ _ _ [_,_,_,_,_,_,_,_,_,_,_,_,_,_,_,_,_,_,_,_,_,_,_,_,_,_,_,_,_,_,_,_,_,_,_,_,_,_,_] _
     refine g_op (v := Value.pointer (some (p18.add 3))) rfl rfl (x_fieldAt rfl rfl rfl rfl rfl (m := 1) (fun _ => rfl) (by decide)) ?_
     refine s_load1 rfl rfl (v := Value.int .u16 ((rdL r7 x13 z_S_impl_crossing).f_load)) rfl rfl (fun _ => rfl) (CellsAt.sub hp18 3 1 (by first | rfl | (simp [enc_S_impl_crossing, len_S_impl_Bank, List.drop_append, List.take_append, encAI_len, encAB_len, encA_len, List.take_of_length_le, List.drop_eq_nil_of_le]))) ?_
     show G _ _ _ _ [_,_,_,_,_,_,_,_,_,_,_,_,_,_,_,_,_,_,_,_,_,_,_,_,_,_,_,_,_,_,_,_,_,_,_,_,_,_,_] _
     refine s_lit1 (fkI .u16) (y := (rdL r7 x13 z_S_impl_crossing).f_load) hs rfl rfl rfl rfl (fun _ => rfl) (zv := (Value.int .u16 0)) (fun _ => rfl) rfl (by decide) (by decide) rfl ?_
     intro v19 w hs
     show G _ _ _ _ [_,_,_,_,_,_,_,_,_,_,_,_,_,_,_,_,_,_,_,_,_,_,_,_,_,_,_,_,_,_,_,_,_,_,_,_,_,_,_] _
     have hs := hs.pull 2 rfl
     have hs : St _ [_,_,_] _ := hs
     obtain ⟨g, H⟩ := ite_get H
     refine s_append (fkI .u16) (zv := (Value.int .u16 0)) (B := 2) hs (hs.row 1 rfl) rfl rfl rfl rfl rfl rfl rfl rfl rfl (by decide) rfl rfl (by decide) (by omega) ?_
     intro v21 w hs
     show G _ _ _ _ [_,_,_,_,_,_,_,_,_,_,_,_,_,_,_,_,_,_,_,_,_,_,_,_,_,_,_,_,_,_,_,_,_,_,_,_,_,_,_] _
     refine g_op (v := v21) rfl rfl rfl ?_
     show G _ _ _ _ [_,_,_,_,_,_,_,_,_,_,_,_,_,_,_,_,_,_,_,_,_,_,_,_,_,_,_,_,_,_,_,_,_,_,_,_,_,_,_] _
     refine g_ops_nil ?_
     refine g_inBlock (g_region ?_)
     show G _ _ _ (.inRegion _ [0, 1, 2, 3, 4, 5] :: _) _ _
     refine g_op (v := v8) rfl rfl rfl ?_
     refine g_op (v := Value.int .i64 x13) rfl rfl rfl ?_
     obtain ⟨g3, H⟩ := ite_get H
     refine s_idx fk_S_impl_crossing z_S_impl_crossing (hs.row 2 rfl) rfl (fun _ => rfl) g3.1 g3.2 rfl rfl rfl rfl rfl ?_
     intro p23 hp23 lp23 op23
     show G _ _ _ _ [_,_,_,_,_,_,_,_,_,_,_,_,_,_,_,_,_,_,_,_,_,_,_,_,_,_,_,_,_,_,_,_,_,_,_,_,_,_,_] _
     refine g_op (v := Value.pointer (some (p23.add 2))) rfl rfl (x_fieldAt rfl rfl rfl rfl rfl (m := 1) (fun _ => rfl) (by decide)) ?_
     refine s_load1 rfl rfl (v := Value.int .i64 ((rdL r7 x13 z_S_impl_crossing).f_before)) rfl rfl (fun _ => rfl) (CellsAt.sub hp23 2 1 (by first | rfl | (simp [enc_S_impl_crossing, len_S_impl_Bank, List.drop_append, List.take_append, encAI_len, encAB_len, encA_len, List.take_of_length_le, List.drop_eq_nil_of_le]))) ?_
     show G _ _ _ _ [_,_,_,_,_,_,_,_,_,_,_,_,_,_,_,_,_,_,_,_,_,_,_,_,_,_,_,_,_,_,_,_,_,_,_,_,_,_,_] _
     refine g_op (v := Value.int .i64 ((rdL r7 x13 z_S_impl_crossing).f_before)) rfl rfl rfl ?_
     show G _ _ _ _ [_,_,_,_,_,_,_,_,_,_,_,_,_,_,_,_,_,_,_,_,_,_,_,_,_,_,_,_,_,_,_,_,_,_,_,_,_,_,_] _
     refine g_ops_nil ?_
     obtain rfl := Option.some.inj H
     have hs := hs.pull 0 rfl
     have hs := hs.pull 2 rfl
     have hs : St _ [_,_] _ := St.take (Γ' := [_]) hs
     exact ih1_ _ _ ⟨(rdL r7 x13 z_S_impl_crossing).f_before, v21, x16 ++ ([(rdL r7 x13 z_S_impl_crossing).f_load]), Hx1_, rfl, hs⟩
    intro hb
    rw [if_neg (b_dec_f hb)] at H
    show G _ _ _ _ [_,_,_,_,_,_,_,_,_,_,_,_,_,_,_,_,_,_,_,_,_,_,_,_,_,_,_,_,_,_,_,_,_,_,_,_,_,_,_] _
    refine g_ops_nil (g_cond_false rfl ?_)
    obtain rfl := Option.some.inj H
    subst Hx1_
    have hs := hs.pull 1 rfl
    have hs : St _ [_] _ := St.take (Γ' := [_]) hs
    refine g_exit rfl ?_
    exact ha1_ _ _ ⟨v15, x16, Hr1_, rfl, hs⟩
  | false =>
    rw [if_neg Bool.false_ne_true] at H
    show G _ _ _ _ [_,_,_,_,_,_,_,_,_,_,_,_,_,_,_,_,_,_,_,_,_,_,_,_,_,_,_,_,_,_,_,_,_,_,_,_,_,_,_] _
    refine g_op (v := Value.bool true) rfl rfl rfl ?_
    show G _ _ _ _ [_,_,_,_,_,_,_,_,_,_,_,_,_,_,_,_,_,_,_,_,_,_,_,_,_,_,_,_,_,_,_,_,_,_,_,_,_,_,_] _
    refine g_ops_nil (g_cond_true rfl (g_seq (g_region ?_)))
    show G _ _ _ (.inRegion _ [0, 1] :: _) _ _
    refine g_op (v := Value.slice none 0 0) rfl rfl rfl ?_
    show G _ _ _ _ [_,_,_,_,_,_,_,_,_,_,_,_,_,_,_,_,_,_,_,_,_,_,_,_,_,_,_,_,_,_,_,_,_,_,_,_,_,_,_] _
    refine g_op (v := Value.int .i64 1) rfl rfl rfl ?_
    show G _ _ _ _ [_,_,_,_,_,_,_,_,_,_,_,_,_,_,_,_,_,_,_,_,_,_,_,_,_,_,_,_,_,_,_,_,_,_,_,_,_,_,_] _
    refine g_ops_nil ?_
    obtain rfl := Option.some.inj H
    refine g_ret Try.func14 (v := Value.tuple #[Value.slice none 0 0, Value.int .i64 1]) (resN (l := Try.f14.results.toList) (vs := [Value.slice none 0 0, Value.int .i64 1]) rfl ⟨rfl, rfl, trivial⟩ (by simp)) ?_
    have hs := hs.nil 31 (K.int .u16)
    have hs := hs.pull 0 rfl
    have hs : St _ [_] _ := St.take (Γ' := [_]) hs
    exact ⟨_, rfl, (Value.slice none 0 0), rfl, hs⟩

/- function 6 impl_LeastBoat -/
def impl_LeastBoat.post (w0 : World) (r : (Int × Int)) (v : Value) (w : World) : Prop := v = Value.tuple #[Value.int .i64 r.1, Value.int .i64 r.2] ∧ St w0 [] w
set_option maxHeartbeats 8000000 in
set_option maxRecDepth 100000 in
theorem impl_LeastBoat.calls {N : Nat} {a1 : S_impl_Ferry} {v2 : Value} {w0 : World} {r : (Int × Int)} (hr3 : RdRow (K.int .u16) w0 v2 a1.f_Rules) (H : impl_LeastBoat.f N a1 = some r) :
    Calls Try.prog 6 #[Value.agg (([Value.int .i8 a1.f_Things, Value.int .i8 a1.f_Boat, v2] : List Value)).toArray] w0 fun e w => ∃ v, e = .returned v ∧ impl_LeastBoat.post w0 r v w := by
  unfold impl_LeastBoat.f at H
  have hs : St w0 [] w0 := St.refl w0
  refine calls_of_g (n := 30) Try.func6 rfl rfl ?_
  show G _ _ _ _ [_,_,_,_,_,_,_,_,_,_,_,_,_,_,_,_,_,_,_,_,_,_,_,_,_,_,_,_,_,_,_] _
  refine g_seq (g_region ?_)
  show G _ _ _ (.inRegion _ [0, 1, 2] :: _) _ _
  refine s_box hs rfl rfl (cs := (([Value.int .i8 a1.f_Things, Value.int .i8 a1.f_Boat, v2] : List Value))) rfl rfl ?_
  intro b4 w hs
  show G _ _ _ _ [_,_,_,_,_,_,_,_,_,_,_,_,_,_,_,_,_,_,_,_,_,_,_,_,_,_,_,_,_,_,_] _
  refine g_op (v := Value.int .i64 0) rfl rfl rfl ?_
  show G _ _ _ _ [_,_,_,_,_,_,_,_,_,_,_,_,_,_,_,_,_,_,_,_,_,_,_,_,_,_,_,_,_,_,_] _
  refine g_op (v := Value.int .i64 0) rfl rfl rfl ?_
  show G _ _ _ _ [_,_,_,_,_,_,_,_,_,_,_,_,_,_,_,_,_,_,_,_,_,_,_,_,_,_,_,_,_,_,_] _
  refine g_ops_nil (g_seq (g_seq (g_region ?_)))
  show G _ _ _ (.inRegion _ [0, 1, 2] :: _) _ _
  refine s_loadA rfl rfl (es := (([Value.int .i8 a1.f_Things, Value.int .i8 a1.f_Boat, v2] : List Value))) rfl rfl (fun _ => rfl) (n := 3) (fun _ => rfl) rfl (cells_all (hs.cells 0 rfl)) ?_
  show G _ _ _ _ [_,_,_,_,_,_,_,_,_,_,_,_,_,_,_,_,_,_,_,_,_,_,_,_,_,_,_,_,_,_,_] _
  obtain ⟨r6, Hr6, H⟩ := bind_get H
  refine s_call (args := [Value.agg (([Value.int .i8 a1.f_Things, Value.int .i8 a1.f_Boat, v2] : List Value)).toArray]) rfl rfl (x_call rfl (callFunc_enter Try.func23 rfl rfl) rfl) (impl_ValidFerry.calls (a1 := (⟨a1.f_Things, a1.f_Boat, a1.f_Rules⟩ : S_impl_Ferry)) (hs.rd hr3) Hr6) ?_
  rintro _ w ⟨rfl, hs2⟩
  have hs : St _ [_] _ := hs.call hs2
  cases r6 with
  | true =>
    rw [if_pos rfl] at H
    show G _ _ _ _ [_,_,_,_,_,_,_,_,_,_,_,_,_,_,_,_,_,_,_,_,_,_,_,_,_,_,_,_,_,_,_] _
    refine g_op (v := Value.bool false) rfl rfl rfl ?_
    show G _ _ _ _ [_,_,_,_,_,_,_,_,_,_,_,_,_,_,_,_,_,_,_,_,_,_,_,_,_,_,_,_,_,_,_] _
    refine g_ops_nil (g_cond_false rfl (g_skip (g_seq (g_seq (g_region ?_)))))
    show G _ _ _ (.inRegion _ [0, 1, 2, 3] :: _) _ _
    refine g_op (v := Value.pointer (some ⟨b4, 0, none⟩)) rfl rfl rfl ?_
    refine s_load1 rfl rfl (v := Value.int .i8 a1.f_Things) rfl rfl (fun _ => rfl) (cells_load (hs.cells 0 rfl) 0 1 rfl) ?_
    show G _ _ _ _ [_,_,_,_,_,_,_,_,_,_,_,_,_,_,_,_,_,_,_,_,_,_,_,_,_,_,_,_,_,_,_] _
    refine g_op (v := Value.int .i8 (i8w (a1.f_Things + 1))) rfl rfl rfl ?_
    show G _ _ _ _ [_,_,_,_,_,_,_,_,_,_,_,_,_,_,_,_,_,_,_,_,_,_,_,_,_,_,_,_,_,_,_] _
    refine g_op (v := Value.int .i8 0) rfl rfl rfl (g_ops_nil ?_)
    obtain ⟨o1_, Ho, Hr1_⟩ := bind_get H
    refine g_block_join (J := fun t w => impl_LeastBoat.a0 N = some r ∧ Fr t (fun O => ([O 0, O 1, O 2, O 3, O 4, O 5, O 6, O 7, O 8, O 9, O 10, O 11, O 12, O 13, O 14, O 15, O 16, O 17, O 18, O 19, O 20, O 21, O 22, O 23, O 24, O 25, O 26, O 27, O 28, O 29, O 30] : List Value)) ∧ St w0 [] w) ?_ ?_
    ·
     rintro t w ⟨H, hf, hs⟩
     obtain ⟨O, rfl⟩ := hf.open
     show G _ _ _ _ [_,_,_,_,_,_,_,_,_,_,_,_,_,_,_,_,_,_,_,_,_,_,_,_,_,_,_,_,_,_,_] _
     unfold impl_LeastBoat.a0 at H
     refine g_seq (g_region ?_)
     show G _ _ _ (.inRegion _ [0, 1] :: _) _ _
     refine g_op (v := Value.int .i64 0) rfl rfl rfl ?_
     show G _ _ _ _ [_,_,_,_,_,_,_,_,_,_,_,_,_,_,_,_,_,_,_,_,_,_,_,_,_,_,_,_,_,_,_] _
     refine g_op (v := Value.int .i64 6) rfl rfl rfl ?_
     show G _ _ _ _ [_,_,_,_,_,_,_,_,_,_,_,_,_,_,_,_,_,_,_,_,_,_,_,_,_,_,_,_,_,_,_] _
     refine g_ops_nil ?_
     obtain rfl := Option.some.inj H
     refine g_ret Try.func6 (v := Value.tuple #[Value.int .i64 0, Value.int .i64 6]) (resN (l := Try.f6.results.toList) (vs := [Value.int .i64 0, Value.int .i64 6]) rfl ⟨rfl, rfl, trivial⟩ (by simp)) ?_
     have hs : St _ [] _ := St.take (Γ' := []) hs
     exact ⟨_, rfl, rfl, hs⟩
    intro ha1_
    have hs := hs.pull 0 rfl
    have hs : St _ [_] _ := St.take (Γ' := []) hs
    refine g_loop_fuel (I := fun n_ t w => ∃ x7 : Int, rounds (fun s => impl_LeastBoat.b0 N a1 s) n_ x7 = some o1_ ∧ Fr t (fun O => ([O 0, Value.pointer (some ⟨b4, 0, none⟩), O 2, O 3, O 4, O 5, O 6, O 7, O 8, O 9, O 10, O 11, Value.int .i8 (i8w (a1.f_Things + 1)), Value.int .i8 x7, O 14, O 15, O 16, O 17, O 18, O 19, O 20, O 21, O 22, O 23, O 24, O 25, O 26, O 27, O 28, O 29, O 30] : List Value)) ∧ St w0 [Cells b4 (([Value.int .i8 a1.f_Things, Value.int .i8 a1.f_Boat, v2] : List Value)) 27] w) N ⟨0, Ho, rfl, hs⟩ ?_ ?_
    ·
     rintro _ _ ⟨x7, h, _⟩
     exact rounds_zero h
    intro n_ ih1_
    rintro t w ⟨x7, Ho, hf, hs⟩
    obtain ⟨O, rfl⟩ := hf.open
    show G _ _ _ _ [_,_,_,_,_,_,_,_,_,_,_,_,_,_,_,_,_,_,_,_,_,_,_,_,_,_,_,_,_,_,_] _
    obtain ⟨x1_, H, Hx1_⟩ := rounds_succ Ho
    have H : impl_LeastBoat.b0 N a1 x7 = some x1_ := H
    unfold impl_LeastBoat.b0 at H
    refine g_seq (g_region ?_)
    show G _ _ _ (.inRegion _ [0] :: _) _ _
    refine g_op_b (B := decide (x7 < (i8w (a1.f_Things + 1)))) rfl rfl rfl ?_ ?_
    ·
     intro hb
     rw [if_pos (b_dec_t hb)] at H
     show G _ _ _ _ [_,_,_,_,_,_,_,_,_,_,_,_,_,_,_,_,_,_,_,_,_,_,_,_,_,_,_,_,_,_,_] _
     refine g_ops_nil (g_seq (g_cond_true rfl (g_skip (g_seq ?_))))
     refine g_block (g_seq (g_region ?_))
     show G _ _ _ (.inRegion _ [0, 1] :: _) _ _
     refine g_op (v := Value.int .i8 x7) rfl rfl rfl ?_
     refine g_op (v := Value.int .i8 x7) rfl rfl rfl ?_
     show G _ _ _ _ [_,_,_,_,_,_,_,_,_,_,_,_,_,_,_,_,_,_,_,_,_,_,_,_,_,_,_,_,_,_,_] _
     refine g_ops_nil (g_seq (g_region ?_))
     show G _ _ _ (.inRegion _ [0, 1, 2, 3, 4, 5, 6, 7, 8, 9, 10, 11] :: _) _ _
     refine g_op (v := Value.pointer (some ⟨b4, 0, none⟩)) rfl rfl rfl ?_
     refine s_load1 rfl rfl (v := Value.int .i8 a1.f_Things) rfl rfl (fun _ => rfl) (cells_load (hs.cells 0 rfl) 0 1 rfl) ?_
     show G _ _ _ _ [_,_,_,_,_,_,_,_,_,_,_,_,_,_,_,_,_,_,_,_,_,_,_,_,_,_,_,_,_,_,_] _
     refine g_op (v := Value.int .i8 x7) rfl rfl rfl ?_
     refine g_op (v := Value.pointer (some ⟨b4, 2, none⟩)) rfl rfl rfl ?_
     refine s_load1 rfl rfl (v := v2) rfl rfl (fun _ => rfl) (cells_load (hs.cells 0 rfl) 2 1 rfl) ?_
     show G _ _ _ _ [_,_,_,_,_,_,_,_,_,_,_,_,_,_,_,_,_,_,_,_,_,_,_,_,_,_,_,_,_,_,_] _
     refine g_op (v := Value.agg (([Value.int .i8 a1.f_Things, Value.int .i8 x7, v2] : List Value)).toArray) rfl rfl (x_buildS (cs := (([Value.int .i8 a1.f_Things, Value.int .i8 x7, v2] : List Value))) (segs := [[Value.int .i8 0], [Value.int .i8 0], [Value.slice none 0 0]]) rfl rfl (fun _ => rfl) ⟨rfl, (fun _ => rfl), rfl, (fun _ => rfl), rfl, (fun _ => rfl), trivial⟩ (by simp only [List.map_cons, List.map_nil, List.forall_mem_cons, List.not_mem_nil, false_implies, implies_true, and_true]; exact ⟨⟨_, rfl, rfl⟩, ⟨_, rfl, rfl⟩, ⟨_, rfl, slSize (hs.rd hr3)⟩⟩) (by first | rfl | (simp [ev, encA, slCells (hs.rd hr3)]; done) | (simp [ev, encA, slCells (hs.rd hr3)]; rfl))) ?_
     show G _ _ _ _ [_,_,_,_,_,_,_,_,_,_,_,_,_,_,_,_,_,_,_,_,_,_,_,_,_,_,_,_,_,_,_] _
     obtain ⟨r8, Hr8, H⟩ := bind_get H
     refine s_call (args := [Value.agg (([Value.int .i8 a1.f_Things, Value.int .i8 x7, v2] : List Value)).toArray]) rfl rfl (x_call rfl (callFunc_enter Try.func14 rfl rfl) rfl) (impl_ShortestCrossing.calls (a1 := (⟨a1.f_Things, x7, a1.f_Rules⟩ : S_impl_Ferry)) (hs.rd hr3) Hr8) ?_
     rintro _ w ⟨v9, rfl, hs2⟩
     have hs : St _ [_,_] _ := hs.call hs2
     show G _ _ _ _ [_,_,_,_,_,_,_,_,_,_,_,_,_,_,_,_,_,_,_,_,_,_,_,_,_,_,_,_,_,_,_] _
     refine g_op (v := Value.tuple #[v9, Value.int .i64 r8.2]) rfl rfl rfl ?_
     refine g_op (v := v9) rfl rfl rfl ?_
     refine g_op (v := Value.int .i64 r8.2) rfl rfl rfl ?_
     refine g_op (v := v9) rfl rfl rfl ?_
     show G _ _ _ _ [_,_,_,_,_,_,_,_,_,_,_,_,_,_,_,_,_,_,_,_,_,_,_,_,_,_,_,_,_,_,_] _
     refine g_op (v := Value.int .i64 r8.2) rfl rfl rfl ?_
     show G _ _ _ _ [_,_,_,_,_,_,_,_,_,_,_,_,_,_,_,_,_,_,_,_,_,_,_,_,_,_,_,_,_,_,_] _
     refine g_ops_nil (g_seq (g_region ?_))
     show G _ _ _ (.inRegion _ [0, 1] :: _) _ _
     refine g_op (v := Value.int .i64 r8.2) rfl rfl rfl ?_
     refine g_op_b (B := r8.2 == 0) rfl rfl rfl ?_ ?_
     ·
      intro hb
      rw [if_pos (b_beq_t hb)] at H
      show G _ _ _ _ [_,_,_,_,_,_,_,_,_,_,_,_,_,_,_,_,_,_,_,_,_,_,_,_,_,_,_,_,_,_,_] _
      refine g_ops_nil (g_cond_true rfl (g_seq (g_region ?_)))
      show G _ _ _ (.inRegion _ [0, 1, 2, 3] :: _) _ _
      refine g_op (v := Value.int .i8 x7) rfl rfl rfl ?_
      refine g_op (v := Value.int .i64 (i64w x7)) rfl rfl rfl ?_
      refine g_op (v := Value.int .i64 (i64w x7)) rfl rfl rfl ?_
      show G _ _ _ _ [_,_,_,_,_,_,_,_,_,_,_,_,_,_,_,_,_,_,_,_,_,_,_,_,_,_,_,_,_,_,_] _
      refine g_op (v := Value.int .i64 0) rfl rfl rfl ?_
      show G _ _ _ _ [_,_,_,_,_,_,_,_,_,_,_,_,_,_,_,_,_,_,_,_,_,_,_,_,_,_,_,_,_,_,_] _
      refine g_ops_nil ?_
      obtain rfl := Option.some.inj H
      subst Hx1_
      have H := Option.some.inj Hr1_
      subst H
      refine g_ret Try.func6 (v := Value.tuple #[Value.int .i64 (i64w x7), Value.int .i64 0]) (resN (l := Try.f6.results.toList) (vs := [Value.int .i64 (i64w x7), Value.int .i64 0]) rfl ⟨rfl, rfl, trivial⟩ (by simp)) ?_
      have hs : St _ [] _ := St.take (Γ' := [_,_]) hs
      exact ⟨_, rfl, rfl, hs⟩
     intro hb
     rw [if_neg (b_beq_f hb)] at H
     show G _ _ _ _ [_,_,_,_,_,_,_,_,_,_,_,_,_,_,_,_,_,_,_,_,_,_,_,_,_,_,_,_,_,_,_] _
     refine g_ops_nil (g_cond_false rfl (g_skip ?_))
     refine g_inBlock (g_region ?_)
     show G _ _ _ (.inRegion _ [0, 1] :: _) _ _
     refine g_op (v := Value.int .i8 (i8w (x7 + 1))) rfl rfl rfl ?_
     show G _ _ _ _ [_,_,_,_,_,_,_,_,_,_,_,_,_,_,_,_,_,_,_,_,_,_,_,_,_,_,_,_,_,_,_] _
     refine g_op (v := Value.int .i8 (i8w (x7 + 1))) rfl rfl rfl (g_ops_nil ?_)
     obtain rfl := Option.some.inj H
     have hs := hs.pull 1 rfl
     have hs : St _ [_] _ := St.take (Γ' := [_]) hs
     exact ih1_ _ _ ⟨i8w (x7 + 1), Hx1_, rfl, hs⟩
    intro hb
    rw [if_neg (b_dec_f hb)] at H
    show G _ _ _ _ [_,_,_,_,_,_,_,_,_,_,_,_,_,_,_,_,_,_,_,_,_,_,_,_,_,_,_,_,_,_,_] _
    refine g_ops_nil (g_seq (g_cond_false rfl ?_))
    obtain rfl := Option.some.inj H
    subst Hx1_
    have hs : St _ [] _ := St.take (Γ' := [_]) hs
    refine g_exit rfl ?_
    exact ha1_ _ _ ⟨Hr1_, rfl, hs⟩
  | false =>
    rw [if_neg Bool.false_ne_true] at H
    show G _ _ _ _ [_,_,_,_,_,_,_,_,_,_,_,_,_,_,_,_,_,_,_,_,_,_,_,_,_,_,_,_,_,_,_] _
    refine g_op (v := Value.bool true) rfl rfl rfl ?_
    show G _ _ _ _ [_,_,_,_,_,_,_,_,_,_,_,_,_,_,_,_,_,_,_,_,_,_,_,_,_,_,_,_,_,_,_] _
    refine g_ops_nil (g_cond_true rfl (g_seq (g_region ?_)))
    show G _ _ _ (.inRegion _ [0, 1] :: _) _ _
    refine g_op (v := Value.int .i64 0) rfl rfl rfl ?_
    show G _ _ _ _ [_,_,_,_,_,_,_,_,_,_,_,_,_,_,_,_,_,_,_,_,_,_,_,_,_,_,_,_,_,_,_] _
    refine g_op (v := Value.int .i64 1) rfl rfl rfl ?_
    show G _ _ _ _ [_,_,_,_,_,_,_,_,_,_,_,_,_,_,_,_,_,_,_,_,_,_,_,_,_,_,_,_,_,_,_] _
    refine g_ops_nil ?_
    obtain rfl := Option.some.inj H
    refine g_ret Try.func6 (v := Value.tuple #[Value.int .i64 0, Value.int .i64 1]) (resN (l := Try.f6.results.toList) (vs := [Value.int .i64 0, Value.int .i64 1]) rfl ⟨rfl, rfl, trivial⟩ (by simp)) ?_
    have hs : St _ [] _ := St.take (Γ' := [_]) hs
    exact ⟨_, rfl, rfl, hs⟩

/- function 40 spec_l00In -/
def spec_l00In.post (w0 : World) (r : Bool) (v : Value) (w : World) : Prop := v = Value.bool r ∧ St w0 [] w
set_option maxHeartbeats 8000000 in
set_option maxRecDepth 100000 in
theorem spec_l00In.calls {N : Nat} {a1 : Int} {a2 : Int} {a3 : Int} {w0 : World} {r : Bool} (H : spec_l00In.f N a1 a2 a3 = some r) :
    Calls Try.prog 40 #[Value.int .i64 a1, Value.int .i64 a2, Value.int .i64 a3] w0 fun e w => ∃ v, e = .returned v ∧ spec_l00In.post w0 r v w := by
  unfold spec_l00In.f at H
  have hs : St w0 [] w0 := St.refl w0
  refine calls_of_g (n := 12) Try.func40 rfl rfl ?_
  show G _ _ _ _ [_,_,_,_,_,_,_,_,_,_,_,_,_,_,_] _
  refine g_seq (g_region ?_)
  show G _ _ _ (.inRegion _ [0] :: _) _ _
  refine g_op (v := Value.bool false) rfl rfl rfl ?_
  show G _ _ _ _ [_,_,_,_,_,_,_,_,_,_,_,_,_,_,_] _
  refine g_ops_nil (g_seq (g_region ?_))
  show G _ _ _ (.inRegion _ [0, 1, 2, 3, 4, 5, 6, 7, 8] :: _) _ _
  refine g_op (v := Value.int .i64 a1) rfl rfl rfl ?_
  show G _ _ _ _ [_,_,_,_,_,_,_,_,_,_,_,_,_,_,_] _
  refine g_op (v := Value.int .i64 a2) rfl rfl rfl ?_
  show G _ _ _ _ [_,_,_,_,_,_,_,_,_,_,_,_,_,_,_] _
  refine g_op_b (B := decide (a1 ≥ a2)) rfl rfl rfl ?_ ?_
  ·
   intro hb
   rw [if_pos (b_dec_t hb)] at H
   show G _ _ _ _ [_,_,_,_,_,_,_,_,_,_,_,_,_,_,_] _
   refine g_op (v := Value.bool true) rfl rfl rfl ?_
   show G _ _ _ _ [_,_,_,_,_,_,_,_,_,_,_,_,_,_,_] _
   refine g_op (v := Value.int .i64 a1) rfl rfl rfl ?_
   show G _ _ _ _ [_,_,_,_,_,_,_,_,_,_,_,_,_,_,_] _
   refine g_op (v := Value.int .i64 a3) rfl rfl rfl ?_
   show G _ _ _ _ [_,_,_,_,_,_,_,_,_,_,_,_,_,_,_] _
   refine g_op (v := Value.bool (decide (a1 ≤ a3))) rfl rfl rfl ?_
   show G _ _ _ _ [_,_,_,_,_,_,_,_,_,_,_,_,_,_,_] _
   refine g_op (v := Value.bool (decide (a1 ≤ a3))) rfl rfl rfl ?_
   show G _ _ _ _ [_,_,_,_,_,_,_,_,_,_,_,_,_,_,_] _
   refine g_op (v := Value.bool (decide (a1 ≤ a3))) rfl rfl rfl ?_
   show G _ _ _ _ [_,_,_,_,_,_,_,_,_,_,_,_,_,_,_] _
   refine g_ops_nil ?_
   obtain rfl := Option.some.inj H
   refine g_ret Try.func40 (v := Value.bool (decide (a1 ≤ a3))) (res1 rfl rfl) ?_
   have hs : St _ [] _ := St.take (Γ' := []) hs
   exact ⟨_, rfl, rfl, hs⟩
  intro hb
  rw [if_neg (b_dec_f hb)] at H
  show G _ _ _ _ [_,_,_,_,_,_,_,_,_,_,_,_,_,_,_] _
  refine g_op (v := Value.bool false) rfl rfl rfl ?_
  show G _ _ _ _ [_,_,_,_,_,_,_,_,_,_,_,_,_,_,_] _
  refine g_op_not rfl rfl ?_
  show G _ _ _ _ [_,_,_,_,_,_,_,_,_,_,_,_,_,_,_] _
  refine g_op_not rfl rfl ?_
  show G _ _ _ _ [_,_,_,_,_,_,_,_,_,_,_,_,_,_,_] _
  refine g_op_not rfl rfl ?_
  show G _ _ _ _ [_,_,_,_,_,_,_,_,_,_,_,_,_,_,_] _
  refine g_op (v := Value.bool false) rfl rfl rfl ?_
  show G _ _ _ _ [_,_,_,_,_,_,_,_,_,_,_,_,_,_,_] _
  refine g_op (v := Value.bool false) rfl rfl rfl ?_
  show G _ _ _ _ [_,_,_,_,_,_,_,_,_,_,_,_,_,_,_] _
  refine g_ops_nil ?_
  obtain rfl := Option.some.inj H
  refine g_ret Try.func40 (v := Value.bool false) (res1 rfl rfl) ?_
  have hs : St _ [] _ := St.take (Γ' := []) hs
  exact ⟨_, rfl, rfl, hs⟩

/- function 30 spec_l05All -/
def spec_l05All.post (w0 : World) (r : Int) (v : Value) (w : World) : Prop := v = Value.int .u16 r ∧ St w0 [] w
set_option maxHeartbeats 8000000 in
set_option maxRecDepth 100000 in
theorem spec_l05All.calls {N : Nat} {a1 : S_impl_Ferry} {b2 : Nat} {v3 : Value} {w0 : World} {r : Int} (hr4 : RdRow (K.int .u16) w0 v3 a1.f_Rules) (hp0 : w0.heap[b2]? = some (.cells ((([Value.int .i8 a1.f_Things, Value.int .i8 a1.f_Boat, v3] : List Value)) : List Value).toArray 27 (0, 0))) (H : spec_l05All.f N a1 = some r) :
    Calls Try.prog 30 #[Value.pointer (some ⟨b2, 0, none⟩)] w0 fun e w => ∃ v, e = .returned v ∧ spec_l05All.post w0 r v w := by
  unfold spec_l05All.f at H
  have hs : St w0 [] w0 := St.refl w0
  refine calls_of_g (n := 9) Try.func30 rfl rfl ?_
  show G _ _ _ _ [_,_,_,_,_,_,_,_,_,_] _
  refine g_seq (g_region ?_)
  show G _ _ _ (.inRegion _ [0] :: _) _ _
  refine g_op (v := Value.int .u16 0) rfl rfl rfl ?_
  show G _ _ _ _ [_,_,_,_,_,_,_,_,_,_] _
  refine g_ops_nil (g_seq (g_region ?_))
  show G _ _ _ (.inRegion _ [0, 1, 2, 3, 4, 5, 6, 7] :: _) _ _
  refine g_op (v := Value.pointer (some ⟨b2, 0, none⟩)) rfl rfl rfl ?_
  show G _ _ _ _ [_,_,_,_,_,_,_,_,_,_] _
  refine g_op (v := Value.pointer (some ⟨b2, 0, none⟩)) rfl rfl rfl ?_
  show G _ _ _ _ [_,_,_,_,_,_,_,_,_,_] _
  refine g_op (v := Value.pointer (some ⟨b2, 0, none⟩)) rfl rfl rfl ?_
  show G _ _ _ _ [_,_,_,_,_,_,_,_,_,_] _
  refine s_load1 rfl rfl (v := Value.int .i8 a1.f_Things) rfl rfl (fun _ => rfl) (cells_load (hs.box hp0) 0 1 rfl) ?_
  show G _ _ _ _ [_,_,_,_,_,_,_,_,_,_] _
  refine g_op (v := Value.int .u64 (u64w a1.f_Things)) rfl rfl rfl ?_
  show G _ _ _ _ [_,_,_,_,_,_,_,_,_,_] _
  obtain ⟨g1, H⟩ := ite_get H
  refine g_op (v := Value.int .u16 (shlI .u16 1 (u64w a1.f_Things))) rfl rfl (x_shl rfl rfl rfl g1) ?_
  show G _ _ _ _ [_,_,_,_,_,_,_,_,_,_] _
  refine g_op (v := Value.int .u16 (u16w ((shlI .u16 1 (u64w a1.f_Things)) - 1))) rfl rfl rfl ?_
  show G _ _ _ _ [_,_,_,_,_,_,_,_,_,_] _
  refine g_op (v := Value.int .u16 (u16w ((shlI .u16 1 (u64w a1.f_Things)) - 1))) rfl rfl rfl ?_
  show G _ _ _ _ [_,_,_,_,_,_,_,_,_,_] _
  refine g_ops_nil ?_
  obtain rfl := Option.some.inj H
  refine g_ret Try.func30 (v := Value.int .u16 (u16w ((shlI .u16 1 (u64w a1.f_Things)) - 1))) (res1 rfl rfl) ?_
  have hs : St _ [] _ := St.take (Γ' := []) hs
  exact ⟨_, rfl, rfl, hs⟩

/- function 32 spec_l05Size -/
def spec_l05Size.post (w0 : World) (r : Int) (v : Value) (w : World) : Prop := v = Value.int .i64 r ∧ St w0 [] w
set_option maxHeartbeats 8000000 in
set_option maxRecDepth 100000 in
theorem spec_l05Size.calls {N : Nat} {a1 : Int} {w0 : World} {r : Int} (H : spec_l05Size.f N a1 = some r) :
    Calls Try.prog 32 #[Value.int .u16 a1] w0 fun e w => ∃ v, e = .returned v ∧ spec_l05Size.post w0 r v w := by
  unfold spec_l05Size.f at H
  have hs : St w0 [] w0 := St.refl w0
  refine calls_of_g (n := 13) Try.func32 rfl rfl ?_
  show G _ _ _ _ [_,_,_,_,_,_,_,_,_,_,_,_,_,_] _
  refine g_seq (g_region ?_)
  show G _ _ _ (.inRegion _ [0] :: _) _ _
  refine g_op (v := Value.int .i64 0) rfl rfl rfl ?_
  show G _ _ _ _ [_,_,_,_,_,_,_,_,_,_,_,_,_,_] _
  refine g_ops_nil (g_seq (g_region ?_))
  show G _ _ _ (.inRegion _ [0] :: _) _ _
  refine g_op (v := Value.int .i64 0) rfl rfl rfl ?_
  show G _ _ _ _ [_,_,_,_,_,_,_,_,_,_,_,_,_,_] _
  refine g_ops_nil (g_seq ?_)
  obtain ⟨o1_, Ho, Hr1_⟩ := bind_get H
  refine g_block_join (J := fun t w => ∃ x4 : Int, spec_l05Size.a0 N x4 = some r ∧ Fr t (fun O => ([O 0, O 1, O 2, Value.int .i64 x4, O 4, O 5, O 6, O 7, O 8, O 9, O 10, O 11, O 12, O 13] : List Value)) ∧ St w0 [] w) ?_ ?_
  ·
   rintro t w ⟨x4, H, hf, hs⟩
   obtain ⟨O, rfl⟩ := hf.open
   show G _ _ _ _ [_,_,_,_,_,_,_,_,_,_,_,_,_,_] _
   unfold spec_l05Size.a0 at H
   refine g_seq (g_region ?_)
   show G _ _ _ (.inRegion _ [0, 1] :: _) _ _
   refine g_op (v := Value.int .i64 x4) rfl rfl rfl ?_
   show G _ _ _ _ [_,_,_,_,_,_,_,_,_,_,_,_,_,_] _
   refine g_op (v := Value.int .i64 x4) rfl rfl rfl ?_
   show G _ _ _ _ [_,_,_,_,_,_,_,_,_,_,_,_,_,_] _
   refine g_ops_nil ?_
   obtain rfl := Option.some.inj H
   refine g_ret Try.func32 (v := Value.int .i64 x4) (res1 rfl rfl) ?_
   have hs : St _ [] _ := St.take (Γ' := []) hs
   exact ⟨_, rfl, rfl, hs⟩
  intro ha1_
  have hs : St _ [] _ := St.take (Γ' := []) hs
  refine g_loop_fuel (I := fun n_ t w => ∃ x2 : Int, ∃ x3 : Int, rounds (fun s => spec_l05Size.b0 N s.1 s.2) n_ (x2, x3) = some o1_ ∧ Fr t (fun O => ([Value.int .u16 x2, O 1, O 2, Value.int .i64 x3, O 4, O 5, O 6, O 7, O 8, O 9, O 10, O 11, O 12, O 13] : List Value)) ∧ St w0 [] w) N ⟨a1, 0, Ho, rfl, hs⟩ ?_ ?_
  ·
   rintro _ _ ⟨x2, x3, h, _⟩
   exact rounds_zero h
  intro n_ ih1_
  rintro t w ⟨x2, x3, Ho, hf, hs⟩
  obtain ⟨O, rfl⟩ := hf.open
  show G _ _ _ _ [_,_,_,_,_,_,_,_,_,_,_,_,_,_] _
  obtain ⟨x1_, H, Hx1_⟩ := rounds_succ Ho
  have H : spec_l05Size.b0 N x2 x3 = some x1_ := H
  unfold spec_l05Size.b0 at H
  refine g_seq (g_seq (g_region ?_))
  show G _ _ _ (.inRegion _ [0, 1] :: _) _ _
  refine g_op (v := Value.int .u16 x2) rfl rfl rfl ?_
  show G _ _ _ _ [_,_,_,_,_,_,_,_,_,_,_,_,_,_] _
  refine g_op_b (B := decide (x2 > 0)) rfl rfl rfl ?_ ?_
  ·
   intro hb
   rw [if_pos (b_dec_t hb)] at H
   show G _ _ _ _ [_,_,_,_,_,_,_,_,_,_,_,_,_,_] _
   refine g_ops_nil (g_cond_true rfl (g_skip (g_seq ?_)))
   refine g_block (g_region ?_)
   show G _ _ _ (.inRegion _ [0, 1, 2, 3, 4, 5] :: _) _ _
   refine g_op (v := Value.int .i64 x3) rfl rfl rfl ?_
   show G _ _ _ _ [_,_,_,_,_,_,_,_,_,_,_,_,_,_] _
   refine g_op (v := Value.int .u16 x2) rfl rfl rfl ?_
   show G _ _ _ _ [_,_,_,_,_,_,_,_,_,_,_,_,_,_] _
   refine g_op (v := Value.int .u16 (x2.tmod 2)) rfl rfl rfl ?_
   show G _ _ _ _ [_,_,_,_,_,_,_,_,_,_,_,_,_,_] _
   refine g_op (v := Value.int .i64 (i64w (x2.tmod 2))) rfl rfl rfl ?_
   show G _ _ _ _ [_,_,_,_,_,_,_,_,_,_,_,_,_,_] _
   refine g_op (v := Value.int .i64 (i64w (x3 + (i64w (x2.tmod 2))))) rfl rfl rfl ?_
   show G _ _ _ _ [_,_,_,_,_,_,_,_,_,_,_,_,_,_] _
   refine g_op (v := Value.int .i64 (i64w (x3 + (i64w (x2.tmod 2))))) rfl rfl rfl ?_
   show G _ _ _ _ [_,_,_,_,_,_,_,_,_,_,_,_,_,_] _
   refine g_ops_nil ?_
   refine g_inBlock (g_region ?_)
   show G _ _ _ (.inRegion _ [0, 1, 2] :: _) _ _
   refine g_op (v := Value.int .u16 x2) rfl rfl rfl ?_
   show G _ _ _ _ [_,_,_,_,_,_,_,_,_,_,_,_,_,_] _
   refine g_op (v := Value.int .u16 (u16w (x2.tdiv 2))) rfl rfl rfl ?_
   show G _ _ _ _ [_,_,_,_,_,_,_,_,_,_,_,_,_,_] _
   refine g_op (v := Value.int .u16 (u16w (x2.tdiv 2))) rfl rfl rfl ?_
   show G _ _ _ _ [_,_,_,_,_,_,_,_,_,_,_,_,_,_] _
   refine g_ops_nil ?_
   obtain rfl := Option.some.inj H
   have hs : St _ [] _ := St.take (Γ' := []) hs
   exact ih1_ _ _ ⟨u16w (x2.tdiv 2), i64w (x3 + (i64w (x2.tmod 2))), Hx1_, rfl, hs⟩
  intro hb
  rw [if_neg (b_dec_f hb)] at H
  show G _ _ _ _ [_,_,_,_,_,_,_,_,_,_,_,_,_,_] _
  refine g_ops_nil (g_cond_false rfl ?_)
  obtain rfl := Option.some.inj H
  subst Hx1_
  have hs : St _ [] _ := St.take (Γ' := []) hs
  refine g_exit rfl ?_
  exact ha1_ _ _ ⟨x3, Hr1_, rfl, hs⟩

end Go.Proofs.YtcaokmnajnfpiaaX
