/- Contracts, printed by gen.py. -/
import Derived.Test.YtmnaclghakalmaaXT
import Derived.Test.YtmnaclghakalmaaProg
import Derived.Test.YtmnaclghakalmaaXRowR
import Derived.Test.YtmnaclghakalmaaXSq
import Derived.Test.YtmnaclghakalmaaXSeg
import Derived.Test.YtmnaclghakalmaaXKey
import Derived.Test.YtmnaclghakalmaaXIter
import Derived.Test.YtmnaclghakalmaaXRow2
import Derived.Test.YtmnaclghakalmaaXEla
import Derived.Test.YtmnaclghakalmaaTCX
import Derived.Test.YtmnaclghakalmaaXC0
import Derived.Test.YtmnaclghakalmaaXC8
namespace Go.Proofs.YtmnaclghakalmaaX
open Go Go.RowKit Go.Proofs
set_option linter.unusedVariables false
set_option linter.unusedSimpArgs false
/- function 35 _impl_Glasses_turns_1 -/
def _impl_Glasses_turns_1.post (wb : World) (Z : As) (b4 : Nat) (v8 : Value) (mm10 : (List (Option Nat))) (b7 : Nat) (v8 : Value) (r : (Int × (List (Option (List ((Ar Int 4) × Int)))) × (List (Option (List ((Ar Int 4) × Int)))))) (v : Value) (w : World) : Prop := v = Value.tuple #[] ∧ St wb [Cells b4 ((encI .i64) r.1) 2, Rows2 43 kHM (MapO (ekA (n := 4) .i16) (Value.int .i64)) v8 mm10 r.2.1, Cells b7 [v8] 44, Z] w
set_option maxHeartbeats 8000000 in
set_option maxRecDepth 100000 in
theorem _impl_Glasses_turns_1.calls {N : Nat} {a1 : Int} {a2 : S_impl_moment} {a3 : Int} {a6 : (List (Option (List ((Ar Int 4) × Int))))} {b4 : Nat} {b7 : Nat} {v8 : Value} {mm10 : (List (Option Nat))} {wb : World} {Z : As} {w0 : World} {r : (Int × (List (Option (List ((Ar Int 4) × Int)))) × (List (Option (List ((Ar Int 4) × Int)))))} (hs : St wb [Cells b4 ((encI .i64) a3) 2, Rows2 43 kHM (MapO (ekA (n := 4) .i16) (Value.int .i64)) v8 mm10 a6, Cells b7 ([v8]) 44, Z] w0) (H : _impl_Glasses_turns_1.f N a1 a2 a3 a6 = some r) :
    Calls Try.prog 35 #[Value.int .u8 a1, Value.agg (enc_S_impl_moment a2).toArray, Value.pointer (some ⟨b4, 0, none⟩), Value.pointer (some ⟨b7, 0, none⟩)] w0 fun e w => ∃ v, e = .returned v ∧ _impl_Glasses_turns_1.post wb Z b4 v8 mm10 b7 v8 r v w := by
  unfold _impl_Glasses_turns_1.f at H
  refine calls_of_g (n := 35) Try.func35 rfl rfl ?_
  show G _ _ _ _ [_,_,_,_,_,_,_,_,_,_,_,_,_,_,_,_,_,_,_,_,_,_,_,_,_,_,_,_,_,_,_,_,_,_,_,_,_,_,_] _
  refine g_seq (g_rg [0] rfl ?_)
  refine s_box hs rfl rfl (cs := (enc_S_impl_moment a2)) rfl rfl ?_
  intro b12 w hs
  show G _ _ _ _ [_,_,_,_,_,_,_,_,_,_,_,_,_,_,_,_,_,_,_,_,_,_,_,_,_,_,_,_,_,_,_,_,_,_,_,_,_,_,_] _
  refine g_ops_nil (g_seq ?_)
  obtain ⟨r14, Hr14, H⟩ := bind_get H
  refine g_name ?_
  intro T hT
  refine g_any (n := 5) rfl [0, 1, 2, 3, 4] [0, 1, 2, 3, 4] rfl rfl (Inv := fun D t w => ∃ O : Nat → Value, t = [Value.int .u8 a1, Value.agg (enc_S_impl_moment a2).toArray, Value.pointer (some ⟨b4, 0, none⟩), Value.pointer (some ⟨b7, 0, none⟩), O 4, Value.pointer (some ⟨b12, 0, none⟩), cnd (D 4) (Value.int .i64 (i64w (a3 + r14))) (O 6), O 7, O 8, cnd (D 0) (Value.int .i64 a3) (O 9), cnd (D 1) (Value.int .u8 a1) (O 10), cnd (D 2) (Value.int .i64 r14) (O 11), cnd (D 3) (Value.int .i64 (i64w (a3 + r14))) (O 12), O 13, O 14, O 15, O 16, O 17, O 18, O 19, O 20, O 21, O 22, O 23, O 24, O 25, O 26, O 27, O 28, O 29, O 30, O 31, O 32, O 33, O 34, O 35, O 36, O 37, O 38] ∧ St wb [Cells b12 (enc_S_impl_moment a2) 60, Cells b4 ((encI .i64) a3) 2, Rows2 43 kHM (MapO (ekA (n := 4) .i16) (Value.int .i64)) v8 mm10 a6, Cells b7 ([v8]) 44, Z] w) ?_ ⟨⟨⟨⟨⟨trivial, ?_⟩, ?_⟩, ?_⟩, ?_⟩, ?_⟩ ?_
  ·
   intro w hh hbw
   have hs := hs.samew hh hbw
   exact ⟨fun i => T.getD i undef, (by subst hT; rfl), hs⟩
  ·
   rintro D t w hD hp hcl ⟨O, ht, hs⟩ rest hk
   have q3_ := nz hcl 3 0 hD
   have q4_ := nz hcl 4 0 q3_
   simp only [hD, q3_, q4_, cq] at ht hs
   subst ht
   refine s_load1 rfl rfl (v := Value.int .i64 a3) rfl rfl (fun _ => rfl) (cells_load (hs.cells 1 rfl) 0 1 rfl) ?_
   show G _ _ _ _ [_,_,_,_,_,_,_,_,_,_,_,_,_,_,_,_,_,_,_,_,_,_,_,_,_,_,_,_,_,_,_,_,_,_,_,_,_,_,_] _
   refine hk _ _ ⟨O, ?_, hs.cast ?_⟩ <;> simp only [lq, cq, Nat.reduceBEq, q3_, q4_]
  ·
   rintro D t w hD hp hcl ⟨O, ht, hs⟩ rest hk
   have q2_ := nz hcl 2 0 hD
   have q3_ := nz hcl 3 1 q2_
   have q4_ := nz hcl 4 0 q3_
   simp only [hD, q2_, q3_, q4_, cq] at ht hs
   subst ht
   refine g_op (v := Value.int .u8 a1) rfl rfl rfl ?_
   show G _ _ _ _ [_,_,_,_,_,_,_,_,_,_,_,_,_,_,_,_,_,_,_,_,_,_,_,_,_,_,_,_,_,_,_,_,_,_,_,_,_,_,_] _
   refine hk _ _ ⟨O, ?_, hs.cast ?_⟩ <;> simp only [lq, cq, Nat.reduceBEq, q2_, q3_, q4_]
  ·
   rintro D t w hD hp hcl ⟨O, ht, hs⟩ rest hk
   obtain ⟨p1_, _⟩ := hp
   have q3_ := nz hcl 3 1 hD
   have q4_ := nz hcl 4 0 q3_
   simp only [hD, p1_, q3_, q4_, cq] at ht hs
   subst ht
   refine s_call (args := [Value.int .u8 a1]) rfl rfl (x_call rfl (callFunc_enter Try.func36 rfl rfl) rfl) (bits_OnesCount8.calls (a1 := a1) Hr14) ?_
   rintro _ w ⟨rfl, hs2⟩
   have hs : St _ [_,_,_,_,_] _ := hs.call hs2
   show G _ _ _ _ [_,_,_,_,_,_,_,_,_,_,_,_,_,_,_,_,_,_,_,_,_,_,_,_,_,_,_,_,_,_,_,_,_,_,_,_,_,_,_] _
   refine hk _ _ ⟨O, ?_, hs.cast ?_⟩ <;> simp only [lq, cq, Nat.reduceBEq, p1_, q3_, q4_]
  ·
   rintro D t w hD hp hcl ⟨O, ht, hs⟩ rest hk
   obtain ⟨p0_, p2_, _⟩ := hp
   obtain ⟨p1_, _⟩ := (hcl.get 2 (by decide)) p2_
   have q4_ := nz hcl 4 0 hD
   simp only [hD, p0_, p1_, p2_, q4_, cq] at ht hs
   subst ht
   refine g_op (v := Value.int .i64 (i64w (a3 + r14))) rfl rfl rfl ?_
   show G _ _ _ _ [_,_,_,_,_,_,_,_,_,_,_,_,_,_,_,_,_,_,_,_,_,_,_,_,_,_,_,_,_,_,_,_,_,_,_,_,_,_,_] _
   refine hk _ _ ⟨O, ?_, hs.cast ?_⟩ <;> simp only [lq, cq, Nat.reduceBEq, p0_, p1_, p2_, q4_]
  ·
   rintro D t w hD hp hcl ⟨O, ht, hs⟩ rest hk
   obtain ⟨p3_, p2_, p0_, p1_, _, _, _⟩ := hp
   simp only [hD, p0_, p1_, p2_, p3_, cq] at ht hs
   subst ht
   refine g_op (v := Value.int .i64 (i64w (a3 + r14))) rfl rfl rfl ?_
   show G _ _ _ _ [_,_,_,_,_,_,_,_,_,_,_,_,_,_,_,_,_,_,_,_,_,_,_,_,_,_,_,_,_,_,_,_,_,_,_,_,_,_,_] _
   refine hk _ _ ⟨O, ?_, hs.cast ?_⟩ <;> simp only [lq, cq, Nat.reduceBEq, p0_, p1_, p2_, p3_]
  intro D t w hall hI
  obtain ⟨O, ht, hs⟩ := hI
  have p0_ := hall 0 (by decide)
  have p1_ := hall 1 (by decide)
  have p2_ := hall 2 (by decide)
  have p3_ := hall 3 (by decide)
  have p4_ := hall 4 (by decide)
  simp only [p0_, p1_, p2_, p3_, p4_, cq] at ht hs
  subst ht
  refine g_seq ?_
  obtain ⟨gd1, H⟩ := ite_get H
  obtain ⟨ad2_, ad2_N, ad2_C, had2_⟩ := sl_at (hs.r2row 2 rfl) gd1.1 (hs.r2lt 2 rfl gd1.2)
  refine g_name ?_
  intro T hT
  refine g_any (n := 13) rfl [0, 1, 2, 3, 4, 5, 6, 7, 8, 9, 10, 11, 12] [0, 1, 2, 3, 4, 5, 6, 7, 8, 9, 11, 10, 12] rfl rfl (Inv := fun D t w => ∃ O : Nat → Value, t = [Value.int .u8 a1, Value.agg (enc_S_impl_moment a2).toArray, Value.pointer (some ⟨b4, 0, none⟩), Value.pointer (some ⟨b7, 0, none⟩), O 4, Value.pointer (some ⟨b12, 0, none⟩), Value.int .i64 (i64w (a3 + r14)), cnd (D 11) (Value.int .i64 (mGet ((rdL a6 a2.f_time none).getD []) a2.f_tops 0)) (O 7), cnd (D 12) (Value.bool (mIdx ((rdL a6 a2.f_time none).getD []) a2.f_tops).isSome) (O 8), Value.int .i64 a3, Value.int .u8 a1, Value.int .i64 r14, Value.int .i64 (i64w (a3 + r14)), cnd (D 8) (Value.tuple #[Value.int .i64 (mGet ((rdL a6 a2.f_time none).getD []) a2.f_tops 0), Value.bool (mIdx ((rdL a6 a2.f_time none).getD []) a2.f_tops).isSome]) (O 13), cnd (D 0) v8 (O 14), cnd (D 1) (Value.pointer (some ⟨b12, 0, none⟩)) (O 15), cnd (D 2) (Value.int .i64 a2.f_time) (O 16), cnd (D 3) (Value.pointer (some (ad2_.add (a2.f_time.toNat * 1)))) (O 17), cnd (D 4) (Value.map (rdL mm10 a2.f_time none)) (O 18), cnd (D 5) (Value.pointer (some ⟨b12, 1, none⟩)) (O 19), cnd (D 6) (Value.agg ((encA (encI .i16)) a2.f_tops).toArray) (O 20), cnd (D 7) (Value.tuple #[Value.int .i64 (mGet ((rdL a6 a2.f_time none).getD []) a2.f_tops 0), Value.bool (mIdx ((rdL a6 a2.f_time none).getD []) a2.f_tops).isSome]) (O 21), cnd (D 9) (Value.int .i64 (mGet ((rdL a6 a2.f_time none).getD []) a2.f_tops 0)) (O 22), cnd (D 10) (Value.bool (mIdx ((rdL a6 a2.f_time none).getD []) a2.f_tops).isSome) (O 23), O 24, O 25, O 26, O 27, O 28, O 29, O 30, O 31, O 32, O 33, O 34, O 35, O 36, O 37, O 38] ∧ St wb [Cells b12 (enc_S_impl_moment a2) 60, Cells b4 ((encI .i64) a3) 2, Rows2 43 kHM (MapO (ekA (n := 4) .i16) (Value.int .i64)) v8 mm10 a6, Cells b7 ([v8]) 44, Z] w) ?_ ⟨⟨⟨⟨⟨⟨⟨⟨⟨⟨⟨⟨⟨trivial, ?_⟩, ?_⟩, ?_⟩, ?_⟩, ?_⟩, ?_⟩, ?_⟩, ?_⟩, ?_⟩, ?_⟩, ?_⟩, ?_⟩, ?_⟩ ?_
  ·
   intro w hh hbw
   have hs := hs.samew hh hbw
   exact ⟨fun i => T.getD i undef, (by subst hT; rfl), hs⟩
  ·
   rintro D t w hD hp hcl ⟨O, ht, hs⟩ rest hk
   have q3_ := nz hcl 3 0 hD
   have q4_ := nz hcl 4 0 q3_
   have q7_ := nz hcl 7 0 q4_
   have q8_ := nz hcl 8 0 q7_
   have q9_ := nz hcl 9 0 q8_
   have q10_ := nz hcl 10 0 q8_
   have q11_ := nz hcl 11 0 q9_
   have q12_ := nz hcl 12 0 q10_
   simp only [hD, q3_, q4_, q7_, q8_, q9_, q10_, q11_, q12_, cq] at ht hs
   subst ht
   refine s_load1 rfl rfl (v := v8) rfl rfl (fun _ => rfl) (cells_load (hs.cells 3 rfl) 0 1 rfl) ?_
   show G _ _ _ _ [_,_,_,_,_,_,_,_,_,_,_,_,_,_,_,_,_,_,_,_,_,_,_,_,_,_,_,_,_,_,_,_,_,_,_,_,_,_,_] _
   refine hk _ _ ⟨O, ?_, hs.cast ?_⟩ <;> simp only [lq, cq, Nat.reduceBEq, q3_, q4_, q7_, q8_, q9_, q10_, q11_, q12_]
  ·
   rintro D t w hD hp hcl ⟨O, ht, hs⟩ rest hk
   have q2_ := nz hcl 2 0 hD
   have q3_ := nz hcl 3 1 q2_
   have q4_ := nz hcl 4 0 q3_
   have q7_ := nz hcl 7 0 q4_
   have q8_ := nz hcl 8 0 q7_
   have q9_ := nz hcl 9 0 q8_
   have q10_ := nz hcl 10 0 q8_
   have q11_ := nz hcl 11 0 q9_
   have q12_ := nz hcl 12 0 q10_
   simp only [hD, q2_, q3_, q4_, q7_, q8_, q9_, q10_, q11_, q12_, cq] at ht hs
   subst ht
   refine g_op (v := Value.pointer (some ⟨b12, 0, none⟩)) rfl rfl rfl ?_
   show G _ _ _ _ [_,_,_,_,_,_,_,_,_,_,_,_,_,_,_,_,_,_,_,_,_,_,_,_,_,_,_,_,_,_,_,_,_,_,_,_,_,_,_] _
   refine hk _ _ ⟨O, ?_, hs.cast ?_⟩ <;> simp only [lq, cq, Nat.reduceBEq, q2_, q3_, q4_, q7_, q8_, q9_, q10_, q11_, q12_]
  ·
   rintro D t w hD hp hcl ⟨O, ht, hs⟩ rest hk
   obtain ⟨p1_, _⟩ := hp
   have q3_ := nz hcl 3 1 hD
   have q4_ := nz hcl 4 0 q3_
   have q7_ := nz hcl 7 0 q4_
   have q8_ := nz hcl 8 0 q7_
   have q9_ := nz hcl 9 0 q8_
   have q10_ := nz hcl 10 0 q8_
   have q11_ := nz hcl 11 0 q9_
   have q12_ := nz hcl 12 0 q10_
   simp only [hD, p1_, q3_, q4_, q7_, q8_, q9_, q10_, q11_, q12_, cq] at ht hs
   subst ht
   refine s_load1 rfl rfl (v := Value.int .i64 a2.f_time) rfl rfl (fun _ => rfl) (cells_load (hs.cells 0 rfl) 0 1 (by first | rfl | (simp only [enc_S_impl_moment]; simp [List.drop_append, List.take_append, encAI_len, encAB_len, List.take_of_length_le]))) ?_
   show G _ _ _ _ [_,_,_,_,_,_,_,_,_,_,_,_,_,_,_,_,_,_,_,_,_,_,_,_,_,_,_,_,_,_,_,_,_,_,_,_,_,_,_] _
   refine hk _ _ ⟨O, ?_, hs.cast ?_⟩ <;> simp only [lq, cq, Nat.reduceBEq, p1_, q3_, q4_, q7_, q8_, q9_, q10_, q11_, q12_]
  ·
   rintro D t w hD hp hcl ⟨O, ht, hs⟩ rest hk
   obtain ⟨p0_, p2_, _⟩ := hp
   obtain ⟨p1_, _⟩ := (hcl.get 2 (by decide)) p2_
   have q4_ := nz hcl 4 0 hD
   have q7_ := nz hcl 7 0 q4_
   have q8_ := nz hcl 8 0 q7_
   have q9_ := nz hcl 9 0 q8_
   have q10_ := nz hcl 10 0 q8_
   have q11_ := nz hcl 11 0 q9_
   have q12_ := nz hcl 12 0 q10_
   simp only [hD, p0_, p1_, p2_, q4_, q7_, q8_, q9_, q10_, q11_, q12_, cq] at ht hs
   subst ht
   refine s_idxD (κ := kHM) (m := 1) rfl (hs.r2row 2 rfl) rfl (fun _ => rfl) gd1.1 (hs.r2lt 2 rfl gd1.2) had2_ rfl rfl rfl rfl rfl ?_
   show G _ _ _ _ [_,_,_,_,_,_,_,_,_,_,_,_,_,_,_,_,_,_,_,_,_,_,_,_,_,_,_,_,_,_,_,_,_,_,_,_,_,_,_] _
   refine hk _ _ ⟨O, ?_, hs.cast ?_⟩ <;> simp only [lq, cq, Nat.reduceBEq, p0_, p1_, p2_, q4_, q7_, q8_, q9_, q10_, q11_, q12_]
  ·
   rintro D t w hD hp hcl ⟨O, ht, hs⟩ rest hk
   obtain ⟨p3_, _⟩ := hp
   obtain ⟨p0_, p2_, _⟩ := (hcl.get 3 (by decide)) p3_
   obtain ⟨p1_, _⟩ := (hcl.get 2 (by decide)) p2_
   have q7_ := nz hcl 7 0 hD
   have q8_ := nz hcl 8 0 q7_
   have q9_ := nz hcl 9 0 q8_
   have q10_ := nz hcl 10 0 q8_
   have q11_ := nz hcl 11 0 q9_
   have q12_ := nz hcl 12 0 q10_
   simp only [hD, p0_, p1_, p2_, p3_, q7_, q8_, q9_, q10_, q11_, q12_, cq] at ht hs
   subst ht
   refine s_load1 rfl rfl (v := Value.map (rdL mm10 a2.f_time none)) rfl rfl (fun _ => rfl) (cellsAt_of fkHM none (hs.r2row 2 rfl) had2_ gd1.1 (hs.r2lt 2 rfl gd1.2)) ?_
   show G _ _ _ _ [_,_,_,_,_,_,_,_,_,_,_,_,_,_,_,_,_,_,_,_,_,_,_,_,_,_,_,_,_,_,_,_,_,_,_,_,_,_,_] _
   refine hk _ _ ⟨O, ?_, hs.cast ?_⟩ <;> simp only [lq, cq, Nat.reduceBEq, p0_, p1_, p2_, p3_, q7_, q8_, q9_, q10_, q11_, q12_]
  ·
   rintro D t w hD hp hcl ⟨O, ht, hs⟩ rest hk
   have q6_ := nz hcl 6 0 hD
   have q7_ := nz hcl 7 1 q6_
   have q8_ := nz hcl 8 0 q7_
   have q9_ := nz hcl 9 0 q8_
   have q10_ := nz hcl 10 0 q8_
   have q11_ := nz hcl 11 0 q9_
   have q12_ := nz hcl 12 0 q10_
   simp only [hD, q6_, q7_, q8_, q9_, q10_, q11_, q12_, cq] at ht hs
   subst ht
   refine g_op (v := Value.pointer (some ⟨b12, 1, none⟩)) rfl rfl rfl ?_
   show G _ _ _ _ [_,_,_,_,_,_,_,_,_,_,_,_,_,_,_,_,_,_,_,_,_,_,_,_,_,_,_,_,_,_,_,_,_,_,_,_,_,_,_] _
   refine hk _ _ ⟨O, ?_, hs.cast ?_⟩ <;> simp only [lq, cq, Nat.reduceBEq, q6_, q7_, q8_, q9_, q10_, q11_, q12_]
  ·
   rintro D t w hD hp hcl ⟨O, ht, hs⟩ rest hk
   obtain ⟨p5_, _⟩ := hp
   have q7_ := nz hcl 7 1 hD
   have q8_ := nz hcl 8 0 q7_
   have q9_ := nz hcl 9 0 q8_
   have q10_ := nz hcl 10 0 q8_
   have q11_ := nz hcl 11 0 q9_
   have q12_ := nz hcl 12 0 q10_
   simp only [hD, p5_, q7_, q8_, q9_, q10_, q11_, q12_, cq] at ht hs
   subst ht
   refine s_loadA rfl rfl (es := ((encA (encI .i16)) a2.f_tops)) rfl rfl (fun _ => rfl) (n := 4) (fun _ => rfl) ((fkA (n := 4) (he := (fkI .i16).len) (h1 := (fkI .i16).one)).len _) (cells_load (hs.cells 0 rfl) 1 4 (by simp only [enc_S_impl_moment]; first | rfl | exact List.take_of_length_le (Nat.le_of_eq ((fkA (n := 4) (he := (fkI .i16).len) (h1 := (fkI .i16).one)).len _)) | simp [List.drop_append, List.take_append, encAI_len, encAB_len, encA_len, List.take_of_length_le])) ?_
   show G _ _ _ _ [_,_,_,_,_,_,_,_,_,_,_,_,_,_,_,_,_,_,_,_,_,_,_,_,_,_,_,_,_,_,_,_,_,_,_,_,_,_,_] _
   refine hk _ _ ⟨O, ?_, hs.cast ?_⟩ <;> simp only [lq, cq, Nat.reduceBEq, p5_, q7_, q8_, q9_, q10_, q11_, q12_]
  ·
   rintro D t w hD hp hcl ⟨O, ht, hs⟩ rest hk
   obtain ⟨p4_, p6_, _⟩ := hp
   obtain ⟨p5_, _⟩ := (hcl.get 6 (by decide)) p6_
   obtain ⟨p3_, _⟩ := (hcl.get 4 (by decide)) p4_
   obtain ⟨p0_, p2_, _⟩ := (hcl.get 3 (by decide)) p3_
   obtain ⟨p1_, _⟩ := (hcl.get 2 (by decide)) p2_
   have q8_ := nz hcl 8 0 hD
   have q9_ := nz hcl 9 0 q8_
   have q10_ := nz hcl 10 0 q8_
   have q11_ := nz hcl 11 0 q9_
   have q12_ := nz hcl 12 0 q10_
   simp only [hD, p0_, p1_, p2_, p3_, p4_, p5_, p6_, q8_, q9_, q10_, q11_, q12_, cq] at ht hs
   subst ht
   refine g_op (v := Value.tuple #[Value.int .i64 (mGet ((rdL a6 a2.f_time none).getD []) a2.f_tops 0), Value.bool (mIdx ((rdL a6 a2.f_time none).getD []) a2.f_tops).isSome]) rfl rfl (x_lookupOkO key_ar4_30 (a := a2.f_tops) (z := 0) (hs.r2mp 2 rfl gd1.1 gd1.2) rfl Try.underlying43 rfl rfl (fun _ => rfl)) ?_
   show G _ _ _ _ [_,_,_,_,_,_,_,_,_,_,_,_,_,_,_,_,_,_,_,_,_,_,_,_,_,_,_,_,_,_,_,_,_,_,_,_,_,_,_] _
   refine hk _ _ ⟨O, ?_, hs.cast ?_⟩ <;> simp only [lq, cq, Nat.reduceBEq, p0_, p1_, p2_, p3_, p4_, p5_, p6_, q8_, q9_, q10_, q11_, q12_]
  ·
   rintro D t w hD hp hcl ⟨O, ht, hs⟩ rest hk
   obtain ⟨p7_, _⟩ := hp
   obtain ⟨p4_, p6_, _⟩ := (hcl.get 7 (by decide)) p7_
   obtain ⟨p5_, _⟩ := (hcl.get 6 (by decide)) p6_
   obtain ⟨p3_, _⟩ := (hcl.get 4 (by decide)) p4_
   obtain ⟨p0_, p2_, _⟩ := (hcl.get 3 (by decide)) p3_
   obtain ⟨p1_, _⟩ := (hcl.get 2 (by decide)) p2_
   have q9_ := nz hcl 9 0 hD
   have q10_ := nz hcl 10 0 hD
   have q11_ := nz hcl 11 0 q9_
   have q12_ := nz hcl 12 0 q10_
   simp only [hD, p0_, p1_, p2_, p3_, p4_, p5_, p6_, p7_, q9_, q10_, q11_, q12_, cq] at ht hs
   subst ht
   refine g_op (v := Value.tuple #[Value.int .i64 (mGet ((rdL a6 a2.f_time none).getD []) a2.f_tops 0), Value.bool (mIdx ((rdL a6 a2.f_time none).getD []) a2.f_tops).isSome]) rfl rfl rfl ?_
   show G _ _ _ _ [_,_,_,_,_,_,_,_,_,_,_,_,_,_,_,_,_,_,_,_,_,_,_,_,_,_,_,_,_,_,_,_,_,_,_,_,_,_,_] _
   refine hk _ _ ⟨O, ?_, hs.cast ?_⟩ <;> simp only [lq, cq, Nat.reduceBEq, p0_, p1_, p2_, p3_, p4_, p5_, p6_, p7_, q9_, q10_, q11_, q12_]
  ·
   rintro D t w hD hp hcl ⟨O, ht, hs⟩ rest hk
   obtain ⟨p8_, _⟩ := hp
   obtain ⟨p7_, _⟩ := (hcl.get 8 (by decide)) p8_
   obtain ⟨p4_, p6_, _⟩ := (hcl.get 7 (by decide)) p7_
   obtain ⟨p5_, _⟩ := (hcl.get 6 (by decide)) p6_
   obtain ⟨p3_, _⟩ := (hcl.get 4 (by decide)) p4_
   obtain ⟨p0_, p2_, _⟩ := (hcl.get 3 (by decide)) p3_
   obtain ⟨p1_, _⟩ := (hcl.get 2 (by decide)) p2_
   have q11_ := nz hcl 11 0 hD
   have q12_ := nz hcl 12 1 q11_
   simp only [hD, p0_, p1_, p2_, p3_, p4_, p5_, p6_, p7_, p8_, q11_, q12_, cq] at ht hs
   subst ht
   refine g_op (v := Value.int .i64 (mGet ((rdL a6 a2.f_time none).getD []) a2.f_tops 0)) rfl rfl rfl ?_
   show G _ _ _ _ [_,_,_,_,_,_,_,_,_,_,_,_,_,_,_,_,_,_,_,_,_,_,_,_,_,_,_,_,_,_,_,_,_,_,_,_,_,_,_] _
   refine hk _ _ ⟨O, ?_, hs.cast ?_⟩ <;> simp only [lq, cq, Nat.reduceBEq, p0_, p1_, p2_, p3_, p4_, p5_, p6_, p7_, p8_, q11_, q12_]
  ·
   rintro D t w hD hp hcl ⟨O, ht, hs⟩ rest hk
   obtain ⟨p8_, _⟩ := hp
   obtain ⟨p7_, _⟩ := (hcl.get 8 (by decide)) p8_
   obtain ⟨p4_, p6_, _⟩ := (hcl.get 7 (by decide)) p7_
   obtain ⟨p5_, _⟩ := (hcl.get 6 (by decide)) p6_
   obtain ⟨p3_, _⟩ := (hcl.get 4 (by decide)) p4_
   obtain ⟨p0_, p2_, _⟩ := (hcl.get 3 (by decide)) p3_
   obtain ⟨p1_, _⟩ := (hcl.get 2 (by decide)) p2_
   have q12_ := nz hcl 12 0 hD
   simp only [hD, p0_, p1_, p2_, p3_, p4_, p5_, p6_, p7_, p8_, q12_, cq] at ht hs
   subst ht
   refine g_op (v := Value.bool (mIdx ((rdL a6 a2.f_time none).getD []) a2.f_tops).isSome) rfl rfl rfl ?_
   show G _ _ _ _ [_,_,_,_,_,_,_,_,_,_,_,_,_,_,_,_,_,_,_,_,_,_,_,_,_,_,_,_,_,_,_,_,_,_,_,_,_,_,_] _
   refine hk _ _ ⟨O, ?_, hs.cast ?_⟩ <;> simp only [lq, cq, Nat.reduceBEq, p0_, p1_, p2_, p3_, p4_, p5_, p6_, p7_, p8_, q12_]
  ·
   rintro D t w hD hp hcl ⟨O, ht, hs⟩ rest hk
   obtain ⟨p9_, p0_, p1_, p2_, p3_, p4_, p5_, p6_, p7_, p8_, _, _⟩ := hp
   have q12_ := nz hcl 12 1 hD
   simp only [hD, p0_, p1_, p2_, p3_, p4_, p5_, p6_, p7_, p8_, p9_, q12_, cq] at ht hs
   subst ht
   refine g_op (v := Value.int .i64 (mGet ((rdL a6 a2.f_time none).getD []) a2.f_tops 0)) rfl rfl rfl ?_
   show G _ _ _ _ [_,_,_,_,_,_,_,_,_,_,_,_,_,_,_,_,_,_,_,_,_,_,_,_,_,_,_,_,_,_,_,_,_,_,_,_,_,_,_] _
   refine hk _ _ ⟨O, ?_, hs.cast ?_⟩ <;> simp only [lq, cq, Nat.reduceBEq, p0_, p1_, p2_, p3_, p4_, p5_, p6_, p7_, p8_, p9_, q12_]
  ·
   rintro D t w hD hp hcl ⟨O, ht, hs⟩ rest hk
   obtain ⟨p10_, p11_, p0_, p1_, p2_, p3_, p4_, p5_, p6_, p7_, p8_, p9_, _, _, _⟩ := hp
   simp only [hD, p0_, p1_, p2_, p3_, p4_, p5_, p6_, p7_, p8_, p9_, p10_, p11_, cq] at ht hs
   subst ht
   refine g_op (v := Value.bool (mIdx ((rdL a6 a2.f_time none).getD []) a2.f_tops).isSome) rfl rfl rfl ?_
   show G _ _ _ _ [_,_,_,_,_,_,_,_,_,_,_,_,_,_,_,_,_,_,_,_,_,_,_,_,_,_,_,_,_,_,_,_,_,_,_,_,_,_,_] _
   refine hk _ _ ⟨O, ?_, hs.cast ?_⟩ <;> simp only [lq, cq, Nat.reduceBEq, p0_, p1_, p2_, p3_, p4_, p5_, p6_, p7_, p8_, p9_, p10_, p11_]
  intro D t w hall hI
  obtain ⟨O, ht, hs⟩ := hI
  have p0_ := hall 0 (by decide)
  have p1_ := hall 1 (by decide)
  have p2_ := hall 2 (by decide)
  have p3_ := hall 3 (by decide)
  have p4_ := hall 4 (by decide)
  have p5_ := hall 5 (by decide)
  have p6_ := hall 6 (by decide)
  have p7_ := hall 7 (by decide)
  have p8_ := hall 8 (by decide)
  have p9_ := hall 9 (by decide)
  have p10_ := hall 10 (by decide)
  have p11_ := hall 11 (by decide)
  have p12_ := hall 12 (by decide)
  simp only [p0_, p1_, p2_, p3_, p4_, p5_, p6_, p7_, p8_, p9_, p10_, p11_, p12_, cq] at ht hs
  subst ht
  refine g_seq (g_rg [0, 1, 2, 3, 4, 5, 6] rfl ?_)
  refine g_op_b (B := (mIdx ((rdL a6 a2.f_time none).getD []) a2.f_tops).isSome) rfl rfl rfl ?_ ?_
  ·
   intro hb
   rw [if_pos (b_var_t hb)] at H
   refine g_op (v := Value.bool false) rfl rfl rfl ?_
   refine g_op (v := Value.bool false) rfl rfl rfl ?_
   refine g_op (v := Value.int .i64 (i64w (a3 + r14))) rfl rfl rfl ?_
   refine g_op (v := Value.int .i64 (mGet ((rdL a6 a2.f_time none).getD []) a2.f_tops 0)) rfl rfl rfl ?_
   refine g_op_b (B := decide ((i64w (a3 + r14)) < (mGet ((rdL a6 a2.f_time none).getD []) a2.f_tops 0))) rfl rfl rfl ?_ ?_
   ·
    intro hb
    rw [if_pos (b_dec_t hb)] at H
    refine g_op (v := Value.bool true) rfl rfl rfl (g_ops_nil (g_cond_true rfl ?_))
    obtain ⟨gd3, H⟩ := ite_get H
    obtain ⟨ad4_, ad4_N, ad4_C, had4_⟩ := sl_at (hs.r2row 2 rfl) gd3.1 (hs.r2lt 2 rfl gd3.2)
    obtain ⟨gd5, H⟩ := ite_get H
    obtain ⟨b15, eb15⟩ := hs.r2some 2 rfl gd3.1 gd3.2 gd5
    refine g_name ?_
    intro T hT
    refine g_any (n := 9) rfl [0, 1, 2, 3, 4, 5, 6, 7, 8] [0, 1, 2, 3, 4, 5, 6, 7, 8] rfl rfl (Inv := fun D t w => ∃ b15 : Nat, ∃ O : Nat → Value, t = [Value.int .u8 a1, Value.agg (enc_S_impl_moment a2).toArray, Value.pointer (some ⟨b4, 0, none⟩), Value.pointer (some ⟨b7, 0, none⟩), O 4, Value.pointer (some ⟨b12, 0, none⟩), Value.int .i64 (i64w (a3 + r14)), Value.int .i64 (mGet ((rdL a6 a2.f_time none).getD []) a2.f_tops 0), Value.bool (mIdx ((rdL a6 a2.f_time none).getD []) a2.f_tops).isSome, Value.int .i64 a3, Value.int .u8 a1, Value.int .i64 r14, Value.int .i64 (i64w (a3 + r14)), Value.tuple #[Value.int .i64 (mGet ((rdL a6 a2.f_time none).getD []) a2.f_tops 0), Value.bool (mIdx ((rdL a6 a2.f_time none).getD []) a2.f_tops).isSome], v8, Value.pointer (some ⟨b12, 0, none⟩), Value.int .i64 a2.f_time, Value.pointer (some (ad2_.add (a2.f_time.toNat * 1))), Value.map (rdL mm10 a2.f_time none), Value.pointer (some ⟨b12, 1, none⟩), Value.agg ((encA (encI .i16)) a2.f_tops).toArray, Value.tuple #[Value.int .i64 (mGet ((rdL a6 a2.f_time none).getD []) a2.f_tops 0), Value.bool (mIdx ((rdL a6 a2.f_time none).getD []) a2.f_tops).isSome], Value.int .i64 (mGet ((rdL a6 a2.f_time none).getD []) a2.f_tops 0), Value.bool (mIdx ((rdL a6 a2.f_time none).getD []) a2.f_tops).isSome, Value.bool true, Value.bool false, Value.bool false, Value.int .i64 (i64w (a3 + r14)), Value.int .i64 (mGet ((rdL a6 a2.f_time none).getD []) a2.f_tops 0), Value.bool true, Value.bool true, cnd (D 0) v8 (O 31), cnd (D 1) (Value.pointer (some ⟨b12, 0, none⟩)) (O 32), cnd (D 2) (Value.int .i64 a2.f_time) (O 33), cnd (D 3) (Value.pointer (some (ad4_.add (a2.f_time.toNat * 1)))) (O 34), cnd (D 4) (Value.map (rdL mm10 a2.f_time none)) (O 35), cnd (D 5) (Value.pointer (some ⟨b12, 1, none⟩)) (O 36), cnd (D 6) (Value.agg ((encA (encI .i16)) a2.f_tops).toArray) (O 37), cnd (D 7) (Value.int .i64 (i64w (a3 + r14))) (O 38)] ∧ St wb [Cells b12 (enc_S_impl_moment a2) 60, Cells b4 ((encI .i64) a3) 2, Rows2 43 kHM (MapO (ekA (n := 4) .i16) (Value.int .i64)) v8 mm10 (cnd (D 8) (stL a6 a2.f_time (some (mSet ((rdL a6 a2.f_time none).getD []) a2.f_tops (i64w (a3 + r14))))) a6), Cells b7 ([v8]) 44, Z] w) ?_ ⟨⟨⟨⟨⟨⟨⟨⟨⟨trivial, ?_⟩, ?_⟩, ?_⟩, ?_⟩, ?_⟩, ?_⟩, ?_⟩, ?_⟩, ?_⟩ ?_
    ·
     intro w hh hbw
     have hs := hs.samew hh hbw
     exact ⟨0, fun i => T.getD i undef, (by subst hT; rfl), hs⟩
    ·
     rintro D t w hD hp hcl ⟨b15, O, ht, hs⟩ rest hk
     have q3_ := nz hcl 3 0 hD
     have q4_ := nz hcl 4 0 q3_
     have q8_ := nz hcl 8 0 q4_
     simp only [hD, q3_, q4_, q8_, cq] at ht hs
     subst ht
     refine s_load1 rfl rfl (v := v8) rfl rfl (fun _ => rfl) (cells_load (hs.cells 3 rfl) 0 1 rfl) ?_
     show G _ _ _ _ [_,_,_,_,_,_,_,_,_,_,_,_,_,_,_,_,_,_,_,_,_,_,_,_,_,_,_,_,_,_,_,_,_,_,_,_,_,_,_] _
     refine hk _ _ ⟨b15, O, ?_, hs.cast ?_⟩ <;> simp only [lq, cq, Nat.reduceBEq, q3_, q4_, q8_]
    ·
     rintro D t w hD hp hcl ⟨b15, O, ht, hs⟩ rest hk
     have q2_ := nz hcl 2 0 hD
     have q3_ := nz hcl 3 1 q2_
     have q4_ := nz hcl 4 0 q3_
     have q8_ := nz hcl 8 0 q4_
     simp only [hD, q2_, q3_, q4_, q8_, cq] at ht hs
     subst ht
     refine g_op (v := Value.pointer (some ⟨b12, 0, none⟩)) rfl rfl rfl ?_
     show G _ _ _ _ [_,_,_,_,_,_,_,_,_,_,_,_,_,_,_,_,_,_,_,_,_,_,_,_,_,_,_,_,_,_,_,_,_,_,_,_,_,_,_] _
     refine hk _ _ ⟨b15, O, ?_, hs.cast ?_⟩ <;> simp only [lq, cq, Nat.reduceBEq, q2_, q3_, q4_, q8_]
    ·
     rintro D t w hD hp hcl ⟨b15, O, ht, hs⟩ rest hk
     obtain ⟨p1_, _⟩ := hp
     have q3_ := nz hcl 3 1 hD
     have q4_ := nz hcl 4 0 q3_
     have q8_ := nz hcl 8 0 q4_
     simp only [hD, p1_, q3_, q4_, q8_, cq] at ht hs
     subst ht
     refine s_load1 rfl rfl (v := Value.int .i64 a2.f_time) rfl rfl (fun _ => rfl) (cells_load (hs.cells 0 rfl) 0 1 (by first | rfl | (simp only [enc_S_impl_moment]; simp [List.drop_append, List.take_append, encAI_len, encAB_len, List.take_of_length_le]))) ?_
     show G _ _ _ _ [_,_,_,_,_,_,_,_,_,_,_,_,_,_,_,_,_,_,_,_,_,_,_,_,_,_,_,_,_,_,_,_,_,_,_,_,_,_,_] _
     refine hk _ _ ⟨b15, O, ?_, hs.cast ?_⟩ <;> simp only [lq, cq, Nat.reduceBEq, p1_, q3_, q4_, q8_]
    ·
     rintro D t w hD hp hcl ⟨b15, O, ht, hs⟩ rest hk
     obtain ⟨p0_, p2_, _⟩ := hp
     obtain ⟨p1_, _⟩ := (hcl.get 2 (by decide)) p2_
     have q4_ := nz hcl 4 0 hD
     have q8_ := nz hcl 8 0 q4_
     simp only [hD, p0_, p1_, p2_, q4_, q8_, cq] at ht hs
     subst ht
     refine s_idxD (κ := kHM) (m := 1) rfl (hs.r2row 2 rfl) rfl (fun _ => rfl) gd3.1 (hs.r2lt 2 rfl gd3.2) had4_ rfl rfl rfl rfl rfl ?_
     show G _ _ _ _ [_,_,_,_,_,_,_,_,_,_,_,_,_,_,_,_,_,_,_,_,_,_,_,_,_,_,_,_,_,_,_,_,_,_,_,_,_,_,_] _
     refine hk _ _ ⟨b15, O, ?_, hs.cast ?_⟩ <;> simp only [lq, cq, Nat.reduceBEq, p0_, p1_, p2_, q4_, q8_]
    ·
     rintro D t w hD hp hcl ⟨b15, O, ht, hs⟩ rest hk
     obtain ⟨p3_, _⟩ := hp
     obtain ⟨p0_, p2_, _⟩ := (hcl.get 3 (by decide)) p3_
     obtain ⟨p1_, _⟩ := (hcl.get 2 (by decide)) p2_
     have q8_ := nz hcl 8 0 hD
     simp only [hD, p0_, p1_, p2_, p3_, q8_, cq] at ht hs
     subst ht
     refine s_load1 rfl rfl (v := Value.map (rdL mm10 a2.f_time none)) rfl rfl (fun _ => rfl) (cellsAt_of fkHM none (hs.r2row 2 rfl) had4_ gd3.1 (hs.r2lt 2 rfl gd3.2)) ?_
     show G _ _ _ _ [_,_,_,_,_,_,_,_,_,_,_,_,_,_,_,_,_,_,_,_,_,_,_,_,_,_,_,_,_,_,_,_,_,_,_,_,_,_,_] _
     refine hk _ _ ⟨b15, O, ?_, hs.cast ?_⟩ <;> simp only [lq, cq, Nat.reduceBEq, p0_, p1_, p2_, p3_, q8_]
    ·
     rintro D t w hD hp hcl ⟨b15, O, ht, hs⟩ rest hk
     have q6_ := nz hcl 6 0 hD
     have q8_ := nz hcl 8 1 q6_
     simp only [hD, q6_, q8_, cq] at ht hs
     subst ht
     refine g_op (v := Value.pointer (some ⟨b12, 1, none⟩)) rfl rfl rfl ?_
     show G _ _ _ _ [_,_,_,_,_,_,_,_,_,_,_,_,_,_,_,_,_,_,_,_,_,_,_,_,_,_,_,_,_,_,_,_,_,_,_,_,_,_,_] _
     refine hk _ _ ⟨b15, O, ?_, hs.cast ?_⟩ <;> simp only [lq, cq, Nat.reduceBEq, q6_, q8_]
    ·
     rintro D t w hD hp hcl ⟨b15, O, ht, hs⟩ rest hk
     obtain ⟨p5_, _⟩ := hp
     have q8_ := nz hcl 8 1 hD
     simp only [hD, p5_, q8_, cq] at ht hs
     subst ht
     refine s_loadA rfl rfl (es := ((encA (encI .i16)) a2.f_tops)) rfl rfl (fun _ => rfl) (n := 4) (fun _ => rfl) ((fkA (n := 4) (he := (fkI .i16).len) (h1 := (fkI .i16).one)).len _) (cells_load (hs.cells 0 rfl) 1 4 (by simp only [enc_S_impl_moment]; first | rfl | exact List.take_of_length_le (Nat.le_of_eq ((fkA (n := 4) (he := (fkI .i16).len) (h1 := (fkI .i16).one)).len _)) | simp [List.drop_append, List.take_append, encAI_len, encAB_len, encA_len, List.take_of_length_le])) ?_
     show G _ _ _ _ [_,_,_,_,_,_,_,_,_,_,_,_,_,_,_,_,_,_,_,_,_,_,_,_,_,_,_,_,_,_,_,_,_,_,_,_,_,_,_] _
     refine hk _ _ ⟨b15, O, ?_, hs.cast ?_⟩ <;> simp only [lq, cq, Nat.reduceBEq, p5_, q8_]
    ·
     rintro D t w hD hp hcl ⟨b15, O, ht, hs⟩ rest hk
     have q8_ := nz hcl 8 2 hD
     simp only [hD, q8_, cq] at ht hs
     subst ht
     refine g_op (v := Value.int .i64 (i64w (a3 + r14))) rfl rfl rfl ?_
     show G _ _ _ _ [_,_,_,_,_,_,_,_,_,_,_,_,_,_,_,_,_,_,_,_,_,_,_,_,_,_,_,_,_,_,_,_,_,_,_,_,_,_,_] _
     refine hk _ _ ⟨b15, O, ?_, hs.cast ?_⟩ <;> simp only [lq, cq, Nat.reduceBEq, q8_]
    ·
     rintro D t w hD hp hcl ⟨b15, O, ht, hs⟩ rest hk
     obtain ⟨p4_, p6_, p7_, p0_, p1_, p2_, p3_, _, p5_, _, _, _⟩ := hp
     simp only [hD, p0_, p1_, p2_, p3_, p4_, p5_, p6_, p7_, cq] at ht hs
     subst ht
     have hs := hs.pull 2 rfl
     have hs : St _ [_,_,_,_,_] _ := hs
     refine s_r2set key_ar4_30 gd3.1 gd3.2 eb15 (a := a2.f_tops) (y := i64w (a3 + r14)) hs rfl rfl (.inl rfl) Try.underlying43 rfl rfl rfl ?_
     intro w hs
     show G _ _ _ _ [_,_,_,_,_,_,_,_,_,_,_,_,_,_,_,_,_,_,_,_,_,_,_,_,_,_,_,_,_,_,_,_,_,_,_,_,_,_,_] _
     have hs := hs.push 2 (by simp)
     refine hk _ _ ⟨b15, O, ?_, hs.cast ?_⟩ <;> simp only [lq, cq, Nat.reduceBEq, p0_, p1_, p2_, p3_, p4_, p5_, p6_, p7_]
    intro D t w hall hI
    obtain ⟨b15, O, ht, hs⟩ := hI
    have p0_ := hall 0 (by decide)
    have p1_ := hall 1 (by decide)
    have p2_ := hall 2 (by decide)
    have p3_ := hall 3 (by decide)
    have p4_ := hall 4 (by decide)
    have p5_ := hall 5 (by decide)
    have p6_ := hall 6 (by decide)
    have p7_ := hall 7 (by decide)
    have p8_ := hall 8 (by decide)
    simp only [p0_, p1_, p2_, p3_, p4_, p5_, p6_, p7_, p8_, cq] at ht hs
    subst ht
    obtain rfl := Option.some.inj H
    refine g_end Try.func35 (v := Value.tuple #[]) (resN (l := Try.f35.results.toList) (vs := []) rfl trivial (by simp)) ?_
    have hs := hs.pull 4 rfl
    have hs := hs.pull 4 rfl
    have hs := hs.pull 4 rfl
    have hs := hs.pull 4 rfl
    have hs : St _ [_,_,_,_] _ := St.take (Γ' := [_]) hs
    exact ⟨_, rfl, rfl, hs⟩
   intro hb
   rw [if_neg (b_dec_f hb)] at H
   refine g_op (v := Value.bool false) rfl rfl rfl ?_
   show G _ _ _ _ [_,_,_,_,_,_,_,_,_,_,_,_,_,_,_,_,_,_,_,_,_,_,_,_,_,_,_,_,_,_,_,_,_,_,_,_,_,_,_] _
   refine g_ops_nil (g_cond_false rfl (g_skip ?_))
   obtain rfl := Option.some.inj H
   refine g_end Try.func35 (v := Value.tuple #[]) (resN (l := Try.f35.results.toList) (vs := []) rfl trivial (by simp)) ?_
   have hs := hs.pull 4 rfl
   have hs := hs.pull 4 rfl
   have hs := hs.pull 4 rfl
   have hs := hs.pull 4 rfl
   have hs : St _ [_,_,_,_] _ := St.take (Γ' := [_]) hs
   exact ⟨_, rfl, rfl, hs⟩
  intro hb
  rw [if_neg (b_var_f hb)] at H
  refine g_op (v := Value.bool true) rfl rfl rfl ?_
  refine g_op (v := Value.bool true) rfl rfl rfl (g_op_not rfl rfl (g_op_not rfl rfl (g_op_not rfl rfl ?_)))
  refine g_op (v := Value.bool true) rfl rfl rfl ?_
  show G _ _ _ _ [_,_,_,_,_,_,_,_,_,_,_,_,_,_,_,_,_,_,_,_,_,_,_,_,_,_,_,_,_,_,_,_,_,_,_,_,_,_,_] _
  refine g_ops_nil (g_cond_true rfl ?_)
  obtain ⟨gd6, H⟩ := ite_get H
  obtain ⟨ad7_, ad7_N, ad7_C, had7_⟩ := sl_at (hs.r2row 2 rfl) gd6.1 (hs.r2lt 2 rfl gd6.2)
  obtain ⟨gd8, H⟩ := ite_get H
  obtain ⟨b16, eb16⟩ := hs.r2some 2 rfl gd6.1 gd6.2 gd8
  refine g_name ?_
  intro T hT
  refine g_any (n := 9) rfl [0, 1, 2, 3, 4, 5, 6, 7, 8] [0, 1, 2, 3, 4, 5, 6, 7, 8] rfl rfl (Inv := fun D t w => ∃ b16 : Nat, ∃ O : Nat → Value, t = [Value.int .u8 a1, Value.agg (enc_S_impl_moment a2).toArray, Value.pointer (some ⟨b4, 0, none⟩), Value.pointer (some ⟨b7, 0, none⟩), O 4, Value.pointer (some ⟨b12, 0, none⟩), Value.int .i64 (i64w (a3 + r14)), Value.int .i64 (mGet ((rdL a6 a2.f_time none).getD []) a2.f_tops 0), Value.bool (mIdx ((rdL a6 a2.f_time none).getD []) a2.f_tops).isSome, Value.int .i64 a3, Value.int .u8 a1, Value.int .i64 r14, Value.int .i64 (i64w (a3 + r14)), Value.tuple #[Value.int .i64 (mGet ((rdL a6 a2.f_time none).getD []) a2.f_tops 0), Value.bool (mIdx ((rdL a6 a2.f_time none).getD []) a2.f_tops).isSome], v8, Value.pointer (some ⟨b12, 0, none⟩), Value.int .i64 a2.f_time, Value.pointer (some (ad2_.add (a2.f_time.toNat * 1))), Value.map (rdL mm10 a2.f_time none), Value.pointer (some ⟨b12, 1, none⟩), Value.agg ((encA (encI .i16)) a2.f_tops).toArray, Value.tuple #[Value.int .i64 (mGet ((rdL a6 a2.f_time none).getD []) a2.f_tops 0), Value.bool (mIdx ((rdL a6 a2.f_time none).getD []) a2.f_tops).isSome], Value.int .i64 (mGet ((rdL a6 a2.f_time none).getD []) a2.f_tops 0), Value.bool (mIdx ((rdL a6 a2.f_time none).getD []) a2.f_tops).isSome, Value.bool false, Value.bool true, Value.bool true, O 27, O 28, O 29, Value.bool true, cnd (D 0) v8 (O 31), cnd (D 1) (Value.pointer (some ⟨b12, 0, none⟩)) (O 32), cnd (D 2) (Value.int .i64 a2.f_time) (O 33), cnd (D 3) (Value.pointer (some (ad7_.add (a2.f_time.toNat * 1)))) (O 34), cnd (D 4) (Value.map (rdL mm10 a2.f_time none)) (O 35), cnd (D 5) (Value.pointer (some ⟨b12, 1, none⟩)) (O 36), cnd (D 6) (Value.agg ((encA (encI .i16)) a2.f_tops).toArray) (O 37), cnd (D 7) (Value.int .i64 (i64w (a3 + r14))) (O 38)] ∧ St wb [Cells b12 (enc_S_impl_moment a2) 60, Cells b4 ((encI .i64) a3) 2, Rows2 43 kHM (MapO (ekA (n := 4) .i16) (Value.int .i64)) v8 mm10 (cnd (D 8) (stL a6 a2.f_time (some (mSet ((rdL a6 a2.f_time none).getD []) a2.f_tops (i64w (a3 + r14))))) a6), Cells b7 ([v8]) 44, Z] w) ?_ ⟨⟨⟨⟨⟨⟨⟨⟨⟨trivial, ?_⟩, ?_⟩, ?_⟩, ?_⟩, ?_⟩, ?_⟩, ?_⟩, ?_⟩, ?_⟩ ?_
  ·
   intro w hh hbw
   have hs := hs.samew hh hbw
   exact ⟨0, fun i => T.getD i undef, (by subst hT; rfl), hs⟩
  ·
   rintro D t w hD hp hcl ⟨b16, O, ht, hs⟩ rest hk
   have q3_ := nz hcl 3 0 hD
   have q4_ := nz hcl 4 0 q3_
   have q8_ := nz hcl 8 0 q4_
   simp only [hD, q3_, q4_, q8_, cq] at ht hs
   subst ht
   refine s_load1 rfl rfl (v := v8) rfl rfl (fun _ => rfl) (cells_load (hs.cells 3 rfl) 0 1 rfl) ?_
   show G _ _ _ _ [_,_,_,_,_,_,_,_,_,_,_,_,_,_,_,_,_,_,_,_,_,_,_,_,_,_,_,_,_,_,_,_,_,_,_,_,_,_,_] _
   refine hk _ _ ⟨b16, O, ?_, hs.cast ?_⟩ <;> simp only [lq, cq, Nat.reduceBEq, q3_, q4_, q8_]
  ·
   rintro D t w hD hp hcl ⟨b16, O, ht, hs⟩ rest hk
   have q2_ := nz hcl 2 0 hD
   have q3_ := nz hcl 3 1 q2_
   have q4_ := nz hcl 4 0 q3_
   have q8_ := nz hcl 8 0 q4_
   simp only [hD, q2_, q3_, q4_, q8_, cq] at ht hs
   subst ht
   refine g_op (v := Value.pointer (some ⟨b12, 0, none⟩)) rfl rfl rfl ?_
   show G _ _ _ _ [_,_,_,_,_,_,_,_,_,_,_,_,_,_,_,_,_,_,_,_,_,_,_,_,_,_,_,_,_,_,_,_,_,_,_,_,_,_,_] _
   refine hk _ _ ⟨b16, O, ?_, hs.cast ?_⟩ <;> simp only [lq, cq, Nat.reduceBEq, q2_, q3_, q4_, q8_]
  ·
   rintro D t w hD hp hcl ⟨b16, O, ht, hs⟩ rest hk
   obtain ⟨p1_, _⟩ := hp
   have q3_ := nz hcl 3 1 hD
   have q4_ := nz hcl 4 0 q3_
   have q8_ := nz hcl 8 0 q4_
   simp only [hD, p1_, q3_, q4_, q8_, cq] at ht hs
   subst ht
   refine s_load1 rfl rfl (v := Value.int .i64 a2.f_time) rfl rfl (fun _ => rfl) (cells_load (hs.cells 0 rfl) 0 1 (by first | rfl | (simp only [enc_S_impl_moment]; simp [List.drop_append, List.take_append, encAI_len, encAB_len, List.take_of_length_le]))) ?_
   show G _ _ _ _ [_,_,_,_,_,_,_,_,_,_,_,_,_,_,_,_,_,_,_,_,_,_,_,_,_,_,_,_,_,_,_,_,_,_,_,_,_,_,_] _
   refine hk _ _ ⟨b16, O, ?_, hs.cast ?_⟩ <;> simp only [lq, cq, Nat.reduceBEq, p1_, q3_, q4_, q8_]
  ·
   rintro D t w hD hp hcl ⟨b16, O, ht, hs⟩ rest hk
   obtain ⟨p0_, p2_, _⟩ := hp
   obtain ⟨p1_, _⟩ := (hcl.get 2 (by decide)) p2_
   have q4_ := nz hcl 4 0 hD
   have q8_ := nz hcl 8 0 q4_
   simp only [hD, p0_, p1_, p2_, q4_, q8_, cq] at ht hs
   subst ht
   refine s_idxD (κ := kHM) (m := 1) rfl (hs.r2row 2 rfl) rfl (fun _ => rfl) gd6.1 (hs.r2lt 2 rfl gd6.2) had7_ rfl rfl rfl rfl rfl ?_
   show G _ _ _ _ [_,_,_,_,_,_,_,_,_,_,_,_,_,_,_,_,_,_,_,_,_,_,_,_,_,_,_,_,_,_,_,_,_,_,_,_,_,_,_] _
   refine hk _ _ ⟨b16, O, ?_, hs.cast ?_⟩ <;> simp only [lq, cq, Nat.reduceBEq, p0_, p1_, p2_, q4_, q8_]
  ·
   rintro D t w hD hp hcl ⟨b16, O, ht, hs⟩ rest hk
   obtain ⟨p3_, _⟩ := hp
   obtain ⟨p0_, p2_, _⟩ := (hcl.get 3 (by decide)) p3_
   obtain ⟨p1_, _⟩ := (hcl.get 2 (by decide)) p2_
   have q8_ := nz hcl 8 0 hD
   simp only [hD, p0_, p1_, p2_, p3_, q8_, cq] at ht hs
   subst ht
   refine s_load1 rfl rfl (v := Value.map (rdL mm10 a2.f_time none)) rfl rfl (fun _ => rfl) (cellsAt_of fkHM none (hs.r2row 2 rfl) had7_ gd6.1 (hs.r2lt 2 rfl gd6.2)) ?_
   show G _ _ _ _ [_,_,_,_,_,_,_,_,_,_,_,_,_,_,_,_,_,_,_,_,_,_,_,_,_,_,_,_,_,_,_,_,_,_,_,_,_,_,_] _
   refine hk _ _ ⟨b16, O, ?_, hs.cast ?_⟩ <;> simp only [lq, cq, Nat.reduceBEq, p0_, p1_, p2_, p3_, q8_]
  ·
   rintro D t w hD hp hcl ⟨b16, O, ht, hs⟩ rest hk
   have q6_ := nz hcl 6 0 hD
   have q8_ := nz hcl 8 1 q6_
   simp only [hD, q6_, q8_, cq] at ht hs
   subst ht
   refine g_op (v := Value.pointer (some ⟨b12, 1, none⟩)) rfl rfl rfl ?_
   show G _ _ _ _ [_,_,_,_,_,_,_,_,_,_,_,_,_,_,_,_,_,_,_,_,_,_,_,_,_,_,_,_,_,_,_,_,_,_,_,_,_,_,_] _
   refine hk _ _ ⟨b16, O, ?_, hs.cast ?_⟩ <;> simp only [lq, cq, Nat.reduceBEq, q6_, q8_]
  ·
   rintro D t w hD hp hcl ⟨b16, O, ht, hs⟩ rest hk
   obtain ⟨p5_, _⟩ := hp
   have q8_ := nz hcl 8 1 hD
   simp only [hD, p5_, q8_, cq] at ht hs
   subst ht
   refine s_loadA rfl rfl (es := ((encA (encI .i16)) a2.f_tops)) rfl rfl (fun _ => rfl) (n := 4) (fun _ => rfl) ((fkA (n := 4) (he := (fkI .i16).len) (h1 := (fkI .i16).one)).len _) (cells_load (hs.cells 0 rfl) 1 4 (by simp only [enc_S_impl_moment]; first | rfl | exact List.take_of_length_le (Nat.le_of_eq ((fkA (n := 4) (he := (fkI .i16).len) (h1 := (fkI .i16).one)).len _)) | simp [List.drop_append, List.take_append, encAI_len, encAB_len, encA_len, List.take_of_length_le])) ?_
   show G _ _ _ _ [_,_,_,_,_,_,_,_,_,_,_,_,_,_,_,_,_,_,_,_,_,_,_,_,_,_,_,_,_,_,_,_,_,_,_,_,_,_,_] _
   refine hk _ _ ⟨b16, O, ?_, hs.cast ?_⟩ <;> simp only [lq, cq, Nat.reduceBEq, p5_, q8_]
  ·
   rintro D t w hD hp hcl ⟨b16, O, ht, hs⟩ rest hk
   have q8_ := nz hcl 8 2 hD
   simp only [hD, q8_, cq] at ht hs
   subst ht
   refine g_op (v := Value.int .i64 (i64w (a3 + r14))) rfl rfl rfl ?_
   show G _ _ _ _ [_,_,_,_,_,_,_,_,_,_,_,_,_,_,_,_,_,_,_,_,_,_,_,_,_,_,_,_,_,_,_,_,_,_,_,_,_,_,_] _
   refine hk _ _ ⟨b16, O, ?_, hs.cast ?_⟩ <;> simp only [lq, cq, Nat.reduceBEq, q8_]
  ·
   rintro D t w hD hp hcl ⟨b16, O, ht, hs⟩ rest hk
   obtain ⟨p4_, p6_, p7_, p0_, p1_, p2_, p3_, _, p5_, _, _, _⟩ := hp
   simp only [hD, p0_, p1_, p2_, p3_, p4_, p5_, p6_, p7_, cq] at ht hs
   subst ht
   have hs := hs.pull 2 rfl
   have hs : St _ [_,_,_,_,_] _ := hs
   refine s_r2set key_ar4_30 gd6.1 gd6.2 eb16 (a := a2.f_tops) (y := i64w (a3 + r14)) hs rfl rfl (.inl rfl) Try.underlying43 rfl rfl rfl ?_
   intro w hs
   show G _ _ _ _ [_,_,_,_,_,_,_,_,_,_,_,_,_,_,_,_,_,_,_,_,_,_,_,_,_,_,_,_,_,_,_,_,_,_,_,_,_,_,_] _
   have hs := hs.push 2 (by simp)
   refine hk _ _ ⟨b16, O, ?_, hs.cast ?_⟩ <;> simp only [lq, cq, Nat.reduceBEq, p0_, p1_, p2_, p3_, p4_, p5_, p6_, p7_]
  intro D t w hall hI
  obtain ⟨b16, O, ht, hs⟩ := hI
  have p0_ := hall 0 (by decide)
  have p1_ := hall 1 (by decide)
  have p2_ := hall 2 (by decide)
  have p3_ := hall 3 (by decide)
  have p4_ := hall 4 (by decide)
  have p5_ := hall 5 (by decide)
  have p6_ := hall 6 (by decide)
  have p7_ := hall 7 (by decide)
  have p8_ := hall 8 (by decide)
  simp only [p0_, p1_, p2_, p3_, p4_, p5_, p6_, p7_, p8_, cq] at ht hs
  subst ht
  obtain rfl := Option.some.inj H
  refine g_end Try.func35 (v := Value.tuple #[]) (resN (l := Try.f35.results.toList) (vs := []) rfl trivial (by simp)) ?_
  have hs := hs.pull 4 rfl
  have hs := hs.pull 4 rfl
  have hs := hs.pull 4 rfl
  have hs := hs.pull 4 rfl
  have hs : St _ [_,_,_,_] _ := St.take (Γ' := [_]) hs
  exact ⟨_, rfl, rfl, hs⟩

end Go.Proofs.YtmnaclghakalmaaX
