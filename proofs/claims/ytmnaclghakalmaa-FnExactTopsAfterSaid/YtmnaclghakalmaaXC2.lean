/- Contracts, printed by gen.py. -/
import Derived.Test.YtmnaclghakalmaaXT
import Derived.Test.YtmnaclghakalmaaProg
import Derived.Test.YtmnaclghakalmaaXRowR
import Derived.Test.YtmnaclghakalmaaXSq
import Derived.Test.YtmnaclghakalmaaXSeg
import Derived.Test.YtmnaclghakalmaaXKey
import Derived.Test.YtmnaclghakalmaaXIter
import Derived.Test.YtmnaclghakalmaaXRow2
import Derived.Test.YtmnaclghakalmaaXEla
import Derived.Test.YtmnaclghakalmaaTCX
namespace Go.Proofs.YtmnaclghakalmaaX
open Go Go.RowKit Go.Proofs
set_option linter.unusedVariables false
set_option linter.unusedSimpArgs false
/- function 26 spec_l07Index -/
def spec_l07Index.post (w0 : World) (r : Int) (v : Value) (w : World) : Prop := v = Value.int .i64 r ∧ St w0 [] w
set_option maxHeartbeats 8000000 in
set_option maxRecDepth 100000 in
theorem spec_l07Index.calls {N : Nat} {a1 : (List Int)} {a3 : (Ar Int 4)} {v2 : Value} {w0 : World} {r : Int} (hr0 : RdRow (K.int .i16) w0 v2 a1) (H : spec_l07Index.f N a1 a3 = some r) :
    Calls Try.prog 26 #[v2, Value.agg ((encA (encI .i16)) a3).toArray] w0 fun e w => ∃ v, e = .returned v ∧ spec_l07Index.post w0 r v w := by
  unfold spec_l07Index.f at H
  have hs : St w0 [] w0 := St.refl w0
  refine calls_of_g (n := 26) Try.func26 rfl rfl ?_
  show G _ _ _ _ [_,_,_,_,_,_,_,_,_,_,_,_,_,_,_,_,_,_,_,_,_,_,_,_,_,_,_,_] _
  refine g_seq (g_rg [0, 1] rfl ?_)
  refine s_box hs rfl rfl (cs := ((encA (encI .i16)) a3)) rfl rfl ?_
  intro b4 w hs
  show G _ _ _ _ [_,_,_,_,_,_,_,_,_,_,_,_,_,_,_,_,_,_,_,_,_,_,_,_,_,_,_,_] _
  refine g_op (v := Value.int .i64 0) rfl rfl rfl (g_ops_nil (g_seq (g_rg [0] rfl ?_)))
  refine g_op (v := Value.int .i64 0) rfl rfl rfl (g_ops_nil (g_seq (g_seq (g_rg [0, 1, 2, 3] rfl ?_))))
  refine g_op (v := v2) rfl rfl rfl ?_
  refine s_len (hs.rd hr0) rfl rfl rfl rfl rfl ?_
  show G _ _ _ _ [_,_,_,_,_,_,_,_,_,_,_,_,_,_,_,_,_,_,_,_,_,_,_,_,_,_,_,_] _
  refine g_op (v := Value.int .i64 (i64w ((a1.length : Int) - 1))) rfl rfl rfl ?_
  refine g_op (v := Value.int .i64 (i64w ((a1.length : Int) - 1))) rfl rfl rfl (g_ops_nil ?_)
  obtain ⟨o1_, Ho, Hr1_⟩ := bind_get H
  refine g_block_join (J := fun t w => ∃ x8 : Int, spec_l07Index.a0 N x8 = some r ∧ Fr t (fun O => ([O 0, O 1, O 2, O 3, O 4, Value.int .i64 x8, O 6, O 7, O 8, O 9, O 10, O 11, O 12, O 13, O 14, O 15, O 16, O 17, O 18, O 19, O 20, O 21, O 22, O 23, O 24, O 25, O 26, O 27] : List Value)) ∧ St w0 [] w) ?_ ?_
  ·
   rintro t w ⟨x8, H, hf, hs⟩
   obtain ⟨O, rfl⟩ := hf.open
   show G _ _ _ _ [_,_,_,_,_,_,_,_,_,_,_,_,_,_,_,_,_,_,_,_,_,_,_,_,_,_,_,_] _
   unfold spec_l07Index.a0 at H
   refine g_seq (g_rg [0, 1] rfl ?_)
   refine g_op (v := Value.int .i64 x8) rfl rfl rfl ?_
   refine g_op (v := Value.int .i64 x8) rfl rfl rfl (g_ops_nil ?_)
   obtain rfl := Option.some.inj H
   refine g_ret Try.func26 (v := Value.int .i64 x8) (res1 rfl rfl) ?_
   have hs : St _ [] _ := St.take (Γ' := []) hs
   exact ⟨_, rfl, rfl, hs⟩
  intro ha1_
  have hs := hs.pull 0 rfl
  have hs : St _ [_] _ := St.take (Γ' := []) hs
  refine g_loop_fuel (I := fun n_ t w => ∃ x6 : Int, ∃ x7 : Int, rounds (fun s => spec_l07Index.b0 N a1 a3 s.1 s.2) n_ (x6, x7) = some o1_ ∧ Fr t (fun O => ([v2, O 1, O 2, Value.pointer (some ⟨b4, 0, none⟩), O 4, Value.int .i64 x6, Value.int .i64 x7, O 7, O 8, O 9, O 10, O 11, O 12, O 13, O 14, O 15, O 16, O 17, O 18, O 19, O 20, O 21, O 22, O 23, O 24, O 25, O 26, O 27] : List Value)) ∧ St w0 [Cells b4 ((encA (encI .i16)) a3) 30] w) N ⟨0, i64w ((a1.length : Int) - 1), Ho, rfl, hs⟩ ?_ ?_
  ·
   rintro _ _ ⟨x6, x7, h, _⟩
   exact rounds_zero h
  intro n_ ih1_
  rintro t w ⟨x6, x7, Ho, hf, hs⟩
  obtain ⟨O, rfl⟩ := hf.open
  show G _ _ _ _ [_,_,_,_,_,_,_,_,_,_,_,_,_,_,_,_,_,_,_,_,_,_,_,_,_,_,_,_] _
  obtain ⟨x4_, H, Hx1_⟩ := rounds_succ Ho
  have H : spec_l07Index.b0 N a1 a3 x6 x7 = some x4_ := H
  unfold spec_l07Index.b0 at H
  refine g_seq (g_seq (g_rg [0, 1] rfl ?_))
  refine g_op (v := Value.int .i64 x7) rfl rfl rfl ?_
  refine g_op_b (B := decide (x7 ≥ 0)) rfl rfl rfl ?_ ?_
  ·
   intro hb
   rw [if_pos (b_dec_t hb)] at H
   refine g_ops_nil (g_cond_true rfl (g_skip (g_seq ?_)))
   refine g_block ?_
   obtain ⟨gd1, H⟩ := ite_get H
   obtain ⟨ad2_, ad2_N, ad2_C, had2_⟩ := sl_at (hs.rd hr0) gd1.1 gd1.2
   obtain ⟨gd3, H⟩ := ite_get H
   refine g_name ?_
   intro T hT
   refine g_any (n := 14) rfl [0, 1, 2, 3, 4, 5, 6, 7, 8, 9, 10, 11, 12, 13] [0, 1, 2, 3, 4, 5, 6, 7, 8, 9, 10, 11, 12, 13] rfl rfl (Inv := fun D t w => ∃ O : Nat → Value, t = [v2, O 1, O 2, Value.pointer (some ⟨b4, 0, none⟩), O 4, cnd (D 13) (Value.int .i64 (i64w ((i64w (x6 * (i64w ((i64w (rdL a1 x7 0)) + 1)))) + (i64w (a3.get x7 0))))) (Value.int .i64 x6), Value.int .i64 x7, O 7, O 8, O 9, Value.int .i64 x7, Value.bool true, O 12, O 13, cnd (D 0) (Value.int .i64 x6) (O 14), cnd (D 1) v2 (O 15), cnd (D 2) (Value.int .i64 x7) (O 16), cnd (D 3) (Value.pointer (some (ad2_.add (x7.toNat * 1)))) (O 17), cnd (D 4) (Value.int .i16 (rdL a1 x7 0)) (O 18), cnd (D 5) (Value.int .i64 (i64w (rdL a1 x7 0))) (O 19), cnd (D 6) (Value.int .i64 (i64w ((i64w (rdL a1 x7 0)) + 1))) (O 20), cnd (D 7) (Value.int .i64 (i64w (x6 * (i64w ((i64w (rdL a1 x7 0)) + 1))))) (O 21), cnd (D 8) (Value.int .i64 x7) (O 22), cnd (D 9) (Value.pointer (some ⟨b4, 0 + x7.toNat * 1, none⟩)) (O 23), cnd (D 10) (Value.int .i16 (a3.get x7 0)) (O 24), cnd (D 11) (Value.int .i64 (i64w (a3.get x7 0))) (O 25), cnd (D 12) (Value.int .i64 (i64w ((i64w (x6 * (i64w ((i64w (rdL a1 x7 0)) + 1)))) + (i64w (a3.get x7 0))))) (O 26), O 27] ∧ St w0 [Cells b4 ((encA (encI .i16)) a3) 30] w) ?_ ⟨⟨⟨⟨⟨⟨⟨⟨⟨⟨⟨⟨⟨⟨trivial, ?_⟩, ?_⟩, ?_⟩, ?_⟩, ?_⟩, ?_⟩, ?_⟩, ?_⟩, ?_⟩, ?_⟩, ?_⟩, ?_⟩, ?_⟩, ?_⟩ ?_
   ·
    intro w hh hbw
    have hs := hs.samew hh hbw
    exact ⟨fun i => T.getD i undef, (by subst hT; rfl), hs⟩
   ·
    rintro D t w hD hp hcl ⟨O, ht, hs⟩ rest hk
    have q7_ := nz hcl 7 0 hD
    have q12_ := nz hcl 12 0 q7_
    have q13_ := nz hcl 13 0 q12_
    simp only [hD, q7_, q12_, q13_, cq] at ht hs
    subst ht
    refine g_op (v := Value.int .i64 x6) rfl rfl rfl ?_
    show G _ _ _ _ [_,_,_,_,_,_,_,_,_,_,_,_,_,_,_,_,_,_,_,_,_,_,_,_,_,_,_,_] _
    refine hk _ _ ⟨O, ?_, hs.cast ?_⟩ <;> simp only [lq, cq, Nat.reduceBEq, q7_, q12_, q13_]
   ·
    rintro D t w hD hp hcl ⟨O, ht, hs⟩ rest hk
    have q3_ := nz hcl 3 0 hD
    have q4_ := nz hcl 4 0 q3_
    have q5_ := nz hcl 5 0 q4_
    have q6_ := nz hcl 6 0 q5_
    have q7_ := nz hcl 7 1 q6_
    have q12_ := nz hcl 12 0 q7_
    have q13_ := nz hcl 13 0 q12_
    simp only [hD, q3_, q4_, q5_, q6_, q7_, q12_, q13_, cq] at ht hs
    subst ht
    refine g_op (v := v2) rfl rfl rfl ?_
    show G _ _ _ _ [_,_,_,_,_,_,_,_,_,_,_,_,_,_,_,_,_,_,_,_,_,_,_,_,_,_,_,_] _
    refine hk _ _ ⟨O, ?_, hs.cast ?_⟩ <;> simp only [lq, cq, Nat.reduceBEq, q3_, q4_, q5_, q6_, q7_, q12_, q13_]
   ·
    rintro D t w hD hp hcl ⟨O, ht, hs⟩ rest hk
    have q3_ := nz hcl 3 1 hD
    have q4_ := nz hcl 4 0 q3_
    have q5_ := nz hcl 5 0 q4_
    have q6_ := nz hcl 6 0 q5_
    have q7_ := nz hcl 7 1 q6_
    have q12_ := nz hcl 12 0 q7_
    have q13_ := nz hcl 13 0 q12_
    simp only [hD, q3_, q4_, q5_, q6_, q7_, q12_, q13_, cq] at ht hs
    subst ht
    refine g_op (v := Value.int .i64 x7) rfl rfl rfl ?_
    show G _ _ _ _ [_,_,_,_,_,_,_,_,_,_,_,_,_,_,_,_,_,_,_,_,_,_,_,_,_,_,_,_] _
    refine hk _ _ ⟨O, ?_, hs.cast ?_⟩ <;> simp only [lq, cq, Nat.reduceBEq, q3_, q4_, q5_, q6_, q7_, q12_, q13_]
   ·
    rintro D t w hD hp hcl ⟨O, ht, hs⟩ rest hk
    obtain ⟨p1_, p2_, _⟩ := hp
    have q4_ := nz hcl 4 0 hD
    have q5_ := nz hcl 5 0 q4_
    have q6_ := nz hcl 6 0 q5_
    have q7_ := nz hcl 7 1 q6_
    have q12_ := nz hcl 12 0 q7_
    have q13_ := nz hcl 13 0 q12_
    simp only [hD, p1_, p2_, q4_, q5_, q6_, q7_, q12_, q13_, cq] at ht hs
    subst ht
    refine s_idxD (κ := (K.int .i16)) (m := 1) rfl (hs.rd hr0) rfl (fun _ => rfl) gd1.1 gd1.2 had2_ rfl rfl rfl rfl rfl ?_
    show G _ _ _ _ [_,_,_,_,_,_,_,_,_,_,_,_,_,_,_,_,_,_,_,_,_,_,_,_,_,_,_,_] _
    refine hk _ _ ⟨O, ?_, hs.cast ?_⟩ <;> simp only [lq, cq, Nat.reduceBEq, p1_, p2_, q4_, q5_, q6_, q7_, q12_, q13_]
   ·
    rintro D t w hD hp hcl ⟨O, ht, hs⟩ rest hk
    obtain ⟨p3_, _⟩ := hp
    obtain ⟨p1_, p2_, _⟩ := (hcl.get 3 (by decide)) p3_
    have q5_ := nz hcl 5 0 hD
    have q6_ := nz hcl 6 0 q5_
    have q7_ := nz hcl 7 1 q6_
    have q12_ := nz hcl 12 0 q7_
    have q13_ := nz hcl 13 0 q12_
    simp only [hD, p1_, p2_, p3_, q5_, q6_, q7_, q12_, q13_, cq] at ht hs
    subst ht
    refine s_load1 rfl rfl (v := Value.int .i16 (rdL a1 x7 0)) rfl rfl (fun _ => rfl) (cellsAt_of (fkI .i16) 0 (hs.rd hr0) had2_ gd1.1 gd1.2) ?_
    show G _ _ _ _ [_,_,_,_,_,_,_,_,_,_,_,_,_,_,_,_,_,_,_,_,_,_,_,_,_,_,_,_] _
    refine hk _ _ ⟨O, ?_, hs.cast ?_⟩ <;> simp only [lq, cq, Nat.reduceBEq, p1_, p2_, p3_, q5_, q6_, q7_, q12_, q13_]
   ·
    rintro D t w hD hp hcl ⟨O, ht, hs⟩ rest hk
    obtain ⟨p4_, _⟩ := hp
    obtain ⟨p3_, _⟩ := (hcl.get 4 (by decide)) p4_
    obtain ⟨p1_, p2_, _⟩ := (hcl.get 3 (by decide)) p3_
    have q6_ := nz hcl 6 0 hD
    have q7_ := nz hcl 7 1 q6_
    have q12_ := nz hcl 12 0 q7_
    have q13_ := nz hcl 13 0 q12_
    simp only [hD, p1_, p2_, p3_, p4_, q6_, q7_, q12_, q13_, cq] at ht hs
    subst ht
    refine g_op (v := Value.int .i64 (i64w (rdL a1 x7 0))) rfl rfl rfl ?_
    show G _ _ _ _ [_,_,_,_,_,_,_,_,_,_,_,_,_,_,_,_,_,_,_,_,_,_,_,_,_,_,_,_] _
    refine hk _ _ ⟨O, ?_, hs.cast ?_⟩ <;> simp only [lq, cq, Nat.reduceBEq, p1_, p2_, p3_, p4_, q6_, q7_, q12_, q13_]
   ·
    rintro D t w hD hp hcl ⟨O, ht, hs⟩ rest hk
    obtain ⟨p5_, _⟩ := hp
    obtain ⟨p4_, _⟩ := (hcl.get 5 (by decide)) p5_
    obtain ⟨p3_, _⟩ := (hcl.get 4 (by decide)) p4_
    obtain ⟨p1_, p2_, _⟩ := (hcl.get 3 (by decide)) p3_
    have q7_ := nz hcl 7 1 hD
    have q12_ := nz hcl 12 0 q7_
    have q13_ := nz hcl 13 0 q12_
    simp only [hD, p1_, p2_, p3_, p4_, p5_, q7_, q12_, q13_, cq] at ht hs
    subst ht
    refine g_op (v := Value.int .i64 (i64w ((i64w (rdL a1 x7 0)) + 1))) rfl rfl rfl ?_
    show G _ _ _ _ [_,_,_,_,_,_,_,_,_,_,_,_,_,_,_,_,_,_,_,_,_,_,_,_,_,_,_,_] _
    refine hk _ _ ⟨O, ?_, hs.cast ?_⟩ <;> simp only [lq, cq, Nat.reduceBEq, p1_, p2_, p3_, p4_, p5_, q7_, q12_, q13_]
   ·
    rintro D t w hD hp hcl ⟨O, ht, hs⟩ rest hk
    obtain ⟨p0_, p6_, _⟩ := hp
    obtain ⟨p5_, _⟩ := (hcl.get 6 (by decide)) p6_
    obtain ⟨p4_, _⟩ := (hcl.get 5 (by decide)) p5_
    obtain ⟨p3_, _⟩ := (hcl.get 4 (by decide)) p4_
    obtain ⟨p1_, p2_, _⟩ := (hcl.get 3 (by decide)) p3_
    have q12_ := nz hcl 12 0 hD
    have q13_ := nz hcl 13 0 q12_
    simp only [hD, p0_, p1_, p2_, p3_, p4_, p5_, p6_, q12_, q13_, cq] at ht hs
    subst ht
    refine g_op (v := Value.int .i64 (i64w (x6 * (i64w ((i64w (rdL a1 x7 0)) + 1))))) rfl rfl rfl ?_
    show G _ _ _ _ [_,_,_,_,_,_,_,_,_,_,_,_,_,_,_,_,_,_,_,_,_,_,_,_,_,_,_,_] _
    refine hk _ _ ⟨O, ?_, hs.cast ?_⟩ <;> simp only [lq, cq, Nat.reduceBEq, p0_, p1_, p2_, p3_, p4_, p5_, p6_, q12_, q13_]
   ·
    rintro D t w hD hp hcl ⟨O, ht, hs⟩ rest hk
    have q9_ := nz hcl 9 0 hD
    have q10_ := nz hcl 10 0 q9_
    have q11_ := nz hcl 11 0 q10_
    have q12_ := nz hcl 12 1 q11_
    have q13_ := nz hcl 13 0 q12_
    simp only [hD, q9_, q10_, q11_, q12_, q13_, cq] at ht hs
    subst ht
    refine g_op (v := Value.int .i64 x7) rfl rfl rfl ?_
    show G _ _ _ _ [_,_,_,_,_,_,_,_,_,_,_,_,_,_,_,_,_,_,_,_,_,_,_,_,_,_,_,_] _
    refine hk _ _ ⟨O, ?_, hs.cast ?_⟩ <;> simp only [lq, cq, Nat.reduceBEq, q9_, q10_, q11_, q12_, q13_]
   ·
    rintro D t w hD hp hcl ⟨O, ht, hs⟩ rest hk
    obtain ⟨p8_, _⟩ := hp
    have q10_ := nz hcl 10 0 hD
    have q11_ := nz hcl 11 0 q10_
    have q12_ := nz hcl 12 1 q11_
    have q13_ := nz hcl 13 0 q12_
    simp only [hD, p8_, q10_, q11_, q12_, q13_, cq] at ht hs
    subst ht
    refine s_idxA (n := x7) (m := 1) rfl (fun _ => rfl) gd3.1 gd3.2 rfl rfl rfl rfl rfl ?_
    show G _ _ _ _ [_,_,_,_,_,_,_,_,_,_,_,_,_,_,_,_,_,_,_,_,_,_,_,_,_,_,_,_] _
    refine hk _ _ ⟨O, ?_, hs.cast ?_⟩ <;> simp only [lq, cq, Nat.reduceBEq, p8_, q10_, q11_, q12_, q13_]
   ·
    rintro D t w hD hp hcl ⟨O, ht, hs⟩ rest hk
    obtain ⟨p9_, _⟩ := hp
    obtain ⟨p8_, _⟩ := (hcl.get 9 (by decide)) p9_
    have q11_ := nz hcl 11 0 hD
    have q12_ := nz hcl 12 1 q11_
    have q13_ := nz hcl 13 0 q12_
    simp only [hD, p8_, p9_, q11_, q12_, q13_, cq] at ht hs
    subst ht
    refine s_load1 rfl rfl (v := Value.int .i16 (a3.get x7 0)) rfl rfl (fun _ => rfl) (by rw [Nat.zero_add]; exact cells_load (hs.cells 0 rfl) _ _ (encA_at (fkI .i16).len _ _ 0 gd3.1 gd3.2)) ?_
    show G _ _ _ _ [_,_,_,_,_,_,_,_,_,_,_,_,_,_,_,_,_,_,_,_,_,_,_,_,_,_,_,_] _
    refine hk _ _ ⟨O, ?_, hs.cast ?_⟩ <;> simp only [lq, cq, Nat.reduceBEq, p8_, p9_, q11_, q12_, q13_]
   ·
    rintro D t w hD hp hcl ⟨O, ht, hs⟩ rest hk
    obtain ⟨p10_, _⟩ := hp
    obtain ⟨p9_, _⟩ := (hcl.get 10 (by decide)) p10_
    obtain ⟨p8_, _⟩ := (hcl.get 9 (by decide)) p9_
    have q12_ := nz hcl 12 1 hD
    have q13_ := nz hcl 13 0 q12_
    simp only [hD, p8_, p9_, p10_, q12_, q13_, cq] at ht hs
    subst ht
    refine g_op (v := Value.int .i64 (i64w (a3.get x7 0))) rfl rfl rfl ?_
    show G _ _ _ _ [_,_,_,_,_,_,_,_,_,_,_,_,_,_,_,_,_,_,_,_,_,_,_,_,_,_,_,_] _
    refine hk _ _ ⟨O, ?_, hs.cast ?_⟩ <;> simp only [lq, cq, Nat.reduceBEq, p8_, p9_, p10_, q12_, q13_]
   ·
    rintro D t w hD hp hcl ⟨O, ht, hs⟩ rest hk
    obtain ⟨p7_, p11_, _⟩ := hp
    obtain ⟨p10_, _⟩ := (hcl.get 11 (by decide)) p11_
    obtain ⟨p9_, _⟩ := (hcl.get 10 (by decide)) p10_
    obtain ⟨p8_, _⟩ := (hcl.get 9 (by decide)) p9_
    obtain ⟨p0_, p6_, _⟩ := (hcl.get 7 (by decide)) p7_
    obtain ⟨p5_, _⟩ := (hcl.get 6 (by decide)) p6_
    obtain ⟨p4_, _⟩ := (hcl.get 5 (by decide)) p5_
    obtain ⟨p3_, _⟩ := (hcl.get 4 (by decide)) p4_
    obtain ⟨p1_, p2_, _⟩ := (hcl.get 3 (by decide)) p3_
    have q13_ := nz hcl 13 0 hD
    simp only [hD, p0_, p1_, p2_, p3_, p4_, p5_, p6_, p7_, p8_, p9_, p10_, p11_, q13_, cq] at ht hs
    subst ht
    refine g_op (v := Value.int .i64 (i64w ((i64w (x6 * (i64w ((i64w (rdL a1 x7 0)) + 1)))) + (i64w (a3.get x7 0))))) rfl rfl rfl ?_
    show G _ _ _ _ [_,_,_,_,_,_,_,_,_,_,_,_,_,_,_,_,_,_,_,_,_,_,_,_,_,_,_,_] _
    refine hk _ _ ⟨O, ?_, hs.cast ?_⟩ <;> simp only [lq, cq, Nat.reduceBEq, p0_, p1_, p2_, p3_, p4_, p5_, p6_, p7_, p8_, p9_, p10_, p11_, q13_]
   ·
    rintro D t w hD hp hcl ⟨O, ht, hs⟩ rest hk
    obtain ⟨p12_, p0_, p1_, p2_, p3_, p4_, p5_, p6_, p7_, p8_, p9_, p10_, p11_, _, _⟩ := hp
    simp only [hD, p0_, p1_, p2_, p3_, p4_, p5_, p6_, p7_, p8_, p9_, p10_, p11_, p12_, cq] at ht hs
    subst ht
    refine g_op (v := Value.int .i64 (i64w ((i64w (x6 * (i64w ((i64w (rdL a1 x7 0)) + 1)))) + (i64w (a3.get x7 0))))) rfl rfl rfl ?_
    show G _ _ _ _ [_,_,_,_,_,_,_,_,_,_,_,_,_,_,_,_,_,_,_,_,_,_,_,_,_,_,_,_] _
    refine hk _ _ ⟨O, ?_, hs.cast ?_⟩ <;> simp only [lq, cq, Nat.reduceBEq, p0_, p1_, p2_, p3_, p4_, p5_, p6_, p7_, p8_, p9_, p10_, p11_, p12_]
   intro D t w hall hI
   obtain ⟨O, ht, hs⟩ := hI
   have p0_ := hall 0 (by decide)
   have p1_ := hall 1 (by decide)
   have p2_ := hall 2 (by decide)
   have p3_ := hall 3 (by decide)
   have p4_ := hall 4 (by decide)
   have p5_ := hall 5 (by decide)
   have p6_ := hall 6 (by decide)
   have p7_ := hall 7 (by decide)
   have p8_ := hall 8 (by decide)
   have p9_ := hall 9 (by decide)
   have p10_ := hall 10 (by decide)
   have p11_ := hall 11 (by decide)
   have p12_ := hall 12 (by decide)
   have p13_ := hall 13 (by decide)
   simp only [p0_, p1_, p2_, p3_, p4_, p5_, p6_, p7_, p8_, p9_, p10_, p11_, p12_, p13_, cq] at ht hs
   subst ht
   refine g_inBlock (g_rg [0, 1, 2] rfl ?_)
   refine g_op (v := Value.int .i64 x7) rfl rfl rfl ?_
   refine g_op (v := Value.int .i64 (i64w (x7 - 1))) rfl rfl rfl ?_
   refine g_op (v := Value.int .i64 (i64w (x7 - 1))) rfl rfl rfl ?_
   show G _ _ _ _ [_,_,_,_,_,_,_,_,_,_,_,_,_,_,_,_,_,_,_,_,_,_,_,_,_,_,_,_] _
   refine g_ops_nil ?_
   obtain rfl := Option.some.inj H
   have hs := hs.pull 0 rfl
   have hs : St _ [_] _ := St.take (Γ' := []) hs
   exact ih1_ _ _ ⟨i64w ((i64w (x6 * (i64w ((i64w (rdL a1 x7 0)) + 1)))) + (i64w (a3.get x7 0))), i64w (x7 - 1), Hx1_, rfl, hs⟩
  intro hb
  rw [if_neg (b_dec_f hb)] at H
  show G _ _ _ _ [_,_,_,_,_,_,_,_,_,_,_,_,_,_,_,_,_,_,_,_,_,_,_,_,_,_,_,_] _
  refine g_ops_nil (g_cond_false rfl ?_)
  obtain rfl := Option.some.inj H
  subst Hx1_
  have hs : St _ [] _ := St.take (Γ' := [_]) hs
  refine g_exit rfl ?_
  exact ha1_ _ _ ⟨x6, Hr1_, rfl, hs⟩

/- function 15 spec_l07At -/
def spec_l07At.post (w0 : World) (r : (Ar Int 4)) (v : Value) (w : World) : Prop := v = Value.agg ((encA (encI .i16)) r).toArray ∧ St w0 [] w
set_option maxHeartbeats 8000000 in
set_option maxRecDepth 100000 in
theorem spec_l07At.calls {N : Nat} {a1 : (List Int)} {a3 : Int} {v2 : Value} {w0 : World} {r : (Ar Int 4)} (hr0 : RdRow (K.int .i16) w0 v2 a1) (H : spec_l07At.f N a1 a3 = some r) :
    Calls Try.prog 15 #[v2, Value.int .i64 a3] w0 fun e w => ∃ v, e = .returned v ∧ spec_l07At.post w0 r v w := by
  unfold spec_l07At.f at H
  have hs : St w0 [] w0 := St.refl w0
  refine calls_of_g (n := 29) Try.func15 rfl rfl ?_
  show G _ _ _ _ [_,_,_,_,_,_,_,_,_,_,_,_,_,_,_,_,_,_,_,_,_,_,_,_,_,_,_,_,_,_,_] _
  refine g_seq (g_rg [0] rfl ?_)
  refine s_alloc hs rfl rfl (z := (Value.agg #[Value.int .i16 0, Value.int .i16 0, Value.int .i16 0, Value.int .i16 0])) (cs := ((encA (encI .i16)) (Ar.rep 4 0))) rfl (fun _ => rfl) rfl ?_
  intro b4 w hs
  refine g_ops_nil (g_seq (g_rg [0, 1, 2] rfl ?_))
  refine g_op (v := Value.agg ((encA (encI .i16)) (Ar.rep 4 0)).toArray) rfl rfl (x_build rfl rfl) ?_
  show G _ _ _ _ [_,_,_,_,_,_,_,_,_,_,_,_,_,_,_,_,_,_,_,_,_,_,_,_,_,_,_,_,_,_,_] _
  refine s_alloc hs rfl rfl (z := (Value.agg #[Value.int .i16 0, Value.int .i16 0, Value.int .i16 0, Value.int .i16 0])) (cs := ((encA (encI .i16)) (Ar.rep 4 0))) rfl (fun _ => rfl) rfl ?_
  intro b6 w hs
  refine s_storeAll (n := 4) hs ((fkA (n := 4) (he := (fkI .i16).len) (h1 := (fkI .i16).one)).len _) rfl rfl (vs := ((encA (encI .i16)) (Ar.rep 4 0))) rfl rfl rfl (fun _ => rfl) ((fkA (n := 4) (he := (fkI .i16).len) (h1 := (fkI .i16).one)).len _) ((fkA (n := 4) (he := (fkI .i16).len) (h1 := (fkI .i16).one)).one _) ?_
  intro w hs
  refine g_ops_nil (g_seq (g_seq (g_rg [0] rfl ?_)))
  refine g_op (v := Value.int .i64 0) rfl rfl rfl (g_ops_nil ?_)
  obtain ⟨o1_, Ho, Hr1_⟩ := bind_get H
  refine g_block_join (J := fun t w => ∃ x15 : (Ar Int 4), spec_l07At.a0 N x15 = some r ∧ Fr t (fun O => ([O 0, O 1, O 2, O 3, Value.pointer (some ⟨b4, 0, none⟩), Value.pointer (some ⟨b6, 0, none⟩), O 6, O 7, O 8, O 9, O 10, O 11, O 12, O 13, O 14, O 15, O 16, O 17, O 18, O 19, O 20, O 21, O 22, O 23, O 24, O 25, O 26, O 27, O 28, O 29, O 30] : List Value)) ∧ St w0 [Cells b4 ((encA (encI .i16)) (Ar.rep 4 0)) 30, Cells b6 ((encA (encI .i16)) x15) 30] w) ?_ ?_
  ·
   rintro t w ⟨x15, H, hf, hs⟩
   obtain ⟨O, rfl⟩ := hf.open
   show G _ _ _ _ [_,_,_,_,_,_,_,_,_,_,_,_,_,_,_,_,_,_,_,_,_,_,_,_,_,_,_,_,_,_,_] _
   unfold spec_l07At.a0 at H
   refine g_seq (g_rg [0, 1] rfl ?_)
   refine s_loadA rfl rfl (es := ((encA (encI .i16)) x15)) rfl rfl (fun _ => rfl) (n := 4) (fun _ => rfl) ((fkA (n := 4) (he := (fkI .i16).len) (h1 := (fkI .i16).one)).len _) (cells_all (hs.cells 1 rfl)) ?_
   refine s_storeAll (n := 4) hs ((fkA (n := 4) (he := (fkI .i16).len) (h1 := (fkI .i16).one)).len _) rfl rfl (vs := ((encA (encI .i16)) x15)) rfl rfl rfl (fun _ => rfl) ((fkA (n := 4) (he := (fkI .i16).len) (h1 := (fkI .i16).one)).len _) ((fkA (n := 4) (he := (fkI .i16).len) (h1 := (fkI .i16).one)).one _) ?_
   intro w hs
   refine g_ops_nil ?_
   obtain rfl := Option.some.inj H
   refine g_ret Try.func15 (v := Value.agg ((encA (encI .i16)) x15).toArray) (resC rfl ⟨⟨_, rfl, (run_loadVar_agg (es := ((encA (encI .i16)) x15)) rfl (congrArg (Result.ok · _) ((fkA (n := 4) (he := (fkI .i16).len) (h1 := (fkI .i16).one)).len _).symm) (cells_all (hs.cells 0 rfl)))⟩, trivial⟩) ?_
   have hs : St _ [] _ := St.take (Γ' := [_,_]) hs
   exact ⟨_, rfl, rfl, hs⟩
  intro ha1_
  have hs := hs.pull 0 rfl
  have hs := hs.pull 1 rfl
  have hs : St _ [_,_] _ := St.take (Γ' := []) hs
  refine g_loop_fuel (I := fun n_ t w => ∃ x11 : Int, ∃ x12 : (Ar Int 4), ∃ x13 : Int, rounds (fun s => spec_l07At.b0 N a1 s.1 s.2.1 s.2.2) n_ (x11, x12, x13) = some o1_ ∧ Fr t (fun O => ([v2, Value.int .i64 x11, O 2, O 3, Value.pointer (some ⟨b4, 0, none⟩), Value.pointer (some ⟨b6, 0, none⟩), Value.int .i64 x13, O 7, O 8, O 9, O 10, O 11, O 12, O 13, O 14, O 15, O 16, O 17, O 18, O 19, O 20, O 21, O 22, O 23, O 24, O 25, O 26, O 27, O 28, O 29, O 30] : List Value)) ∧ St w0 [Cells b4 ((encA (encI .i16)) (Ar.rep 4 0)) 30, Cells b6 ((encA (encI .i16)) x12) 30] w) N ⟨a3, (Ar.rep 4 0), 0, Ho, rfl, hs⟩ ?_ ?_
  ·
   rintro _ _ ⟨x11, x12, x13, h, _⟩
   exact rounds_zero h
  intro n_ ih1_
  rintro t w ⟨x11, x12, x13, Ho, hf, hs⟩
  obtain ⟨O, rfl⟩ := hf.open
  show G _ _ _ _ [_,_,_,_,_,_,_,_,_,_,_,_,_,_,_,_,_,_,_,_,_,_,_,_,_,_,_,_,_,_,_] _
  obtain ⟨x9_, H, Hx1_⟩ := rounds_succ Ho
  have H : spec_l07At.b0 N a1 x11 x12 x13 = some x9_ := H
  unfold spec_l07At.b0 at H
  refine g_seq (g_seq (g_rg [0, 1, 2, 3] rfl ?_))
  refine g_op (v := Value.int .i64 x13) rfl rfl rfl ?_
  refine g_op (v := v2) rfl rfl rfl ?_
  refine s_len (hs.rd hr0) rfl rfl rfl rfl rfl ?_
  show G _ _ _ _ [_,_,_,_,_,_,_,_,_,_,_,_,_,_,_,_,_,_,_,_,_,_,_,_,_,_,_,_,_,_,_] _
  refine g_op_b (B := decide (x13 < (a1.length : Int))) rfl rfl rfl ?_ ?_
  ·
   intro hb
   rw [if_pos (b_dec_t hb)] at H
   refine g_ops_nil (g_cond_true rfl (g_skip (g_seq ?_)))
   refine g_block (g_seq (g_rg [0, 1, 2, 3, 4, 5, 6] rfl ?_))
   refine g_op (v := v2) rfl rfl rfl ?_
   refine g_op (v := Value.int .i64 x13) rfl rfl rfl ?_
   obtain ⟨g5, H⟩ := ite_get H
   refine s_idx (fkI .i16) 0 (hs.rd hr0) rfl (fun _ => rfl) g5.1 g5.2 rfl rfl rfl rfl rfl ?_
   intro p14 hp14 lp14 op14
   show G _ _ _ _ [_,_,_,_,_,_,_,_,_,_,_,_,_,_,_,_,_,_,_,_,_,_,_,_,_,_,_,_,_,_,_] _
   refine s_load1 rfl rfl (v := Value.int .i16 (rdL a1 x13 0)) rfl rfl (fun _ => rfl) hp14 ?_
   refine g_op (v := Value.int .i64 (i64w (rdL a1 x13 0))) rfl rfl rfl ?_
   refine g_op (v := Value.int .i64 (i64w ((i64w (rdL a1 x13 0)) + 1))) rfl rfl rfl ?_
   refine g_op (v := Value.int .i64 (i64w ((i64w (rdL a1 x13 0)) + 1))) rfl rfl rfl ?_
   show G _ _ _ _ [_,_,_,_,_,_,_,_,_,_,_,_,_,_,_,_,_,_,_,_,_,_,_,_,_,_,_,_,_,_,_] _
   refine g_ops_nil (g_seq (g_rg [0, 1, 2, 3, 4, 5, 6] rfl ?_))
   refine g_op (v := Value.int .i64 x13) rfl rfl rfl ?_
   refine g_op (v := Value.int .i64 x11) rfl rfl rfl ?_
   refine g_op (v := Value.int .i64 (i64w ((i64w (rdL a1 x13 0)) + 1))) rfl rfl rfl ?_
   obtain ⟨g6, H⟩ := ite_get H
   refine g_op (v := Value.int .i64 (x11.tmod (i64w ((i64w (rdL a1 x13 0)) + 1)))) rfl rfl (x_divrem rfl rfl rfl g6) ?_
   refine g_op (v := Value.int .i16 (i16w (x11.tmod (i64w ((i64w (rdL a1 x13 0)) + 1))))) rfl rfl rfl ?_
   obtain ⟨g7, H⟩ := ite_get H
   refine s_idxA (n := x13) (m := 1) rfl (fun _ => rfl) g7.1 g7.2 rfl rfl rfl rfl rfl ?_
   have hs := hs.pull 1 rfl
   have hs : St _ [_,_] _ := hs
   refine s_storeA (y := i16w (x11.tmod (i64w ((i64w (rdL a1 x13 0)) + 1)))) (fkI .i16).len (fkI .i16).one g7.1 g7.2 hs rfl rfl rfl rfl rfl (fun _ => rfl) ?_
   intro w hs
   refine g_ops_nil (g_rg [0, 1, 2, 3] rfl ?_)
   refine g_op (v := Value.int .i64 x11) rfl rfl rfl ?_
   refine g_op (v := Value.int .i64 (i64w ((i64w (rdL a1 x13 0)) + 1))) rfl rfl rfl ?_
   obtain ⟨g8, H⟩ := ite_get H
   refine g_op (v := Value.int .i64 (i64w (x11.tdiv (i64w ((i64w (rdL a1 x13 0)) + 1))))) rfl rfl (x_divquo rfl rfl rfl g8) ?_
   show G _ _ _ _ [_,_,_,_,_,_,_,_,_,_,_,_,_,_,_,_,_,_,_,_,_,_,_,_,_,_,_,_,_,_,_] _
   refine g_op (v := Value.int .i64 (i64w (x11.tdiv (i64w ((i64w (rdL a1 x13 0)) + 1))))) rfl rfl rfl (g_ops_nil ?_)
   refine g_inBlock (g_rg [0, 1, 2] rfl ?_)
   refine g_op (v := Value.int .i64 x13) rfl rfl rfl ?_
   refine g_op (v := Value.int .i64 (i64w (x13 + 1))) rfl rfl rfl ?_
   refine g_op (v := Value.int .i64 (i64w (x13 + 1))) rfl rfl rfl ?_
   show G _ _ _ _ [_,_,_,_,_,_,_,_,_,_,_,_,_,_,_,_,_,_,_,_,_,_,_,_,_,_,_,_,_,_,_] _
   refine g_ops_nil ?_
   obtain rfl := Option.some.inj H
   have hs := hs.pull 0 rfl
   have hs := hs.pull 1 rfl
   have hs : St _ [_,_] _ := St.take (Γ' := []) hs
   exact ih1_ _ _ ⟨i64w (x11.tdiv (i64w ((i64w (rdL a1 x13 0)) + 1))), x12.set x13 (i16w (x11.tmod (i64w ((i64w (rdL a1 x13 0)) + 1)))), i64w (x13 + 1), Hx1_, rfl, hs⟩
  intro hb
  rw [if_neg (b_dec_f hb)] at H
  refine g_ops_nil (g_cond_false rfl ?_)
  obtain rfl := Option.some.inj H
  subst Hx1_
  have hs := hs.pull 1 rfl
  have hs := hs.pull 1 rfl
  have hs : St _ [_,_] _ := St.take (Γ' := []) hs
  refine g_exit rfl ?_
  exact ha1_ _ _ ⟨x12, Hr1_, rfl, hs⟩

/- function 27 spec_l07Sets -/
def spec_l07Sets.post (w0 : World) (r : Int) (v : Value) (w : World) : Prop := v = Value.int .i64 r ∧ St w0 [] w
set_option maxHeartbeats 8000000 in
set_option maxRecDepth 100000 in
theorem spec_l07Sets.calls {N : Nat} {a1 : (List Int)} {v2 : Value} {w0 : World} {r : Int} (hr0 : RdRow (K.int .i16) w0 v2 a1) (H : spec_l07Sets.f N a1 = some r) :
    Calls Try.prog 27 #[v2] w0 fun e w => ∃ v, e = .returned v ∧ spec_l07Sets.post w0 r v w := by
  unfold spec_l07Sets.f at H
  have hs : St w0 [] w0 := St.refl w0
  refine calls_of_g (n := 6) Try.func27 rfl rfl ?_
  show G _ _ _ _ [_,_,_,_,_,_,_] _
  refine g_seq (g_rg [0] rfl ?_)
  refine g_op (v := Value.int .i64 0) rfl rfl rfl ?_
  show G _ _ _ _ [_,_,_,_,_,_,_] _
  refine g_ops_nil (g_seq (g_rg [0, 1, 2, 3, 4] rfl ?_))
  refine g_op (v := v2) rfl rfl rfl ?_
  refine s_len (hs.rd hr0) rfl rfl rfl rfl rfl ?_
  refine g_op (v := Value.int .u64 (u64w (a1.length : Int))) rfl rfl rfl ?_
  show G _ _ _ _ [_,_,_,_,_,_,_] _
  obtain ⟨g1, H⟩ := ite_get H
  refine g_op (v := Value.int .i64 (shlI .i64 1 (u64w (a1.length : Int)))) rfl rfl (x_shl rfl rfl rfl g1) ?_
  refine g_op (v := Value.int .i64 (shlI .i64 1 (u64w (a1.length : Int)))) rfl rfl rfl (g_ops_nil ?_)
  obtain rfl := Option.some.inj H
  refine g_ret Try.func27 (v := Value.int .i64 (shlI .i64 1 (u64w (a1.length : Int)))) (res1 rfl rfl) ?_
  have hs : St _ [] _ := St.take (Γ' := []) hs
  exact ⟨_, rfl, rfl, hs⟩

/- function 29 spec_l07Turn -/
def spec_l07Turn.post (w0 : World) (r : (Ar Int 4)) (v : Value) (w : World) : Prop := v = Value.agg ((encA (encI .i16)) r).toArray ∧ St w0 [] w
set_option maxHeartbeats 8000000 in
set_option maxRecDepth 100000 in
theorem spec_l07Turn.calls {N : Nat} {a1 : (List Int)} {a3 : (Ar Int 4)} {a4 : Int} {v2 : Value} {w0 : World} {r : (Ar Int 4)} (hr0 : RdRow (K.int .i16) w0 v2 a1) (H : spec_l07Turn.f N a1 a3 a4 = some r) :
    Calls Try.prog 29 #[v2, Value.agg ((encA (encI .i16)) a3).toArray, Value.int .u8 a4] w0 fun e w => ∃ v, e = .returned v ∧ spec_l07Turn.post w0 r v w := by
  unfold spec_l07Turn.f at H
  have hs : St w0 [] w0 := St.refl w0
  refine calls_of_g (n := 28) Try.func29 rfl rfl ?_
  show G _ _ _ _ [_,_,_,_,_,_,_,_,_,_,_,_,_,_,_,_,_,_,_,_,_,_,_,_,_,_,_,_,_,_,_] _
  refine g_seq (g_rg [0, 1] rfl ?_)
  refine s_box hs rfl rfl (cs := ((encA (encI .i16)) a3)) rfl rfl ?_
  intro b5 w hs
  refine s_alloc hs rfl rfl (z := (Value.agg #[Value.int .i16 0, Value.int .i16 0, Value.int .i16 0, Value.int .i16 0])) (cs := ((encA (encI .i16)) (Ar.rep 4 0))) rfl (fun _ => rfl) rfl ?_
  intro b7 w hs
  refine g_ops_nil (g_seq (g_seq (g_rg [0] rfl ?_)))
  refine g_op (v := Value.int .i64 0) rfl rfl rfl ?_
  show G _ _ _ _ [_,_,_,_,_,_,_,_,_,_,_,_,_,_,_,_,_,_,_,_,_,_,_,_,_,_,_,_,_,_,_] _
  refine g_ops_nil ?_
  obtain ⟨o1_, Ho, Hr1_⟩ := bind_get H
  refine g_block_join (J := fun t w => ∃ x14 : (Ar Int 4), spec_l07Turn.a0 N x14 = some r ∧ Fr t (fun O => ([O 0, O 1, O 2, O 3, Value.pointer (some ⟨b5, 0, none⟩), O 5, Value.pointer (some ⟨b7, 0, none⟩), O 7, O 8, O 9, O 10, O 11, O 12, O 13, O 14, O 15, O 16, O 17, O 18, O 19, O 20, O 21, O 22, O 23, O 24, O 25, O 26, O 27, O 28, O 29, O 30] : List Value)) ∧ St w0 [Cells b5 ((encA (encI .i16)) x14) 30, Cells b7 ((encA (encI .i16)) (Ar.rep 4 0)) 30] w) ?_ ?_
  ·
   rintro t w ⟨x14, H, hf, hs⟩
   obtain ⟨O, rfl⟩ := hf.open
   show G _ _ _ _ [_,_,_,_,_,_,_,_,_,_,_,_,_,_,_,_,_,_,_,_,_,_,_,_,_,_,_,_,_,_,_] _
   unfold spec_l07Turn.a0 at H
   refine g_seq (g_rg [0, 1] rfl ?_)
   refine s_loadA rfl rfl (es := ((encA (encI .i16)) x14)) rfl rfl (fun _ => rfl) (n := 4) (fun _ => rfl) ((fkA (n := 4) (he := (fkI .i16).len) (h1 := (fkI .i16).one)).len _) (cells_all (hs.cells 0 rfl)) ?_
   have hs := hs.pull 1 rfl
   have hs : St _ [_,_] _ := hs
   refine s_storeAll (n := 4) hs ((fkA (n := 4) (he := (fkI .i16).len) (h1 := (fkI .i16).one)).len _) rfl rfl (vs := ((encA (encI .i16)) x14)) rfl rfl rfl (fun _ => rfl) ((fkA (n := 4) (he := (fkI .i16).len) (h1 := (fkI .i16).one)).len _) ((fkA (n := 4) (he := (fkI .i16).len) (h1 := (fkI .i16).one)).one _) ?_
   intro w hs
   refine g_ops_nil ?_
   obtain rfl := Option.some.inj H
   refine g_ret Try.func29 (v := Value.agg ((encA (encI .i16)) x14).toArray) (resC rfl ⟨⟨_, rfl, (run_loadVar_agg (es := ((encA (encI .i16)) x14)) rfl (congrArg (Result.ok · _) ((fkA (n := 4) (he := (fkI .i16).len) (h1 := (fkI .i16).one)).len _).symm) (cells_all (hs.cells 0 rfl)))⟩, trivial⟩) ?_
   have hs : St _ [] _ := St.take (Γ' := [_,_]) hs
   exact ⟨_, rfl, rfl, hs⟩
  intro ha1_
  have hs := hs.pull 0 rfl
  have hs := hs.pull 1 rfl
  have hs : St _ [_,_] _ := St.take (Γ' := []) hs
  refine g_loop_fuel (I := fun n_ t w => ∃ x11 : (Ar Int 4), ∃ x12 : Int, rounds (fun s => spec_l07Turn.b0 N a1 a4 s.1 s.2) n_ (x11, x12) = some o1_ ∧ Fr t (fun O => ([v2, O 1, Value.int .u8 a4, O 3, Value.pointer (some ⟨b5, 0, none⟩), O 5, Value.pointer (some ⟨b7, 0, none⟩), Value.int .i64 x12, O 8, O 9, O 10, O 11, O 12, O 13, O 14, O 15, O 16, O 17, O 18, O 19, O 20, O 21, O 22, O 23, O 24, O 25, O 26, O 27, O 28, O 29, O 30] : List Value)) ∧ St w0 [Cells b5 ((encA (encI .i16)) x11) 30, Cells b7 ((encA (encI .i16)) (Ar.rep 4 0)) 30] w) N ⟨a3, 0, Ho, rfl, hs⟩ ?_ ?_
  ·
   rintro _ _ ⟨x11, x12, h, _⟩
   exact rounds_zero h
  intro n_ ih1_
  rintro t w ⟨x11, x12, Ho, hf, hs⟩
  obtain ⟨O, rfl⟩ := hf.open
  show G _ _ _ _ [_,_,_,_,_,_,_,_,_,_,_,_,_,_,_,_,_,_,_,_,_,_,_,_,_,_,_,_,_,_,_] _
  obtain ⟨x11_, H, Hx1_⟩ := rounds_succ Ho
  have H : spec_l07Turn.b0 N a1 a4 x11 x12 = some x11_ := H
  unfold spec_l07Turn.b0 at H
  refine g_seq (g_seq (g_rg [0, 1, 2, 3] rfl ?_))
  refine g_op (v := Value.int .i64 x12) rfl rfl rfl ?_
  refine g_op (v := v2) rfl rfl rfl ?_
  refine s_len (hs.rd hr0) rfl rfl rfl rfl rfl ?_
  refine g_op_b (B := decide (x12 < (a1.length : Int))) rfl rfl rfl ?_ ?_
  ·
   intro hb
   rw [if_pos (b_dec_t hb)] at H
   show G _ _ _ _ [_,_,_,_,_,_,_,_,_,_,_,_,_,_,_,_,_,_,_,_,_,_,_,_,_,_,_,_,_,_,_] _
   refine g_ops_nil (g_cond_true rfl (g_skip (g_seq ?_)))
   refine g_block_join (J := (fun t w => ∃ x13 : (Ar Int 4), spec_l07Turn.j2 N x12 x13 = some x11_ ∧ Fr t (fun O => ([v2, O 1, Value.int .u8 a4, O 3, Value.pointer (some ⟨b5, 0, none⟩), O 5, Value.pointer (some ⟨b7, 0, none⟩), Value.int .i64 x12, O 8, O 9, O 10, O 11, O 12, O 13, O 14, O 15, O 16, O 17, O 18, O 19, O 20, O 21, O 22, O 23, O 24, O 25, O 26, O 27, O 28, O 29, O 30] : List Value)) ∧ St w0 [Cells b5 ((encA (encI .i16)) x13) 30, Cells b7 ((encA (encI .i16)) (Ar.rep 4 0)) 30] w)) ?_ ?_
   ·
    rintro t w ⟨x13, H, hf, hs⟩
    obtain ⟨O, rfl⟩ := hf.open
    show G _ _ _ _ [_,_,_,_,_,_,_,_,_,_,_,_,_,_,_,_,_,_,_,_,_,_,_,_,_,_,_,_,_,_,_] _
    unfold spec_l07Turn.j2 at H
    refine g_rg [0, 1, 2] rfl ?_
    refine g_op (v := Value.int .i64 x12) rfl rfl rfl ?_
    refine g_op (v := Value.int .i64 (i64w (x12 + 1))) rfl rfl rfl ?_
    show G _ _ _ _ [_,_,_,_,_,_,_,_,_,_,_,_,_,_,_,_,_,_,_,_,_,_,_,_,_,_,_,_,_,_,_] _
    refine g_op (v := Value.int .i64 (i64w (x12 + 1))) rfl rfl rfl (g_ops_nil ?_)
    obtain rfl := Option.some.inj H
    have hs := hs.pull 1 rfl
    have hs := hs.pull 1 rfl
    have hs : St _ [_,_] _ := St.take (Γ' := []) hs
    exact ih1_ _ _ ⟨x13, i64w (x12 + 1), Hx1_, rfl, hs⟩
   intro ha
   refine g_seq (g_rg [0, 1, 2, 3, 4, 5] rfl ?_)
   refine g_op (v := Value.int .u8 a4) rfl rfl rfl ?_
   refine g_op (v := Value.int .i64 x12) rfl rfl rfl ?_
   refine g_op (v := Value.int .u64 (u64w x12)) rfl rfl rfl ?_
   obtain ⟨g6, H⟩ := ite_get H
   refine g_op (v := Value.int .u8 (shrI .u8 a4 (u64w x12))) rfl rfl (x_shr rfl rfl rfl g6) ?_
   refine g_op (v := Value.int .u8 ((shrI .u8 a4 (u64w x12)).tmod 2)) rfl rfl rfl ?_
   refine g_op_b (B := ((shrI .u8 a4 (u64w x12)).tmod 2) == 1) rfl rfl rfl ?_ ?_
   ·
    intro hb
    rw [if_pos (b_beq_t hb)] at H
    refine g_ops_nil (g_cond_true rfl ?_)
    obtain ⟨gd7, H⟩ := ite_get H
    obtain ⟨ad8_, ad8_N, ad8_C, had8_⟩ := sl_at (hs.rd hr0) gd7.1 gd7.2
    obtain ⟨gd9, H⟩ := ite_get H
    obtain ⟨gd10, H⟩ := ite_get H
    refine g_name ?_
    intro T hT
    refine g_any (n := 11) rfl [0, 1, 2, 3, 4, 5, 6, 7, 8, 9, 10] [0, 1, 2, 3, 4, 5, 6, 7, 8, 9, 10] rfl rfl (Inv := fun D t w => ∃ O : Nat → Value, t = [v2, O 1, Value.int .u8 a4, O 3, Value.pointer (some ⟨b5, 0, none⟩), O 5, Value.pointer (some ⟨b7, 0, none⟩), Value.int .i64 x12, Value.int .i64 x12, v2, Value.int .i64 (a1.length : Int), Value.bool true, O 12, O 13, Value.int .u8 a4, Value.int .i64 x12, Value.int .u64 (u64w x12), Value.int .u8 (shrI .u8 a4 (u64w x12)), Value.int .u8 ((shrI .u8 a4 (u64w x12)).tmod 2), Value.bool true, cnd (D 0) (Value.int .i64 x12) (O 20), cnd (D 1) v2 (O 21), cnd (D 2) (Value.int .i64 x12) (O 22), cnd (D 3) (Value.pointer (some (ad8_.add (x12.toNat * 1)))) (O 23), cnd (D 4) (Value.int .i16 (rdL a1 x12 0)) (O 24), cnd (D 5) (Value.int .i64 x12) (O 25), cnd (D 6) (Value.pointer (some ⟨b5, 0 + x12.toNat * 1, none⟩)) (O 26), cnd (D 7) (Value.int .i16 (x11.get x12 0)) (O 27), cnd (D 8) (Value.int .i16 (i16w ((rdL a1 x12 0) - (x11.get x12 0)))) (O 28), cnd (D 9) (Value.pointer (some ⟨b5, 0 + x12.toNat * 1, none⟩)) (O 29), O 30] ∧ St w0 [Cells b5 (cnd (D 10) ((encA (encI .i16)) (x11.set x12 (i16w ((rdL a1 x12 0) - (x11.get x12 0))))) ((encA (encI .i16)) x11)) 30, Cells b7 ((encA (encI .i16)) (Ar.rep 4 0)) 30] w) ?_ ⟨⟨⟨⟨⟨⟨⟨⟨⟨⟨⟨trivial, ?_⟩, ?_⟩, ?_⟩, ?_⟩, ?_⟩, ?_⟩, ?_⟩, ?_⟩, ?_⟩, ?_⟩, ?_⟩ ?_
    ·
     intro w hh hbw
     have hs := hs.samew hh hbw
     exact ⟨fun i => T.getD i undef, (by subst hT; rfl), hs⟩
    ·
     rintro D t w hD hp hcl ⟨O, ht, hs⟩ rest hk
     have q9_ := nz hcl 9 0 hD
     have q10_ := nz hcl 10 0 q9_
     simp only [hD, q9_, q10_, cq] at ht hs
     subst ht
     refine g_op (v := Value.int .i64 x12) rfl rfl rfl ?_
     show G _ _ _ _ [_,_,_,_,_,_,_,_,_,_,_,_,_,_,_,_,_,_,_,_,_,_,_,_,_,_,_,_,_,_,_] _
     refine hk _ _ ⟨O, ?_, hs.cast ?_⟩ <;> simp only [lq, cq, Nat.reduceBEq, q9_, q10_]
    ·
     rintro D t w hD hp hcl ⟨O, ht, hs⟩ rest hk
     have q3_ := nz hcl 3 0 hD
     have q4_ := nz hcl 4 0 q3_
     have q8_ := nz hcl 8 0 q4_
     have q9_ := nz hcl 9 2 hD
     have q10_ := nz hcl 10 0 q9_
     simp only [hD, q3_, q4_, q8_, q9_, q10_, cq] at ht hs
     subst ht
     refine g_op (v := v2) rfl rfl rfl ?_
     show G _ _ _ _ [_,_,_,_,_,_,_,_,_,_,_,_,_,_,_,_,_,_,_,_,_,_,_,_,_,_,_,_,_,_,_] _
     refine hk _ _ ⟨O, ?_, hs.cast ?_⟩ <;> simp only [lq, cq, Nat.reduceBEq, q3_, q4_, q8_, q9_, q10_]
    ·
     rintro D t w hD hp hcl ⟨O, ht, hs⟩ rest hk
     have q3_ := nz hcl 3 1 hD
     have q4_ := nz hcl 4 0 q3_
     have q8_ := nz hcl 8 0 q4_
     have q9_ := nz hcl 9 3 hD
     have q10_ := nz hcl 10 0 q9_
     simp only [hD, q3_, q4_, q8_, q9_, q10_, cq] at ht hs
     subst ht
     refine g_op (v := Value.int .i64 x12) rfl rfl rfl ?_
     show G _ _ _ _ [_,_,_,_,_,_,_,_,_,_,_,_,_,_,_,_,_,_,_,_,_,_,_,_,_,_,_,_,_,_,_] _
     refine hk _ _ ⟨O, ?_, hs.cast ?_⟩ <;> simp only [lq, cq, Nat.reduceBEq, q3_, q4_, q8_, q9_, q10_]
    ·
     rintro D t w hD hp hcl ⟨O, ht, hs⟩ rest hk
     obtain ⟨p1_, p2_, _⟩ := hp
     have q4_ := nz hcl 4 0 hD
     have q8_ := nz hcl 8 0 q4_
     have q9_ := nz hcl 9 4 hD
     have q10_ := nz hcl 10 0 q9_
     simp only [hD, p1_, p2_, q4_, q8_, q9_, q10_, cq] at ht hs
     subst ht
     refine s_idxD (κ := (K.int .i16)) (m := 1) rfl (hs.rd hr0) rfl (fun _ => rfl) gd7.1 gd7.2 had8_ rfl rfl rfl rfl rfl ?_
     show G _ _ _ _ [_,_,_,_,_,_,_,_,_,_,_,_,_,_,_,_,_,_,_,_,_,_,_,_,_,_,_,_,_,_,_] _
     refine hk _ _ ⟨O, ?_, hs.cast ?_⟩ <;> simp only [lq, cq, Nat.reduceBEq, p1_, p2_, q4_, q8_, q9_, q10_]
    ·
     rintro D t w hD hp hcl ⟨O, ht, hs⟩ rest hk
     obtain ⟨p3_, _⟩ := hp
     obtain ⟨p1_, p2_, _⟩ := (hcl.get 3 (by decide)) p3_
     have q8_ := nz hcl 8 0 hD
     have q9_ := nz hcl 9 5 hD
     have q10_ := nz hcl 10 0 q9_
     simp only [hD, p1_, p2_, p3_, q8_, q9_, q10_, cq] at ht hs
     subst ht
     refine s_load1 rfl rfl (v := Value.int .i16 (rdL a1 x12 0)) rfl rfl (fun _ => rfl) (cellsAt_of (fkI .i16) 0 (hs.rd hr0) had8_ gd7.1 gd7.2) ?_
     show G _ _ _ _ [_,_,_,_,_,_,_,_,_,_,_,_,_,_,_,_,_,_,_,_,_,_,_,_,_,_,_,_,_,_,_] _
     refine hk _ _ ⟨O, ?_, hs.cast ?_⟩ <;> simp only [lq, cq, Nat.reduceBEq, p1_, p2_, p3_, q8_, q9_, q10_]
    ·
     rintro D t w hD hp hcl ⟨O, ht, hs⟩ rest hk
     have q6_ := nz hcl 6 0 hD
     have q7_ := nz hcl 7 0 q6_
     have q8_ := nz hcl 8 1 q7_
     have q9_ := nz hcl 9 6 hD
     have q10_ := nz hcl 10 0 q9_
     simp only [hD, q6_, q7_, q8_, q9_, q10_, cq] at ht hs
     subst ht
     refine g_op (v := Value.int .i64 x12) rfl rfl rfl ?_
     show G _ _ _ _ [_,_,_,_,_,_,_,_,_,_,_,_,_,_,_,_,_,_,_,_,_,_,_,_,_,_,_,_,_,_,_] _
     refine hk _ _ ⟨O, ?_, hs.cast ?_⟩ <;> simp only [lq, cq, Nat.reduceBEq, q6_, q7_, q8_, q9_, q10_]
    ·
     rintro D t w hD hp hcl ⟨O, ht, hs⟩ rest hk
     obtain ⟨p5_, _⟩ := hp
     have q7_ := nz hcl 7 0 hD
     have q8_ := nz hcl 8 1 q7_
     have q9_ := nz hcl 9 7 hD
     have q10_ := nz hcl 10 0 q9_
     simp only [hD, p5_, q7_, q8_, q9_, q10_, cq] at ht hs
     subst ht
     refine s_idxA (n := x12) (m := 1) rfl (fun _ => rfl) gd9.1 gd9.2 rfl rfl rfl rfl rfl ?_
     show G _ _ _ _ [_,_,_,_,_,_,_,_,_,_,_,_,_,_,_,_,_,_,_,_,_,_,_,_,_,_,_,_,_,_,_] _
     refine hk _ _ ⟨O, ?_, hs.cast ?_⟩ <;> simp only [lq, cq, Nat.reduceBEq, p5_, q7_, q8_, q9_, q10_]
    ·
     rintro D t w hD hp hcl ⟨O, ht, hs⟩ rest hk
     obtain ⟨p6_, _⟩ := hp
     obtain ⟨p5_, _⟩ := (hcl.get 6 (by decide)) p6_
     have q8_ := nz hcl 8 1 hD
     have q9_ := nz hcl 9 8 hD
     have q10_ := nz hcl 10 0 q9_
     simp only [hD, p5_, p6_, q8_, q9_, q10_, cq] at ht hs
     subst ht
     refine s_load1 rfl rfl (v := Value.int .i16 (x11.get x12 0)) rfl rfl (fun _ => rfl) (by rw [Nat.zero_add]; exact cells_load (hs.cells 0 rfl) _ _ (encA_at (fkI .i16).len _ _ 0 gd9.1 gd9.2)) ?_
     show G _ _ _ _ [_,_,_,_,_,_,_,_,_,_,_,_,_,_,_,_,_,_,_,_,_,_,_,_,_,_,_,_,_,_,_] _
     refine hk _ _ ⟨O, ?_, hs.cast ?_⟩ <;> simp only [lq, cq, Nat.reduceBEq, p5_, p6_, q8_, q9_, q10_]
    ·
     rintro D t w hD hp hcl ⟨O, ht, hs⟩ rest hk
     obtain ⟨p4_, p7_, _⟩ := hp
     obtain ⟨p6_, _⟩ := (hcl.get 7 (by decide)) p7_
     obtain ⟨p5_, _⟩ := (hcl.get 6 (by decide)) p6_
     obtain ⟨p3_, _⟩ := (hcl.get 4 (by decide)) p4_
     obtain ⟨p1_, p2_, _⟩ := (hcl.get 3 (by decide)) p3_
     have q9_ := nz hcl 9 9 hD
     have q10_ := nz hcl 10 0 q9_
     simp only [hD, p1_, p2_, p3_, p4_, p5_, p6_, p7_, q9_, q10_, cq] at ht hs
     subst ht
     refine g_op (v := Value.int .i16 (i16w ((rdL a1 x12 0) - (x11.get x12 0)))) rfl rfl rfl ?_
     show G _ _ _ _ [_,_,_,_,_,_,_,_,_,_,_,_,_,_,_,_,_,_,_,_,_,_,_,_,_,_,_,_,_,_,_] _
     refine hk _ _ ⟨O, ?_, hs.cast ?_⟩ <;> simp only [lq, cq, Nat.reduceBEq, p1_, p2_, p3_, p4_, p5_, p6_, p7_, q9_, q10_]
    ·
     rintro D t w hD hp hcl ⟨O, ht, hs⟩ rest hk
     obtain ⟨p0_, _, p1_, p2_, p3_, p4_, p5_, p6_, p7_, p8_, _⟩ := hp
     have q10_ := nz hcl 10 0 hD
     simp only [hD, p0_, p1_, p2_, p3_, p4_, p5_, p6_, p7_, p8_, q10_, cq] at ht hs
     subst ht
     refine s_idxA (n := x12) (m := 1) rfl (fun _ => rfl) gd10.1 gd10.2 rfl rfl rfl rfl rfl ?_
     show G _ _ _ _ [_,_,_,_,_,_,_,_,_,_,_,_,_,_,_,_,_,_,_,_,_,_,_,_,_,_,_,_,_,_,_] _
     refine hk _ _ ⟨O, ?_, hs.cast ?_⟩ <;> simp only [lq, cq, Nat.reduceBEq, p0_, p1_, p2_, p3_, p4_, p5_, p6_, p7_, p8_, q10_]
    ·
     rintro D t w hD hp hcl ⟨O, ht, hs⟩ rest hk
     obtain ⟨p9_, p8_, p0_, p1_, p2_, p3_, p4_, p5_, p6_, p7_, _, _⟩ := hp
     simp only [hD, p0_, p1_, p2_, p3_, p4_, p5_, p6_, p7_, p8_, p9_, cq] at ht hs
     subst ht
     refine s_storeA (y := i16w ((rdL a1 x12 0) - (x11.get x12 0))) (fkI .i16).len (fkI .i16).one gd10.1 gd10.2 hs rfl rfl rfl rfl rfl (fun _ => rfl) ?_
     intro w hs
     show G _ _ _ _ [_,_,_,_,_,_,_,_,_,_,_,_,_,_,_,_,_,_,_,_,_,_,_,_,_,_,_,_,_,_,_] _
     have hs := hs.push 0 (by simp)
     refine hk _ _ ⟨O, ?_, hs.cast ?_⟩ <;> simp only [lq, cq, Nat.reduceBEq, p0_, p1_, p2_, p3_, p4_, p5_, p6_, p7_, p8_, p9_]
    intro D t w hall hI
    obtain ⟨O, ht, hs⟩ := hI
    have p0_ := hall 0 (by decide)
    have p1_ := hall 1 (by decide)
    have p2_ := hall 2 (by decide)
    have p3_ := hall 3 (by decide)
    have p4_ := hall 4 (by decide)
    have p5_ := hall 5 (by decide)
    have p6_ := hall 6 (by decide)
    have p7_ := hall 7 (by decide)
    have p8_ := hall 8 (by decide)
    have p9_ := hall 9 (by decide)
    have p10_ := hall 10 (by decide)
    simp only [p0_, p1_, p2_, p3_, p4_, p5_, p6_, p7_, p8_, p9_, p10_, cq] at ht hs
    subst ht
    refine g_inBlock ?_
    have hs := hs.pull 1 rfl
    have hs := hs.pull 1 rfl
    have hs : St _ [_,_] _ := St.take (Γ' := []) hs
    exact ha _ _ ⟨x11.set x12 (i16w ((rdL a1 x12 0) - (x11.get x12 0))), H, rfl, hs⟩
   intro hb
   rw [if_neg (b_beq_f hb)] at H
   show G _ _ _ _ [_,_,_,_,_,_,_,_,_,_,_,_,_,_,_,_,_,_,_,_,_,_,_,_,_,_,_,_,_,_,_] _
   refine g_ops_nil (g_cond_false rfl (g_skip ?_))
   refine g_inBlock ?_
   have hs := hs.pull 1 rfl
   have hs := hs.pull 1 rfl
   have hs : St _ [_,_] _ := St.take (Γ' := []) hs
   exact ha _ _ ⟨x11, H, rfl, hs⟩
  intro hb
  rw [if_neg (b_dec_f hb)] at H
  refine g_ops_nil (g_cond_false rfl ?_)
  obtain rfl := Option.some.inj H
  subst Hx1_
  have hs := hs.pull 1 rfl
  have hs := hs.pull 1 rfl
  have hs : St _ [_,_] _ := St.take (Γ' := []) hs
  refine g_exit rfl ?_
  exact ha1_ _ _ ⟨x11, Hr1_, rfl, hs⟩

end Go.Proofs.YtmnaclghakalmaaX
