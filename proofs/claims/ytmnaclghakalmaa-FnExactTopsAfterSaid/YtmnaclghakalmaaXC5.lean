/- Contracts, printed by gen.py. -/
import Derived.Test.YtmnaclghakalmaaXT
import Derived.Test.YtmnaclghakalmaaProg
import Derived.Test.YtmnaclghakalmaaXRowR
import Derived.Test.YtmnaclghakalmaaXSq
import Derived.Test.YtmnaclghakalmaaXSeg
import Derived.Test.YtmnaclghakalmaaXKey
import Derived.Test.YtmnaclghakalmaaXIter
import Derived.Test.YtmnaclghakalmaaXRow2
import Derived.Test.YtmnaclghakalmaaXEla
import Derived.Test.YtmnaclghakalmaaTCX
namespace Go.Proofs.YtmnaclghakalmaaX
open Go Go.RowKit Go.Proofs
set_option linter.unusedVariables false
set_option linter.unusedSimpArgs false
/- function 16 spec_l07Before -/
def spec_l07Before.post (w0 : World) (r : Bool) (v : Value) (w : World) : Prop := v = Value.bool r ∧ St w0 [] w
set_option maxHeartbeats 8000000 in
set_option maxRecDepth 100000 in
theorem spec_l07Before.calls {N : Nat} {a1 : (Ar Int 4)} {a2 : (Ar Int 4)} {w0 : World} {r : Bool} (H : spec_l07Before.f N a1 a2 = some r) :
    Calls Try.prog 16 #[Value.agg ((encA (encI .i16)) a1).toArray, Value.agg ((encA (encI .i16)) a2).toArray] w0 fun e w => ∃ v, e = .returned v ∧ spec_l07Before.post w0 r v w := by
  unfold spec_l07Before.f at H
  have hs : St w0 [] w0 := St.refl w0
  refine calls_of_g (n := 22) Try.func16 rfl rfl ?_
  show G _ _ _ _ [_,_,_,_,_,_,_,_,_,_,_,_,_,_,_,_,_,_,_,_,_,_,_,_] _
  refine g_seq (g_rg [0, 1, 2] rfl ?_)
  refine s_box hs rfl rfl (cs := ((encA (encI .i16)) a1)) rfl rfl ?_
  intro b3 w hs
  refine s_box hs rfl rfl (cs := ((encA (encI .i16)) a2)) rfl rfl ?_
  intro b5 w hs
  show G _ _ _ _ [_,_,_,_,_,_,_,_,_,_,_,_,_,_,_,_,_,_,_,_,_,_,_,_] _
  refine g_op (v := Value.bool false) rfl rfl rfl (g_ops_nil (g_seq (g_seq (g_rg [0] rfl ?_))))
  refine g_op (v := Value.int .i64 0) rfl rfl rfl (g_ops_nil ?_)
  obtain ⟨o1_, Ho, Hr1_⟩ := bind_get H
  refine g_block_join (J := fun t w => spec_l07Before.a0 N = some r ∧ Fr t (fun O => ([O 0, O 1, O 2, O 3, O 4, O 5, O 6, O 7, O 8, O 9, O 10, O 11, O 12, O 13, O 14, O 15, O 16, O 17, O 18, O 19, O 20, O 21, O 22, O 23] : List Value)) ∧ St w0 [] w) ?_ ?_
  ·
   rintro t w ⟨H, hf, hs⟩
   obtain ⟨O, rfl⟩ := hf.open
   show G _ _ _ _ [_,_,_,_,_,_,_,_,_,_,_,_,_,_,_,_,_,_,_,_,_,_,_,_] _
   unfold spec_l07Before.a0 at H
   refine g_seq (g_rg [0] rfl ?_)
   refine g_op (v := Value.bool false) rfl rfl rfl (g_ops_nil ?_)
   obtain rfl := Option.some.inj H
   refine g_ret Try.func16 (v := Value.bool false) (res1 rfl rfl) ?_
   have hs : St _ [] _ := St.take (Γ' := []) hs
   exact ⟨_, rfl, rfl, hs⟩
  intro ha1_
  have hs := hs.pull 0 rfl
  have hs := hs.pull 1 rfl
  have hs : St _ [_,_] _ := St.take (Γ' := []) hs
  refine g_loop_fuel (I := fun n_ t w => ∃ x7 : Int, rounds (fun s => spec_l07Before.b0 N a1 a2 s) n_ x7 = some o1_ ∧ Fr t (fun O => ([O 0, O 1, Value.pointer (some ⟨b3, 0, none⟩), Value.pointer (some ⟨b5, 0, none⟩), O 4, Value.int .i64 x7, O 6, O 7, O 8, O 9, O 10, O 11, O 12, O 13, O 14, O 15, O 16, O 17, O 18, O 19, O 20, O 21, O 22, O 23] : List Value)) ∧ St w0 [Cells b3 ((encA (encI .i16)) a1) 30, Cells b5 ((encA (encI .i16)) a2) 30] w) N ⟨0, Ho, rfl, hs⟩ ?_ ?_
  ·
   rintro _ _ ⟨x7, h, _⟩
   exact rounds_zero h
  intro n_ ih1_
  rintro t w ⟨x7, Ho, hf, hs⟩
  obtain ⟨O, rfl⟩ := hf.open
  show G _ _ _ _ [_,_,_,_,_,_,_,_,_,_,_,_,_,_,_,_,_,_,_,_,_,_,_,_] _
  obtain ⟨x7_, H, Hx1_⟩ := rounds_succ Ho
  have H : spec_l07Before.b0 N a1 a2 x7 = some x7_ := H
  unfold spec_l07Before.b0 at H
  refine g_seq (g_seq (g_rg [0, 1] rfl ?_))
  refine g_op (v := Value.int .i64 x7) rfl rfl rfl ?_
  show G _ _ _ _ [_,_,_,_,_,_,_,_,_,_,_,_,_,_,_,_,_,_,_,_,_,_,_,_] _
  refine g_op_b (B := decide (x7 < 4)) rfl rfl rfl ?_ ?_
  ·
   intro hb
   rw [if_pos (b_dec_t hb)] at H
   refine g_ops_nil (g_cond_true rfl (g_skip (g_seq ?_)))
   refine g_block (g_seq ?_)
   refine g_lay (n := 7) rfl [0, 1, 2, 3, 4, 5, 6] [0, 1, 2, 3, 4, 5, 6] rfl rfl ?_
   intro rest w hh hbw hO
   have hs := hs.samew hh hbw
   show G _ _ _ _ [_,_,_,_,_,_,_,_,_,_,_,_,_,_,_,_,_,_,_,_,_,_,_,_] _
   obtain ⟨gd2, H⟩ := ite_get H
   obtain ⟨gd3, H⟩ := ite_get H
   refine g_name ?_
   intro T hT
   refine g_layer (m0 := 0) hO rfl 63 [0, 1, 2, 3, 4, 5] [0, 1, 3, 0, 8, 24, 63] (by decide +kernel) (fun D t w => ∃ O : Nat → Value, t = [O 0, O 1, Value.pointer (some ⟨b3, 0, none⟩), Value.pointer (some ⟨b5, 0, none⟩), O 4, Value.int .i64 x7, Value.int .i64 x7, Value.bool true, O 8, O 9, cnd (D 0) (Value.int .i64 x7) (O 10), cnd (D 1) (Value.pointer (some ⟨b3, 0 + x7.toNat * 1, none⟩)) (O 11), cnd (D 2) (Value.int .i16 (a1.get x7 0)) (O 12), cnd (D 3) (Value.int .i64 x7) (O 13), cnd (D 4) (Value.pointer (some ⟨b5, 0 + x7.toNat * 1, none⟩)) (O 14), cnd (D 5) (Value.int .i16 (a2.get x7 0)) (O 15), O 16, O 17, O 18, O 19, O 20, O 21, O 22, O 23] ∧ St w0 [Cells b3 ((encA (encI .i16)) a1) 30, Cells b5 ((encA (encI .i16)) a2) 30] w) ?_ ⟨?_, ⟨?_, ⟨?_, ⟨?_, ⟨?_, ⟨?_, trivial⟩⟩⟩⟩⟩⟩ ?_
   · exact ⟨fun i => T.getD i undef, (by subst hT; rfl), hs⟩
   ·
    rintro D t w hD hp hcl ⟨O, ht, hs⟩ rest hk
    have hp : AllDone D [] := hp
    have q1_ := ny hcl 1 0 hD
    have q2_ := ny hcl 2 0 q1_
    simp only [hD, q1_, q2_, cq] at ht hs
    subst ht
    refine g_op (v := Value.int .i64 x7) rfl rfl rfl ?_
    show G _ _ _ _ [_,_,_,_,_,_,_,_,_,_,_,_,_,_,_,_,_,_,_,_,_,_,_,_] _
    refine hk _ _ ⟨O, ?_, hs.cast ?_⟩ <;> simp only [lq, cq, Nat.reduceBEq, q1_, q2_]
   ·
    rintro D t w hD hp hcl ⟨O, ht, hs⟩ rest hk
    have hp : AllDone D [0] := hp
    obtain ⟨p0_, _⟩ := hp
    have q2_ := ny hcl 2 0 hD
    simp only [hD, p0_, q2_, cq] at ht hs
    subst ht
    refine s_idxA (n := x7) (m := 1) rfl (fun _ => rfl) gd2.1 gd2.2 rfl rfl rfl rfl rfl ?_
    show G _ _ _ _ [_,_,_,_,_,_,_,_,_,_,_,_,_,_,_,_,_,_,_,_,_,_,_,_] _
    refine hk _ _ ⟨O, ?_, hs.cast ?_⟩ <;> simp only [lq, cq, Nat.reduceBEq, p0_, q2_]
   ·
    rintro D t w hD hp hcl ⟨O, ht, hs⟩ rest hk
    have hp : AllDone D [1] := hp
    obtain ⟨p1_, _⟩ := hp
    obtain ⟨p0_, _⟩ := (show D 1 = true → AllDone D [0] from hcl 1 (by decide)) p1_
    simp only [hD, p0_, p1_, cq] at ht hs
    subst ht
    refine s_load1 rfl rfl (v := Value.int .i16 (a1.get x7 0)) rfl rfl (fun _ => rfl) (by rw [Nat.zero_add]; exact cells_load (hs.cells 0 rfl) _ _ (encA_at (fkI .i16).len _ _ 0 gd2.1 gd2.2)) ?_
    show G _ _ _ _ [_,_,_,_,_,_,_,_,_,_,_,_,_,_,_,_,_,_,_,_,_,_,_,_] _
    refine hk _ _ ⟨O, ?_, hs.cast ?_⟩ <;> simp only [lq, cq, Nat.reduceBEq, p0_, p1_]
   ·
    rintro D t w hD hp hcl ⟨O, ht, hs⟩ rest hk
    have hp : AllDone D [] := hp
    have q4_ := ny hcl 4 0 hD
    have q5_ := ny hcl 5 0 q4_
    simp only [hD, q4_, q5_, cq] at ht hs
    subst ht
    refine g_op (v := Value.int .i64 x7) rfl rfl rfl ?_
    show G _ _ _ _ [_,_,_,_,_,_,_,_,_,_,_,_,_,_,_,_,_,_,_,_,_,_,_,_] _
    refine hk _ _ ⟨O, ?_, hs.cast ?_⟩ <;> simp only [lq, cq, Nat.reduceBEq, q4_, q5_]
   ·
    rintro D t w hD hp hcl ⟨O, ht, hs⟩ rest hk
    have hp : AllDone D [3] := hp
    obtain ⟨p3_, _⟩ := hp
    have q5_ := ny hcl 5 0 hD
    simp only [hD, p3_, q5_, cq] at ht hs
    subst ht
    refine s_idxA (n := x7) (m := 1) rfl (fun _ => rfl) gd3.1 gd3.2 rfl rfl rfl rfl rfl ?_
    show G _ _ _ _ [_,_,_,_,_,_,_,_,_,_,_,_,_,_,_,_,_,_,_,_,_,_,_,_] _
    refine hk _ _ ⟨O, ?_, hs.cast ?_⟩ <;> simp only [lq, cq, Nat.reduceBEq, p3_, q5_]
   ·
    rintro D t w hD hp hcl ⟨O, ht, hs⟩ rest hk
    have hp : AllDone D [4] := hp
    obtain ⟨p4_, _⟩ := hp
    obtain ⟨p3_, _⟩ := (show D 4 = true → AllDone D [3] from hcl 4 (by decide)) p4_
    simp only [hD, p3_, p4_, cq] at ht hs
    subst ht
    refine s_load1 rfl rfl (v := Value.int .i16 (a2.get x7 0)) rfl rfl (fun _ => rfl) (by rw [Nat.zero_add]; exact cells_load (hs.cells 1 rfl) _ _ (encA_at (fkI .i16).len _ _ 0 gd3.1 gd3.2)) ?_
    show G _ _ _ _ [_,_,_,_,_,_,_,_,_,_,_,_,_,_,_,_,_,_,_,_,_,_,_,_] _
    refine hk _ _ ⟨O, ?_, hs.cast ?_⟩ <;> simp only [lq, cq, Nat.reduceBEq, p3_, p4_]
   intro D t w rest hall hO1_ hI
   obtain ⟨O, ht, hs⟩ := hI
   have p0_ := hall 0 (by decide) rfl
   have p1_ := hall 1 (by decide) rfl
   have p2_ := hall 2 (by decide) rfl
   have p3_ := hall 3 (by decide) rfl
   have p4_ := hall 4 (by decide) rfl
   have p5_ := hall 5 (by decide) rfl
   simp only [p0_, p1_, p2_, p3_, p4_, p5_, cq] at ht hs
   subst ht
   obtain ⟨rest, rfl, hO4_⟩ := ord_one (m := 63) hO1_ rfl 6 (m' := 127) (by decide +kernel) rfl
   clear hO1_
   refine g_op_b (B := (a1.get x7 0) != (a2.get x7 0)) rfl rfl rfl ?_ ?_
   ·
    intro hb
    rw [if_neg (b_bne_t hb)] at H
    obtain rfl := ord_end hO4_ rfl (by decide +kernel)
    refine g_ops_nil (g_cond_true rfl (g_seq ?_))
    obtain ⟨gd5, H⟩ := ite_get H
    obtain ⟨gd6, H⟩ := ite_get H
    refine g_name ?_
    intro T hT
    refine g_any (n := 8) rfl [0, 1, 2, 3, 4, 5, 6, 7] [0, 1, 2, 3, 4, 5, 6, 7] rfl rfl (Inv := fun D t w => ∃ O : Nat → Value, t = [O 0, O 1, Value.pointer (some ⟨b3, 0, none⟩), Value.pointer (some ⟨b5, 0, none⟩), cnd (D 7) (Value.bool (decide ((a1.get x7 0) < (a2.get x7 0)))) (O 4), Value.int .i64 x7, Value.int .i64 x7, Value.bool true, O 8, O 9, Value.int .i64 x7, Value.pointer (some ⟨b3, 0 + x7.toNat * 1, none⟩), Value.int .i16 (a1.get x7 0), Value.int .i64 x7, Value.pointer (some ⟨b5, 0 + x7.toNat * 1, none⟩), Value.int .i16 (a2.get x7 0), Value.bool true, cnd (D 0) (Value.int .i64 x7) (O 17), cnd (D 1) (Value.pointer (some ⟨b3, 0 + x7.toNat * 1, none⟩)) (O 18), cnd (D 2) (Value.int .i16 (a1.get x7 0)) (O 19), cnd (D 3) (Value.int .i64 x7) (O 20), cnd (D 4) (Value.pointer (some ⟨b5, 0 + x7.toNat * 1, none⟩)) (O 21), cnd (D 5) (Value.int .i16 (a2.get x7 0)) (O 22), cnd (D 6) (Value.bool (decide ((a1.get x7 0) < (a2.get x7 0)))) (O 23)] ∧ St w0 [Cells b3 ((encA (encI .i16)) a1) 30, Cells b5 ((encA (encI .i16)) a2) 30] w) ?_ ⟨⟨⟨⟨⟨⟨⟨⟨trivial, ?_⟩, ?_⟩, ?_⟩, ?_⟩, ?_⟩, ?_⟩, ?_⟩, ?_⟩ ?_
    ·
     intro w hh hbw
     have hs := hs.samew hh hbw
     exact ⟨fun i => T.getD i undef, (by subst hT; rfl), hs⟩
    ·
     rintro D t w hD hp hcl ⟨O, ht, hs⟩ rest hk
     have q1_ := nz hcl 1 0 hD
     have q2_ := nz hcl 2 0 q1_
     have q6_ := nz hcl 6 0 q2_
     have q7_ := nz hcl 7 0 q6_
     simp only [hD, q1_, q2_, q6_, q7_, cq] at ht hs
     subst ht
     refine g_op (v := Value.int .i64 x7) rfl rfl rfl ?_
     show G _ _ _ _ [_,_,_,_,_,_,_,_,_,_,_,_,_,_,_,_,_,_,_,_,_,_,_,_] _
     refine hk _ _ ⟨O, ?_, hs.cast ?_⟩ <;> simp only [lq, cq, Nat.reduceBEq, q1_, q2_, q6_, q7_]
    ·
     rintro D t w hD hp hcl ⟨O, ht, hs⟩ rest hk
     obtain ⟨p0_, _⟩ := hp
     have q2_ := nz hcl 2 0 hD
     have q6_ := nz hcl 6 0 q2_
     have q7_ := nz hcl 7 0 q6_
     simp only [hD, p0_, q2_, q6_, q7_, cq] at ht hs
     subst ht
     refine s_idxA (n := x7) (m := 1) rfl (fun _ => rfl) gd5.1 gd5.2 rfl rfl rfl rfl rfl ?_
     show G _ _ _ _ [_,_,_,_,_,_,_,_,_,_,_,_,_,_,_,_,_,_,_,_,_,_,_,_] _
     refine hk _ _ ⟨O, ?_, hs.cast ?_⟩ <;> simp only [lq, cq, Nat.reduceBEq, p0_, q2_, q6_, q7_]
    ·
     rintro D t w hD hp hcl ⟨O, ht, hs⟩ rest hk
     obtain ⟨p1_, _⟩ := hp
     obtain ⟨p0_, _⟩ := (hcl.get 1 (by decide)) p1_
     have q6_ := nz hcl 6 0 hD
     have q7_ := nz hcl 7 0 q6_
     simp only [hD, p0_, p1_, q6_, q7_, cq] at ht hs
     subst ht
     refine s_load1 rfl rfl (v := Value.int .i16 (a1.get x7 0)) rfl rfl (fun _ => rfl) (by rw [Nat.zero_add]; exact cells_load (hs.cells 0 rfl) _ _ (encA_at (fkI .i16).len _ _ 0 gd5.1 gd5.2)) ?_
     show G _ _ _ _ [_,_,_,_,_,_,_,_,_,_,_,_,_,_,_,_,_,_,_,_,_,_,_,_] _
     refine hk _ _ ⟨O, ?_, hs.cast ?_⟩ <;> simp only [lq, cq, Nat.reduceBEq, p0_, p1_, q6_, q7_]
    ·
     rintro D t w hD hp hcl ⟨O, ht, hs⟩ rest hk
     have q4_ := nz hcl 4 0 hD
     have q5_ := nz hcl 5 0 q4_
     have q6_ := nz hcl 6 1 q5_
     have q7_ := nz hcl 7 0 q6_
     simp only [hD, q4_, q5_, q6_, q7_, cq] at ht hs
     subst ht
     refine g_op (v := Value.int .i64 x7) rfl rfl rfl ?_
     show G _ _ _ _ [_,_,_,_,_,_,_,_,_,_,_,_,_,_,_,_,_,_,_,_,_,_,_,_] _
     refine hk _ _ ⟨O, ?_, hs.cast ?_⟩ <;> simp only [lq, cq, Nat.reduceBEq, q4_, q5_, q6_, q7_]
    ·
     rintro D t w hD hp hcl ⟨O, ht, hs⟩ rest hk
     obtain ⟨p3_, _⟩ := hp
     have q5_ := nz hcl 5 0 hD
     have q6_ := nz hcl 6 1 q5_
     have q7_ := nz hcl 7 0 q6_
     simp only [hD, p3_, q5_, q6_, q7_, cq] at ht hs
     subst ht
     refine s_idxA (n := x7) (m := 1) rfl (fun _ => rfl) gd6.1 gd6.2 rfl rfl rfl rfl rfl ?_
     show G _ _ _ _ [_,_,_,_,_,_,_,_,_,_,_,_,_,_,_,_,_,_,_,_,_,_,_,_] _
     refine hk _ _ ⟨O, ?_, hs.cast ?_⟩ <;> simp only [lq, cq, Nat.reduceBEq, p3_, q5_, q6_, q7_]
    ·
     rintro D t w hD hp hcl ⟨O, ht, hs⟩ rest hk
     obtain ⟨p4_, _⟩ := hp
     obtain ⟨p3_, _⟩ := (hcl.get 4 (by decide)) p4_
     have q6_ := nz hcl 6 1 hD
     have q7_ := nz hcl 7 0 q6_
     simp only [hD, p3_, p4_, q6_, q7_, cq] at ht hs
     subst ht
     refine s_load1 rfl rfl (v := Value.int .i16 (a2.get x7 0)) rfl rfl (fun _ => rfl) (by rw [Nat.zero_add]; exact cells_load (hs.cells 1 rfl) _ _ (encA_at (fkI .i16).len _ _ 0 gd6.1 gd6.2)) ?_
     show G _ _ _ _ [_,_,_,_,_,_,_,_,_,_,_,_,_,_,_,_,_,_,_,_,_,_,_,_] _
     refine hk _ _ ⟨O, ?_, hs.cast ?_⟩ <;> simp only [lq, cq, Nat.reduceBEq, p3_, p4_, q6_, q7_]
    ·
     rintro D t w hD hp hcl ⟨O, ht, hs⟩ rest hk
     obtain ⟨p2_, p5_, _⟩ := hp
     obtain ⟨p4_, _⟩ := (hcl.get 5 (by decide)) p5_
     obtain ⟨p3_, _⟩ := (hcl.get 4 (by decide)) p4_
     obtain ⟨p1_, _⟩ := (hcl.get 2 (by decide)) p2_
     obtain ⟨p0_, _⟩ := (hcl.get 1 (by decide)) p1_
     have q7_ := nz hcl 7 0 hD
     simp only [hD, p0_, p1_, p2_, p3_, p4_, p5_, q7_, cq] at ht hs
     subst ht
     refine g_op (v := Value.bool (decide ((a1.get x7 0) < (a2.get x7 0)))) rfl rfl rfl ?_
     show G _ _ _ _ [_,_,_,_,_,_,_,_,_,_,_,_,_,_,_,_,_,_,_,_,_,_,_,_] _
     refine hk _ _ ⟨O, ?_, hs.cast ?_⟩ <;> simp only [lq, cq, Nat.reduceBEq, p0_, p1_, p2_, p3_, p4_, p5_, q7_]
    ·
     rintro D t w hD hp hcl ⟨O, ht, hs⟩ rest hk
     obtain ⟨p6_, p0_, p1_, p2_, p3_, p4_, p5_, _, _⟩ := hp
     simp only [hD, p0_, p1_, p2_, p3_, p4_, p5_, p6_, cq] at ht hs
     subst ht
     refine g_op (v := Value.bool (decide ((a1.get x7 0) < (a2.get x7 0)))) rfl rfl rfl ?_
     show G _ _ _ _ [_,_,_,_,_,_,_,_,_,_,_,_,_,_,_,_,_,_,_,_,_,_,_,_] _
     refine hk _ _ ⟨O, ?_, hs.cast ?_⟩ <;> simp only [lq, cq, Nat.reduceBEq, p0_, p1_, p2_, p3_, p4_, p5_, p6_]
    intro D t w hall hI
    obtain ⟨O, ht, hs⟩ := hI
    have p0_ := hall 0 (by decide)
    have p1_ := hall 1 (by decide)
    have p2_ := hall 2 (by decide)
    have p3_ := hall 3 (by decide)
    have p4_ := hall 4 (by decide)
    have p5_ := hall 5 (by decide)
    have p6_ := hall 6 (by decide)
    have p7_ := hall 7 (by decide)
    simp only [p0_, p1_, p2_, p3_, p4_, p5_, p6_, p7_, cq] at ht hs
    subst ht
    obtain rfl := Option.some.inj H
    subst Hx1_
    have H := Option.some.inj Hr1_
    subst H
    refine g_ret Try.func16 (v := Value.bool (decide ((a1.get x7 0) < (a2.get x7 0)))) (res1 rfl rfl) ?_
    have hs : St _ [] _ := St.take (Γ' := [_,_]) hs
    exact ⟨_, rfl, rfl, hs⟩
   intro hb
   rw [if_pos (b_bne_f hb)] at H
   show G _ _ _ _ [_,_,_,_,_,_,_,_,_,_,_,_,_,_,_,_,_,_,_,_,_,_,_,_] _
   obtain rfl := ord_end hO4_ rfl (by decide +kernel)
   refine g_ops_nil (g_cond_false rfl (g_skip ?_))
   refine g_inBlock (g_rg [0, 1, 2] rfl ?_)
   refine g_op (v := Value.int .i64 x7) rfl rfl rfl ?_
   refine g_op (v := Value.int .i64 (i64w (x7 + 1))) rfl rfl rfl ?_
   refine g_op (v := Value.int .i64 (i64w (x7 + 1))) rfl rfl rfl ?_
   show G _ _ _ _ [_,_,_,_,_,_,_,_,_,_,_,_,_,_,_,_,_,_,_,_,_,_,_,_] _
   refine g_ops_nil ?_
   obtain rfl := Option.some.inj H
   have hs := hs.pull 1 rfl
   have hs := hs.pull 1 rfl
   have hs : St _ [_,_] _ := St.take (Γ' := []) hs
   exact ih1_ _ _ ⟨i64w (x7 + 1), Hx1_, rfl, hs⟩
  intro hb
  rw [if_neg (b_dec_f hb)] at H
  refine g_ops_nil (g_cond_false rfl ?_)
  obtain rfl := Option.some.inj H
  subst Hx1_
  have hs : St _ [] _ := St.take (Γ' := [_,_]) hs
  refine g_exit rfl ?_
  exact ha1_ _ _ ⟨Hr1_, rfl, hs⟩

end Go.Proofs.YtmnaclghakalmaaX
