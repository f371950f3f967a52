/- Contracts, printed by gen.py. -/
import Derived.Test.YtcaokmnajnfpiaaXT
import Derived.Test.YtcaokmnajnfpiaaProg
import Derived.Test.YtcaokmnajnfpiaaXRowR
import Derived.Test.YtcaokmnajnfpiaaXSq
import Derived.Test.YtcaokmnajnfpiaaXSeg
import Derived.Test.YtcaokmnajnfpiaaXKey
import Derived.Test.YtcaokmnajnfpiaaXC5
import Derived.Test.YtcaokmnajnfpiaaXC6
namespace Go.Proofs.YtcaokmnajnfpiaaX
open Go Go.RowKit Go.Proofs
set_option linter.unusedVariables false
set_option linter.unusedSimpArgs false
/- function 64 spec_l05Bank -/
def spec_l05Bank.post (w0 : World) (r : Bool) (v : Value) (w : World) : Prop := v = Value.bool r ∧ St w0 [] w
set_option maxHeartbeats 8000000 in
set_option maxRecDepth 100000 in
theorem spec_l05Bank.calls {N : Nat} {a1 : S_impl_Ferry} {a6 : S_impl_Bank} {b2 : Nat} {v3 : Value} {w0 : World} {r : Bool} (hr4 : RdRow (K.int .u16) w0 v3 a1.f_Rules) (hp0 : w0.heap[b2]? = some (.cells ((([Value.int .i8 a1.f_Things, Value.int .i8 a1.f_Boat, v3] : List Value)) : List Value).toArray 27 (0, 0))) (H : spec_l05Bank.f N a1 a6 = some r) :
    Calls Try.prog 64 #[Value.pointer (some ⟨b2, 0, none⟩), Value.agg (enc_S_impl_Bank a6).toArray] w0 fun e w => ∃ v, e = .returned v ∧ spec_l05Bank.post w0 r v w := by
  unfold spec_l05Bank.f at H
  have hs : St w0 [] w0 := St.refl w0
  refine calls_of_g (n := 22) Try.func64 rfl rfl ?_
  show G _ _ _ _ [_,_,_,_,_,_,_,_,_,_,_,_,_,_,_,_,_,_,_,_,_,_,_,_] _
  refine g_seq (g_region ?_)
  show G _ _ _ (.inRegion _ [0, 1] :: _) _ _
  refine s_box hs rfl rfl (cs := (enc_S_impl_Bank a6)) rfl rfl ?_
  intro b7 w hs
  show G _ _ _ _ [_,_,_,_,_,_,_,_,_,_,_,_,_,_,_,_,_,_,_,_,_,_,_,_] _
  refine g_op (v := Value.bool false) rfl rfl rfl ?_
  show G _ _ _ _ [_,_,_,_,_,_,_,_,_,_,_,_,_,_,_,_,_,_,_,_,_,_,_,_] _
  refine g_ops_nil (g_seq (g_seq ?_))
  refine g_lay (n := 6) rfl [0, 1, 2, 3, 4, 5] [0, 1, 2, 3, 4, 5] rfl rfl ?_
  intro rest w hh hbw hO
  have hs := hs.samew hh hbw
  show G _ _ _ _ [_,_,_,_,_,_,_,_,_,_,_,_,_,_,_,_,_,_,_,_,_,_,_,_] _
  obtain ⟨r9, Hr9, H⟩ := bind_get H
  refine g_name ?_
  intro T hT
  refine g_layer (m0 := 0) hO rfl 15 [0, 1, 2, 3] [0, 1, 0, 4, 15, 31] (by decide +kernel) (fun D t w => ∃ O : Nat → Value, t = [Value.pointer (some ⟨b2, 0, none⟩), Value.agg (enc_S_impl_Bank a6).toArray, O 2, Value.pointer (some ⟨b7, 0, none⟩), Value.bool false, cnd (D 0) (Value.pointer (some ⟨b7, 0, none⟩)) (O 5), cnd (D 1) (Value.int .u16 a6.f_Near) (O 6), cnd (D 2) (Value.pointer (some ⟨b2, 0, none⟩)) (O 7), cnd (D 3) (Value.int .u16 r9) (O 8), O 9, O 10, O 11, O 12, O 13, O 14, O 15, O 16, O 17, O 18, O 19, O 20, O 21, O 22, O 23] ∧ St w0 [Cells b7 (enc_S_impl_Bank a6) 70] w) ?_ ⟨?_, ⟨?_, ⟨?_, ⟨?_, trivial⟩⟩⟩⟩ ?_
  · exact ⟨fun i => T.getD i undef, (by subst hT; rfl), hs⟩
  ·
   intro D t w hD hp hcl hI rest hk
   obtain ⟨O, ht, hs⟩ := hI
   have hp : AllDone D [] := hp
   have q1_ := ny hcl 1 0 hD
   simp only [hD, q1_, cq] at ht hs
   subst ht
   refine g_op (v := Value.pointer (some ⟨b7, 0, none⟩)) rfl rfl rfl ?_
   show G _ _ _ _ [_,_,_,_,_,_,_,_,_,_,_,_,_,_,_,_,_,_,_,_,_,_,_,_] _
   refine hk _ _ ⟨O, ?_, hs.cast ?_⟩ <;> simp only [lq, cq, Nat.reduceBEq, q1_]
  ·
   intro D t w hD hp hcl hI rest hk
   obtain ⟨O, ht, hs⟩ := hI
   have hp : AllDone D [0] := hp
   obtain ⟨p0_, _⟩ := hp
   simp only [hD, p0_, cq] at ht hs
   subst ht
   refine s_load1 rfl rfl (v := Value.int .u16 a6.f_Near) rfl rfl (fun _ => rfl) (cells_load (hs.cells 0 rfl) 0 1 rfl) ?_
   show G _ _ _ _ [_,_,_,_,_,_,_,_,_,_,_,_,_,_,_,_,_,_,_,_,_,_,_,_] _
   refine hk _ _ ⟨O, ?_, hs.cast ?_⟩ <;> simp only [lq, cq, Nat.reduceBEq, p0_]
  ·
   intro D t w hD hp hcl hI rest hk
   obtain ⟨O, ht, hs⟩ := hI
   have hp : AllDone D [] := hp
   have q3_ := ny hcl 3 0 hD
   simp only [hD, q3_, cq] at ht hs
   subst ht
   refine g_op (v := Value.pointer (some ⟨b2, 0, none⟩)) rfl rfl rfl ?_
   show G _ _ _ _ [_,_,_,_,_,_,_,_,_,_,_,_,_,_,_,_,_,_,_,_,_,_,_,_] _
   refine hk _ _ ⟨O, ?_, hs.cast ?_⟩ <;> simp only [lq, cq, Nat.reduceBEq, q3_]
  ·
   intro D t w hD hp hcl hI rest hk
   obtain ⟨O, ht, hs⟩ := hI
   have hp : AllDone D [2] := hp
   obtain ⟨p2_, _⟩ := hp
   simp only [hD, p2_, cq] at ht hs
   subst ht
   refine s_call (args := [Value.pointer (some ⟨b2, 0, none⟩)]) rfl rfl (x_call rfl (callFunc_enter Try.func30 rfl rfl) rfl) (spec_l05All.calls (a1 := (⟨a1.f_Things, a1.f_Boat, a1.f_Rules⟩ : S_impl_Ferry)) (hs.rd hr4) (hs.box hp0) Hr9) ?_
   rintro _ w ⟨rfl, hs2⟩
   have hs : St _ [_] _ := hs.call hs2
   show G _ _ _ _ [_,_,_,_,_,_,_,_,_,_,_,_,_,_,_,_,_,_,_,_,_,_,_,_] _
   refine hk _ _ ⟨O, ?_, hs.cast ?_⟩ <;> simp only [lq, cq, Nat.reduceBEq, p2_]
  intro D t w rest hall hO1_ hI
  obtain ⟨O, ht, hs⟩ := hI
  have p0_ : D 0 = true := hall 0 (by decide) rfl
  have p1_ : D 1 = true := hall 1 (by decide) rfl
  have p2_ : D 2 = true := hall 2 (by decide) rfl
  have p3_ : D 3 = true := hall 3 (by decide) rfl
  simp only [p0_, p1_, p2_, p3_, cq] at ht hs
  subst ht
  obtain ⟨rest, rfl, hO2_⟩ := ord_one (m := 15) hO1_ rfl 4 (m' := 31) (by decide +kernel) rfl
  clear hO1_
  refine g_op (v := Value.int .u16 (bAndNot .u16 a6.f_Near r9)) rfl rfl rfl ?_
  show G _ _ _ _ [_,_,_,_,_,_,_,_,_,_,_,_,_,_,_,_,_,_,_,_,_,_,_,_] _
  obtain ⟨rest, rfl, hO3_⟩ := ord_one (m := 31) hO2_ rfl 5 (m' := 63) (by decide +kernel) rfl
  clear hO2_
  refine g_op_b (B := (bAndNot .u16 a6.f_Near r9) != 0) rfl rfl rfl ?_ ?_
  ·
   intro hb
   rw [if_neg (b_bne_t hb)] at H
   show G _ _ _ _ [_,_,_,_,_,_,_,_,_,_,_,_,_,_,_,_,_,_,_,_,_,_,_,_] _
   obtain rfl := ord_end hO3_ rfl (by decide +kernel)
   refine g_ops_nil (g_cond_true rfl (g_seq (g_region ?_)))
   show G _ _ _ (.inRegion _ [0] :: _) _ _
   refine g_op (v := Value.bool false) rfl rfl rfl ?_
   show G _ _ _ _ [_,_,_,_,_,_,_,_,_,_,_,_,_,_,_,_,_,_,_,_,_,_,_,_] _
   refine g_ops_nil ?_
   obtain rfl := Option.some.inj H
   refine g_ret Try.func64 (v := Value.bool false) (res1 rfl rfl) ?_
   have hs : St _ [] _ := St.take (Γ' := [_]) hs
   exact ⟨_, rfl, rfl, hs⟩
  intro hb
  rw [if_pos (b_bne_f hb)] at H
  show G _ _ _ _ [_,_,_,_,_,_,_,_,_,_,_,_,_,_,_,_,_,_,_,_,_,_,_,_] _
  obtain rfl := ord_end hO3_ rfl (by decide +kernel)
  refine g_ops_nil (g_cond_false rfl (g_skip (g_seq (g_seq (g_region ?_)))))
  show G _ _ _ (.inRegion _ [0, 1] :: _) _ _
  refine g_op (v := Value.pointer (some ⟨b7, 1, none⟩)) rfl rfl rfl ?_
  show G _ _ _ _ [_,_,_,_,_,_,_,_,_,_,_,_,_,_,_,_,_,_,_,_,_,_,_,_] _
  by_cases hb4_ : a6.f_Far = true
  ·
   rw [if_pos hb4_] at H
   refine s_load1 rfl rfl (v := Value.bool true) rfl rfl (fun _ => rfl) (cells_load (hs.cells 0 rfl) 1 1 (Eq.trans (b := [Value.bool a6.f_Far]) rfl (congrArg (fun b => [Value.bool b]) hb4_))) ?_
   show G _ _ _ _ [_,_,_,_,_,_,_,_,_,_,_,_,_,_,_,_,_,_,_,_,_,_,_,_] _
   refine g_ops_nil (g_cond_true rfl (g_seq (g_region ?_)))
   show G _ _ _ (.inRegion _ [0, 1, 2, 3, 4] :: _) _ _
   refine g_op (v := Value.pointer (some ⟨b2, 0, none⟩)) rfl rfl rfl ?_
   show G _ _ _ _ [_,_,_,_,_,_,_,_,_,_,_,_,_,_,_,_,_,_,_,_,_,_,_,_] _
   refine g_op (v := Value.pointer (some ⟨b7, 0, none⟩)) rfl rfl rfl ?_
   show G _ _ _ _ [_,_,_,_,_,_,_,_,_,_,_,_,_,_,_,_,_,_,_,_,_,_,_,_] _
   refine s_load1 rfl rfl (v := Value.int .u16 a6.f_Near) rfl rfl (fun _ => rfl) (cells_load (hs.cells 0 rfl) 0 1 rfl) ?_
   show G _ _ _ _ [_,_,_,_,_,_,_,_,_,_,_,_,_,_,_,_,_,_,_,_,_,_,_,_] _
   obtain ⟨r10, Hr10, H⟩ := bind_get H
   refine s_call (args := [Value.pointer (some ⟨b2, 0, none⟩), Value.int .u16 a6.f_Near]) rfl rfl (x_call rfl (callFunc_enter Try.func55 rfl rfl) rfl) (spec_l05Safe.calls (a1 := (⟨a1.f_Things, a1.f_Boat, a1.f_Rules⟩ : S_impl_Ferry)) (a6 := a6.f_Near) (hs.rd hr4) (hs.box hp0) Hr10) ?_
   rintro _ w ⟨rfl, hs2⟩
   have hs : St _ [_] _ := hs.call hs2
   show G _ _ _ _ [_,_,_,_,_,_,_,_,_,_,_,_,_,_,_,_,_,_,_,_,_,_,_,_] _
   refine g_op (v := Value.bool r10) rfl rfl rfl ?_
   show G _ _ _ _ [_,_,_,_,_,_,_,_,_,_,_,_,_,_,_,_,_,_,_,_,_,_,_,_] _
   refine g_ops_nil ?_
   obtain rfl := Option.some.inj H
   refine g_ret Try.func64 (v := Value.bool r10) (res1 rfl rfl) ?_
   have hs : St _ [] _ := St.take (Γ' := [_]) hs
   exact ⟨_, rfl, rfl, hs⟩
  rw [if_neg hb4_] at H
  refine s_load1 rfl rfl (v := Value.bool false) rfl rfl (fun _ => rfl) (cells_load (hs.cells 0 rfl) 1 1 (Eq.trans (b := [Value.bool a6.f_Far]) rfl (congrArg (fun b => [Value.bool b]) (Bool.eq_false_iff.2 hb4_)))) ?_
  show G _ _ _ _ [_,_,_,_,_,_,_,_,_,_,_,_,_,_,_,_,_,_,_,_,_,_,_,_] _
  refine g_ops_nil (g_cond_false rfl (g_skip (g_seq ?_)))
  obtain ⟨r11, Hr11, H⟩ := bind_get H
  obtain ⟨r12, Hr12, H⟩ := bind_get H
  refine g_name ?_
  intro T hT
  refine g_any (n := 8) rfl [0, 1, 2, 3, 4, 5, 6, 7] [0, 1, 2, 3, 4, 5, 6, 7] rfl rfl (Inv := fun D t w => ∃ O : Nat → Value, t = [Value.pointer (some ⟨b2, 0, none⟩), Value.agg (enc_S_impl_Bank a6).toArray, O 2, Value.pointer (some ⟨b7, 0, none⟩), cnd (D 7) (Value.bool r12) (Value.bool false), Value.pointer (some ⟨b7, 0, none⟩), Value.int .u16 a6.f_Near, Value.pointer (some ⟨b2, 0, none⟩), Value.int .u16 r9, Value.int .u16 (bAndNot .u16 a6.f_Near r9), Value.bool false, Value.pointer (some ⟨b7, 1, none⟩), Value.bool false, O 13, O 14, O 15, O 16, cnd (D 0) (Value.pointer (some ⟨b2, 0, none⟩)) (O 17), cnd (D 1) (Value.pointer (some ⟨b2, 0, none⟩)) (O 18), cnd (D 2) (Value.int .u16 r11) (O 19), cnd (D 3) (Value.pointer (some ⟨b7, 0, none⟩)) (O 20), cnd (D 4) (Value.int .u16 a6.f_Near) (O 21), cnd (D 5) (Value.int .u16 (bAndNot .u16 r11 a6.f_Near)) (O 22), cnd (D 6) (Value.bool r12) (O 23)] ∧ St w0 [Cells b7 (enc_S_impl_Bank a6) 70] w) ?_ ⟨⟨⟨⟨⟨⟨⟨⟨trivial, ?_⟩, ?_⟩, ?_⟩, ?_⟩, ?_⟩, ?_⟩, ?_⟩, ?_⟩ ?_
  ·
   intro w hh hbw
   have hs := hs.samew hh hbw
   exact ⟨fun i => T.getD i undef, (by subst hT; rfl), hs⟩
  ·
   intro D t w hD hp hcl hI rest hk
   obtain ⟨O, ht, hs⟩ := hI
   have q6_ := nz hcl 6 0 hD
   have q7_ := nz hcl 7 0 q6_
   simp only [hD, q6_, q7_, cq] at ht hs
   subst ht
   refine g_op (v := Value.pointer (some ⟨b2, 0, none⟩)) rfl rfl rfl ?_
   show G _ _ _ _ [_,_,_,_,_,_,_,_,_,_,_,_,_,_,_,_,_,_,_,_,_,_,_,_] _
   refine hk _ _ ⟨O, ?_, hs.cast ?_⟩ <;> simp only [lq, cq, Nat.reduceBEq, q6_, q7_]
  ·
   intro D t w hD hp hcl hI rest hk
   obtain ⟨O, ht, hs⟩ := hI
   have q2_ := nz hcl 2 0 hD
   have q5_ := nz hcl 5 0 q2_
   have q6_ := nz hcl 6 1 q5_
   have q7_ := nz hcl 7 0 q6_
   simp only [hD, q2_, q5_, q6_, q7_, cq] at ht hs
   subst ht
   refine g_op (v := Value.pointer (some ⟨b2, 0, none⟩)) rfl rfl rfl ?_
   show G _ _ _ _ [_,_,_,_,_,_,_,_,_,_,_,_,_,_,_,_,_,_,_,_,_,_,_,_] _
   refine hk _ _ ⟨O, ?_, hs.cast ?_⟩ <;> simp only [lq, cq, Nat.reduceBEq, q2_, q5_, q6_, q7_]
  ·
   intro D t w hD hp hcl hI rest hk
   obtain ⟨O, ht, hs⟩ := hI
   obtain ⟨p1_, _⟩ := hp
   have q5_ := nz hcl 5 0 hD
   have q6_ := nz hcl 6 1 q5_
   have q7_ := nz hcl 7 0 q6_
   simp only [hD, p1_, q5_, q6_, q7_, cq] at ht hs
   subst ht
   refine s_call (args := [Value.pointer (some ⟨b2, 0, none⟩)]) rfl rfl (x_call rfl (callFunc_enter Try.func30 rfl rfl) rfl) (spec_l05All.calls (a1 := (⟨a1.f_Things, a1.f_Boat, a1.f_Rules⟩ : S_impl_Ferry)) (hs.rd hr4) (hs.box hp0) Hr11) ?_
   rintro _ w ⟨rfl, hs2⟩
   have hs : St _ [_] _ := hs.call hs2
   show G _ _ _ _ [_,_,_,_,_,_,_,_,_,_,_,_,_,_,_,_,_,_,_,_,_,_,_,_] _
   refine hk _ _ ⟨O, ?_, hs.cast ?_⟩ <;> simp only [lq, cq, Nat.reduceBEq, p1_, q5_, q6_, q7_]
  ·
   intro D t w hD hp hcl hI rest hk
   obtain ⟨O, ht, hs⟩ := hI
   have q4_ := nz hcl 4 0 hD
   have q5_ := nz hcl 5 1 q4_
   have q6_ := nz hcl 6 1 q5_
   have q7_ := nz hcl 7 0 q6_
   simp only [hD, q4_, q5_, q6_, q7_, cq] at ht hs
   subst ht
   refine g_op (v := Value.pointer (some ⟨b7, 0, none⟩)) rfl rfl rfl ?_
   show G _ _ _ _ [_,_,_,_,_,_,_,_,_,_,_,_,_,_,_,_,_,_,_,_,_,_,_,_] _
   refine hk _ _ ⟨O, ?_, hs.cast ?_⟩ <;> simp only [lq, cq, Nat.reduceBEq, q4_, q5_, q6_, q7_]
  ·
   intro D t w hD hp hcl hI rest hk
   obtain ⟨O, ht, hs⟩ := hI
   obtain ⟨p3_, _⟩ := hp
   have q5_ := nz hcl 5 1 hD
   have q6_ := nz hcl 6 1 q5_
   have q7_ := nz hcl 7 0 q6_
   simp only [hD, p3_, q5_, q6_, q7_, cq] at ht hs
   subst ht
   refine s_load1 rfl rfl (v := Value.int .u16 a6.f_Near) rfl rfl (fun _ => rfl) (cells_load (hs.cells 0 rfl) 0 1 rfl) ?_
   show G _ _ _ _ [_,_,_,_,_,_,_,_,_,_,_,_,_,_,_,_,_,_,_,_,_,_,_,_] _
   refine hk _ _ ⟨O, ?_, hs.cast ?_⟩ <;> simp only [lq, cq, Nat.reduceBEq, p3_, q5_, q6_, q7_]
  ·
   intro D t w hD hp hcl hI rest hk
   obtain ⟨O, ht, hs⟩ := hI
   obtain ⟨p2_, p4_, _⟩ := hp
   obtain ⟨p3_, _⟩ := (hcl.get 4 (by decide)) p4_
   obtain ⟨p1_, _⟩ := (hcl.get 2 (by decide)) p2_
   have q6_ := nz hcl 6 1 hD
   have q7_ := nz hcl 7 0 q6_
   simp only [hD, p1_, p2_, p3_, p4_, q6_, q7_, cq] at ht hs
   subst ht
   refine g_op (v := Value.int .u16 (bAndNot .u16 r11 a6.f_Near)) rfl rfl rfl ?_
   show G _ _ _ _ [_,_,_,_,_,_,_,_,_,_,_,_,_,_,_,_,_,_,_,_,_,_,_,_] _
   refine hk _ _ ⟨O, ?_, hs.cast ?_⟩ <;> simp only [lq, cq, Nat.reduceBEq, p1_, p2_, p3_, p4_, q6_, q7_]
  ·
   intro D t w hD hp hcl hI rest hk
   obtain ⟨O, ht, hs⟩ := hI
   obtain ⟨p0_, p5_, p2_, _⟩ := hp
   obtain ⟨_, p4_, _⟩ := (hcl.get 5 (by decide)) p5_
   obtain ⟨p3_, _⟩ := (hcl.get 4 (by decide)) p4_
   obtain ⟨p1_, _⟩ := (hcl.get 2 (by decide)) p2_
   have q7_ := nz hcl 7 0 hD
   simp only [hD, p0_, p1_, p2_, p3_, p4_, p5_, q7_, cq] at ht hs
   subst ht
   refine s_call (args := [Value.pointer (some ⟨b2, 0, none⟩), Value.int .u16 (bAndNot .u16 r11 a6.f_Near)]) rfl rfl (x_call rfl (callFunc_enter Try.func55 rfl rfl) rfl) (spec_l05Safe.calls (a1 := (⟨a1.f_Things, a1.f_Boat, a1.f_Rules⟩ : S_impl_Ferry)) (a6 := bAndNot .u16 r11 a6.f_Near) (hs.rd hr4) (hs.box hp0) Hr12) ?_
   rintro _ w ⟨rfl, hs2⟩
   have hs : St _ [_] _ := hs.call hs2
   show G _ _ _ _ [_,_,_,_,_,_,_,_,_,_,_,_,_,_,_,_,_,_,_,_,_,_,_,_] _
   refine hk _ _ ⟨O, ?_, hs.cast ?_⟩ <;> simp only [lq, cq, Nat.reduceBEq, p0_, p1_, p2_, p3_, p4_, p5_, q7_]
  ·
   intro D t w hD hp hcl hI rest hk
   obtain ⟨O, ht, hs⟩ := hI
   obtain ⟨p6_, _, p0_, p1_, p2_, p3_, p4_, p5_, _, _⟩ := hp
   simp only [hD, p0_, p1_, p2_, p3_, p4_, p5_, p6_, cq] at ht hs
   subst ht
   refine g_op (v := Value.bool r12) rfl rfl rfl ?_
   show G _ _ _ _ [_,_,_,_,_,_,_,_,_,_,_,_,_,_,_,_,_,_,_,_,_,_,_,_] _
   refine hk _ _ ⟨O, ?_, hs.cast ?_⟩ <;> simp only [lq, cq, Nat.reduceBEq, p0_, p1_, p2_, p3_, p4_, p5_, p6_]
  intro D t w hall hI
  obtain ⟨O, ht, hs⟩ := hI
  have p0_ : D 0 = true := hall 0 (by decide)
  have p1_ : D 1 = true := hall 1 (by decide)
  have p2_ : D 2 = true := hall 2 (by decide)
  have p3_ : D 3 = true := hall 3 (by decide)
  have p4_ : D 4 = true := hall 4 (by decide)
  have p5_ : D 5 = true := hall 5 (by decide)
  have p6_ : D 6 = true := hall 6 (by decide)
  have p7_ : D 7 = true := hall 7 (by decide)
  simp only [p0_, p1_, p2_, p3_, p4_, p5_, p6_, p7_, cq] at ht hs
  subst ht
  obtain rfl := Option.some.inj H
  refine g_ret Try.func64 (v := Value.bool r12) (res1 rfl rfl) ?_
  have hs : St _ [] _ := St.take (Γ' := [_]) hs
  exact ⟨_, rfl, rfl, hs⟩

/- function 52 spec_l05Cross -/
def spec_l05Cross.post (w0 : World) (r : (S_impl_Bank × Int)) (v : Value) (w : World) : Prop := v = Value.tuple #[Value.agg (enc_S_impl_Bank r.1).toArray, Value.int .i64 r.2] ∧ St w0 [] w
set_option maxHeartbeats 8000000 in
set_option maxRecDepth 100000 in
theorem spec_l05Cross.calls {N : Nat} {a1 : S_impl_Ferry} {a6 : S_impl_Bank} {a7 : Int} {b2 : Nat} {v3 : Value} {w0 : World} {r : (S_impl_Bank × Int)} (hr4 : RdRow (K.int .u16) w0 v3 a1.f_Rules) (hp0 : w0.heap[b2]? = some (.cells ((([Value.int .i8 a1.f_Things, Value.int .i8 a1.f_Boat, v3] : List Value)) : List Value).toArray 27 (0, 0))) (H : spec_l05Cross.f N a1 a6 a7 = some r) :
    Calls Try.prog 52 #[Value.pointer (some ⟨b2, 0, none⟩), Value.agg (enc_S_impl_Bank a6).toArray, Value.int .u16 a7] w0 fun e w => ∃ v, e = .returned v ∧ spec_l05Cross.post w0 r v w := by
  unfold spec_l05Cross.f at H
  have hs : St w0 [] w0 := St.refl w0
  refine calls_of_g (n := 36) Try.func52 rfl rfl ?_
  show G _ _ _ _ [_,_,_,_,_,_,_,_,_,_,_,_,_,_,_,_,_,_,_,_,_,_,_,_,_,_,_,_,_,_,_,_,_,_,_,_,_,_,_] _
  refine g_seq (g_region ?_)
  show G _ _ _ (.inRegion _ [0, 1, 2] :: _) _ _
  refine s_box hs rfl rfl (cs := (enc_S_impl_Bank a6)) rfl rfl ?_
  intro b8 w hs
  show G _ _ _ _ [_,_,_,_,_,_,_,_,_,_,_,_,_,_,_,_,_,_,_,_,_,_,_,_,_,_,_,_,_,_,_,_,_,_,_,_,_,_,_] _
  refine s_alloc hs rfl rfl (z := (Value.agg #[Value.int .u16 0, Value.bool false])) (cs := (enc_S_impl_Bank z_S_impl_Bank)) rfl (fun _ => rfl) rfl ?_
  intro b10 w hs
  show G _ _ _ _ [_,_,_,_,_,_,_,_,_,_,_,_,_,_,_,_,_,_,_,_,_,_,_,_,_,_,_,_,_,_,_,_,_,_,_,_,_,_,_] _
  refine g_op (v := Value.int .i64 0) rfl rfl rfl ?_
  show G _ _ _ _ [_,_,_,_,_,_,_,_,_,_,_,_,_,_,_,_,_,_,_,_,_,_,_,_,_,_,_,_,_,_,_,_,_,_,_,_,_,_,_] _
  refine g_ops_nil (g_seq (g_seq (g_region ?_)))
  show G _ _ _ (.inRegion _ [0, 1, 2, 3, 4, 5] :: _) _ _
  refine g_op (v := Value.int .u16 a7) rfl rfl rfl ?_
  refine g_op (v := Value.pointer (some ⟨b2, 0, none⟩)) rfl rfl rfl ?_
  refine s_loadA rfl rfl (es := (enc_S_impl_Bank a6)) rfl rfl (fun _ => rfl) (n := 2) (fun _ => rfl) (fk_S_impl_Bank.len _) (cells_all (hs.cells 1 rfl)) ?_
  show G _ _ _ _ [_,_,_,_,_,_,_,_,_,_,_,_,_,_,_,_,_,_,_,_,_,_,_,_,_,_,_,_,_,_,_,_,_,_,_,_,_,_,_] _
  obtain ⟨r12, Hr12, H⟩ := bind_get H
  refine s_call (args := [Value.pointer (some ⟨b2, 0, none⟩), Value.agg (enc_S_impl_Bank a6).toArray]) rfl rfl (x_call rfl (callFunc_enter Try.func63 rfl rfl) rfl) (spec_l05Here.calls (a1 := (⟨a1.f_Things, a1.f_Boat, a1.f_Rules⟩ : S_impl_Ferry)) (a6 := a6) (hs.rd hr4) (hs.box hp0) Hr12) ?_
  rintro _ w ⟨rfl, hs2⟩
  have hs : St _ [_,_] _ := hs.call hs2
  show G _ _ _ _ [_,_,_,_,_,_,_,_,_,_,_,_,_,_,_,_,_,_,_,_,_,_,_,_,_,_,_,_,_,_,_,_,_,_,_,_,_,_,_] _
  refine g_op (v := Value.int .u16 (bAndNot .u16 a7 r12)) rfl rfl rfl ?_
  show G _ _ _ _ [_,_,_,_,_,_,_,_,_,_,_,_,_,_,_,_,_,_,_,_,_,_,_,_,_,_,_,_,_,_,_,_,_,_,_,_,_,_,_] _
  refine g_op_b (B := (bAndNot .u16 a7 r12) != 0) rfl rfl rfl ?_ ?_
  ·
   intro hb
   rw [if_neg (b_bne_t hb)] at H
   show G _ _ _ _ [_,_,_,_,_,_,_,_,_,_,_,_,_,_,_,_,_,_,_,_,_,_,_,_,_,_,_,_,_,_,_,_,_,_,_,_,_,_,_] _
   refine g_ops_nil (g_cond_true rfl (g_seq (g_region ?_)))
   show G _ _ _ (.inRegion _ [0, 1, 2] :: _) _ _
   refine g_op (v := Value.agg (enc_S_impl_Bank (⟨0, false⟩ : S_impl_Bank)).toArray) rfl rfl (x_buildS (cs := (enc_S_impl_Bank (⟨0, false⟩ : S_impl_Bank))) (segs := [[Value.int .u16 0], [Value.bool false]]) rfl rfl (fun _ => rfl) ⟨rfl, (fun _ => rfl), rfl, (fun _ => rfl), trivial⟩ (by simp) (by first | rfl | (simp [ev, enc_S_impl_Bank]; done) | (simp [ev, enc_S_impl_Bank]; rfl))) ?_
   show G _ _ _ _ [_,_,_,_,_,_,_,_,_,_,_,_,_,_,_,_,_,_,_,_,_,_,_,_,_,_,_,_,_,_,_,_,_,_,_,_,_,_,_] _
   refine s_storeAll (n := 2) hs (fk_S_impl_Bank.len _) rfl rfl (vs := (enc_S_impl_Bank (⟨0, false⟩ : S_impl_Bank))) rfl rfl rfl (fun _ => rfl) (fk_S_impl_Bank.len _) (fk_S_impl_Bank.one _) ?_
   intro w hs
   refine g_op (v := Value.int .i64 2) rfl rfl rfl ?_
   show G _ _ _ _ [_,_,_,_,_,_,_,_,_,_,_,_,_,_,_,_,_,_,_,_,_,_,_,_,_,_,_,_,_,_,_,_,_,_,_,_,_,_,_] _
   refine g_ops_nil ?_
   obtain rfl := Option.some.inj H
   refine g_ret Try.func52 (v := Value.tuple #[Value.agg (enc_S_impl_Bank (⟨0, false⟩ : S_impl_Bank)).toArray, Value.int .i64 2]) (resN (l := Try.f52.results.toList) (vs := [Value.agg (enc_S_impl_Bank (⟨0, false⟩ : S_impl_Bank)).toArray, Value.int .i64 2]) rfl ⟨⟨_, rfl, (run_loadVar_agg (es := (enc_S_impl_Bank (⟨0, false⟩ : S_impl_Bank))) rfl (congrArg (Result.ok · _) (fk_S_impl_Bank.len _).symm) (cells_all (hs.cells 0 rfl)))⟩, rfl, trivial⟩ (by simp)) ?_
   have hs : St _ [] _ := St.take (Γ' := [_,_]) hs
   exact ⟨_, rfl, rfl, hs⟩
  intro hb
  rw [if_pos (b_bne_f hb)] at H
  show G _ _ _ _ [_,_,_,_,_,_,_,_,_,_,_,_,_,_,_,_,_,_,_,_,_,_,_,_,_,_,_,_,_,_,_,_,_,_,_,_,_,_,_] _
  refine g_ops_nil (g_cond_false rfl (g_skip (g_seq (g_seq ?_))))
  refine g_lay (n := 8) rfl [0, 1, 2, 3, 4, 5, 6, 7] [0, 1, 2, 3, 4, 5, 6, 7] rfl rfl ?_
  intro rest w hh hbw hO
  have hs := hs.samew hh hbw
  show G _ _ _ _ [_,_,_,_,_,_,_,_,_,_,_,_,_,_,_,_,_,_,_,_,_,_,_,_,_,_,_,_,_,_,_,_,_,_,_,_,_,_,_] _
  obtain ⟨r13, Hr13, H⟩ := bind_get H
  refine g_name ?_
  intro T hT
  refine g_layer (m0 := 0) hO rfl 127 [0, 1, 2, 3, 4, 5, 6] [0, 1, 0, 4, 12, 28, 60, 127] (by decide +kernel) (fun D t w => ∃ O : Nat → Value, t = [Value.pointer (some ⟨b2, 0, none⟩), Value.agg (enc_S_impl_Bank a6).toArray, Value.int .u16 a7, O 3, Value.pointer (some ⟨b8, 0, none⟩), O 5, Value.pointer (some ⟨b10, 0, none⟩), Value.int .i64 0, O 8, Value.int .u16 a7, Value.pointer (some ⟨b2, 0, none⟩), Value.agg (enc_S_impl_Bank a6).toArray, Value.int .u16 r12, Value.int .u16 (bAndNot .u16 a7 r12), Value.bool false, O 15, cnd (D 0) (Value.int .u16 a7) (O 16), cnd (D 1) (Value.int .i64 r13) (O 17), cnd (D 2) (Value.pointer (some ⟨b2, 0, none⟩)) (O 18), cnd (D 3) (Value.pointer (some ⟨b2, 0, none⟩)) (O 19), cnd (D 4) (Value.pointer (some ⟨b2, 1, none⟩)) (O 20), cnd (D 5) (Value.int .i8 a1.f_Boat) (O 21), cnd (D 6) (Value.int .i64 (i64w a1.f_Boat)) (O 22), O 23, O 24, O 25, O 26, O 27, O 28, O 29, O 30, O 31, O 32, O 33, O 34, O 35, O 36, O 37, O 38] ∧ St w0 [Cells b10 (enc_S_impl_Bank z_S_impl_Bank) 70, Cells b8 (enc_S_impl_Bank a6) 70] w) ?_ ⟨?_, ⟨?_, ⟨?_, ⟨?_, ⟨?_, ⟨?_, ⟨?_, trivial⟩⟩⟩⟩⟩⟩⟩ ?_
  · exact ⟨fun i => T.getD i undef, (by subst hT; rfl), hs⟩
  ·
   intro D t w hD hp hcl hI rest hk
   obtain ⟨O, ht, hs⟩ := hI
   have hp : AllDone D [] := hp
   have q1_ := ny hcl 1 0 hD
   simp only [hD, q1_, cq] at ht hs
   subst ht
   refine g_op (v := Value.int .u16 a7) rfl rfl rfl ?_
   show G _ _ _ _ [_,_,_,_,_,_,_,_,_,_,_,_,_,_,_,_,_,_,_,_,_,_,_,_,_,_,_,_,_,_,_,_,_,_,_,_,_,_,_] _
   refine hk _ _ ⟨O, ?_, hs.cast ?_⟩ <;> simp only [lq, cq, Nat.reduceBEq, q1_]
  ·
   intro D t w hD hp hcl hI rest hk
   obtain ⟨O, ht, hs⟩ := hI
   have hp : AllDone D [0] := hp
   obtain ⟨p0_, _⟩ := hp
   simp only [hD, p0_, cq] at ht hs
   subst ht
   refine s_call (args := [Value.int .u16 a7]) rfl rfl (x_call rfl (callFunc_enter Try.func32 rfl rfl) rfl) (spec_l05Size.calls (a1 := a7) Hr13) ?_
   rintro _ w ⟨rfl, hs2⟩
   have hs : St _ [_,_] _ := hs.call hs2
   show G _ _ _ _ [_,_,_,_,_,_,_,_,_,_,_,_,_,_,_,_,_,_,_,_,_,_,_,_,_,_,_,_,_,_,_,_,_,_,_,_,_,_,_] _
   refine hk _ _ ⟨O, ?_, hs.cast ?_⟩ <;> simp only [lq, cq, Nat.reduceBEq, p0_]
  ·
   intro D t w hD hp hcl hI rest hk
   obtain ⟨O, ht, hs⟩ := hI
   have hp : AllDone D [] := hp
   have q3_ := ny hcl 3 0 hD
   have q4_ := ny hcl 4 0 q3_
   have q5_ := ny hcl 5 0 q4_
   have q6_ := ny hcl 6 0 q5_
   simp only [hD, q3_, q4_, q5_, q6_, cq] at ht hs
   subst ht
   refine g_op (v := Value.pointer (some ⟨b2, 0, none⟩)) rfl rfl rfl ?_
   show G _ _ _ _ [_,_,_,_,_,_,_,_,_,_,_,_,_,_,_,_,_,_,_,_,_,_,_,_,_,_,_,_,_,_,_,_,_,_,_,_,_,_,_] _
   refine hk _ _ ⟨O, ?_, hs.cast ?_⟩ <;> simp only [lq, cq, Nat.reduceBEq, q3_, q4_, q5_, q6_]
  ·
   intro D t w hD hp hcl hI rest hk
   obtain ⟨O, ht, hs⟩ := hI
   have hp : AllDone D [2] := hp
   obtain ⟨p2_, _⟩ := hp
   have q4_ := ny hcl 4 0 hD
   have q5_ := ny hcl 5 0 q4_
   have q6_ := ny hcl 6 0 q5_
   simp only [hD, p2_, q4_, q5_, q6_, cq] at ht hs
   subst ht
   refine g_op (v := Value.pointer (some ⟨b2, 0, none⟩)) rfl rfl rfl ?_
   show G _ _ _ _ [_,_,_,_,_,_,_,_,_,_,_,_,_,_,_,_,_,_,_,_,_,_,_,_,_,_,_,_,_,_,_,_,_,_,_,_,_,_,_] _
   refine hk _ _ ⟨O, ?_, hs.cast ?_⟩ <;> simp only [lq, cq, Nat.reduceBEq, p2_, q4_, q5_, q6_]
  ·
   intro D t w hD hp hcl hI rest hk
   obtain ⟨O, ht, hs⟩ := hI
   have hp : AllDone D [3] := hp
   obtain ⟨p3_, _⟩ := hp
   obtain ⟨p2_, _⟩ := (show D 3 = true → AllDone D [2] from hcl 3 (by decide)) p3_
   have q5_ := ny hcl 5 0 hD
   have q6_ := ny hcl 6 0 q5_
   simp only [hD, p2_, p3_, q5_, q6_, cq] at ht hs
   subst ht
   refine g_op (v := Value.pointer (some ⟨b2, 1, none⟩)) rfl rfl rfl ?_
   show G _ _ _ _ [_,_,_,_,_,_,_,_,_,_,_,_,_,_,_,_,_,_,_,_,_,_,_,_,_,_,_,_,_,_,_,_,_,_,_,_,_,_,_] _
   refine hk _ _ ⟨O, ?_, hs.cast ?_⟩ <;> simp only [lq, cq, Nat.reduceBEq, p2_, p3_, q5_, q6_]
  ·
   intro D t w hD hp hcl hI rest hk
   obtain ⟨O, ht, hs⟩ := hI
   have hp : AllDone D [4] := hp
   obtain ⟨p4_, _⟩ := hp
   obtain ⟨p3_, _⟩ := (show D 4 = true → AllDone D [3] from hcl 4 (by decide)) p4_
   obtain ⟨p2_, _⟩ := (show D 3 = true → AllDone D [2] from hcl 3 (by decide)) p3_
   have q6_ := ny hcl 6 0 hD
   simp only [hD, p2_, p3_, p4_, q6_, cq] at ht hs
   subst ht
   refine s_load1 rfl rfl (v := Value.int .i8 a1.f_Boat) rfl rfl (fun _ => rfl) (cells_load (hs.box hp0) 1 1 rfl) ?_
   show G _ _ _ _ [_,_,_,_,_,_,_,_,_,_,_,_,_,_,_,_,_,_,_,_,_,_,_,_,_,_,_,_,_,_,_,_,_,_,_,_,_,_,_] _
   refine hk _ _ ⟨O, ?_, hs.cast ?_⟩ <;> simp only [lq, cq, Nat.reduceBEq, p2_, p3_, p4_, q6_]
  ·
   intro D t w hD hp hcl hI rest hk
   obtain ⟨O, ht, hs⟩ := hI
   have hp : AllDone D [5] := hp
   obtain ⟨p5_, _⟩ := hp
   obtain ⟨p4_, _⟩ := (show D 5 = true → AllDone D [4] from hcl 5 (by decide)) p5_
   obtain ⟨p3_, _⟩ := (show D 4 = true → AllDone D [3] from hcl 4 (by decide)) p4_
   obtain ⟨p2_, _⟩ := (show D 3 = true → AllDone D [2] from hcl 3 (by decide)) p3_
   simp only [hD, p2_, p3_, p4_, p5_, cq] at ht hs
   subst ht
   refine g_op (v := Value.int .i64 (i64w a1.f_Boat)) rfl rfl rfl ?_
   show G _ _ _ _ [_,_,_,_,_,_,_,_,_,_,_,_,_,_,_,_,_,_,_,_,_,_,_,_,_,_,_,_,_,_,_,_,_,_,_,_,_,_,_] _
   refine hk _ _ ⟨O, ?_, hs.cast ?_⟩ <;> simp only [lq, cq, Nat.reduceBEq, p2_, p3_, p4_, p5_]
  intro D t w rest hall hO1_ hI
  obtain ⟨O, ht, hs⟩ := hI
  have p0_ : D 0 = true := hall 0 (by decide) rfl
  have p1_ : D 1 = true := hall 1 (by decide) rfl
  have p2_ : D 2 = true := hall 2 (by decide) rfl
  have p3_ : D 3 = true := hall 3 (by decide) rfl
  have p4_ : D 4 = true := hall 4 (by decide) rfl
  have p5_ : D 5 = true := hall 5 (by decide) rfl
  have p6_ : D 6 = true := hall 6 (by decide) rfl
  simp only [p0_, p1_, p2_, p3_, p4_, p5_, p6_, cq] at ht hs
  subst ht
  obtain ⟨rest, rfl, hO2_⟩ := ord_one (m := 127) hO1_ rfl 7 (m' := 255) (by decide +kernel) rfl
  clear hO1_
  refine g_op_b (B := decide (r13 > (i64w a1.f_Boat))) rfl rfl rfl ?_ ?_
  ·
   intro hb
   rw [if_pos (b_dec_t hb)] at H
   show G _ _ _ _ [_,_,_,_,_,_,_,_,_,_,_,_,_,_,_,_,_,_,_,_,_,_,_,_,_,_,_,_,_,_,_,_,_,_,_,_,_,_,_] _
   obtain rfl := ord_end hO2_ rfl (by decide +kernel)
   refine g_ops_nil (g_cond_true rfl (g_seq (g_region ?_)))
   show G _ _ _ (.inRegion _ [0, 1, 2] :: _) _ _
   refine g_op (v := Value.agg (enc_S_impl_Bank (⟨0, false⟩ : S_impl_Bank)).toArray) rfl rfl (x_buildS (cs := (enc_S_impl_Bank (⟨0, false⟩ : S_impl_Bank))) (segs := [[Value.int .u16 0], [Value.bool false]]) rfl rfl (fun _ => rfl) ⟨rfl, (fun _ => rfl), rfl, (fun _ => rfl), trivial⟩ (by simp) (by first | rfl | (simp [ev, enc_S_impl_Bank]; done) | (simp [ev, enc_S_impl_Bank]; rfl))) ?_
   show G _ _ _ _ [_,_,_,_,_,_,_,_,_,_,_,_,_,_,_,_,_,_,_,_,_,_,_,_,_,_,_,_,_,_,_,_,_,_,_,_,_,_,_] _
   refine s_storeAll (n := 2) hs (fk_S_impl_Bank.len _) rfl rfl (vs := (enc_S_impl_Bank (⟨0, false⟩ : S_impl_Bank))) rfl rfl rfl (fun _ => rfl) (fk_S_impl_Bank.len _) (fk_S_impl_Bank.one _) ?_
   intro w hs
   refine g_op (v := Value.int .i64 3) rfl rfl rfl ?_
   show G _ _ _ _ [_,_,_,_,_,_,_,_,_,_,_,_,_,_,_,_,_,_,_,_,_,_,_,_,_,_,_,_,_,_,_,_,_,_,_,_,_,_,_] _
   refine g_ops_nil ?_
   obtain rfl := Option.some.inj H
   refine g_ret Try.func52 (v := Value.tuple #[Value.agg (enc_S_impl_Bank (⟨0, false⟩ : S_impl_Bank)).toArray, Value.int .i64 3]) (resN (l := Try.f52.results.toList) (vs := [Value.agg (enc_S_impl_Bank (⟨0, false⟩ : S_impl_Bank)).toArray, Value.int .i64 3]) rfl ⟨⟨_, rfl, (run_loadVar_agg (es := (enc_S_impl_Bank (⟨0, false⟩ : S_impl_Bank))) rfl (congrArg (Result.ok · _) (fk_S_impl_Bank.len _).symm) (cells_all (hs.cells 0 rfl)))⟩, rfl, trivial⟩ (by simp)) ?_
   have hs : St _ [] _ := St.take (Γ' := [_,_]) hs
   exact ⟨_, rfl, rfl, hs⟩
  intro hb
  rw [if_neg (b_dec_f hb)] at H
  show G _ _ _ _ [_,_,_,_,_,_,_,_,_,_,_,_,_,_,_,_,_,_,_,_,_,_,_,_,_,_,_,_,_,_,_,_,_,_,_,_,_,_,_] _
  obtain rfl := ord_end hO2_ rfl (by decide +kernel)
  refine g_ops_nil (g_cond_false rfl (g_skip (g_seq (g_region ?_))))
  show G _ _ _ (.inRegion _ [0, 1, 2, 3, 4, 5, 6, 7, 8, 9] :: _) _ _
  refine g_op (v := Value.pointer (some ⟨b8, 0, none⟩)) rfl rfl rfl ?_
  refine s_load1 rfl rfl (v := Value.int .u16 a6.f_Near) rfl rfl (fun _ => rfl) (cells_load (hs.cells 1 rfl) 0 1 rfl) ?_
  show G _ _ _ _ [_,_,_,_,_,_,_,_,_,_,_,_,_,_,_,_,_,_,_,_,_,_,_,_,_,_,_,_,_,_,_,_,_,_,_,_,_,_,_] _
  refine g_op (v := Value.int .u16 a7) rfl rfl rfl ?_
  refine g_op (v := Value.int .u16 (bXor .u16 a6.f_Near a7)) rfl rfl rfl ?_
  show G _ _ _ _ [_,_,_,_,_,_,_,_,_,_,_,_,_,_,_,_,_,_,_,_,_,_,_,_,_,_,_,_,_,_,_,_,_,_,_,_,_,_,_] _
  refine g_op (v := Value.pointer (some ⟨b8, 1, none⟩)) rfl rfl rfl ?_
  refine s_load1 rfl rfl (v := Value.bool a6.f_Far) rfl rfl (fun _ => rfl) (cells_load (hs.cells 1 rfl) 1 1 rfl) ?_
  show G _ _ _ _ [_,_,_,_,_,_,_,_,_,_,_,_,_,_,_,_,_,_,_,_,_,_,_,_,_,_,_,_,_,_,_,_,_,_,_,_,_,_,_] _
  refine g_op (v := Value.bool (!a6.f_Far)) rfl rfl rfl ?_
  show G _ _ _ _ [_,_,_,_,_,_,_,_,_,_,_,_,_,_,_,_,_,_,_,_,_,_,_,_,_,_,_,_,_,_,_,_,_,_,_,_,_,_,_] _
  refine g_op (v := Value.agg (enc_S_impl_Bank (⟨bXor .u16 a6.f_Near a7, !a6.f_Far⟩ : S_impl_Bank)).toArray) rfl rfl (x_buildS (cs := (enc_S_impl_Bank (⟨bXor .u16 a6.f_Near a7, !a6.f_Far⟩ : S_impl_Bank))) (segs := [[Value.int .u16 0], [Value.bool false]]) rfl rfl (fun _ => rfl) ⟨rfl, (fun _ => rfl), rfl, (fun _ => rfl), trivial⟩ (by simp only [List.map_cons, List.map_nil, List.forall_mem_cons, List.not_mem_nil, false_implies, implies_true, and_true]; exact ⟨⟨_, rfl, rfl⟩, ⟨_, rfl, rfl⟩⟩) (by first | rfl | (simp [ev, enc_S_impl_Bank]; done) | (simp [ev, enc_S_impl_Bank]; rfl))) ?_
  show G _ _ _ _ [_,_,_,_,_,_,_,_,_,_,_,_,_,_,_,_,_,_,_,_,_,_,_,_,_,_,_,_,_,_,_,_,_,_,_,_,_,_,_] _
  refine s_alloc hs rfl rfl (z := (Value.agg #[Value.int .u16 0, Value.bool false])) (cs := (enc_S_impl_Bank z_S_impl_Bank)) rfl (fun _ => rfl) rfl ?_
  intro b14 w hs
  show G _ _ _ _ [_,_,_,_,_,_,_,_,_,_,_,_,_,_,_,_,_,_,_,_,_,_,_,_,_,_,_,_,_,_,_,_,_,_,_,_,_,_,_] _
  refine s_storeAll (n := 2) hs (fk_S_impl_Bank.len _) rfl rfl (vs := (enc_S_impl_Bank (⟨bXor .u16 a6.f_Near a7, !a6.f_Far⟩ : S_impl_Bank))) rfl rfl rfl (fun _ => rfl) (fk_S_impl_Bank.len _) (fk_S_impl_Bank.one _) ?_
  intro w hs
  refine g_ops_nil (g_seq (g_seq (g_region ?_)))
  show G _ _ _ (.inRegion _ [0, 1, 2, 3] :: _) _ _
  refine g_op (v := Value.pointer (some ⟨b2, 0, none⟩)) rfl rfl rfl ?_
  refine s_loadA rfl rfl (es := (enc_S_impl_Bank (⟨bXor .u16 a6.f_Near a7, !a6.f_Far⟩ : S_impl_Bank))) rfl rfl (fun _ => rfl) (n := 2) (fun _ => rfl) (fk_S_impl_Bank.len _) (cells_all (hs.cells 0 rfl)) ?_
  show G _ _ _ _ [_,_,_,_,_,_,_,_,_,_,_,_,_,_,_,_,_,_,_,_,_,_,_,_,_,_,_,_,_,_,_,_,_,_,_,_,_,_,_] _
  obtain ⟨r16, Hr16, H⟩ := bind_get H
  refine s_call (args := [Value.pointer (some ⟨b2, 0, none⟩), Value.agg (enc_S_impl_Bank (⟨bXor .u16 a6.f_Near a7, !a6.f_Far⟩ : S_impl_Bank)).toArray]) rfl rfl (x_call rfl (callFunc_enter Try.func64 rfl rfl) rfl) (spec_l05Bank.calls (a1 := (⟨a1.f_Things, a1.f_Boat, a1.f_Rules⟩ : S_impl_Ferry)) (a6 := (⟨bXor .u16 a6.f_Near a7, !a6.f_Far⟩ : S_impl_Bank)) (hs.rd hr4) (hs.box hp0) Hr16) ?_
  rintro _ w ⟨rfl, hs2⟩
  have hs : St _ [_,_,_] _ := hs.call hs2
  cases r16 with
  | true =>
    rw [if_pos rfl] at H
    show G _ _ _ _ [_,_,_,_,_,_,_,_,_,_,_,_,_,_,_,_,_,_,_,_,_,_,_,_,_,_,_,_,_,_,_,_,_,_,_,_,_,_,_] _
    refine g_op (v := Value.bool false) rfl rfl rfl ?_
    show G _ _ _ _ [_,_,_,_,_,_,_,_,_,_,_,_,_,_,_,_,_,_,_,_,_,_,_,_,_,_,_,_,_,_,_,_,_,_,_,_,_,_,_] _
    refine g_ops_nil (g_cond_false rfl (g_skip (g_seq (g_region ?_))))
    show G _ _ _ (.inRegion _ [0, 1, 2] :: _) _ _
    refine s_loadA rfl rfl (es := (enc_S_impl_Bank (⟨bXor .u16 a6.f_Near a7, !a6.f_Far⟩ : S_impl_Bank))) rfl rfl (fun _ => rfl) (n := 2) (fun _ => rfl) (fk_S_impl_Bank.len _) (cells_all (hs.cells 0 rfl)) ?_
    show G _ _ _ _ [_,_,_,_,_,_,_,_,_,_,_,_,_,_,_,_,_,_,_,_,_,_,_,_,_,_,_,_,_,_,_,_,_,_,_,_,_,_,_] _
    have hs := hs.pull 1 rfl
    have hs : St _ [_,_,_] _ := hs
    refine s_storeAll (n := 2) hs (fk_S_impl_Bank.len _) rfl rfl (vs := (enc_S_impl_Bank (⟨bXor .u16 a6.f_Near a7, !a6.f_Far⟩ : S_impl_Bank))) rfl rfl rfl (fun _ => rfl) (fk_S_impl_Bank.len _) (fk_S_impl_Bank.one _) ?_
    intro w hs
    refine g_op (v := Value.int .i64 0) rfl rfl rfl ?_
    show G _ _ _ _ [_,_,_,_,_,_,_,_,_,_,_,_,_,_,_,_,_,_,_,_,_,_,_,_,_,_,_,_,_,_,_,_,_,_,_,_,_,_,_] _
    refine g_ops_nil ?_
    obtain rfl := Option.some.inj H
    refine g_ret Try.func52 (v := Value.tuple #[Value.agg (enc_S_impl_Bank (⟨bXor .u16 a6.f_Near a7, !a6.f_Far⟩ : S_impl_Bank)).toArray, Value.int .i64 0]) (resN (l := Try.f52.results.toList) (vs := [Value.agg (enc_S_impl_Bank (⟨bXor .u16 a6.f_Near a7, !a6.f_Far⟩ : S_impl_Bank)).toArray, Value.int .i64 0]) rfl ⟨⟨_, rfl, (run_loadVar_agg (es := (enc_S_impl_Bank (⟨bXor .u16 a6.f_Near a7, !a6.f_Far⟩ : S_impl_Bank))) rfl (congrArg (Result.ok · _) (fk_S_impl_Bank.len _).symm) (cells_all (hs.cells 0 rfl)))⟩, rfl, trivial⟩ (by simp)) ?_
    have hs : St _ [] _ := St.take (Γ' := [_,_,_]) hs
    exact ⟨_, rfl, rfl, hs⟩
  | false =>
    rw [if_neg Bool.false_ne_true] at H
    show G _ _ _ _ [_,_,_,_,_,_,_,_,_,_,_,_,_,_,_,_,_,_,_,_,_,_,_,_,_,_,_,_,_,_,_,_,_,_,_,_,_,_,_] _
    refine g_op (v := Value.bool true) rfl rfl rfl ?_
    show G _ _ _ _ [_,_,_,_,_,_,_,_,_,_,_,_,_,_,_,_,_,_,_,_,_,_,_,_,_,_,_,_,_,_,_,_,_,_,_,_,_,_,_] _
    refine g_ops_nil (g_cond_true rfl (g_seq (g_region ?_)))
    show G _ _ _ (.inRegion _ [0, 1, 2] :: _) _ _
    refine g_op (v := Value.agg (enc_S_impl_Bank (⟨0, false⟩ : S_impl_Bank)).toArray) rfl rfl (x_buildS (cs := (enc_S_impl_Bank (⟨0, false⟩ : S_impl_Bank))) (segs := [[Value.int .u16 0], [Value.bool false]]) rfl rfl (fun _ => rfl) ⟨rfl, (fun _ => rfl), rfl, (fun _ => rfl), trivial⟩ (by simp) (by first | rfl | (simp [ev, enc_S_impl_Bank]; done) | (simp [ev, enc_S_impl_Bank]; rfl))) ?_
    show G _ _ _ _ [_,_,_,_,_,_,_,_,_,_,_,_,_,_,_,_,_,_,_,_,_,_,_,_,_,_,_,_,_,_,_,_,_,_,_,_,_,_,_] _
    have hs := hs.pull 1 rfl
    have hs : St _ [_,_,_] _ := hs
    refine s_storeAll (n := 2) hs (fk_S_impl_Bank.len _) rfl rfl (vs := (enc_S_impl_Bank (⟨0, false⟩ : S_impl_Bank))) rfl rfl rfl (fun _ => rfl) (fk_S_impl_Bank.len _) (fk_S_impl_Bank.one _) ?_
    intro w hs
    refine g_op (v := Value.int .i64 4) rfl rfl rfl ?_
    show G _ _ _ _ [_,_,_,_,_,_,_,_,_,_,_,_,_,_,_,_,_,_,_,_,_,_,_,_,_,_,_,_,_,_,_,_,_,_,_,_,_,_,_] _
    refine g_ops_nil ?_
    obtain rfl := Option.some.inj H
    refine g_ret Try.func52 (v := Value.tuple #[Value.agg (enc_S_impl_Bank (⟨0, false⟩ : S_impl_Bank)).toArray, Value.int .i64 4]) (resN (l := Try.f52.results.toList) (vs := [Value.agg (enc_S_impl_Bank (⟨0, false⟩ : S_impl_Bank)).toArray, Value.int .i64 4]) rfl ⟨⟨_, rfl, (run_loadVar_agg (es := (enc_S_impl_Bank (⟨0, false⟩ : S_impl_Bank))) rfl (congrArg (Result.ok · _) (fk_S_impl_Bank.len _).symm) (cells_all (hs.cells 0 rfl)))⟩, rfl, trivial⟩ (by simp)) ?_
    have hs : St _ [] _ := St.take (Γ' := [_,_,_]) hs
    exact ⟨_, rfl, rfl, hs⟩

/- function 51 spec_l05Loads -/
def spec_l05Loads.post (w0 : World) (r : (List Int)) (v : Value) (w : World) : Prop := St w0 [Row 31 (K.int .u16) v r] w
set_option maxHeartbeats 8000000 in
set_option maxRecDepth 100000 in
theorem spec_l05Loads.calls {N : Nat} {a1 : S_impl_Ferry} {a6 : S_impl_Bank} {b2 : Nat} {v3 : Value} {w0 : World} {r : (List Int)} (hr4 : RdRow (K.int .u16) w0 v3 a1.f_Rules) (hp0 : w0.heap[b2]? = some (.cells ((([Value.int .i8 a1.f_Things, Value.int .i8 a1.f_Boat, v3] : List Value)) : List Value).toArray 27 (0, 0))) (H : spec_l05Loads.f N a1 a6 = some r) :
    Calls Try.prog 51 #[Value.pointer (some ⟨b2, 0, none⟩), Value.agg (enc_S_impl_Bank a6).toArray] w0 fun e w => ∃ v, e = .returned v ∧ spec_l05Loads.post w0 r v w := by
  unfold spec_l05Loads.f at H
  have hs : St w0 [] w0 := St.refl w0
  refine calls_of_g (n := 28) Try.func51 rfl rfl ?_
  show G _ _ _ _ [_,_,_,_,_,_,_,_,_,_,_,_,_,_,_,_,_,_,_,_,_,_,_,_,_,_,_,_,_,_] _
  refine g_seq (g_region ?_)
  show G _ _ _ (.inRegion _ [0, 1] :: _) _ _
  refine s_box hs rfl rfl (cs := (enc_S_impl_Bank a6)) rfl rfl ?_
  intro b7 w hs
  show G _ _ _ _ [_,_,_,_,_,_,_,_,_,_,_,_,_,_,_,_,_,_,_,_,_,_,_,_,_,_,_,_,_,_] _
  refine g_op (v := Value.slice none 0 0) rfl rfl rfl ?_
  show G _ _ _ _ [_,_,_,_,_,_,_,_,_,_,_,_,_,_,_,_,_,_,_,_,_,_,_,_,_,_,_,_,_,_] _
  refine g_ops_nil (g_seq (g_region ?_))
  show G _ _ _ (.inRegion _ [0, 1] :: _) _ _
  refine s_lit0 (κ := (K.int .u16)) hs rfl rfl rfl rfl (fun _ => rfl) ?_
  intro v9 w hs
  show G _ _ _ _ [_,_,_,_,_,_,_,_,_,_,_,_,_,_,_,_,_,_,_,_,_,_,_,_,_,_,_,_,_,_] _
  refine g_op (v := v9) rfl rfl rfl ?_
  show G _ _ _ _ [_,_,_,_,_,_,_,_,_,_,_,_,_,_,_,_,_,_,_,_,_,_,_,_,_,_,_,_,_,_] _
  refine g_ops_nil (g_seq (g_seq (g_region ?_)))
  show G _ _ _ (.inRegion _ [0] :: _) _ _
  refine g_op (v := Value.int .u16 0) rfl rfl rfl ?_
  show G _ _ _ _ [_,_,_,_,_,_,_,_,_,_,_,_,_,_,_,_,_,_,_,_,_,_,_,_,_,_,_,_,_,_] _
  refine g_ops_nil ?_
  obtain ⟨o1_, Ho, Hr1_⟩ := bind_get H
  refine g_block_join (J := fun t w => ∃ v26 : Value, ∃ x27 : (List Int), spec_l05Loads.a0 N x27 = some r ∧ Fr t (fun O => ([O 0, O 1, O 2, O 3, O 4, v26, O 6, O 7, O 8, O 9, O 10, O 11, O 12, O 13, O 14, O 15, O 16, O 17, O 18, O 19, O 20, O 21, O 22, O 23, O 24, O 25, O 26, O 27, O 28, O 29] : List Value)) ∧ St w0 [Row 31 (K.int .u16) v26 x27] w) ?_ ?_
  ·
   rintro t w ⟨v26, x27, H, hf, hs⟩
   obtain ⟨O, rfl⟩ := hf.open
   show G _ _ _ _ [_,_,_,_,_,_,_,_,_,_,_,_,_,_,_,_,_,_,_,_,_,_,_,_,_,_,_,_,_,_] _
   unfold spec_l05Loads.a0 at H
   refine g_seq (g_region ?_)
   show G _ _ _ (.inRegion _ [0, 1] :: _) _ _
   refine g_op (v := v26) rfl rfl rfl ?_
   refine g_op (v := v26) rfl rfl rfl ?_
   show G _ _ _ _ [_,_,_,_,_,_,_,_,_,_,_,_,_,_,_,_,_,_,_,_,_,_,_,_,_,_,_,_,_,_] _
   refine g_ops_nil ?_
   obtain rfl := Option.some.inj H
   refine g_ret Try.func51 (v := v26) (res1 rfl rfl) ?_
   have hs := hs.pull 0 rfl
   have hs : St _ [_] _ := St.take (Γ' := []) hs
   exact ⟨_, rfl, hs⟩
  intro ha1_
  have hs := hs.pull 0 rfl
  have hs := hs.pull 1 rfl
  have hs : St _ [_,_] _ := St.take (Γ' := []) hs
  refine g_loop_fuel (I := fun n_ t w => ∃ v12 : Value, ∃ x13 : (List Int), ∃ x14 : Int, rounds (fun s => spec_l05Loads.b0 N a1 a6 s.1 s.2) n_ (x13, x14) = some o1_ ∧ Fr t (fun O => ([Value.pointer (some ⟨b2, 0, none⟩), O 1, O 2, Value.pointer (some ⟨b7, 0, none⟩), O 4, v12, Value.int .u16 x14, O 7, O 8, O 9, O 10, O 11, O 12, O 13, O 14, O 15, O 16, O 17, O 18, O 19, O 20, O 21, O 22, O 23, O 24, O 25, O 26, O 27, O 28, O 29] : List Value)) ∧ St w0 [Cells b7 (enc_S_impl_Bank a6) 70, Row 31 (K.int .u16) v12 x13] w) N ⟨v9, ([] : List Int), 0, Ho, rfl, hs⟩ ?_ ?_
  ·
   rintro _ _ ⟨v12, x13, x14, h, _⟩
   exact rounds_zero h
  intro n_ ih1_
  rintro t w ⟨v12, x13, x14, Ho, hf, hs⟩
  obtain ⟨O, rfl⟩ := hf.open
  show G _ _ _ _ [_,_,_,_,_,_,_,_,_,_,_,_,_,_,_,_,_,_,_,_,_,_,_,_,_,_,_,_,_,_] _
  obtain ⟨x1_, H, Hx1_⟩ := rounds_succ Ho
  have H : spec_l05Loads.b0 N a1 a6 x13 x14 = some x1_ := H
  unfold spec_l05Loads.b0 at H
  refine g_seq (g_seq (g_region ?_))
  show G _ _ _ (.inRegion _ [0, 1, 2, 3] :: _) _ _
  refine g_op (v := Value.int .u16 x14) rfl rfl rfl ?_
  refine g_op (v := Value.pointer (some ⟨b2, 0, none⟩)) rfl rfl rfl ?_
  obtain ⟨r15, Hr15, H⟩ := bind_get H
  refine s_call (args := [Value.pointer (some ⟨b2, 0, none⟩)]) rfl rfl (x_call rfl (callFunc_enter Try.func30 rfl rfl) rfl) (spec_l05All.calls (a1 := (⟨a1.f_Things, a1.f_Boat, a1.f_Rules⟩ : S_impl_Ferry)) (hs.rd hr4) (hs.box hp0) Hr15) ?_
  rintro _ w ⟨rfl, hs2⟩
  have hs : St _ [_,_] _ := hs.call hs2
  show G _ _ _ _ [_,_,_,_,_,_,_,_,_,_,_,_,_,_,_,_,_,_,_,_,_,_,_,_,_,_,_,_,_,_] _
  refine g_op_b (B := decide (x14 ≤ r15)) rfl rfl rfl ?_ ?_
  ·
   intro hb
   rw [if_pos (b_dec_t hb)] at H
   show G _ _ _ _ [_,_,_,_,_,_,_,_,_,_,_,_,_,_,_,_,_,_,_,_,_,_,_,_,_,_,_,_,_,_] _
   refine g_ops_nil (g_cond_true rfl (g_skip (g_seq ?_)))
   refine g_block_join (J := (fun t w => ∃ v23 : Value, ∃ x24 : (List Int), spec_l05Loads.j2 N x14 x24 = some x1_ ∧ Fr t (fun O => ([Value.pointer (some ⟨b2, 0, none⟩), O 1, O 2, Value.pointer (some ⟨b7, 0, none⟩), O 4, v23, Value.int .u16 x14, O 7, O 8, O 9, O 10, O 11, O 12, O 13, O 14, O 15, O 16, O 17, O 18, O 19, O 20, O 21, O 22, O 23, O 24, O 25, O 26, O 27, O 28, O 29] : List Value)) ∧ St w0 [Cells b7 (enc_S_impl_Bank a6) 70, Row 31 (K.int .u16) v23 x24] w)) ?_ ?_
   ·
    rintro t w ⟨v23, x24, H, hf, hs⟩
    obtain ⟨O, rfl⟩ := hf.open
    show G _ _ _ _ [_,_,_,_,_,_,_,_,_,_,_,_,_,_,_,_,_,_,_,_,_,_,_,_,_,_,_,_,_,_] _
    unfold spec_l05Loads.j2 at H
    refine g_region ?_
    show G _ _ _ (.inRegion _ [0, 1, 2] :: _) _ _
    refine g_op (v := Value.int .u16 x14) rfl rfl rfl ?_
    refine g_op (v := Value.int .u16 (u16w (x14 + 1))) rfl rfl rfl ?_
    show G _ _ _ _ [_,_,_,_,_,_,_,_,_,_,_,_,_,_,_,_,_,_,_,_,_,_,_,_,_,_,_,_,_,_] _
    refine g_op (v := Value.int .u16 (u16w (x14 + 1))) rfl rfl rfl ?_
    show G _ _ _ _ [_,_,_,_,_,_,_,_,_,_,_,_,_,_,_,_,_,_,_,_,_,_,_,_,_,_,_,_,_,_] _
    refine g_ops_nil ?_
    obtain rfl := Option.some.inj H
    have hs := hs.pull 1 rfl
    have hs := hs.pull 1 rfl
    have hs : St _ [_,_] _ := St.take (Γ' := []) hs
    exact ih1_ _ _ ⟨v23, x24, u16w (x14 + 1), Hx1_, rfl, hs⟩
   intro ha
   refine g_seq (g_region ?_)
   show G _ _ _ (.inRegion _ [0, 1, 2, 3, 4, 5, 6, 7, 8, 9] :: _) _ _
   refine g_op (v := Value.pointer (some ⟨b2, 0, none⟩)) rfl rfl rfl ?_
   refine s_loadA rfl rfl (es := (enc_S_impl_Bank a6)) rfl rfl (fun _ => rfl) (n := 2) (fun _ => rfl) (fk_S_impl_Bank.len _) (cells_all (hs.cells 0 rfl)) ?_
   show G _ _ _ _ [_,_,_,_,_,_,_,_,_,_,_,_,_,_,_,_,_,_,_,_,_,_,_,_,_,_,_,_,_,_] _
   refine g_op (v := Value.int .u16 x14) rfl rfl rfl ?_
   obtain ⟨r16, Hr16, H⟩ := bind_get H
   refine s_call (args := [Value.pointer (some ⟨b2, 0, none⟩), Value.agg (enc_S_impl_Bank a6).toArray, Value.int .u16 x14]) rfl rfl (x_call rfl (callFunc_enter Try.func52 rfl rfl) rfl) (spec_l05Cross.calls (a1 := (⟨a1.f_Things, a1.f_Boat, a1.f_Rules⟩ : S_impl_Ferry)) (a6 := a6) (a7 := x14) (hs.rd hr4) (hs.box hp0) Hr16) ?_
   rintro _ w ⟨rfl, hs2⟩
   have hs : St _ [_,_] _ := hs.call hs2
   show G _ _ _ _ [_,_,_,_,_,_,_,_,_,_,_,_,_,_,_,_,_,_,_,_,_,_,_,_,_,_,_,_,_,_] _
   refine g_op (v := Value.tuple #[Value.agg (enc_S_impl_Bank r16.1).toArray, Value.int .i64 r16.2]) rfl rfl rfl ?_
   refine g_op (v := Value.agg (enc_S_impl_Bank r16.1).toArray) rfl rfl rfl ?_
   refine g_op (v := Value.int .i64 r16.2) rfl rfl rfl ?_
   refine s_alloc hs rfl rfl (z := (Value.agg #[Value.int .u16 0, Value.bool false])) (cs := (enc_S_impl_Bank z_S_impl_Bank)) rfl (fun _ => rfl) rfl ?_
   intro b17 w hs
   show G _ _ _ _ [_,_,_,_,_,_,_,_,_,_,_,_,_,_,_,_,_,_,_,_,_,_,_,_,_,_,_,_,_,_] _
   refine s_storeAll (n := 2) hs (fk_S_impl_Bank.len _) rfl rfl (vs := (enc_S_impl_Bank r16.1)) rfl rfl rfl (fun _ => rfl) (fk_S_impl_Bank.len _) (fk_S_impl_Bank.one _) ?_
   intro w hs
   refine g_op (v := Value.int .i64 r16.2) rfl rfl rfl ?_
   show G _ _ _ _ [_,_,_,_,_,_,_,_,_,_,_,_,_,_,_,_,_,_,_,_,_,_,_,_,_,_,_,_,_,_] _
   refine g_ops_nil (g_seq (g_region ?_))
   show G _ _ _ (.inRegion _ [0, 1] :: _) _ _
   refine g_op (v := Value.int .i64 r16.2) rfl rfl rfl ?_
   refine g_op_b (B := r16.2 == 0) rfl rfl rfl ?_ ?_
   ·
    intro hb
    rw [if_pos (b_beq_t hb)] at H
    show G _ _ _ _ [_,_,_,_,_,_,_,_,_,_,_,_,_,_,_,_,_,_,_,_,_,_,_,_,_,_,_,_,_,_] _
    refine g_ops_nil (g_cond_true rfl (g_region ?_))
    show G _ _ _ (.inRegion _ [0, 1, 2, 3, 4] :: _) _ _
    refine g_op (v := v12) rfl rfl rfl ?_
    refine g_op (v := Value.int .u16 x14) rfl rfl rfl ?_
    refine s_lit1 (fkI .u16) (y := x14) hs rfl rfl rfl rfl (fun _ => rfl) (zv := (Value.int .u16 0)) (fun _ => rfl) rfl (by decide) (by decide) rfl ?_
    intro v19 w hs
    show G _ _ _ _ [_,_,_,_,_,_,_,_,_,_,_,_,_,_,_,_,_,_,_,_,_,_,_,_,_,_,_,_,_,_] _
    have hs := hs.pull 3 rfl
    have hs : St _ [_,_,_,_] _ := hs
    obtain ⟨g, H⟩ := ite_get H
    refine s_append (fkI .u16) (zv := (Value.int .u16 0)) (B := 2) hs (hs.row 1 rfl) rfl rfl rfl rfl rfl rfl rfl rfl rfl (by decide) rfl rfl (by decide) (by omega) ?_
    intro v21 w hs
    show G _ _ _ _ [_,_,_,_,_,_,_,_,_,_,_,_,_,_,_,_,_,_,_,_,_,_,_,_,_,_,_,_,_,_] _
    refine g_op (v := v21) rfl rfl rfl ?_
    show G _ _ _ _ [_,_,_,_,_,_,_,_,_,_,_,_,_,_,_,_,_,_,_,_,_,_,_,_,_,_,_,_,_,_] _
    refine g_ops_nil ?_
    refine g_inBlock ?_
    have hs := hs.pull 0 rfl
    have hs := hs.pull 3 rfl
    have hs : St _ [_,_] _ := St.take (Γ' := [_,_]) hs
    exact ha _ _ ⟨v21, x13 ++ ([x14]), H, rfl, hs⟩
   intro hb
   rw [if_neg (b_beq_f hb)] at H
   show G _ _ _ _ [_,_,_,_,_,_,_,_,_,_,_,_,_,_,_,_,_,_,_,_,_,_,_,_,_,_,_,_,_,_] _
   refine g_ops_nil (g_cond_false rfl (g_skip ?_))
   refine g_inBlock ?_
   have hs := hs.pull 2 rfl
   have hs := hs.pull 2 rfl
   have hs : St _ [_,_] _ := St.take (Γ' := [_]) hs
   exact ha _ _ ⟨v12, x13, H, rfl, hs⟩
  intro hb
  rw [if_neg (b_dec_f hb)] at H
  show G _ _ _ _ [_,_,_,_,_,_,_,_,_,_,_,_,_,_,_,_,_,_,_,_,_,_,_,_,_,_,_,_,_,_] _
  refine g_ops_nil (g_cond_false rfl ?_)
  obtain rfl := Option.some.inj H
  subst Hx1_
  have hs := hs.pull 1 rfl
  have hs : St _ [_] _ := St.take (Γ' := [_]) hs
  refine g_exit rfl ?_
  exact ha1_ _ _ ⟨v12, x13, Hr1_, rfl, hs⟩

/- function 53 spec_l05Index -/
def spec_l05Index.post (w0 : World) (r : Int) (v : Value) (w : World) : Prop := v = Value.int .i64 r ∧ St w0 [] w
set_option maxHeartbeats 8000000 in
set_option maxRecDepth 100000 in
theorem spec_l05Index.calls {N : Nat} {a1 : S_impl_Ferry} {a6 : S_impl_Bank} {b2 : Nat} {v3 : Value} {w0 : World} {r : Int} (hr4 : RdRow (K.int .u16) w0 v3 a1.f_Rules) (hp0 : w0.heap[b2]? = some (.cells ((([Value.int .i8 a1.f_Things, Value.int .i8 a1.f_Boat, v3] : List Value)) : List Value).toArray 27 (0, 0))) (H : spec_l05Index.f N a1 a6 = some r) :
    Calls Try.prog 53 #[Value.pointer (some ⟨b2, 0, none⟩), Value.agg (enc_S_impl_Bank a6).toArray] w0 fun e w => ∃ v, e = .returned v ∧ spec_l05Index.post w0 r v w := by
  unfold spec_l05Index.f at H
  have hs : St w0 [] w0 := St.refl w0
  refine calls_of_g (n := 16) Try.func53 rfl rfl ?_
  show G _ _ _ _ [_,_,_,_,_,_,_,_,_,_,_,_,_,_,_,_,_,_] _
  refine g_seq (g_region ?_)
  show G _ _ _ (.inRegion _ [0, 1] :: _) _ _
  refine s_box hs rfl rfl (cs := (enc_S_impl_Bank a6)) rfl rfl ?_
  intro b7 w hs
  show G _ _ _ _ [_,_,_,_,_,_,_,_,_,_,_,_,_,_,_,_,_,_] _
  refine g_op (v := Value.int .i64 0) rfl rfl rfl ?_
  show G _ _ _ _ [_,_,_,_,_,_,_,_,_,_,_,_,_,_,_,_,_,_] _
  refine g_ops_nil (g_seq (g_seq (g_region ?_)))
  show G _ _ _ (.inRegion _ [0, 1] :: _) _ _
  refine g_op (v := Value.pointer (some ⟨b7, 1, none⟩)) rfl rfl rfl ?_
  show G _ _ _ _ [_,_,_,_,_,_,_,_,_,_,_,_,_,_,_,_,_,_] _
  by_cases hb1_ : a6.f_Far = true
  ·
   rw [if_pos hb1_] at H
   refine s_load1 rfl rfl (v := Value.bool true) rfl rfl (fun _ => rfl) (cells_load (hs.cells 0 rfl) 1 1 (Eq.trans (b := [Value.bool a6.f_Far]) rfl (congrArg (fun b => [Value.bool b]) hb1_))) ?_
   show G _ _ _ _ [_,_,_,_,_,_,_,_,_,_,_,_,_,_,_,_,_,_] _
   refine g_ops_nil (g_cond_true rfl (g_seq ?_))
   obtain ⟨r9, Hr9, H⟩ := bind_get H
   refine g_name ?_
   intro T hT
   refine g_any (n := 9) rfl [0, 1, 2, 3, 4, 5, 6, 7, 8] [0, 1, 2, 3, 4, 5, 6, 7, 8] rfl rfl (Inv := fun D t w => ∃ O : Nat → Value, t = [Value.pointer (some ⟨b2, 0, none⟩), Value.agg (enc_S_impl_Bank a6).toArray, O 2, Value.pointer (some ⟨b7, 0, none⟩), cnd (D 8) (Value.int .i64 (i64w ((i64w ((i64w a6.f_Near) + (i64w r9))) + 1))) (Value.int .i64 0), Value.pointer (some ⟨b7, 1, none⟩), Value.bool true, cnd (D 0) (Value.pointer (some ⟨b7, 0, none⟩)) (O 7), cnd (D 1) (Value.int .u16 a6.f_Near) (O 8), cnd (D 2) (Value.int .i64 (i64w a6.f_Near)) (O 9), cnd (D 3) (Value.pointer (some ⟨b2, 0, none⟩)) (O 10), cnd (D 4) (Value.int .u16 r9) (O 11), cnd (D 5) (Value.int .i64 (i64w r9)) (O 12), cnd (D 6) (Value.int .i64 (i64w ((i64w a6.f_Near) + (i64w r9)))) (O 13), cnd (D 7) (Value.int .i64 (i64w ((i64w ((i64w a6.f_Near) + (i64w r9))) + 1))) (O 14), O 15, O 16, O 17] ∧ St w0 [Cells b7 (enc_S_impl_Bank a6) 70] w) ?_ ⟨⟨⟨⟨⟨⟨⟨⟨⟨trivial, ?_⟩, ?_⟩, ?_⟩, ?_⟩, ?_⟩, ?_⟩, ?_⟩, ?_⟩, ?_⟩ ?_
   ·
    intro w hh hbw
    have hs := hs.samew hh hbw
    exact ⟨fun i => T.getD i undef, (by subst hT; rfl), hs⟩
   ·
    intro D t w hD hp hcl hI rest hk
    obtain ⟨O, ht, hs⟩ := hI
    have q1_ := nz hcl 1 0 hD
    have q2_ := nz hcl 2 0 q1_
    have q6_ := nz hcl 6 0 q2_
    have q7_ := nz hcl 7 0 q6_
    have q8_ := nz hcl 8 0 q7_
    simp only [hD, q1_, q2_, q6_, q7_, q8_, cq] at ht hs
    subst ht
    refine g_op (v := Value.pointer (some ⟨b7, 0, none⟩)) rfl rfl rfl ?_
    show G _ _ _ _ [_,_,_,_,_,_,_,_,_,_,_,_,_,_,_,_,_,_] _
    refine hk _ _ ⟨O, ?_, hs.cast ?_⟩ <;> simp only [lq, cq, Nat.reduceBEq, q1_, q2_, q6_, q7_, q8_]
   ·
    intro D t w hD hp hcl hI rest hk
    obtain ⟨O, ht, hs⟩ := hI
    obtain ⟨p0_, _⟩ := hp
    have q2_ := nz hcl 2 0 hD
    have q6_ := nz hcl 6 0 q2_
    have q7_ := nz hcl 7 0 q6_
    have q8_ := nz hcl 8 0 q7_
    simp only [hD, p0_, q2_, q6_, q7_, q8_, cq] at ht hs
    subst ht
    refine s_load1 rfl rfl (v := Value.int .u16 a6.f_Near) rfl rfl (fun _ => rfl) (cells_load (hs.cells 0 rfl) 0 1 rfl) ?_
    show G _ _ _ _ [_,_,_,_,_,_,_,_,_,_,_,_,_,_,_,_,_,_] _
    refine hk _ _ ⟨O, ?_, hs.cast ?_⟩ <;> simp only [lq, cq, Nat.reduceBEq, p0_, q2_, q6_, q7_, q8_]
   ·
    intro D t w hD hp hcl hI rest hk
    obtain ⟨O, ht, hs⟩ := hI
    obtain ⟨p1_, _⟩ := hp
    obtain ⟨p0_, _⟩ := (hcl.get 1 (by decide)) p1_
    have q6_ := nz hcl 6 0 hD
    have q7_ := nz hcl 7 0 q6_
    have q8_ := nz hcl 8 0 q7_
    simp only [hD, p0_, p1_, q6_, q7_, q8_, cq] at ht hs
    subst ht
    refine g_op (v := Value.int .i64 (i64w a6.f_Near)) rfl rfl rfl ?_
    show G _ _ _ _ [_,_,_,_,_,_,_,_,_,_,_,_,_,_,_,_,_,_] _
    refine hk _ _ ⟨O, ?_, hs.cast ?_⟩ <;> simp only [lq, cq, Nat.reduceBEq, p0_, p1_, q6_, q7_, q8_]
   ·
    intro D t w hD hp hcl hI rest hk
    obtain ⟨O, ht, hs⟩ := hI
    have q4_ := nz hcl 4 0 hD
    have q5_ := nz hcl 5 0 q4_
    have q6_ := nz hcl 6 1 q5_
    have q7_ := nz hcl 7 0 q6_
    have q8_ := nz hcl 8 0 q7_
    simp only [hD, q4_, q5_, q6_, q7_, q8_, cq] at ht hs
    subst ht
    refine g_op (v := Value.pointer (some ⟨b2, 0, none⟩)) rfl rfl rfl ?_
    show G _ _ _ _ [_,_,_,_,_,_,_,_,_,_,_,_,_,_,_,_,_,_] _
    refine hk _ _ ⟨O, ?_, hs.cast ?_⟩ <;> simp only [lq, cq, Nat.reduceBEq, q4_, q5_, q6_, q7_, q8_]
   ·
    intro D t w hD hp hcl hI rest hk
    obtain ⟨O, ht, hs⟩ := hI
    obtain ⟨p3_, _⟩ := hp
    have q5_ := nz hcl 5 0 hD
    have q6_ := nz hcl 6 1 q5_
    have q7_ := nz hcl 7 0 q6_
    have q8_ := nz hcl 8 0 q7_
    simp only [hD, p3_, q5_, q6_, q7_, q8_, cq] at ht hs
    subst ht
    refine s_call (args := [Value.pointer (some ⟨b2, 0, none⟩)]) rfl rfl (x_call rfl (callFunc_enter Try.func30 rfl rfl) rfl) (spec_l05All.calls (a1 := (⟨a1.f_Things, a1.f_Boat, a1.f_Rules⟩ : S_impl_Ferry)) (hs.rd hr4) (hs.box hp0) Hr9) ?_
    rintro _ w ⟨rfl, hs2⟩
    have hs : St _ [_] _ := hs.call hs2
    show G _ _ _ _ [_,_,_,_,_,_,_,_,_,_,_,_,_,_,_,_,_,_] _
    refine hk _ _ ⟨O, ?_, hs.cast ?_⟩ <;> simp only [lq, cq, Nat.reduceBEq, p3_, q5_, q6_, q7_, q8_]
   ·
    intro D t w hD hp hcl hI rest hk
    obtain ⟨O, ht, hs⟩ := hI
    obtain ⟨p4_, _⟩ := hp
    obtain ⟨p3_, _⟩ := (hcl.get 4 (by decide)) p4_
    have q6_ := nz hcl 6 1 hD
    have q7_ := nz hcl 7 0 q6_
    have q8_ := nz hcl 8 0 q7_
    simp only [hD, p3_, p4_, q6_, q7_, q8_, cq] at ht hs
    subst ht
    refine g_op (v := Value.int .i64 (i64w r9)) rfl rfl rfl ?_
    show G _ _ _ _ [_,_,_,_,_,_,_,_,_,_,_,_,_,_,_,_,_,_] _
    refine hk _ _ ⟨O, ?_, hs.cast ?_⟩ <;> simp only [lq, cq, Nat.reduceBEq, p3_, p4_, q6_, q7_, q8_]
   ·
    intro D t w hD hp hcl hI rest hk
    obtain ⟨O, ht, hs⟩ := hI
    obtain ⟨p2_, p5_, _⟩ := hp
    obtain ⟨p4_, _⟩ := (hcl.get 5 (by decide)) p5_
    obtain ⟨p3_, _⟩ := (hcl.get 4 (by decide)) p4_
    obtain ⟨p1_, _⟩ := (hcl.get 2 (by decide)) p2_
    obtain ⟨p0_, _⟩ := (hcl.get 1 (by decide)) p1_
    have q7_ := nz hcl 7 0 hD
    have q8_ := nz hcl 8 0 q7_
    simp only [hD, p0_, p1_, p2_, p3_, p4_, p5_, q7_, q8_, cq] at ht hs
    subst ht
    refine g_op (v := Value.int .i64 (i64w ((i64w a6.f_Near) + (i64w r9)))) rfl rfl rfl ?_
    show G _ _ _ _ [_,_,_,_,_,_,_,_,_,_,_,_,_,_,_,_,_,_] _
    refine hk _ _ ⟨O, ?_, hs.cast ?_⟩ <;> simp only [lq, cq, Nat.reduceBEq, p0_, p1_, p2_, p3_, p4_, p5_, q7_, q8_]
   ·
    intro D t w hD hp hcl hI rest hk
    obtain ⟨O, ht, hs⟩ := hI
    obtain ⟨p6_, _⟩ := hp
    obtain ⟨p2_, p5_, _⟩ := (hcl.get 6 (by decide)) p6_
    obtain ⟨p4_, _⟩ := (hcl.get 5 (by decide)) p5_
    obtain ⟨p3_, _⟩ := (hcl.get 4 (by decide)) p4_
    obtain ⟨p1_, _⟩ := (hcl.get 2 (by decide)) p2_
    obtain ⟨p0_, _⟩ := (hcl.get 1 (by decide)) p1_
    have q8_ := nz hcl 8 0 hD
    simp only [hD, p0_, p1_, p2_, p3_, p4_, p5_, p6_, q8_, cq] at ht hs
    subst ht
    refine g_op (v := Value.int .i64 (i64w ((i64w ((i64w a6.f_Near) + (i64w r9))) + 1))) rfl rfl rfl ?_
    show G _ _ _ _ [_,_,_,_,_,_,_,_,_,_,_,_,_,_,_,_,_,_] _
    refine hk _ _ ⟨O, ?_, hs.cast ?_⟩ <;> simp only [lq, cq, Nat.reduceBEq, p0_, p1_, p2_, p3_, p4_, p5_, p6_, q8_]
   ·
    intro D t w hD hp hcl hI rest hk
    obtain ⟨O, ht, hs⟩ := hI
    obtain ⟨p7_, p4_, p0_, p1_, p2_, p3_, _, p5_, p6_, _, _⟩ := hp
    simp only [hD, p0_, p1_, p2_, p3_, p4_, p5_, p6_, p7_, cq] at ht hs
    subst ht
    refine g_op (v := Value.int .i64 (i64w ((i64w ((i64w a6.f_Near) + (i64w r9))) + 1))) rfl rfl rfl ?_
    show G _ _ _ _ [_,_,_,_,_,_,_,_,_,_,_,_,_,_,_,_,_,_] _
    refine hk _ _ ⟨O, ?_, hs.cast ?_⟩ <;> simp only [lq, cq, Nat.reduceBEq, p0_, p1_, p2_, p3_, p4_, p5_, p6_, p7_]
   intro D t w hall hI
   obtain ⟨O, ht, hs⟩ := hI
   have p0_ : D 0 = true := hall 0 (by decide)
   have p1_ : D 1 = true := hall 1 (by decide)
   have p2_ : D 2 = true := hall 2 (by decide)
   have p3_ : D 3 = true := hall 3 (by decide)
   have p4_ : D 4 = true := hall 4 (by decide)
   have p5_ : D 5 = true := hall 5 (by decide)
   have p6_ : D 6 = true := hall 6 (by decide)
   have p7_ : D 7 = true := hall 7 (by decide)
   have p8_ : D 8 = true := hall 8 (by decide)
   simp only [p0_, p1_, p2_, p3_, p4_, p5_, p6_, p7_, p8_, cq] at ht hs
   subst ht
   obtain rfl := Option.some.inj H
   refine g_ret Try.func53 (v := Value.int .i64 (i64w ((i64w ((i64w a6.f_Near) + (i64w r9))) + 1))) (res1 rfl rfl) ?_
   have hs : St _ [] _ := St.take (Γ' := [_]) hs
   exact ⟨_, rfl, rfl, hs⟩
  rw [if_neg hb1_] at H
  refine s_load1 rfl rfl (v := Value.bool false) rfl rfl (fun _ => rfl) (cells_load (hs.cells 0 rfl) 1 1 (Eq.trans (b := [Value.bool a6.f_Far]) rfl (congrArg (fun b => [Value.bool b]) (Bool.eq_false_iff.2 hb1_)))) ?_
  show G _ _ _ _ [_,_,_,_,_,_,_,_,_,_,_,_,_,_,_,_,_,_] _
  refine g_ops_nil (g_cond_false rfl (g_skip (g_seq (g_region ?_))))
  show G _ _ _ (.inRegion _ [0, 1, 2, 3] :: _) _ _
  refine g_op (v := Value.pointer (some ⟨b7, 0, none⟩)) rfl rfl rfl ?_
  show G _ _ _ _ [_,_,_,_,_,_,_,_,_,_,_,_,_,_,_,_,_,_] _
  refine s_load1 rfl rfl (v := Value.int .u16 a6.f_Near) rfl rfl (fun _ => rfl) (cells_load (hs.cells 0 rfl) 0 1 rfl) ?_
  show G _ _ _ _ [_,_,_,_,_,_,_,_,_,_,_,_,_,_,_,_,_,_] _
  refine g_op (v := Value.int .i64 (i64w a6.f_Near)) rfl rfl rfl ?_
  show G _ _ _ _ [_,_,_,_,_,_,_,_,_,_,_,_,_,_,_,_,_,_] _
  refine g_op (v := Value.int .i64 (i64w a6.f_Near)) rfl rfl rfl ?_
  show G _ _ _ _ [_,_,_,_,_,_,_,_,_,_,_,_,_,_,_,_,_,_] _
  refine g_ops_nil ?_
  obtain rfl := Option.some.inj H
  refine g_ret Try.func53 (v := Value.int .i64 (i64w a6.f_Near)) (res1 rfl rfl) ?_
  have hs : St _ [] _ := St.take (Γ' := [_]) hs
  exact ⟨_, rfl, rfl, hs⟩

/- a part of function 25 spec_l05Find -/
def spec_l05Find.post (w0 : World) (r : S_spec_l05Search) (v : Value) (w : World) : Prop := ∃ b1 : Nat, ∃ u2 : Value, ∃ u3 : Value, ∃ u4 : Value, ∃ u5 : Value, v = Value.pointer (some ⟨b1, 0, none⟩) ∧ St w0 [Cells b1 (([u2, u3, u4, u5] : List Value)) 56, Row 52 (K.int .i16) u2 r.f_table, Row 2 (K.int .i64) u3 r.f_ways, Row 2 (K.int .i64) u4 r.f_from, Row 31 (K.int .u16) u5 r.f_by] w
set_option maxHeartbeats 8000000 in
set_option maxRecDepth 100000 in
theorem spec_l05Find.seg0 {N : Nat} {a1 : S_impl_Ferry} {b2 : Nat} {v3 : Value} {b15 : Nat} {v7 : Value} {v9 : Value} {v11 : Value} {v13 : Value} {w0 : World} {r : S_spec_l05Search} (hr4 : RdRow (K.int .u16) w0 v3 a1.f_Rules) (hp0 : w0.heap[b2]? = some (.cells ((([Value.int .i8 a1.f_Things, Value.int .i8 a1.f_Boat, v3] : List Value)) : List Value).toArray 27 (0, 0))) :
    ∀ t w, (fun t w => ∃ x245 : (List Int), ∃ x247 : (List Int), ∃ x249 : (List Int), ∃ x251 : (List Int), spec_l05Find.a2 N x245 x247 x249 x251 = some r ∧ Fr t (fun O => (O 0::O 1::O 2::O 3::Value.pointer (some ⟨b15, 0, none⟩)::O 5::O 6::O 7::O 8::O 9::O 10::O 11::O 12::O 13::O 14::O 15::O 16::O 17::O 18::O 19::O 20::O 21::O 22::O 23::O 24::O 25::O 26::O 27::O 28::O 29::O 30::O 31::O 32::O 33::O 34::O 35::O 36::O 37::O 38::O 39::O 40::O 41::O 42::O 43::O 44::O 45::O 46::O 47::O 48::O 49::O 50::O 51::O 52::O 53::O 54::O 55::O 56::O 57::O 58::O 59::O 60::O 61::O 62::O 63::O 64::O 65::O 66::O 67::O 68::O 69::O 70::O 71::O 72::O 73::O 74::O 75::O 76::O 77::O 78::O 79::O 80::O 81::O 82::O 83::O 84::O 85::O 86::O 87::O 88::O 89::O 90::O 91::O 92::O 93::O 94::O 95::O 96::O 97::O 98::O 99::O 100::O 101::O 102::O 103::O 104::O 105::O 106::O 107::O 108::O 109::O 110::O 111::O 112::O 113::O 114::O 115::O 116::O 117::O 118::O 119::O 120::O 121::O 122::O 123::O 124::O 125::O 126::O 127::O 128::O 129::O 130::O 131::O 132::O 133::O 134::O 135::O 136::O 137::O 138::O 139::O 140::O 141::O 142::O 143::O 144::O 145::O 146::O 147::O 148::O 149::O 150::O 151::O 152::O 153::O 154::O 155::O 156::O 157::O 158::O 159::O 160::O 161::O 162::O 163::O 164::O 165::O 166::O 167::O 168::O 169::[] : List Value)) ∧ St w0 [Cells b15 (([v7, v9, v11, v13] : List Value)) 56, Row 52 (K.int .i16) v7 x245, Row 2 (K.int .i64) v9 x247, Row 2 (K.int .i64) v11 x249, Row 31 (K.int .u16) v13 x251] w) t w → G Try.prog 25 (fun e w => ∃ v, e = .returned v ∧ spec_l05Find.post w0 r v w) [.code (Code.at_ (Try.f25.body.getD .skip) [1, 1, 1, 1, 1, 1, 1, 1, 1])] t w := by
  rintro t w ⟨x245, x247, x249, x251, H, hf, hs⟩
  obtain ⟨O, rfl⟩ := hf.open
  try dsimp only
  unfold spec_l05Find.a2 at H
  refine g_seq (g_region ?_)
  show G _ _ _ (.inRegion _ [0, 1] :: _) _ _
  refine g_op (v := Value.pointer (some ⟨b15, 0, none⟩)) rfl rfl rfl (g_d rfl ?_)
  refine g_op (v := Value.pointer (some ⟨b15, 0, none⟩)) rfl rfl rfl (g_d rfl ?_)
  try dsimp only [set0,setS]
  refine g_ops_nil ?_
  obtain rfl := Option.some.inj H
  refine g_ret Try.func25 (v := Value.pointer (some ⟨b15, 0, none⟩)) (res1 rfl rfl) ?_
  have hs := hs.pull 4 rfl
  have hs := hs.pull 4 rfl
  have hs := hs.pull 4 rfl
  have hs := hs.pull 4 rfl
  have hs := hs.pull 4 rfl
  have hs : St _ [_,_,_,_,_] _ := St.take (Γ' := []) hs
  exact ⟨_, rfl, b15, v7, v9, v11, v13, rfl, hs⟩

end Go.Proofs.YtcaokmnajnfpiaaX
