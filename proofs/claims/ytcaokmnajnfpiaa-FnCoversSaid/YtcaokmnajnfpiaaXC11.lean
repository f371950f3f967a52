/- Contracts, printed by gen.py. -/
import Derived.Test.YtcaokmnajnfpiaaXT
import Derived.Test.YtcaokmnajnfpiaaProg
import Derived.Test.YtcaokmnajnfpiaaXRowR
import Derived.Test.YtcaokmnajnfpiaaXSq
import Derived.Test.YtcaokmnajnfpiaaXSeg
import Derived.Test.YtcaokmnajnfpiaaXKey
import Derived.Test.YtcaokmnajnfpiaaXC5
import Derived.Test.YtcaokmnajnfpiaaXC6
import Derived.Test.YtcaokmnajnfpiaaXC10
namespace Go.Proofs.YtcaokmnajnfpiaaX
open Go Go.RowKit Go.Proofs
set_option linter.unusedVariables false
set_option linter.unusedSimpArgs false
/- function 17 spec_WithoutThing -/
def spec_WithoutThing.post (w0 : World) (r : (S_impl_Ferry × Int)) (v : Value) (w : World) : Prop := ∃ u1 : Value, v = Value.tuple #[Value.agg (([Value.int .i8 r.1.f_Things, Value.int .i8 r.1.f_Boat, u1] : List Value)).toArray, Value.int .i64 r.2] ∧ St w0 [Row 31 (K.int .u16) u1 r.1.f_Rules] w
set_option maxHeartbeats 8000000 in
set_option maxRecDepth 100000 in
theorem spec_WithoutThing.calls {N : Nat} {a1 : S_impl_Ferry} {a4 : Int} {v2 : Value} {w0 : World} {r : (S_impl_Ferry × Int)} (hr3 : RdRow (K.int .u16) w0 v2 a1.f_Rules) (H : spec_WithoutThing.f N a1 a4 = some r) :
    Calls Try.prog 17 #[Value.agg (([Value.int .i8 a1.f_Things, Value.int .i8 a1.f_Boat, v2] : List Value)).toArray, Value.int .i64 a4] w0 fun e w => ∃ v, e = .returned v ∧ spec_WithoutThing.post w0 r v w := by
  unfold spec_WithoutThing.f at H
  have hs : St w0 [] w0 := St.refl w0
  refine calls_of_g (n := 72) Try.func17 rfl rfl ?_
  show G _ _ _ _ (_::_::_::_::_::_::_::_::_::_::_::_::_::_::_::_::_::_::_::_::_::_::_::_::_::_::_::_::_::_::_::_::_::_::_::_::_::_::_::_::_::_::_::_::_::_::_::_::_::_::_::_::_::_::_::_::_::_::_::_::_::_::_::_::_::_::_::_::_::_::_::_::_::_::[]) _
  refine g_seq (g_region ?_)
  show G _ _ _ (.inRegion _ [0, 1, 2] :: _) _ _
  refine s_box hs rfl rfl (cs := (([Value.int .i8 a1.f_Things, Value.int .i8 a1.f_Boat, v2] : List Value))) rfl rfl ?_
  intro b5 w hs
  refine g_d rfl ?_
  try dsimp only [set0,setS]
  refine s_alloc hs rfl rfl (z := (Value.agg #[Value.int .i8 0, Value.int .i8 0, Value.slice none 0 0])) (cs := (([Value.int .i8 0, Value.int .i8 0, Value.slice none 0 0] : List Value))) rfl (fun _ => rfl) rfl ?_
  intro b7 w hs
  refine g_d rfl ?_
  try dsimp only [set0,setS]
  refine g_op (v := Value.int .i64 0) rfl rfl rfl (g_d rfl ?_)
  try dsimp only [set0,setS]
  refine g_ops_nil (g_seq (g_seq (g_region ?_)))
  show G _ _ _ (.inRegion _ [0, 1] :: _) _ _
  obtain ⟨r9, Hr9, H⟩ := bind_get H
  refine s_call (args := [Value.pointer (some ⟨b5, 0, none⟩)]) rfl rfl (x_call rfl (callFunc_enter Try.func24 rfl rfl) rfl) (spec_l05Ok.calls (a1 := (⟨a1.f_Things, a1.f_Boat, a1.f_Rules⟩ : S_impl_Ferry)) (hs.rd hr3) (hs.cells 1 rfl) Hr9) ?_
  rintro _ w ⟨rfl, hs2⟩
  have hs : St _ [_,_] _ := hs.call hs2
  cases r9 with
  | true =>
    rw [if_pos rfl] at H
    refine g_d rfl ?_
    try dsimp only [set0,setS]
    refine g_op (v := Value.bool false) rfl rfl rfl (g_d rfl ?_)
    try dsimp only [set0,setS]
    refine g_ops_nil (g_cond_false rfl (g_skip (g_seq (g_seq (g_region ?_)))))
    show G _ _ _ (.inRegion _ [0, 1, 2, 3, 4, 5, 6] :: _) _ _
    refine g_op (v := Value.int .i64 a4) rfl rfl rfl (g_d rfl ?_)
    refine g_op (v := Value.pointer (some ⟨b5, 0, none⟩)) rfl rfl rfl (g_d rfl ?_)
    refine s_load1 rfl rfl (v := Value.int .i8 a1.f_Things) rfl rfl (fun _ => rfl) (cells_load (hs.cells 1 rfl) 0 1 rfl) (g_d rfl ?_)
    try dsimp only [set0,setS]
    refine g_op (v := Value.int .i64 (i64w a1.f_Things)) rfl rfl rfl (g_d rfl ?_)
    refine g_op (v := Value.int .i64 (i64w ((i64w a1.f_Things) - 1))) rfl rfl rfl (g_d rfl ?_)
    try dsimp only [set0,setS]
    obtain ⟨r10, Hr10, H⟩ := bind_get H
    refine s_call (args := [Value.int .i64 a4, Value.int .i64 0, Value.int .i64 (i64w ((i64w a1.f_Things) - 1))]) rfl rfl (x_call rfl (callFunc_enter Try.func40 rfl rfl) rfl) (spec_l00In.calls (a1 := a4) (a2 := 0) (a3 := i64w ((i64w a1.f_Things) - 1)) Hr10) ?_
    rintro _ w ⟨rfl, hs2⟩
    have hs : St _ [_,_] _ := hs.call hs2
    cases r10 with
    | true =>
      rw [if_pos rfl] at H
      refine g_d rfl ?_
      try dsimp only [set0,setS]
      refine g_op (v := Value.bool false) rfl rfl rfl (g_d rfl ?_)
      try dsimp only [set0,setS]
      refine g_ops_nil (g_cond_false rfl (g_skip (g_seq (g_seq (g_region ?_)))))
      show G _ _ _ (.inRegion _ [0, 1, 2] :: _) _ _
      refine g_op (v := Value.pointer (some ⟨b5, 0, none⟩)) rfl rfl rfl (g_d rfl ?_)
      refine s_load1 rfl rfl (v := Value.int .i8 a1.f_Things) rfl rfl (fun _ => rfl) (cells_load (hs.cells 1 rfl) 0 1 rfl) (g_d rfl ?_)
      try dsimp only [set0,setS]
      refine g_op_b (B := a1.f_Things == 1) rfl rfl rfl ?_ ?_
      ·
       intro hb
       rw [if_pos (b_beq_t hb)] at H
       refine g_d rfl ?_
       try dsimp only [set0,setS]
       refine g_ops_nil (g_cond_true rfl (g_seq (g_region ?_)))
       show G _ _ _ (.inRegion _ [0, 1, 2] :: _) _ _
       refine g_op (v := Value.agg (([Value.int .i8 0, Value.int .i8 0, Value.slice none 0 0] : List Value)).toArray) rfl rfl (x_buildS (cs := (([Value.int .i8 0, Value.int .i8 0, Value.slice none 0 0] : List Value))) (segs := [[Value.int .i8 0], [Value.int .i8 0], [Value.slice none 0 0]]) rfl rfl (fun _ => rfl) ⟨rfl, (fun _ => rfl), rfl, (fun _ => rfl), rfl, (fun _ => rfl), trivial⟩ (by simp) (by first | rfl | (simp [ev, encA]; done) | (simp [ev, encA]; rfl))) ?_
       refine g_d rfl ?_
       try dsimp only [set0,setS]
       refine s_storeAll (n := 3) hs rfl rfl rfl (vs := (([Value.int .i8 0, Value.int .i8 0, Value.slice none 0 0] : List Value))) rfl rfl rfl (fun _ => rfl) rfl (by simp [Value.oneCell']) ?_
       intro w hs
       refine g_n rfl ?_
       refine g_op (v := Value.int .i64 4) rfl rfl rfl (g_d rfl ?_)
       try dsimp only [set0,setS]
       refine g_ops_nil ?_
       obtain rfl := Option.some.inj H
       refine g_ret Try.func17 (v := Value.tuple #[Value.agg (([Value.int .i8 0, Value.int .i8 0, Value.slice none 0 0] : List Value)).toArray, Value.int .i64 4]) (resN (l := Try.f17.results.toList) (vs := [Value.agg (([Value.int .i8 0, Value.int .i8 0, Value.slice none 0 0] : List Value)).toArray, Value.int .i64 4]) rfl ⟨⟨_, rfl, (run_loadVar_agg (es := (([Value.int .i8 0, Value.int .i8 0, Value.slice none 0 0] : List Value))) rfl rfl (cells_all (hs.cells 0 rfl)))⟩, rfl, trivial⟩ (by simp)) ?_
       have hs := hs.nil 31 (K.int .u16)
       have hs := hs.pull 0 rfl
       have hs : St _ [_] _ := St.take (Γ' := [_,_]) hs
       exact ⟨_, rfl, (Value.slice none 0 0), rfl, hs⟩
      intro hb
      rw [if_neg (b_beq_f hb)] at H
      refine g_d rfl ?_
      try dsimp only [set0,setS]
      refine g_ops_nil (g_cond_false rfl (g_skip (g_seq ?_)))
      obtain ⟨r11, Hr11, H⟩ := bind_get H
      refine g_name ?_
      intro T hT
      refine g_any (n := 15) rfl [0, 1, 2, 3, 4, 5, 6, 7, 8, 9, 10, 11, 12, 13, 14] [0, 1, 2, 3, 4, 5, 6, 7, 8, 9, 10, 11, 12, 13, 14] rfl rfl (Inv := fun D t w => ∃ b12 : Nat, ∃ O : Nat → Value, t = (Value.agg (([Value.int .i8 a1.f_Things, Value.int .i8 a1.f_Boat, v2] : List Value)).toArray::Value.int .i64 a4::Value.pointer (some ⟨b5, 0, none⟩)::O 3::Value.pointer (some ⟨b7, 0, none⟩)::Value.int .i64 0::cnd (D 13) (Value.pointer (some ⟨b12, 0, none⟩)) (O 6)::O 7::O 8::O 9::Value.bool true::Value.bool false::O 12::Value.int .i64 a4::Value.pointer (some ⟨b5, 0, none⟩)::Value.int .i8 a1.f_Things::Value.int .i64 (i64w a1.f_Things)::Value.int .i64 (i64w ((i64w a1.f_Things) - 1))::Value.bool true::Value.bool false::O 20::Value.pointer (some ⟨b5, 0, none⟩)::Value.int .i8 a1.f_Things::Value.bool false::O 24::cnd (D 0) (Value.pointer (some ⟨b5, 0, none⟩)) (O 25)::cnd (D 1) (Value.int .i8 a1.f_Things) (O 26)::cnd (D 2) (Value.int .i8 (i8w (a1.f_Things - 1))) (O 27)::cnd (D 3) (Value.pointer (some ⟨b5, 1, none⟩)) (O 28)::cnd (D 4) (Value.int .i8 a1.f_Boat) (O 29)::cnd (D 5) (Value.int .i64 (i64w a1.f_Boat)) (O 30)::cnd (D 6) (Value.pointer (some ⟨b5, 0, none⟩)) (O 31)::cnd (D 7) (Value.int .i8 a1.f_Things) (O 32)::cnd (D 8) (Value.int .i64 (i64w a1.f_Things)) (O 33)::cnd (D 9) (Value.int .i64 (i64w ((i64w a1.f_Things) - 1))) (O 34)::cnd (D 10) (Value.int .i64 r11) (O 35)::cnd (D 11) (Value.int .i8 (i8w r11)) (O 36)::cnd (D 12) (Value.agg (([Value.int .i8 (i8w (a1.f_Things - 1)), Value.int .i8 (i8w r11), Value.slice none 0 0] : List Value)).toArray) (O 37)::O 38::O 39::O 40::O 41::O 42::O 43::O 44::O 45::O 46::O 47::O 48::O 49::O 50::O 51::O 52::O 53::O 54::O 55::O 56::O 57::O 58::O 59::O 60::O 61::O 62::O 63::O 64::O 65::O 66::O 67::O 68::O 69::O 70::O 71::O 72::O 73::[]) ∧ St w0 [Asc (D 13) (Cells b12 (cnd (D 14) (([Value.int .i8 (i8w (a1.f_Things - 1)), Value.int .i8 (i8w r11), Value.slice none 0 0] : List Value)) (([Value.int .i8 0, Value.int .i8 0, Value.slice none 0 0] : List Value))) 27), Cells b7 (([Value.int .i8 0, Value.int .i8 0, Value.slice none 0 0] : List Value)) 27, Cells b5 (([Value.int .i8 a1.f_Things, Value.int .i8 a1.f_Boat, v2] : List Value)) 27] w) ?_ ⟨⟨⟨⟨⟨⟨⟨⟨⟨⟨⟨⟨⟨⟨⟨trivial, ?_⟩, ?_⟩, ?_⟩, ?_⟩, ?_⟩, ?_⟩, ?_⟩, ?_⟩, ?_⟩, ?_⟩, ?_⟩, ?_⟩, ?_⟩, ?_⟩, ?_⟩ ?_
      ·
       intro w hh hbw
       have hs := hs.samew hh hbw
       have hs := hs.emp
       exact ⟨0, fun i => T.getD i undef, (by subst hT; rfl), hs⟩
      ·
       intro D t w hD hp hcl hI rest hk
       obtain ⟨b12, O, ht, hs⟩ := hI
       have q1_ := nz hcl 1 0 hD
       have q2_ := nz hcl 2 0 q1_
       have q12_ := nz hcl 12 0 q2_
       have q14_ := nz hcl 14 1 q12_
       simp only [hD, q1_, q2_, q12_, q14_, cq] at ht hs
       subst ht
       refine g_op (v := Value.pointer (some ⟨b5, 0, none⟩)) rfl rfl rfl (g_d rfl ?_)
       try dsimp only [set0,setS]
       refine hk _ _ ⟨b12, O, ?_, hs.cast ?_⟩ <;> simp only [lq, cq, Nat.reduceBEq, q1_, q2_, q12_, q14_]
      ·
       intro D t w hD hp hcl hI rest hk
       obtain ⟨b12, O, ht, hs⟩ := hI
       obtain ⟨p0_, _⟩ := hp
       have q2_ := nz hcl 2 0 hD
       have q12_ := nz hcl 12 0 q2_
       have q14_ := nz hcl 14 1 q12_
       simp only [hD, p0_, q2_, q12_, q14_, cq] at ht hs
       subst ht
       refine s_load1 rfl rfl (v := Value.int .i8 a1.f_Things) rfl rfl (fun _ => rfl) (cells_load (hs.cells 2 rfl) 0 1 rfl) (g_d rfl ?_)
       try dsimp only [set0,setS]
       refine hk _ _ ⟨b12, O, ?_, hs.cast ?_⟩ <;> simp only [lq, cq, Nat.reduceBEq, p0_, q2_, q12_, q14_]
      ·
       intro D t w hD hp hcl hI rest hk
       obtain ⟨b12, O, ht, hs⟩ := hI
       obtain ⟨p1_, _⟩ := hp
       obtain ⟨p0_, _⟩ := (hcl.get 1 (by decide)) p1_
       have q12_ := nz hcl 12 0 hD
       have q14_ := nz hcl 14 1 q12_
       simp only [hD, p0_, p1_, q12_, q14_, cq] at ht hs
       subst ht
       refine g_op (v := Value.int .i8 (i8w (a1.f_Things - 1))) rfl rfl rfl (g_d rfl ?_)
       try dsimp only [set0,setS]
       refine hk _ _ ⟨b12, O, ?_, hs.cast ?_⟩ <;> simp only [lq, cq, Nat.reduceBEq, p0_, p1_, q12_, q14_]
      ·
       intro D t w hD hp hcl hI rest hk
       obtain ⟨b12, O, ht, hs⟩ := hI
       have q4_ := nz hcl 4 0 hD
       have q5_ := nz hcl 5 0 q4_
       have q10_ := nz hcl 10 0 q5_
       have q11_ := nz hcl 11 0 q10_
       have q12_ := nz hcl 12 1 q11_
       have q14_ := nz hcl 14 1 q12_
       simp only [hD, q4_, q5_, q10_, q11_, q12_, q14_, cq] at ht hs
       subst ht
       refine g_op (v := Value.pointer (some ⟨b5, 1, none⟩)) rfl rfl rfl (g_d rfl ?_)
       try dsimp only [set0,setS]
       refine hk _ _ ⟨b12, O, ?_, hs.cast ?_⟩ <;> simp only [lq, cq, Nat.reduceBEq, q4_, q5_, q10_, q11_, q12_, q14_]
      ·
       intro D t w hD hp hcl hI rest hk
       obtain ⟨b12, O, ht, hs⟩ := hI
       obtain ⟨p3_, _⟩ := hp
       have q5_ := nz hcl 5 0 hD
       have q10_ := nz hcl 10 0 q5_
       have q11_ := nz hcl 11 0 q10_
       have q12_ := nz hcl 12 1 q11_
       have q14_ := nz hcl 14 1 q12_
       simp only [hD, p3_, q5_, q10_, q11_, q12_, q14_, cq] at ht hs
       subst ht
       refine s_load1 rfl rfl (v := Value.int .i8 a1.f_Boat) rfl rfl (fun _ => rfl) (cells_load (hs.cells 2 rfl) 1 1 rfl) (g_d rfl ?_)
       try dsimp only [set0,setS]
       refine hk _ _ ⟨b12, O, ?_, hs.cast ?_⟩ <;> simp only [lq, cq, Nat.reduceBEq, p3_, q5_, q10_, q11_, q12_, q14_]
      ·
       intro D t w hD hp hcl hI rest hk
       obtain ⟨b12, O, ht, hs⟩ := hI
       obtain ⟨p4_, _⟩ := hp
       obtain ⟨p3_, _⟩ := (hcl.get 4 (by decide)) p4_
       have q10_ := nz hcl 10 0 hD
       have q11_ := nz hcl 11 0 q10_
       have q12_ := nz hcl 12 1 q11_
       have q14_ := nz hcl 14 1 q12_
       simp only [hD, p3_, p4_, q10_, q11_, q12_, q14_, cq] at ht hs
       subst ht
       refine g_op (v := Value.int .i64 (i64w a1.f_Boat)) rfl rfl rfl (g_d rfl ?_)
       try dsimp only [set0,setS]
       refine hk _ _ ⟨b12, O, ?_, hs.cast ?_⟩ <;> simp only [lq, cq, Nat.reduceBEq, p3_, p4_, q10_, q11_, q12_, q14_]
      ·
       intro D t w hD hp hcl hI rest hk
       obtain ⟨b12, O, ht, hs⟩ := hI
       have q7_ := nz hcl 7 0 hD
       have q8_ := nz hcl 8 0 q7_
       have q9_ := nz hcl 9 0 q8_
       have q10_ := nz hcl 10 1 q9_
       have q11_ := nz hcl 11 0 q10_
       have q12_ := nz hcl 12 1 q11_
       have q14_ := nz hcl 14 1 q12_
       simp only [hD, q7_, q8_, q9_, q10_, q11_, q12_, q14_, cq] at ht hs
       subst ht
       refine g_op (v := Value.pointer (some ⟨b5, 0, none⟩)) rfl rfl rfl (g_d rfl ?_)
       try dsimp only [set0,setS]
       refine hk _ _ ⟨b12, O, ?_, hs.cast ?_⟩ <;> simp only [lq, cq, Nat.reduceBEq, q7_, q8_, q9_, q10_, q11_, q12_, q14_]
      ·
       intro D t w hD hp hcl hI rest hk
       obtain ⟨b12, O, ht, hs⟩ := hI
       obtain ⟨p6_, _⟩ := hp
       have q8_ := nz hcl 8 0 hD
       have q9_ := nz hcl 9 0 q8_
       have q10_ := nz hcl 10 1 q9_
       have q11_ := nz hcl 11 0 q10_
       have q12_ := nz hcl 12 1 q11_
       have q14_ := nz hcl 14 1 q12_
       simp only [hD, p6_, q8_, q9_, q10_, q11_, q12_, q14_, cq] at ht hs
       subst ht
       refine s_load1 rfl rfl (v := Value.int .i8 a1.f_Things) rfl rfl (fun _ => rfl) (cells_load (hs.cells 2 rfl) 0 1 rfl) (g_d rfl ?_)
       try dsimp only [set0,setS]
       refine hk _ _ ⟨b12, O, ?_, hs.cast ?_⟩ <;> simp only [lq, cq, Nat.reduceBEq, p6_, q8_, q9_, q10_, q11_, q12_, q14_]
      ·
       intro D t w hD hp hcl hI rest hk
       obtain ⟨b12, O, ht, hs⟩ := hI
       obtain ⟨p7_, _⟩ := hp
       obtain ⟨p6_, _⟩ := (hcl.get 7 (by decide)) p7_
       have q9_ := nz hcl 9 0 hD
       have q10_ := nz hcl 10 1 q9_
       have q11_ := nz hcl 11 0 q10_
       have q12_ := nz hcl 12 1 q11_
       have q14_ := nz hcl 14 1 q12_
       simp only [hD, p6_, p7_, q9_, q10_, q11_, q12_, q14_, cq] at ht hs
       subst ht
       refine g_op (v := Value.int .i64 (i64w a1.f_Things)) rfl rfl rfl (g_d rfl ?_)
       try dsimp only [set0,setS]
       refine hk _ _ ⟨b12, O, ?_, hs.cast ?_⟩ <;> simp only [lq, cq, Nat.reduceBEq, p6_, p7_, q9_, q10_, q11_, q12_, q14_]
      ·
       intro D t w hD hp hcl hI rest hk
       obtain ⟨b12, O, ht, hs⟩ := hI
       obtain ⟨p8_, _⟩ := hp
       obtain ⟨p7_, _⟩ := (hcl.get 8 (by decide)) p8_
       obtain ⟨p6_, _⟩ := (hcl.get 7 (by decide)) p7_
       have q10_ := nz hcl 10 1 hD
       have q11_ := nz hcl 11 0 q10_
       have q12_ := nz hcl 12 1 q11_
       have q14_ := nz hcl 14 1 q12_
       simp only [hD, p6_, p7_, p8_, q10_, q11_, q12_, q14_, cq] at ht hs
       subst ht
       refine g_op (v := Value.int .i64 (i64w ((i64w a1.f_Things) - 1))) rfl rfl rfl (g_d rfl ?_)
       try dsimp only [set0,setS]
       refine hk _ _ ⟨b12, O, ?_, hs.cast ?_⟩ <;> simp only [lq, cq, Nat.reduceBEq, p6_, p7_, p8_, q10_, q11_, q12_, q14_]
      ·
       intro D t w hD hp hcl hI rest hk
       obtain ⟨b12, O, ht, hs⟩ := hI
       obtain ⟨p5_, p9_, _⟩ := hp
       obtain ⟨p8_, _⟩ := (hcl.get 9 (by decide)) p9_
       obtain ⟨p7_, _⟩ := (hcl.get 8 (by decide)) p8_
       obtain ⟨p6_, _⟩ := (hcl.get 7 (by decide)) p7_
       obtain ⟨p4_, _⟩ := (hcl.get 5 (by decide)) p5_
       obtain ⟨p3_, _⟩ := (hcl.get 4 (by decide)) p4_
       have q11_ := nz hcl 11 0 hD
       have q12_ := nz hcl 12 1 q11_
       have q14_ := nz hcl 14 1 q12_
       simp only [hD, p3_, p4_, p5_, p6_, p7_, p8_, p9_, q11_, q12_, q14_, cq] at ht hs
       subst ht
       refine s_call (args := [Value.int .i64 (i64w a1.f_Boat), Value.int .i64 (i64w ((i64w a1.f_Things) - 1))]) rfl rfl (x_call rfl (callFunc_enter Try.func41 rfl rfl) rfl) (spec_l00Min.calls (a1 := i64w a1.f_Boat) (a2 := i64w ((i64w a1.f_Things) - 1)) Hr11) ?_
       rintro _ w ⟨rfl, hs2⟩
       have hs : St _ [_,_,_] _ := hs.call hs2
       refine g_d rfl ?_
       try dsimp only [set0,setS]
       refine hk _ _ ⟨b12, O, ?_, hs.cast ?_⟩ <;> simp only [lq, cq, Nat.reduceBEq, p3_, p4_, p5_, p6_, p7_, p8_, p9_, q11_, q12_, q14_]
      ·
       intro D t w hD hp hcl hI rest hk
       obtain ⟨b12, O, ht, hs⟩ := hI
       obtain ⟨p10_, _⟩ := hp
       obtain ⟨p5_, p9_, _⟩ := (hcl.get 10 (by decide)) p10_
       obtain ⟨p8_, _⟩ := (hcl.get 9 (by decide)) p9_
       obtain ⟨p7_, _⟩ := (hcl.get 8 (by decide)) p8_
       obtain ⟨p6_, _⟩ := (hcl.get 7 (by decide)) p7_
       obtain ⟨p4_, _⟩ := (hcl.get 5 (by decide)) p5_
       obtain ⟨p3_, _⟩ := (hcl.get 4 (by decide)) p4_
       have q12_ := nz hcl 12 1 hD
       have q14_ := nz hcl 14 1 q12_
       simp only [hD, p3_, p4_, p5_, p6_, p7_, p8_, p9_, p10_, q12_, q14_, cq] at ht hs
       subst ht
       refine g_op (v := Value.int .i8 (i8w r11)) rfl rfl rfl (g_d rfl ?_)
       try dsimp only [set0,setS]
       refine hk _ _ ⟨b12, O, ?_, hs.cast ?_⟩ <;> simp only [lq, cq, Nat.reduceBEq, p3_, p4_, p5_, p6_, p7_, p8_, p9_, p10_, q12_, q14_]
      ·
       intro D t w hD hp hcl hI rest hk
       obtain ⟨b12, O, ht, hs⟩ := hI
       obtain ⟨p2_, p11_, _⟩ := hp
       obtain ⟨p10_, _⟩ := (hcl.get 11 (by decide)) p11_
       obtain ⟨p5_, p9_, _⟩ := (hcl.get 10 (by decide)) p10_
       obtain ⟨p8_, _⟩ := (hcl.get 9 (by decide)) p9_
       obtain ⟨p7_, _⟩ := (hcl.get 8 (by decide)) p8_
       obtain ⟨p6_, _⟩ := (hcl.get 7 (by decide)) p7_
       obtain ⟨p4_, _⟩ := (hcl.get 5 (by decide)) p5_
       obtain ⟨p3_, _⟩ := (hcl.get 4 (by decide)) p4_
       obtain ⟨p1_, _⟩ := (hcl.get 2 (by decide)) p2_
       obtain ⟨p0_, _⟩ := (hcl.get 1 (by decide)) p1_
       have q14_ := nz hcl 14 1 hD
       simp only [hD, p0_, p1_, p2_, p3_, p4_, p5_, p6_, p7_, p8_, p9_, p10_, p11_, q14_, cq] at ht hs
       subst ht
       refine g_op (v := Value.agg (([Value.int .i8 (i8w (a1.f_Things - 1)), Value.int .i8 (i8w r11), Value.slice none 0 0] : List Value)).toArray) rfl rfl (x_buildS (cs := (([Value.int .i8 (i8w (a1.f_Things - 1)), Value.int .i8 (i8w r11), Value.slice none 0 0] : List Value))) (segs := [[Value.int .i8 0], [Value.int .i8 0], [Value.slice none 0 0]]) rfl rfl (fun _ => rfl) ⟨rfl, (fun _ => rfl), rfl, (fun _ => rfl), rfl, (fun _ => rfl), trivial⟩ (by simp only [List.map_cons, List.map_nil, List.forall_mem_cons, List.not_mem_nil, false_implies, implies_true, and_true]; exact ⟨⟨_, rfl, rfl⟩, ⟨_, rfl, rfl⟩⟩) (by first | rfl | (simp [ev, encA]; done) | (simp [ev, encA]; rfl))) ?_
       refine g_d rfl ?_
       try dsimp only [set0,setS]
       refine hk _ _ ⟨b12, O, ?_, hs.cast ?_⟩ <;> simp only [lq, cq, Nat.reduceBEq, p0_, p1_, p2_, p3_, p4_, p5_, p6_, p7_, p8_, p9_, p10_, p11_, q14_]
      ·
       intro D t w hD hp hcl hI rest hk
       obtain ⟨b12, O, ht, hs⟩ := hI
       have q14_ := nz hcl 14 0 hD
       simp only [hD, q14_, cq] at ht hs
       subst ht
       refine s_alloc hs rfl rfl (z := (Value.agg #[Value.int .i8 0, Value.int .i8 0, Value.slice none 0 0])) (cs := (([Value.int .i8 0, Value.int .i8 0, Value.slice none 0 0] : List Value))) rfl (fun _ => rfl) rfl ?_
       intro b12 w hs
       refine g_d rfl ?_
       try dsimp only [set0,setS]
       have hs := hs.fill 0 rfl
       refine hk _ _ ⟨b12, O, ?_, hs.cast ?_⟩ <;> simp only [lq, cq, Nat.reduceBEq, q14_]
      ·
       intro D t w hD hp hcl hI rest hk
       obtain ⟨b12, O, ht, hs⟩ := hI
       obtain ⟨p13_, p12_, p10_, p0_, p1_, p2_, p3_, p4_, p5_, p6_, p7_, p8_, p9_, _, p11_, _, _, _⟩ := hp
       simp only [hD, p0_, p1_, p2_, p3_, p4_, p5_, p6_, p7_, p8_, p9_, p10_, p11_, p12_, p13_, cq] at ht hs
       subst ht
       refine s_storeAll (n := 3) hs rfl rfl rfl (vs := (([Value.int .i8 (i8w (a1.f_Things - 1)), Value.int .i8 (i8w r11), Value.slice none 0 0] : List Value))) rfl rfl rfl (fun _ => rfl) rfl (by simp [Value.oneCell']) ?_
       intro w hs
       refine g_n rfl ?_
       try dsimp only [set0,setS]
       have hs := hs.push 0 (by simp)
       refine hk _ _ ⟨b12, O, ?_, hs.cast ?_⟩ <;> simp only [lq, cq, Nat.reduceBEq, p0_, p1_, p2_, p3_, p4_, p5_, p6_, p7_, p8_, p9_, p10_, p11_, p12_, p13_]
      intro D t w hall hI
      obtain ⟨b12, O, ht, hs⟩ := hI
      have p0_ : D 0 = true := hall 0 (by decide)
      have p1_ : D 1 = true := hall 1 (by decide)
      have p2_ : D 2 = true := hall 2 (by decide)
      have p3_ : D 3 = true := hall 3 (by decide)
      have p4_ : D 4 = true := hall 4 (by decide)
      have p5_ : D 5 = true := hall 5 (by decide)
      have p6_ : D 6 = true := hall 6 (by decide)
      have p7_ : D 7 = true := hall 7 (by decide)
      have p8_ : D 8 = true := hall 8 (by decide)
      have p9_ : D 9 = true := hall 9 (by decide)
      have p10_ : D 10 = true := hall 10 (by decide)
      have p11_ : D 11 = true := hall 11 (by decide)
      have p12_ : D 12 = true := hall 12 (by decide)
      have p13_ : D 13 = true := hall 13 (by decide)
      have p14_ : D 14 = true := hall 14 (by decide)
      simp only [p0_, p1_, p2_, p3_, p4_, p5_, p6_, p7_, p8_, p9_, p10_, p11_, p12_, p13_, p14_, cq] at ht hs
      subst ht
      refine g_seq (g_region ?_)
      show G _ _ _ (.inRegion _ [0, 1, 2, 3, 4] :: _) _ _
      refine g_op (v := Value.int .i64 a4) rfl rfl rfl (g_d rfl ?_)
      refine g_op (v := Value.int .u64 (u64w a4)) rfl rfl rfl (g_d rfl ?_)
      obtain ⟨g1, H⟩ := ite_get H
      refine g_op (v := Value.int .u16 (shlI .u16 1 (u64w a4))) rfl rfl (x_shl rfl rfl rfl g1) (g_d rfl ?_)
      try dsimp only [set0,setS]
      refine g_op (v := Value.int .u16 (u16w ((shlI .u16 1 (u64w a4)) - 1))) rfl rfl rfl (g_d rfl ?_)
      try dsimp only [set0,setS]
      refine g_op (v := Value.int .u16 (u16w ((shlI .u16 1 (u64w a4)) - 1))) rfl rfl rfl (g_d rfl ?_)
      try dsimp only [set0,setS]
      refine g_ops_nil (g_seq (g_seq (g_region ?_)))
      show G _ _ _ (.inRegion _ [0] :: _) _ _
      refine g_op (v := Value.int .i64 0) rfl rfl rfl (g_d rfl ?_)
      try dsimp only [set0,setS]
      refine g_ops_nil ?_
      obtain ⟨o1_, Ho, Hr1_⟩ := bind_get H
      refine g_block_join (J := fun t w => ∃ x39 : Int, ∃ x40 : Int, ∃ v41 : Value, ∃ x42 : (List Int), spec_WithoutThing.a0 N x39 x40 x42 = some r ∧ Fr t (fun O => (O 0::O 1::O 2::O 3::Value.pointer (some ⟨b7, 0, none⟩)::O 5::Value.pointer (some ⟨b12, 0, none⟩)::O 7::O 8::O 9::O 10::O 11::O 12::O 13::O 14::O 15::O 16::O 17::O 18::O 19::O 20::O 21::O 22::O 23::O 24::O 25::O 26::O 27::O 28::O 29::O 30::O 31::O 32::O 33::O 34::O 35::O 36::O 37::O 38::O 39::O 40::O 41::O 42::O 43::O 44::O 45::O 46::O 47::O 48::O 49::O 50::O 51::O 52::O 53::O 54::O 55::O 56::O 57::O 58::O 59::O 60::O 61::O 62::O 63::O 64::O 65::O 66::O 67::O 68::O 69::O 70::O 71::O 72::O 73::[] : List Value)) ∧ St w0 [Cells b7 (([Value.int .i8 0, Value.int .i8 0, Value.slice none 0 0] : List Value)) 27, Cells b12 (([Value.int .i8 x39, Value.int .i8 x40, v41] : List Value)) 27, Row 31 (K.int .u16) v41 x42] w) ?_ ?_
      ·
       rintro t w ⟨x39, x40, v41, x42, H, hf, hs⟩
       obtain ⟨O, rfl⟩ := hf.open
       try dsimp only
       unfold spec_WithoutThing.a0 at H
       refine g_seq (g_region ?_)
       show G _ _ _ (.inRegion _ [0, 1, 2] :: _) _ _
       refine s_loadA rfl rfl (es := (([Value.int .i8 x39, Value.int .i8 x40, v41] : List Value))) rfl rfl (fun _ => rfl) (n := 3) (fun _ => rfl) rfl (cells_all (hs.cells 1 rfl)) (g_d rfl ?_)
       try dsimp only [set0,setS]
       refine s_storeAll (n := 3) hs rfl rfl rfl (vs := (([Value.int .i8 x39, Value.int .i8 x40, v41] : List Value))) rfl rfl rfl (fun _ => rfl) rfl (by intro v hv; simp only [List.mem_append, List.mem_cons, List.not_mem_nil, or_false] at hv; repeat (first | (subst hv; first | rfl | exact slOne (hs.row 2 rfl)) | (rcases hv with hv | hv))) ?_
       intro w hs
       refine g_n rfl ?_
       refine g_op (v := Value.int .i64 0) rfl rfl rfl (g_d rfl ?_)
       try dsimp only [set0,setS]
       refine g_ops_nil ?_
       obtain rfl := Option.some.inj H
       refine g_ret Try.func17 (v := Value.tuple #[Value.agg (([Value.int .i8 x39, Value.int .i8 x40, v41] : List Value)).toArray, Value.int .i64 0]) (resN (l := Try.f17.results.toList) (vs := [Value.agg (([Value.int .i8 x39, Value.int .i8 x40, v41] : List Value)).toArray, Value.int .i64 0]) rfl ⟨⟨_, rfl, (run_loadVar_agg (es := (([Value.int .i8 x39, Value.int .i8 x40, v41] : List Value))) rfl rfl (cells_all (hs.cells 0 rfl)))⟩, rfl, trivial⟩ (by simp)) ?_
       have hs := hs.pull 2 rfl
       have hs : St _ [_] _ := St.take (Γ' := [_,_]) hs
       exact ⟨_, rfl, v41, rfl, hs⟩
      intro ha1_
      have hs := hs.nil 31 (K.int .u16)
      have hs := hs.pull 1 rfl
      have hs := hs.pull 1 rfl
      have hs := hs.pull 2 rfl
      have hs := hs.pull 3 rfl
      have hs : St _ [_,_,_,_] _ := St.take (Γ' := []) hs
      refine g_loop_fuel (I := fun n_ t w => ∃ x25 : Int, ∃ x26 : Int, ∃ v28 : Value, ∃ x29 : (List Int), ∃ x30 : Int, rounds (fun s => spec_WithoutThing.b0 N a1 a4 s.1 s.2.1 s.2.2.1 s.2.2.2) n_ (x25, x26, x29, x30) = some o1_ ∧ Fr t (fun O => (O 0::Value.int .i64 a4::Value.pointer (some ⟨b5, 0, none⟩)::O 3::Value.pointer (some ⟨b7, 0, none⟩)::O 5::Value.pointer (some ⟨b12, 0, none⟩)::Value.int .u16 (u16w ((shlI .u16 1 (u64w a4)) - 1))::Value.int .i64 x30::O 9::O 10::O 11::O 12::O 13::O 14::O 15::O 16::O 17::O 18::O 19::O 20::O 21::O 22::O 23::O 24::O 25::O 26::O 27::O 28::O 29::O 30::O 31::O 32::O 33::O 34::O 35::O 36::O 37::O 38::O 39::O 40::O 41::O 42::O 43::O 44::O 45::O 46::O 47::O 48::O 49::O 50::O 51::O 52::O 53::O 54::O 55::O 56::O 57::O 58::O 59::O 60::O 61::O 62::O 63::O 64::O 65::O 66::O 67::O 68::O 69::O 70::O 71::O 72::O 73::[] : List Value)) ∧ St w0 [Cells b5 (([Value.int .i8 a1.f_Things, Value.int .i8 a1.f_Boat, v2] : List Value)) 27, Cells b7 (([Value.int .i8 0, Value.int .i8 0, Value.slice none 0 0] : List Value)) 27, Row 31 (K.int .u16) v28 x29, Cells b12 (([Value.int .i8 x25, Value.int .i8 x26, v28] : List Value)) 27] w) N ⟨i8w (a1.f_Things - 1), i8w r11, Value.slice none 0 0, [], 0, Ho, rfl, hs⟩ ?_ ?_
      ·
       rintro _ _ ⟨x25, x26, v28, x29, x30, h, _⟩
       exact rounds_zero h
      intro n_ ih1_
      rintro t w ⟨x25, x26, v28, x29, x30, Ho, hf, hs⟩
      obtain ⟨O, rfl⟩ := hf.open
      try dsimp only
      obtain ⟨x6_, H, Hx1_⟩ := rounds_succ Ho
      have H : spec_WithoutThing.b0 N a1 a4 x25 x26 x29 x30 = some x6_ := H
      unfold spec_WithoutThing.b0 at H
      refine g_seq (g_seq (g_region ?_))
      show G _ _ _ (.inRegion _ [0, 1, 2, 3, 4] :: _) _ _
      refine g_op (v := Value.int .i64 x30) rfl rfl rfl (g_d rfl ?_)
      refine g_op (v := Value.pointer (some ⟨b5, 2, none⟩)) rfl rfl rfl (g_d rfl ?_)
      refine s_load1 rfl rfl (v := v2) rfl rfl (fun _ => rfl) (cells_load (hs.cells 0 rfl) 2 1 rfl) (g_d rfl ?_)
      try dsimp only [set0,setS]
      refine s_len (hs.rd hr3) rfl rfl rfl rfl rfl (g_d rfl ?_)
      try dsimp only [set0,setS]
      refine g_op_b (B := decide (x30 < (a1.f_Rules.length : Int))) rfl rfl rfl ?_ ?_
      ·
       intro hb
       rw [if_pos (b_dec_t hb)] at H
       refine g_d rfl ?_
       try dsimp only [set0,setS]
       refine g_ops_nil (g_cond_true rfl (g_skip (g_seq ?_)))
       refine g_block_join (J := (fun t w => ∃ v36 : Value, ∃ x37 : (List Int), spec_WithoutThing.j2 N x25 x26 x30 x37 = some x6_ ∧ Fr t (fun O => (O 0::Value.int .i64 a4::Value.pointer (some ⟨b5, 0, none⟩)::O 3::Value.pointer (some ⟨b7, 0, none⟩)::O 5::Value.pointer (some ⟨b12, 0, none⟩)::Value.int .u16 (u16w ((shlI .u16 1 (u64w a4)) - 1))::Value.int .i64 x30::O 9::O 10::O 11::O 12::O 13::O 14::O 15::O 16::O 17::O 18::O 19::O 20::O 21::O 22::O 23::O 24::O 25::O 26::O 27::O 28::O 29::O 30::O 31::O 32::O 33::O 34::O 35::O 36::O 37::O 38::O 39::O 40::O 41::O 42::O 43::O 44::O 45::O 46::O 47::O 48::O 49::O 50::O 51::O 52::O 53::O 54::O 55::O 56::O 57::O 58::O 59::O 60::O 61::O 62::O 63::O 64::O 65::O 66::O 67::O 68::O 69::O 70::O 71::O 72::O 73::[] : List Value)) ∧ St w0 [Cells b5 (([Value.int .i8 a1.f_Things, Value.int .i8 a1.f_Boat, v2] : List Value)) 27, Cells b7 (([Value.int .i8 0, Value.int .i8 0, Value.slice none 0 0] : List Value)) 27, Cells b12 (([Value.int .i8 x25, Value.int .i8 x26, v36] : List Value)) 27, Row 31 (K.int .u16) v36 x37] w)) ?_ ?_
       ·
        rintro t w ⟨v36, x37, H, hf, hs⟩
        obtain ⟨O, rfl⟩ := hf.open
        try dsimp only
        unfold spec_WithoutThing.j2 at H
        refine g_region ?_
        show G _ _ _ (.inRegion _ [0, 1, 2] :: _) _ _
        refine g_op (v := Value.int .i64 x30) rfl rfl rfl (g_d rfl ?_)
        refine g_op (v := Value.int .i64 (i64w (x30 + 1))) rfl rfl rfl (g_d rfl ?_)
        try dsimp only [set0,setS]
        refine g_op (v := Value.int .i64 (i64w (x30 + 1))) rfl rfl rfl (g_d rfl ?_)
        try dsimp only [set0,setS]
        refine g_ops_nil ?_
        obtain rfl := Option.some.inj H
        have hs := hs.pull 2 rfl
        have hs := hs.pull 3 rfl
        have hs := hs.pull 3 rfl
        have hs := hs.pull 3 rfl
        have hs : St _ [_,_,_,_] _ := St.take (Γ' := []) hs
        exact ih1_ _ _ ⟨x25, x26, v36, x37, i64w (x30 + 1), Hx1_, rfl, hs⟩
       intro ha
       refine g_seq (g_region ?_)
       show G _ _ _ (.inRegion _ [0, 1, 2, 3, 4, 5] :: _) _ _
       refine g_op (v := Value.pointer (some ⟨b5, 2, none⟩)) rfl rfl rfl (g_d rfl ?_)
       refine s_load1 rfl rfl (v := v2) rfl rfl (fun _ => rfl) (cells_load (hs.cells 0 rfl) 2 1 rfl) (g_d rfl ?_)
       try dsimp only [set0,setS]
       refine g_op (v := Value.int .i64 x30) rfl rfl rfl (g_d rfl ?_)
       obtain ⟨g4, H⟩ := ite_get H
       refine s_idx (fkI .u16) 0 (hs.rd hr3) rfl (fun _ => rfl) g4.1 g4.2 rfl rfl rfl rfl rfl ?_
       intro p31 hp31 lp31 op31
       refine g_d rfl ?_
       try dsimp only [set0,setS]
       refine s_load1 rfl rfl (v := Value.int .u16 (rdL a1.f_Rules x30 0)) rfl rfl (fun _ => rfl) hp31 (g_d rfl ?_)
       try dsimp only [set0,setS]
       refine g_op (v := Value.int .u16 (rdL a1.f_Rules x30 0)) rfl rfl rfl (g_d rfl ?_)
       try dsimp only [set0,setS]
       refine g_ops_nil (g_seq (g_region ?_))
       show G _ _ _ (.inRegion _ [0, 1, 2, 3, 4, 5] :: _) _ _
       refine g_op (v := Value.int .u16 (rdL a1.f_Rules x30 0)) rfl rfl rfl (g_d rfl ?_)
       refine g_op (v := Value.int .i64 a4) rfl rfl rfl (g_d rfl ?_)
       refine g_op (v := Value.int .u64 (u64w a4)) rfl rfl rfl (g_d rfl ?_)
       obtain ⟨g5, H⟩ := ite_get H
       refine g_op (v := Value.int .u16 (shrI .u16 (rdL a1.f_Rules x30 0) (u64w a4))) rfl rfl (x_shr rfl rfl rfl g5) (g_d rfl ?_)
       try dsimp only [set0,setS]
       refine g_op (v := Value.int .u16 ((shrI .u16 (rdL a1.f_Rules x30 0) (u64w a4)).tmod 2)) rfl rfl rfl (g_d rfl ?_)
       try dsimp only [set0,setS]
       refine g_op_b (B := ((shrI .u16 (rdL a1.f_Rules x30 0) (u64w a4)).tmod 2) == 0) rfl rfl rfl ?_ ?_
       ·
        intro hb
        rw [if_pos (b_beq_t hb)] at H
        refine g_d rfl ?_
        try dsimp only [set0,setS]
        refine g_ops_nil (g_cond_true rfl (g_region ?_))
        show G _ _ _ (.inRegion _ [0, 1, 2, 3, 4, 5, 6, 7, 8, 9, 10, 11, 12, 13] :: _) _ _
        refine g_op (v := Value.pointer (some ⟨b12, 2, none⟩)) rfl rfl rfl (g_d rfl ?_)
        refine s_load1 rfl rfl (v := v28) rfl rfl (fun _ => rfl) (cells_load (hs.cells 3 rfl) 2 1 rfl) (g_d rfl ?_)
        try dsimp only [set0,setS]
        refine g_op (v := Value.int .u16 (rdL a1.f_Rules x30 0)) rfl rfl rfl (g_d rfl ?_)
        refine g_op (v := Value.int .u16 (u16w ((shlI .u16 1 (u64w a4)) - 1))) rfl rfl rfl (g_d rfl ?_)
        refine g_op (v := Value.int .u16 (bAnd .u16 (rdL a1.f_Rules x30 0) (u16w ((shlI .u16 1 (u64w a4)) - 1)))) rfl rfl rfl (g_d rfl ?_)
        try dsimp only [set0,setS]
        refine g_op (v := Value.int .u16 (rdL a1.f_Rules x30 0)) rfl rfl rfl (g_d rfl ?_)
        refine g_op (v := Value.int .u16 (shrI .u16 (rdL a1.f_Rules x30 0) 1)) rfl rfl rfl (g_d rfl ?_)
        try dsimp only [set0,setS]
        refine g_op (v := Value.int .u16 (u16w ((shlI .u16 1 (u64w a4)) - 1))) rfl rfl rfl (g_d rfl ?_)
        refine g_op (v := Value.int .u16 (bAndNot .u16 (shrI .u16 (rdL a1.f_Rules x30 0) 1) (u16w ((shlI .u16 1 (u64w a4)) - 1)))) rfl rfl rfl (g_d rfl ?_)
        try dsimp only [set0,setS]
        refine g_op (v := Value.int .u16 (bOr .u16 (bAnd .u16 (rdL a1.f_Rules x30 0) (u16w ((shlI .u16 1 (u64w a4)) - 1))) (bAndNot .u16 (shrI .u16 (rdL a1.f_Rules x30 0) 1) (u16w ((shlI .u16 1 (u64w a4)) - 1))))) rfl rfl rfl (g_d rfl ?_)
        try dsimp only [set0,setS]
        refine s_lit1 (fkI .u16) (y := bOr .u16 (bAnd .u16 (rdL a1.f_Rules x30 0) (u16w ((shlI .u16 1 (u64w a4)) - 1))) (bAndNot .u16 (shrI .u16 (rdL a1.f_Rules x30 0) 1) (u16w ((shlI .u16 1 (u64w a4)) - 1)))) hs rfl rfl rfl rfl (fun _ => rfl) (zv := (Value.int .u16 0)) (fun _ => rfl) rfl (by decide) (by decide) rfl ?_
        intro v32 w hs
        refine g_d rfl ?_
        try dsimp only [set0,setS]
        have hs := hs.pull 3 rfl
        have hs : St _ [_,_,_,_,_] _ := hs
        obtain ⟨g, H⟩ := ite_get H
        refine s_append (fkI .u16) (zv := (Value.int .u16 0)) (B := 2) hs (hs.row 1 rfl) rfl rfl rfl rfl rfl rfl rfl rfl rfl (by decide) rfl rfl (by decide) (by omega) ?_
        intro v34 w hs
        refine g_d rfl ?_
        try dsimp only [set0,setS]
        refine g_op (v := Value.pointer (some ⟨b12, 2, none⟩)) rfl rfl rfl (g_d rfl ?_)
        have hs := hs.pull 4 rfl
        have hs : St _ [_,_,_,_,_] _ := hs
        refine s_store hs rfl rfl (vs := [v34]) (cs' := (([Value.int .i8 x25, Value.int .i8 x26, v34] : List Value))) rfl rfl (slCells (hs.row 1 rfl)) (n := 1) (fun _ => rfl) rfl (by first | exact Nat.le_of_ble_eq_true rfl | simp [encAI_len, encAB_len, encA_len]) (by intro v hv; simp only [List.mem_cons, List.not_mem_nil, or_false] at hv; subst hv; exact slOne (hs.row 1 rfl)) rfl ?_
        intro w hs
        refine g_n rfl (g_ops_nil ?_)
        refine g_inBlock ?_
        have hs := hs.pull 1 rfl
        have hs := hs.pull 1 rfl
        have hs := hs.pull 4 rfl
        have hs := hs.pull 4 rfl
        have hs : St _ [_,_,_,_] _ := St.take (Γ' := [_]) hs
        exact ha _ _ ⟨v34, x29 ++ ([bOr .u16 (bAnd .u16 (rdL a1.f_Rules x30 0) (u16w ((shlI .u16 1 (u64w a4)) - 1))) (bAndNot .u16 (shrI .u16 (rdL a1.f_Rules x30 0) 1) (u16w ((shlI .u16 1 (u64w a4)) - 1)))]), H, rfl, hs⟩
       intro hb
       rw [if_neg (b_beq_f hb)] at H
       refine g_d rfl ?_
       try dsimp only [set0,setS]
       refine g_ops_nil (g_cond_false rfl (g_skip ?_))
       refine g_inBlock ?_
       have hs := hs.pull 2 rfl
       have hs := hs.pull 3 rfl
       have hs := hs.pull 3 rfl
       have hs := hs.pull 3 rfl
       have hs : St _ [_,_,_,_] _ := St.take (Γ' := []) hs
       exact ha _ _ ⟨v28, x29, H, rfl, hs⟩
      intro hb
      rw [if_neg (b_dec_f hb)] at H
      refine g_d rfl ?_
      try dsimp only [set0,setS]
      refine g_ops_nil (g_cond_false rfl ?_)
      obtain rfl := Option.some.inj H
      subst Hx1_
      have hs := hs.pull 2 rfl
      have hs := hs.pull 3 rfl
      have hs := hs.pull 3 rfl
      have hs : St _ [_,_,_] _ := St.take (Γ' := [_]) hs
      refine g_exit rfl ?_
      exact ha1_ _ _ ⟨x25, x26, v28, x29, Hr1_, rfl, hs⟩
    | false =>
      rw [if_neg Bool.false_ne_true] at H
      refine g_d rfl ?_
      try dsimp only [set0,setS]
      refine g_op (v := Value.bool true) rfl rfl rfl (g_d rfl ?_)
      try dsimp only [set0,setS]
      refine g_ops_nil (g_cond_true rfl (g_seq (g_region ?_)))
      show G _ _ _ (.inRegion _ [0, 1, 2] :: _) _ _
      refine g_op (v := Value.agg (([Value.int .i8 0, Value.int .i8 0, Value.slice none 0 0] : List Value)).toArray) rfl rfl (x_buildS (cs := (([Value.int .i8 0, Value.int .i8 0, Value.slice none 0 0] : List Value))) (segs := [[Value.int .i8 0], [Value.int .i8 0], [Value.slice none 0 0]]) rfl rfl (fun _ => rfl) ⟨rfl, (fun _ => rfl), rfl, (fun _ => rfl), rfl, (fun _ => rfl), trivial⟩ (by simp) (by first | rfl | (simp [ev, encA]; done) | (simp [ev, encA]; rfl))) ?_
      refine g_d rfl ?_
      try dsimp only [set0,setS]
      refine s_storeAll (n := 3) hs rfl rfl rfl (vs := (([Value.int .i8 0, Value.int .i8 0, Value.slice none 0 0] : List Value))) rfl rfl rfl (fun _ => rfl) rfl (by simp [Value.oneCell']) ?_
      intro w hs
      refine g_n rfl ?_
      refine g_op (v := Value.int .i64 2) rfl rfl rfl (g_d rfl ?_)
      try dsimp only [set0,setS]
      refine g_ops_nil ?_
      obtain rfl := Option.some.inj H
      refine g_ret Try.func17 (v := Value.tuple #[Value.agg (([Value.int .i8 0, Value.int .i8 0, Value.slice none 0 0] : List Value)).toArray, Value.int .i64 2]) (resN (l := Try.f17.results.toList) (vs := [Value.agg (([Value.int .i8 0, Value.int .i8 0, Value.slice none 0 0] : List Value)).toArray, Value.int .i64 2]) rfl ⟨⟨_, rfl, (run_loadVar_agg (es := (([Value.int .i8 0, Value.int .i8 0, Value.slice none 0 0] : List Value))) rfl rfl (cells_all (hs.cells 0 rfl)))⟩, rfl, trivial⟩ (by simp)) ?_
      have hs := hs.nil 31 (K.int .u16)
      have hs := hs.pull 0 rfl
      have hs : St _ [_] _ := St.take (Γ' := [_,_]) hs
      exact ⟨_, rfl, (Value.slice none 0 0), rfl, hs⟩
  | false =>
    rw [if_neg Bool.false_ne_true] at H
    refine g_d rfl ?_
    try dsimp only [set0,setS]
    refine g_op (v := Value.bool true) rfl rfl rfl (g_d rfl ?_)
    try dsimp only [set0,setS]
    refine g_ops_nil (g_cond_true rfl (g_seq (g_region ?_)))
    show G _ _ _ (.inRegion _ [0, 1, 2] :: _) _ _
    refine g_op (v := Value.agg (([Value.int .i8 0, Value.int .i8 0, Value.slice none 0 0] : List Value)).toArray) rfl rfl (x_buildS (cs := (([Value.int .i8 0, Value.int .i8 0, Value.slice none 0 0] : List Value))) (segs := [[Value.int .i8 0], [Value.int .i8 0], [Value.slice none 0 0]]) rfl rfl (fun _ => rfl) ⟨rfl, (fun _ => rfl), rfl, (fun _ => rfl), rfl, (fun _ => rfl), trivial⟩ (by simp) (by first | rfl | (simp [ev, encA]; done) | (simp [ev, encA]; rfl))) ?_
    refine g_d rfl ?_
    try dsimp only [set0,setS]
    refine s_storeAll (n := 3) hs rfl rfl rfl (vs := (([Value.int .i8 0, Value.int .i8 0, Value.slice none 0 0] : List Value))) rfl rfl rfl (fun _ => rfl) rfl (by simp [Value.oneCell']) ?_
    intro w hs
    refine g_n rfl ?_
    refine g_op (v := Value.int .i64 1) rfl rfl rfl (g_d rfl ?_)
    try dsimp only [set0,setS]
    refine g_ops_nil ?_
    obtain rfl := Option.some.inj H
    refine g_ret Try.func17 (v := Value.tuple #[Value.agg (([Value.int .i8 0, Value.int .i8 0, Value.slice none 0 0] : List Value)).toArray, Value.int .i64 1]) (resN (l := Try.f17.results.toList) (vs := [Value.agg (([Value.int .i8 0, Value.int .i8 0, Value.slice none 0 0] : List Value)).toArray, Value.int .i64 1]) rfl ⟨⟨_, rfl, (run_loadVar_agg (es := (([Value.int .i8 0, Value.int .i8 0, Value.slice none 0 0] : List Value))) rfl rfl (cells_all (hs.cells 0 rfl)))⟩, rfl, trivial⟩ (by simp)) ?_
    have hs := hs.nil 31 (K.int .u16)
    have hs := hs.pull 0 rfl
    have hs : St _ [_] _ := St.take (Γ' := [_,_]) hs
    exact ⟨_, rfl, (Value.slice none 0 0), rfl, hs⟩

/- function 60 impl_letter -/
def impl_letter.post (w0 : World) (r : ByteArray) (v : Value) (w : World) : Prop := v = Value.string r ∧ St w0 [] w
set_option maxHeartbeats 8000000 in
set_option maxRecDepth 100000 in
theorem impl_letter.calls {N : Nat} {a1 : Int} {w0 : World} {r : ByteArray} (H : impl_letter.f N a1 = some r) :
    Calls Try.prog 60 #[Value.int .i8 a1] w0 fun e w => ∃ v, e = .returned v ∧ impl_letter.post w0 r v w := by
  unfold impl_letter.f at H
  have hs : St w0 [] w0 := St.refl w0
  refine calls_of_g (n := 7) Try.func60 rfl rfl ?_
  show G _ _ _ _ [_,_,_,_,_,_,_,_] _
  refine g_seq (g_region ?_)
  show G _ _ _ (.inRegion _ [0] :: _) _ _
  refine g_op (v := Value.string (⟨#[]⟩ : ByteArray)) rfl rfl rfl ?_
  show G _ _ _ _ [_,_,_,_,_,_,_,_] _
  refine g_ops_nil (g_seq (g_region ?_))
  show G _ _ _ (.inRegion _ [0, 1, 2, 3, 4, 5] :: _) _ _
  refine g_op (v := Value.int .i8 a1) rfl rfl rfl ?_
  show G _ _ _ _ [_,_,_,_,_,_,_,_] _
  refine g_op (v := Value.int .i8 (i8w (97 + a1))) rfl rfl rfl ?_
  show G _ _ _ _ [_,_,_,_,_,_,_,_] _
  refine g_op (v := Value.int .u8 (u8w (i8w (97 + a1)))) rfl rfl rfl ?_
  show G _ _ _ _ [_,_,_,_,_,_,_,_] _
  refine s_lit1 (fkI .u8) (y := u8w (i8w (97 + a1))) hs rfl rfl rfl rfl (fun _ => rfl) (zv := (Value.int .u8 0)) (fun _ => rfl) rfl (by decide) (by decide) rfl ?_
  intro v2 w hs
  show G _ _ _ _ [_,_,_,_,_,_,_,_] _
  refine g_op (v := Value.string (bsOf ([u8w (i8w (97 + a1))]))) rfl rfl (x_string rfl rfl rfl rfl rfl (hs.row 0 rfl)) ?_
  show G _ _ _ _ [_,_,_,_,_,_,_,_] _
  refine g_op (v := Value.string (bsOf ([u8w (i8w (97 + a1))]))) rfl rfl rfl ?_
  show G _ _ _ _ [_,_,_,_,_,_,_,_] _
  refine g_ops_nil ?_
  obtain rfl := Option.some.inj H
  refine g_ret Try.func60 (v := Value.string (bsOf ([u8w (i8w (97 + a1))]))) (res1 rfl rfl) ?_
  have hs : St _ [] _ := St.take (Γ' := [_]) hs
  exact ⟨_, rfl, rfl, hs⟩

/- function 43 impl_setText -/
def impl_setText.post (w0 : World) (r : ByteArray) (v : Value) (w : World) : Prop := v = Value.string r ∧ St w0 [] w
set_option maxHeartbeats 8000000 in
set_option maxRecDepth 100000 in
theorem impl_setText.calls {N : Nat} {a1 : Int} {w0 : World} {r : ByteArray} (H : impl_setText.f N a1 = some r) :
    Calls Try.prog 43 #[Value.int .u64 a1] w0 fun e w => ∃ v, e = .returned v ∧ impl_setText.post w0 r v w := by
  unfold impl_setText.f at H
  have hs : St w0 [] w0 := St.refl w0
  refine calls_of_g (n := 20) Try.func43 rfl rfl ?_
  show G _ _ _ _ [_,_,_,_,_,_,_,_,_,_,_,_,_,_,_,_,_,_,_,_,_] _
  refine g_seq (g_region ?_)
  show G _ _ _ (.inRegion _ [0] :: _) _ _
  refine g_op (v := Value.string (⟨#[]⟩ : ByteArray)) rfl rfl rfl ?_
  show G _ _ _ _ [_,_,_,_,_,_,_,_,_,_,_,_,_,_,_,_,_,_,_,_,_] _
  refine g_ops_nil (g_seq (g_seq (g_region ?_)))
  show G _ _ _ (.inRegion _ [0, 1] :: _) _ _
  refine g_op (v := Value.int .u64 a1) rfl rfl rfl ?_
  show G _ _ _ _ [_,_,_,_,_,_,_,_,_,_,_,_,_,_,_,_,_,_,_,_,_] _
  refine g_op_b (B := a1 == 0) rfl rfl rfl ?_ ?_
  ·
   intro hb
   rw [if_pos (b_beq_t hb)] at H
   show G _ _ _ _ [_,_,_,_,_,_,_,_,_,_,_,_,_,_,_,_,_,_,_,_,_] _
   refine g_ops_nil (g_cond_true rfl (g_seq (g_region ?_)))
   show G _ _ _ (.inRegion _ [0] :: _) _ _
   refine g_op (v := Value.string (⟨#[45]⟩ : ByteArray)) rfl rfl rfl ?_
   show G _ _ _ _ [_,_,_,_,_,_,_,_,_,_,_,_,_,_,_,_,_,_,_,_,_] _
   refine g_ops_nil ?_
   obtain rfl := Option.some.inj H
   refine g_ret Try.func43 (v := Value.string (⟨#[45]⟩ : ByteArray)) (res1 rfl rfl) ?_
   have hs : St _ [] _ := St.take (Γ' := []) hs
   exact ⟨_, rfl, rfl, hs⟩
  intro hb
  rw [if_neg (b_beq_f hb)] at H
  show G _ _ _ _ [_,_,_,_,_,_,_,_,_,_,_,_,_,_,_,_,_,_,_,_,_] _
  refine g_ops_nil (g_cond_false rfl (g_skip (g_seq (g_region ?_))))
  show G _ _ _ (.inRegion _ [0] :: _) _ _
  refine g_op (v := Value.string (⟨#[]⟩ : ByteArray)) rfl rfl rfl ?_
  show G _ _ _ _ [_,_,_,_,_,_,_,_,_,_,_,_,_,_,_,_,_,_,_,_,_] _
  refine g_ops_nil (g_seq (g_seq (g_region ?_)))
  show G _ _ _ (.inRegion _ [0] :: _) _ _
  refine g_op (v := Value.int .i8 0) rfl rfl rfl ?_
  show G _ _ _ _ [_,_,_,_,_,_,_,_,_,_,_,_,_,_,_,_,_,_,_,_,_] _
  refine g_ops_nil ?_
  obtain ⟨o1_, Ho, Hr1_⟩ := bind_get H
  refine g_block_join (J := fun t w => ∃ x6 : ByteArray, impl_setText.a0 N x6 = some r ∧ Fr t (fun O => ([O 0, O 1, O 2, Value.string x6, O 4, O 5, O 6, O 7, O 8, O 9, O 10, O 11, O 12, O 13, O 14, O 15, O 16, O 17, O 18, O 19, O 20] : List Value)) ∧ St w0 [] w) ?_ ?_
  ·
   rintro t w ⟨x6, H, hf, hs⟩
   obtain ⟨O, rfl⟩ := hf.open
   show G _ _ _ _ [_,_,_,_,_,_,_,_,_,_,_,_,_,_,_,_,_,_,_,_,_] _
   unfold impl_setText.a0 at H
   refine g_seq (g_region ?_)
   show G _ _ _ (.inRegion _ [0, 1] :: _) _ _
   refine g_op (v := Value.string x6) rfl rfl rfl ?_
   show G _ _ _ _ [_,_,_,_,_,_,_,_,_,_,_,_,_,_,_,_,_,_,_,_,_] _
   refine g_op (v := Value.string x6) rfl rfl rfl ?_
   show G _ _ _ _ [_,_,_,_,_,_,_,_,_,_,_,_,_,_,_,_,_,_,_,_,_] _
   refine g_ops_nil ?_
   obtain rfl := Option.some.inj H
   refine g_ret Try.func43 (v := Value.string x6) (res1 rfl rfl) ?_
   have hs : St _ [] _ := St.take (Γ' := []) hs
   exact ⟨_, rfl, rfl, hs⟩
  intro ha1_
  have hs : St _ [] _ := St.take (Γ' := []) hs
  refine g_loop_fuel (I := fun n_ t w => ∃ x2 : ByteArray, ∃ x3 : Int, rounds (fun s => impl_setText.b0 N a1 s.1 s.2) n_ (x2, x3) = some o1_ ∧ Fr t (fun O => ([Value.int .u64 a1, O 1, O 2, Value.string x2, O 4, O 5, O 6, Value.int .i8 x3, O 8, O 9, O 10, O 11, O 12, O 13, O 14, O 15, O 16, O 17, O 18, O 19, O 20] : List Value)) ∧ St w0 [] w) N ⟨(⟨#[]⟩ : ByteArray), 0, Ho, rfl, hs⟩ ?_ ?_
  ·
   rintro _ _ ⟨x2, x3, h, _⟩
   exact rounds_zero h
  intro n_ ih1_
  rintro t w ⟨x2, x3, Ho, hf, hs⟩
  obtain ⟨O, rfl⟩ := hf.open
  show G _ _ _ _ [_,_,_,_,_,_,_,_,_,_,_,_,_,_,_,_,_,_,_,_,_] _
  obtain ⟨x3_, H, Hx1_⟩ := rounds_succ Ho
  have H : impl_setText.b0 N a1 x2 x3 = some x3_ := H
  unfold impl_setText.b0 at H
  refine g_seq (g_region ?_)
  show G _ _ _ (.inRegion _ [0] :: _) _ _
  refine g_op_b (B := decide (x3 < 64)) rfl rfl rfl ?_ ?_
  ·
   intro hb
   rw [if_pos (b_dec_t hb)] at H
   show G _ _ _ _ [_,_,_,_,_,_,_,_,_,_,_,_,_,_,_,_,_,_,_,_,_] _
   refine g_ops_nil (g_seq (g_cond_true rfl (g_skip (g_seq ?_))))
   refine g_block_join (J := (fun t w => ∃ x5 : ByteArray, impl_setText.j2 N x3 x5 = some x3_ ∧ Fr t (fun O => ([Value.int .u64 a1, O 1, O 2, Value.string x5, O 4, O 5, O 6, Value.int .i8 x3, O 8, O 9, O 10, O 11, O 12, O 13, O 14, O 15, O 16, O 17, O 18, O 19, O 20] : List Value)) ∧ St w0 [] w)) ?_ ?_
   ·
    rintro t w ⟨x5, H, hf, hs⟩
    obtain ⟨O, rfl⟩ := hf.open
    show G _ _ _ _ [_,_,_,_,_,_,_,_,_,_,_,_,_,_,_,_,_,_,_,_,_] _
    unfold impl_setText.j2 at H
    refine g_region ?_
    show G _ _ _ (.inRegion _ [0, 1] :: _) _ _
    refine g_op (v := Value.int .i8 (i8w (x3 + 1))) rfl rfl rfl ?_
    show G _ _ _ _ [_,_,_,_,_,_,_,_,_,_,_,_,_,_,_,_,_,_,_,_,_] _
    refine g_op (v := Value.int .i8 (i8w (x3 + 1))) rfl rfl rfl ?_
    show G _ _ _ _ [_,_,_,_,_,_,_,_,_,_,_,_,_,_,_,_,_,_,_,_,_] _
    refine g_ops_nil ?_
    obtain rfl := Option.some.inj H
    have hs : St _ [] _ := St.take (Γ' := []) hs
    exact ih1_ _ _ ⟨x5, i8w (x3 + 1), Hx1_, rfl, hs⟩
   intro ha
   refine g_seq (g_region ?_)
   show G _ _ _ (.inRegion _ [0, 1] :: _) _ _
   refine g_op (v := Value.int .i8 x3) rfl rfl rfl ?_
   show G _ _ _ _ [_,_,_,_,_,_,_,_,_,_,_,_,_,_,_,_,_,_,_,_,_] _
   refine g_op (v := Value.int .i8 x3) rfl rfl rfl ?_
   show G _ _ _ _ [_,_,_,_,_,_,_,_,_,_,_,_,_,_,_,_,_,_,_,_,_] _
   refine g_ops_nil (g_seq (g_region ?_))
   show G _ _ _ (.inRegion _ [0, 1, 2, 3, 4] :: _) _ _
   refine g_op (v := Value.int .u64 a1) rfl rfl rfl ?_
   show G _ _ _ _ [_,_,_,_,_,_,_,_,_,_,_,_,_,_,_,_,_,_,_,_,_] _
   refine g_op (v := Value.int .i8 x3) rfl rfl rfl ?_
   show G _ _ _ _ [_,_,_,_,_,_,_,_,_,_,_,_,_,_,_,_,_,_,_,_,_] _
   obtain ⟨g1, H⟩ := ite_get H
   refine g_op (v := Value.int .u64 (shrI .u64 a1 x3)) rfl rfl (x_shr rfl rfl rfl g1) ?_
   show G _ _ _ _ [_,_,_,_,_,_,_,_,_,_,_,_,_,_,_,_,_,_,_,_,_] _
   refine g_op (v := Value.int .u64 (bAnd .u64 (shrI .u64 a1 x3) 1)) rfl rfl rfl ?_
   show G _ _ _ _ [_,_,_,_,_,_,_,_,_,_,_,_,_,_,_,_,_,_,_,_,_] _
   refine g_op_b (B := (bAnd .u64 (shrI .u64 a1 x3) 1) == 1) rfl rfl rfl ?_ ?_
   ·
    intro hb
    rw [if_pos (b_beq_t hb)] at H
    show G _ _ _ _ [_,_,_,_,_,_,_,_,_,_,_,_,_,_,_,_,_,_,_,_,_] _
    refine g_ops_nil (g_cond_true rfl (g_region ?_))
    show G _ _ _ (.inRegion _ [0, 1, 2, 3, 4] :: _) _ _
    refine g_op (v := Value.string x2) rfl rfl rfl ?_
    show G _ _ _ _ [_,_,_,_,_,_,_,_,_,_,_,_,_,_,_,_,_,_,_,_,_] _
    refine g_op (v := Value.int .i8 x3) rfl rfl rfl ?_
    show G _ _ _ _ [_,_,_,_,_,_,_,_,_,_,_,_,_,_,_,_,_,_,_,_,_] _
    obtain ⟨r4, Hr4, H⟩ := bind_get H
    refine s_call (args := [Value.int .i8 x3]) rfl rfl (x_call rfl (callFunc_enter Try.func60 rfl rfl) rfl) (impl_letter.calls (a1 := x3) Hr4) ?_
    rintro _ w ⟨rfl, hs2⟩
    have hs : St _ [] _ := hs.call hs2
    show G _ _ _ _ [_,_,_,_,_,_,_,_,_,_,_,_,_,_,_,_,_,_,_,_,_] _
    obtain ⟨gs2, H⟩ := ite_get H
    refine g_op (v := Value.string (x2 ++ r4)) rfl rfl (x_cat rfl rfl rfl gs2) ?_
    show G _ _ _ _ [_,_,_,_,_,_,_,_,_,_,_,_,_,_,_,_,_,_,_,_,_] _
    refine g_op (v := Value.string (x2 ++ r4)) rfl rfl rfl ?_
    show G _ _ _ _ [_,_,_,_,_,_,_,_,_,_,_,_,_,_,_,_,_,_,_,_,_] _
    refine g_ops_nil ?_
    refine g_inBlock ?_
    have hs : St _ [] _ := St.take (Γ' := []) hs
    exact ha _ _ ⟨x2 ++ r4, H, rfl, hs⟩
   intro hb
   rw [if_neg (b_beq_f hb)] at H
   show G _ _ _ _ [_,_,_,_,_,_,_,_,_,_,_,_,_,_,_,_,_,_,_,_,_] _
   refine g_ops_nil (g_cond_false rfl (g_skip ?_))
   refine g_inBlock ?_
   have hs : St _ [] _ := St.take (Γ' := []) hs
   exact ha _ _ ⟨x2, H, rfl, hs⟩
  intro hb
  rw [if_neg (b_dec_f hb)] at H
  show G _ _ _ _ [_,_,_,_,_,_,_,_,_,_,_,_,_,_,_,_,_,_,_,_,_] _
  refine g_ops_nil (g_seq (g_cond_false rfl ?_))
  obtain rfl := Option.some.inj H
  subst Hx1_
  have hs : St _ [] _ := St.take (Γ' := []) hs
  refine g_exit rfl ?_
  exact ha1_ _ _ ⟨x2, Hr1_, rfl, hs⟩

/- function 19 impl_ThingsText -/
def impl_ThingsText.post (w0 : World) (r : ByteArray) (v : Value) (w : World) : Prop := v = Value.string r ∧ St w0 [] w
set_option maxHeartbeats 8000000 in
set_option maxRecDepth 100000 in
theorem impl_ThingsText.calls {N : Nat} {a1 : Int} {w0 : World} {r : ByteArray} (H : impl_ThingsText.f N a1 = some r) :
    Calls Try.prog 19 #[Value.int .u16 a1] w0 fun e w => ∃ v, e = .returned v ∧ impl_ThingsText.post w0 r v w := by
  unfold impl_ThingsText.f at H
  have hs : St w0 [] w0 := St.refl w0
  refine calls_of_g (n := 7) Try.func19 rfl rfl ?_
  show G _ _ _ _ [_,_,_,_,_,_,_,_] _
  refine g_seq (g_region ?_)
  show G _ _ _ (.inRegion _ [0] :: _) _ _
  refine g_op (v := Value.string (⟨#[]⟩ : ByteArray)) rfl rfl rfl ?_
  show G _ _ _ _ [_,_,_,_,_,_,_,_] _
  refine g_ops_nil (g_seq (g_seq (g_region ?_)))
  show G _ _ _ (.inRegion _ [0, 1] :: _) _ _
  refine g_op (v := Value.int .u16 a1) rfl rfl rfl ?_
  show G _ _ _ _ [_,_,_,_,_,_,_,_] _
  refine g_op_b (B := decide (a1 ≥ 256)) rfl rfl rfl ?_ ?_
  ·
   intro hb
   rw [if_pos (b_dec_t hb)] at H
   show G _ _ _ _ [_,_,_,_,_,_,_,_] _
   refine g_ops_nil (g_cond_true rfl (g_seq (g_region ?_)))
   show G _ _ _ (.inRegion _ [0] :: _) _ _
   refine g_op (v := Value.string (⟨#[]⟩ : ByteArray)) rfl rfl rfl ?_
   show G _ _ _ _ [_,_,_,_,_,_,_,_] _
   refine g_ops_nil ?_
   obtain rfl := Option.some.inj H
   refine g_ret Try.func19 (v := Value.string (⟨#[]⟩ : ByteArray)) (res1 rfl rfl) ?_
   have hs : St _ [] _ := St.take (Γ' := []) hs
   exact ⟨_, rfl, rfl, hs⟩
  intro hb
  rw [if_neg (b_dec_f hb)] at H
  show G _ _ _ _ [_,_,_,_,_,_,_,_] _
  refine g_ops_nil (g_cond_false rfl (g_skip (g_seq (g_region ?_))))
  show G _ _ _ (.inRegion _ [0, 1, 2, 3] :: _) _ _
  refine g_op (v := Value.int .u16 a1) rfl rfl rfl ?_
  show G _ _ _ _ [_,_,_,_,_,_,_,_] _
  refine g_op (v := Value.int .u64 (u64w a1)) rfl rfl rfl ?_
  show G _ _ _ _ [_,_,_,_,_,_,_,_] _
  obtain ⟨r2, Hr2, H⟩ := bind_get H
  refine s_call (args := [Value.int .u64 (u64w a1)]) rfl rfl (x_call rfl (callFunc_enter Try.func43 rfl rfl) rfl) (impl_setText.calls (a1 := u64w a1) Hr2) ?_
  rintro _ w ⟨rfl, hs2⟩
  have hs : St _ [] _ := hs.call hs2
  show G _ _ _ _ [_,_,_,_,_,_,_,_] _
  refine g_op (v := Value.string r2) rfl rfl rfl ?_
  show G _ _ _ _ [_,_,_,_,_,_,_,_] _
  refine g_ops_nil ?_
  obtain rfl := Option.some.inj H
  refine g_ret Try.func19 (v := Value.string r2) (res1 rfl rfl) ?_
  have hs : St _ [] _ := St.take (Γ' := []) hs
  exact ⟨_, rfl, rfl, hs⟩

/- function 42 impl_readSet -/
def impl_readSet.post (w0 : World) (r : (Int × Bool)) (v : Value) (w : World) : Prop := v = Value.tuple #[Value.int .u64 r.1, Value.bool r.2] ∧ St w0 [] w
set_option maxHeartbeats 8000000 in
set_option maxRecDepth 100000 in
theorem impl_readSet.calls {N : Nat} {a1 : ByteArray} {a2 : Int} {w0 : World} {r : (Int × Bool)} (H : impl_readSet.f N a1 a2 = some r) :
    Calls Try.prog 42 #[Value.string a1, Value.int .i64 a2] w0 fun e w => ∃ v, e = .returned v ∧ impl_readSet.post w0 r v w := by
  unfold impl_readSet.f at H
  have hs : St w0 [] w0 := St.refl w0
  refine calls_of_g (n := 34) Try.func42 rfl rfl ?_
  show G _ _ _ _ [_,_,_,_,_,_,_,_,_,_,_,_,_,_,_,_,_,_,_,_,_,_,_,_,_,_,_,_,_,_,_,_,_,_,_,_] _
  refine g_seq (g_region ?_)
  show G _ _ _ (.inRegion _ [0, 1] :: _) _ _
  refine g_op (v := Value.int .u64 0) rfl rfl rfl ?_
  show G _ _ _ _ [_,_,_,_,_,_,_,_,_,_,_,_,_,_,_,_,_,_,_,_,_,_,_,_,_,_,_,_,_,_,_,_,_,_,_,_] _
  refine g_op (v := Value.bool false) rfl rfl rfl ?_
  show G _ _ _ _ [_,_,_,_,_,_,_,_,_,_,_,_,_,_,_,_,_,_,_,_,_,_,_,_,_,_,_,_,_,_,_,_,_,_,_,_] _
  refine g_ops_nil (g_seq (g_region ?_))
  show G _ _ _ (.inRegion _ [0] :: _) _ _
  refine g_op (v := Value.int .u64 0) rfl rfl rfl ?_
  show G _ _ _ _ [_,_,_,_,_,_,_,_,_,_,_,_,_,_,_,_,_,_,_,_,_,_,_,_,_,_,_,_,_,_,_,_,_,_,_,_] _
  refine g_ops_nil (g_seq (g_seq (g_region ?_)))
  show G _ _ _ (.inRegion _ [0, 1, 2] :: _) _ _
  refine g_op (v := Value.string a1) rfl rfl rfl ?_
  refine g_op (v := Value.int .i64 (a1.size : Int)) rfl rfl (x_lenS rfl rfl rfl) ?_
  show G _ _ _ _ [_,_,_,_,_,_,_,_,_,_,_,_,_,_,_,_,_,_,_,_,_,_,_,_,_,_,_,_,_,_,_,_,_,_,_,_] _
  refine g_op (v := Value.int .i64 0) rfl rfl rfl (g_ops_nil ?_)
  obtain ⟨o1_, Ho, Hr1_⟩ := bind_get H
  refine g_block_join (J := fun t w => ∃ x6 : Int, impl_readSet.a0 N a1 x6 = some r ∧ Fr t (fun O => ([Value.string a1, O 1, O 2, O 3, O 4, O 5, Value.int .u64 x6, O 7, O 8, O 9, O 10, O 11, O 12, O 13, O 14, O 15, O 16, O 17, O 18, O 19, O 20, O 21, O 22, O 23, O 24, O 25, O 26, O 27, O 28, O 29, O 30, O 31, O 32, O 33, O 34, O 35] : List Value)) ∧ St w0 [] w) ?_ ?_
  ·
   rintro t w ⟨x6, H, hf, hs⟩
   obtain ⟨O, rfl⟩ := hf.open
   show G _ _ _ _ [_,_,_,_,_,_,_,_,_,_,_,_,_,_,_,_,_,_,_,_,_,_,_,_,_,_,_,_,_,_,_,_,_,_,_,_] _
   unfold impl_readSet.a0 at H
   refine g_seq (g_region ?_)
   show G _ _ _ (.inRegion _ [0, 1, 2, 3, 4, 5, 6] :: _) _ _
   refine g_op (v := Value.int .u64 x6) rfl rfl rfl ?_
   refine g_op (v := Value.int .u64 x6) rfl rfl rfl ?_
   obtain ⟨r7, Hr7, H⟩ := bind_get H
   refine s_call (args := [Value.int .u64 x6]) rfl rfl (x_call rfl (callFunc_enter Try.func43 rfl rfl) rfl) (impl_setText.calls (a1 := x6) Hr7) ?_
   rintro _ w ⟨rfl, hs2⟩
   have hs : St _ [] _ := hs.call hs2
   show G _ _ _ _ [_,_,_,_,_,_,_,_,_,_,_,_,_,_,_,_,_,_,_,_,_,_,_,_,_,_,_,_,_,_,_,_,_,_,_,_] _
   refine g_op (v := Value.string a1) rfl rfl rfl ?_
   refine g_op (v := Value.bool (r7.toList == a1.toList)) rfl rfl rfl ?_
   show G _ _ _ _ [_,_,_,_,_,_,_,_,_,_,_,_,_,_,_,_,_,_,_,_,_,_,_,_,_,_,_,_,_,_,_,_,_,_,_,_] _
   refine g_op (v := Value.int .u64 x6) rfl rfl rfl ?_
   show G _ _ _ _ [_,_,_,_,_,_,_,_,_,_,_,_,_,_,_,_,_,_,_,_,_,_,_,_,_,_,_,_,_,_,_,_,_,_,_,_] _
   refine g_op (v := Value.bool (r7.toList == a1.toList)) rfl rfl rfl ?_
   show G _ _ _ _ [_,_,_,_,_,_,_,_,_,_,_,_,_,_,_,_,_,_,_,_,_,_,_,_,_,_,_,_,_,_,_,_,_,_,_,_] _
   refine g_ops_nil ?_
   obtain rfl := Option.some.inj H
   refine g_ret Try.func42 (v := Value.tuple #[Value.int .u64 x6, Value.bool (r7.toList == a1.toList)]) (resN (l := Try.f42.results.toList) (vs := [Value.int .u64 x6, Value.bool (r7.toList == a1.toList)]) rfl ⟨rfl, rfl, trivial⟩ (by simp)) ?_
   have hs : St _ [] _ := St.take (Γ' := []) hs
   exact ⟨_, rfl, rfl, hs⟩
  intro ha1_
  have hs : St _ [] _ := St.take (Γ' := []) hs
  refine g_loop_fuel (I := fun n_ t w => ∃ x3 : Int, ∃ x4 : Int, rounds (fun s => impl_readSet.b0 N a1 a2 s.1 s.2) n_ (x3, x4) = some o1_ ∧ Fr t (fun O => ([Value.string a1, Value.int .i64 a2, O 2, O 3, O 4, O 5, Value.int .u64 x3, O 7, O 8, O 9, Value.int .i64 (a1.size : Int), Value.int .i64 x4, O 12, O 13, O 14, O 15, O 16, O 17, O 18, O 19, O 20, O 21, O 22, O 23, O 24, O 25, O 26, O 27, O 28, O 29, O 30, O 31, O 32, O 33, O 34, O 35] : List Value)) ∧ St w0 [] w) N ⟨0, 0, Ho, rfl, hs⟩ ?_ ?_
  ·
   rintro _ _ ⟨x3, x4, h, _⟩
   exact rounds_zero h
  intro n_ ih1_
  rintro t w ⟨x3, x4, Ho, hf, hs⟩
  obtain ⟨O, rfl⟩ := hf.open
  show G _ _ _ _ [_,_,_,_,_,_,_,_,_,_,_,_,_,_,_,_,_,_,_,_,_,_,_,_,_,_,_,_,_,_,_,_,_,_,_,_] _
  obtain ⟨x3_, H, Hx1_⟩ := rounds_succ Ho
  have H : impl_readSet.b0 N a1 a2 x3 x4 = some x3_ := H
  unfold impl_readSet.b0 at H
  refine g_seq (g_region ?_)
  show G _ _ _ (.inRegion _ [0] :: _) _ _
  refine g_op_b (B := decide (x4 < (a1.size : Int))) rfl rfl rfl ?_ ?_
  ·
   intro hb
   rw [if_pos (b_dec_t hb)] at H
   show G _ _ _ _ [_,_,_,_,_,_,_,_,_,_,_,_,_,_,_,_,_,_,_,_,_,_,_,_,_,_,_,_,_,_,_,_,_,_,_,_] _
   refine g_ops_nil (g_seq (g_cond_true rfl (g_skip (g_seq ?_))))
   refine g_block_join (J := (fun t w => ∃ x5 : Int, impl_readSet.j2 N x4 x5 = some x3_ ∧ Fr t (fun O => ([Value.string a1, Value.int .i64 a2, O 2, O 3, O 4, O 5, Value.int .u64 x5, O 7, O 8, O 9, Value.int .i64 (a1.size : Int), Value.int .i64 x4, O 12, O 13, O 14, O 15, O 16, O 17, O 18, O 19, O 20, O 21, O 22, O 23, O 24, O 25, O 26, O 27, O 28, O 29, O 30, O 31, O 32, O 33, O 34, O 35] : List Value)) ∧ St w0 [] w)) ?_ ?_
   ·
    rintro t w ⟨x5, H, hf, hs⟩
    obtain ⟨O, rfl⟩ := hf.open
    show G _ _ _ _ [_,_,_,_,_,_,_,_,_,_,_,_,_,_,_,_,_,_,_,_,_,_,_,_,_,_,_,_,_,_,_,_,_,_,_,_] _
    unfold impl_readSet.j2 at H
    refine g_region ?_
    show G _ _ _ (.inRegion _ [0, 1] :: _) _ _
    refine g_op (v := Value.int .i64 (i64w (x4 + 1))) rfl rfl rfl ?_
    show G _ _ _ _ [_,_,_,_,_,_,_,_,_,_,_,_,_,_,_,_,_,_,_,_,_,_,_,_,_,_,_,_,_,_,_,_,_,_,_,_] _
    refine g_op (v := Value.int .i64 (i64w (x4 + 1))) rfl rfl rfl (g_ops_nil ?_)
    obtain rfl := Option.some.inj H
    have hs : St _ [] _ := St.take (Γ' := []) hs
    exact ih1_ _ _ ⟨x5, i64w (x4 + 1), Hx1_, rfl, hs⟩
   intro ha
   refine g_seq (g_region ?_)
   show G _ _ _ (.inRegion _ [0, 1] :: _) _ _
   refine g_op (v := Value.int .i64 x4) rfl rfl rfl ?_
   refine g_op (v := Value.int .i64 x4) rfl rfl rfl ?_
   show G _ _ _ _ [_,_,_,_,_,_,_,_,_,_,_,_,_,_,_,_,_,_,_,_,_,_,_,_,_,_,_,_,_,_,_,_,_,_,_,_] _
   refine g_ops_nil (g_seq (g_region ?_))
   show G _ _ _ (.inRegion _ [0, 1, 2, 3, 4, 5] :: _) _ _
   refine g_op (v := Value.string a1) rfl rfl rfl ?_
   refine g_op (v := Value.int .i64 x4) rfl rfl rfl ?_
   obtain ⟨g1, H⟩ := ite_get H
   refine g_op (v := Value.int .u8 (btS a1 x4)) rfl rfl (x_indexS rfl rfl rfl rfl g1.1 g1.2) ?_
   show G _ _ _ _ [_,_,_,_,_,_,_,_,_,_,_,_,_,_,_,_,_,_,_,_,_,_,_,_,_,_,_,_,_,_,_,_,_,_,_,_] _
   refine g_op (v := Value.int .i64 (i64w (btS a1 x4))) rfl rfl rfl ?_
   refine g_op (v := Value.int .i64 (i64w ((i64w (btS a1 x4)) - 97))) rfl rfl rfl ?_
   show G _ _ _ _ [_,_,_,_,_,_,_,_,_,_,_,_,_,_,_,_,_,_,_,_,_,_,_,_,_,_,_,_,_,_,_,_,_,_,_,_] _
   refine g_op (v := Value.int .i64 (i64w ((i64w (btS a1 x4)) - 97))) rfl rfl rfl ?_
   show G _ _ _ _ [_,_,_,_,_,_,_,_,_,_,_,_,_,_,_,_,_,_,_,_,_,_,_,_,_,_,_,_,_,_,_,_,_,_,_,_] _
   refine g_ops_nil (g_seq (g_region ?_))
   show G _ _ _ (.inRegion _ [0, 1, 2, 3, 4, 5, 6] :: _) _ _
   refine g_op (v := Value.int .i64 (i64w ((i64w (btS a1 x4)) - 97))) rfl rfl rfl ?_
   refine g_op_b (B := decide ((i64w ((i64w (btS a1 x4)) - 97)) ≥ 0)) rfl rfl rfl ?_ ?_
   ·
    intro hb
    rw [if_pos (b_dec_t hb)] at H
    show G _ _ _ _ [_,_,_,_,_,_,_,_,_,_,_,_,_,_,_,_,_,_,_,_,_,_,_,_,_,_,_,_,_,_,_,_,_,_,_,_] _
    refine g_op (v := Value.bool true) rfl rfl rfl ?_
    refine g_op (v := Value.int .i64 (i64w ((i64w (btS a1 x4)) - 97))) rfl rfl rfl ?_
    refine g_op (v := Value.int .i64 a2) rfl rfl rfl ?_
    refine g_op_b (B := decide ((i64w ((i64w (btS a1 x4)) - 97)) < a2)) rfl rfl rfl ?_ ?_
    ·
     intro hb
     rw [if_pos (b_dec_t hb)] at H
     show G _ _ _ _ [_,_,_,_,_,_,_,_,_,_,_,_,_,_,_,_,_,_,_,_,_,_,_,_,_,_,_,_,_,_,_,_,_,_,_,_] _
     refine g_op (v := Value.bool true) rfl rfl rfl ?_
     show G _ _ _ _ [_,_,_,_,_,_,_,_,_,_,_,_,_,_,_,_,_,_,_,_,_,_,_,_,_,_,_,_,_,_,_,_,_,_,_,_] _
     refine g_ops_nil (g_cond_true rfl (g_region ?_))
     show G _ _ _ (.inRegion _ [0, 1, 2, 3, 4] :: _) _ _
     refine g_op (v := Value.int .u64 x3) rfl rfl rfl ?_
     refine g_op (v := Value.int .i64 (i64w ((i64w (btS a1 x4)) - 97))) rfl rfl rfl ?_
     obtain ⟨g2, H⟩ := ite_get H
     refine g_op (v := Value.int .u64 (shlI .u64 1 (i64w ((i64w (btS a1 x4)) - 97)))) rfl rfl (x_shl rfl rfl rfl g2) ?_
     show G _ _ _ _ [_,_,_,_,_,_,_,_,_,_,_,_,_,_,_,_,_,_,_,_,_,_,_,_,_,_,_,_,_,_,_,_,_,_,_,_] _
     refine g_op (v := Value.int .u64 (bOr .u64 x3 (shlI .u64 1 (i64w ((i64w (btS a1 x4)) - 97))))) rfl rfl rfl ?_
     show G _ _ _ _ [_,_,_,_,_,_,_,_,_,_,_,_,_,_,_,_,_,_,_,_,_,_,_,_,_,_,_,_,_,_,_,_,_,_,_,_] _
     refine g_op (v := Value.int .u64 (bOr .u64 x3 (shlI .u64 1 (i64w ((i64w (btS a1 x4)) - 97))))) rfl rfl rfl ?_
     show G _ _ _ _ [_,_,_,_,_,_,_,_,_,_,_,_,_,_,_,_,_,_,_,_,_,_,_,_,_,_,_,_,_,_,_,_,_,_,_,_] _
     refine g_ops_nil ?_
     refine g_inBlock ?_
     have hs : St _ [] _ := St.take (Γ' := []) hs
     exact ha _ _ ⟨bOr .u64 x3 (shlI .u64 1 (i64w ((i64w (btS a1 x4)) - 97))), H, rfl, hs⟩
    intro hb
    rw [if_neg (b_dec_f hb)] at H
    show G _ _ _ _ [_,_,_,_,_,_,_,_,_,_,_,_,_,_,_,_,_,_,_,_,_,_,_,_,_,_,_,_,_,_,_,_,_,_,_,_] _
    refine g_op (v := Value.bool false) rfl rfl rfl ?_
    show G _ _ _ _ [_,_,_,_,_,_,_,_,_,_,_,_,_,_,_,_,_,_,_,_,_,_,_,_,_,_,_,_,_,_,_,_,_,_,_,_] _
    refine g_ops_nil (g_cond_false rfl (g_skip ?_))
    refine g_inBlock ?_
    have hs : St _ [] _ := St.take (Γ' := []) hs
    exact ha _ _ ⟨x3, H, rfl, hs⟩
   intro hb
   rw [if_neg (b_dec_f hb)] at H
   show G _ _ _ _ [_,_,_,_,_,_,_,_,_,_,_,_,_,_,_,_,_,_,_,_,_,_,_,_,_,_,_,_,_,_,_,_,_,_,_,_] _
   refine g_op (v := Value.bool false) rfl rfl rfl (g_op_not rfl rfl (g_op_not rfl rfl (g_op_not rfl rfl ?_)))
   show G _ _ _ _ [_,_,_,_,_,_,_,_,_,_,_,_,_,_,_,_,_,_,_,_,_,_,_,_,_,_,_,_,_,_,_,_,_,_,_,_] _
   refine g_op (v := Value.bool false) rfl rfl rfl ?_
   show G _ _ _ _ [_,_,_,_,_,_,_,_,_,_,_,_,_,_,_,_,_,_,_,_,_,_,_,_,_,_,_,_,_,_,_,_,_,_,_,_] _
   refine g_ops_nil (g_cond_false rfl (g_skip ?_))
   refine g_inBlock ?_
   have hs : St _ [] _ := St.take (Γ' := []) hs
   exact ha _ _ ⟨x3, H, rfl, hs⟩
  intro hb
  rw [if_neg (b_dec_f hb)] at H
  show G _ _ _ _ [_,_,_,_,_,_,_,_,_,_,_,_,_,_,_,_,_,_,_,_,_,_,_,_,_,_,_,_,_,_,_,_,_,_,_,_] _
  refine g_ops_nil (g_seq (g_cond_false rfl ?_))
  obtain rfl := Option.some.inj H
  subst Hx1_
  have hs : St _ [] _ := St.take (Γ' := []) hs
  refine g_exit rfl ?_
  exact ha1_ _ _ ⟨x3, Hr1_, rfl, hs⟩

/- function 18 impl_ReadThings -/
def impl_ReadThings.post (w0 : World) (r : (Int × Int)) (v : Value) (w : World) : Prop := v = Value.tuple #[Value.int .u16 r.1, Value.int .i64 r.2] ∧ St w0 [] w
set_option maxHeartbeats 8000000 in
set_option maxRecDepth 100000 in
theorem impl_ReadThings.calls {N : Nat} {a1 : ByteArray} {w0 : World} {r : (Int × Int)} (H : impl_ReadThings.f N a1 = some r) :
    Calls Try.prog 18 #[Value.string a1] w0 fun e w => ∃ v, e = .returned v ∧ impl_ReadThings.post w0 r v w := by
  unfold impl_ReadThings.f at H
  have hs : St w0 [] w0 := St.refl w0
  refine calls_of_g (n := 14) Try.func18 rfl rfl ?_
  show G _ _ _ _ [_,_,_,_,_,_,_,_,_,_,_,_,_,_,_] _
  refine g_seq (g_region ?_)
  show G _ _ _ (.inRegion _ [0, 1] :: _) _ _
  refine g_op (v := Value.int .u16 0) rfl rfl rfl ?_
  show G _ _ _ _ [_,_,_,_,_,_,_,_,_,_,_,_,_,_,_] _
  refine g_op (v := Value.int .i64 0) rfl rfl rfl ?_
  show G _ _ _ _ [_,_,_,_,_,_,_,_,_,_,_,_,_,_,_] _
  refine g_ops_nil (g_seq (g_region ?_))
  show G _ _ _ (.inRegion _ [0, 1, 2, 3, 4, 5, 6] :: _) _ _
  refine g_op (v := Value.string a1) rfl rfl rfl ?_
  show G _ _ _ _ [_,_,_,_,_,_,_,_,_,_,_,_,_,_,_] _
  obtain ⟨r2, Hr2, H⟩ := bind_get H
  refine s_call (args := [Value.string a1, Value.int .i64 8]) rfl rfl (x_call rfl (callFunc_enter Try.func42 rfl rfl) rfl) (impl_readSet.calls (a1 := a1) (a2 := 8) Hr2) ?_
  rintro _ w ⟨rfl, hs2⟩
  have hs : St _ [] _ := hs.call hs2
  show G _ _ _ _ [_,_,_,_,_,_,_,_,_,_,_,_,_,_,_] _
  refine g_op (v := Value.tuple #[Value.int .u64 r2.1, Value.bool r2.2]) rfl rfl rfl ?_
  show G _ _ _ _ [_,_,_,_,_,_,_,_,_,_,_,_,_,_,_] _
  refine g_op (v := Value.int .u64 r2.1) rfl rfl rfl ?_
  show G _ _ _ _ [_,_,_,_,_,_,_,_,_,_,_,_,_,_,_] _
  refine g_op (v := Value.bool r2.2) rfl rfl rfl ?_
  show G _ _ _ _ [_,_,_,_,_,_,_,_,_,_,_,_,_,_,_] _
  refine g_op (v := Value.int .u64 r2.1) rfl rfl rfl ?_
  show G _ _ _ _ [_,_,_,_,_,_,_,_,_,_,_,_,_,_,_] _
  refine g_op (v := Value.bool r2.2) rfl rfl rfl ?_
  show G _ _ _ _ [_,_,_,_,_,_,_,_,_,_,_,_,_,_,_] _
  refine g_ops_nil (g_seq (g_seq (g_region ?_)))
  show G _ _ _ (.inRegion _ [0, 1] :: _) _ _
  refine g_op_b (B := r2.2) rfl rfl rfl ?_ ?_
  ·
   intro hb
   rw [if_pos (b_var_t hb)] at H
   show G _ _ _ _ [_,_,_,_,_,_,_,_,_,_,_,_,_,_,_] _
   refine g_op (v := Value.bool false) rfl rfl rfl ?_
   show G _ _ _ _ [_,_,_,_,_,_,_,_,_,_,_,_,_,_,_] _
   refine g_ops_nil (g_cond_false rfl (g_skip (g_seq (g_region ?_))))
   show G _ _ _ (.inRegion _ [0, 1, 2, 3] :: _) _ _
   refine g_op (v := Value.int .u64 r2.1) rfl rfl rfl ?_
   show G _ _ _ _ [_,_,_,_,_,_,_,_,_,_,_,_,_,_,_] _
   refine g_op (v := Value.int .u16 (u16w r2.1)) rfl rfl rfl ?_
   show G _ _ _ _ [_,_,_,_,_,_,_,_,_,_,_,_,_,_,_] _
   refine g_op (v := Value.int .u16 (u16w r2.1)) rfl rfl rfl ?_
   show G _ _ _ _ [_,_,_,_,_,_,_,_,_,_,_,_,_,_,_] _
   refine g_op (v := Value.int .i64 0) rfl rfl rfl ?_
   show G _ _ _ _ [_,_,_,_,_,_,_,_,_,_,_,_,_,_,_] _
   refine g_ops_nil ?_
   obtain rfl := Option.some.inj H
   refine g_ret Try.func18 (v := Value.tuple #[Value.int .u16 (u16w r2.1), Value.int .i64 0]) (resN (l := Try.f18.results.toList) (vs := [Value.int .u16 (u16w r2.1), Value.int .i64 0]) rfl ⟨rfl, rfl, trivial⟩ (by simp)) ?_
   have hs : St _ [] _ := St.take (Γ' := []) hs
   exact ⟨_, rfl, rfl, hs⟩
  intro hb
  rw [if_neg (b_var_f hb)] at H
  show G _ _ _ _ [_,_,_,_,_,_,_,_,_,_,_,_,_,_,_] _
  refine g_op (v := Value.bool true) rfl rfl rfl ?_
  show G _ _ _ _ [_,_,_,_,_,_,_,_,_,_,_,_,_,_,_] _
  refine g_ops_nil (g_cond_true rfl (g_seq (g_region ?_)))
  show G _ _ _ (.inRegion _ [0, 1] :: _) _ _
  refine g_op (v := Value.int .u16 0) rfl rfl rfl ?_
  show G _ _ _ _ [_,_,_,_,_,_,_,_,_,_,_,_,_,_,_] _
  refine g_op (v := Value.int .i64 5) rfl rfl rfl ?_
  show G _ _ _ _ [_,_,_,_,_,_,_,_,_,_,_,_,_,_,_] _
  refine g_ops_nil ?_
  obtain rfl := Option.some.inj H
  refine g_ret Try.func18 (v := Value.tuple #[Value.int .u16 0, Value.int .i64 5]) (resN (l := Try.f18.results.toList) (vs := [Value.int .u16 0, Value.int .i64 5]) rfl ⟨rfl, rfl, trivial⟩ (by simp)) ?_
  have hs : St _ [] _ := St.take (Γ' := []) hs
  exact ⟨_, rfl, rfl, hs⟩

end Go.Proofs.YtcaokmnajnfpiaaX
