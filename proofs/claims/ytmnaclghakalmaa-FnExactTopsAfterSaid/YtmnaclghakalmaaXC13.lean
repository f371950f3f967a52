/- Contracts, printed by gen.py. -/
import Derived.Test.YtmnaclghakalmaaXT
import Derived.Test.YtmnaclghakalmaaProg
import Derived.Test.YtmnaclghakalmaaXRowR
import Derived.Test.YtmnaclghakalmaaXSq
import Derived.Test.YtmnaclghakalmaaXSeg
import Derived.Test.YtmnaclghakalmaaXKey
import Derived.Test.YtmnaclghakalmaaXIter
import Derived.Test.YtmnaclghakalmaaXRow2
import Derived.Test.YtmnaclghakalmaaXEla
import Derived.Test.YtmnaclghakalmaaTCX
import Derived.Test.YtmnaclghakalmaaXC1
import Derived.Test.YtmnaclghakalmaaXC6
import Derived.Test.YtmnaclghakalmaaXC10
import Derived.Test.YtmnaclghakalmaaXC11
import Derived.Test.YtmnaclghakalmaaXC12
namespace Go.Proofs.YtmnaclghakalmaaX
open Go Go.RowKit Go.Proofs
set_option linter.unusedVariables false
set_option linter.unusedSimpArgs false
/- function 3 laws_FnExactTopsAfter -/
def laws_FnExactTopsAfter.post (w0 : World) (r : Bool) (v : Value) (w : World) : Prop := v = Value.bool r ∧ St w0 [] w
set_option maxHeartbeats 8000000 in
set_option maxRecDepth 100000 in
theorem laws_FnExactTopsAfter.calls {N : Nat} {a1 : (List Int)} {a3 : (Ar Int 4)} {a4 : Int} {v2 : Value} {w0 : World} {Q : Bool → Prop} (hr0 : RdRow (K.int .i16) w0 v2 a1) (H : laws_FnExactTopsAfter.f N a1 a3 a4 Q) :
    Calls Try.prog 3 #[v2, Value.agg ((encA (encI .i16)) a3).toArray, Value.int .i64 a4] w0 fun e w => ∃ v, e = .returned v ∧ ∃ r, Q r ∧ laws_FnExactTopsAfter.post w0 r v w := by
  unfold laws_FnExactTopsAfter.f at H
  have hs : St w0 [] w0 := St.refl w0
  refine calls_of_g (n := 103) Try.func3 rfl rfl ?_
  show G _ _ _ _ (_::_::_::_::_::_::_::_::_::_::_::_::_::_::_::_::_::_::_::_::_::_::_::_::_::_::_::_::_::_::_::_::_::_::_::_::_::_::_::_::_::_::_::_::_::_::_::_::_::_::_::_::_::_::_::_::_::_::_::_::_::_::_::_::_::_::_::_::_::_::_::_::_::_::_::_::_::_::_::_::_::_::_::_::_::_::_::_::_::_::_::_::_::_::_::_::_::_::_::_::_::_::_::_::_::_::[]) _
  refine g_seq (g_rg [0, 1] rfl ?_)
  refine s_box hs rfl rfl (cs := ((encA (encI .i16)) a3)) rfl rfl ?_
  intro b5 w hs
  refine g_d rfl ?_
  try dsimp only [set0,setS]
  refine g_op (v := Value.bool false) rfl rfl rfl (g_d rfl (g_ops_nil (g_seq (g_seq (g_rg [0, 1, 2] rfl ?_)))))
  refine g_op (v := v2) rfl rfl rfl (g_d rfl ?_)
  refine s_len (hs.rd hr0) rfl rfl rfl rfl rfl (g_d rfl ?_)
  try dsimp only [set0,setS]
  refine g_op_b (B := decide ((a1.length : Int) > 1048576)) rfl rfl rfl ?_ ?_
  ·
   intro hb
   rw [if_pos (b_dec_t hb)] at H
   refine g_d rfl (g_ops_nil (g_cond_true rfl (g_seq (g_rg [0] rfl ?_))))
   refine g_op (v := Value.bool true) rfl rfl rfl (g_d rfl ?_)
   try dsimp only [set0,setS]
   refine g_ops_nil ?_
   refine g_ret Try.func3 (v := Value.bool true) (res1 rfl rfl) ?_
   have hs : St _ [] _ := St.take (Γ' := [_]) hs
   exact ⟨_, rfl, _, H, rfl, hs⟩
  intro hb
  rw [if_neg (b_dec_f hb)] at H
  refine g_d rfl (g_ops_nil (g_cond_false rfl (g_skip (g_seq ?_))))
  obtain ⟨r7, Hr7, H⟩ := H
  obtain ⟨r10, Hr10, H⟩ := H
  obtain ⟨r11, Hr11, H⟩ := H
  refine g_name ?_
  intro T hT
  refine g_any (n := 11) rfl [0, 1, 2, 3, 4, 5, 6, 7, 8, 9, 10] [0, 1, 2, 3, 4, 5, 6, 7, 9, 8, 10] rfl rfl (Inv := fun D t w => ∃ v8 : Value, ∃ v12 : Value, ∃ O : Nat → Value, t = (v2::Value.agg ((encA (encI .i16)) a3).toArray::Value.int .i64 a4::O 3::Value.pointer (some ⟨b5, 0, none⟩)::O 5::Value.bool false::cnd (D 9) v12 (O 7)::cnd (D 10) (Value.int .i64 r11.2) (O 8)::O 9::O 10::O 11::O 12::O 13::O 14::O 15::O 16::v2::Value.int .i64 (a1.length : Int)::Value.bool false::cnd (D 6) (Value.tuple #[v12, Value.int .i64 r11.2]) (O 20)::cnd (D 0) v2 (O 21)::cnd (D 1) v8 (O 22)::cnd (D 2) (Value.agg ((encA (encI .i16)) a3).toArray) (O 23)::cnd (D 3) (Value.agg ((encA (encI .i16)) r10).toArray) (O 24)::cnd (D 4) (Value.int .i64 a4) (O 25)::cnd (D 5) (Value.tuple #[v12, Value.int .i64 r11.2]) (O 26)::cnd (D 7) v12 (O 27)::cnd (D 8) (Value.int .i64 r11.2) (O 28)::O 29::O 30::O 31::O 32::O 33::O 34::O 35::O 36::O 37::O 38::O 39::O 40::O 41::O 42::O 43::O 44::O 45::O 46::O 47::O 48::O 49::O 50::O 51::O 52::O 53::O 54::O 55::O 56::O 57::O 58::O 59::O 60::O 61::O 62::O 63::O 64::O 65::O 66::O 67::O 68::O 69::O 70::O 71::O 72::O 73::O 74::O 75::O 76::O 77::O 78::O 79::O 80::O 81::O 82::O 83::O 84::O 85::O 86::O 87::O 88::O 89::O 90::O 91::O 92::O 93::O 94::O 95::O 96::O 97::O 98::O 99::O 100::O 101::O 102::O 103::O 104::O 105::[]) ∧ St w0 [Asc (D 1) (Row 23 (K.int .i16) v8 r7), Asc (D 5) (Row 30 (K.ar 4 1 (encI .i16) (fkI .i16).len (fkI .i16).one) v12 r11.1), Cells b5 ((encA (encI .i16)) a3) 24] w) ?_ ⟨⟨⟨⟨⟨⟨⟨⟨⟨⟨⟨trivial, ?_⟩, ?_⟩, ?_⟩, ?_⟩, ?_⟩, ?_⟩, ?_⟩, ?_⟩, ?_⟩, ?_⟩, ?_⟩ ?_
  ·
   intro w hh hbw
   have hs := hs.samew hh hbw
   have hs := hs.emp
   have hs := hs.emp
   exact ⟨undef, undef, fun i => T.getD i undef, (by subst hT; rfl), hs⟩
  ·
   rintro D t w hD hp hcl ⟨v8, v12, O, ht, hs⟩ rest hk
   have q1_ := nz hcl 1 0 hD
   have q3_ := nz hcl 3 1 q1_
   have q5_ := nz hcl 5 0 q1_
   have q6_ := nz hcl 6 0 q5_
   have q7_ := nz hcl 7 0 q6_
   have q8_ := nz hcl 8 0 q6_
   have q9_ := nz hcl 9 0 q7_
   have q10_ := nz hcl 10 0 q8_
   simp only [hD, q1_, q3_, q5_, q6_, q7_, q8_, q9_, q10_, cq] at ht hs
   subst ht
   refine g_op (v := v2) rfl rfl rfl (g_d rfl ?_)
   try dsimp only [set0,setS]
   refine hk _ _ ⟨v8, v12, O, ?_, hs.cast ?_⟩ <;> simp only [lq, cq, Nat.reduceBEq, q1_, q3_, q5_, q6_, q7_, q8_, q9_, q10_]
  ·
   rintro D t w hD hp hcl ⟨v8, v12, O, ht, hs⟩ rest hk
   obtain ⟨p0_, _⟩ := hp
   have q3_ := nz hcl 3 1 hD
   have q5_ := nz hcl 5 0 hD
   have q6_ := nz hcl 6 0 q5_
   have q7_ := nz hcl 7 0 q6_
   have q8_ := nz hcl 8 0 q6_
   have q9_ := nz hcl 9 0 q7_
   have q10_ := nz hcl 10 0 q8_
   simp only [hD, p0_, q3_, q5_, q6_, q7_, q8_, q9_, q10_, cq] at ht hs
   subst ht
   refine s_call (args := [v2]) rfl rfl (x_call rfl (callFunc_enter Try.func5 rfl rfl) rfl) (laws_toGlasses.calls (a1 := a1) (hs.rd hr0) Hr7) ?_
   intro v8 w hs2
   have hs : St _ [_,_,_,_] _ := hs.call hs2
   refine g_d rfl ?_
   try dsimp only [set0,setS]
   have hs := hs.fill 0 rfl
   refine hk _ _ ⟨v8, v12, O, ?_, hs.cast ?_⟩ <;> simp only [lq, cq, Nat.reduceBEq, p0_, q3_, q5_, q6_, q7_, q8_, q9_, q10_]
  ·
   rintro D t w hD hp hcl ⟨v8, v12, O, ht, hs⟩ rest hk
   have q3_ := nz hcl 3 0 hD
   have q5_ := nz hcl 5 1 q3_
   have q6_ := nz hcl 6 0 q5_
   have q7_ := nz hcl 7 0 q6_
   have q8_ := nz hcl 8 0 q6_
   have q9_ := nz hcl 9 0 q7_
   have q10_ := nz hcl 10 0 q8_
   simp only [hD, q3_, q5_, q6_, q7_, q8_, q9_, q10_, cq] at ht hs
   subst ht
   refine s_loadA rfl rfl (es := ((encA (encI .i16)) a3)) rfl rfl (fun _ => rfl) (n := 4) (fun _ => rfl) ((fkA (n := 4) (he := (fkI .i16).len) (h1 := (fkI .i16).one)).len _) (cells_all (hs.cells 2 rfl)) (g_d rfl ?_)
   try dsimp only [set0,setS]
   refine hk _ _ ⟨v8, v12, O, ?_, hs.cast ?_⟩ <;> simp only [lq, cq, Nat.reduceBEq, q3_, q5_, q6_, q7_, q8_, q9_, q10_]
  ·
   rintro D t w hD hp hcl ⟨v8, v12, O, ht, hs⟩ rest hk
   obtain ⟨p2_, p1_, _⟩ := hp
   obtain ⟨p0_, _⟩ := (hcl.get 1 (by decide)) p1_
   have q5_ := nz hcl 5 1 hD
   have q6_ := nz hcl 6 0 q5_
   have q7_ := nz hcl 7 0 q6_
   have q8_ := nz hcl 8 0 q6_
   have q9_ := nz hcl 9 0 q7_
   have q10_ := nz hcl 10 0 q8_
   simp only [hD, p0_, p1_, p2_, q5_, q6_, q7_, q8_, q9_, q10_, cq] at ht hs
   subst ht
   refine s_call (args := [Value.agg ((encA (encI .i16)) a3).toArray]) rfl rfl (x_call rfl (callFunc_enter Try.func6 rfl rfl) rfl) (laws_toTops.calls (a1 := a3) Hr10) ?_
   rintro _ w ⟨rfl, hs2⟩
   have hs : St _ [_,_,_] _ := hs.call hs2
   refine g_d rfl ?_
   try dsimp only [set0,setS]
   refine hk _ _ ⟨v8, v12, O, ?_, hs.cast ?_⟩ <;> simp only [lq, cq, Nat.reduceBEq, p0_, p1_, p2_, q5_, q6_, q7_, q8_, q9_, q10_]
  ·
   rintro D t w hD hp hcl ⟨v8, v12, O, ht, hs⟩ rest hk
   have q5_ := nz hcl 5 2 hD
   have q6_ := nz hcl 6 0 q5_
   have q7_ := nz hcl 7 0 q6_
   have q8_ := nz hcl 8 0 q6_
   have q9_ := nz hcl 9 0 q7_
   have q10_ := nz hcl 10 0 q8_
   simp only [hD, q5_, q6_, q7_, q8_, q9_, q10_, cq] at ht hs
   subst ht
   refine g_op (v := Value.int .i64 a4) rfl rfl rfl (g_d rfl ?_)
   try dsimp only [set0,setS]
   refine hk _ _ ⟨v8, v12, O, ?_, hs.cast ?_⟩ <;> simp only [lq, cq, Nat.reduceBEq, q5_, q6_, q7_, q8_, q9_, q10_]
  ·
   rintro D t w hD hp hcl ⟨v8, v12, O, ht, hs⟩ rest hk
   obtain ⟨p1_, p3_, p4_, _, _⟩ := hp
   obtain ⟨p2_, _, _⟩ := (hcl.get 3 (by decide)) p3_
   obtain ⟨p0_, _⟩ := (hcl.get 1 (by decide)) p1_
   have q6_ := nz hcl 6 0 hD
   have q7_ := nz hcl 7 0 q6_
   have q8_ := nz hcl 8 0 q6_
   have q9_ := nz hcl 9 0 q7_
   have q10_ := nz hcl 10 0 q8_
   simp only [hD, p0_, p1_, p2_, p3_, p4_, q6_, q7_, q8_, q9_, q10_, cq] at ht hs
   subst ht
   refine s_call (args := [v8, Value.agg ((encA (encI .i16)) r10).toArray, Value.int .i64 a4]) rfl rfl (x_call rfl (callFunc_enter Try.func4 rfl rfl) rfl) (spec_TopsAfter.calls (a1 := r7) (a3 := r10) (a4 := a4) (hs.row 0 rfl) Hr11) ?_
   rintro _ w ⟨v12, rfl, hs2⟩
   have hs : St _ [_,_,_,_] _ := hs.call hs2
   refine g_d rfl ?_
   try dsimp only [set0,setS]
   have hs := hs.fill 1 rfl
   refine hk _ _ ⟨v8, v12, O, ?_, hs.cast ?_⟩ <;> simp only [lq, cq, Nat.reduceBEq, p0_, p1_, p2_, p3_, p4_, q6_, q7_, q8_, q9_, q10_]
  ·
   rintro D t w hD hp hcl ⟨v8, v12, O, ht, hs⟩ rest hk
   obtain ⟨p5_, _⟩ := hp
   obtain ⟨p1_, p3_, p4_, _, _⟩ := (hcl.get 5 (by decide)) p5_
   obtain ⟨p2_, _, _⟩ := (hcl.get 3 (by decide)) p3_
   obtain ⟨p0_, _⟩ := (hcl.get 1 (by decide)) p1_
   have q7_ := nz hcl 7 0 hD
   have q8_ := nz hcl 8 0 hD
   have q9_ := nz hcl 9 0 q7_
   have q10_ := nz hcl 10 0 q8_
   simp only [hD, p0_, p1_, p2_, p3_, p4_, p5_, q7_, q8_, q9_, q10_, cq] at ht hs
   subst ht
   refine g_op (v := Value.tuple #[v12, Value.int .i64 r11.2]) rfl rfl rfl (g_d rfl ?_)
   try dsimp only [set0,setS]
   refine hk _ _ ⟨v8, v12, O, ?_, hs.cast ?_⟩ <;> simp only [lq, cq, Nat.reduceBEq, p0_, p1_, p2_, p3_, p4_, p5_, q7_, q8_, q9_, q10_]
  ·
   rintro D t w hD hp hcl ⟨v8, v12, O, ht, hs⟩ rest hk
   obtain ⟨p6_, _⟩ := hp
   obtain ⟨p5_, _⟩ := (hcl.get 6 (by decide)) p6_
   obtain ⟨p1_, p3_, p4_, _, _⟩ := (hcl.get 5 (by decide)) p5_
   obtain ⟨p2_, _, _⟩ := (hcl.get 3 (by decide)) p3_
   obtain ⟨p0_, _⟩ := (hcl.get 1 (by decide)) p1_
   have q9_ := nz hcl 9 0 hD
   have q10_ := nz hcl 10 1 q9_
   simp only [hD, p0_, p1_, p2_, p3_, p4_, p5_, p6_, q9_, q10_, cq] at ht hs
   subst ht
   refine g_op (v := v12) rfl rfl rfl (g_d rfl ?_)
   try dsimp only [set0,setS]
   refine hk _ _ ⟨v8, v12, O, ?_, hs.cast ?_⟩ <;> simp only [lq, cq, Nat.reduceBEq, p0_, p1_, p2_, p3_, p4_, p5_, p6_, q9_, q10_]
  ·
   rintro D t w hD hp hcl ⟨v8, v12, O, ht, hs⟩ rest hk
   obtain ⟨p6_, _⟩ := hp
   obtain ⟨p5_, _⟩ := (hcl.get 6 (by decide)) p6_
   obtain ⟨p1_, p3_, p4_, _, _⟩ := (hcl.get 5 (by decide)) p5_
   obtain ⟨p2_, _, _⟩ := (hcl.get 3 (by decide)) p3_
   obtain ⟨p0_, _⟩ := (hcl.get 1 (by decide)) p1_
   have q10_ := nz hcl 10 0 hD
   simp only [hD, p0_, p1_, p2_, p3_, p4_, p5_, p6_, q10_, cq] at ht hs
   subst ht
   refine g_op (v := Value.int .i64 r11.2) rfl rfl rfl (g_d rfl ?_)
   try dsimp only [set0,setS]
   refine hk _ _ ⟨v8, v12, O, ?_, hs.cast ?_⟩ <;> simp only [lq, cq, Nat.reduceBEq, p0_, p1_, p2_, p3_, p4_, p5_, p6_, q10_]
  ·
   rintro D t w hD hp hcl ⟨v8, v12, O, ht, hs⟩ rest hk
   obtain ⟨p7_, p5_, p0_, p1_, p2_, p3_, p4_, _, p6_, _, _⟩ := hp
   have q10_ := nz hcl 10 1 hD
   simp only [hD, p0_, p1_, p2_, p3_, p4_, p5_, p6_, p7_, q10_, cq] at ht hs
   subst ht
   refine g_op (v := v12) rfl rfl rfl (g_d rfl ?_)
   try dsimp only [set0,setS]
   refine hk _ _ ⟨v8, v12, O, ?_, hs.cast ?_⟩ <;> simp only [lq, cq, Nat.reduceBEq, p0_, p1_, p2_, p3_, p4_, p5_, p6_, p7_, q10_]
  ·
   rintro D t w hD hp hcl ⟨v8, v12, O, ht, hs⟩ rest hk
   obtain ⟨p8_, p9_, p0_, p1_, p2_, p3_, p4_, p5_, p6_, p7_, _, _, _⟩ := hp
   simp only [hD, p0_, p1_, p2_, p3_, p4_, p5_, p6_, p7_, p8_, p9_, cq] at ht hs
   subst ht
   refine g_op (v := Value.int .i64 r11.2) rfl rfl rfl (g_d rfl ?_)
   try dsimp only [set0,setS]
   refine hk _ _ ⟨v8, v12, O, ?_, hs.cast ?_⟩ <;> simp only [lq, cq, Nat.reduceBEq, p0_, p1_, p2_, p3_, p4_, p5_, p6_, p7_, p8_, p9_]
  intro D t w hall hI
  obtain ⟨v8, v12, O, ht, hs⟩ := hI
  have p0_ := hall 0 (by decide)
  have p1_ := hall 1 (by decide)
  have p2_ := hall 2 (by decide)
  have p3_ := hall 3 (by decide)
  have p4_ := hall 4 (by decide)
  have p5_ := hall 5 (by decide)
  have p6_ := hall 6 (by decide)
  have p7_ := hall 7 (by decide)
  have p8_ := hall 8 (by decide)
  have p9_ := hall 9 (by decide)
  have p10_ := hall 10 (by decide)
  simp only [p0_, p1_, p2_, p3_, p4_, p5_, p6_, p7_, p8_, p9_, p10_, cq] at ht hs
  subst ht
  refine g_seq (g_rg [0, 1, 2] rfl ?_)
  refine g_op (v := v2) rfl rfl rfl (g_d rfl ?_)
  obtain ⟨r16, Hr16, H⟩ := H
  refine s_call (args := [v2]) rfl rfl (x_call rfl (callFunc_enter Try.func5 rfl rfl) rfl) (laws_toGlasses.calls (a1 := a1) (hs.rd hr0) Hr16) ?_
  intro v17 w hs2
  have hs : St _ [_,_,_,_] _ := hs.call hs2
  refine g_d rfl ?_
  try dsimp only [set0,setS]
  refine g_op (v := v17) rfl rfl rfl (g_d rfl (g_ops_nil (g_seq (g_rg [0, 1, 2, 3, 4, 5, 6, 7, 8, 9] rfl ?_))))
  refine g_op (v := v17) rfl rfl rfl (g_d rfl ?_)
  refine s_loadA rfl rfl (es := ((encA (encI .i16)) a3)) rfl rfl (fun _ => rfl) (n := 4) (fun _ => rfl) ((fkA (n := 4) (he := (fkI .i16).len) (h1 := (fkI .i16).one)).len _) (cells_all (hs.cells 3 rfl)) (g_d rfl ?_)
  try dsimp only [set0,setS]
  obtain ⟨r19, Hr19, H⟩ := H
  refine s_call (args := [Value.agg ((encA (encI .i16)) a3).toArray]) rfl rfl (x_call rfl (callFunc_enter Try.func6 rfl rfl) rfl) (laws_toTops.calls (a1 := a3) Hr19) ?_
  rintro _ w ⟨rfl, hs2⟩
  have hs : St _ [_,_,_,_] _ := hs.call hs2
  refine g_d rfl ?_
  refine g_op (v := Value.int .i64 a4) rfl rfl rfl (g_d rfl ?_)
  refine s_call (args := [v17, Value.agg ((encA (encI .i16)) r19).toArray, Value.int .i64 a4]) rfl rfl (x_call rfl (callFunc_enter Try.func7 rfl rfl) rfl) (impl_TopsAfter.calls (a1 := r16) (a3 := r19) (a4 := a4) (hs.row 0 rfl) H) ?_
  rintro _ w ⟨r20, H, v21, rfl, hs2⟩
  try dsimp only at H
  have hs : St _ [_,_,_,_,_] _ := hs.call hs2
  refine g_d rfl ?_
  try dsimp only [set0,setS]
  refine g_op (v := Value.tuple #[v21, Value.int .i64 r20.2]) rfl rfl rfl (g_d rfl ?_)
  refine g_op (v := v21) rfl rfl rfl (g_d rfl ?_)
  refine g_op (v := Value.int .i64 r20.2) rfl rfl rfl (g_d rfl ?_)
  refine g_op (v := v21) rfl rfl rfl (g_d rfl ?_)
  refine g_op (v := Value.int .i64 r20.2) rfl rfl rfl (g_d rfl ?_)
  try dsimp only [set0,setS]
  refine g_ops_nil (g_seq (g_seq (g_rg [0, 1, 2, 3, 4, 5, 6, 7, 8] rfl ?_)))
  refine g_op (v := v21) rfl rfl rfl (g_d rfl ?_)
  refine g_op (v := v12) rfl rfl rfl (g_d rfl ?_)
  obtain ⟨r23, Hr23, H⟩ := H
  refine s_call (args := [v21, v12]) rfl rfl (x_call rfl (callFunc_enter Try.func8 rfl rfl) rfl) (laws_eqTopsS.calls (a1 := r20.1) (a3 := r11.1) (hs.row 0 rfl) (hs.row 3 rfl) Hr23) ?_
  rintro _ w ⟨rfl, hs2⟩
  have hs : St _ [_,_,_,_,_] _ := hs.call hs2
  cases r23 with
  | true =>
    rw [if_pos rfl] at H
    refine g_d rfl ?_
    refine g_op (v := Value.bool false) rfl rfl rfl (g_d rfl ?_)
    try dsimp only [set0,setS]
    refine g_op (v := Value.bool false) rfl rfl rfl (g_d rfl ?_)
    refine g_op (v := Value.int .i64 r20.2) rfl rfl rfl (g_d rfl ?_)
    refine g_op (v := Value.int .i64 r11.2) rfl rfl rfl (g_d rfl ?_)
    refine g_op_b (B := r20.2 != r11.2) rfl rfl rfl ?_ ?_
    ·
     intro hb
     rw [if_neg (b_bne_t hb)] at H
     refine g_d rfl ?_
     refine g_op (v := Value.bool true) rfl rfl rfl (g_d rfl ?_)
     try dsimp only [set0,setS]
     refine g_ops_nil (g_cond_true rfl (g_seq (g_rg [0] rfl ?_)))
     refine g_op (v := Value.bool false) rfl rfl rfl (g_d rfl (g_ops_nil ?_))
     refine g_ret Try.func3 (v := Value.bool false) (res1 rfl rfl) ?_
     have hs : St _ [] _ := St.take (Γ' := [_,_,_,_,_]) hs
     exact ⟨_, rfl, _, H, rfl, hs⟩
    intro hb
    rw [if_pos (b_bne_f hb)] at H
    refine g_d rfl ?_
    refine g_op (v := Value.bool false) rfl rfl rfl (g_d rfl ?_)
    try dsimp only [set0,setS]
    refine g_ops_nil (g_cond_false rfl (g_skip (g_seq (g_seq (g_rg [0, 1, 2, 3, 4] rfl ?_)))))
    refine g_op (v := v17) rfl rfl rfl (g_d rfl ?_)
    refine g_op (v := v2) rfl rfl rfl (g_d rfl ?_)
    obtain ⟨r24, Hr24, H⟩ := H
    refine s_call (args := [v2]) rfl rfl (x_call rfl (callFunc_enter Try.func5 rfl rfl) rfl) (laws_toGlasses.calls (a1 := a1) (hs.rd hr0) Hr24) ?_
    intro v25 w hs2
    have hs : St _ [_,_,_,_,_,_] _ := hs.call hs2
    refine g_d rfl ?_
    obtain ⟨r27, Hr27, H⟩ := H
    refine s_call (args := [v17, v25]) rfl rfl (x_call rfl (callFunc_enter Try.func9 rfl rfl) rfl) (laws_eqGlasses.calls (a1 := r16) (a3 := r24) (hs.row 2 rfl) (hs.row 0 rfl) Hr27) ?_
    rintro _ w ⟨rfl, hs2⟩
    have hs : St _ [_,_,_,_,_,_] _ := hs.call hs2
    cases r27 with
    | true =>
      rw [if_pos rfl] at H
      refine g_d rfl ?_
      try dsimp only [set0,setS]
      refine g_op (v := Value.bool false) rfl rfl rfl (g_d rfl (g_ops_nil (g_cond_false rfl (g_skip (g_seq (g_rg [0] rfl ?_))))))
      refine g_op (v := Value.int .i64 1) rfl rfl rfl (g_d rfl ?_)
      try dsimp only [set0,setS]
      refine g_ops_nil (g_seq (g_rg [0, 1, 2, 3] rfl ?_))
      refine g_op (v := v17) rfl rfl rfl (g_d rfl ?_)
      refine g_op (v := Value.int .i64 1) rfl rfl rfl (g_d rfl ?_)
      obtain ⟨r28, Hr28, H⟩ := H
      have hs := hs.pull 2 rfl
      have hs : St _ [_,_,_,_,_,_] _ := hs
      have hs := hs.pack 1
      refine s_call (args := [v17, Value.int .i64 1]) rfl rfl (x_call rfl (callFunc_enter Try.func10 rfl rfl) rfl) (laws_markGlasses.calls (a1 := r16) (a4 := 1) hs Hr28) ?_
      rintro _ w ⟨rfl, hs⟩
      have hs := St.unpack (Γ := [_]) hs
      have hs : St _ [_,_,_,_,_,_] _ := hs
      refine g_d rfl ?_
      refine g_op (v := Value.int .i64 r28.1) rfl rfl rfl (g_d rfl ?_)
      try dsimp only [set0,setS]
      refine g_ops_nil (g_seq (g_seq (g_rg [0, 1, 2, 3, 4, 5, 6, 7, 8, 9, 10, 11, 12] rfl ?_)))
      refine g_op (v := Value.int .i64 r28.1) rfl rfl rfl (g_d rfl ?_)
      refine g_op_b (B := decide (r28.1 < 0)) rfl rfl rfl ?_ ?_
      ·
       intro hb
       rw [if_pos (b_dec_t hb)] at H
       refine g_d rfl ?_
       refine g_op (v := Value.bool true) rfl rfl rfl (g_d rfl (g_op_not rfl rfl (g_d rfl (g_op_not rfl rfl (g_d rfl (g_op_not rfl rfl (g_d rfl ?_)))))))
       try dsimp only [set0,setS]
       refine g_op_not rfl rfl (g_d rfl ?_)
       refine g_op (v := Value.bool true) rfl rfl rfl (g_d rfl ?_)
       try dsimp only [set0,setS]
       refine g_op (v := Value.bool true) rfl rfl rfl (g_d rfl (g_op_not rfl rfl (g_d rfl (g_op_not rfl rfl (g_d rfl (g_op_not rfl rfl (g_d rfl ?_)))))))
       refine g_op (v := Value.bool true) rfl rfl rfl (g_d rfl ?_)
       try dsimp only [set0,setS]
       refine g_ops_nil (g_cond_true rfl (g_seq (g_rg [0] rfl ?_)))
       refine g_op (v := Value.bool false) rfl rfl rfl (g_d rfl (g_ops_nil ?_))
       refine g_ret Try.func3 (v := Value.bool false) (res1 rfl rfl) ?_
       have hs : St _ [] _ := St.take (Γ' := [_,_,_,_,_,_]) hs
       exact ⟨_, rfl, _, H, rfl, hs⟩
      intro hb
      rw [if_neg (b_dec_f hb)] at H
      refine g_d rfl ?_
      refine g_op (v := Value.bool false) rfl rfl rfl (g_d rfl ?_)
      refine g_op (v := v21) rfl rfl rfl (g_d rfl ?_)
      refine g_op (v := v12) rfl rfl rfl (g_d rfl ?_)
      obtain ⟨r29, Hr29, H⟩ := H
      refine s_call (args := [v21, v12]) rfl rfl (x_call rfl (callFunc_enter Try.func8 rfl rfl) rfl) (laws_eqTopsS.calls (a1 := r20.1) (a3 := r11.1) (hs.row 2 rfl) (hs.row 4 rfl) Hr29) ?_
      rintro _ w ⟨rfl, hs2⟩
      have hs : St _ [_,_,_,_,_,_] _ := hs.call hs2
      refine g_d rfl ?_
      try dsimp only [set0,setS]
      refine g_op (v := Value.bool (!r29)) rfl rfl rfl (g_d rfl ?_)
      refine g_op_b (B := !r29) rfl rfl rfl ?_ ?_
      ·
       intro hb
       rw [if_neg (b_not_t hb)] at H
       refine g_d rfl ?_
       refine g_op (v := Value.bool true) rfl rfl rfl (g_d rfl (g_op_not rfl rfl (g_d rfl (g_op_not rfl rfl (g_d rfl (g_op_not rfl rfl (g_d rfl ?_)))))))
       try dsimp only [set0,setS]
       refine g_op (v := Value.bool true) rfl rfl rfl (g_d rfl (g_ops_nil (g_cond_true rfl (g_seq (g_rg [0] rfl ?_)))))
       refine g_op (v := Value.bool false) rfl rfl rfl (g_d rfl ?_)
       try dsimp only [set0,setS]
       refine g_ops_nil ?_
       refine g_ret Try.func3 (v := Value.bool false) (res1 rfl rfl) ?_
       have hs : St _ [] _ := St.take (Γ' := [_,_,_,_,_,_]) hs
       exact ⟨_, rfl, _, H, rfl, hs⟩
      intro hb
      rw [if_pos (b_not_f hb)] at H
      refine g_d rfl ?_
      try dsimp only [set0,setS]
      refine g_op (v := Value.bool false) rfl rfl rfl (g_d rfl ?_)
      refine g_op (v := Value.int .i64 r20.2) rfl rfl rfl (g_d rfl ?_)
      refine g_op (v := Value.int .i64 r11.2) rfl rfl rfl (g_d rfl ?_)
      refine g_op_b (B := r20.2 != r11.2) rfl rfl rfl ?_ ?_
      ·
       intro hb
       rw [if_neg (b_bne_t hb)] at H
       refine g_d rfl ?_
       try dsimp only [set0,setS]
       refine g_op (v := Value.bool true) rfl rfl rfl (g_d rfl (g_ops_nil (g_cond_true rfl (g_seq (g_rg [0] rfl ?_)))))
       refine g_op (v := Value.bool false) rfl rfl rfl (g_d rfl ?_)
       try dsimp only [set0,setS]
       refine g_ops_nil ?_
       refine g_ret Try.func3 (v := Value.bool false) (res1 rfl rfl) ?_
       have hs : St _ [] _ := St.take (Γ' := [_,_,_,_,_,_]) hs
       exact ⟨_, rfl, _, H, rfl, hs⟩
      intro hb
      rw [if_pos (b_bne_f hb)] at H
      refine g_d rfl ?_
      refine g_op (v := Value.bool false) rfl rfl rfl (g_d rfl ?_)
      try dsimp only [set0,setS]
      refine g_ops_nil (g_cond_false rfl (g_skip (g_seq (g_rg [0] rfl ?_))))
      refine g_op (v := Value.int .i64 1) rfl rfl rfl (g_d rfl (g_ops_nil (g_seq (g_rg [0, 1, 2, 3] rfl ?_))))
      refine g_op (v := v21) rfl rfl rfl (g_d rfl ?_)
      refine g_op (v := Value.int .i64 1) rfl rfl rfl (g_d rfl ?_)
      obtain ⟨r30, Hr30, H⟩ := H
      have hs := hs.pull 2 rfl
      have hs : St _ [_,_,_,_,_,_] _ := hs
      have hs := hs.pack 1
      refine s_call (args := [v21, Value.int .i64 1]) rfl rfl (x_call rfl (callFunc_enter Try.func11 rfl rfl) rfl) (laws_markTopsS.calls (a1 := r20.1) (a4 := 1) hs Hr30) ?_
      rintro _ w ⟨rfl, hs⟩
      have hs := St.unpack (Γ := [_]) hs
      have hs : St _ [_,_,_,_,_,_] _ := hs
      refine g_d rfl ?_
      try dsimp only [set0,setS]
      refine g_op (v := Value.int .i64 r30.1) rfl rfl rfl (g_d rfl (g_ops_nil (g_seq (g_rg [0] rfl ?_))))
      refine g_op (v := Value.int .i64 1) rfl rfl rfl (g_d rfl ?_)
      try dsimp only [set0,setS]
      refine g_ops_nil (g_seq (g_rg [0, 1, 2, 3] rfl ?_))
      refine g_op (v := v21) rfl rfl rfl (g_d rfl ?_)
      refine g_op (v := Value.int .i64 1) rfl rfl rfl (g_d rfl ?_)
      obtain ⟨r31, Hr31, H⟩ := H
      refine s_call (args := [v21, Value.int .i64 1]) rfl rfl (x_call rfl (callFunc_enter Try.func12 rfl rfl) rfl) (laws_heldTopsS.calls (a1 := r30.2) (a3 := 1) (hs.row 0 rfl) Hr31) ?_
      rintro _ w ⟨rfl, hs2⟩
      have hs : St _ [_,_,_,_,_,_] _ := hs.call hs2
      refine g_d rfl ?_
      refine g_op (v := Value.int .i64 r31) rfl rfl rfl (g_d rfl ?_)
      try dsimp only [set0,setS]
      refine g_ops_nil (g_seq (g_seq (g_rg [0, 1] rfl ?_)))
      refine g_op (v := Value.int .i64 r31) rfl rfl rfl (g_d rfl ?_)
      refine g_op_b (B := decide (r31 < 0)) rfl rfl rfl ?_ ?_
      ·
       intro hb
       rw [if_pos (b_dec_t hb)] at H
       refine g_d rfl ?_
       try dsimp only [set0,setS]
       refine g_ops_nil (g_cond_true rfl (g_seq (g_rg [0] rfl ?_)))
       refine g_op (v := Value.bool false) rfl rfl rfl (g_d rfl (g_ops_nil ?_))
       refine g_ret Try.func3 (v := Value.bool false) (res1 rfl rfl) ?_
       have hs : St _ [] _ := St.take (Γ' := [_,_,_,_,_,_]) hs
       exact ⟨_, rfl, _, H, rfl, hs⟩
      intro hb
      rw [if_neg (b_dec_f hb)] at H
      refine g_d rfl (g_ops_nil (g_cond_false rfl (g_skip (g_seq (g_seq (g_rg [0, 1, 2] rfl ?_))))))
      refine g_op (v := Value.int .i64 r31) rfl rfl rfl (g_d rfl ?_)
      refine g_op (v := Value.int .i64 r30.1) rfl rfl rfl (g_d rfl ?_)
      refine g_op_b (B := r31 != r30.1) rfl rfl rfl ?_ ?_
      ·
       intro hb
       rw [if_neg (b_bne_t hb)] at H
       refine g_d rfl ?_
       try dsimp only [set0,setS]
       refine g_ops_nil (g_cond_true rfl (g_seq (g_rg [0] rfl ?_)))
       refine g_op (v := Value.bool false) rfl rfl rfl (g_d rfl (g_ops_nil ?_))
       refine g_ret Try.func3 (v := Value.bool false) (res1 rfl rfl) ?_
       have hs : St _ [] _ := St.take (Γ' := [_,_,_,_,_,_]) hs
       exact ⟨_, rfl, _, H, rfl, hs⟩
      intro hb
      rw [if_pos (b_bne_f hb)] at H
      refine g_d rfl ?_
      try dsimp only [set0,setS]
      refine g_ops_nil (g_cond_false rfl (g_skip (g_seq ?_)))
      obtain ⟨r32, Hr32, H⟩ := H
      obtain ⟨r35, Hr35, H⟩ := H
      obtain ⟨r36, Hr36, H⟩ := H
      refine g_name ?_
      intro T hT
      refine g_any (n := 11) rfl [0, 1, 2, 3, 4, 5, 6, 7, 8, 9, 10] [0, 1, 2, 3, 4, 5, 6, 7, 9, 8, 10] rfl rfl (Inv := fun D t w => ∃ v33 : Value, ∃ v37 : Value, ∃ O : Nat → Value, t = (v2::Value.agg ((encA (encI .i16)) a3).toArray::Value.int .i64 a4::O 3::Value.pointer (some ⟨b5, 0, none⟩)::O 5::Value.bool false::v12::Value.int .i64 r11.2::v17::v21::Value.int .i64 r20.2::Value.int .i64 r28.1::Value.int .i64 r30.1::Value.int .i64 r31::cnd (D 9) v37 (O 15)::cnd (D 10) (Value.int .i64 r36.2) (O 16)::v2::Value.int .i64 (a1.length : Int)::Value.bool false::Value.tuple #[v12, Value.int .i64 r11.2]::v2::v8::Value.agg ((encA (encI .i16)) a3).toArray::Value.agg ((encA (encI .i16)) r10).toArray::Value.int .i64 a4::Value.tuple #[v12, Value.int .i64 r11.2]::v12::Value.int .i64 r11.2::v2::v17::Value.tuple #[v21, Value.int .i64 r20.2]::v17::Value.agg ((encA (encI .i16)) a3).toArray::Value.agg ((encA (encI .i16)) r19).toArray::Value.int .i64 a4::Value.tuple #[v21, Value.int .i64 r20.2]::v21::Value.int .i64 r20.2::v21::v12::Value.bool true::Value.bool false::Value.bool false::Value.int .i64 r20.2::Value.int .i64 r11.2::Value.bool false::Value.bool false::v17::v2::v25::Value.bool true::Value.bool false::v17::Value.int .i64 1::Value.int .i64 r28.1::Value.int .i64 r28.1::Value.bool false::Value.bool false::v21::v12::Value.bool r29::Value.bool (!r29)::Value.bool false::Value.bool false::Value.int .i64 r20.2::Value.int .i64 r11.2::Value.bool false::Value.bool false::v21::Value.int .i64 1::Value.int .i64 r30.1::v21::Value.int .i64 1::Value.int .i64 r31::Value.int .i64 r31::Value.bool false::Value.int .i64 r31::Value.int .i64 r30.1::Value.bool false::cnd (D 6) (Value.tuple #[v37, Value.int .i64 r36.2]) (O 80)::cnd (D 0) v2 (O 81)::cnd (D 1) v33 (O 82)::cnd (D 2) (Value.agg ((encA (encI .i16)) a3).toArray) (O 83)::cnd (D 3) (Value.agg ((encA (encI .i16)) r35).toArray) (O 84)::cnd (D 4) (Value.int .i64 a4) (O 85)::cnd (D 5) (Value.tuple #[v37, Value.int .i64 r36.2]) (O 86)::cnd (D 7) v37 (O 87)::cnd (D 8) (Value.int .i64 r36.2) (O 88)::O 89::O 90::O 91::O 92::O 93::O 94::O 95::O 96::O 97::O 98::O 99::O 100::O 101::O 102::O 103::O 104::O 105::[]) ∧ St w0 [Asc (D 1) (Row 23 (K.int .i16) v33 r32), Asc (D 5) (Row 30 (K.ar 4 1 (encI .i16) (fkI .i16).len (fkI .i16).one) v37 r36.1), Row 30 (K.ar 4 1 (encI .i16) (fkI .i16).len (fkI .i16).one) v21 r30.2, Row 23 (K.int .i16) v17 r28.2, Row 23 (K.int .i16) v25 r24, Row 23 (K.int .i16) v8 r7, Row 30 (K.ar 4 1 (encI .i16) (fkI .i16).len (fkI .i16).one) v12 r11.1, Cells b5 ((encA (encI .i16)) a3) 24] w) ?_ ⟨⟨⟨⟨⟨⟨⟨⟨⟨⟨⟨trivial, ?_⟩, ?_⟩, ?_⟩, ?_⟩, ?_⟩, ?_⟩, ?_⟩, ?_⟩, ?_⟩, ?_⟩, ?_⟩ ?_
      ·
       intro w hh hbw
       have hs := hs.samew hh hbw
       have hs := hs.emp
       have hs := hs.emp
       exact ⟨undef, undef, fun i => T.getD i undef, (by subst hT; rfl), hs⟩
      ·
       rintro D t w hD hp hcl ⟨v33, v37, O, ht, hs⟩ rest hk
       have q1_ := nz hcl 1 0 hD
       have q3_ := nz hcl 3 1 q1_
       have q5_ := nz hcl 5 0 q1_
       have q6_ := nz hcl 6 0 q5_
       have q7_ := nz hcl 7 0 q6_
       have q8_ := nz hcl 8 0 q6_
       have q9_ := nz hcl 9 0 q7_
       have q10_ := nz hcl 10 0 q8_
       simp only [hD, q1_, q3_, q5_, q6_, q7_, q8_, q9_, q10_, cq] at ht hs
       subst ht
       refine g_op (v := v2) rfl rfl rfl (g_d rfl ?_)
       try dsimp only [set0,setS]
       refine hk _ _ ⟨v33, v37, O, ?_, hs.cast ?_⟩ <;> simp only [lq, cq, Nat.reduceBEq, q1_, q3_, q5_, q6_, q7_, q8_, q9_, q10_]
      ·
       rintro D t w hD hp hcl ⟨v33, v37, O, ht, hs⟩ rest hk
       obtain ⟨p0_, _⟩ := hp
       have q3_ := nz hcl 3 1 hD
       have q5_ := nz hcl 5 0 hD
       have q6_ := nz hcl 6 0 q5_
       have q7_ := nz hcl 7 0 q6_
       have q8_ := nz hcl 8 0 q6_
       have q9_ := nz hcl 9 0 q7_
       have q10_ := nz hcl 10 0 q8_
       simp only [hD, p0_, q3_, q5_, q6_, q7_, q8_, q9_, q10_, cq] at ht hs
       subst ht
       refine s_call (args := [v2]) rfl rfl (x_call rfl (callFunc_enter Try.func5 rfl rfl) rfl) (laws_toGlasses.calls (a1 := a1) (hs.rd hr0) Hr32) ?_
       intro v33 w hs2
       have hs : St _ [_,_,_,_,_,_,_,_,_] _ := hs.call hs2
       refine g_d rfl ?_
       try dsimp only [set0,setS]
       have hs := hs.fill 0 rfl
       refine hk _ _ ⟨v33, v37, O, ?_, hs.cast ?_⟩ <;> simp only [lq, cq, Nat.reduceBEq, p0_, q3_, q5_, q6_, q7_, q8_, q9_, q10_]
      ·
       rintro D t w hD hp hcl ⟨v33, v37, O, ht, hs⟩ rest hk
       have q3_ := nz hcl 3 0 hD
       have q5_ := nz hcl 5 1 q3_
       have q6_ := nz hcl 6 0 q5_
       have q7_ := nz hcl 7 0 q6_
       have q8_ := nz hcl 8 0 q6_
       have q9_ := nz hcl 9 0 q7_
       have q10_ := nz hcl 10 0 q8_
       simp only [hD, q3_, q5_, q6_, q7_, q8_, q9_, q10_, cq] at ht hs
       subst ht
       refine s_loadA rfl rfl (es := ((encA (encI .i16)) a3)) rfl rfl (fun _ => rfl) (n := 4) (fun _ => rfl) ((fkA (n := 4) (he := (fkI .i16).len) (h1 := (fkI .i16).one)).len _) (cells_all (hs.cells 7 rfl)) (g_d rfl ?_)
       try dsimp only [set0,setS]
       refine hk _ _ ⟨v33, v37, O, ?_, hs.cast ?_⟩ <;> simp only [lq, cq, Nat.reduceBEq, q3_, q5_, q6_, q7_, q8_, q9_, q10_]
      ·
       rintro D t w hD hp hcl ⟨v33, v37, O, ht, hs⟩ rest hk
       obtain ⟨p2_, p1_, _⟩ := hp
       obtain ⟨p0_, _⟩ := (hcl.get 1 (by decide)) p1_
       have q5_ := nz hcl 5 1 hD
       have q6_ := nz hcl 6 0 q5_
       have q7_ := nz hcl 7 0 q6_
       have q8_ := nz hcl 8 0 q6_
       have q9_ := nz hcl 9 0 q7_
       have q10_ := nz hcl 10 0 q8_
       simp only [hD, p0_, p1_, p2_, q5_, q6_, q7_, q8_, q9_, q10_, cq] at ht hs
       subst ht
       refine s_call (args := [Value.agg ((encA (encI .i16)) a3).toArray]) rfl rfl (x_call rfl (callFunc_enter Try.func6 rfl rfl) rfl) (laws_toTops.calls (a1 := a3) Hr35) ?_
       rintro _ w ⟨rfl, hs2⟩
       have hs : St _ [_,_,_,_,_,_,_,_] _ := hs.call hs2
       refine g_d rfl ?_
       try dsimp only [set0,setS]
       refine hk _ _ ⟨v33, v37, O, ?_, hs.cast ?_⟩ <;> simp only [lq, cq, Nat.reduceBEq, p0_, p1_, p2_, q5_, q6_, q7_, q8_, q9_, q10_]
      ·
       rintro D t w hD hp hcl ⟨v33, v37, O, ht, hs⟩ rest hk
       have q5_ := nz hcl 5 2 hD
       have q6_ := nz hcl 6 0 q5_
       have q7_ := nz hcl 7 0 q6_
       have q8_ := nz hcl 8 0 q6_
       have q9_ := nz hcl 9 0 q7_
       have q10_ := nz hcl 10 0 q8_
       simp only [hD, q5_, q6_, q7_, q8_, q9_, q10_, cq] at ht hs
       subst ht
       refine g_op (v := Value.int .i64 a4) rfl rfl rfl (g_d rfl ?_)
       try dsimp only [set0,setS]
       refine hk _ _ ⟨v33, v37, O, ?_, hs.cast ?_⟩ <;> simp only [lq, cq, Nat.reduceBEq, q5_, q6_, q7_, q8_, q9_, q10_]
      ·
       rintro D t w hD hp hcl ⟨v33, v37, O, ht, hs⟩ rest hk
       obtain ⟨p1_, p3_, p4_, _, _⟩ := hp
       obtain ⟨p2_, _, _⟩ := (hcl.get 3 (by decide)) p3_
       obtain ⟨p0_, _⟩ := (hcl.get 1 (by decide)) p1_
       have q6_ := nz hcl 6 0 hD
       have q7_ := nz hcl 7 0 q6_
       have q8_ := nz hcl 8 0 q6_
       have q9_ := nz hcl 9 0 q7_
       have q10_ := nz hcl 10 0 q8_
       simp only [hD, p0_, p1_, p2_, p3_, p4_, q6_, q7_, q8_, q9_, q10_, cq] at ht hs
       subst ht
       refine s_call (args := [v33, Value.agg ((encA (encI .i16)) r35).toArray, Value.int .i64 a4]) rfl rfl (x_call rfl (callFunc_enter Try.func7 rfl rfl) rfl) (impl_TopsAfter.calls (a1 := r32) (a3 := r35) (a4 := a4) (hs.row 0 rfl) Hr36) ?_
       rintro _ w ⟨_, rfl, v37, rfl, hs2⟩
       have hs : St _ [_,_,_,_,_,_,_,_,_] _ := hs.call hs2
       refine g_d rfl ?_
       try dsimp only [set0,setS]
       have hs := hs.fill 1 rfl
       refine hk _ _ ⟨v33, v37, O, ?_, hs.cast ?_⟩ <;> simp only [lq, cq, Nat.reduceBEq, p0_, p1_, p2_, p3_, p4_, q6_, q7_, q8_, q9_, q10_]
      ·
       rintro D t w hD hp hcl ⟨v33, v37, O, ht, hs⟩ rest hk
       obtain ⟨p5_, _⟩ := hp
       obtain ⟨p1_, p3_, p4_, _, _⟩ := (hcl.get 5 (by decide)) p5_
       obtain ⟨p2_, _, _⟩ := (hcl.get 3 (by decide)) p3_
       obtain ⟨p0_, _⟩ := (hcl.get 1 (by decide)) p1_
       have q7_ := nz hcl 7 0 hD
       have q8_ := nz hcl 8 0 hD
       have q9_ := nz hcl 9 0 q7_
       have q10_ := nz hcl 10 0 q8_
       simp only [hD, p0_, p1_, p2_, p3_, p4_, p5_, q7_, q8_, q9_, q10_, cq] at ht hs
       subst ht
       refine g_op (v := Value.tuple #[v37, Value.int .i64 r36.2]) rfl rfl rfl (g_d rfl ?_)
       try dsimp only [set0,setS]
       refine hk _ _ ⟨v33, v37, O, ?_, hs.cast ?_⟩ <;> simp only [lq, cq, Nat.reduceBEq, p0_, p1_, p2_, p3_, p4_, p5_, q7_, q8_, q9_, q10_]
      ·
       rintro D t w hD hp hcl ⟨v33, v37, O, ht, hs⟩ rest hk
       obtain ⟨p6_, _⟩ := hp
       obtain ⟨p5_, _⟩ := (hcl.get 6 (by decide)) p6_
       obtain ⟨p1_, p3_, p4_, _, _⟩ := (hcl.get 5 (by decide)) p5_
       obtain ⟨p2_, _, _⟩ := (hcl.get 3 (by decide)) p3_
       obtain ⟨p0_, _⟩ := (hcl.get 1 (by decide)) p1_
       have q9_ := nz hcl 9 0 hD
       have q10_ := nz hcl 10 1 q9_
       simp only [hD, p0_, p1_, p2_, p3_, p4_, p5_, p6_, q9_, q10_, cq] at ht hs
       subst ht
       refine g_op (v := v37) rfl rfl rfl (g_d rfl ?_)
       try dsimp only [set0,setS]
       refine hk _ _ ⟨v33, v37, O, ?_, hs.cast ?_⟩ <;> simp only [lq, cq, Nat.reduceBEq, p0_, p1_, p2_, p3_, p4_, p5_, p6_, q9_, q10_]
      ·
       rintro D t w hD hp hcl ⟨v33, v37, O, ht, hs⟩ rest hk
       obtain ⟨p6_, _⟩ := hp
       obtain ⟨p5_, _⟩ := (hcl.get 6 (by decide)) p6_
       obtain ⟨p1_, p3_, p4_, _, _⟩ := (hcl.get 5 (by decide)) p5_
       obtain ⟨p2_, _, _⟩ := (hcl.get 3 (by decide)) p3_
       obtain ⟨p0_, _⟩ := (hcl.get 1 (by decide)) p1_
       have q10_ := nz hcl 10 0 hD
       simp only [hD, p0_, p1_, p2_, p3_, p4_, p5_, p6_, q10_, cq] at ht hs
       subst ht
       refine g_op (v := Value.int .i64 r36.2) rfl rfl rfl (g_d rfl ?_)
       try dsimp only [set0,setS]
       refine hk _ _ ⟨v33, v37, O, ?_, hs.cast ?_⟩ <;> simp only [lq, cq, Nat.reduceBEq, p0_, p1_, p2_, p3_, p4_, p5_, p6_, q10_]
      ·
       rintro D t w hD hp hcl ⟨v33, v37, O, ht, hs⟩ rest hk
       obtain ⟨p7_, p5_, p0_, p1_, p2_, p3_, p4_, _, p6_, _, _⟩ := hp
       have q10_ := nz hcl 10 1 hD
       simp only [hD, p0_, p1_, p2_, p3_, p4_, p5_, p6_, p7_, q10_, cq] at ht hs
       subst ht
       refine g_op (v := v37) rfl rfl rfl (g_d rfl ?_)
       try dsimp only [set0,setS]
       refine hk _ _ ⟨v33, v37, O, ?_, hs.cast ?_⟩ <;> simp only [lq, cq, Nat.reduceBEq, p0_, p1_, p2_, p3_, p4_, p5_, p6_, p7_, q10_]
      ·
       rintro D t w hD hp hcl ⟨v33, v37, O, ht, hs⟩ rest hk
       obtain ⟨p8_, p9_, p0_, p1_, p2_, p3_, p4_, p5_, p6_, p7_, _, _, _⟩ := hp
       simp only [hD, p0_, p1_, p2_, p3_, p4_, p5_, p6_, p7_, p8_, p9_, cq] at ht hs
       subst ht
       refine g_op (v := Value.int .i64 r36.2) rfl rfl rfl (g_d rfl ?_)
       try dsimp only [set0,setS]
       refine hk _ _ ⟨v33, v37, O, ?_, hs.cast ?_⟩ <;> simp only [lq, cq, Nat.reduceBEq, p0_, p1_, p2_, p3_, p4_, p5_, p6_, p7_, p8_, p9_]
      intro D t w hall hI
      obtain ⟨v33, v37, O, ht, hs⟩ := hI
      have p0_ := hall 0 (by decide)
      have p1_ := hall 1 (by decide)
      have p2_ := hall 2 (by decide)
      have p3_ := hall 3 (by decide)
      have p4_ := hall 4 (by decide)
      have p5_ := hall 5 (by decide)
      have p6_ := hall 6 (by decide)
      have p7_ := hall 7 (by decide)
      have p8_ := hall 8 (by decide)
      have p9_ := hall 9 (by decide)
      have p10_ := hall 10 (by decide)
      simp only [p0_, p1_, p2_, p3_, p4_, p5_, p6_, p7_, p8_, p9_, p10_, cq] at ht hs
      subst ht
      refine g_seq (g_seq (g_rg [0, 1, 2, 3, 4, 5, 6, 7, 8] rfl ?_))
      refine g_op (v := v37) rfl rfl rfl (g_d rfl ?_)
      refine g_op (v := v12) rfl rfl rfl (g_d rfl ?_)
      obtain ⟨r41, Hr41, H⟩ := H
      refine s_call (args := [v37, v12]) rfl rfl (x_call rfl (callFunc_enter Try.func8 rfl rfl) rfl) (laws_eqTopsS.calls (a1 := r36.1) (a3 := r11.1) (hs.row 1 rfl) (hs.row 6 rfl) Hr41) ?_
      rintro _ w ⟨rfl, hs2⟩
      have hs : St _ [_,_,_,_,_,_,_,_] _ := hs.call hs2
      cases r41 with
      | true =>
        rw [if_pos rfl] at H
        refine g_d rfl ?_
        refine g_op (v := Value.bool false) rfl rfl rfl (g_d rfl ?_)
        try dsimp only [set0,setS]
        refine g_op (v := Value.bool false) rfl rfl rfl (g_d rfl ?_)
        refine g_op (v := Value.int .i64 r36.2) rfl rfl rfl (g_d rfl ?_)
        refine g_op (v := Value.int .i64 r11.2) rfl rfl rfl (g_d rfl ?_)
        refine g_op_b (B := r36.2 != r11.2) rfl rfl rfl ?_ ?_
        ·
         intro hb
         rw [if_neg (b_bne_t hb)] at H
         refine g_d rfl ?_
         refine g_op (v := Value.bool true) rfl rfl rfl (g_d rfl ?_)
         try dsimp only [set0,setS]
         refine g_ops_nil (g_cond_true rfl (g_seq (g_rg [0] rfl ?_)))
         refine g_op (v := Value.bool false) rfl rfl rfl (g_d rfl (g_ops_nil ?_))
         refine g_ret Try.func3 (v := Value.bool false) (res1 rfl rfl) ?_
         have hs : St _ [] _ := St.take (Γ' := [_,_,_,_,_,_,_,_]) hs
         exact ⟨_, rfl, _, H, rfl, hs⟩
        intro hb
        rw [if_pos (b_bne_f hb)] at H
        refine g_d rfl ?_
        refine g_op (v := Value.bool false) rfl rfl rfl (g_d rfl ?_)
        try dsimp only [set0,setS]
        refine g_ops_nil (g_cond_false rfl (g_skip (g_seq (g_rg [0] rfl ?_))))
        refine g_op (v := Value.int .i64 1) rfl rfl rfl (g_d rfl (g_ops_nil (g_seq (g_rg [0, 1, 2, 3] rfl ?_))))
        refine g_op (v := v21) rfl rfl rfl (g_d rfl ?_)
        refine g_op (v := Value.int .i64 1) rfl rfl rfl (g_d rfl ?_)
        obtain ⟨r42, Hr42, H⟩ := H
        refine s_call (args := [v21, Value.int .i64 1]) rfl rfl (x_call rfl (callFunc_enter Try.func12 rfl rfl) rfl) (laws_heldTopsS.calls (a1 := r30.2) (a3 := 1) (hs.row 2 rfl) Hr42) ?_
        rintro _ w ⟨rfl, hs2⟩
        have hs : St _ [_,_,_,_,_,_,_,_] _ := hs.call hs2
        refine g_d rfl ?_
        try dsimp only [set0,setS]
        refine g_op (v := Value.int .i64 r42) rfl rfl rfl (g_d rfl (g_ops_nil (g_seq (g_seq (g_rg [0, 1] rfl ?_)))))
        refine g_op (v := Value.int .i64 r42) rfl rfl rfl (g_d rfl ?_)
        refine g_op_b (B := decide (r42 < 0)) rfl rfl rfl ?_ ?_
        ·
         intro hb
         rw [if_pos (b_dec_t hb)] at H
         refine g_d rfl ?_
         try dsimp only [set0,setS]
         refine g_ops_nil (g_cond_true rfl (g_seq (g_rg [0] rfl ?_)))
         refine g_op (v := Value.bool false) rfl rfl rfl (g_d rfl (g_ops_nil ?_))
         refine g_ret Try.func3 (v := Value.bool false) (res1 rfl rfl) ?_
         have hs : St _ [] _ := St.take (Γ' := [_,_,_,_,_,_,_,_]) hs
         exact ⟨_, rfl, _, H, rfl, hs⟩
        intro hb
        rw [if_neg (b_dec_f hb)] at H
        refine g_d rfl ?_
        try dsimp only [set0,setS]
        refine g_ops_nil (g_cond_false rfl (g_skip (g_seq (g_seq (g_rg [0, 1, 2] rfl ?_)))))
        refine g_op (v := Value.int .i64 r42) rfl rfl rfl (g_d rfl ?_)
        refine g_op (v := Value.int .i64 r30.1) rfl rfl rfl (g_d rfl ?_)
        refine g_op_b (B := r42 != r30.1) rfl rfl rfl ?_ ?_
        ·
         intro hb
         rw [if_neg (b_bne_t hb)] at H
         refine g_d rfl ?_
         try dsimp only [set0,setS]
         refine g_ops_nil (g_cond_true rfl (g_seq (g_rg [0] rfl ?_)))
         refine g_op (v := Value.bool false) rfl rfl rfl (g_d rfl (g_ops_nil ?_))
         refine g_ret Try.func3 (v := Value.bool false) (res1 rfl rfl) ?_
         have hs : St _ [] _ := St.take (Γ' := [_,_,_,_,_,_,_,_]) hs
         exact ⟨_, rfl, _, H, rfl, hs⟩
        intro hb
        rw [if_pos (b_bne_f hb)] at H
        refine g_d rfl (g_ops_nil (g_cond_false rfl (g_skip (g_seq (g_rg [0] rfl ?_)))))
        refine g_op (v := Value.bool true) rfl rfl rfl (g_d rfl ?_)
        try dsimp only [set0,setS]
        refine g_ops_nil ?_
        refine g_ret Try.func3 (v := Value.bool true) (res1 rfl rfl) ?_
        have hs : St _ [] _ := St.take (Γ' := [_,_,_,_,_,_,_,_]) hs
        exact ⟨_, rfl, _, H, rfl, hs⟩
      | false =>
        rw [if_neg Bool.false_ne_true] at H
        refine g_d rfl ?_
        refine g_op (v := Value.bool true) rfl rfl rfl (g_d rfl ?_)
        try dsimp only [set0,setS]
        refine g_op (v := Value.bool true) rfl rfl rfl (g_d rfl (g_op_not rfl rfl (g_d rfl (g_op_not rfl rfl (g_d rfl (g_op_not rfl rfl (g_d rfl ?_)))))))
        refine g_op (v := Value.bool true) rfl rfl rfl (g_d rfl ?_)
        try dsimp only [set0,setS]
        refine g_ops_nil (g_cond_true rfl (g_seq (g_rg [0] rfl ?_)))
        refine g_op (v := Value.bool false) rfl rfl rfl (g_d rfl (g_ops_nil ?_))
        refine g_ret Try.func3 (v := Value.bool false) (res1 rfl rfl) ?_
        have hs : St _ [] _ := St.take (Γ' := [_,_,_,_,_,_,_,_]) hs
        exact ⟨_, rfl, _, H, rfl, hs⟩
    | false =>
      rw [if_neg Bool.false_ne_true] at H
      refine g_d rfl ?_
      try dsimp only [set0,setS]
      refine g_op (v := Value.bool true) rfl rfl rfl (g_d rfl (g_ops_nil (g_cond_true rfl (g_seq (g_rg [0] rfl ?_)))))
      refine g_op (v := Value.bool false) rfl rfl rfl (g_d rfl ?_)
      try dsimp only [set0,setS]
      refine g_ops_nil ?_
      refine g_ret Try.func3 (v := Value.bool false) (res1 rfl rfl) ?_
      have hs : St _ [] _ := St.take (Γ' := [_,_,_,_,_,_]) hs
      exact ⟨_, rfl, _, H, rfl, hs⟩
  | false =>
    rw [if_neg Bool.false_ne_true] at H
    refine g_d rfl ?_
    refine g_op (v := Value.bool true) rfl rfl rfl (g_d rfl ?_)
    try dsimp only [set0,setS]
    refine g_op (v := Value.bool true) rfl rfl rfl (g_d rfl (g_op_not rfl rfl (g_d rfl (g_op_not rfl rfl (g_d rfl (g_op_not rfl rfl (g_d rfl ?_)))))))
    refine g_op (v := Value.bool true) rfl rfl rfl (g_d rfl ?_)
    try dsimp only [set0,setS]
    refine g_ops_nil (g_cond_true rfl (g_seq (g_rg [0] rfl ?_)))
    refine g_op (v := Value.bool false) rfl rfl rfl (g_d rfl (g_ops_nil ?_))
    refine g_ret Try.func3 (v := Value.bool false) (res1 rfl rfl) ?_
    have hs : St _ [] _ := St.take (Γ' := [_,_,_,_,_]) hs
    exact ⟨_, rfl, _, H, rfl, hs⟩

end Go.Proofs.YtmnaclghakalmaaX
