/- Contracts, printed by gen.py. -/
import Derived.Test.YtcaokmnajnfpiaaXT
import Derived.Test.YtcaokmnajnfpiaaProg
import Derived.Test.YtcaokmnajnfpiaaXRowR
import Derived.Test.YtcaokmnajnfpiaaXSq
import Derived.Test.YtcaokmnajnfpiaaXSeg
import Derived.Test.YtcaokmnajnfpiaaXKey
import Derived.Test.YtcaokmnajnfpiaaXC2
import Derived.Test.YtcaokmnajnfpiaaXC3
import Derived.Test.YtcaokmnajnfpiaaXC5
import Derived.Test.YtcaokmnajnfpiaaXC6
import Derived.Test.YtcaokmnajnfpiaaXC7
import Derived.Test.YtcaokmnajnfpiaaXC8
namespace Go.Proofs.YtcaokmnajnfpiaaX
open Go Go.RowKit Go.Proofs
set_option linter.unusedVariables false
set_option linter.unusedSimpArgs false
/- function 25 spec_l05Find -/
set_option maxHeartbeats 8000000 in
set_option maxRecDepth 100000 in
theorem spec_l05Find.calls {N : Nat} {a1 : S_impl_Ferry} {b2 : Nat} {v3 : Value} {w0 : World} {r : S_spec_l05Search} (hr4 : RdRow (K.int .u16) w0 v3 a1.f_Rules) (hp0 : w0.heap[b2]? = some (.cells ((([Value.int .i8 a1.f_Things, Value.int .i8 a1.f_Boat, v3] : List Value)) : List Value).toArray 27 (0, 0))) (H : spec_l05Find.f N a1 = some r) :
    Calls Try.prog 25 #[Value.pointer (some ⟨b2, 0, none⟩)] w0 fun e w => ∃ v, e = .returned v ∧ spec_l05Find.post w0 r v w := by
  unfold spec_l05Find.f at H
  have hs : St w0 [] w0 := St.refl w0
  refine calls_of_g (n := 169) Try.func25 rfl rfl ?_
  show G _ _ _ _ (_::_::_::_::_::_::_::_::_::_::_::_::_::_::_::_::_::_::_::_::_::_::_::_::_::_::_::_::_::_::_::_::_::_::_::_::_::_::_::_::_::_::_::_::_::_::_::_::_::_::_::_::_::_::_::_::_::_::_::_::_::_::_::_::_::_::_::_::_::_::_::_::_::_::_::_::_::_::_::_::_::_::_::_::_::_::_::_::_::_::_::_::_::_::_::_::_::_::_::_::_::_::_::_::_::_::_::_::_::_::_::_::_::_::_::_::_::_::_::_::_::_::_::_::_::_::_::_::_::_::_::_::_::_::_::_::_::_::_::_::_::_::_::_::_::_::_::_::_::_::_::_::_::_::_::_::_::_::_::_::_::_::_::_::_::_::_::_::_::_::[]) _
  refine g_seq (g_region ?_)
  show G _ _ _ (.inRegion _ [0] :: _) _ _
  refine g_op (v := Value.pointer none) rfl rfl rfl (g_d rfl ?_)
  try dsimp only [set0,setS]
  refine g_ops_nil (g_seq (g_region ?_))
  show G _ _ _ (.inRegion _ [0, 1, 2, 3, 4, 5] :: _) _ _
  refine g_op (v := Value.pointer (some ⟨b2, 0, none⟩)) rfl rfl rfl (g_d rfl ?_)
  obtain ⟨r6, Hr6, H⟩ := bind_get H
  refine s_call (args := [Value.pointer (some ⟨b2, 0, none⟩)]) rfl rfl (x_call rfl (callFunc_enter Try.func30 rfl rfl) rfl) (spec_l05All.calls (a1 := (⟨a1.f_Things, a1.f_Boat, a1.f_Rules⟩ : S_impl_Ferry)) (hs.rd hr4) (hs.box hp0) Hr6) ?_
  rintro _ w ⟨rfl, hs2⟩
  have hs : St _ [] _ := hs.call hs2
  refine g_d rfl ?_
  try dsimp only [set0,setS]
  refine g_op (v := Value.int .i64 (i64w r6)) rfl rfl rfl (g_d rfl ?_)
  refine g_op (v := Value.int .i64 (i64w ((i64w r6) + 1))) rfl rfl rfl (g_d rfl ?_)
  try dsimp only [set0,setS]
  refine g_op (v := Value.int .i64 (i64w (2 * (i64w ((i64w r6) + 1))))) rfl rfl rfl (g_d rfl ?_)
  try dsimp only [set0,setS]
  refine g_op (v := Value.int .i64 (i64w (2 * (i64w ((i64w r6) + 1))))) rfl rfl rfl (g_d rfl ?_)
  try dsimp only [set0,setS]
  refine g_ops_nil (g_seq ?_)
  obtain ⟨gq1_, H⟩ := ite_get H
  obtain ⟨gq3_, H⟩ := ite_get H
  obtain ⟨gq5_, H⟩ := ite_get H
  obtain ⟨gq7_, H⟩ := ite_get H
  refine g_name ?_
  intro T hT
  refine g_any (n := 11) rfl [0, 1, 2, 3, 4, 5, 6, 7, 8, 9, 10] [0, 1, 2, 3, 4, 5, 6, 7, 8, 9, 10] rfl rfl (Inv := fun D t w => ∃ v7 : Value, ∃ v9 : Value, ∃ v11 : Value, ∃ v13 : Value, ∃ b15 : Nat, ∃ O : Nat → Value, t = (Value.pointer (some ⟨b2, 0, none⟩)::O 1::Value.pointer none::Value.int .i64 (i64w (2 * (i64w ((i64w r6) + 1))))::cnd (D 10) (Value.pointer (some ⟨b15, 0, none⟩)) (O 4)::O 5::O 6::O 7::O 8::O 9::O 10::O 11::O 12::O 13::O 14::O 15::Value.pointer (some ⟨b2, 0, none⟩)::Value.int .u16 r6::Value.int .i64 (i64w r6)::Value.int .i64 (i64w ((i64w r6) + 1))::Value.int .i64 (i64w (2 * (i64w ((i64w r6) + 1))))::cnd (D 0) (Value.int .i64 (i64w (2 * (i64w ((i64w r6) + 1))))) (O 21)::cnd (D 1) v7 (O 22)::cnd (D 2) (Value.int .i64 (i64w (2 * (i64w ((i64w r6) + 1))))) (O 23)::cnd (D 3) v9 (O 24)::cnd (D 4) (Value.int .i64 (i64w (2 * (i64w ((i64w r6) + 1))))) (O 25)::cnd (D 5) v11 (O 26)::cnd (D 6) (Value.int .i64 (i64w (2 * (i64w ((i64w r6) + 1))))) (O 27)::cnd (D 7) v13 (O 28)::cnd (D 8) (Value.agg (([v7, v9, v11, v13] : List Value)).toArray) (O 29)::cnd (D 9) (Value.pointer (some ⟨b15, 0, none⟩)) (O 30)::O 31::O 32::O 33::O 34::O 35::O 36::O 37::O 38::O 39::O 40::O 41::O 42::O 43::O 44::O 45::O 46::O 47::O 48::O 49::O 50::O 51::O 52::O 53::O 54::O 55::O 56::O 57::O 58::O 59::O 60::O 61::O 62::O 63::O 64::O 65::O 66::O 67::O 68::O 69::O 70::O 71::O 72::O 73::O 74::O 75::O 76::O 77::O 78::O 79::O 80::O 81::O 82::O 83::O 84::O 85::O 86::O 87::O 88::O 89::O 90::O 91::O 92::O 93::O 94::O 95::O 96::O 97::O 98::O 99::O 100::O 101::O 102::O 103::O 104::O 105::O 106::O 107::O 108::O 109::O 110::O 111::O 112::O 113::O 114::O 115::O 116::O 117::O 118::O 119::O 120::O 121::O 122::O 123::O 124::O 125::O 126::O 127::O 128::O 129::O 130::O 131::O 132::O 133::O 134::O 135::O 136::O 137::O 138::O 139::O 140::O 141::O 142::O 143::O 144::O 145::O 146::O 147::O 148::O 149::O 150::O 151::O 152::O 153::O 154::O 155::O 156::O 157::O 158::O 159::O 160::O 161::O 162::O 163::O 164::O 165::O 166::O 167::O 168::O 169::[]) ∧ St w0 [Asc (D 1) (Row 52 (K.int .i16) v7 (List.replicate ((i64w (2 * (i64w ((i64w r6) + 1))))).toNat (0 : Int))), Asc (D 3) (Row 2 (K.int .i64) v9 (List.replicate ((i64w (2 * (i64w ((i64w r6) + 1))))).toNat (0 : Int))), Asc (D 5) (Row 2 (K.int .i64) v11 (List.replicate ((i64w (2 * (i64w ((i64w r6) + 1))))).toNat (0 : Int))), Asc (D 7) (Row 31 (K.int .u16) v13 (List.replicate ((i64w (2 * (i64w ((i64w r6) + 1))))).toNat (0 : Int))), Asc (D 9) (Cells b15 (([v7, v9, v11, v13] : List Value)) 56)] w) ?_ ⟨⟨⟨⟨⟨⟨⟨⟨⟨⟨⟨trivial, ?_⟩, ?_⟩, ?_⟩, ?_⟩, ?_⟩, ?_⟩, ?_⟩, ?_⟩, ?_⟩, ?_⟩, ?_⟩ ?_
  ·
   intro w hh hbw
   have hs := hs.samew hh hbw
   have hs := hs.emp
   have hs := hs.emp
   have hs := hs.emp
   have hs := hs.emp
   have hs := hs.emp
   exact ⟨undef, undef, undef, undef, 0, fun i => T.getD i undef, (by subst hT; rfl), hs⟩
  ·
   intro D t w hD hp hcl hI rest hk
   obtain ⟨v7, v9, v11, v13, b15, O, ht, hs⟩ := hI
   have q1_ := nz hcl 1 0 hD
   have q8_ := nz hcl 8 0 q1_
   have q9_ := nz hcl 9 0 q8_
   have q10_ := nz hcl 10 0 q9_
   simp only [hD, q1_, q8_, q9_, q10_, cq] at ht hs
   subst ht
   refine g_op (v := Value.int .i64 (i64w (2 * (i64w ((i64w r6) + 1))))) rfl rfl rfl (g_d rfl ?_)
   try dsimp only [set0,setS]
   refine hk _ _ ⟨v7, v9, v11, v13, b15, O, ?_, hs.cast ?_⟩ <;> simp only [lq, cq, Nat.reduceBEq, q1_, q8_, q9_, q10_]
  ·
   intro D t w hD hp hcl hI rest hk
   obtain ⟨v7, v9, v11, v13, b15, O, ht, hs⟩ := hI
   obtain ⟨p0_, _, _⟩ := hp
   have q8_ := nz hcl 8 0 hD
   have q9_ := nz hcl 9 0 q8_
   have q10_ := nz hcl 10 0 q9_
   simp only [hD, p0_, q8_, q9_, q10_, cq] at ht hs
   subst ht
   refine s_make (κ := (K.int .i16)) (z := 0) (zc := ((encI .i16) 0)) (zv := (Value.int .i16 0)) (B := 2) hs rfl rfl rfl rfl rfl gq1_.1 rfl rfl rfl rfl rfl (fun _ => ⟨rfl, rfl⟩) rfl (by decide) (by have := gq1_.2; omega) ?_
   intro v7 w hs
   refine g_d rfl ?_
   try dsimp only [set0,setS]
   have hs := hs.fill 0 rfl
   refine hk _ _ ⟨v7, v9, v11, v13, b15, O, ?_, hs.cast ?_⟩ <;> simp only [lq, cq, Nat.reduceBEq, p0_, q8_, q9_, q10_]
  ·
   intro D t w hD hp hcl hI rest hk
   obtain ⟨v7, v9, v11, v13, b15, O, ht, hs⟩ := hI
   have q3_ := nz hcl 3 0 hD
   have q8_ := nz hcl 8 1 q3_
   have q9_ := nz hcl 9 0 q8_
   have q10_ := nz hcl 10 0 q9_
   simp only [hD, q3_, q8_, q9_, q10_, cq] at ht hs
   subst ht
   refine g_op (v := Value.int .i64 (i64w (2 * (i64w ((i64w r6) + 1))))) rfl rfl rfl (g_d rfl ?_)
   try dsimp only [set0,setS]
   refine hk _ _ ⟨v7, v9, v11, v13, b15, O, ?_, hs.cast ?_⟩ <;> simp only [lq, cq, Nat.reduceBEq, q3_, q8_, q9_, q10_]
  ·
   intro D t w hD hp hcl hI rest hk
   obtain ⟨v7, v9, v11, v13, b15, O, ht, hs⟩ := hI
   obtain ⟨p2_, _, _⟩ := hp
   have q8_ := nz hcl 8 1 hD
   have q9_ := nz hcl 9 0 q8_
   have q10_ := nz hcl 10 0 q9_
   simp only [hD, p2_, q8_, q9_, q10_, cq] at ht hs
   subst ht
   refine s_make (κ := (K.int .i64)) (z := 0) (zc := ((encI .i64) 0)) (zv := (Value.int .i64 0)) (B := 8) hs rfl rfl rfl rfl rfl gq3_.1 rfl rfl rfl rfl rfl (fun _ => ⟨rfl, rfl⟩) rfl (by decide) (by have := gq3_.2; omega) ?_
   intro v9 w hs
   refine g_d rfl ?_
   try dsimp only [set0,setS]
   have hs := hs.fill 1 rfl
   refine hk _ _ ⟨v7, v9, v11, v13, b15, O, ?_, hs.cast ?_⟩ <;> simp only [lq, cq, Nat.reduceBEq, p2_, q8_, q9_, q10_]
  ·
   intro D t w hD hp hcl hI rest hk
   obtain ⟨v7, v9, v11, v13, b15, O, ht, hs⟩ := hI
   have q5_ := nz hcl 5 0 hD
   have q8_ := nz hcl 8 2 q5_
   have q9_ := nz hcl 9 0 q8_
   have q10_ := nz hcl 10 0 q9_
   simp only [hD, q5_, q8_, q9_, q10_, cq] at ht hs
   subst ht
   refine g_op (v := Value.int .i64 (i64w (2 * (i64w ((i64w r6) + 1))))) rfl rfl rfl (g_d rfl ?_)
   try dsimp only [set0,setS]
   refine hk _ _ ⟨v7, v9, v11, v13, b15, O, ?_, hs.cast ?_⟩ <;> simp only [lq, cq, Nat.reduceBEq, q5_, q8_, q9_, q10_]
  ·
   intro D t w hD hp hcl hI rest hk
   obtain ⟨v7, v9, v11, v13, b15, O, ht, hs⟩ := hI
   obtain ⟨p4_, _, _⟩ := hp
   have q8_ := nz hcl 8 2 hD
   have q9_ := nz hcl 9 0 q8_
   have q10_ := nz hcl 10 0 q9_
   simp only [hD, p4_, q8_, q9_, q10_, cq] at ht hs
   subst ht
   refine s_make (κ := (K.int .i64)) (z := 0) (zc := ((encI .i64) 0)) (zv := (Value.int .i64 0)) (B := 8) hs rfl rfl rfl rfl rfl gq5_.1 rfl rfl rfl rfl rfl (fun _ => ⟨rfl, rfl⟩) rfl (by decide) (by have := gq5_.2; omega) ?_
   intro v11 w hs
   refine g_d rfl ?_
   try dsimp only [set0,setS]
   have hs := hs.fill 2 rfl
   refine hk _ _ ⟨v7, v9, v11, v13, b15, O, ?_, hs.cast ?_⟩ <;> simp only [lq, cq, Nat.reduceBEq, p4_, q8_, q9_, q10_]
  ·
   intro D t w hD hp hcl hI rest hk
   obtain ⟨v7, v9, v11, v13, b15, O, ht, hs⟩ := hI
   have q7_ := nz hcl 7 0 hD
   have q8_ := nz hcl 8 3 q7_
   have q9_ := nz hcl 9 0 q8_
   have q10_ := nz hcl 10 0 q9_
   simp only [hD, q7_, q8_, q9_, q10_, cq] at ht hs
   subst ht
   refine g_op (v := Value.int .i64 (i64w (2 * (i64w ((i64w r6) + 1))))) rfl rfl rfl (g_d rfl ?_)
   try dsimp only [set0,setS]
   refine hk _ _ ⟨v7, v9, v11, v13, b15, O, ?_, hs.cast ?_⟩ <;> simp only [lq, cq, Nat.reduceBEq, q7_, q8_, q9_, q10_]
  ·
   intro D t w hD hp hcl hI rest hk
   obtain ⟨v7, v9, v11, v13, b15, O, ht, hs⟩ := hI
   obtain ⟨p6_, _, _⟩ := hp
   have q8_ := nz hcl 8 3 hD
   have q9_ := nz hcl 9 0 q8_
   have q10_ := nz hcl 10 0 q9_
   simp only [hD, p6_, q8_, q9_, q10_, cq] at ht hs
   subst ht
   refine s_make (κ := (K.int .u16)) (z := 0) (zc := ((encI .u16) 0)) (zv := (Value.int .u16 0)) (B := 2) hs rfl rfl rfl rfl rfl gq7_.1 rfl rfl rfl rfl rfl (fun _ => ⟨rfl, rfl⟩) rfl (by decide) (by have := gq7_.2; omega) ?_
   intro v13 w hs
   refine g_d rfl ?_
   try dsimp only [set0,setS]
   have hs := hs.fill 3 rfl
   refine hk _ _ ⟨v7, v9, v11, v13, b15, O, ?_, hs.cast ?_⟩ <;> simp only [lq, cq, Nat.reduceBEq, p6_, q8_, q9_, q10_]
  ·
   intro D t w hD hp hcl hI rest hk
   obtain ⟨v7, v9, v11, v13, b15, O, ht, hs⟩ := hI
   obtain ⟨p1_, p3_, p5_, p7_, _⟩ := hp
   obtain ⟨p6_, _, _⟩ := (hcl.get 7 (by decide)) p7_
   obtain ⟨p4_, _, _⟩ := (hcl.get 5 (by decide)) p5_
   obtain ⟨p2_, _, _⟩ := (hcl.get 3 (by decide)) p3_
   obtain ⟨p0_, _, _⟩ := (hcl.get 1 (by decide)) p1_
   have q9_ := nz hcl 9 0 hD
   have q10_ := nz hcl 10 0 q9_
   simp only [hD, p0_, p1_, p2_, p3_, p4_, p5_, p6_, p7_, q9_, q10_, cq] at ht hs
   subst ht
   refine g_op (v := Value.agg (([v7, v9, v11, v13] : List Value)).toArray) rfl rfl (x_buildS (cs := (([v7, v9, v11, v13] : List Value))) (segs := [[Value.slice none 0 0], [Value.slice none 0 0], [Value.slice none 0 0], [Value.slice none 0 0]]) rfl rfl (fun _ => rfl) ⟨rfl, (fun _ => rfl), rfl, (fun _ => rfl), rfl, (fun _ => rfl), rfl, (fun _ => rfl), trivial⟩ (by simp only [List.map_cons, List.map_nil, List.forall_mem_cons, List.not_mem_nil, false_implies, implies_true, and_true]; exact ⟨⟨_, rfl, slSize (hs.row 0 rfl)⟩, ⟨_, rfl, slSize (hs.row 1 rfl)⟩, ⟨_, rfl, slSize (hs.row 2 rfl)⟩, ⟨_, rfl, slSize (hs.row 3 rfl)⟩⟩) (by first | rfl | (simp [ev, encA, slCells (hs.row 0 rfl), slCells (hs.row 1 rfl), slCells (hs.row 2 rfl), slCells (hs.row 3 rfl)]; done) | (simp [ev, encA, slCells (hs.row 0 rfl), slCells (hs.row 1 rfl), slCells (hs.row 2 rfl), slCells (hs.row 3 rfl)]; rfl))) ?_
   refine g_d rfl ?_
   try dsimp only [set0,setS]
   refine hk _ _ ⟨v7, v9, v11, v13, b15, O, ?_, hs.cast ?_⟩ <;> simp only [lq, cq, Nat.reduceBEq, p0_, p1_, p2_, p3_, p4_, p5_, p6_, p7_, q9_, q10_]
  ·
   intro D t w hD hp hcl hI rest hk
   obtain ⟨v7, v9, v11, v13, b15, O, ht, hs⟩ := hI
   obtain ⟨p8_, _⟩ := hp
   obtain ⟨p1_, p3_, p5_, p7_, _⟩ := (hcl.get 8 (by decide)) p8_
   obtain ⟨p6_, _, _⟩ := (hcl.get 7 (by decide)) p7_
   obtain ⟨p4_, _, _⟩ := (hcl.get 5 (by decide)) p5_
   obtain ⟨p2_, _, _⟩ := (hcl.get 3 (by decide)) p3_
   obtain ⟨p0_, _, _⟩ := (hcl.get 1 (by decide)) p1_
   have q10_ := nz hcl 10 0 hD
   simp only [hD, p0_, p1_, p2_, p3_, p4_, p5_, p6_, p7_, p8_, q10_, cq] at ht hs
   subst ht
   refine s_box hs rfl rfl (cs := (([v7, v9, v11, v13] : List Value))) rfl rfl ?_
   intro b15 w hs
   refine g_d rfl ?_
   try dsimp only [set0,setS]
   have hs := hs.fill 4 rfl
   refine hk _ _ ⟨v7, v9, v11, v13, b15, O, ?_, hs.cast ?_⟩ <;> simp only [lq, cq, Nat.reduceBEq, p0_, p1_, p2_, p3_, p4_, p5_, p6_, p7_, p8_, q10_]
  ·
   intro D t w hD hp hcl hI rest hk
   obtain ⟨v7, v9, v11, v13, b15, O, ht, hs⟩ := hI
   obtain ⟨p9_, p0_, p1_, p2_, p3_, p4_, p5_, p6_, p7_, p8_, _, _⟩ := hp
   simp only [hD, p0_, p1_, p2_, p3_, p4_, p5_, p6_, p7_, p8_, p9_, cq] at ht hs
   subst ht
   refine g_op (v := Value.pointer (some ⟨b15, 0, none⟩)) rfl rfl rfl (g_d rfl ?_)
   try dsimp only [set0,setS]
   refine hk _ _ ⟨v7, v9, v11, v13, b15, O, ?_, hs.cast ?_⟩ <;> simp only [lq, cq, Nat.reduceBEq, p0_, p1_, p2_, p3_, p4_, p5_, p6_, p7_, p8_, p9_]
  intro D t w hall hI
  obtain ⟨v7, v9, v11, v13, b15, O, ht, hs⟩ := hI
  have p0_ : D 0 = true := hall 0 (by decide)
  have p1_ : D 1 = true := hall 1 (by decide)
  have p2_ : D 2 = true := hall 2 (by decide)
  have p3_ : D 3 = true := hall 3 (by decide)
  have p4_ : D 4 = true := hall 4 (by decide)
  have p5_ : D 5 = true := hall 5 (by decide)
  have p6_ : D 6 = true := hall 6 (by decide)
  have p7_ : D 7 = true := hall 7 (by decide)
  have p8_ : D 8 = true := hall 8 (by decide)
  have p9_ : D 9 = true := hall 9 (by decide)
  have p10_ : D 10 = true := hall 10 (by decide)
  simp only [p0_, p1_, p2_, p3_, p4_, p5_, p6_, p7_, p8_, p9_, p10_, cq] at ht hs
  subst ht
  refine g_seq (g_seq (g_region ?_))
  show G _ _ _ (.inRegion _ [0] :: _) _ _
  refine g_op (v := Value.int .i64 0) rfl rfl rfl (g_d rfl ?_)
  try dsimp only [set0,setS]
  refine g_ops_nil ?_
  obtain ⟨o1_, Ho, Hr1_⟩ := bind_get H
  refine g_block_join (J := fun t w => ∃ x27 : (List Int), spec_l05Find.a0 N a1 r6 x27 = some r ∧ Fr t (fun O => (Value.pointer (some ⟨b2, 0, none⟩)::O 1::O 2::O 3::Value.pointer (some ⟨b15, 0, none⟩)::O 5::O 6::O 7::O 8::O 9::O 10::O 11::O 12::O 13::O 14::O 15::O 16::O 17::O 18::O 19::O 20::O 21::O 22::O 23::O 24::O 25::O 26::O 27::O 28::O 29::O 30::O 31::O 32::O 33::O 34::O 35::O 36::O 37::O 38::O 39::O 40::O 41::O 42::O 43::O 44::O 45::O 46::O 47::O 48::O 49::O 50::O 51::O 52::O 53::O 54::O 55::O 56::O 57::O 58::O 59::O 60::O 61::O 62::O 63::O 64::O 65::O 66::O 67::O 68::O 69::O 70::O 71::O 72::O 73::O 74::O 75::O 76::O 77::O 78::O 79::O 80::O 81::O 82::O 83::O 84::O 85::O 86::O 87::O 88::O 89::O 90::O 91::O 92::O 93::O 94::O 95::O 96::O 97::O 98::O 99::O 100::O 101::O 102::O 103::O 104::O 105::O 106::O 107::O 108::O 109::O 110::O 111::O 112::O 113::O 114::O 115::O 116::O 117::O 118::O 119::O 120::O 121::O 122::O 123::O 124::O 125::O 126::O 127::O 128::O 129::O 130::O 131::O 132::O 133::O 134::O 135::O 136::O 137::O 138::O 139::O 140::O 141::O 142::O 143::O 144::O 145::O 146::O 147::O 148::O 149::O 150::O 151::O 152::O 153::O 154::O 155::O 156::O 157::O 158::O 159::O 160::O 161::O 162::O 163::O 164::O 165::O 166::O 167::O 168::O 169::[] : List Value)) ∧ St w0 [Cells b15 (([v7, v9, v11, v13] : List Value)) 56, Row 52 (K.int .i16) v7 x27, Row 2 (K.int .i64) v9 (List.replicate ((i64w (2 * (i64w ((i64w r6) + 1))))).toNat (0 : Int)), Row 2 (K.int .i64) v11 (List.replicate ((i64w (2 * (i64w ((i64w r6) + 1))))).toNat (0 : Int)), Row 31 (K.int .u16) v13 (List.replicate ((i64w (2 * (i64w ((i64w r6) + 1))))).toNat (0 : Int))] w) ?_ ?_
  · exact spec_l05Find.seg1 hr4 hp0
  intro ha1_
  have hs := hs.pull 4 rfl
  have hs := hs.pull 4 rfl
  have hs := hs.pull 4 rfl
  have hs := hs.pull 4 rfl
  have hs := hs.pull 4 rfl
  have hs : St _ [_,_,_,_,_] _ := St.take (Γ' := []) hs
  refine g_loop_fuel (I := fun n_ t w => ∃ x24 : (List Int), ∃ x25 : Int, rounds (fun s => spec_l05Find.b0 N r6 s.1 s.2) n_ (x24, x25) = some o1_ ∧ Fr t (fun O => (Value.pointer (some ⟨b2, 0, none⟩)::O 1::O 2::Value.int .i64 (i64w (2 * (i64w ((i64w r6) + 1))))::Value.pointer (some ⟨b15, 0, none⟩)::Value.int .i64 x25::O 6::O 7::O 8::O 9::O 10::O 11::O 12::O 13::O 14::O 15::O 16::O 17::O 18::O 19::O 20::O 21::O 22::O 23::O 24::O 25::O 26::O 27::O 28::O 29::O 30::O 31::O 32::O 33::O 34::O 35::O 36::O 37::O 38::O 39::O 40::O 41::O 42::O 43::O 44::O 45::O 46::O 47::O 48::O 49::O 50::O 51::O 52::O 53::O 54::O 55::O 56::O 57::O 58::O 59::O 60::O 61::O 62::O 63::O 64::O 65::O 66::O 67::O 68::O 69::O 70::O 71::O 72::O 73::O 74::O 75::O 76::O 77::O 78::O 79::O 80::O 81::O 82::O 83::O 84::O 85::O 86::O 87::O 88::O 89::O 90::O 91::O 92::O 93::O 94::O 95::O 96::O 97::O 98::O 99::O 100::O 101::O 102::O 103::O 104::O 105::O 106::O 107::O 108::O 109::O 110::O 111::O 112::O 113::O 114::O 115::O 116::O 117::O 118::O 119::O 120::O 121::O 122::O 123::O 124::O 125::O 126::O 127::O 128::O 129::O 130::O 131::O 132::O 133::O 134::O 135::O 136::O 137::O 138::O 139::O 140::O 141::O 142::O 143::O 144::O 145::O 146::O 147::O 148::O 149::O 150::O 151::O 152::O 153::O 154::O 155::O 156::O 157::O 158::O 159::O 160::O 161::O 162::O 163::O 164::O 165::O 166::O 167::O 168::O 169::[] : List Value)) ∧ St w0 [Row 52 (K.int .i16) v7 x24, Row 2 (K.int .i64) v9 (List.replicate ((i64w (2 * (i64w ((i64w r6) + 1))))).toNat (0 : Int)), Row 2 (K.int .i64) v11 (List.replicate ((i64w (2 * (i64w ((i64w r6) + 1))))).toNat (0 : Int)), Row 31 (K.int .u16) v13 (List.replicate ((i64w (2 * (i64w ((i64w r6) + 1))))).toNat (0 : Int)), Cells b15 (([v7, v9, v11, v13] : List Value)) 56] w) N ⟨List.replicate ((i64w (2 * (i64w ((i64w r6) + 1))))).toNat (0 : Int), 0, Ho, rfl, hs⟩ ?_ ?_
  ·
   rintro _ _ ⟨x24, x25, h, _⟩
   exact rounds_zero h
  intro n_ ih1_
  rintro t w ⟨x24, x25, Ho, hf, hs⟩
  obtain ⟨O, rfl⟩ := hf.open
  try dsimp only
  obtain ⟨x106_, H, Hx1_⟩ := rounds_succ Ho
  have H : spec_l05Find.b0 N r6 x24 x25 = some x106_ := H
  unfold spec_l05Find.b0 at H
  refine g_seq (g_seq (g_region ?_))
  show G _ _ _ (.inRegion _ [0, 1, 2] :: _) _ _
  refine g_op (v := Value.int .i64 x25) rfl rfl rfl (g_d rfl ?_)
  refine g_op (v := Value.int .i64 (i64w (2 * (i64w ((i64w r6) + 1))))) rfl rfl rfl (g_d rfl ?_)
  refine g_op_b (B := decide (x25 < (i64w (2 * (i64w ((i64w r6) + 1)))))) rfl rfl rfl ?_ ?_
  ·
   intro hb
   rw [if_pos (b_dec_t hb)] at H
   refine g_d rfl ?_
   try dsimp only [set0,setS]
   refine g_ops_nil (g_cond_true rfl (g_skip (g_seq ?_)))
   refine g_block (g_region ?_)
   show G _ _ _ (.inRegion _ [0, 1, 2, 3, 4, 5, 6] :: _) _ _
   refine g_op (v := Value.pointer (some ⟨b15, 0, none⟩)) rfl rfl rfl (g_d rfl ?_)
   refine g_op (v := Value.pointer (some ⟨b15, 0, none⟩)) rfl rfl rfl (g_d rfl ?_)
   refine g_op (v := Value.pointer (some ⟨b15, 0, none⟩)) rfl rfl rfl (g_d rfl ?_)
   refine s_load1 rfl rfl (v := v7) rfl rfl (fun _ => rfl) (cells_load (hs.cells 4 rfl) 0 1 rfl) (g_d rfl ?_)
   try dsimp only [set0,setS]
   refine g_op (v := Value.int .i64 x25) rfl rfl rfl (g_d rfl ?_)
   obtain ⟨g2, H⟩ := ite_get H
   refine s_idx (fkI .i16) 0 (hs.row 0 rfl) rfl (fun _ => rfl) g2.1 g2.2 rfl rfl rfl rfl rfl ?_
   intro p26 hp26 lp26 op26
   refine g_d rfl ?_
   try dsimp only [set0,setS]
   refine s_stRow (y := (-1)) (fkI .i16) g2.1 g2.2 op26 hs rfl rfl rfl rfl rfl (fun _ => rfl) ?_
   intro w hs
   refine g_n rfl (g_ops_nil ?_)
   refine g_inBlock (g_region ?_)
   show G _ _ _ (.inRegion _ [0, 1, 2] :: _) _ _
   refine g_op (v := Value.int .i64 x25) rfl rfl rfl (g_d rfl ?_)
   refine g_op (v := Value.int .i64 (i64w (x25 + 1))) rfl rfl rfl (g_d rfl ?_)
   try dsimp only [set0,setS]
   refine g_op (v := Value.int .i64 (i64w (x25 + 1))) rfl rfl rfl (g_d rfl ?_)
   try dsimp only [set0,setS]
   refine g_ops_nil ?_
   obtain rfl := Option.some.inj H
   have hs := hs.pull 4 rfl
   have hs := hs.pull 4 rfl
   have hs := hs.pull 4 rfl
   have hs := hs.pull 4 rfl
   have hs := hs.pull 4 rfl
   have hs : St _ [_,_,_,_,_] _ := St.take (Γ' := []) hs
   exact ih1_ _ _ ⟨stL x24 x25 (-1), i64w (x25 + 1), Hx1_, rfl, hs⟩
  intro hb
  rw [if_neg (b_dec_f hb)] at H
  refine g_d rfl ?_
  try dsimp only [set0,setS]
  refine g_ops_nil (g_cond_false rfl ?_)
  obtain rfl := Option.some.inj H
  subst Hx1_
  have hs := hs.pull 3 rfl
  have hs := hs.pull 3 rfl
  have hs := hs.pull 3 rfl
  have hs := hs.pull 3 rfl
  have hs := hs.pull 4 rfl
  have hs : St _ [_,_,_,_,_] _ := St.take (Γ' := []) hs
  refine g_exit rfl ?_
  exact ha1_ _ _ ⟨x24, Hr1_, rfl, hs⟩

/- function 26 spec_l05Last -/
def spec_l05Last.post (w0 : World) (r : Int) (v : Value) (w : World) : Prop := v = Value.int .i64 r ∧ St w0 [] w
set_option maxHeartbeats 8000000 in
set_option maxRecDepth 100000 in
theorem spec_l05Last.calls {N : Nat} {a1 : S_impl_Ferry} {b2 : Nat} {v3 : Value} {w0 : World} {r : Int} (hr4 : RdRow (K.int .u16) w0 v3 a1.f_Rules) (hp0 : w0.heap[b2]? = some (.cells ((([Value.int .i8 a1.f_Things, Value.int .i8 a1.f_Boat, v3] : List Value)) : List Value).toArray 27 (0, 0))) (H : spec_l05Last.f N a1 = some r) :
    Calls Try.prog 26 #[Value.pointer (some ⟨b2, 0, none⟩)] w0 fun e w => ∃ v, e = .returned v ∧ spec_l05Last.post w0 r v w := by
  unfold spec_l05Last.f at H
  have hs : St w0 [] w0 := St.refl w0
  refine calls_of_g (n := 6) Try.func26 rfl rfl ?_
  show G _ _ _ _ [_,_,_,_,_,_,_] _
  refine g_seq (g_region ?_)
  show G _ _ _ (.inRegion _ [0] :: _) _ _
  refine g_op (v := Value.int .i64 0) rfl rfl rfl ?_
  show G _ _ _ _ [_,_,_,_,_,_,_] _
  refine g_ops_nil (g_seq (g_region ?_))
  show G _ _ _ (.inRegion _ [0, 1, 2, 3, 4] :: _) _ _
  refine g_op (v := Value.pointer (some ⟨b2, 0, none⟩)) rfl rfl rfl ?_
  show G _ _ _ _ [_,_,_,_,_,_,_] _
  obtain ⟨r6, Hr6, H⟩ := bind_get H
  refine s_call (args := [Value.pointer (some ⟨b2, 0, none⟩)]) rfl rfl (x_call rfl (callFunc_enter Try.func30 rfl rfl) rfl) (spec_l05All.calls (a1 := (⟨a1.f_Things, a1.f_Boat, a1.f_Rules⟩ : S_impl_Ferry)) (hs.rd hr4) (hs.box hp0) Hr6) ?_
  rintro _ w ⟨rfl, hs2⟩
  have hs : St _ [] _ := hs.call hs2
  show G _ _ _ _ [_,_,_,_,_,_,_] _
  refine g_op (v := Value.int .i64 (i64w r6)) rfl rfl rfl ?_
  show G _ _ _ _ [_,_,_,_,_,_,_] _
  refine g_op (v := Value.int .i64 (i64w ((i64w r6) + 1))) rfl rfl rfl ?_
  show G _ _ _ _ [_,_,_,_,_,_,_] _
  refine g_op (v := Value.int .i64 (i64w ((i64w r6) + 1))) rfl rfl rfl ?_
  show G _ _ _ _ [_,_,_,_,_,_,_] _
  refine g_ops_nil ?_
  obtain rfl := Option.some.inj H
  refine g_ret Try.func26 (v := Value.int .i64 (i64w ((i64w r6) + 1))) (res1 rfl rfl) ?_
  have hs : St _ [] _ := St.take (Γ' := []) hs
  exact ⟨_, rfl, rfl, hs⟩

/- function 7 spec_LeastBoat -/
def spec_LeastBoat.post (w0 : World) (r : (Int × Int)) (v : Value) (w : World) : Prop := v = Value.tuple #[Value.int .i64 r.1, Value.int .i64 r.2] ∧ St w0 [] w
set_option maxHeartbeats 8000000 in
set_option maxRecDepth 100000 in
theorem spec_LeastBoat.calls {N : Nat} {a1 : S_impl_Ferry} {v2 : Value} {w0 : World} {r : (Int × Int)} (hr3 : RdRow (K.int .u16) w0 v2 a1.f_Rules) (H : spec_LeastBoat.f N a1 = some r) :
    Calls Try.prog 7 #[Value.agg (([Value.int .i8 a1.f_Things, Value.int .i8 a1.f_Boat, v2] : List Value)).toArray] w0 fun e w => ∃ v, e = .returned v ∧ spec_LeastBoat.post w0 r v w := by
  unfold spec_LeastBoat.f at H
  have hs : St w0 [] w0 := St.refl w0
  refine calls_of_g (n := 25) Try.func7 rfl rfl ?_
  show G _ _ _ _ [_,_,_,_,_,_,_,_,_,_,_,_,_,_,_,_,_,_,_,_,_,_,_,_,_,_] _
  refine g_seq (g_region ?_)
  show G _ _ _ (.inRegion _ [0, 1, 2] :: _) _ _
  refine s_box hs rfl rfl (cs := (([Value.int .i8 a1.f_Things, Value.int .i8 a1.f_Boat, v2] : List Value))) rfl rfl ?_
  intro b4 w hs
  show G _ _ _ _ [_,_,_,_,_,_,_,_,_,_,_,_,_,_,_,_,_,_,_,_,_,_,_,_,_,_] _
  refine g_op (v := Value.int .i64 0) rfl rfl rfl ?_
  show G _ _ _ _ [_,_,_,_,_,_,_,_,_,_,_,_,_,_,_,_,_,_,_,_,_,_,_,_,_,_] _
  refine g_op (v := Value.int .i64 0) rfl rfl rfl ?_
  show G _ _ _ _ [_,_,_,_,_,_,_,_,_,_,_,_,_,_,_,_,_,_,_,_,_,_,_,_,_,_] _
  refine g_ops_nil (g_seq (g_seq (g_region ?_)))
  show G _ _ _ (.inRegion _ [0, 1] :: _) _ _
  obtain ⟨r6, Hr6, H⟩ := bind_get H
  refine s_call (args := [Value.pointer (some ⟨b4, 0, none⟩)]) rfl rfl (x_call rfl (callFunc_enter Try.func24 rfl rfl) rfl) (spec_l05Ok.calls (a1 := (⟨a1.f_Things, a1.f_Boat, a1.f_Rules⟩ : S_impl_Ferry)) (hs.rd hr3) (hs.cells 0 rfl) Hr6) ?_
  rintro _ w ⟨rfl, hs2⟩
  have hs : St _ [_] _ := hs.call hs2
  cases r6 with
  | true =>
    rw [if_pos rfl] at H
    show G _ _ _ _ [_,_,_,_,_,_,_,_,_,_,_,_,_,_,_,_,_,_,_,_,_,_,_,_,_,_] _
    refine g_op (v := Value.bool false) rfl rfl rfl ?_
    show G _ _ _ _ [_,_,_,_,_,_,_,_,_,_,_,_,_,_,_,_,_,_,_,_,_,_,_,_,_,_] _
    refine g_ops_nil (g_cond_false rfl (g_skip (g_seq (g_region ?_))))
    show G _ _ _ (.inRegion _ [0] :: _) _ _
    refine g_op (v := Value.int .i8 0) rfl rfl rfl ?_
    show G _ _ _ _ [_,_,_,_,_,_,_,_,_,_,_,_,_,_,_,_,_,_,_,_,_,_,_,_,_,_] _
    refine g_ops_nil ?_
    obtain ⟨o1_, Ho, Hr1_⟩ := bind_get H
    refine g_block_join (J := fun t w => spec_LeastBoat.a0 N = some r ∧ Fr t (fun O => ([O 0, O 1, O 2, O 3, O 4, O 5, O 6, O 7, O 8, O 9, O 10, O 11, O 12, O 13, O 14, O 15, O 16, O 17, O 18, O 19, O 20, O 21, O 22, O 23, O 24, O 25] : List Value)) ∧ St w0 [] w) ?_ ?_
    ·
     rintro t w ⟨H, hf, hs⟩
     obtain ⟨O, rfl⟩ := hf.open
     show G _ _ _ _ [_,_,_,_,_,_,_,_,_,_,_,_,_,_,_,_,_,_,_,_,_,_,_,_,_,_] _
     unfold spec_LeastBoat.a0 at H
     cases H
    intro ha1_
    have hs := hs.pull 0 rfl
    have hs : St _ [_] _ := St.take (Γ' := []) hs
    refine g_loop_fuel (I := fun n_ t w => ∃ x7 : Int, rounds (fun s => spec_LeastBoat.b0 N a1 s) n_ x7 = some o1_ ∧ Fr t (fun O => ([O 0, Value.pointer (some ⟨b4, 0, none⟩), O 2, O 3, Value.int .i8 x7, O 5, O 6, O 7, O 8, O 9, O 10, O 11, O 12, O 13, O 14, O 15, O 16, O 17, O 18, O 19, O 20, O 21, O 22, O 23, O 24, O 25] : List Value)) ∧ St w0 [Cells b4 (([Value.int .i8 a1.f_Things, Value.int .i8 a1.f_Boat, v2] : List Value)) 27] w) N ⟨0, Ho, rfl, hs⟩ ?_ ?_
    ·
     rintro _ _ ⟨x7, h, _⟩
     exact rounds_zero h
    intro n_ ih1_
    rintro t w ⟨x7, Ho, hf, hs⟩
    obtain ⟨O, rfl⟩ := hf.open
    show G _ _ _ _ [_,_,_,_,_,_,_,_,_,_,_,_,_,_,_,_,_,_,_,_,_,_,_,_,_,_] _
    obtain ⟨x7_, H, Hx1_⟩ := rounds_succ Ho
    have H : spec_LeastBoat.b0 N a1 x7 = some x7_ := H
    unfold spec_LeastBoat.b0 at H
    refine g_block (g_seq (g_region ?_))
    show G _ _ _ (.inRegion _ [0, 1, 2, 3, 4, 5, 6, 7] :: _) _ _
    refine g_op (v := Value.pointer (some ⟨b4, 0, none⟩)) rfl rfl rfl ?_
    refine s_load1 rfl rfl (v := Value.int .i8 a1.f_Things) rfl rfl (fun _ => rfl) (cells_load (hs.cells 0 rfl) 0 1 rfl) ?_
    show G _ _ _ _ [_,_,_,_,_,_,_,_,_,_,_,_,_,_,_,_,_,_,_,_,_,_,_,_,_,_] _
    refine g_op (v := Value.int .i8 x7) rfl rfl rfl ?_
    refine g_op (v := Value.pointer (some ⟨b4, 2, none⟩)) rfl rfl rfl ?_
    refine s_load1 rfl rfl (v := v2) rfl rfl (fun _ => rfl) (cells_load (hs.cells 0 rfl) 2 1 rfl) ?_
    show G _ _ _ _ [_,_,_,_,_,_,_,_,_,_,_,_,_,_,_,_,_,_,_,_,_,_,_,_,_,_] _
    refine g_op (v := Value.agg (([Value.int .i8 a1.f_Things, Value.int .i8 x7, v2] : List Value)).toArray) rfl rfl (x_buildS (cs := (([Value.int .i8 a1.f_Things, Value.int .i8 x7, v2] : List Value))) (segs := [[Value.int .i8 0], [Value.int .i8 0], [Value.slice none 0 0]]) rfl rfl (fun _ => rfl) ⟨rfl, (fun _ => rfl), rfl, (fun _ => rfl), rfl, (fun _ => rfl), trivial⟩ (by simp only [List.map_cons, List.map_nil, List.forall_mem_cons, List.not_mem_nil, false_implies, implies_true, and_true]; exact ⟨⟨_, rfl, rfl⟩, ⟨_, rfl, rfl⟩, ⟨_, rfl, slSize (hs.rd hr3)⟩⟩) (by first | rfl | (simp [ev, encA, slCells (hs.rd hr3)]; done) | (simp [ev, encA, slCells (hs.rd hr3)]; rfl))) ?_
    show G _ _ _ _ [_,_,_,_,_,_,_,_,_,_,_,_,_,_,_,_,_,_,_,_,_,_,_,_,_,_] _
    refine s_alloc hs rfl rfl (z := (Value.agg #[Value.int .i8 0, Value.int .i8 0, Value.slice none 0 0])) (cs := (([Value.int .i8 0, Value.int .i8 0, Value.slice none 0 0] : List Value))) rfl (fun _ => rfl) rfl ?_
    intro b8 w hs
    show G _ _ _ _ [_,_,_,_,_,_,_,_,_,_,_,_,_,_,_,_,_,_,_,_,_,_,_,_,_,_] _
    refine s_storeAll (n := 3) hs rfl rfl rfl (vs := (([Value.int .i8 a1.f_Things, Value.int .i8 x7, v2] : List Value))) rfl rfl rfl (fun _ => rfl) rfl (by intro v hv; simp only [List.mem_append, List.mem_cons, List.not_mem_nil, or_false] at hv; repeat (first | (subst hv; first | rfl | exact slOne (hs.rd hr3)) | (rcases hv with hv | hv))) ?_
    intro w hs
    refine g_ops_nil (g_seq (g_seq ?_))
    refine g_lay (n := 8) rfl [0, 1, 2, 3, 4, 5, 6, 7] [0, 1, 2, 3, 4, 5, 6, 7] rfl rfl ?_
    intro rest w hh hbw hO
    have hs := hs.samew hh hbw
    show G _ _ _ _ [_,_,_,_,_,_,_,_,_,_,_,_,_,_,_,_,_,_,_,_,_,_,_,_,_,_] _
    obtain ⟨rest, rfl, hO1_⟩ := ord_one (m := 0) hO rfl 0 (m' := 1) (by decide +kernel) rfl
    clear hO
    obtain ⟨r10, Hr10, H⟩ := bind_get H
    refine s_call (args := [Value.pointer (some ⟨b8, 0, none⟩)]) rfl rfl (x_call rfl (callFunc_enter Try.func25 rfl rfl) rfl) (spec_l05Find.calls (a1 := (⟨a1.f_Things, x7, a1.f_Rules⟩ : S_impl_Ferry)) (hs.rd hr3) (hs.cells 0 rfl) Hr10) ?_
    rintro _ w ⟨b11, v12, v13, v14, v15, rfl, hs2⟩
    have hs : St _ [_,_,_,_,_,_,_] _ := hs.call hs2
    show G _ _ _ _ [_,_,_,_,_,_,_,_,_,_,_,_,_,_,_,_,_,_,_,_,_,_,_,_,_,_] _
    obtain ⟨r21, Hr21, H⟩ := bind_get H
    refine g_name ?_
    intro T hT
    refine g_layer (m0 := 1) hO1_ rfl 31 [1, 2, 3, 4] [0, 1, 3, 7, 1, 31, 63, 127] (by decide +kernel) (fun D t w => ∃ O : Nat → Value, t = [O 0, Value.pointer (some ⟨b4, 0, none⟩), O 2, O 3, Value.int .i8 x7, Value.pointer (some ⟨b8, 0, none⟩), O 6, O 7, Value.pointer (some ⟨b4, 0, none⟩), Value.int .i8 a1.f_Things, Value.int .i8 x7, Value.pointer (some ⟨b4, 2, none⟩), v2, Value.agg (([Value.int .i8 a1.f_Things, Value.int .i8 x7, v2] : List Value)).toArray, Value.pointer (some ⟨b11, 0, none⟩), cnd (D 1) (Value.pointer (some ⟨b11, 0, none⟩)) (O 15), cnd (D 2) (Value.pointer (some ⟨b11, 0, none⟩)) (O 16), cnd (D 3) v12 (O 17), cnd (D 4) (Value.int .i64 r21) (O 18), O 19, O 20, O 21, O 22, O 23, O 24, O 25] ∧ St w0 [Cells b11 (([v12, v13, v14, v15] : List Value)) 56, Row 52 (K.int .i16) v12 r10.f_table, Row 2 (K.int .i64) v13 r10.f_ways, Row 2 (K.int .i64) v14 r10.f_from, Row 31 (K.int .u16) v15 r10.f_by, Cells b8 (([Value.int .i8 a1.f_Things, Value.int .i8 x7, v2] : List Value)) 27, Cells b4 (([Value.int .i8 a1.f_Things, Value.int .i8 a1.f_Boat, v2] : List Value)) 27] w) ?_ ⟨?_, ⟨?_, ⟨?_, ⟨?_, trivial⟩⟩⟩⟩ ?_
    · exact ⟨fun i => T.getD i undef, (by subst hT; rfl), hs⟩
    ·
     intro D t w hD hp hcl hI rest hk
     obtain ⟨O, ht, hs⟩ := hI
     have hp : AllDone D [0] := hp
     obtain ⟨p0_, _⟩ := hp
     have q2_ := ny hcl 2 0 hD
     have q3_ := ny hcl 3 0 q2_
     simp only [hD, q2_, q3_, cq] at ht hs
     subst ht
     refine g_op (v := Value.pointer (some ⟨b11, 0, none⟩)) rfl rfl rfl ?_
     show G _ _ _ _ [_,_,_,_,_,_,_,_,_,_,_,_,_,_,_,_,_,_,_,_,_,_,_,_,_,_] _
     refine hk _ _ ⟨O, ?_, hs.cast ?_⟩ <;> simp only [lq, cq, Nat.reduceBEq, q2_, q3_]
    ·
     intro D t w hD hp hcl hI rest hk
     obtain ⟨O, ht, hs⟩ := hI
     have hp : AllDone D [1] := hp
     obtain ⟨p1_, _⟩ := hp
     have q3_ := ny hcl 3 0 hD
     simp only [hD, p1_, q3_, cq] at ht hs
     subst ht
     refine g_op (v := Value.pointer (some ⟨b11, 0, none⟩)) rfl rfl rfl ?_
     show G _ _ _ _ [_,_,_,_,_,_,_,_,_,_,_,_,_,_,_,_,_,_,_,_,_,_,_,_,_,_] _
     refine hk _ _ ⟨O, ?_, hs.cast ?_⟩ <;> simp only [lq, cq, Nat.reduceBEq, p1_, q3_]
    ·
     intro D t w hD hp hcl hI rest hk
     obtain ⟨O, ht, hs⟩ := hI
     have hp : AllDone D [2] := hp
     obtain ⟨p2_, _⟩ := hp
     obtain ⟨p1_, _⟩ := (show D 2 = true → AllDone D [1] from hcl 2 (by decide)) p2_
     simp only [hD, p1_, p2_, cq] at ht hs
     subst ht
     refine s_load1 rfl rfl (v := v12) rfl rfl (fun _ => rfl) (cells_load (hs.cells 0 rfl) 0 1 rfl) ?_
     show G _ _ _ _ [_,_,_,_,_,_,_,_,_,_,_,_,_,_,_,_,_,_,_,_,_,_,_,_,_,_] _
     refine hk _ _ ⟨O, ?_, hs.cast ?_⟩ <;> simp only [lq, cq, Nat.reduceBEq, p1_, p2_]
    ·
     intro D t w hD hp hcl hI rest hk
     obtain ⟨O, ht, hs⟩ := hI
     have hp : AllDone D [0] := hp
     obtain ⟨p0_, _⟩ := hp
     simp only [hD, cq] at ht hs
     subst ht
     refine s_call (args := [Value.pointer (some ⟨b8, 0, none⟩)]) rfl rfl (x_call rfl (callFunc_enter Try.func26 rfl rfl) rfl) (spec_l05Last.calls (a1 := (⟨a1.f_Things, x7, a1.f_Rules⟩ : S_impl_Ferry)) (hs.rd hr3) (hs.cells 5 rfl) Hr21) ?_
     rintro _ w ⟨rfl, hs2⟩
     have hs : St _ [_,_,_,_,_,_,_] _ := hs.call hs2
     show G _ _ _ _ [_,_,_,_,_,_,_,_,_,_,_,_,_,_,_,_,_,_,_,_,_,_,_,_,_,_] _
     refine hk _ _ ⟨O, ?_, hs.cast ?_⟩ <;> simp only [lq, cq, Nat.reduceBEq]
    intro D t w rest hall hO2_ hI
    obtain ⟨O, ht, hs⟩ := hI
    have p1_ : D 1 = true := hall 1 (by decide) rfl
    have p2_ : D 2 = true := hall 2 (by decide) rfl
    have p3_ : D 3 = true := hall 3 (by decide) rfl
    have p4_ : D 4 = true := hall 4 (by decide) rfl
    simp only [p1_, p2_, p3_, p4_, cq] at ht hs
    subst ht
    obtain ⟨rest, rfl, hO3_⟩ := ord_one (m := 31) hO2_ rfl 5 (m' := 63) (by decide +kernel) rfl
    clear hO2_
    obtain ⟨g4, H⟩ := ite_get H
    refine s_idx (fkI .i16) 0 (hs.row 1 rfl) rfl (fun _ => rfl) g4.1 g4.2 rfl rfl rfl rfl rfl ?_
    intro p22 hp22 lp22 op22
    show G _ _ _ _ [_,_,_,_,_,_,_,_,_,_,_,_,_,_,_,_,_,_,_,_,_,_,_,_,_,_] _
    obtain ⟨rest, rfl, hO5_⟩ := ord_one (m := 63) hO3_ rfl 6 (m' := 127) (by decide +kernel) rfl
    clear hO3_
    refine s_load1 rfl rfl (v := Value.int .i16 (rdL r10.f_table r21 0)) rfl rfl (fun _ => rfl) hp22 ?_
    show G _ _ _ _ [_,_,_,_,_,_,_,_,_,_,_,_,_,_,_,_,_,_,_,_,_,_,_,_,_,_] _
    obtain ⟨rest, rfl, hO6_⟩ := ord_one (m := 127) hO5_ rfl 7 (m' := 255) (by decide +kernel) rfl
    clear hO5_
    refine g_op_b (B := decide ((rdL r10.f_table r21 0) ≥ 0)) rfl rfl rfl ?_ ?_
    ·
     intro hb
     rw [if_pos (b_dec_t hb)] at H
     show G _ _ _ _ [_,_,_,_,_,_,_,_,_,_,_,_,_,_,_,_,_,_,_,_,_,_,_,_,_,_] _
     obtain rfl := ord_end hO6_ rfl (by decide +kernel)
     refine g_ops_nil (g_cond_true rfl (g_seq (g_region ?_)))
     show G _ _ _ (.inRegion _ [0, 1, 2, 3] :: _) _ _
     refine g_op (v := Value.int .i8 x7) rfl rfl rfl ?_
     refine g_op (v := Value.int .i64 (i64w x7)) rfl rfl rfl ?_
     refine g_op (v := Value.int .i64 (i64w x7)) rfl rfl rfl ?_
     show G _ _ _ _ [_,_,_,_,_,_,_,_,_,_,_,_,_,_,_,_,_,_,_,_,_,_,_,_,_,_] _
     refine g_op (v := Value.int .i64 0) rfl rfl rfl ?_
     show G _ _ _ _ [_,_,_,_,_,_,_,_,_,_,_,_,_,_,_,_,_,_,_,_,_,_,_,_,_,_] _
     refine g_ops_nil ?_
     obtain rfl := Option.some.inj H
     subst Hx1_
     have H := Option.some.inj Hr1_
     subst H
     refine g_ret Try.func7 (v := Value.tuple #[Value.int .i64 (i64w x7), Value.int .i64 0]) (resN (l := Try.f7.results.toList) (vs := [Value.int .i64 (i64w x7), Value.int .i64 0]) rfl ⟨rfl, rfl, trivial⟩ (by simp)) ?_
     have hs : St _ [] _ := St.take (Γ' := [_,_,_,_,_,_,_]) hs
     exact ⟨_, rfl, rfl, hs⟩
    intro hb
    rw [if_neg (b_dec_f hb)] at H
    show G _ _ _ _ [_,_,_,_,_,_,_,_,_,_,_,_,_,_,_,_,_,_,_,_,_,_,_,_,_,_] _
    obtain rfl := ord_end hO6_ rfl (by decide +kernel)
    refine g_ops_nil (g_cond_false rfl (g_skip (g_region ?_)))
    show G _ _ _ (.inRegion _ [0, 1, 2] :: _) _ _
    refine g_op (v := Value.int .i8 x7) rfl rfl rfl ?_
    refine g_op (v := Value.int .i8 (i8w (x7 + 1))) rfl rfl rfl ?_
    show G _ _ _ _ [_,_,_,_,_,_,_,_,_,_,_,_,_,_,_,_,_,_,_,_,_,_,_,_,_,_] _
    refine g_op (v := Value.int .i8 (i8w (x7 + 1))) rfl rfl rfl ?_
    show G _ _ _ _ [_,_,_,_,_,_,_,_,_,_,_,_,_,_,_,_,_,_,_,_,_,_,_,_,_,_] _
    refine g_ops_nil ?_
    refine g_inBlock ?_
    obtain rfl := Option.some.inj H
    have hs := hs.pull 6 rfl
    have hs : St _ [_] _ := St.take (Γ' := [_,_,_,_,_,_]) hs
    exact ih1_ _ _ ⟨i8w (x7 + 1), Hx1_, rfl, hs⟩
  | false =>
    rw [if_neg Bool.false_ne_true] at H
    show G _ _ _ _ [_,_,_,_,_,_,_,_,_,_,_,_,_,_,_,_,_,_,_,_,_,_,_,_,_,_] _
    refine g_op (v := Value.bool true) rfl rfl rfl ?_
    show G _ _ _ _ [_,_,_,_,_,_,_,_,_,_,_,_,_,_,_,_,_,_,_,_,_,_,_,_,_,_] _
    refine g_ops_nil (g_cond_true rfl (g_seq (g_region ?_)))
    show G _ _ _ (.inRegion _ [0, 1] :: _) _ _
    refine g_op (v := Value.int .i64 0) rfl rfl rfl ?_
    show G _ _ _ _ [_,_,_,_,_,_,_,_,_,_,_,_,_,_,_,_,_,_,_,_,_,_,_,_,_,_] _
    refine g_op (v := Value.int .i64 1) rfl rfl rfl ?_
    show G _ _ _ _ [_,_,_,_,_,_,_,_,_,_,_,_,_,_,_,_,_,_,_,_,_,_,_,_,_,_] _
    refine g_ops_nil ?_
    obtain rfl := Option.some.inj H
    refine g_ret Try.func7 (v := Value.tuple #[Value.int .i64 0, Value.int .i64 1]) (resN (l := Try.f7.results.toList) (vs := [Value.int .i64 0, Value.int .i64 1]) rfl ⟨rfl, rfl, trivial⟩ (by simp)) ?_
    have hs : St _ [] _ := St.take (Γ' := [_]) hs
    exact ⟨_, rfl, rfl, hs⟩

/- function 54 _impl_Ferry_isCover_1 -/
def _impl_Ferry_isCover_1.post (w0 : World) (r : Bool) (v : Value) (w : World) : Prop := v = Value.bool r ∧ St w0 [] w
set_option maxHeartbeats 8000000 in
set_option maxRecDepth 100000 in
theorem _impl_Ferry_isCover_1.calls {N : Nat} {a1 : Int} {a2 : Int} {b3 : Nat} {w0 : World} {r : Bool} (hp1000 : w0.heap[b3]? = some (.cells (((encI .u16) a2) : List Value).toArray 31 (0, 0))) (H : _impl_Ferry_isCover_1.f N a1 a2 = some r) :
    Calls Try.prog 54 #[Value.int .u16 a1, Value.pointer (some ⟨b3, 0, none⟩)] w0 fun e w => ∃ v, e = .returned v ∧ _impl_Ferry_isCover_1.post w0 r v w := by
  unfold _impl_Ferry_isCover_1.f at H
  have hs : St w0 [] w0 := St.refl w0
  refine calls_of_g (n := 6) Try.func54 rfl rfl ?_
  show G _ _ _ _ [_,_,_,_,_,_,_,_] _
  refine g_seq (g_region ?_)
  show G _ _ _ (.inRegion _ [0] :: _) _ _
  refine g_op (v := Value.bool false) rfl rfl rfl ?_
  show G _ _ _ _ [_,_,_,_,_,_,_,_] _
  refine g_ops_nil (g_seq (g_region ?_))
  show G _ _ _ (.inRegion _ [0, 1, 2, 3, 4] :: _) _ _
  refine g_op (v := Value.int .u16 a1) rfl rfl rfl ?_
  show G _ _ _ _ [_,_,_,_,_,_,_,_] _
  refine s_load1 rfl rfl (v := Value.int .u16 a2) rfl rfl (fun _ => rfl) (cells_load (hs.box hp1000) 0 1 rfl) ?_
  show G _ _ _ _ [_,_,_,_,_,_,_,_] _
  refine g_op (v := Value.int .u16 (bAnd .u16 a1 a2)) rfl rfl rfl ?_
  show G _ _ _ _ [_,_,_,_,_,_,_,_] _
  refine g_op (v := Value.bool ((bAnd .u16 a1 a2) == 0)) rfl rfl rfl ?_
  show G _ _ _ _ [_,_,_,_,_,_,_,_] _
  refine g_op (v := Value.bool ((bAnd .u16 a1 a2) == 0)) rfl rfl rfl ?_
  show G _ _ _ _ [_,_,_,_,_,_,_,_] _
  refine g_ops_nil ?_
  obtain rfl := Option.some.inj H
  refine g_ret Try.func54 (v := Value.bool ((bAnd .u16 a1 a2) == 0)) (res1 rfl rfl) ?_
  have hs : St _ [] _ := St.take (Γ' := []) hs
  exact ⟨_, rfl, rfl, hs⟩

/- function 62 slices_IndexFunc_uint16_uint16_at__impl_Ferry_isCover_1 -/
def slices_IndexFunc_uint16_uint16_at__impl_Ferry_isCover_1.post (w0 : World) (r : Int) (v : Value) (w : World) : Prop := v = Value.int .i64 r ∧ St w0 [] w
set_option maxHeartbeats 8000000 in
set_option maxRecDepth 100000 in
theorem slices_IndexFunc_uint16_uint16_at__impl_Ferry_isCover_1.calls {N : Nat} {a1 : (List Int)} {a3 : Int} {v2 : Value} {b4 : Nat} {w0 : World} {r : Int} (hr0 : RdRow (K.int .u16) w0 v2 a1) (hp200 : w0.heap[b4]? = some (.cells (((encI .u16) a3) : List Value).toArray 31 (0, 0))) (H : slices_IndexFunc_uint16_uint16_at__impl_Ferry_isCover_1.f N a1 a3 = some r) :
    Calls Try.prog 62 #[v2, Value.func (Fn.func 54) #[] #[Value.pointer (some ⟨b4, 0, none⟩)]] w0 fun e w => ∃ v, e = .returned v ∧ slices_IndexFunc_uint16_uint16_at__impl_Ferry_isCover_1.post w0 r v w := by
  unfold slices_IndexFunc_uint16_uint16_at__impl_Ferry_isCover_1.f at H
  have hs : St w0 [] w0 := St.refl w0
  refine calls_of_g (n := 17) Try.func62 rfl rfl ?_
  show G _ _ _ _ [_,_,_,_,_,_,_,_,_,_,_,_,_,_,_,_,_,_,_] _
  refine g_seq (g_region ?_)
  show G _ _ _ (.inRegion _ [0] :: _) _ _
  refine g_op (v := Value.int .i64 0) rfl rfl rfl ?_
  show G _ _ _ _ [_,_,_,_,_,_,_,_,_,_,_,_,_,_,_,_,_,_,_] _
  refine g_ops_nil (g_seq (g_seq (g_region ?_)))
  show G _ _ _ (.inRegion _ [0, 1, 2] :: _) _ _
  refine g_op (v := v2) rfl rfl rfl ?_
  show G _ _ _ _ [_,_,_,_,_,_,_,_,_,_,_,_,_,_,_,_,_,_,_] _
  refine s_len (hs.rd hr0) rfl rfl rfl rfl rfl ?_
  show G _ _ _ _ [_,_,_,_,_,_,_,_,_,_,_,_,_,_,_,_,_,_,_] _
  refine g_op (v := Value.int .i64 0) rfl rfl rfl ?_
  show G _ _ _ _ [_,_,_,_,_,_,_,_,_,_,_,_,_,_,_,_,_,_,_] _
  refine g_ops_nil ?_
  obtain ⟨o1_, Ho, Hr1_⟩ := bind_get H
  refine g_block_join (J := fun t w => slices_IndexFunc_uint16_uint16_at__impl_Ferry_isCover_1.a0 N = some r ∧ Fr t (fun O => ([O 0, O 1, O 2, O 3, O 4, O 5, O 6, O 7, O 8, O 9, O 10, O 11, O 12, O 13, O 14, O 15, O 16, O 17, O 18] : List Value)) ∧ St w0 [] w) ?_ ?_
  ·
   rintro t w ⟨H, hf, hs⟩
   obtain ⟨O, rfl⟩ := hf.open
   show G _ _ _ _ [_,_,_,_,_,_,_,_,_,_,_,_,_,_,_,_,_,_,_] _
   unfold slices_IndexFunc_uint16_uint16_at__impl_Ferry_isCover_1.a0 at H
   refine g_seq (g_region ?_)
   show G _ _ _ (.inRegion _ [0] :: _) _ _
   refine g_op (v := Value.int .i64 (-1)) rfl rfl rfl ?_
   show G _ _ _ _ [_,_,_,_,_,_,_,_,_,_,_,_,_,_,_,_,_,_,_] _
   refine g_ops_nil ?_
   obtain rfl := Option.some.inj H
   refine g_ret Try.func62 (v := Value.int .i64 (-1)) (res1 rfl rfl) ?_
   have hs : St _ [] _ := St.take (Γ' := []) hs
   exact ⟨_, rfl, rfl, hs⟩
  intro ha1_
  have hs : St _ [] _ := St.take (Γ' := []) hs
  refine g_loop_fuel (I := fun n_ t w => ∃ x6 : Int, rounds (fun s => slices_IndexFunc_uint16_uint16_at__impl_Ferry_isCover_1.b0 N a1 a3 s) n_ x6 = some o1_ ∧ Fr t (fun O => ([v2, Value.func (Fn.func 54) #[] #[Value.pointer (some ⟨b4, 0, none⟩)], O 2, O 3, O 4, O 5, O 6, Value.int .i64 (a1.length : Int), Value.int .i64 x6, O 9, O 10, O 11, O 12, O 13, O 14, O 15, O 16, O 17, O 18] : List Value)) ∧ St w0 [] w) N ⟨0, Ho, rfl, hs⟩ ?_ ?_
  ·
   rintro _ _ ⟨x6, h, _⟩
   exact rounds_zero h
  intro n_ ih1_
  rintro t w ⟨x6, Ho, hf, hs⟩
  obtain ⟨O, rfl⟩ := hf.open
  show G _ _ _ _ [_,_,_,_,_,_,_,_,_,_,_,_,_,_,_,_,_,_,_] _
  obtain ⟨x2_, H, Hx1_⟩ := rounds_succ Ho
  have H : slices_IndexFunc_uint16_uint16_at__impl_Ferry_isCover_1.b0 N a1 a3 x6 = some x2_ := H
  unfold slices_IndexFunc_uint16_uint16_at__impl_Ferry_isCover_1.b0 at H
  refine g_seq (g_region ?_)
  show G _ _ _ (.inRegion _ [0] :: _) _ _
  refine g_op_b (B := decide (x6 < (a1.length : Int))) rfl rfl rfl ?_ ?_
  ·
   intro hb
   rw [if_pos (b_dec_t hb)] at H
   show G _ _ _ _ [_,_,_,_,_,_,_,_,_,_,_,_,_,_,_,_,_,_,_] _
   refine g_ops_nil (g_seq (g_cond_true rfl (g_skip (g_seq ?_))))
   refine g_block (g_seq (g_region ?_))
   show G _ _ _ (.inRegion _ [0, 1] :: _) _ _
   refine g_op (v := Value.int .i64 x6) rfl rfl rfl ?_
   show G _ _ _ _ [_,_,_,_,_,_,_,_,_,_,_,_,_,_,_,_,_,_,_] _
   refine g_op (v := Value.int .i64 x6) rfl rfl rfl ?_
   show G _ _ _ _ [_,_,_,_,_,_,_,_,_,_,_,_,_,_,_,_,_,_,_] _
   refine g_ops_nil (g_seq (g_region ?_))
   show G _ _ _ (.inRegion _ [0, 1, 2, 3, 4, 5] :: _) _ _
   refine g_op (v := Value.func (Fn.func 54) #[] #[Value.pointer (some ⟨b4, 0, none⟩)]) rfl rfl rfl ?_
   show G _ _ _ _ [_,_,_,_,_,_,_,_,_,_,_,_,_,_,_,_,_,_,_] _
   refine g_op (v := v2) rfl rfl rfl ?_
   show G _ _ _ _ [_,_,_,_,_,_,_,_,_,_,_,_,_,_,_,_,_,_,_] _
   refine g_op (v := Value.int .i64 x6) rfl rfl rfl ?_
   show G _ _ _ _ [_,_,_,_,_,_,_,_,_,_,_,_,_,_,_,_,_,_,_] _
   obtain ⟨g1, H⟩ := ite_get H
   refine s_idx (fkI .u16) 0 (hs.rd hr0) rfl (fun _ => rfl) g1.1 g1.2 rfl rfl rfl rfl rfl ?_
   intro p7 hp7 lp7 op7
   show G _ _ _ _ [_,_,_,_,_,_,_,_,_,_,_,_,_,_,_,_,_,_,_] _
   refine s_load1 rfl rfl (v := Value.int .u16 (rdL a1 x6 0)) rfl rfl (fun _ => rfl) hp7 ?_
   show G _ _ _ _ [_,_,_,_,_,_,_,_,_,_,_,_,_,_,_,_,_,_,_] _
   obtain ⟨r8, Hr8, H⟩ := bind_get H
   refine s_call (args := [Value.int .u16 (rdL a1 x6 0), Value.pointer (some ⟨b4, 0, none⟩)]) rfl rfl (x_callC rfl (callFunc_enter Try.func54 rfl rfl) rfl rfl) (_impl_Ferry_isCover_1.calls (a1 := rdL a1 x6 0) (a2 := a3) (hs.box hp200) Hr8) ?_
   rintro _ w ⟨rfl, hs2⟩
   have hs : St _ [] _ := hs.call hs2
   cases r8 with
   | true =>
     rw [if_pos rfl] at H
     show G _ _ _ _ [_,_,_,_,_,_,_,_,_,_,_,_,_,_,_,_,_,_,_] _
     refine g_ops_nil (g_cond_true rfl (g_seq (g_region ?_)))
     show G _ _ _ (.inRegion _ [0, 1] :: _) _ _
     refine g_op (v := Value.int .i64 x6) rfl rfl rfl ?_
     show G _ _ _ _ [_,_,_,_,_,_,_,_,_,_,_,_,_,_,_,_,_,_,_] _
     refine g_op (v := Value.int .i64 x6) rfl rfl rfl ?_
     show G _ _ _ _ [_,_,_,_,_,_,_,_,_,_,_,_,_,_,_,_,_,_,_] _
     refine g_ops_nil ?_
     obtain rfl := Option.some.inj H
     subst Hx1_
     have H := Option.some.inj Hr1_
     subst H
     refine g_ret Try.func62 (v := Value.int .i64 x6) (res1 rfl rfl) ?_
     have hs : St _ [] _ := St.take (Γ' := []) hs
     exact ⟨_, rfl, rfl, hs⟩
   | false =>
     rw [if_neg Bool.false_ne_true] at H
     show G _ _ _ _ [_,_,_,_,_,_,_,_,_,_,_,_,_,_,_,_,_,_,_] _
     refine g_ops_nil (g_cond_false rfl (g_skip ?_))
     refine g_inBlock (g_region ?_)
     show G _ _ _ (.inRegion _ [0, 1] :: _) _ _
     refine g_op (v := Value.int .i64 (i64w (x6 + 1))) rfl rfl rfl ?_
     show G _ _ _ _ [_,_,_,_,_,_,_,_,_,_,_,_,_,_,_,_,_,_,_] _
     refine g_op (v := Value.int .i64 (i64w (x6 + 1))) rfl rfl rfl ?_
     show G _ _ _ _ [_,_,_,_,_,_,_,_,_,_,_,_,_,_,_,_,_,_,_] _
     refine g_ops_nil ?_
     obtain rfl := Option.some.inj H
     have hs : St _ [] _ := St.take (Γ' := []) hs
     exact ih1_ _ _ ⟨i64w (x6 + 1), Hx1_, rfl, hs⟩
  intro hb
  rw [if_neg (b_dec_f hb)] at H
  show G _ _ _ _ [_,_,_,_,_,_,_,_,_,_,_,_,_,_,_,_,_,_,_] _
  refine g_ops_nil (g_seq (g_cond_false rfl ?_))
  obtain rfl := Option.some.inj H
  subst Hx1_
  have hs : St _ [] _ := St.take (Γ' := []) hs
  refine g_exit rfl ?_
  exact ha1_ _ _ ⟨Hr1_, rfl, hs⟩

/- function 47 slices_ContainsFunc_uint16_uint16_at__impl_Ferry_isCover_1 -/
def slices_ContainsFunc_uint16_uint16_at__impl_Ferry_isCover_1.post (w0 : World) (r : Bool) (v : Value) (w : World) : Prop := v = Value.bool r ∧ St w0 [] w
set_option maxHeartbeats 8000000 in
set_option maxRecDepth 100000 in
theorem slices_ContainsFunc_uint16_uint16_at__impl_Ferry_isCover_1.calls {N : Nat} {a1 : (List Int)} {a3 : Int} {v2 : Value} {b4 : Nat} {w0 : World} {r : Bool} (hr0 : RdRow (K.int .u16) w0 v2 a1) (hp200 : w0.heap[b4]? = some (.cells (((encI .u16) a3) : List Value).toArray 31 (0, 0))) (H : slices_ContainsFunc_uint16_uint16_at__impl_Ferry_isCover_1.f N a1 a3 = some r) :
    Calls Try.prog 47 #[v2, Value.func (Fn.func 54) #[] #[Value.pointer (some ⟨b4, 0, none⟩)]] w0 fun e w => ∃ v, e = .returned v ∧ slices_ContainsFunc_uint16_uint16_at__impl_Ferry_isCover_1.post w0 r v w := by
  unfold slices_ContainsFunc_uint16_uint16_at__impl_Ferry_isCover_1.f at H
  have hs : St w0 [] w0 := St.refl w0
  refine calls_of_g (n := 7) Try.func47 rfl rfl ?_
  show G _ _ _ _ [_,_,_,_,_,_,_,_,_] _
  refine g_seq (g_region ?_)
  show G _ _ _ (.inRegion _ [0] :: _) _ _
  refine g_op (v := Value.bool false) rfl rfl rfl ?_
  show G _ _ _ _ [_,_,_,_,_,_,_,_,_] _
  refine g_ops_nil (g_seq (g_region ?_))
  show G _ _ _ (.inRegion _ [0, 1, 2, 3, 4] :: _) _ _
  refine g_op (v := v2) rfl rfl rfl ?_
  show G _ _ _ _ [_,_,_,_,_,_,_,_,_] _
  refine g_op (v := Value.func (Fn.func 54) #[] #[Value.pointer (some ⟨b4, 0, none⟩)]) rfl rfl rfl ?_
  show G _ _ _ _ [_,_,_,_,_,_,_,_,_] _
  obtain ⟨r6, Hr6, H⟩ := bind_get H
  refine s_call (args := [v2, Value.func (Fn.func 54) #[] #[Value.pointer (some ⟨b4, 0, none⟩)]]) rfl rfl (x_call rfl (callFunc_enter Try.func62 rfl rfl) rfl) (slices_IndexFunc_uint16_uint16_at__impl_Ferry_isCover_1.calls (a1 := a1) (a3 := a3) (hs.rd hr0) (hs.box hp200) Hr6) ?_
  rintro _ w ⟨rfl, hs2⟩
  have hs : St _ [] _ := hs.call hs2
  show G _ _ _ _ [_,_,_,_,_,_,_,_,_] _
  refine g_op (v := Value.bool (decide (r6 ≥ 0))) rfl rfl rfl ?_
  show G _ _ _ _ [_,_,_,_,_,_,_,_,_] _
  refine g_op (v := Value.bool (decide (r6 ≥ 0))) rfl rfl rfl ?_
  show G _ _ _ _ [_,_,_,_,_,_,_,_,_] _
  refine g_ops_nil ?_
  obtain rfl := Option.some.inj H
  refine g_ret Try.func47 (v := Value.bool (decide (r6 ≥ 0))) (res1 rfl rfl) ?_
  have hs : St _ [] _ := St.take (Γ' := []) hs
  exact ⟨_, rfl, rfl, hs⟩

/- function 28 _impl_Ferry_isCover -/
def _impl_Ferry_isCover.post (w0 : World) (r : Bool) (v : Value) (w : World) : Prop := v = Value.bool r ∧ St w0 [] w
set_option maxHeartbeats 8000000 in
set_option maxRecDepth 100000 in
theorem _impl_Ferry_isCover.calls {N : Nat} {a1 : S_impl_Ferry} {a4 : Int} {v2 : Value} {w0 : World} {r : Bool} (hr3 : RdRow (K.int .u16) w0 v2 a1.f_Rules) (H : _impl_Ferry_isCover.f N a1 a4 = some r) :
    Calls Try.prog 28 #[Value.agg (([Value.int .i8 a1.f_Things, Value.int .i8 a1.f_Boat, v2] : List Value)).toArray, Value.int .u16 a4] w0 fun e w => ∃ v, e = .returned v ∧ _impl_Ferry_isCover.post w0 r v w := by
  unfold _impl_Ferry_isCover.f at H
  have hs : St w0 [] w0 := St.refl w0
  refine calls_of_g (n := 8) Try.func28 rfl rfl ?_
  show G _ _ _ _ [_,_,_,_,_,_,_,_,_,_] _
  refine g_seq (g_region ?_)
  show G _ _ _ (.inRegion _ [0, 1, 2] :: _) _ _
  refine s_box hs rfl rfl (cs := (([Value.int .i8 a1.f_Things, Value.int .i8 a1.f_Boat, v2] : List Value))) rfl rfl ?_
  intro b5 w hs
  show G _ _ _ _ [_,_,_,_,_,_,_,_,_,_] _
  refine s_box hs rfl rfl (cs := ((encI .u16) a4)) rfl rfl ?_
  intro b7 w hs
  show G _ _ _ _ [_,_,_,_,_,_,_,_,_,_] _
  refine g_op (v := Value.bool false) rfl rfl rfl ?_
  show G _ _ _ _ [_,_,_,_,_,_,_,_,_,_] _
  refine g_ops_nil (g_seq (g_region ?_))
  show G _ _ _ (.inRegion _ [0, 1, 2, 3, 4, 5] :: _) _ _
  refine g_op (v := Value.pointer (some ⟨b5, 2, none⟩)) rfl rfl rfl ?_
  show G _ _ _ _ [_,_,_,_,_,_,_,_,_,_] _
  refine s_load1 rfl rfl (v := v2) rfl rfl (fun _ => rfl) (cells_load (hs.cells 1 rfl) 2 1 rfl) ?_
  show G _ _ _ _ [_,_,_,_,_,_,_,_,_,_] _
  refine g_op (v := Value.func (Fn.func 54) #[] #[Value.pointer (some ⟨b7, 0, none⟩)]) rfl rfl (x_mkfunc rfl rfl) ?_
  show G _ _ _ _ [_,_,_,_,_,_,_,_,_,_] _
  obtain ⟨r9, Hr9, H⟩ := bind_get H
  refine s_call (args := [v2, Value.func (Fn.func 54) #[] #[Value.pointer (some ⟨b7, 0, none⟩)]]) rfl rfl (x_call rfl (callFunc_enter Try.func47 rfl rfl) rfl) (slices_ContainsFunc_uint16_uint16_at__impl_Ferry_isCover_1.calls (a1 := a1.f_Rules) (a3 := a4) (hs.rd hr3) (hs.cells 0 rfl) Hr9) ?_
  rintro _ w ⟨rfl, hs2⟩
  have hs : St _ [_,_] _ := hs.call hs2
  show G _ _ _ _ [_,_,_,_,_,_,_,_,_,_] _
  refine g_op (v := Value.bool (!r9)) rfl rfl rfl ?_
  show G _ _ _ _ [_,_,_,_,_,_,_,_,_,_] _
  refine g_op (v := Value.bool (!r9)) rfl rfl rfl ?_
  show G _ _ _ _ [_,_,_,_,_,_,_,_,_,_] _
  refine g_ops_nil ?_
  obtain rfl := Option.some.inj H
  refine g_ret Try.func28 (v := Value.bool (!r9)) (res1 rfl rfl) ?_
  have hs : St _ [] _ := St.take (Γ' := [_,_]) hs
  exact ⟨_, rfl, rfl, hs⟩

/- function 8 impl_LeastCover -/
def impl_LeastCover.post (w0 : World) (r : (Int × Int)) (v : Value) (w : World) : Prop := v = Value.tuple #[Value.int .u16 r.1, Value.int .i64 r.2] ∧ St w0 [] w
set_option maxHeartbeats 8000000 in
set_option maxRecDepth 100000 in
theorem impl_LeastCover.calls {N : Nat} {a1 : S_impl_Ferry} {v2 : Value} {w0 : World} {r : (Int × Int)} (hr3 : RdRow (K.int .u16) w0 v2 a1.f_Rules) (H : impl_LeastCover.f N a1 = some r) :
    Calls Try.prog 8 #[Value.agg (([Value.int .i8 a1.f_Things, Value.int .i8 a1.f_Boat, v2] : List Value)).toArray] w0 fun e w => ∃ v, e = .returned v ∧ impl_LeastCover.post w0 r v w := by
  unfold impl_LeastCover.f at H
  have hs : St w0 [] w0 := St.refl w0
  refine calls_of_g (n := 40) Try.func8 rfl rfl ?_
  show G _ _ _ _ [_,_,_,_,_,_,_,_,_,_,_,_,_,_,_,_,_,_,_,_,_,_,_,_,_,_,_,_,_,_,_,_,_,_,_,_,_,_,_,_,_] _
  refine g_seq (g_region ?_)
  show G _ _ _ (.inRegion _ [0, 1, 2] :: _) _ _
  refine s_box hs rfl rfl (cs := (([Value.int .i8 a1.f_Things, Value.int .i8 a1.f_Boat, v2] : List Value))) rfl rfl ?_
  intro b4 w hs
  show G _ _ _ _ [_,_,_,_,_,_,_,_,_,_,_,_,_,_,_,_,_,_,_,_,_,_,_,_,_,_,_,_,_,_,_,_,_,_,_,_,_,_,_,_,_] _
  refine g_op (v := Value.int .u16 0) rfl rfl rfl ?_
  refine g_op (v := Value.int .i64 0) rfl rfl rfl (g_ops_nil (g_seq (g_seq (g_region ?_))))
  show G _ _ _ (.inRegion _ [0, 1, 2] :: _) _ _
  refine s_loadA rfl rfl (es := (([Value.int .i8 a1.f_Things, Value.int .i8 a1.f_Boat, v2] : List Value))) rfl rfl (fun _ => rfl) (n := 3) (fun _ => rfl) rfl (cells_all (hs.cells 0 rfl)) ?_
  show G _ _ _ _ [_,_,_,_,_,_,_,_,_,_,_,_,_,_,_,_,_,_,_,_,_,_,_,_,_,_,_,_,_,_,_,_,_,_,_,_,_,_,_,_,_] _
  obtain ⟨r6, Hr6, H⟩ := bind_get H
  refine s_call (args := [Value.agg (([Value.int .i8 a1.f_Things, Value.int .i8 a1.f_Boat, v2] : List Value)).toArray]) rfl rfl (x_call rfl (callFunc_enter Try.func23 rfl rfl) rfl) (impl_ValidFerry.calls (a1 := (⟨a1.f_Things, a1.f_Boat, a1.f_Rules⟩ : S_impl_Ferry)) (hs.rd hr3) Hr6) ?_
  rintro _ w ⟨rfl, hs2⟩
  have hs : St _ [_] _ := hs.call hs2
  cases r6 with
  | true =>
    rw [if_pos rfl] at H
    refine g_op (v := Value.bool false) rfl rfl rfl (g_ops_nil (g_cond_false rfl (g_skip (g_seq (g_region ?_)))))
    show G _ _ _ (.inRegion _ [0, 1, 2] :: _) _ _
    refine s_loadA rfl rfl (es := (([Value.int .i8 a1.f_Things, Value.int .i8 a1.f_Boat, v2] : List Value))) rfl rfl (fun _ => rfl) (n := 3) (fun _ => rfl) rfl (cells_all (hs.cells 0 rfl)) ?_
    show G _ _ _ _ [_,_,_,_,_,_,_,_,_,_,_,_,_,_,_,_,_,_,_,_,_,_,_,_,_,_,_,_,_,_,_,_,_,_,_,_,_,_,_,_,_] _
    obtain ⟨r7, Hr7, H⟩ := bind_get H
    refine s_call (args := [Value.agg (([Value.int .i8 a1.f_Things, Value.int .i8 a1.f_Boat, v2] : List Value)).toArray]) rfl rfl (x_call rfl (callFunc_enter Try.func27 rfl rfl) rfl) (_impl_Ferry_all.calls (a1 := (⟨a1.f_Things, a1.f_Boat, a1.f_Rules⟩ : S_impl_Ferry)) (hs.rd hr3) Hr7) ?_
    rintro _ w ⟨rfl, hs2⟩
    have hs : St _ [_] _ := hs.call hs2
    refine g_op (v := Value.int .u16 r7) rfl rfl rfl (g_ops_nil (g_seq (g_seq (g_region ?_))))
    show G _ _ _ (.inRegion _ [0, 1, 2] :: _) _ _
    refine s_loadA rfl rfl (es := (([Value.int .i8 a1.f_Things, Value.int .i8 a1.f_Boat, v2] : List Value))) rfl rfl (fun _ => rfl) (n := 3) (fun _ => rfl) rfl (cells_all (hs.cells 0 rfl)) ?_
    show G _ _ _ _ [_,_,_,_,_,_,_,_,_,_,_,_,_,_,_,_,_,_,_,_,_,_,_,_,_,_,_,_,_,_,_,_,_,_,_,_,_,_,_,_,_] _
    obtain ⟨r8, Hr8, H⟩ := bind_get H
    refine s_call (args := [Value.agg (([Value.int .i8 a1.f_Things, Value.int .i8 a1.f_Boat, v2] : List Value)).toArray]) rfl rfl (x_call rfl (callFunc_enter Try.func27 rfl rfl) rfl) (_impl_Ferry_all.calls (a1 := (⟨a1.f_Things, a1.f_Boat, a1.f_Rules⟩ : S_impl_Ferry)) (hs.rd hr3) Hr8) ?_
    rintro _ w ⟨rfl, hs2⟩
    have hs : St _ [_] _ := hs.call hs2
    refine g_op (v := Value.int .u16 0) rfl rfl rfl (g_ops_nil ?_)
    obtain ⟨o1_, Ho, Hr1_⟩ := bind_get H
    refine g_block_join (J := fun t w => ∃ x17 : Int, impl_LeastCover.a0 N x17 = some r ∧ Fr t (fun O => ([O 0, O 1, O 2, O 3, Value.int .u16 x17, O 5, O 6, O 7, O 8, O 9, O 10, O 11, O 12, O 13, O 14, O 15, O 16, O 17, O 18, O 19, O 20, O 21, O 22, O 23, O 24, O 25, O 26, O 27, O 28, O 29, O 30, O 31, O 32, O 33, O 34, O 35, O 36, O 37, O 38, O 39, O 40] : List Value)) ∧ St w0 [] w) ?_ ?_
    ·
     rintro t w ⟨x17, H, hf, hs⟩
     obtain ⟨O, rfl⟩ := hf.open
     show G _ _ _ _ [_,_,_,_,_,_,_,_,_,_,_,_,_,_,_,_,_,_,_,_,_,_,_,_,_,_,_,_,_,_,_,_,_,_,_,_,_,_,_,_,_] _
     unfold impl_LeastCover.a0 at H
     refine g_seq (g_region ?_)
     show G _ _ _ (.inRegion _ [0, 1, 2] :: _) _ _
     refine g_op (v := Value.int .u16 x17) rfl rfl rfl ?_
     refine g_op (v := Value.int .u16 x17) rfl rfl rfl ?_
     refine g_op (v := Value.int .i64 0) rfl rfl rfl ?_
     show G _ _ _ _ [_,_,_,_,_,_,_,_,_,_,_,_,_,_,_,_,_,_,_,_,_,_,_,_,_,_,_,_,_,_,_,_,_,_,_,_,_,_,_,_,_] _
     refine g_ops_nil ?_
     obtain rfl := Option.some.inj H
     refine g_ret Try.func8 (v := Value.tuple #[Value.int .u16 x17, Value.int .i64 0]) (resN (l := Try.f8.results.toList) (vs := [Value.int .u16 x17, Value.int .i64 0]) rfl ⟨rfl, rfl, trivial⟩ (by simp)) ?_
     have hs : St _ [] _ := St.take (Γ' := []) hs
     exact ⟨_, rfl, rfl, hs⟩
    intro ha1_
    have hs := hs.pull 0 rfl
    have hs : St _ [_] _ := St.take (Γ' := []) hs
    refine g_loop_fuel (I := fun n_ t w => ∃ x9 : Int, ∃ x10 : Int, rounds (fun s => impl_LeastCover.b0 N r8 a1 s.1 s.2) n_ (x9, x10) = some o1_ ∧ Fr t (fun O => ([O 0, Value.pointer (some ⟨b4, 0, none⟩), O 2, O 3, Value.int .u16 x9, O 5, O 6, O 7, O 8, O 9, O 10, O 11, Value.int .u16 r8, Value.int .u16 x10, O 14, O 15, O 16, O 17, O 18, O 19, O 20, O 21, O 22, O 23, O 24, O 25, O 26, O 27, O 28, O 29, O 30, O 31, O 32, O 33, O 34, O 35, O 36, O 37, O 38, O 39, O 40] : List Value)) ∧ St w0 [Cells b4 (([Value.int .i8 a1.f_Things, Value.int .i8 a1.f_Boat, v2] : List Value)) 27] w) N ⟨r7, 0, Ho, rfl, hs⟩ ?_ ?_
    ·
     rintro _ _ ⟨x9, x10, h, _⟩
     exact rounds_zero h
    intro n_ ih1_
    rintro t w ⟨x9, x10, Ho, hf, hs⟩
    obtain ⟨O, rfl⟩ := hf.open
    show G _ _ _ _ [_,_,_,_,_,_,_,_,_,_,_,_,_,_,_,_,_,_,_,_,_,_,_,_,_,_,_,_,_,_,_,_,_,_,_,_,_,_,_,_,_] _
    obtain ⟨x1_, H, Hx1_⟩ := rounds_succ Ho
    have H : impl_LeastCover.b0 N r8 a1 x9 x10 = some x1_ := H
    unfold impl_LeastCover.b0 at H
    refine g_seq (g_region ?_)
    show G _ _ _ (.inRegion _ [0] :: _) _ _
    refine g_op_b (B := decide (x10 < r8)) rfl rfl rfl ?_ ?_
    ·
     intro hb
     rw [if_pos (b_dec_t hb)] at H
     show G _ _ _ _ [_,_,_,_,_,_,_,_,_,_,_,_,_,_,_,_,_,_,_,_,_,_,_,_,_,_,_,_,_,_,_,_,_,_,_,_,_,_,_,_,_] _
     refine g_ops_nil (g_seq (g_cond_true rfl (g_skip (g_seq ?_))))
     refine g_block_join (J := (fun t w => ∃ x16 : Int, impl_LeastCover.j2 N x10 x16 = some x1_ ∧ Fr t (fun O => ([O 0, Value.pointer (some ⟨b4, 0, none⟩), O 2, O 3, Value.int .u16 x16, O 5, O 6, O 7, O 8, O 9, O 10, O 11, Value.int .u16 r8, Value.int .u16 x10, O 14, O 15, O 16, O 17, O 18, O 19, O 20, O 21, O 22, O 23, O 24, O 25, O 26, O 27, O 28, O 29, O 30, O 31, O 32, O 33, O 34, O 35, O 36, O 37, O 38, O 39, O 40] : List Value)) ∧ St w0 [Cells b4 (([Value.int .i8 a1.f_Things, Value.int .i8 a1.f_Boat, v2] : List Value)) 27] w)) ?_ ?_
     ·
      rintro t w ⟨x16, H, hf, hs⟩
      obtain ⟨O, rfl⟩ := hf.open
      show G _ _ _ _ [_,_,_,_,_,_,_,_,_,_,_,_,_,_,_,_,_,_,_,_,_,_,_,_,_,_,_,_,_,_,_,_,_,_,_,_,_,_,_,_,_] _
      unfold impl_LeastCover.j2 at H
      refine g_region ?_
      show G _ _ _ (.inRegion _ [0, 1] :: _) _ _
      refine g_op (v := Value.int .u16 (u16w (x10 + 1))) rfl rfl rfl ?_
      refine g_op (v := Value.int .u16 (u16w (x10 + 1))) rfl rfl rfl (g_ops_nil ?_)
      obtain rfl := Option.some.inj H
      have hs := hs.pull 0 rfl
      have hs : St _ [_] _ := St.take (Γ' := []) hs
      exact ih1_ _ _ ⟨x16, u16w (x10 + 1), Hx1_, rfl, hs⟩
     intro ha
     refine g_seq (g_region ?_)
     show G _ _ _ (.inRegion _ [0, 1] :: _) _ _
     refine g_op (v := Value.int .u16 x10) rfl rfl rfl ?_
     refine g_op (v := Value.int .u16 x10) rfl rfl rfl (g_ops_nil (g_seq (g_region ?_)))
     show G _ _ _ (.inRegion _ [0, 1, 2, 3, 4, 5, 6, 7, 8, 9, 10, 11, 12, 13, 14, 15, 16, 17, 18, 19, 20, 21] :: _) _ _
     refine s_loadA rfl rfl (es := (([Value.int .i8 a1.f_Things, Value.int .i8 a1.f_Boat, v2] : List Value))) rfl rfl (fun _ => rfl) (n := 3) (fun _ => rfl) rfl (cells_all (hs.cells 0 rfl)) ?_
     refine g_op (v := Value.int .u16 x10) rfl rfl rfl ?_
     obtain ⟨r11, Hr11, H⟩ := bind_get H
     refine s_call (args := [Value.agg (([Value.int .i8 a1.f_Things, Value.int .i8 a1.f_Boat, v2] : List Value)).toArray, Value.int .u16 x10]) rfl rfl (x_call rfl (callFunc_enter Try.func28 rfl rfl) rfl) (_impl_Ferry_isCover.calls (a1 := (⟨a1.f_Things, a1.f_Boat, a1.f_Rules⟩ : S_impl_Ferry)) (a4 := x10) (hs.rd hr3) Hr11) ?_
     rintro _ w ⟨rfl, hs2⟩
     have hs : St _ [_] _ := hs.call hs2
     cases r11 with
     | true =>
       rw [if_pos rfl] at H
       refine g_op (v := Value.bool true) rfl rfl rfl ?_
       refine g_op (v := Value.int .u16 x10) rfl rfl rfl ?_
       obtain ⟨r12, Hr12, H⟩ := bind_get H
       refine s_call (args := [Value.int .u16 x10]) rfl rfl (x_call rfl (callFunc_enter Try.func29 rfl rfl) rfl) (bits_OnesCount16.calls (a1 := x10) Hr12) ?_
       rintro _ w ⟨rfl, hs2⟩
       have hs : St _ [_] _ := hs.call hs2
       show G _ _ _ _ [_,_,_,_,_,_,_,_,_,_,_,_,_,_,_,_,_,_,_,_,_,_,_,_,_,_,_,_,_,_,_,_,_,_,_,_,_,_,_,_,_] _
       refine g_op (v := Value.int .u16 x9) rfl rfl rfl ?_
       obtain ⟨r13, Hr13, H⟩ := bind_get H
       refine s_call (args := [Value.int .u16 x9]) rfl rfl (x_call rfl (callFunc_enter Try.func29 rfl rfl) rfl) (bits_OnesCount16.calls (a1 := x9) Hr13) ?_
       rintro _ w ⟨rfl, hs2⟩
       have hs : St _ [_] _ := hs.call hs2
       refine g_op_b (B := decide (r12 < r13)) rfl rfl rfl ?_ ?_
       ·
        intro hb
        rw [if_pos (b_dec_t hb)] at H
        show G _ _ _ _ [_,_,_,_,_,_,_,_,_,_,_,_,_,_,_,_,_,_,_,_,_,_,_,_,_,_,_,_,_,_,_,_,_,_,_,_,_,_,_,_,_] _
        refine g_op (v := Value.bool true) rfl rfl rfl (g_op_not rfl rfl (g_op_not rfl rfl (g_op_not rfl rfl (g_op_not rfl rfl (g_op_not rfl rfl ?_)))))
        show G _ _ _ _ [_,_,_,_,_,_,_,_,_,_,_,_,_,_,_,_,_,_,_,_,_,_,_,_,_,_,_,_,_,_,_,_,_,_,_,_,_,_,_,_,_] _
        refine g_op_not rfl rfl (g_op_not rfl rfl (g_op_not rfl rfl (g_op_not rfl rfl (g_op_not rfl rfl ?_))))
        refine g_op (v := Value.bool true) rfl rfl rfl ?_
        show G _ _ _ _ [_,_,_,_,_,_,_,_,_,_,_,_,_,_,_,_,_,_,_,_,_,_,_,_,_,_,_,_,_,_,_,_,_,_,_,_,_,_,_,_,_] _
        refine g_op (v := Value.bool true) rfl rfl rfl (g_ops_nil (g_cond_true rfl (g_region ?_)))
        show G _ _ _ (.inRegion _ [0, 1] :: _) _ _
        refine g_op (v := Value.int .u16 x10) rfl rfl rfl ?_
        refine g_op (v := Value.int .u16 x10) rfl rfl rfl (g_ops_nil ?_)
        refine g_inBlock ?_
        have hs := hs.pull 0 rfl
        have hs : St _ [_] _ := St.take (Γ' := []) hs
        exact ha _ _ ⟨x10, H, rfl, hs⟩
       intro hb
       rw [if_neg (b_dec_f hb)] at H
       refine g_op (v := Value.bool false) rfl rfl rfl ?_
       refine g_op (v := Value.int .u16 x10) rfl rfl rfl ?_
       obtain ⟨r14, Hr14, H⟩ := bind_get H
       refine s_call (args := [Value.int .u16 x10]) rfl rfl (x_call rfl (callFunc_enter Try.func29 rfl rfl) rfl) (bits_OnesCount16.calls (a1 := x10) Hr14) ?_
       rintro _ w ⟨rfl, hs2⟩
       have hs : St _ [_] _ := hs.call hs2
       show G _ _ _ _ [_,_,_,_,_,_,_,_,_,_,_,_,_,_,_,_,_,_,_,_,_,_,_,_,_,_,_,_,_,_,_,_,_,_,_,_,_,_,_,_,_] _
       refine g_op (v := Value.int .u16 x9) rfl rfl rfl ?_
       obtain ⟨r15, Hr15, H⟩ := bind_get H
       refine s_call (args := [Value.int .u16 x9]) rfl rfl (x_call rfl (callFunc_enter Try.func29 rfl rfl) rfl) (bits_OnesCount16.calls (a1 := x9) Hr15) ?_
       rintro _ w ⟨rfl, hs2⟩
       have hs : St _ [_] _ := hs.call hs2
       refine g_op_b (B := r14 == r15) rfl rfl rfl ?_ ?_
       ·
        intro hb
        rw [if_pos (b_beq_t hb)] at H
        refine g_op (v := Value.bool true) rfl rfl rfl ?_
        refine g_op (v := Value.int .u16 x10) rfl rfl rfl ?_
        refine g_op (v := Value.int .u16 x9) rfl rfl rfl ?_
        refine g_op (v := Value.bool (decide (x10 < x9))) rfl rfl rfl ?_
        refine g_op (v := Value.bool (decide (x10 < x9))) rfl rfl rfl ?_
        show G _ _ _ _ [_,_,_,_,_,_,_,_,_,_,_,_,_,_,_,_,_,_,_,_,_,_,_,_,_,_,_,_,_,_,_,_,_,_,_,_,_,_,_,_,_] _
        refine g_op_b (B := decide (x10 < x9)) rfl rfl rfl ?_ ?_
        ·
         intro hb
         rw [if_pos (b_dec_t hb)] at H
         show G _ _ _ _ [_,_,_,_,_,_,_,_,_,_,_,_,_,_,_,_,_,_,_,_,_,_,_,_,_,_,_,_,_,_,_,_,_,_,_,_,_,_,_,_,_] _
         refine g_op (v := Value.bool true) rfl rfl rfl (g_ops_nil (g_cond_true rfl (g_region ?_)))
         show G _ _ _ (.inRegion _ [0, 1] :: _) _ _
         refine g_op (v := Value.int .u16 x10) rfl rfl rfl ?_
         refine g_op (v := Value.int .u16 x10) rfl rfl rfl (g_ops_nil ?_)
         refine g_inBlock ?_
         have hs := hs.pull 0 rfl
         have hs : St _ [_] _ := St.take (Γ' := []) hs
         exact ha _ _ ⟨x10, H, rfl, hs⟩
        intro hb
        rw [if_neg (b_dec_f hb)] at H
        refine g_op (v := Value.bool false) rfl rfl rfl (g_ops_nil (g_cond_false rfl (g_skip ?_)))
        refine g_inBlock ?_
        have hs := hs.pull 0 rfl
        have hs : St _ [_] _ := St.take (Γ' := []) hs
        exact ha _ _ ⟨x9, H, rfl, hs⟩
       intro hb
       rw [if_neg (b_beq_f hb)] at H
       refine g_op (v := Value.bool false) rfl rfl rfl (g_op_not rfl rfl (g_op_not rfl rfl (g_op_not rfl rfl ?_)))
       show G _ _ _ _ [_,_,_,_,_,_,_,_,_,_,_,_,_,_,_,_,_,_,_,_,_,_,_,_,_,_,_,_,_,_,_,_,_,_,_,_,_,_,_,_,_] _
       refine g_op (v := Value.bool false) rfl rfl rfl ?_
       refine g_op (v := Value.bool false) rfl rfl rfl ?_
       refine g_op (v := Value.bool false) rfl rfl rfl ?_
       show G _ _ _ _ [_,_,_,_,_,_,_,_,_,_,_,_,_,_,_,_,_,_,_,_,_,_,_,_,_,_,_,_,_,_,_,_,_,_,_,_,_,_,_,_,_] _
       refine g_ops_nil (g_cond_false rfl (g_skip ?_))
       refine g_inBlock ?_
       have hs := hs.pull 0 rfl
       have hs : St _ [_] _ := St.take (Γ' := []) hs
       exact ha _ _ ⟨x9, H, rfl, hs⟩
     | false =>
       rw [if_neg Bool.false_ne_true] at H
       show G _ _ _ _ [_,_,_,_,_,_,_,_,_,_,_,_,_,_,_,_,_,_,_,_,_,_,_,_,_,_,_,_,_,_,_,_,_,_,_,_,_,_,_,_,_] _
       refine g_op (v := Value.bool false) rfl rfl rfl (g_op_not rfl rfl (g_op_not rfl rfl (g_op_not rfl rfl (g_op_not rfl rfl (g_op_not rfl rfl ?_)))))
       show G _ _ _ _ [_,_,_,_,_,_,_,_,_,_,_,_,_,_,_,_,_,_,_,_,_,_,_,_,_,_,_,_,_,_,_,_,_,_,_,_,_,_,_,_,_] _
       refine g_op_not rfl rfl (g_op_not rfl rfl (g_op_not rfl rfl (g_op_not rfl rfl (g_op_not rfl rfl (g_op_not rfl rfl ?_)))))
       show G _ _ _ _ [_,_,_,_,_,_,_,_,_,_,_,_,_,_,_,_,_,_,_,_,_,_,_,_,_,_,_,_,_,_,_,_,_,_,_,_,_,_,_,_,_] _
       refine g_op_not rfl rfl (g_op_not rfl rfl (g_op_not rfl rfl (g_op_not rfl rfl (g_op_not rfl rfl (g_op_not rfl rfl ?_)))))
       show G _ _ _ _ [_,_,_,_,_,_,_,_,_,_,_,_,_,_,_,_,_,_,_,_,_,_,_,_,_,_,_,_,_,_,_,_,_,_,_,_,_,_,_,_,_] _
       refine g_op (v := Value.bool false) rfl rfl rfl (g_ops_nil (g_cond_false rfl (g_skip ?_)))
       refine g_inBlock ?_
       have hs := hs.pull 0 rfl
       have hs : St _ [_] _ := St.take (Γ' := []) hs
       exact ha _ _ ⟨x9, H, rfl, hs⟩
    intro hb
    rw [if_neg (b_dec_f hb)] at H
    refine g_ops_nil (g_seq (g_cond_false rfl ?_))
    obtain rfl := Option.some.inj H
    subst Hx1_
    have hs : St _ [] _ := St.take (Γ' := [_]) hs
    refine g_exit rfl ?_
    exact ha1_ _ _ ⟨x9, Hr1_, rfl, hs⟩
  | false =>
    rw [if_neg Bool.false_ne_true] at H
    refine g_op (v := Value.bool true) rfl rfl rfl (g_ops_nil (g_cond_true rfl (g_seq (g_region ?_))))
    show G _ _ _ (.inRegion _ [0, 1] :: _) _ _
    refine g_op (v := Value.int .u16 0) rfl rfl rfl ?_
    show G _ _ _ _ [_,_,_,_,_,_,_,_,_,_,_,_,_,_,_,_,_,_,_,_,_,_,_,_,_,_,_,_,_,_,_,_,_,_,_,_,_,_,_,_,_] _
    refine g_op (v := Value.int .i64 1) rfl rfl rfl (g_ops_nil ?_)
    obtain rfl := Option.some.inj H
    refine g_ret Try.func8 (v := Value.tuple #[Value.int .u16 0, Value.int .i64 1]) (resN (l := Try.f8.results.toList) (vs := [Value.int .u16 0, Value.int .i64 1]) rfl ⟨rfl, rfl, trivial⟩ (by simp)) ?_
    have hs : St _ [] _ := St.take (Γ' := [_]) hs
    exact ⟨_, rfl, rfl, hs⟩

/- function 31 spec_l05Cover -/
def spec_l05Cover.post (w0 : World) (r : Bool) (v : Value) (w : World) : Prop := v = Value.bool r ∧ St w0 [] w
set_option maxHeartbeats 8000000 in
set_option maxRecDepth 100000 in
theorem spec_l05Cover.calls {N : Nat} {a1 : S_impl_Ferry} {a6 : Int} {b2 : Nat} {v3 : Value} {w0 : World} {r : Bool} (hr4 : RdRow (K.int .u16) w0 v3 a1.f_Rules) (hp0 : w0.heap[b2]? = some (.cells ((([Value.int .i8 a1.f_Things, Value.int .i8 a1.f_Boat, v3] : List Value)) : List Value).toArray 27 (0, 0))) (H : spec_l05Cover.f N a1 a6 = some r) :
    Calls Try.prog 31 #[Value.pointer (some ⟨b2, 0, none⟩), Value.int .u16 a6] w0 fun e w => ∃ v, e = .returned v ∧ spec_l05Cover.post w0 r v w := by
  unfold spec_l05Cover.f at H
  have hs : St w0 [] w0 := St.refl w0
  refine calls_of_g (n := 9) Try.func31 rfl rfl ?_
  show G _ _ _ _ [_,_,_,_,_,_,_,_,_,_,_] _
  refine g_seq (g_region ?_)
  show G _ _ _ (.inRegion _ [0] :: _) _ _
  refine g_op (v := Value.bool false) rfl rfl rfl ?_
  show G _ _ _ _ [_,_,_,_,_,_,_,_,_,_,_] _
  refine g_ops_nil (g_seq (g_region ?_))
  show G _ _ _ (.inRegion _ [0, 1, 2, 3, 4, 5, 6] :: _) _ _
  refine g_op (v := Value.pointer (some ⟨b2, 0, none⟩)) rfl rfl rfl ?_
  show G _ _ _ _ [_,_,_,_,_,_,_,_,_,_,_] _
  refine g_op (v := Value.pointer (some ⟨b2, 0, none⟩)) rfl rfl rfl ?_
  show G _ _ _ _ [_,_,_,_,_,_,_,_,_,_,_] _
  obtain ⟨r7, Hr7, H⟩ := bind_get H
  refine s_call (args := [Value.pointer (some ⟨b2, 0, none⟩)]) rfl rfl (x_call rfl (callFunc_enter Try.func30 rfl rfl) rfl) (spec_l05All.calls (a1 := (⟨a1.f_Things, a1.f_Boat, a1.f_Rules⟩ : S_impl_Ferry)) (hs.rd hr4) (hs.box hp0) Hr7) ?_
  rintro _ w ⟨rfl, hs2⟩
  have hs : St _ [] _ := hs.call hs2
  show G _ _ _ _ [_,_,_,_,_,_,_,_,_,_,_] _
  refine g_op (v := Value.int .u16 a6) rfl rfl rfl ?_
  show G _ _ _ _ [_,_,_,_,_,_,_,_,_,_,_] _
  refine g_op (v := Value.int .u16 (bAndNot .u16 r7 a6)) rfl rfl rfl ?_
  show G _ _ _ _ [_,_,_,_,_,_,_,_,_,_,_] _
  obtain ⟨r8, Hr8, H⟩ := bind_get H
  refine s_call (args := [Value.pointer (some ⟨b2, 0, none⟩), Value.int .u16 (bAndNot .u16 r7 a6)]) rfl rfl (x_call rfl (callFunc_enter Try.func55 rfl rfl) rfl) (spec_l05Safe.calls (a1 := (⟨a1.f_Things, a1.f_Boat, a1.f_Rules⟩ : S_impl_Ferry)) (a6 := bAndNot .u16 r7 a6) (hs.rd hr4) (hs.box hp0) Hr8) ?_
  rintro _ w ⟨rfl, hs2⟩
  have hs : St _ [] _ := hs.call hs2
  show G _ _ _ _ [_,_,_,_,_,_,_,_,_,_,_] _
  refine g_op (v := Value.bool r8) rfl rfl rfl ?_
  show G _ _ _ _ [_,_,_,_,_,_,_,_,_,_,_] _
  refine g_ops_nil ?_
  obtain rfl := Option.some.inj H
  refine g_ret Try.func31 (v := Value.bool r8) (res1 rfl rfl) ?_
  have hs : St _ [] _ := St.take (Γ' := []) hs
  exact ⟨_, rfl, rfl, hs⟩

/- function 9 spec_LeastCover -/
def spec_LeastCover.post (w0 : World) (r : (Int × Int)) (v : Value) (w : World) : Prop := v = Value.tuple #[Value.int .u16 r.1, Value.int .i64 r.2] ∧ St w0 [] w
set_option maxHeartbeats 8000000 in
set_option maxRecDepth 100000 in
theorem spec_LeastCover.calls {N : Nat} {a1 : S_impl_Ferry} {v2 : Value} {w0 : World} {r : (Int × Int)} (hr3 : RdRow (K.int .u16) w0 v2 a1.f_Rules) (H : spec_LeastCover.f N a1 = some r) :
    Calls Try.prog 9 #[Value.agg (([Value.int .i8 a1.f_Things, Value.int .i8 a1.f_Boat, v2] : List Value)).toArray] w0 fun e w => ∃ v, e = .returned v ∧ spec_LeastCover.post w0 r v w := by
  unfold spec_LeastCover.f at H
  have hs : St w0 [] w0 := St.refl w0
  refine calls_of_g (n := 24) Try.func9 rfl rfl ?_
  show G _ _ _ _ [_,_,_,_,_,_,_,_,_,_,_,_,_,_,_,_,_,_,_,_,_,_,_,_,_] _
  refine g_seq (g_region ?_)
  show G _ _ _ (.inRegion _ [0, 1, 2] :: _) _ _
  refine s_box hs rfl rfl (cs := (([Value.int .i8 a1.f_Things, Value.int .i8 a1.f_Boat, v2] : List Value))) rfl rfl ?_
  intro b4 w hs
  show G _ _ _ _ [_,_,_,_,_,_,_,_,_,_,_,_,_,_,_,_,_,_,_,_,_,_,_,_,_] _
  refine g_op (v := Value.int .u16 0) rfl rfl rfl ?_
  show G _ _ _ _ [_,_,_,_,_,_,_,_,_,_,_,_,_,_,_,_,_,_,_,_,_,_,_,_,_] _
  refine g_op (v := Value.int .i64 0) rfl rfl rfl ?_
  show G _ _ _ _ [_,_,_,_,_,_,_,_,_,_,_,_,_,_,_,_,_,_,_,_,_,_,_,_,_] _
  refine g_ops_nil (g_seq (g_seq (g_region ?_)))
  show G _ _ _ (.inRegion _ [0, 1] :: _) _ _
  obtain ⟨r6, Hr6, H⟩ := bind_get H
  refine s_call (args := [Value.pointer (some ⟨b4, 0, none⟩)]) rfl rfl (x_call rfl (callFunc_enter Try.func24 rfl rfl) rfl) (spec_l05Ok.calls (a1 := (⟨a1.f_Things, a1.f_Boat, a1.f_Rules⟩ : S_impl_Ferry)) (hs.rd hr3) (hs.cells 0 rfl) Hr6) ?_
  rintro _ w ⟨rfl, hs2⟩
  have hs : St _ [_] _ := hs.call hs2
  cases r6 with
  | true =>
    rw [if_pos rfl] at H
    show G _ _ _ _ [_,_,_,_,_,_,_,_,_,_,_,_,_,_,_,_,_,_,_,_,_,_,_,_,_] _
    refine g_op (v := Value.bool false) rfl rfl rfl ?_
    show G _ _ _ _ [_,_,_,_,_,_,_,_,_,_,_,_,_,_,_,_,_,_,_,_,_,_,_,_,_] _
    refine g_ops_nil (g_cond_false rfl (g_skip (g_seq (g_region ?_))))
    show G _ _ _ (.inRegion _ [0, 1] :: _) _ _
    obtain ⟨r7, Hr7, H⟩ := bind_get H
    refine s_call (args := [Value.pointer (some ⟨b4, 0, none⟩)]) rfl rfl (x_call rfl (callFunc_enter Try.func30 rfl rfl) rfl) (spec_l05All.calls (a1 := (⟨a1.f_Things, a1.f_Boat, a1.f_Rules⟩ : S_impl_Ferry)) (hs.rd hr3) (hs.cells 0 rfl) Hr7) ?_
    rintro _ w ⟨rfl, hs2⟩
    have hs : St _ [_] _ := hs.call hs2
    show G _ _ _ _ [_,_,_,_,_,_,_,_,_,_,_,_,_,_,_,_,_,_,_,_,_,_,_,_,_] _
    refine g_op (v := Value.int .u16 r7) rfl rfl rfl ?_
    show G _ _ _ _ [_,_,_,_,_,_,_,_,_,_,_,_,_,_,_,_,_,_,_,_,_,_,_,_,_] _
    refine g_ops_nil (g_seq (g_seq (g_region ?_)))
    show G _ _ _ (.inRegion _ [0] :: _) _ _
    refine g_op (v := Value.int .u16 0) rfl rfl rfl ?_
    show G _ _ _ _ [_,_,_,_,_,_,_,_,_,_,_,_,_,_,_,_,_,_,_,_,_,_,_,_,_] _
    refine g_ops_nil ?_
    obtain ⟨o1_, Ho, Hr1_⟩ := bind_get H
    refine g_block_join (J := fun t w => ∃ x15 : Int, spec_LeastCover.a0 N x15 = some r ∧ Fr t (fun O => ([O 0, O 1, O 2, O 3, Value.int .u16 x15, O 5, O 6, O 7, O 8, O 9, O 10, O 11, O 12, O 13, O 14, O 15, O 16, O 17, O 18, O 19, O 20, O 21, O 22, O 23, O 24] : List Value)) ∧ St w0 [] w) ?_ ?_
    ·
     rintro t w ⟨x15, H, hf, hs⟩
     obtain ⟨O, rfl⟩ := hf.open
     show G _ _ _ _ [_,_,_,_,_,_,_,_,_,_,_,_,_,_,_,_,_,_,_,_,_,_,_,_,_] _
     unfold spec_LeastCover.a0 at H
     refine g_seq (g_region ?_)
     show G _ _ _ (.inRegion _ [0, 1, 2] :: _) _ _
     refine g_op (v := Value.int .u16 x15) rfl rfl rfl ?_
     show G _ _ _ _ [_,_,_,_,_,_,_,_,_,_,_,_,_,_,_,_,_,_,_,_,_,_,_,_,_] _
     refine g_op (v := Value.int .u16 x15) rfl rfl rfl ?_
     show G _ _ _ _ [_,_,_,_,_,_,_,_,_,_,_,_,_,_,_,_,_,_,_,_,_,_,_,_,_] _
     refine g_op (v := Value.int .i64 0) rfl rfl rfl ?_
     show G _ _ _ _ [_,_,_,_,_,_,_,_,_,_,_,_,_,_,_,_,_,_,_,_,_,_,_,_,_] _
     refine g_ops_nil ?_
     obtain rfl := Option.some.inj H
     refine g_ret Try.func9 (v := Value.tuple #[Value.int .u16 x15, Value.int .i64 0]) (resN (l := Try.f9.results.toList) (vs := [Value.int .u16 x15, Value.int .i64 0]) rfl ⟨rfl, rfl, trivial⟩ (by simp)) ?_
     have hs : St _ [] _ := St.take (Γ' := []) hs
     exact ⟨_, rfl, rfl, hs⟩
    intro ha1_
    have hs := hs.pull 0 rfl
    have hs : St _ [_] _ := St.take (Γ' := []) hs
    refine g_loop_fuel (I := fun n_ t w => ∃ x8 : Int, ∃ x9 : Int, rounds (fun s => spec_LeastCover.b0 N a1 s.1 s.2) n_ (x8, x9) = some o1_ ∧ Fr t (fun O => ([O 0, Value.pointer (some ⟨b4, 0, none⟩), O 2, O 3, Value.int .u16 x8, Value.int .u16 x9, O 6, O 7, O 8, O 9, O 10, O 11, O 12, O 13, O 14, O 15, O 16, O 17, O 18, O 19, O 20, O 21, O 22, O 23, O 24] : List Value)) ∧ St w0 [Cells b4 (([Value.int .i8 a1.f_Things, Value.int .i8 a1.f_Boat, v2] : List Value)) 27] w) N ⟨r7, 0, Ho, rfl, hs⟩ ?_ ?_
    ·
     rintro _ _ ⟨x8, x9, h, _⟩
     exact rounds_zero h
    intro n_ ih1_
    rintro t w ⟨x8, x9, Ho, hf, hs⟩
    obtain ⟨O, rfl⟩ := hf.open
    show G _ _ _ _ [_,_,_,_,_,_,_,_,_,_,_,_,_,_,_,_,_,_,_,_,_,_,_,_,_] _
    obtain ⟨x1_, H, Hx1_⟩ := rounds_succ Ho
    have H : spec_LeastCover.b0 N a1 x8 x9 = some x1_ := H
    unfold spec_LeastCover.b0 at H
    refine g_seq (g_seq (g_region ?_))
    show G _ _ _ (.inRegion _ [0, 1, 2] :: _) _ _
    refine g_op (v := Value.int .u16 x9) rfl rfl rfl ?_
    show G _ _ _ _ [_,_,_,_,_,_,_,_,_,_,_,_,_,_,_,_,_,_,_,_,_,_,_,_,_] _
    obtain ⟨r10, Hr10, H⟩ := bind_get H
    refine s_call (args := [Value.pointer (some ⟨b4, 0, none⟩)]) rfl rfl (x_call rfl (callFunc_enter Try.func30 rfl rfl) rfl) (spec_l05All.calls (a1 := (⟨a1.f_Things, a1.f_Boat, a1.f_Rules⟩ : S_impl_Ferry)) (hs.rd hr3) (hs.cells 0 rfl) Hr10) ?_
    rintro _ w ⟨rfl, hs2⟩
    have hs : St _ [_] _ := hs.call hs2
    show G _ _ _ _ [_,_,_,_,_,_,_,_,_,_,_,_,_,_,_,_,_,_,_,_,_,_,_,_,_] _
    refine g_op_b (B := decide (x9 ≤ r10)) rfl rfl rfl ?_ ?_
    ·
     intro hb
     rw [if_pos (b_dec_t hb)] at H
     show G _ _ _ _ [_,_,_,_,_,_,_,_,_,_,_,_,_,_,_,_,_,_,_,_,_,_,_,_,_] _
     refine g_ops_nil (g_cond_true rfl (g_skip (g_seq ?_)))
     refine g_block_join (J := (fun t w => ∃ x14 : Int, spec_LeastCover.j2 N x9 x14 = some x1_ ∧ Fr t (fun O => ([O 0, Value.pointer (some ⟨b4, 0, none⟩), O 2, O 3, Value.int .u16 x14, Value.int .u16 x9, O 6, O 7, O 8, O 9, O 10, O 11, O 12, O 13, O 14, O 15, O 16, O 17, O 18, O 19, O 20, O 21, O 22, O 23, O 24] : List Value)) ∧ St w0 [Cells b4 (([Value.int .i8 a1.f_Things, Value.int .i8 a1.f_Boat, v2] : List Value)) 27] w)) ?_ ?_
     ·
      rintro t w ⟨x14, H, hf, hs⟩
      obtain ⟨O, rfl⟩ := hf.open
      show G _ _ _ _ [_,_,_,_,_,_,_,_,_,_,_,_,_,_,_,_,_,_,_,_,_,_,_,_,_] _
      unfold spec_LeastCover.j2 at H
      refine g_region ?_
      show G _ _ _ (.inRegion _ [0, 1, 2] :: _) _ _
      refine g_op (v := Value.int .u16 x9) rfl rfl rfl ?_
      show G _ _ _ _ [_,_,_,_,_,_,_,_,_,_,_,_,_,_,_,_,_,_,_,_,_,_,_,_,_] _
      refine g_op (v := Value.int .u16 (u16w (x9 + 1))) rfl rfl rfl ?_
      show G _ _ _ _ [_,_,_,_,_,_,_,_,_,_,_,_,_,_,_,_,_,_,_,_,_,_,_,_,_] _
      refine g_op (v := Value.int .u16 (u16w (x9 + 1))) rfl rfl rfl ?_
      show G _ _ _ _ [_,_,_,_,_,_,_,_,_,_,_,_,_,_,_,_,_,_,_,_,_,_,_,_,_] _
      refine g_ops_nil ?_
      obtain rfl := Option.some.inj H
      have hs := hs.pull 0 rfl
      have hs : St _ [_] _ := St.take (Γ' := []) hs
      exact ih1_ _ _ ⟨x14, u16w (x9 + 1), Hx1_, rfl, hs⟩
     intro ha
     refine g_seq (g_region ?_)
     show G _ _ _ (.inRegion _ [0, 1, 2, 3, 4, 5, 6, 7, 8] :: _) _ _
     refine g_op (v := Value.int .u16 x9) rfl rfl rfl ?_
     show G _ _ _ _ [_,_,_,_,_,_,_,_,_,_,_,_,_,_,_,_,_,_,_,_,_,_,_,_,_] _
     obtain ⟨r11, Hr11, H⟩ := bind_get H
     refine s_call (args := [Value.pointer (some ⟨b4, 0, none⟩), Value.int .u16 x9]) rfl rfl (x_call rfl (callFunc_enter Try.func31 rfl rfl) rfl) (spec_l05Cover.calls (a1 := (⟨a1.f_Things, a1.f_Boat, a1.f_Rules⟩ : S_impl_Ferry)) (a6 := x9) (hs.rd hr3) (hs.cells 0 rfl) Hr11) ?_
     rintro _ w ⟨rfl, hs2⟩
     have hs : St _ [_] _ := hs.call hs2
     cases r11 with
     | true =>
       rw [if_pos rfl] at H
       show G _ _ _ _ [_,_,_,_,_,_,_,_,_,_,_,_,_,_,_,_,_,_,_,_,_,_,_,_,_] _
       refine g_op (v := Value.bool true) rfl rfl rfl ?_
       show G _ _ _ _ [_,_,_,_,_,_,_,_,_,_,_,_,_,_,_,_,_,_,_,_,_,_,_,_,_] _
       refine g_op (v := Value.int .u16 x9) rfl rfl rfl ?_
       show G _ _ _ _ [_,_,_,_,_,_,_,_,_,_,_,_,_,_,_,_,_,_,_,_,_,_,_,_,_] _
       obtain ⟨r12, Hr12, H⟩ := bind_get H
       refine s_call (args := [Value.int .u16 x9]) rfl rfl (x_call rfl (callFunc_enter Try.func32 rfl rfl) rfl) (spec_l05Size.calls (a1 := x9) Hr12) ?_
       rintro _ w ⟨rfl, hs2⟩
       have hs : St _ [_] _ := hs.call hs2
       show G _ _ _ _ [_,_,_,_,_,_,_,_,_,_,_,_,_,_,_,_,_,_,_,_,_,_,_,_,_] _
       refine g_op (v := Value.int .u16 x8) rfl rfl rfl ?_
       show G _ _ _ _ [_,_,_,_,_,_,_,_,_,_,_,_,_,_,_,_,_,_,_,_,_,_,_,_,_] _
       obtain ⟨r13, Hr13, H⟩ := bind_get H
       refine s_call (args := [Value.int .u16 x8]) rfl rfl (x_call rfl (callFunc_enter Try.func32 rfl rfl) rfl) (spec_l05Size.calls (a1 := x8) Hr13) ?_
       rintro _ w ⟨rfl, hs2⟩
       have hs : St _ [_] _ := hs.call hs2
       show G _ _ _ _ [_,_,_,_,_,_,_,_,_,_,_,_,_,_,_,_,_,_,_,_,_,_,_,_,_] _
       refine g_op_b (B := decide (r12 < r13)) rfl rfl rfl ?_ ?_
       ·
        intro hb
        rw [if_pos (b_dec_t hb)] at H
        show G _ _ _ _ [_,_,_,_,_,_,_,_,_,_,_,_,_,_,_,_,_,_,_,_,_,_,_,_,_] _
        refine g_op (v := Value.bool true) rfl rfl rfl ?_
        show G _ _ _ _ [_,_,_,_,_,_,_,_,_,_,_,_,_,_,_,_,_,_,_,_,_,_,_,_,_] _
        refine g_ops_nil (g_cond_true rfl (g_region ?_))
        show G _ _ _ (.inRegion _ [0, 1] :: _) _ _
        refine g_op (v := Value.int .u16 x9) rfl rfl rfl ?_
        show G _ _ _ _ [_,_,_,_,_,_,_,_,_,_,_,_,_,_,_,_,_,_,_,_,_,_,_,_,_] _
        refine g_op (v := Value.int .u16 x9) rfl rfl rfl ?_
        show G _ _ _ _ [_,_,_,_,_,_,_,_,_,_,_,_,_,_,_,_,_,_,_,_,_,_,_,_,_] _
        refine g_ops_nil ?_
        refine g_inBlock ?_
        have hs := hs.pull 0 rfl
        have hs : St _ [_] _ := St.take (Γ' := []) hs
        exact ha _ _ ⟨x9, H, rfl, hs⟩
       intro hb
       rw [if_neg (b_dec_f hb)] at H
       show G _ _ _ _ [_,_,_,_,_,_,_,_,_,_,_,_,_,_,_,_,_,_,_,_,_,_,_,_,_] _
       refine g_op (v := Value.bool false) rfl rfl rfl ?_
       show G _ _ _ _ [_,_,_,_,_,_,_,_,_,_,_,_,_,_,_,_,_,_,_,_,_,_,_,_,_] _
       refine g_ops_nil (g_cond_false rfl (g_skip ?_))
       refine g_inBlock ?_
       have hs := hs.pull 0 rfl
       have hs : St _ [_] _ := St.take (Γ' := []) hs
       exact ha _ _ ⟨x8, H, rfl, hs⟩
     | false =>
       rw [if_neg Bool.false_ne_true] at H
       show G _ _ _ _ [_,_,_,_,_,_,_,_,_,_,_,_,_,_,_,_,_,_,_,_,_,_,_,_,_] _
       refine g_op (v := Value.bool false) rfl rfl rfl ?_
       show G _ _ _ _ [_,_,_,_,_,_,_,_,_,_,_,_,_,_,_,_,_,_,_,_,_,_,_,_,_] _
       refine g_op_not rfl rfl ?_
       show G _ _ _ _ [_,_,_,_,_,_,_,_,_,_,_,_,_,_,_,_,_,_,_,_,_,_,_,_,_] _
       refine g_op_not rfl rfl ?_
       show G _ _ _ _ [_,_,_,_,_,_,_,_,_,_,_,_,_,_,_,_,_,_,_,_,_,_,_,_,_] _
       refine g_op_not rfl rfl ?_
       show G _ _ _ _ [_,_,_,_,_,_,_,_,_,_,_,_,_,_,_,_,_,_,_,_,_,_,_,_,_] _
       refine g_op_not rfl rfl ?_
       show G _ _ _ _ [_,_,_,_,_,_,_,_,_,_,_,_,_,_,_,_,_,_,_,_,_,_,_,_,_] _
       refine g_op_not rfl rfl ?_
       show G _ _ _ _ [_,_,_,_,_,_,_,_,_,_,_,_,_,_,_,_,_,_,_,_,_,_,_,_,_] _
       refine g_op (v := Value.bool false) rfl rfl rfl ?_
       show G _ _ _ _ [_,_,_,_,_,_,_,_,_,_,_,_,_,_,_,_,_,_,_,_,_,_,_,_,_] _
       refine g_ops_nil (g_cond_false rfl (g_skip ?_))
       refine g_inBlock ?_
       have hs := hs.pull 0 rfl
       have hs : St _ [_] _ := St.take (Γ' := []) hs
       exact ha _ _ ⟨x8, H, rfl, hs⟩
    intro hb
    rw [if_neg (b_dec_f hb)] at H
    show G _ _ _ _ [_,_,_,_,_,_,_,_,_,_,_,_,_,_,_,_,_,_,_,_,_,_,_,_,_] _
    refine g_ops_nil (g_cond_false rfl ?_)
    obtain rfl := Option.some.inj H
    subst Hx1_
    have hs : St _ [] _ := St.take (Γ' := [_]) hs
    refine g_exit rfl ?_
    exact ha1_ _ _ ⟨x8, Hr1_, rfl, hs⟩
  | false =>
    rw [if_neg Bool.false_ne_true] at H
    show G _ _ _ _ [_,_,_,_,_,_,_,_,_,_,_,_,_,_,_,_,_,_,_,_,_,_,_,_,_] _
    refine g_op (v := Value.bool true) rfl rfl rfl ?_
    show G _ _ _ _ [_,_,_,_,_,_,_,_,_,_,_,_,_,_,_,_,_,_,_,_,_,_,_,_,_] _
    refine g_ops_nil (g_cond_true rfl (g_seq (g_region ?_)))
    show G _ _ _ (.inRegion _ [0, 1] :: _) _ _
    refine g_op (v := Value.int .u16 0) rfl rfl rfl ?_
    show G _ _ _ _ [_,_,_,_,_,_,_,_,_,_,_,_,_,_,_,_,_,_,_,_,_,_,_,_,_] _
    refine g_op (v := Value.int .i64 1) rfl rfl rfl ?_
    show G _ _ _ _ [_,_,_,_,_,_,_,_,_,_,_,_,_,_,_,_,_,_,_,_,_,_,_,_,_] _
    refine g_ops_nil ?_
    obtain rfl := Option.some.inj H
    refine g_ret Try.func9 (v := Value.tuple #[Value.int .u16 0, Value.int .i64 1]) (resN (l := Try.f9.results.toList) (vs := [Value.int .u16 0, Value.int .i64 1]) rfl ⟨rfl, rfl, trivial⟩ (by simp)) ?_
    have hs : St _ [] _ := St.take (Γ' := [_]) hs
    exact ⟨_, rfl, rfl, hs⟩

/- function 10 spec_A2Count -/
def spec_A2Count.post (w0 : World) (r : Int) (v : Value) (w : World) : Prop := v = Value.int .i64 r ∧ St w0 [] w
set_option maxHeartbeats 8000000 in
set_option maxRecDepth 100000 in
theorem spec_A2Count.calls {N : Nat} {a1 : Int} {w0 : World} {r : Int} (H : spec_A2Count.f N a1 = some r) :
    Calls Try.prog 10 #[Value.int .u16 a1] w0 fun e w => ∃ v, e = .returned v ∧ spec_A2Count.post w0 r v w := by
  unfold spec_A2Count.f at H
  have hs : St w0 [] w0 := St.refl w0
  refine calls_of_g (n := 4) Try.func10 rfl rfl ?_
  show G _ _ _ _ [_,_,_,_,_] _
  refine g_seq (g_region ?_)
  show G _ _ _ (.inRegion _ [0] :: _) _ _
  refine g_op (v := Value.int .i64 0) rfl rfl rfl ?_
  show G _ _ _ _ [_,_,_,_,_] _
  refine g_ops_nil (g_seq (g_region ?_))
  show G _ _ _ (.inRegion _ [0, 1, 2] :: _) _ _
  refine g_op (v := Value.int .u16 a1) rfl rfl rfl ?_
  show G _ _ _ _ [_,_,_,_,_] _
  obtain ⟨r2, Hr2, H⟩ := bind_get H
  refine s_call (args := [Value.int .u16 a1]) rfl rfl (x_call rfl (callFunc_enter Try.func32 rfl rfl) rfl) (spec_l05Size.calls (a1 := a1) Hr2) ?_
  rintro _ w ⟨rfl, hs2⟩
  have hs : St _ [] _ := hs.call hs2
  show G _ _ _ _ [_,_,_,_,_] _
  refine g_op (v := Value.int .i64 r2) rfl rfl rfl ?_
  show G _ _ _ _ [_,_,_,_,_] _
  refine g_ops_nil ?_
  obtain rfl := Option.some.inj H
  refine g_ret Try.func10 (v := Value.int .i64 r2) (res1 rfl rfl) ?_
  have hs : St _ [] _ := St.take (Γ' := []) hs
  exact ⟨_, rfl, rfl, hs⟩

end Go.Proofs.YtcaokmnajnfpiaaX
