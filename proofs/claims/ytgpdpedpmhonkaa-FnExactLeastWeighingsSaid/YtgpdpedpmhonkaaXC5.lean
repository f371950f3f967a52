/- Contracts, printed by gen.py. -/
import Derived.Test.YtgpdpedpmhonkaaXT
import Derived.Test.YtgpdpedpmhonkaaProg
import Derived.Test.YtgpdpedpmhonkaaXRowR
import Derived.Test.YtgpdpedpmhonkaaXSq
import Derived.Test.YtgpdpedpmhonkaaXSeg
import Derived.Test.YtgpdpedpmhonkaaXKey
import Derived.Test.YtgpdpedpmhonkaaXPart
import Derived.Test.YtgpdpedpmhonkaaXC0
import Derived.Test.YtgpdpedpmhonkaaXC2
import Derived.Test.YtgpdpedpmhonkaaXC4
namespace Go.Proofs.YtgpdpedpmhonkaaX
open Go Go.RowKit Go.Proofs
set_option linter.unusedVariables false
set_option linter.unusedSimpArgs false
/- function 58 _spec_l03Finder_first -/
def _spec_l03Finder_first.post (wb : World) (Z : As) (v3 : Value) (b2 : Nat) (v3 : Value) (r : ((Ar Int 8) × Bool × (List Int) × S_spec_l03Finder)) (v : Value) (w : World) : Prop := v = Value.tuple #[Value.agg ((encA (encI .i64)) r.1).toArray, Value.bool r.2.1] ∧ St wb [Row 22 (K.int .i8) v3 r.2.2.1, Cells b2 (([Value.int .i64 r.2.2.2.f_all, v3] : List Value)) 99, Z] w
set_option maxHeartbeats 8000000 in
set_option maxRecDepth 100000 in
theorem _spec_l03Finder_first.calls {N : Nat} {self : S_spec_l03Finder → S_spec_l03Known → Int → Option (Bool × (List Int) × S_spec_l03Finder)} (ih : ∀ (a1 : S_spec_l03Finder) (a6 : S_spec_l03Known) (a7 : Int) (b2 : Nat) (v3 : Value) (wb : World) (Z : As) (w0 : World) (r : (Bool × (List Int) × S_spec_l03Finder)) (hs : St wb [Row 22 (K.int .i8) v3 a1.f_seen, Cells b2 (([Value.int .i64 a1.f_all, v3] : List Value)) 99, Z] w0), self a1 a6 a7 = some r → Calls Try.prog 30 #[Value.pointer (some ⟨b2, 0, none⟩), Value.agg (enc_S_spec_l03Known a6).toArray, Value.int .i64 a7] w0 fun e w => ∃ v, e = .returned v ∧ _spec_l03Finder_can.post wb Z v3 b2 v3 r v w) {a1 : S_spec_l03Finder} {a6 : S_spec_l03Known} {a7 : Int} {b2 : Nat} {v3 : Value} {wb : World} {Z : As} {w0 : World} {r : ((Ar Int 8) × Bool × (List Int) × S_spec_l03Finder)} (hs : St wb [Row 22 (K.int .i8) v3 a1.f_seen, Cells b2 (([Value.int .i64 a1.f_all, v3] : List Value)) 99, Z] w0) (H : _spec_l03Finder_first.f N self a1 a6 a7 = some r) :
    Calls Try.prog 58 #[Value.pointer (some ⟨b2, 0, none⟩), Value.agg (enc_S_spec_l03Known a6).toArray, Value.int .i64 a7] w0 fun e w => ∃ v, e = .returned v ∧ _spec_l03Finder_first.post wb Z v3 b2 v3 r v w := by
  unfold _spec_l03Finder_first.f at H
  refine calls_of_g (n := 136) Try.func58 rfl rfl ?_
  show G _ _ _ _ (_::_::_::_::_::_::_::_::_::_::_::_::_::_::_::_::_::_::_::_::_::_::_::_::_::_::_::_::_::_::_::_::_::_::_::_::_::_::_::_::_::_::_::_::_::_::_::_::_::_::_::_::_::_::_::_::_::_::_::_::_::_::_::_::_::_::_::_::_::_::_::_::_::_::_::_::_::_::_::_::_::_::_::_::_::_::_::_::_::_::_::_::_::_::_::_::_::_::_::_::_::_::_::_::_::_::_::_::_::_::_::_::_::_::_::_::_::_::_::_::_::_::_::_::_::_::_::_::_::_::_::_::_::_::_::_::_::_::_::[]) _
  refine g_seq (g_rg [0, 1, 2] rfl ?_)
  refine s_box hs rfl rfl (cs := (enc_S_spec_l03Known a6)) rfl rfl ?_
  intro b8 w hs
  refine g_d rfl ?_
  try dsimp only [set0,setS]
  refine s_alloc hs rfl rfl (z := (Value.agg #[Value.int .i64 0, Value.int .i64 0, Value.int .i64 0, Value.int .i64 0, Value.int .i64 0, Value.int .i64 0, Value.int .i64 0, Value.int .i64 0])) (cs := ((encA (encI .i64)) (Ar.rep 8 0))) rfl (fun _ => rfl) rfl ?_
  intro b10 w hs
  refine g_d rfl ?_
  refine g_op (v := Value.bool false) rfl rfl rfl (g_d rfl ?_)
  try dsimp only [set0,setS]
  refine g_ops_nil (g_seq ?_)
  refine g_name ?_
  intro T hT
  refine g_any (n := 14) rfl [0, 1, 2, 3, 4, 5, 6, 7, 8, 9, 10, 11, 12, 13] [0, 1, 2, 3, 4, 5, 6, 7, 8, 9, 10, 11, 12, 13] rfl rfl (Inv := fun D t w => ∃ O : Nat → Value, t = (Value.pointer (some ⟨b2, 0, none⟩)::Value.agg (enc_S_spec_l03Known a6).toArray::Value.int .i64 a7::O 3::Value.pointer (some ⟨b8, 0, none⟩)::O 5::Value.pointer (some ⟨b10, 0, none⟩)::Value.bool false::cnd (D 13) (Value.int .i64 (i64w ((i64w ((i64w (a1.f_all - a6.f_open)) - a6.f_heavy)) - a6.f_light))) (O 8)::O 9::O 10::cnd (D 0) (Value.pointer (some ⟨b2, 0, none⟩)) (O 11)::cnd (D 1) (Value.pointer (some ⟨b2, 0, none⟩)) (O 12)::cnd (D 2) (Value.pointer (some ⟨b2, 0, none⟩)) (O 13)::cnd (D 3) (Value.int .i64 a1.f_all) (O 14)::cnd (D 4) (Value.pointer (some ⟨b8, 0, none⟩)) (O 15)::cnd (D 5) (Value.int .i64 a6.f_open) (O 16)::cnd (D 6) (Value.int .i64 (i64w (a1.f_all - a6.f_open))) (O 17)::cnd (D 7) (Value.pointer (some ⟨b8, 1, none⟩)) (O 18)::cnd (D 8) (Value.int .i64 a6.f_heavy) (O 19)::cnd (D 9) (Value.int .i64 (i64w ((i64w (a1.f_all - a6.f_open)) - a6.f_heavy))) (O 20)::cnd (D 10) (Value.pointer (some ⟨b8, 2, none⟩)) (O 21)::cnd (D 11) (Value.int .i64 a6.f_light) (O 22)::cnd (D 12) (Value.int .i64 (i64w ((i64w ((i64w (a1.f_all - a6.f_open)) - a6.f_heavy)) - a6.f_light))) (O 23)::O 24::O 25::O 26::O 27::O 28::O 29::O 30::O 31::O 32::O 33::O 34::O 35::O 36::O 37::O 38::O 39::O 40::O 41::O 42::O 43::O 44::O 45::O 46::O 47::O 48::O 49::O 50::O 51::O 52::O 53::O 54::O 55::O 56::O 57::O 58::O 59::O 60::O 61::O 62::O 63::O 64::O 65::O 66::O 67::O 68::O 69::O 70::O 71::O 72::O 73::O 74::O 75::O 76::O 77::O 78::O 79::O 80::O 81::O 82::O 83::O 84::O 85::O 86::O 87::O 88::O 89::O 90::O 91::O 92::O 93::O 94::O 95::O 96::O 97::O 98::O 99::O 100::O 101::O 102::O 103::O 104::O 105::O 106::O 107::O 108::O 109::O 110::O 111::O 112::O 113::O 114::O 115::O 116::O 117::O 118::O 119::O 120::O 121::O 122::O 123::O 124::O 125::O 126::O 127::O 128::O 129::O 130::O 131::O 132::O 133::O 134::O 135::O 136::O 137::O 138::[]) ∧ St wb [Cells b10 ((encA (encI .i64)) (Ar.rep 8 0)) 103, Cells b8 (enc_S_spec_l03Known a6) 62, Row 22 (K.int .i8) v3 a1.f_seen, Cells b2 (([Value.int .i64 a1.f_all, v3] : List Value)) 99, Z] w) ?_ ⟨⟨⟨⟨⟨⟨⟨⟨⟨⟨⟨⟨⟨⟨trivial, ?_⟩, ?_⟩, ?_⟩, ?_⟩, ?_⟩, ?_⟩, ?_⟩, ?_⟩, ?_⟩, ?_⟩, ?_⟩, ?_⟩, ?_⟩, ?_⟩ ?_
  ·
   intro w hh hbw
   have hs := hs.samew hh hbw
   exact ⟨fun i => T.getD i undef, (by subst hT; rfl), hs⟩
  ·
   rintro D t w hD hp hcl ⟨O, ht, hs⟩ rest hk
   have q1_ := nz hcl 1 0 hD
   have q2_ := nz hcl 2 0 q1_
   have q3_ := nz hcl 3 0 q2_
   have q6_ := nz hcl 6 0 q3_
   have q9_ := nz hcl 9 0 q6_
   have q12_ := nz hcl 12 0 q9_
   have q13_ := nz hcl 13 0 q12_
   simp only [hD, q1_, q2_, q3_, q6_, q9_, q12_, q13_, cq] at ht hs
   subst ht
   refine g_op (v := Value.pointer (some ⟨b2, 0, none⟩)) rfl rfl rfl (g_d rfl ?_)
   try dsimp only [set0,setS]
   refine hk _ _ ⟨O, ?_, hs.cast ?_⟩ <;> simp only [lq, cq, Nat.reduceBEq, q1_, q2_, q3_, q6_, q9_, q12_, q13_]
  ·
   rintro D t w hD hp hcl ⟨O, ht, hs⟩ rest hk
   obtain ⟨p0_, _⟩ := hp
   have q2_ := nz hcl 2 0 hD
   have q3_ := nz hcl 3 0 q2_
   have q6_ := nz hcl 6 0 q3_
   have q9_ := nz hcl 9 0 q6_
   have q12_ := nz hcl 12 0 q9_
   have q13_ := nz hcl 13 0 q12_
   simp only [hD, p0_, q2_, q3_, q6_, q9_, q12_, q13_, cq] at ht hs
   subst ht
   refine g_op (v := Value.pointer (some ⟨b2, 0, none⟩)) rfl rfl rfl (g_d rfl ?_)
   try dsimp only [set0,setS]
   refine hk _ _ ⟨O, ?_, hs.cast ?_⟩ <;> simp only [lq, cq, Nat.reduceBEq, p0_, q2_, q3_, q6_, q9_, q12_, q13_]
  ·
   rintro D t w hD hp hcl ⟨O, ht, hs⟩ rest hk
   obtain ⟨p1_, _⟩ := hp
   obtain ⟨p0_, _⟩ := (hcl.get 1 (by decide)) p1_
   have q3_ := nz hcl 3 0 hD
   have q6_ := nz hcl 6 0 q3_
   have q9_ := nz hcl 9 0 q6_
   have q12_ := nz hcl 12 0 q9_
   have q13_ := nz hcl 13 0 q12_
   simp only [hD, p0_, p1_, q3_, q6_, q9_, q12_, q13_, cq] at ht hs
   subst ht
   refine g_op (v := Value.pointer (some ⟨b2, 0, none⟩)) rfl rfl rfl (g_d rfl ?_)
   try dsimp only [set0,setS]
   refine hk _ _ ⟨O, ?_, hs.cast ?_⟩ <;> simp only [lq, cq, Nat.reduceBEq, p0_, p1_, q3_, q6_, q9_, q12_, q13_]
  ·
   rintro D t w hD hp hcl ⟨O, ht, hs⟩ rest hk
   obtain ⟨p2_, _⟩ := hp
   obtain ⟨p1_, _⟩ := (hcl.get 2 (by decide)) p2_
   obtain ⟨p0_, _⟩ := (hcl.get 1 (by decide)) p1_
   have q6_ := nz hcl 6 0 hD
   have q9_ := nz hcl 9 0 q6_
   have q12_ := nz hcl 12 0 q9_
   have q13_ := nz hcl 13 0 q12_
   simp only [hD, p0_, p1_, p2_, q6_, q9_, q12_, q13_, cq] at ht hs
   subst ht
   refine s_load1 rfl rfl (v := Value.int .i64 a1.f_all) rfl rfl (fun _ => rfl) (cells_load (hs.cells 3 rfl) 0 1 rfl) (g_d rfl ?_)
   try dsimp only [set0,setS]
   refine hk _ _ ⟨O, ?_, hs.cast ?_⟩ <;> simp only [lq, cq, Nat.reduceBEq, p0_, p1_, p2_, q6_, q9_, q12_, q13_]
  ·
   rintro D t w hD hp hcl ⟨O, ht, hs⟩ rest hk
   have q5_ := nz hcl 5 0 hD
   have q6_ := nz hcl 6 1 q5_
   have q9_ := nz hcl 9 0 q6_
   have q12_ := nz hcl 12 0 q9_
   have q13_ := nz hcl 13 0 q12_
   simp only [hD, q5_, q6_, q9_, q12_, q13_, cq] at ht hs
   subst ht
   refine g_op (v := Value.pointer (some ⟨b8, 0, none⟩)) rfl rfl rfl (g_d rfl ?_)
   try dsimp only [set0,setS]
   refine hk _ _ ⟨O, ?_, hs.cast ?_⟩ <;> simp only [lq, cq, Nat.reduceBEq, q5_, q6_, q9_, q12_, q13_]
  ·
   rintro D t w hD hp hcl ⟨O, ht, hs⟩ rest hk
   obtain ⟨p4_, _⟩ := hp
   have q6_ := nz hcl 6 1 hD
   have q9_ := nz hcl 9 0 q6_
   have q12_ := nz hcl 12 0 q9_
   have q13_ := nz hcl 13 0 q12_
   simp only [hD, p4_, q6_, q9_, q12_, q13_, cq] at ht hs
   subst ht
   refine s_load1 rfl rfl (v := Value.int .i64 a6.f_open) rfl rfl (fun _ => rfl) (cells_load (hs.cells 1 rfl) 0 1 rfl) (g_d rfl ?_)
   try dsimp only [set0,setS]
   refine hk _ _ ⟨O, ?_, hs.cast ?_⟩ <;> simp only [lq, cq, Nat.reduceBEq, p4_, q6_, q9_, q12_, q13_]
  ·
   rintro D t w hD hp hcl ⟨O, ht, hs⟩ rest hk
   obtain ⟨p3_, p5_, _⟩ := hp
   obtain ⟨p4_, _⟩ := (hcl.get 5 (by decide)) p5_
   obtain ⟨p2_, _⟩ := (hcl.get 3 (by decide)) p3_
   obtain ⟨p1_, _⟩ := (hcl.get 2 (by decide)) p2_
   obtain ⟨p0_, _⟩ := (hcl.get 1 (by decide)) p1_
   have q9_ := nz hcl 9 0 hD
   have q12_ := nz hcl 12 0 q9_
   have q13_ := nz hcl 13 0 q12_
   simp only [hD, p0_, p1_, p2_, p3_, p4_, p5_, q9_, q12_, q13_, cq] at ht hs
   subst ht
   refine g_op (v := Value.int .i64 (i64w (a1.f_all - a6.f_open))) rfl rfl rfl (g_d rfl ?_)
   try dsimp only [set0,setS]
   refine hk _ _ ⟨O, ?_, hs.cast ?_⟩ <;> simp only [lq, cq, Nat.reduceBEq, p0_, p1_, p2_, p3_, p4_, p5_, q9_, q12_, q13_]
  ·
   rintro D t w hD hp hcl ⟨O, ht, hs⟩ rest hk
   have q8_ := nz hcl 8 0 hD
   have q9_ := nz hcl 9 1 q8_
   have q12_ := nz hcl 12 0 q9_
   have q13_ := nz hcl 13 0 q12_
   simp only [hD, q8_, q9_, q12_, q13_, cq] at ht hs
   subst ht
   refine g_op (v := Value.pointer (some ⟨b8, 1, none⟩)) rfl rfl rfl (g_d rfl ?_)
   try dsimp only [set0,setS]
   refine hk _ _ ⟨O, ?_, hs.cast ?_⟩ <;> simp only [lq, cq, Nat.reduceBEq, q8_, q9_, q12_, q13_]
  ·
   rintro D t w hD hp hcl ⟨O, ht, hs⟩ rest hk
   obtain ⟨p7_, _⟩ := hp
   have q9_ := nz hcl 9 1 hD
   have q12_ := nz hcl 12 0 q9_
   have q13_ := nz hcl 13 0 q12_
   simp only [hD, p7_, q9_, q12_, q13_, cq] at ht hs
   subst ht
   refine s_load1 rfl rfl (v := Value.int .i64 a6.f_heavy) rfl rfl (fun _ => rfl) (cells_load (hs.cells 1 rfl) 1 1 rfl) (g_d rfl ?_)
   try dsimp only [set0,setS]
   refine hk _ _ ⟨O, ?_, hs.cast ?_⟩ <;> simp only [lq, cq, Nat.reduceBEq, p7_, q9_, q12_, q13_]
  ·
   rintro D t w hD hp hcl ⟨O, ht, hs⟩ rest hk
   obtain ⟨p6_, p8_, _⟩ := hp
   obtain ⟨p7_, _⟩ := (hcl.get 8 (by decide)) p8_
   obtain ⟨p3_, p5_, _⟩ := (hcl.get 6 (by decide)) p6_
   obtain ⟨p4_, _⟩ := (hcl.get 5 (by decide)) p5_
   obtain ⟨p2_, _⟩ := (hcl.get 3 (by decide)) p3_
   obtain ⟨p1_, _⟩ := (hcl.get 2 (by decide)) p2_
   obtain ⟨p0_, _⟩ := (hcl.get 1 (by decide)) p1_
   have q12_ := nz hcl 12 0 hD
   have q13_ := nz hcl 13 0 q12_
   simp only [hD, p0_, p1_, p2_, p3_, p4_, p5_, p6_, p7_, p8_, q12_, q13_, cq] at ht hs
   subst ht
   refine g_op (v := Value.int .i64 (i64w ((i64w (a1.f_all - a6.f_open)) - a6.f_heavy))) rfl rfl rfl (g_d rfl ?_)
   try dsimp only [set0,setS]
   refine hk _ _ ⟨O, ?_, hs.cast ?_⟩ <;> simp only [lq, cq, Nat.reduceBEq, p0_, p1_, p2_, p3_, p4_, p5_, p6_, p7_, p8_, q12_, q13_]
  ·
   rintro D t w hD hp hcl ⟨O, ht, hs⟩ rest hk
   have q11_ := nz hcl 11 0 hD
   have q12_ := nz hcl 12 1 q11_
   have q13_ := nz hcl 13 0 q12_
   simp only [hD, q11_, q12_, q13_, cq] at ht hs
   subst ht
   refine g_op (v := Value.pointer (some ⟨b8, 2, none⟩)) rfl rfl rfl (g_d rfl ?_)
   try dsimp only [set0,setS]
   refine hk _ _ ⟨O, ?_, hs.cast ?_⟩ <;> simp only [lq, cq, Nat.reduceBEq, q11_, q12_, q13_]
  ·
   rintro D t w hD hp hcl ⟨O, ht, hs⟩ rest hk
   obtain ⟨p10_, _⟩ := hp
   have q12_ := nz hcl 12 1 hD
   have q13_ := nz hcl 13 0 q12_
   simp only [hD, p10_, q12_, q13_, cq] at ht hs
   subst ht
   refine s_load1 rfl rfl (v := Value.int .i64 a6.f_light) rfl rfl (fun _ => rfl) (cells_load (hs.cells 1 rfl) 2 1 rfl) (g_d rfl ?_)
   try dsimp only [set0,setS]
   refine hk _ _ ⟨O, ?_, hs.cast ?_⟩ <;> simp only [lq, cq, Nat.reduceBEq, p10_, q12_, q13_]
  ·
   rintro D t w hD hp hcl ⟨O, ht, hs⟩ rest hk
   obtain ⟨p9_, p11_, _⟩ := hp
   obtain ⟨p10_, _⟩ := (hcl.get 11 (by decide)) p11_
   obtain ⟨p6_, p8_, _⟩ := (hcl.get 9 (by decide)) p9_
   obtain ⟨p7_, _⟩ := (hcl.get 8 (by decide)) p8_
   obtain ⟨p3_, p5_, _⟩ := (hcl.get 6 (by decide)) p6_
   obtain ⟨p4_, _⟩ := (hcl.get 5 (by decide)) p5_
   obtain ⟨p2_, _⟩ := (hcl.get 3 (by decide)) p3_
   obtain ⟨p1_, _⟩ := (hcl.get 2 (by decide)) p2_
   obtain ⟨p0_, _⟩ := (hcl.get 1 (by decide)) p1_
   have q13_ := nz hcl 13 0 hD
   simp only [hD, p0_, p1_, p2_, p3_, p4_, p5_, p6_, p7_, p8_, p9_, p10_, p11_, q13_, cq] at ht hs
   subst ht
   refine g_op (v := Value.int .i64 (i64w ((i64w ((i64w (a1.f_all - a6.f_open)) - a6.f_heavy)) - a6.f_light))) rfl rfl rfl (g_d rfl ?_)
   try dsimp only [set0,setS]
   refine hk _ _ ⟨O, ?_, hs.cast ?_⟩ <;> simp only [lq, cq, Nat.reduceBEq, p0_, p1_, p2_, p3_, p4_, p5_, p6_, p7_, p8_, p9_, p10_, p11_, q13_]
  ·
   rintro D t w hD hp hcl ⟨O, ht, hs⟩ rest hk
   obtain ⟨p12_, p0_, p1_, p2_, p3_, p4_, p5_, p6_, p7_, p8_, p9_, p10_, p11_, _, _⟩ := hp
   simp only [hD, p0_, p1_, p2_, p3_, p4_, p5_, p6_, p7_, p8_, p9_, p10_, p11_, p12_, cq] at ht hs
   subst ht
   refine g_op (v := Value.int .i64 (i64w ((i64w ((i64w (a1.f_all - a6.f_open)) - a6.f_heavy)) - a6.f_light))) rfl rfl rfl (g_d rfl ?_)
   try dsimp only [set0,setS]
   refine hk _ _ ⟨O, ?_, hs.cast ?_⟩ <;> simp only [lq, cq, Nat.reduceBEq, p0_, p1_, p2_, p3_, p4_, p5_, p6_, p7_, p8_, p9_, p10_, p11_, p12_]
  intro D t w hall hI
  obtain ⟨O, ht, hs⟩ := hI
  have p0_ := hall 0 (by decide)
  have p1_ := hall 1 (by decide)
  have p2_ := hall 2 (by decide)
  have p3_ := hall 3 (by decide)
  have p4_ := hall 4 (by decide)
  have p5_ := hall 5 (by decide)
  have p6_ := hall 6 (by decide)
  have p7_ := hall 7 (by decide)
  have p8_ := hall 8 (by decide)
  have p9_ := hall 9 (by decide)
  have p10_ := hall 10 (by decide)
  have p11_ := hall 11 (by decide)
  have p12_ := hall 12 (by decide)
  have p13_ := hall 13 (by decide)
  simp only [p0_, p1_, p2_, p3_, p4_, p5_, p6_, p7_, p8_, p9_, p10_, p11_, p12_, p13_, cq] at ht hs
  subst ht
  refine g_seq (g_rg [0, 1, 2] rfl ?_)
  refine g_op (v := Value.agg ((encA (encI .i64)) (Ar.rep 8 0)).toArray) rfl rfl (x_build rfl rfl) (g_d rfl ?_)
  refine s_alloc hs rfl rfl (z := (Value.agg #[Value.int .i64 0, Value.int .i64 0, Value.int .i64 0, Value.int .i64 0, Value.int .i64 0, Value.int .i64 0, Value.int .i64 0, Value.int .i64 0])) (cs := ((encA (encI .i64)) (Ar.rep 8 0))) rfl (fun _ => rfl) rfl ?_
  intro b12 w hs
  refine g_d rfl ?_
  try dsimp only [set0,setS]
  refine s_storeAll (n := 8) hs ((fkA (n := 8) (he := (fkI .i64).len) (h1 := (fkI .i64).one)).len _) rfl rfl (vs := ((encA (encI .i64)) (Ar.rep 8 0))) rfl rfl rfl (fun _ => rfl) ((fkA (n := 8) (he := (fkI .i64).len) (h1 := (fkI .i64).one)).len _) ((fkA (n := 8) (he := (fkI .i64).len) (h1 := (fkI .i64).one)).one _) ?_
  intro w hs
  refine g_n rfl (g_ops_nil (g_seq (g_seq (g_rg [0, 1] rfl ?_))))
  obtain ⟨g1, H⟩ := ite_get H
  refine s_idxA (n := 0) (m := 1) rfl (fun _ => rfl) g1.1 g1.2 rfl rfl rfl rfl rfl (g_d rfl ?_)
  refine s_storeA (y := 0) (fkI .i64).len (fkI .i64).one g1.1 g1.2 hs rfl rfl rfl rfl rfl (fun _ => rfl) ?_
  intro w hs
  refine g_n rfl (g_ops_nil ?_)
  obtain ⟨o1_, Ho, Hr1_⟩ := bind_get H
  refine g_block_join (J := fun t w => ∃ x899 : (List Int), ∃ x901 : Int, _spec_l03Finder_first.a0 N self x899 x901 = some r ∧ Fr t (fun O => (O 0::O 1::O 2::O 3::O 4::O 5::Value.pointer (some ⟨b10, 0, none⟩)::O 7::O 8::O 9::O 10::O 11::O 12::O 13::O 14::O 15::O 16::O 17::O 18::O 19::O 20::O 21::O 22::O 23::O 24::O 25::O 26::O 27::O 28::O 29::O 30::O 31::O 32::O 33::O 34::O 35::O 36::O 37::O 38::O 39::O 40::O 41::O 42::O 43::O 44::O 45::O 46::O 47::O 48::O 49::O 50::O 51::O 52::O 53::O 54::O 55::O 56::O 57::O 58::O 59::O 60::O 61::O 62::O 63::O 64::O 65::O 66::O 67::O 68::O 69::O 70::O 71::O 72::O 73::O 74::O 75::O 76::O 77::O 78::O 79::O 80::O 81::O 82::O 83::O 84::O 85::O 86::O 87::O 88::O 89::O 90::O 91::O 92::O 93::O 94::O 95::O 96::O 97::O 98::O 99::O 100::O 101::O 102::O 103::O 104::O 105::O 106::O 107::O 108::O 109::O 110::O 111::O 112::O 113::O 114::O 115::O 116::O 117::O 118::O 119::O 120::O 121::O 122::O 123::O 124::O 125::O 126::O 127::O 128::O 129::O 130::O 131::O 132::O 133::O 134::O 135::O 136::O 137::O 138::[] : List Value)) ∧ St wb [Cells b10 ((encA (encI .i64)) (Ar.rep 8 0)) 103, Row 22 (K.int .i8) v3 x899, Cells b2 (([Value.int .i64 x901, v3] : List Value)) 99, Z] w) ?_ ?_
  ·
   rintro t w ⟨x899, x901, H, hf, hs⟩
   obtain ⟨O, rfl⟩ := hf.open
   try dsimp only
   unfold _spec_l03Finder_first.a0 at H
   refine g_seq (g_rg [0, 1, 2] rfl ?_)
   refine g_op (v := Value.agg ((encA (encI .i64)) (Ar.rep 8 0)).toArray) rfl rfl (x_build rfl rfl) (g_d rfl ?_)
   try dsimp only [set0,setS]
   refine s_storeAll (n := 8) hs ((fkA (n := 8) (he := (fkI .i64).len) (h1 := (fkI .i64).one)).len _) rfl rfl (vs := ((encA (encI .i64)) (Ar.rep 8 0))) rfl rfl rfl (fun _ => rfl) ((fkA (n := 8) (he := (fkI .i64).len) (h1 := (fkI .i64).one)).len _) ((fkA (n := 8) (he := (fkI .i64).len) (h1 := (fkI .i64).one)).one _) ?_
   intro w hs
   refine g_n rfl ?_
   refine g_op (v := Value.bool false) rfl rfl rfl (g_d rfl (g_ops_nil ?_))
   obtain rfl := Option.some.inj H
   refine g_ret Try.func58 (v := Value.tuple #[Value.agg ((encA (encI .i64)) (Ar.rep 8 0)).toArray, Value.bool false]) (resN (l := Try.f58.results.toList) (vs := [Value.agg ((encA (encI .i64)) (Ar.rep 8 0)).toArray, Value.bool false]) rfl ⟨⟨_, rfl, (run_loadVar_agg (es := ((encA (encI .i64)) (Ar.rep 8 0))) rfl (congrArg (Result.ok · _) ((fkA (n := 8) (he := (fkI .i64).len) (h1 := (fkI .i64).one)).len _).symm) (cells_all (hs.cells 0 rfl)))⟩, rfl, trivial⟩ (by simp)) ?_
   have hs := hs.pull 3 rfl
   have hs := hs.pull 3 rfl
   have hs := hs.pull 3 rfl
   have hs : St _ [_,_,_] _ := St.take (Γ' := [_]) hs
   exact ⟨_, rfl, rfl, hs⟩
  intro ha1_
  have hs := hs.pull 5 rfl
  have hs := hs.pull 1 rfl
  have hs := hs.pull 2 rfl
  have hs := hs.pull 3 rfl
  have hs := hs.pull 5 rfl
  have hs := hs.pull 5 rfl
  have hs : St _ [_,_,_,_,_,_] _ := St.take (Γ' := []) hs
  refine g_loop_fuel (I := fun n_ t w => ∃ x455 : Int, ∃ x456 : (List Int), ∃ x457 : (Ar Int 8), rounds (fun s => _spec_l03Finder_first.b0 N self a6 a1 a7 s.1 s.2.1 s.2.2) n_ (x455, x456, x457) = some o1_ ∧ Fr t (fun O => (Value.pointer (some ⟨b2, 0, none⟩)::O 1::Value.int .i64 a7::O 3::Value.pointer (some ⟨b8, 0, none⟩)::O 5::Value.pointer (some ⟨b10, 0, none⟩)::O 7::Value.int .i64 (i64w ((i64w ((i64w (a1.f_all - a6.f_open)) - a6.f_heavy)) - a6.f_light))::Value.pointer (some ⟨b12, 0, none⟩)::O 10::O 11::O 12::O 13::O 14::O 15::O 16::O 17::O 18::O 19::O 20::O 21::O 22::O 23::O 24::O 25::O 26::O 27::O 28::O 29::O 30::O 31::O 32::O 33::O 34::O 35::O 36::O 37::O 38::O 39::O 40::O 41::O 42::O 43::O 44::O 45::O 46::O 47::O 48::O 49::O 50::O 51::O 52::O 53::O 54::O 55::O 56::O 57::O 58::O 59::O 60::O 61::O 62::O 63::O 64::O 65::O 66::O 67::O 68::O 69::O 70::O 71::O 72::O 73::O 74::O 75::O 76::O 77::O 78::O 79::O 80::O 81::O 82::O 83::O 84::O 85::O 86::O 87::O 88::O 89::O 90::O 91::O 92::O 93::O 94::O 95::O 96::O 97::O 98::O 99::O 100::O 101::O 102::O 103::O 104::O 105::O 106::O 107::O 108::O 109::O 110::O 111::O 112::O 113::O 114::O 115::O 116::O 117::O 118::O 119::O 120::O 121::O 122::O 123::O 124::O 125::O 126::O 127::O 128::O 129::O 130::O 131::O 132::O 133::O 134::O 135::O 136::O 137::O 138::[] : List Value)) ∧ St wb [Row 22 (K.int .i8) v3 x456, Cells b2 (([Value.int .i64 x455, v3] : List Value)) 99, Cells b8 (enc_S_spec_l03Known a6) 62, Cells b10 ((encA (encI .i64)) (Ar.rep 8 0)) 103, Cells b12 ((encA (encI .i64)) x457) 103, Z] w) N ⟨a1.f_all, a1.f_seen, (Ar.rep 8 0).set 0 0, Ho, rfl, hs⟩ ?_ ?_
  ·
   rintro _ _ ⟨x455, x456, x457, h, _⟩
   exact rounds_zero h
  intro n_ ih1_
  rintro t w ⟨x455, x456, x457, Ho, hf, hs⟩
  obtain ⟨O, rfl⟩ := hf.open
  try dsimp only
  obtain ⟨x1292_, H, Hx1_⟩ := rounds_succ Ho
  have H : _spec_l03Finder_first.b0 N self a6 a1 a7 x455 x456 x457 = some x1292_ := H
  unfold _spec_l03Finder_first.b0 at H
  refine g_seq (g_seq (g_rg [0, 1, 2, 3, 4] rfl ?_))
  obtain ⟨g647, H⟩ := ite_get H
  refine s_idxA (n := 0) (m := 1) rfl (fun _ => rfl) g647.1 g647.2 rfl rfl rfl rfl rfl (g_d rfl ?_)
  try dsimp only [set0,setS]
  refine s_load1 rfl rfl (v := Value.int .i64 (x457.get 0 0)) rfl rfl (fun _ => rfl) (by rw [Nat.zero_add]; exact cells_load (hs.cells 4 rfl) _ _ (encA_at (fkI .i64).len _ _ 0 g647.1 g647.2)) (g_d rfl ?_)
  refine g_op (v := Value.pointer (some ⟨b8, 0, none⟩)) rfl rfl rfl (g_d rfl ?_)
  refine s_load1 rfl rfl (v := Value.int .i64 a6.f_open) rfl rfl (fun _ => rfl) (cells_load (hs.cells 2 rfl) 0 1 rfl) (g_d rfl ?_)
  try dsimp only [set0,setS]
  refine g_op_b (B := decide ((x457.get 0 0) ≤ a6.f_open)) rfl rfl rfl ?_ ?_
  ·
   intro hb
   rw [if_pos (b_dec_t hb)] at H
   refine g_d rfl ?_
   try dsimp only [set0,setS]
   refine g_ops_nil (g_cond_true rfl (g_skip (g_seq ?_)))
   refine g_block (g_seq (g_rg [0, 1] rfl ?_))
   obtain ⟨g648, H⟩ := ite_get H
   refine s_idxA (n := 1) (m := 1) rfl (fun _ => rfl) g648.1 g648.2 rfl rfl rfl rfl rfl (g_d rfl ?_)
   have hs := hs.pull 4 rfl
   have hs : St _ [_,_,_,_,_,_] _ := hs
   refine s_storeA (y := 0) (fkI .i64).len (fkI .i64).one g648.1 g648.2 hs rfl rfl rfl rfl rfl (fun _ => rfl) ?_
   intro w hs
   refine g_n rfl (g_ops_nil ?_)
   obtain ⟨o2_, Ho, Hr2_⟩ := bind_get H
   refine g_block_join (J := fun t w => ∃ x895 : Int, ∃ x896 : (List Int), ∃ x898 : (Ar Int 8), _spec_l03Finder_first.a2 N self x895 x896 x898 = some x1292_ ∧ Fr t (fun O => (Value.pointer (some ⟨b2, 0, none⟩)::O 1::Value.int .i64 a7::O 3::Value.pointer (some ⟨b8, 0, none⟩)::O 5::Value.pointer (some ⟨b10, 0, none⟩)::O 7::Value.int .i64 (i64w ((i64w ((i64w (a1.f_all - a6.f_open)) - a6.f_heavy)) - a6.f_light))::Value.pointer (some ⟨b12, 0, none⟩)::O 10::O 11::O 12::O 13::O 14::O 15::O 16::O 17::O 18::O 19::O 20::O 21::O 22::O 23::O 24::O 25::O 26::O 27::O 28::O 29::O 30::O 31::O 32::O 33::O 34::O 35::O 36::O 37::O 38::O 39::O 40::O 41::O 42::O 43::O 44::O 45::O 46::O 47::O 48::O 49::O 50::O 51::O 52::O 53::O 54::O 55::O 56::O 57::O 58::O 59::O 60::O 61::O 62::O 63::O 64::O 65::O 66::O 67::O 68::O 69::O 70::O 71::O 72::O 73::O 74::O 75::O 76::O 77::O 78::O 79::O 80::O 81::O 82::O 83::O 84::O 85::O 86::O 87::O 88::O 89::O 90::O 91::O 92::O 93::O 94::O 95::O 96::O 97::O 98::O 99::O 100::O 101::O 102::O 103::O 104::O 105::O 106::O 107::O 108::O 109::O 110::O 111::O 112::O 113::O 114::O 115::O 116::O 117::O 118::O 119::O 120::O 121::O 122::O 123::O 124::O 125::O 126::O 127::O 128::O 129::O 130::O 131::O 132::O 133::O 134::O 135::O 136::O 137::O 138::[] : List Value)) ∧ St wb [Cells b2 (([Value.int .i64 x895, v3] : List Value)) 99, Row 22 (K.int .i8) v3 x896, Cells b8 (enc_S_spec_l03Known a6) 62, Cells b10 ((encA (encI .i64)) (Ar.rep 8 0)) 103, Cells b12 ((encA (encI .i64)) x898) 103, Z] w) ?_ ?_
   ·
    rintro t w ⟨x895, x896, x898, H, hf, hs⟩
    obtain ⟨O, rfl⟩ := hf.open
    try dsimp only
    unfold _spec_l03Finder_first.a2 at H
    refine g_inBlock (g_rg [0, 1, 2, 3, 4] rfl ?_)
    obtain ⟨g1289, H⟩ := ite_get H
    refine s_idxA (n := 0) (m := 1) rfl (fun _ => rfl) g1289.1 g1289.2 rfl rfl rfl rfl rfl (g_d rfl ?_)
    try dsimp only [set0,setS]
    refine s_load1 rfl rfl (v := Value.int .i64 (x898.get 0 0)) rfl rfl (fun _ => rfl) (by rw [Nat.zero_add]; exact cells_load (hs.cells 4 rfl) _ _ (encA_at (fkI .i64).len _ _ 0 g1289.1 g1289.2)) (g_d rfl ?_)
    refine g_op (v := Value.int .i64 (i64w ((x898.get 0 0) + 1))) rfl rfl rfl (g_d rfl ?_)
    try dsimp only [set0,setS]
    obtain ⟨g1290, H⟩ := ite_get H
    refine s_idxA (n := 0) (m := 1) rfl (fun _ => rfl) g1290.1 g1290.2 rfl rfl rfl rfl rfl (g_d rfl ?_)
    have hs := hs.pull 4 rfl
    have hs : St _ [_,_,_,_,_,_] _ := hs
    refine s_storeA (y := i64w ((x898.get 0 0) + 1)) (fkI .i64).len (fkI .i64).one g1290.1 g1290.2 hs rfl rfl rfl rfl rfl (fun _ => rfl) ?_
    intro w hs
    refine g_n rfl (g_ops_nil ?_)
    obtain rfl := Option.some.inj H
    have hs := hs.pull 5 rfl
    have hs := hs.pull 1 rfl
    have hs := hs.pull 5 rfl
    have hs := hs.pull 5 rfl
    have hs := hs.pull 4 rfl
    have hs := hs.pull 5 rfl
    have hs : St _ [_,_,_,_,_,_] _ := St.take (Γ' := []) hs
    exact ih1_ _ _ ⟨x895, x896, x898.set 0 (i64w ((x898.get 0 0) + 1)), Hx1_, rfl, hs⟩
   intro ha2_
   have hs := hs.pull 5 rfl
   have hs := hs.pull 1 rfl
   have hs := hs.pull 5 rfl
   have hs := hs.pull 5 rfl
   have hs := hs.pull 5 rfl
   have hs := hs.pull 5 rfl
   have hs : St _ [_,_,_,_,_,_] _ := St.take (Γ' := []) hs
   refine g_loop_fuel (I := fun n_ t w => ∃ x675 : Int, ∃ x676 : (List Int), ∃ x677 : (Ar Int 8), rounds (fun s => _spec_l03Finder_first.b2 N self a6 a1 a7 s.1 s.2.1 s.2.2) n_ (x675, x676, x677) = some o2_ ∧ Fr t (fun O => (Value.pointer (some ⟨b2, 0, none⟩)::O 1::Value.int .i64 a7::O 3::Value.pointer (some ⟨b8, 0, none⟩)::O 5::Value.pointer (some ⟨b10, 0, none⟩)::O 7::Value.int .i64 (i64w ((i64w ((i64w (a1.f_all - a6.f_open)) - a6.f_heavy)) - a6.f_light))::Value.pointer (some ⟨b12, 0, none⟩)::O 10::O 11::O 12::O 13::O 14::O 15::O 16::O 17::O 18::O 19::O 20::O 21::O 22::O 23::O 24::O 25::O 26::O 27::O 28::O 29::O 30::O 31::O 32::O 33::O 34::O 35::O 36::O 37::O 38::O 39::O 40::O 41::O 42::O 43::O 44::O 45::O 46::O 47::O 48::O 49::O 50::O 51::O 52::O 53::O 54::O 55::O 56::O 57::O 58::O 59::O 60::O 61::O 62::O 63::O 64::O 65::O 66::O 67::O 68::O 69::O 70::O 71::O 72::O 73::O 74::O 75::O 76::O 77::O 78::O 79::O 80::O 81::O 82::O 83::O 84::O 85::O 86::O 87::O 88::O 89::O 90::O 91::O 92::O 93::O 94::O 95::O 96::O 97::O 98::O 99::O 100::O 101::O 102::O 103::O 104::O 105::O 106::O 107::O 108::O 109::O 110::O 111::O 112::O 113::O 114::O 115::O 116::O 117::O 118::O 119::O 120::O 121::O 122::O 123::O 124::O 125::O 126::O 127::O 128::O 129::O 130::O 131::O 132::O 133::O 134::O 135::O 136::O 137::O 138::[] : List Value)) ∧ St wb [Row 22 (K.int .i8) v3 x676, Cells b2 (([Value.int .i64 x675, v3] : List Value)) 99, Cells b8 (enc_S_spec_l03Known a6) 62, Cells b10 ((encA (encI .i64)) (Ar.rep 8 0)) 103, Cells b12 ((encA (encI .i64)) x677) 103, Z] w) N ⟨x455, x456, x457.set 1 0, Ho, rfl, hs⟩ ?_ ?_
   ·
    rintro _ _ ⟨x675, x676, x677, h, _⟩
    exact rounds_zero h
   intro n_ ih2_
   rintro t w ⟨x675, x676, x677, Ho, hf, hs⟩
   obtain ⟨O, rfl⟩ := hf.open
   try dsimp only
   obtain ⟨x1291_, H, Hx2_⟩ := rounds_succ Ho
   have H : _spec_l03Finder_first.b2 N self a6 a1 a7 x675 x676 x677 = some x1291_ := H
   unfold _spec_l03Finder_first.b2 at H
   refine g_seq (g_seq (g_rg [0, 1, 2, 3, 4, 5, 6, 7] rfl ?_))
   obtain ⟨g969, H⟩ := ite_get H
   refine s_idxA (n := 0) (m := 1) rfl (fun _ => rfl) g969.1 g969.2 rfl rfl rfl rfl rfl (g_d rfl ?_)
   try dsimp only [set0,setS]
   refine s_load1 rfl rfl (v := Value.int .i64 (x677.get 0 0)) rfl rfl (fun _ => rfl) (by rw [Nat.zero_add]; exact cells_load (hs.cells 4 rfl) _ _ (encA_at (fkI .i64).len _ _ 0 g969.1 g969.2)) (g_d rfl ?_)
   obtain ⟨g970, H⟩ := ite_get H
   refine s_idxA (n := 1) (m := 1) rfl (fun _ => rfl) g970.1 g970.2 rfl rfl rfl rfl rfl (g_d rfl ?_)
   try dsimp only [set0,setS]
   refine s_load1 rfl rfl (v := Value.int .i64 (x677.get 1 0)) rfl rfl (fun _ => rfl) (by rw [Nat.zero_add]; exact cells_load (hs.cells 4 rfl) _ _ (encA_at (fkI .i64).len _ _ 0 g970.1 g970.2)) (g_d rfl ?_)
   refine g_op (v := Value.int .i64 (i64w ((x677.get 0 0) + (x677.get 1 0)))) rfl rfl rfl (g_d rfl ?_)
   try dsimp only [set0,setS]
   refine g_op (v := Value.pointer (some ⟨b8, 0, none⟩)) rfl rfl rfl (g_d rfl ?_)
   refine s_load1 rfl rfl (v := Value.int .i64 a6.f_open) rfl rfl (fun _ => rfl) (cells_load (hs.cells 2 rfl) 0 1 rfl) (g_d rfl ?_)
   refine g_op_b (B := decide ((i64w ((x677.get 0 0) + (x677.get 1 0))) ≤ a6.f_open)) rfl rfl rfl ?_ ?_
   ·
    intro hb
    rw [if_pos (b_dec_t hb)] at H
    refine g_d rfl (g_ops_nil (g_cond_true rfl (g_skip (g_seq ?_))))
    refine g_block (g_seq (g_rg [0, 1] rfl ?_))
    obtain ⟨g971, H⟩ := ite_get H
    refine s_idxA (n := 2) (m := 1) rfl (fun _ => rfl) g971.1 g971.2 rfl rfl rfl rfl rfl (g_d rfl ?_)
    try dsimp only [set0,setS]
    have hs := hs.pull 4 rfl
    have hs : St _ [_,_,_,_,_,_] _ := hs
    refine s_storeA (y := 0) (fkI .i64).len (fkI .i64).one g971.1 g971.2 hs rfl rfl rfl rfl rfl (fun _ => rfl) ?_
    intro w hs
    refine g_n rfl (g_ops_nil ?_)
    obtain ⟨o3_, Ho, Hr3_⟩ := bind_get H
    refine g_block_join (J := fun t w => ∃ x891 : Int, ∃ x892 : (List Int), ∃ x894 : (Ar Int 8), _spec_l03Finder_first.a4 N self x891 x892 x894 = some x1291_ ∧ Fr t (fun O => (Value.pointer (some ⟨b2, 0, none⟩)::O 1::Value.int .i64 a7::O 3::Value.pointer (some ⟨b8, 0, none⟩)::O 5::Value.pointer (some ⟨b10, 0, none⟩)::O 7::Value.int .i64 (i64w ((i64w ((i64w (a1.f_all - a6.f_open)) - a6.f_heavy)) - a6.f_light))::Value.pointer (some ⟨b12, 0, none⟩)::O 10::O 11::O 12::O 13::O 14::O 15::O 16::O 17::O 18::O 19::O 20::O 21::O 22::O 23::O 24::O 25::O 26::O 27::O 28::O 29::O 30::O 31::O 32::O 33::O 34::O 35::O 36::O 37::O 38::O 39::O 40::O 41::O 42::O 43::O 44::O 45::O 46::O 47::O 48::O 49::O 50::O 51::O 52::O 53::O 54::O 55::O 56::O 57::O 58::O 59::O 60::O 61::O 62::O 63::O 64::O 65::O 66::O 67::O 68::O 69::O 70::O 71::O 72::O 73::O 74::O 75::O 76::O 77::O 78::O 79::O 80::O 81::O 82::O 83::O 84::O 85::O 86::O 87::O 88::O 89::O 90::O 91::O 92::O 93::O 94::O 95::O 96::O 97::O 98::O 99::O 100::O 101::O 102::O 103::O 104::O 105::O 106::O 107::O 108::O 109::O 110::O 111::O 112::O 113::O 114::O 115::O 116::O 117::O 118::O 119::O 120::O 121::O 122::O 123::O 124::O 125::O 126::O 127::O 128::O 129::O 130::O 131::O 132::O 133::O 134::O 135::O 136::O 137::O 138::[] : List Value)) ∧ St wb [Cells b2 (([Value.int .i64 x891, v3] : List Value)) 99, Row 22 (K.int .i8) v3 x892, Cells b8 (enc_S_spec_l03Known a6) 62, Cells b10 ((encA (encI .i64)) (Ar.rep 8 0)) 103, Cells b12 ((encA (encI .i64)) x894) 103, Z] w) ?_ ?_
    ·
     rintro t w ⟨x891, x892, x894, H, hf, hs⟩
     obtain ⟨O, rfl⟩ := hf.open
     try dsimp only
     unfold _spec_l03Finder_first.a4 at H
     refine g_inBlock (g_rg [0, 1, 2, 3, 4] rfl ?_)
     obtain ⟨g1286, H⟩ := ite_get H
     refine s_idxA (n := 1) (m := 1) rfl (fun _ => rfl) g1286.1 g1286.2 rfl rfl rfl rfl rfl (g_d rfl ?_)
     try dsimp only [set0,setS]
     refine s_load1 rfl rfl (v := Value.int .i64 (x894.get 1 0)) rfl rfl (fun _ => rfl) (by rw [Nat.zero_add]; exact cells_load (hs.cells 4 rfl) _ _ (encA_at (fkI .i64).len _ _ 0 g1286.1 g1286.2)) (g_d rfl ?_)
     refine g_op (v := Value.int .i64 (i64w ((x894.get 1 0) + 1))) rfl rfl rfl (g_d rfl ?_)
     try dsimp only [set0,setS]
     obtain ⟨g1287, H⟩ := ite_get H
     refine s_idxA (n := 1) (m := 1) rfl (fun _ => rfl) g1287.1 g1287.2 rfl rfl rfl rfl rfl (g_d rfl ?_)
     have hs := hs.pull 4 rfl
     have hs : St _ [_,_,_,_,_,_] _ := hs
     refine s_storeA (y := i64w ((x894.get 1 0) + 1)) (fkI .i64).len (fkI .i64).one g1287.1 g1287.2 hs rfl rfl rfl rfl rfl (fun _ => rfl) ?_
     intro w hs
     refine g_n rfl (g_ops_nil ?_)
     obtain rfl := Option.some.inj H
     have hs := hs.pull 5 rfl
     have hs := hs.pull 1 rfl
     have hs := hs.pull 5 rfl
     have hs := hs.pull 5 rfl
     have hs := hs.pull 4 rfl
     have hs := hs.pull 5 rfl
     have hs : St _ [_,_,_,_,_,_] _ := St.take (Γ' := []) hs
     exact ih2_ _ _ ⟨x891, x892, x894.set 1 (i64w ((x894.get 1 0) + 1)), Hx2_, rfl, hs⟩
    intro ha3_
    have hs := hs.pull 5 rfl
    have hs := hs.pull 1 rfl
    have hs := hs.pull 5 rfl
    have hs := hs.pull 5 rfl
    have hs := hs.pull 5 rfl
    have hs := hs.pull 5 rfl
    have hs : St _ [_,_,_,_,_,_] _ := St.take (Γ' := []) hs
    refine g_loop_fuel (I := fun n_ t w => ∃ x783 : Int, ∃ x784 : (List Int), ∃ x785 : (Ar Int 8), rounds (fun s => _spec_l03Finder_first.b4 N self a6 a1 a7 s.1 s.2.1 s.2.2) n_ (x783, x784, x785) = some o3_ ∧ Fr t (fun O => (Value.pointer (some ⟨b2, 0, none⟩)::O 1::Value.int .i64 a7::O 3::Value.pointer (some ⟨b8, 0, none⟩)::O 5::Value.pointer (some ⟨b10, 0, none⟩)::O 7::Value.int .i64 (i64w ((i64w ((i64w (a1.f_all - a6.f_open)) - a6.f_heavy)) - a6.f_light))::Value.pointer (some ⟨b12, 0, none⟩)::O 10::O 11::O 12::O 13::O 14::O 15::O 16::O 17::O 18::O 19::O 20::O 21::O 22::O 23::O 24::O 25::O 26::O 27::O 28::O 29::O 30::O 31::O 32::O 33::O 34::O 35::O 36::O 37::O 38::O 39::O 40::O 41::O 42::O 43::O 44::O 45::O 46::O 47::O 48::O 49::O 50::O 51::O 52::O 53::O 54::O 55::O 56::O 57::O 58::O 59::O 60::O 61::O 62::O 63::O 64::O 65::O 66::O 67::O 68::O 69::O 70::O 71::O 72::O 73::O 74::O 75::O 76::O 77::O 78::O 79::O 80::O 81::O 82::O 83::O 84::O 85::O 86::O 87::O 88::O 89::O 90::O 91::O 92::O 93::O 94::O 95::O 96::O 97::O 98::O 99::O 100::O 101::O 102::O 103::O 104::O 105::O 106::O 107::O 108::O 109::O 110::O 111::O 112::O 113::O 114::O 115::O 116::O 117::O 118::O 119::O 120::O 121::O 122::O 123::O 124::O 125::O 126::O 127::O 128::O 129::O 130::O 131::O 132::O 133::O 134::O 135::O 136::O 137::O 138::[] : List Value)) ∧ St wb [Row 22 (K.int .i8) v3 x784, Cells b2 (([Value.int .i64 x783, v3] : List Value)) 99, Cells b8 (enc_S_spec_l03Known a6) 62, Cells b10 ((encA (encI .i64)) (Ar.rep 8 0)) 103, Cells b12 ((encA (encI .i64)) x785) 103, Z] w) N ⟨x675, x676, x677.set 2 0, Ho, rfl, hs⟩ ?_ ?_
    ·
     rintro _ _ ⟨x783, x784, x785, h, _⟩
     exact rounds_zero h
    intro n_ ih3_
    rintro t w ⟨x783, x784, x785, Ho, hf, hs⟩
    obtain ⟨O, rfl⟩ := hf.open
    try dsimp only
    obtain ⟨x1288_, H, Hx3_⟩ := rounds_succ Ho
    have H : _spec_l03Finder_first.b4 N self a6 a1 a7 x783 x784 x785 = some x1288_ := H
    unfold _spec_l03Finder_first.b4 at H
    refine g_seq (g_seq (g_rg [0, 1, 2, 3, 4] rfl ?_))
    obtain ⟨g1129, H⟩ := ite_get H
    refine s_idxA (n := 2) (m := 1) rfl (fun _ => rfl) g1129.1 g1129.2 rfl rfl rfl rfl rfl (g_d rfl ?_)
    refine s_load1 rfl rfl (v := Value.int .i64 (x785.get 2 0)) rfl rfl (fun _ => rfl) (by rw [Nat.zero_add]; exact cells_load (hs.cells 4 rfl) _ _ (encA_at (fkI .i64).len _ _ 0 g1129.1 g1129.2)) (g_d rfl ?_)
    try dsimp only [set0,setS]
    refine g_op (v := Value.pointer (some ⟨b8, 1, none⟩)) rfl rfl rfl (g_d rfl ?_)
    refine s_load1 rfl rfl (v := Value.int .i64 a6.f_heavy) rfl rfl (fun _ => rfl) (cells_load (hs.cells 2 rfl) 1 1 rfl) (g_d rfl ?_)
    refine g_op_b (B := decide ((x785.get 2 0) ≤ a6.f_heavy)) rfl rfl rfl ?_ ?_
    ·
     intro hb
     rw [if_pos (b_dec_t hb)] at H
     refine g_d rfl (g_ops_nil (g_cond_true rfl (g_skip (g_seq ?_))))
     refine g_block (g_seq (g_rg [0, 1] rfl ?_))
     obtain ⟨g1130, H⟩ := ite_get H
     refine s_idxA (n := 3) (m := 1) rfl (fun _ => rfl) g1130.1 g1130.2 rfl rfl rfl rfl rfl (g_d rfl ?_)
     try dsimp only [set0,setS]
     have hs := hs.pull 4 rfl
     have hs : St _ [_,_,_,_,_,_] _ := hs
     refine s_storeA (y := 0) (fkI .i64).len (fkI .i64).one g1130.1 g1130.2 hs rfl rfl rfl rfl rfl (fun _ => rfl) ?_
     intro w hs
     refine g_n rfl (g_ops_nil ?_)
     obtain ⟨o4_, Ho, Hr4_⟩ := bind_get H
     refine g_block_join (J := fun t w => ∃ x887 : Int, ∃ x888 : (List Int), ∃ x890 : (Ar Int 8), _spec_l03Finder_first.a6 N self x887 x888 x890 = some x1288_ ∧ Fr t (fun O => (Value.pointer (some ⟨b2, 0, none⟩)::O 1::Value.int .i64 a7::O 3::Value.pointer (some ⟨b8, 0, none⟩)::O 5::Value.pointer (some ⟨b10, 0, none⟩)::O 7::Value.int .i64 (i64w ((i64w ((i64w (a1.f_all - a6.f_open)) - a6.f_heavy)) - a6.f_light))::Value.pointer (some ⟨b12, 0, none⟩)::O 10::O 11::O 12::O 13::O 14::O 15::O 16::O 17::O 18::O 19::O 20::O 21::O 22::O 23::O 24::O 25::O 26::O 27::O 28::O 29::O 30::O 31::O 32::O 33::O 34::O 35::O 36::O 37::O 38::O 39::O 40::O 41::O 42::O 43::O 44::O 45::O 46::O 47::O 48::O 49::O 50::O 51::O 52::O 53::O 54::O 55::O 56::O 57::O 58::O 59::O 60::O 61::O 62::O 63::O 64::O 65::O 66::O 67::O 68::O 69::O 70::O 71::O 72::O 73::O 74::O 75::O 76::O 77::O 78::O 79::O 80::O 81::O 82::O 83::O 84::O 85::O 86::O 87::O 88::O 89::O 90::O 91::O 92::O 93::O 94::O 95::O 96::O 97::O 98::O 99::O 100::O 101::O 102::O 103::O 104::O 105::O 106::O 107::O 108::O 109::O 110::O 111::O 112::O 113::O 114::O 115::O 116::O 117::O 118::O 119::O 120::O 121::O 122::O 123::O 124::O 125::O 126::O 127::O 128::O 129::O 130::O 131::O 132::O 133::O 134::O 135::O 136::O 137::O 138::[] : List Value)) ∧ St wb [Cells b2 (([Value.int .i64 x887, v3] : List Value)) 99, Row 22 (K.int .i8) v3 x888, Cells b8 (enc_S_spec_l03Known a6) 62, Cells b10 ((encA (encI .i64)) (Ar.rep 8 0)) 103, Cells b12 ((encA (encI .i64)) x890) 103, Z] w) ?_ ?_
     ·
      rintro t w ⟨x887, x888, x890, H, hf, hs⟩
      obtain ⟨O, rfl⟩ := hf.open
      try dsimp only
      unfold _spec_l03Finder_first.a6 at H
      refine g_inBlock (g_rg [0, 1, 2, 3, 4] rfl ?_)
      obtain ⟨g1283, H⟩ := ite_get H
      refine s_idxA (n := 2) (m := 1) rfl (fun _ => rfl) g1283.1 g1283.2 rfl rfl rfl rfl rfl (g_d rfl ?_)
      try dsimp only [set0,setS]
      refine s_load1 rfl rfl (v := Value.int .i64 (x890.get 2 0)) rfl rfl (fun _ => rfl) (by rw [Nat.zero_add]; exact cells_load (hs.cells 4 rfl) _ _ (encA_at (fkI .i64).len _ _ 0 g1283.1 g1283.2)) (g_d rfl ?_)
      refine g_op (v := Value.int .i64 (i64w ((x890.get 2 0) + 1))) rfl rfl rfl (g_d rfl ?_)
      try dsimp only [set0,setS]
      obtain ⟨g1284, H⟩ := ite_get H
      refine s_idxA (n := 2) (m := 1) rfl (fun _ => rfl) g1284.1 g1284.2 rfl rfl rfl rfl rfl (g_d rfl ?_)
      have hs := hs.pull 4 rfl
      have hs : St _ [_,_,_,_,_,_] _ := hs
      refine s_storeA (y := i64w ((x890.get 2 0) + 1)) (fkI .i64).len (fkI .i64).one g1284.1 g1284.2 hs rfl rfl rfl rfl rfl (fun _ => rfl) ?_
      intro w hs
      refine g_n rfl (g_ops_nil ?_)
      obtain rfl := Option.some.inj H
      have hs := hs.pull 5 rfl
      have hs := hs.pull 1 rfl
      have hs := hs.pull 5 rfl
      have hs := hs.pull 5 rfl
      have hs := hs.pull 4 rfl
      have hs := hs.pull 5 rfl
      have hs : St _ [_,_,_,_,_,_] _ := St.take (Γ' := []) hs
      exact ih3_ _ _ ⟨x887, x888, x890.set 2 (i64w ((x890.get 2 0) + 1)), Hx3_, rfl, hs⟩
     intro ha4_
     have hs := hs.pull 5 rfl
     have hs := hs.pull 1 rfl
     have hs := hs.pull 5 rfl
     have hs := hs.pull 5 rfl
     have hs := hs.pull 5 rfl
     have hs := hs.pull 5 rfl
     have hs : St _ [_,_,_,_,_,_] _ := St.take (Γ' := []) hs
     refine g_loop_fuel (I := fun n_ t w => ∃ x835 : Int, ∃ x836 : (List Int), ∃ x837 : (Ar Int 8), rounds (fun s => _spec_l03Finder_first.b6 N self a6 a1 a7 s.1 s.2.1 s.2.2) n_ (x835, x836, x837) = some o4_ ∧ Fr t (fun O => (Value.pointer (some ⟨b2, 0, none⟩)::O 1::Value.int .i64 a7::O 3::Value.pointer (some ⟨b8, 0, none⟩)::O 5::Value.pointer (some ⟨b10, 0, none⟩)::O 7::Value.int .i64 (i64w ((i64w ((i64w (a1.f_all - a6.f_open)) - a6.f_heavy)) - a6.f_light))::Value.pointer (some ⟨b12, 0, none⟩)::O 10::O 11::O 12::O 13::O 14::O 15::O 16::O 17::O 18::O 19::O 20::O 21::O 22::O 23::O 24::O 25::O 26::O 27::O 28::O 29::O 30::O 31::O 32::O 33::O 34::O 35::O 36::O 37::O 38::O 39::O 40::O 41::O 42::O 43::O 44::O 45::O 46::O 47::O 48::O 49::O 50::O 51::O 52::O 53::O 54::O 55::O 56::O 57::O 58::O 59::O 60::O 61::O 62::O 63::O 64::O 65::O 66::O 67::O 68::O 69::O 70::O 71::O 72::O 73::O 74::O 75::O 76::O 77::O 78::O 79::O 80::O 81::O 82::O 83::O 84::O 85::O 86::O 87::O 88::O 89::O 90::O 91::O 92::O 93::O 94::O 95::O 96::O 97::O 98::O 99::O 100::O 101::O 102::O 103::O 104::O 105::O 106::O 107::O 108::O 109::O 110::O 111::O 112::O 113::O 114::O 115::O 116::O 117::O 118::O 119::O 120::O 121::O 122::O 123::O 124::O 125::O 126::O 127::O 128::O 129::O 130::O 131::O 132::O 133::O 134::O 135::O 136::O 137::O 138::[] : List Value)) ∧ St wb [Row 22 (K.int .i8) v3 x836, Cells b2 (([Value.int .i64 x835, v3] : List Value)) 99, Cells b8 (enc_S_spec_l03Known a6) 62, Cells b10 ((encA (encI .i64)) (Ar.rep 8 0)) 103, Cells b12 ((encA (encI .i64)) x837) 103, Z] w) N ⟨x783, x784, x785.set 3 0, Ho, rfl, hs⟩ ?_ ?_
     ·
      rintro _ _ ⟨x835, x836, x837, h, _⟩
      exact rounds_zero h
     intro n_ ih4_
     rintro t w ⟨x835, x836, x837, Ho, hf, hs⟩
     obtain ⟨O, rfl⟩ := hf.open
     try dsimp only
     obtain ⟨x1285_, H, Hx4_⟩ := rounds_succ Ho
     have H : _spec_l03Finder_first.b6 N self a6 a1 a7 x835 x836 x837 = some x1285_ := H
     unfold _spec_l03Finder_first.b6 at H
     refine g_seq (g_seq (g_rg [0, 1, 2, 3, 4, 5, 6, 7] rfl ?_))
     obtain ⟨g1207, H⟩ := ite_get H
     refine s_idxA (n := 2) (m := 1) rfl (fun _ => rfl) g1207.1 g1207.2 rfl rfl rfl rfl rfl (g_d rfl ?_)
     refine s_load1 rfl rfl (v := Value.int .i64 (x837.get 2 0)) rfl rfl (fun _ => rfl) (by rw [Nat.zero_add]; exact cells_load (hs.cells 4 rfl) _ _ (encA_at (fkI .i64).len _ _ 0 g1207.1 g1207.2)) (g_d rfl ?_)
     try dsimp only [set0,setS]
     obtain ⟨g1208, H⟩ := ite_get H
     refine s_idxA (n := 3) (m := 1) rfl (fun _ => rfl) g1208.1 g1208.2 rfl rfl rfl rfl rfl (g_d rfl ?_)
     refine s_load1 rfl rfl (v := Value.int .i64 (x837.get 3 0)) rfl rfl (fun _ => rfl) (by rw [Nat.zero_add]; exact cells_load (hs.cells 4 rfl) _ _ (encA_at (fkI .i64).len _ _ 0 g1208.1 g1208.2)) (g_d rfl ?_)
     try dsimp only [set0,setS]
     refine g_op (v := Value.int .i64 (i64w ((x837.get 2 0) + (x837.get 3 0)))) rfl rfl rfl (g_d rfl ?_)
     refine g_op (v := Value.pointer (some ⟨b8, 1, none⟩)) rfl rfl rfl (g_d rfl ?_)
     refine s_load1 rfl rfl (v := Value.int .i64 a6.f_heavy) rfl rfl (fun _ => rfl) (cells_load (hs.cells 2 rfl) 1 1 rfl) (g_d rfl ?_)
     try dsimp only [set0,setS]
     refine g_op_b (B := decide ((i64w ((x837.get 2 0) + (x837.get 3 0))) ≤ a6.f_heavy)) rfl rfl rfl ?_ ?_
     ·
      intro hb
      rw [if_pos (b_dec_t hb)] at H
      refine g_d rfl ?_
      try dsimp only [set0,setS]
      refine g_ops_nil (g_cond_true rfl (g_skip (g_seq ?_)))
      refine g_block (g_seq (g_rg [0, 1] rfl ?_))
      obtain ⟨g1209, H⟩ := ite_get H
      refine s_idxA (n := 4) (m := 1) rfl (fun _ => rfl) g1209.1 g1209.2 rfl rfl rfl rfl rfl (g_d rfl ?_)
      have hs := hs.pull 4 rfl
      have hs : St _ [_,_,_,_,_,_] _ := hs
      refine s_storeA (y := 0) (fkI .i64).len (fkI .i64).one g1209.1 g1209.2 hs rfl rfl rfl rfl rfl (fun _ => rfl) ?_
      intro w hs
      refine g_n rfl (g_ops_nil ?_)
      obtain ⟨o5_, Ho, Hr5_⟩ := bind_get H
      refine g_block_join (J := fun t w => ∃ x883 : Int, ∃ x884 : (List Int), ∃ x886 : (Ar Int 8), _spec_l03Finder_first.a8 N self x883 x884 x886 = some x1285_ ∧ Fr t (fun O => (Value.pointer (some ⟨b2, 0, none⟩)::O 1::Value.int .i64 a7::O 3::Value.pointer (some ⟨b8, 0, none⟩)::O 5::Value.pointer (some ⟨b10, 0, none⟩)::O 7::Value.int .i64 (i64w ((i64w ((i64w (a1.f_all - a6.f_open)) - a6.f_heavy)) - a6.f_light))::Value.pointer (some ⟨b12, 0, none⟩)::O 10::O 11::O 12::O 13::O 14::O 15::O 16::O 17::O 18::O 19::O 20::O 21::O 22::O 23::O 24::O 25::O 26::O 27::O 28::O 29::O 30::O 31::O 32::O 33::O 34::O 35::O 36::O 37::O 38::O 39::O 40::O 41::O 42::O 43::O 44::O 45::O 46::O 47::O 48::O 49::O 50::O 51::O 52::O 53::O 54::O 55::O 56::O 57::O 58::O 59::O 60::O 61::O 62::O 63::O 64::O 65::O 66::O 67::O 68::O 69::O 70::O 71::O 72::O 73::O 74::O 75::O 76::O 77::O 78::O 79::O 80::O 81::O 82::O 83::O 84::O 85::O 86::O 87::O 88::O 89::O 90::O 91::O 92::O 93::O 94::O 95::O 96::O 97::O 98::O 99::O 100::O 101::O 102::O 103::O 104::O 105::O 106::O 107::O 108::O 109::O 110::O 111::O 112::O 113::O 114::O 115::O 116::O 117::O 118::O 119::O 120::O 121::O 122::O 123::O 124::O 125::O 126::O 127::O 128::O 129::O 130::O 131::O 132::O 133::O 134::O 135::O 136::O 137::O 138::[] : List Value)) ∧ St wb [Cells b2 (([Value.int .i64 x883, v3] : List Value)) 99, Row 22 (K.int .i8) v3 x884, Cells b8 (enc_S_spec_l03Known a6) 62, Cells b10 ((encA (encI .i64)) (Ar.rep 8 0)) 103, Cells b12 ((encA (encI .i64)) x886) 103, Z] w) ?_ ?_
      ·
       rintro t w ⟨x883, x884, x886, H, hf, hs⟩
       obtain ⟨O, rfl⟩ := hf.open
       try dsimp only
       unfold _spec_l03Finder_first.a8 at H
       refine g_inBlock (g_rg [0, 1, 2, 3, 4] rfl ?_)
       obtain ⟨g1280, H⟩ := ite_get H
       refine s_idxA (n := 3) (m := 1) rfl (fun _ => rfl) g1280.1 g1280.2 rfl rfl rfl rfl rfl (g_d rfl ?_)
       try dsimp only [set0,setS]
       refine s_load1 rfl rfl (v := Value.int .i64 (x886.get 3 0)) rfl rfl (fun _ => rfl) (by rw [Nat.zero_add]; exact cells_load (hs.cells 4 rfl) _ _ (encA_at (fkI .i64).len _ _ 0 g1280.1 g1280.2)) (g_d rfl ?_)
       refine g_op (v := Value.int .i64 (i64w ((x886.get 3 0) + 1))) rfl rfl rfl (g_d rfl ?_)
       try dsimp only [set0,setS]
       obtain ⟨g1281, H⟩ := ite_get H
       refine s_idxA (n := 3) (m := 1) rfl (fun _ => rfl) g1281.1 g1281.2 rfl rfl rfl rfl rfl (g_d rfl ?_)
       have hs := hs.pull 4 rfl
       have hs : St _ [_,_,_,_,_,_] _ := hs
       refine s_storeA (y := i64w ((x886.get 3 0) + 1)) (fkI .i64).len (fkI .i64).one g1281.1 g1281.2 hs rfl rfl rfl rfl rfl (fun _ => rfl) ?_
       intro w hs
       refine g_n rfl (g_ops_nil ?_)
       obtain rfl := Option.some.inj H
       have hs := hs.pull 5 rfl
       have hs := hs.pull 1 rfl
       have hs := hs.pull 5 rfl
       have hs := hs.pull 5 rfl
       have hs := hs.pull 4 rfl
       have hs := hs.pull 5 rfl
       have hs : St _ [_,_,_,_,_,_] _ := St.take (Γ' := []) hs
       exact ih4_ _ _ ⟨x883, x884, x886.set 3 (i64w ((x886.get 3 0) + 1)), Hx4_, rfl, hs⟩
      intro ha5_
      have hs := hs.pull 5 rfl
      have hs := hs.pull 1 rfl
      have hs := hs.pull 5 rfl
      have hs := hs.pull 5 rfl
      have hs := hs.pull 5 rfl
      have hs := hs.pull 5 rfl
      have hs : St _ [_,_,_,_,_,_] _ := St.take (Γ' := []) hs
      refine g_loop_fuel (I := fun n_ t w => ∃ x859 : Int, ∃ x860 : (List Int), ∃ x861 : (Ar Int 8), rounds (fun s => _spec_l03Finder_first.b8 N self a6 a1 a7 s.1 s.2.1 s.2.2) n_ (x859, x860, x861) = some o5_ ∧ Fr t (fun O => (Value.pointer (some ⟨b2, 0, none⟩)::O 1::Value.int .i64 a7::O 3::Value.pointer (some ⟨b8, 0, none⟩)::O 5::Value.pointer (some ⟨b10, 0, none⟩)::O 7::Value.int .i64 (i64w ((i64w ((i64w (a1.f_all - a6.f_open)) - a6.f_heavy)) - a6.f_light))::Value.pointer (some ⟨b12, 0, none⟩)::O 10::O 11::O 12::O 13::O 14::O 15::O 16::O 17::O 18::O 19::O 20::O 21::O 22::O 23::O 24::O 25::O 26::O 27::O 28::O 29::O 30::O 31::O 32::O 33::O 34::O 35::O 36::O 37::O 38::O 39::O 40::O 41::O 42::O 43::O 44::O 45::O 46::O 47::O 48::O 49::O 50::O 51::O 52::O 53::O 54::O 55::O 56::O 57::O 58::O 59::O 60::O 61::O 62::O 63::O 64::O 65::O 66::O 67::O 68::O 69::O 70::O 71::O 72::O 73::O 74::O 75::O 76::O 77::O 78::O 79::O 80::O 81::O 82::O 83::O 84::O 85::O 86::O 87::O 88::O 89::O 90::O 91::O 92::O 93::O 94::O 95::O 96::O 97::O 98::O 99::O 100::O 101::O 102::O 103::O 104::O 105::O 106::O 107::O 108::O 109::O 110::O 111::O 112::O 113::O 114::O 115::O 116::O 117::O 118::O 119::O 120::O 121::O 122::O 123::O 124::O 125::O 126::O 127::O 128::O 129::O 130::O 131::O 132::O 133::O 134::O 135::O 136::O 137::O 138::[] : List Value)) ∧ St wb [Row 22 (K.int .i8) v3 x860, Cells b2 (([Value.int .i64 x859, v3] : List Value)) 99, Cells b8 (enc_S_spec_l03Known a6) 62, Cells b10 ((encA (encI .i64)) (Ar.rep 8 0)) 103, Cells b12 ((encA (encI .i64)) x861) 103, Z] w) N ⟨x835, x836, x837.set 4 0, Ho, rfl, hs⟩ ?_ ?_
      ·
       rintro _ _ ⟨x859, x860, x861, h, _⟩
       exact rounds_zero h
      intro n_ ih5_
      rintro t w ⟨x859, x860, x861, Ho, hf, hs⟩
      obtain ⟨O, rfl⟩ := hf.open
      try dsimp only
      obtain ⟨x1282_, H, Hx5_⟩ := rounds_succ Ho
      have H : _spec_l03Finder_first.b8 N self a6 a1 a7 x859 x860 x861 = some x1282_ := H
      unfold _spec_l03Finder_first.b8 at H
      refine g_seq (g_seq (g_rg [0, 1, 2, 3, 4] rfl ?_))
      obtain ⟨g1245, H⟩ := ite_get H
      refine s_idxA (n := 4) (m := 1) rfl (fun _ => rfl) g1245.1 g1245.2 rfl rfl rfl rfl rfl (g_d rfl ?_)
      try dsimp only [set0,setS]
      refine s_load1 rfl rfl (v := Value.int .i64 (x861.get 4 0)) rfl rfl (fun _ => rfl) (by rw [Nat.zero_add]; exact cells_load (hs.cells 4 rfl) _ _ (encA_at (fkI .i64).len _ _ 0 g1245.1 g1245.2)) (g_d rfl ?_)
      refine g_op (v := Value.pointer (some ⟨b8, 2, none⟩)) rfl rfl rfl (g_d rfl ?_)
      refine s_load1 rfl rfl (v := Value.int .i64 a6.f_light) rfl rfl (fun _ => rfl) (cells_load (hs.cells 2 rfl) 2 1 rfl) (g_d rfl ?_)
      try dsimp only [set0,setS]
      refine g_op_b (B := decide ((x861.get 4 0) ≤ a6.f_light)) rfl rfl rfl ?_ ?_
      ·
       intro hb
       rw [if_pos (b_dec_t hb)] at H
       refine g_d rfl ?_
       try dsimp only [set0,setS]
       refine g_ops_nil (g_cond_true rfl (g_skip (g_seq ?_)))
       refine g_block (g_seq (g_rg [0, 1] rfl ?_))
       obtain ⟨g1246, H⟩ := ite_get H
       refine s_idxA (n := 5) (m := 1) rfl (fun _ => rfl) g1246.1 g1246.2 rfl rfl rfl rfl rfl (g_d rfl ?_)
       have hs := hs.pull 4 rfl
       have hs : St _ [_,_,_,_,_,_] _ := hs
       refine s_storeA (y := 0) (fkI .i64).len (fkI .i64).one g1246.1 g1246.2 hs rfl rfl rfl rfl rfl (fun _ => rfl) ?_
       intro w hs
       refine g_n rfl (g_ops_nil ?_)
       obtain ⟨o6_, Ho, Hr6_⟩ := bind_get H
       refine g_block_join (J := fun t w => ∃ x879 : Int, ∃ x880 : (List Int), ∃ x882 : (Ar Int 8), _spec_l03Finder_first.a10 N self x879 x880 x882 = some x1282_ ∧ Fr t (fun O => (Value.pointer (some ⟨b2, 0, none⟩)::O 1::Value.int .i64 a7::O 3::Value.pointer (some ⟨b8, 0, none⟩)::O 5::Value.pointer (some ⟨b10, 0, none⟩)::O 7::Value.int .i64 (i64w ((i64w ((i64w (a1.f_all - a6.f_open)) - a6.f_heavy)) - a6.f_light))::Value.pointer (some ⟨b12, 0, none⟩)::O 10::O 11::O 12::O 13::O 14::O 15::O 16::O 17::O 18::O 19::O 20::O 21::O 22::O 23::O 24::O 25::O 26::O 27::O 28::O 29::O 30::O 31::O 32::O 33::O 34::O 35::O 36::O 37::O 38::O 39::O 40::O 41::O 42::O 43::O 44::O 45::O 46::O 47::O 48::O 49::O 50::O 51::O 52::O 53::O 54::O 55::O 56::O 57::O 58::O 59::O 60::O 61::O 62::O 63::O 64::O 65::O 66::O 67::O 68::O 69::O 70::O 71::O 72::O 73::O 74::O 75::O 76::O 77::O 78::O 79::O 80::O 81::O 82::O 83::O 84::O 85::O 86::O 87::O 88::O 89::O 90::O 91::O 92::O 93::O 94::O 95::O 96::O 97::O 98::O 99::O 100::O 101::O 102::O 103::O 104::O 105::O 106::O 107::O 108::O 109::O 110::O 111::O 112::O 113::O 114::O 115::O 116::O 117::O 118::O 119::O 120::O 121::O 122::O 123::O 124::O 125::O 126::O 127::O 128::O 129::O 130::O 131::O 132::O 133::O 134::O 135::O 136::O 137::O 138::[] : List Value)) ∧ St wb [Cells b2 (([Value.int .i64 x879, v3] : List Value)) 99, Row 22 (K.int .i8) v3 x880, Cells b8 (enc_S_spec_l03Known a6) 62, Cells b10 ((encA (encI .i64)) (Ar.rep 8 0)) 103, Cells b12 ((encA (encI .i64)) x882) 103, Z] w) ?_ ?_
       ·
        rintro t w ⟨x879, x880, x882, H, hf, hs⟩
        obtain ⟨O, rfl⟩ := hf.open
        try dsimp only
        unfold _spec_l03Finder_first.a10 at H
        refine g_inBlock (g_rg [0, 1, 2, 3, 4] rfl ?_)
        obtain ⟨g1277, H⟩ := ite_get H
        refine s_idxA (n := 4) (m := 1) rfl (fun _ => rfl) g1277.1 g1277.2 rfl rfl rfl rfl rfl (g_d rfl ?_)
        try dsimp only [set0,setS]
        refine s_load1 rfl rfl (v := Value.int .i64 (x882.get 4 0)) rfl rfl (fun _ => rfl) (by rw [Nat.zero_add]; exact cells_load (hs.cells 4 rfl) _ _ (encA_at (fkI .i64).len _ _ 0 g1277.1 g1277.2)) (g_d rfl ?_)
        refine g_op (v := Value.int .i64 (i64w ((x882.get 4 0) + 1))) rfl rfl rfl (g_d rfl ?_)
        try dsimp only [set0,setS]
        obtain ⟨g1278, H⟩ := ite_get H
        refine s_idxA (n := 4) (m := 1) rfl (fun _ => rfl) g1278.1 g1278.2 rfl rfl rfl rfl rfl (g_d rfl ?_)
        have hs := hs.pull 4 rfl
        have hs : St _ [_,_,_,_,_,_] _ := hs
        refine s_storeA (y := i64w ((x882.get 4 0) + 1)) (fkI .i64).len (fkI .i64).one g1278.1 g1278.2 hs rfl rfl rfl rfl rfl (fun _ => rfl) ?_
        intro w hs
        refine g_n rfl (g_ops_nil ?_)
        obtain rfl := Option.some.inj H
        have hs := hs.pull 5 rfl
        have hs := hs.pull 1 rfl
        have hs := hs.pull 5 rfl
        have hs := hs.pull 5 rfl
        have hs := hs.pull 4 rfl
        have hs := hs.pull 5 rfl
        have hs : St _ [_,_,_,_,_,_] _ := St.take (Γ' := []) hs
        exact ih5_ _ _ ⟨x879, x880, x882.set 4 (i64w ((x882.get 4 0) + 1)), Hx5_, rfl, hs⟩
       intro ha6_
       have hs := hs.pull 5 rfl
       have hs := hs.pull 1 rfl
       have hs := hs.pull 5 rfl
       have hs := hs.pull 5 rfl
       have hs := hs.pull 5 rfl
       have hs := hs.pull 5 rfl
       have hs : St _ [_,_,_,_,_,_] _ := St.take (Γ' := []) hs
       refine g_loop_fuel (I := fun n_ t w => ∃ x869 : Int, ∃ x870 : (List Int), ∃ x871 : (Ar Int 8), rounds (fun s => _spec_l03Finder_first.b10 N self a6 a1 a7 s.1 s.2.1 s.2.2) n_ (x869, x870, x871) = some o6_ ∧ Fr t (fun O => (Value.pointer (some ⟨b2, 0, none⟩)::O 1::Value.int .i64 a7::O 3::Value.pointer (some ⟨b8, 0, none⟩)::O 5::Value.pointer (some ⟨b10, 0, none⟩)::O 7::Value.int .i64 (i64w ((i64w ((i64w (a1.f_all - a6.f_open)) - a6.f_heavy)) - a6.f_light))::Value.pointer (some ⟨b12, 0, none⟩)::O 10::O 11::O 12::O 13::O 14::O 15::O 16::O 17::O 18::O 19::O 20::O 21::O 22::O 23::O 24::O 25::O 26::O 27::O 28::O 29::O 30::O 31::O 32::O 33::O 34::O 35::O 36::O 37::O 38::O 39::O 40::O 41::O 42::O 43::O 44::O 45::O 46::O 47::O 48::O 49::O 50::O 51::O 52::O 53::O 54::O 55::O 56::O 57::O 58::O 59::O 60::O 61::O 62::O 63::O 64::O 65::O 66::O 67::O 68::O 69::O 70::O 71::O 72::O 73::O 74::O 75::O 76::O 77::O 78::O 79::O 80::O 81::O 82::O 83::O 84::O 85::O 86::O 87::O 88::O 89::O 90::O 91::O 92::O 93::O 94::O 95::O 96::O 97::O 98::O 99::O 100::O 101::O 102::O 103::O 104::O 105::O 106::O 107::O 108::O 109::O 110::O 111::O 112::O 113::O 114::O 115::O 116::O 117::O 118::O 119::O 120::O 121::O 122::O 123::O 124::O 125::O 126::O 127::O 128::O 129::O 130::O 131::O 132::O 133::O 134::O 135::O 136::O 137::O 138::[] : List Value)) ∧ St wb [Row 22 (K.int .i8) v3 x870, Cells b2 (([Value.int .i64 x869, v3] : List Value)) 99, Cells b8 (enc_S_spec_l03Known a6) 62, Cells b10 ((encA (encI .i64)) (Ar.rep 8 0)) 103, Cells b12 ((encA (encI .i64)) x871) 103, Z] w) N ⟨x859, x860, x861.set 5 0, Ho, rfl, hs⟩ ?_ ?_
       ·
        rintro _ _ ⟨x869, x870, x871, h, _⟩
        exact rounds_zero h
       intro n_ ih6_
       rintro t w ⟨x869, x870, x871, Ho, hf, hs⟩
       obtain ⟨O, rfl⟩ := hf.open
       try dsimp only
       obtain ⟨x1279_, H, Hx6_⟩ := rounds_succ Ho
       have H : _spec_l03Finder_first.b10 N self a6 a1 a7 x869 x870 x871 = some x1279_ := H
       unfold _spec_l03Finder_first.b10 at H
       refine g_seq (g_seq (g_rg [0, 1, 2, 3, 4, 5, 6, 7] rfl ?_))
       obtain ⟨g1262, H⟩ := ite_get H
       refine s_idxA (n := 4) (m := 1) rfl (fun _ => rfl) g1262.1 g1262.2 rfl rfl rfl rfl rfl (g_d rfl ?_)
       try dsimp only [set0,setS]
       refine s_load1 rfl rfl (v := Value.int .i64 (x871.get 4 0)) rfl rfl (fun _ => rfl) (by rw [Nat.zero_add]; exact cells_load (hs.cells 4 rfl) _ _ (encA_at (fkI .i64).len _ _ 0 g1262.1 g1262.2)) (g_d rfl ?_)
       obtain ⟨g1263, H⟩ := ite_get H
       refine s_idxA (n := 5) (m := 1) rfl (fun _ => rfl) g1263.1 g1263.2 rfl rfl rfl rfl rfl (g_d rfl ?_)
       try dsimp only [set0,setS]
       refine s_load1 rfl rfl (v := Value.int .i64 (x871.get 5 0)) rfl rfl (fun _ => rfl) (by rw [Nat.zero_add]; exact cells_load (hs.cells 4 rfl) _ _ (encA_at (fkI .i64).len _ _ 0 g1263.1 g1263.2)) (g_d rfl ?_)
       refine g_op (v := Value.int .i64 (i64w ((x871.get 4 0) + (x871.get 5 0)))) rfl rfl rfl (g_d rfl ?_)
       try dsimp only [set0,setS]
       refine g_op (v := Value.pointer (some ⟨b8, 2, none⟩)) rfl rfl rfl (g_d rfl ?_)
       refine s_load1 rfl rfl (v := Value.int .i64 a6.f_light) rfl rfl (fun _ => rfl) (cells_load (hs.cells 2 rfl) 2 1 rfl) (g_d rfl ?_)
       refine g_op_b (B := decide ((i64w ((x871.get 4 0) + (x871.get 5 0))) ≤ a6.f_light)) rfl rfl rfl ?_ ?_
       ·
        intro hb
        rw [if_pos (b_dec_t hb)] at H
        refine g_d rfl (g_ops_nil (g_cond_true rfl (g_skip (g_seq ?_))))
        refine g_block_join (J := (fun t w => ∃ x875 : Int, ∃ x876 : (List Int), ∃ x878 : (Ar Int 8), _spec_l03Finder_first.j12 N self x875 x876 x878 = some x1279_ ∧ Fr t (fun O => (Value.pointer (some ⟨b2, 0, none⟩)::O 1::Value.int .i64 a7::O 3::Value.pointer (some ⟨b8, 0, none⟩)::O 5::Value.pointer (some ⟨b10, 0, none⟩)::O 7::Value.int .i64 (i64w ((i64w ((i64w (a1.f_all - a6.f_open)) - a6.f_heavy)) - a6.f_light))::Value.pointer (some ⟨b12, 0, none⟩)::O 10::O 11::O 12::O 13::O 14::O 15::O 16::O 17::O 18::O 19::O 20::O 21::O 22::O 23::O 24::O 25::O 26::O 27::O 28::O 29::O 30::O 31::O 32::O 33::O 34::O 35::O 36::O 37::O 38::O 39::O 40::O 41::O 42::O 43::O 44::O 45::O 46::O 47::O 48::O 49::O 50::O 51::O 52::O 53::O 54::O 55::O 56::O 57::O 58::O 59::O 60::O 61::O 62::O 63::O 64::O 65::O 66::O 67::O 68::O 69::O 70::O 71::O 72::O 73::O 74::O 75::O 76::O 77::O 78::O 79::O 80::O 81::O 82::O 83::O 84::O 85::O 86::O 87::O 88::O 89::O 90::O 91::O 92::O 93::O 94::O 95::O 96::O 97::O 98::O 99::O 100::O 101::O 102::O 103::O 104::O 105::O 106::O 107::O 108::O 109::O 110::O 111::O 112::O 113::O 114::O 115::O 116::O 117::O 118::O 119::O 120::O 121::O 122::O 123::O 124::O 125::O 126::O 127::O 128::O 129::O 130::O 131::O 132::O 133::O 134::O 135::O 136::O 137::O 138::[] : List Value)) ∧ St wb [Cells b2 (([Value.int .i64 x875, v3] : List Value)) 99, Row 22 (K.int .i8) v3 x876, Cells b8 (enc_S_spec_l03Known a6) 62, Cells b10 ((encA (encI .i64)) (Ar.rep 8 0)) 103, Cells b12 ((encA (encI .i64)) x878) 103, Z] w)) ?_ ?_
        ·
         rintro t w ⟨x875, x876, x878, H, hf, hs⟩
         obtain ⟨O, rfl⟩ := hf.open
         try dsimp only
         unfold _spec_l03Finder_first.j12 at H
         refine g_rg [0, 1, 2, 3, 4] rfl ?_
         obtain ⟨g1275, H⟩ := ite_get H
         refine s_idxA (n := 5) (m := 1) rfl (fun _ => rfl) g1275.1 g1275.2 rfl rfl rfl rfl rfl (g_d rfl ?_)
         refine s_load1 rfl rfl (v := Value.int .i64 (x878.get 5 0)) rfl rfl (fun _ => rfl) (by rw [Nat.zero_add]; exact cells_load (hs.cells 4 rfl) _ _ (encA_at (fkI .i64).len _ _ 0 g1275.1 g1275.2)) (g_d rfl ?_)
         try dsimp only [set0,setS]
         refine g_op (v := Value.int .i64 (i64w ((x878.get 5 0) + 1))) rfl rfl rfl (g_d rfl ?_)
         obtain ⟨g1276, H⟩ := ite_get H
         refine s_idxA (n := 5) (m := 1) rfl (fun _ => rfl) g1276.1 g1276.2 rfl rfl rfl rfl rfl (g_d rfl ?_)
         try dsimp only [set0,setS]
         have hs := hs.pull 4 rfl
         have hs : St _ [_,_,_,_,_,_] _ := hs
         refine s_storeA (y := i64w ((x878.get 5 0) + 1)) (fkI .i64).len (fkI .i64).one g1276.1 g1276.2 hs rfl rfl rfl rfl rfl (fun _ => rfl) ?_
         intro w hs
         refine g_n rfl (g_ops_nil ?_)
         obtain rfl := Option.some.inj H
         have hs := hs.pull 5 rfl
         have hs := hs.pull 1 rfl
         have hs := hs.pull 5 rfl
         have hs := hs.pull 5 rfl
         have hs := hs.pull 4 rfl
         have hs := hs.pull 5 rfl
         have hs : St _ [_,_,_,_,_,_] _ := St.take (Γ' := []) hs
         exact ih6_ _ _ ⟨x875, x876, x878.set 5 (i64w ((x878.get 5 0) + 1)), Hx6_, rfl, hs⟩
        intro ha
        refine g_seq (g_rg [0, 1, 2, 3, 4, 5, 6, 7, 8, 9, 10, 11, 12, 13, 14, 15, 16, 17] rfl ?_)
        obtain ⟨g1264, H⟩ := ite_get H
        refine s_idxA (n := 0) (m := 1) rfl (fun _ => rfl) g1264.1 g1264.2 rfl rfl rfl rfl rfl (g_d rfl ?_)
        try dsimp only [set0,setS]
        refine s_load1 rfl rfl (v := Value.int .i64 (x871.get 0 0)) rfl rfl (fun _ => rfl) (by rw [Nat.zero_add]; exact cells_load (hs.cells 4 rfl) _ _ (encA_at (fkI .i64).len _ _ 0 g1264.1 g1264.2)) (g_d rfl ?_)
        obtain ⟨g1265, H⟩ := ite_get H
        refine s_idxA (n := 2) (m := 1) rfl (fun _ => rfl) g1265.1 g1265.2 rfl rfl rfl rfl rfl (g_d rfl ?_)
        try dsimp only [set0,setS]
        refine s_load1 rfl rfl (v := Value.int .i64 (x871.get 2 0)) rfl rfl (fun _ => rfl) (by rw [Nat.zero_add]; exact cells_load (hs.cells 4 rfl) _ _ (encA_at (fkI .i64).len _ _ 0 g1265.1 g1265.2)) (g_d rfl ?_)
        refine g_op (v := Value.int .i64 (i64w ((x871.get 0 0) + (x871.get 2 0)))) rfl rfl rfl (g_d rfl ?_)
        try dsimp only [set0,setS]
        obtain ⟨g1266, H⟩ := ite_get H
        refine s_idxA (n := 4) (m := 1) rfl (fun _ => rfl) g1266.1 g1266.2 rfl rfl rfl rfl rfl (g_d rfl ?_)
        refine s_load1 rfl rfl (v := Value.int .i64 (x871.get 4 0)) rfl rfl (fun _ => rfl) (by rw [Nat.zero_add]; exact cells_load (hs.cells 4 rfl) _ _ (encA_at (fkI .i64).len _ _ 0 g1266.1 g1266.2)) (g_d rfl ?_)
        try dsimp only [set0,setS]
        refine g_op (v := Value.int .i64 (i64w ((i64w ((x871.get 0 0) + (x871.get 2 0))) + (x871.get 4 0)))) rfl rfl rfl (g_d rfl ?_)
        obtain ⟨g1267, H⟩ := ite_get H
        refine s_idxA (n := 1) (m := 1) rfl (fun _ => rfl) g1267.1 g1267.2 rfl rfl rfl rfl rfl (g_d rfl ?_)
        try dsimp only [set0,setS]
        refine s_load1 rfl rfl (v := Value.int .i64 (x871.get 1 0)) rfl rfl (fun _ => rfl) (by rw [Nat.zero_add]; exact cells_load (hs.cells 4 rfl) _ _ (encA_at (fkI .i64).len _ _ 0 g1267.1 g1267.2)) (g_d rfl ?_)
        refine g_op (v := Value.int .i64 (i64w ((i64w ((i64w ((x871.get 0 0) + (x871.get 2 0))) + (x871.get 4 0))) - (x871.get 1 0)))) rfl rfl rfl (g_d rfl ?_)
        try dsimp only [set0,setS]
        obtain ⟨g1268, H⟩ := ite_get H
        refine s_idxA (n := 3) (m := 1) rfl (fun _ => rfl) g1268.1 g1268.2 rfl rfl rfl rfl rfl (g_d rfl ?_)
        refine s_load1 rfl rfl (v := Value.int .i64 (x871.get 3 0)) rfl rfl (fun _ => rfl) (by rw [Nat.zero_add]; exact cells_load (hs.cells 4 rfl) _ _ (encA_at (fkI .i64).len _ _ 0 g1268.1 g1268.2)) (g_d rfl ?_)
        try dsimp only [set0,setS]
        refine g_op (v := Value.int .i64 (i64w ((i64w ((i64w ((i64w ((x871.get 0 0) + (x871.get 2 0))) + (x871.get 4 0))) - (x871.get 1 0))) - (x871.get 3 0)))) rfl rfl rfl (g_d rfl ?_)
        obtain ⟨g1269, H⟩ := ite_get H
        refine s_idxA (n := 5) (m := 1) rfl (fun _ => rfl) g1269.1 g1269.2 rfl rfl rfl rfl rfl (g_d rfl ?_)
        try dsimp only [set0,setS]
        refine s_load1 rfl rfl (v := Value.int .i64 (x871.get 5 0)) rfl rfl (fun _ => rfl) (by rw [Nat.zero_add]; exact cells_load (hs.cells 4 rfl) _ _ (encA_at (fkI .i64).len _ _ 0 g1269.1 g1269.2)) (g_d rfl ?_)
        refine g_op (v := Value.int .i64 (i64w ((i64w ((i64w ((i64w ((i64w ((x871.get 0 0) + (x871.get 2 0))) + (x871.get 4 0))) - (x871.get 1 0))) - (x871.get 3 0))) - (x871.get 5 0)))) rfl rfl rfl (g_d rfl ?_)
        try dsimp only [set0,setS]
        refine g_op (v := Value.int .i64 (i64w ((i64w ((i64w ((i64w ((i64w ((x871.get 0 0) + (x871.get 2 0))) + (x871.get 4 0))) - (x871.get 1 0))) - (x871.get 3 0))) - (x871.get 5 0)))) rfl rfl rfl (g_d rfl (g_ops_nil (g_seq (g_rg [0, 1, 2, 3, 4] rfl ?_))))
        refine g_op (v := Value.int .i64 (i64w ((i64w ((i64w ((i64w ((i64w ((x871.get 0 0) + (x871.get 2 0))) + (x871.get 4 0))) - (x871.get 1 0))) - (x871.get 3 0))) - (x871.get 5 0)))) rfl rfl rfl (g_d rfl ?_)
        refine g_op (v := Value.int .i64 (i64w (0 - (i64w ((i64w ((i64w ((i64w ((i64w ((x871.get 0 0) + (x871.get 2 0))) + (x871.get 4 0))) - (x871.get 1 0))) - (x871.get 3 0))) - (x871.get 5 0)))))) rfl rfl rfl (g_d rfl ?_)
        try dsimp only [set0,setS]
        obtain ⟨r872, Hr872, H⟩ := bind_get H
        refine s_call (args := [Value.int .i64 0, Value.int .i64 (i64w (0 - (i64w ((i64w ((i64w ((i64w ((i64w ((x871.get 0 0) + (x871.get 2 0))) + (x871.get 4 0))) - (x871.get 1 0))) - (x871.get 3 0))) - (x871.get 5 0)))))]) rfl rfl (x_call rfl (callFunc_enter Try.func75 rfl rfl) rfl) (spec_l00Max.calls (a1 := 0) (a2 := i64w (0 - (i64w ((i64w ((i64w ((i64w ((i64w ((x871.get 0 0) + (x871.get 2 0))) + (x871.get 4 0))) - (x871.get 1 0))) - (x871.get 3 0))) - (x871.get 5 0))))) Hr872) ?_
        rintro _ w ⟨rfl, hs2⟩
        have hs : St _ [_,_,_,_,_,_] _ := hs.call hs2
        refine g_d rfl ?_
        obtain ⟨g1270, H⟩ := ite_get H
        refine s_idxA (n := 6) (m := 1) rfl (fun _ => rfl) g1270.1 g1270.2 rfl rfl rfl rfl rfl (g_d rfl ?_)
        try dsimp only [set0,setS]
        have hs := hs.pull 4 rfl
        have hs : St _ [_,_,_,_,_,_] _ := hs
        refine s_storeA (y := r872) (fkI .i64).len (fkI .i64).one g1270.1 g1270.2 hs rfl rfl rfl rfl rfl (fun _ => rfl) ?_
        intro w hs
        refine g_n rfl (g_ops_nil (g_seq (g_rg [0, 1, 2, 3] rfl ?_)))
        refine g_op (v := Value.int .i64 (i64w ((i64w ((i64w ((i64w ((i64w ((x871.get 0 0) + (x871.get 2 0))) + (x871.get 4 0))) - (x871.get 1 0))) - (x871.get 3 0))) - (x871.get 5 0)))) rfl rfl rfl (g_d rfl ?_)
        obtain ⟨r873, Hr873, H⟩ := bind_get H
        refine s_call (args := [Value.int .i64 0, Value.int .i64 (i64w ((i64w ((i64w ((i64w ((i64w ((x871.get 0 0) + (x871.get 2 0))) + (x871.get 4 0))) - (x871.get 1 0))) - (x871.get 3 0))) - (x871.get 5 0)))]) rfl rfl (x_call rfl (callFunc_enter Try.func75 rfl rfl) rfl) (spec_l00Max.calls (a1 := 0) (a2 := i64w ((i64w ((i64w ((i64w ((i64w ((x871.get 0 0) + (x871.get 2 0))) + (x871.get 4 0))) - (x871.get 1 0))) - (x871.get 3 0))) - (x871.get 5 0))) Hr873) ?_
        rintro _ w ⟨rfl, hs2⟩
        have hs : St _ [_,_,_,_,_,_] _ := hs.call hs2
        refine g_d rfl ?_
        obtain ⟨g1271, H⟩ := ite_get H
        refine s_idxA (n := 7) (m := 1) rfl (fun _ => rfl) g1271.1 g1271.2 rfl rfl rfl rfl rfl (g_d rfl ?_)
        try dsimp only [set0,setS]
        refine s_storeA (y := r873) (fkI .i64).len (fkI .i64).one g1271.1 g1271.2 hs rfl rfl rfl rfl rfl (fun _ => rfl) ?_
        intro w hs
        refine g_n rfl (g_ops_nil (g_seq (g_seq (g_rg [0, 1, 2, 3, 4, 5, 6, 7, 8, 9, 10, 11, 12, 13, 14] rfl ?_))))
        obtain ⟨g1272, H⟩ := ite_get H
        refine s_idxA (n := 6) (m := 1) rfl (fun _ => rfl) g1272.1 g1272.2 rfl rfl rfl rfl rfl (g_d rfl ?_)
        refine s_load1 rfl rfl (v := Value.int .i64 (((x871.set 6 r872).set 7 r873).get 6 0)) rfl rfl (fun _ => rfl) (by rw [Nat.zero_add]; exact cells_load (hs.cells 0 rfl) _ _ (encA_at (fkI .i64).len _ _ 0 g1272.1 g1272.2)) (g_d rfl ?_)
        try dsimp only [set0,setS]
        refine g_op (v := Value.int .i64 (i64w ((i64w ((i64w (a1.f_all - a6.f_open)) - a6.f_heavy)) - a6.f_light))) rfl rfl rfl (g_d rfl ?_)
        refine g_op_b (B := decide ((((x871.set 6 r872).set 7 r873).get 6 0) > (i64w ((i64w ((i64w (a1.f_all - a6.f_open)) - a6.f_heavy)) - a6.f_light)))) rfl rfl rfl ?_ ?_
        ·
         intro hb
         rw [if_pos (b_dec_t hb)] at H
         refine g_d rfl ?_
         try dsimp only [set0,setS]
         refine g_op (v := Value.bool true) rfl rfl rfl (g_d rfl (g_op_not rfl rfl (g_d rfl (g_op_not rfl rfl (g_d rfl ?_)))))
         try dsimp only [set0,setS]
         refine g_op_not rfl rfl (g_d rfl (g_op_not rfl rfl (g_d rfl ?_)))
         refine g_op (v := Value.bool true) rfl rfl rfl (g_d rfl ?_)
         try dsimp only [set0,setS]
         refine g_op (v := Value.bool true) rfl rfl rfl (g_d rfl (g_op_not rfl rfl (g_d rfl (g_op_not rfl rfl (g_d rfl ?_)))))
         try dsimp only [set0,setS]
         refine g_op_not rfl rfl (g_d rfl ?_)
         refine g_op (v := Value.bool true) rfl rfl rfl (g_d rfl ?_)
         try dsimp only [set0,setS]
         refine g_ops_nil (g_cond_true rfl ?_)
         refine g_exit rfl ?_
         have hs := hs.pull 5 rfl
         have hs := hs.pull 1 rfl
         have hs := hs.pull 5 rfl
         have hs := hs.pull 5 rfl
         have hs := hs.pull 4 rfl
         have hs := hs.pull 5 rfl
         have hs : St _ [_,_,_,_,_,_] _ := St.take (Γ' := []) hs
         exact ha _ _ ⟨x869, x870, (x871.set 6 r872).set 7 r873, H, rfl, hs⟩
        intro hb
        rw [if_neg (b_dec_f hb)] at H
        refine g_d rfl ?_
        refine g_op (v := Value.bool false) rfl rfl rfl (g_d rfl ?_)
        obtain ⟨g1273, H⟩ := ite_get H
        refine s_idxA (n := 7) (m := 1) rfl (fun _ => rfl) g1273.1 g1273.2 rfl rfl rfl rfl rfl (g_d rfl ?_)
        try dsimp only [set0,setS]
        refine s_load1 rfl rfl (v := Value.int .i64 (((x871.set 6 r872).set 7 r873).get 7 0)) rfl rfl (fun _ => rfl) (by rw [Nat.zero_add]; exact cells_load (hs.cells 0 rfl) _ _ (encA_at (fkI .i64).len _ _ 0 g1273.1 g1273.2)) (g_d rfl ?_)
        refine g_op (v := Value.int .i64 (i64w ((i64w ((i64w (a1.f_all - a6.f_open)) - a6.f_heavy)) - a6.f_light))) rfl rfl rfl (g_d rfl ?_)
        refine g_op (v := Value.bool (decide ((((x871.set 6 r872).set 7 r873).get 7 0) > (i64w ((i64w ((i64w (a1.f_all - a6.f_open)) - a6.f_heavy)) - a6.f_light))))) rfl rfl rfl (g_d rfl ?_)
        try dsimp only [set0,setS]
        refine g_op_b (B := decide ((((x871.set 6 r872).set 7 r873).get 7 0) > (i64w ((i64w ((i64w (a1.f_all - a6.f_open)) - a6.f_heavy)) - a6.f_light)))) rfl rfl rfl ?_ ?_
        ·
         intro hb
         rw [if_pos (b_dec_t hb)] at H
         refine g_d rfl ?_
         refine g_op (v := Value.bool true) rfl rfl rfl (g_d rfl (g_op_not rfl rfl (g_d rfl ?_)))
         try dsimp only [set0,setS]
         refine g_op_not rfl rfl (g_d rfl (g_op_not rfl rfl (g_d rfl ?_)))
         try dsimp only [set0,setS]
         refine g_op (v := Value.bool true) rfl rfl rfl (g_d rfl (g_ops_nil (g_cond_true rfl ?_)))
         refine g_exit rfl ?_
         have hs := hs.pull 5 rfl
         have hs := hs.pull 1 rfl
         have hs := hs.pull 5 rfl
         have hs := hs.pull 5 rfl
         have hs := hs.pull 4 rfl
         have hs := hs.pull 5 rfl
         have hs : St _ [_,_,_,_,_,_] _ := St.take (Γ' := []) hs
         exact ha _ _ ⟨x869, x870, (x871.set 6 r872).set 7 r873, H, rfl, hs⟩
        intro hb
        rw [if_neg (b_dec_f hb)] at H
        refine g_d rfl ?_
        refine g_op (v := Value.bool false) rfl rfl rfl (g_d rfl ?_)
        refine s_loadA rfl rfl (es := ((encA (encI .i64)) ((x871.set 6 r872).set 7 r873))) rfl rfl (fun _ => rfl) (n := 8) (fun _ => rfl) ((fkA (n := 8) (he := (fkI .i64).len) (h1 := (fkI .i64).one)).len _) (cells_all (hs.cells 0 rfl)) (g_d rfl ?_)
        try dsimp only [set0,setS]
        refine g_op (v := Value.agg ((encA (encI .i64)) (Ar.rep 8 0)).toArray) rfl rfl (x_build rfl rfl) (g_d rfl ?_)
        refine g_op_b (B := decide (((x871.set 6 r872).set 7 r873) = (Ar.rep 8 0))) rfl rfl (x_eql rfl rfl rfl eq_ar8_103_g (eq_ar8_103 _ _ _)) ?_ ?_
        ·
         intro hb
         rw [if_pos (b_dec_t hb)] at H
         refine g_d rfl ?_
         refine g_op (v := Value.bool true) rfl rfl rfl (g_d rfl ?_)
         try dsimp only [set0,setS]
         refine g_ops_nil (g_cond_true rfl ?_)
         refine g_exit rfl ?_
         have hs := hs.pull 5 rfl
         have hs := hs.pull 1 rfl
         have hs := hs.pull 5 rfl
         have hs := hs.pull 5 rfl
         have hs := hs.pull 4 rfl
         have hs := hs.pull 5 rfl
         have hs : St _ [_,_,_,_,_,_] _ := St.take (Γ' := []) hs
         exact ha _ _ ⟨x869, x870, (x871.set 6 r872).set 7 r873, H, rfl, hs⟩
        intro hb
        rw [if_neg (b_dec_f hb)] at H
        refine g_d rfl ?_
        try dsimp only [set0,setS]
        refine g_op (v := Value.bool false) rfl rfl rfl (g_d rfl (g_ops_nil (g_cond_false rfl (g_skip (g_seq (g_rg [0, 1, 2, 3] rfl ?_))))))
        refine g_op (v := Value.pointer (some ⟨b2, 0, none⟩)) rfl rfl rfl (g_d rfl ?_)
        refine s_loadA rfl rfl (es := (enc_S_spec_l03Known a6)) rfl rfl (fun _ => rfl) (n := 4) (fun _ => rfl) (fk_S_spec_l03Known.len _) (cells_all (hs.cells 3 rfl)) (g_d rfl ?_)
        try dsimp only [set0,setS]
        refine g_op (v := Value.int .i64 a7) rfl rfl rfl (g_d rfl ?_)
        obtain ⟨r874, Hr874, H⟩ := bind_get H
        have hs := hs.pull 0 rfl
        have hs := hs.pull 2 rfl
        have hs := hs.pull 2 rfl
        have hs : St _ [_,_,_,_,_,_] _ := hs
        have hs := hs.pack 3
        refine s_call (args := [Value.pointer (some ⟨b2, 0, none⟩), Value.agg (enc_S_spec_l03Known a6).toArray, Value.pointer (some ⟨b12, 0, none⟩), Value.int .i64 a7]) rfl rfl (x_call rfl (callFunc_enter Try.func76 rfl rfl) rfl) (_spec_l03Finder_works_at_own.calls ih (a1 := (⟨x869, x870⟩ : S_spec_l03Finder)) (a6 := a6) (a7 := (x871.set 6 r872).set 7 r873) (a10 := a7) hs Hr874) ?_
        rintro _ w ⟨rfl, hs⟩
        have hs := St.unpack (Γ := [_,_,_]) hs
        have hs : St _ [_,_,_,_,_,_] _ := hs
        generalize hb1274_ : r874.1 = b_ at H ⊢
        cases b_ with
        | true =>
          rw [if_pos rfl] at H
          refine g_d rfl ?_
          try dsimp only [set0,setS]
          refine g_ops_nil (g_cond_true rfl (g_seq (g_rg [0, 1, 2] rfl ?_)))
          refine s_loadA rfl rfl (es := ((encA (encI .i64)) r874.2.2.2)) rfl rfl (fun _ => rfl) (n := 8) (fun _ => rfl) ((fkA (n := 8) (he := (fkI .i64).len) (h1 := (fkI .i64).one)).len _) (cells_all (hs.cells 2 rfl)) (g_d rfl ?_)
          have hs := hs.pull 4 rfl
          have hs : St _ [_,_,_,_,_,_] _ := hs
          refine s_storeAll (n := 8) hs ((fkA (n := 8) (he := (fkI .i64).len) (h1 := (fkI .i64).one)).len _) rfl rfl (vs := ((encA (encI .i64)) r874.2.2.2)) rfl rfl rfl (fun _ => rfl) ((fkA (n := 8) (he := (fkI .i64).len) (h1 := (fkI .i64).one)).len _) ((fkA (n := 8) (he := (fkI .i64).len) (h1 := (fkI .i64).one)).one _) ?_
          intro w hs
          refine g_n rfl ?_
          refine g_op (v := Value.bool true) rfl rfl rfl (g_d rfl ?_)
          try dsimp only [set0,setS]
          refine g_ops_nil ?_
          obtain rfl := Option.some.inj H
          subst Hx6_
          have H := Option.some.inj Hr6_
          subst H
          subst Hx5_
          have H := Option.some.inj Hr5_
          subst H
          subst Hx4_
          have H := Option.some.inj Hr4_
          subst H
          subst Hx3_
          have H := Option.some.inj Hr3_
          subst H
          subst Hx2_
          have H := Option.some.inj Hr2_
          subst H
          subst Hx1_
          have H := Option.some.inj Hr1_
          subst H
          refine g_ret Try.func58 (v := Value.tuple #[Value.agg ((encA (encI .i64)) r874.2.2.2).toArray, Value.bool true]) (resN (l := Try.f58.results.toList) (vs := [Value.agg ((encA (encI .i64)) r874.2.2.2).toArray, Value.bool true]) rfl ⟨⟨_, rfl, (run_loadVar_agg (es := ((encA (encI .i64)) r874.2.2.2)) rfl (congrArg (Result.ok · _) ((fkA (n := 8) (he := (fkI .i64).len) (h1 := (fkI .i64).one)).len _).symm) (cells_all (hs.cells 0 rfl)))⟩, rfl, trivial⟩ (by simp)) ?_
          have hs := hs.pull 5 rfl
          have hs := hs.pull 3 rfl
          have hs := hs.pull 3 rfl
          have hs : St _ [_,_,_] _ := St.take (Γ' := [_,_,_]) hs
          exact ⟨_, rfl, rfl, hs⟩
        | false =>
          rw [if_neg Bool.false_ne_true] at H
          refine g_d rfl (g_ops_nil (g_cond_false rfl (g_skip ?_)))
          refine g_inBlock ?_
          have hs := hs.pull 5 rfl
          have hs := hs.pull 3 rfl
          have hs := hs.pull 5 rfl
          have hs := hs.pull 5 rfl
          have hs := hs.pull 4 rfl
          have hs := hs.pull 5 rfl
          have hs : St _ [_,_,_,_,_,_] _ := St.take (Γ' := []) hs
          exact ha _ _ ⟨r874.2.2.1.f_all, r874.2.1, r874.2.2.2, H, rfl, hs⟩
       intro hb
       rw [if_neg (b_dec_f hb)] at H
       refine g_d rfl ?_
       try dsimp only [set0,setS]
       refine g_ops_nil (g_cond_false rfl ?_)
       obtain rfl := Option.some.inj H
       subst Hx6_
       have hs := hs.pull 5 rfl
       have hs := hs.pull 5 rfl
       have hs := hs.pull 5 rfl
       have hs := hs.pull 5 rfl
       have hs := hs.pull 4 rfl
       have hs := hs.pull 5 rfl
       have hs : St _ [_,_,_,_,_,_] _ := St.take (Γ' := []) hs
       refine g_exit rfl ?_
       exact ha6_ _ _ ⟨x869, x870, x871, Hr6_, rfl, hs⟩
      intro hb
      rw [if_neg (b_dec_f hb)] at H
      refine g_d rfl (g_ops_nil (g_cond_false rfl ?_))
      obtain rfl := Option.some.inj H
      subst Hx5_
      have hs := hs.pull 5 rfl
      have hs := hs.pull 5 rfl
      have hs := hs.pull 5 rfl
      have hs := hs.pull 5 rfl
      have hs := hs.pull 4 rfl
      have hs := hs.pull 5 rfl
      have hs : St _ [_,_,_,_,_,_] _ := St.take (Γ' := []) hs
      refine g_exit rfl ?_
      exact ha5_ _ _ ⟨x859, x860, x861, Hr5_, rfl, hs⟩
     intro hb
     rw [if_neg (b_dec_f hb)] at H
     refine g_d rfl (g_ops_nil (g_cond_false rfl ?_))
     obtain rfl := Option.some.inj H
     subst Hx4_
     have hs := hs.pull 5 rfl
     have hs := hs.pull 5 rfl
     have hs := hs.pull 5 rfl
     have hs := hs.pull 5 rfl
     have hs := hs.pull 4 rfl
     have hs := hs.pull 5 rfl
     have hs : St _ [_,_,_,_,_,_] _ := St.take (Γ' := []) hs
     refine g_exit rfl ?_
     exact ha4_ _ _ ⟨x835, x836, x837, Hr4_, rfl, hs⟩
    intro hb
    rw [if_neg (b_dec_f hb)] at H
    refine g_d rfl ?_
    try dsimp only [set0,setS]
    refine g_ops_nil (g_cond_false rfl ?_)
    obtain rfl := Option.some.inj H
    subst Hx3_
    have hs := hs.pull 5 rfl
    have hs := hs.pull 5 rfl
    have hs := hs.pull 5 rfl
    have hs := hs.pull 5 rfl
    have hs := hs.pull 4 rfl
    have hs := hs.pull 5 rfl
    have hs : St _ [_,_,_,_,_,_] _ := St.take (Γ' := []) hs
    refine g_exit rfl ?_
    exact ha3_ _ _ ⟨x783, x784, x785, Hr3_, rfl, hs⟩
   intro hb
   rw [if_neg (b_dec_f hb)] at H
   refine g_d rfl ?_
   try dsimp only [set0,setS]
   refine g_ops_nil (g_cond_false rfl ?_)
   obtain rfl := Option.some.inj H
   subst Hx2_
   have hs := hs.pull 5 rfl
   have hs := hs.pull 5 rfl
   have hs := hs.pull 5 rfl
   have hs := hs.pull 5 rfl
   have hs := hs.pull 4 rfl
   have hs := hs.pull 5 rfl
   have hs : St _ [_,_,_,_,_,_] _ := St.take (Γ' := []) hs
   refine g_exit rfl ?_
   exact ha2_ _ _ ⟨x675, x676, x677, Hr2_, rfl, hs⟩
  intro hb
  rw [if_neg (b_dec_f hb)] at H
  refine g_d rfl (g_ops_nil (g_cond_false rfl ?_))
  obtain rfl := Option.some.inj H
  subst Hx1_
  have hs := hs.pull 5 rfl
  have hs := hs.pull 2 rfl
  have hs := hs.pull 2 rfl
  have hs := hs.pull 4 rfl
  have hs : St _ [_,_,_,_] _ := St.take (Γ' := [_,_]) hs
  refine g_exit rfl ?_
  exact ha1_ _ _ ⟨x456, x455, Hr1_, rfl, hs⟩

end Go.Proofs.YtgpdpedpmhonkaaX
