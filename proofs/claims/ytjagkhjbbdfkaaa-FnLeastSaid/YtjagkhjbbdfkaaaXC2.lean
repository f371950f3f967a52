/- Contracts, printed by gen.py. -/
import Derived.Test.YtjagkhjbbdfkaaaXT
import Derived.Test.YtjagkhjbbdfkaaaProg
import Derived.Test.YtjagkhjbbdfkaaaXRowR
import Derived.Test.YtjagkhjbbdfkaaaXSeg
import Derived.Test.YtjagkhjbbdfkaaaXKey
import Derived.Test.YtjagkhjbbdfkaaaXIter
import Derived.Test.YtjagkhjbbdfkaaaXRow2
import Derived.Test.YtjagkhjbbdfkaaaFBX
import Derived.Test.YtjagkhjbbdfkaaaXDel
import Derived.Test.YtjagkhjbbdfkaaaXShelf
import Derived.Test.YtjagkhjbbdfkaaaXC0
import Derived.Test.YtjagkhjbbdfkaaaXC1
namespace Go.Proofs.YtjagkhjbbdfkaaaX
open Go Go.RowKit Go.Proofs
set_option linter.unusedVariables false
set_option linter.unusedSimpArgs false
/- function 27 slices_pdqsortOrdered_int16 -/
def slices_pdqsortOrdered_int16.post (wb : World) (Z : As) (v2 : Value) (r : (List Int)) (v : Value) (w : World) : Prop := v = Value.tuple #[] ∧ St wb [Row 41 (K.int .i16) v2 r, Z] w
set_option maxHeartbeats 8000000 in
set_option maxRecDepth 100000 in
theorem slices_pdqsortOrdered_int16.calls {N : Nat} {a1 : (List Int)} {a4 : Int} {a5 : Int} {a6 : Int} {v2 : Value} {wb : World} {Z : As} {w0 : World} {r : (List Int)} (hs : St wb [Row 41 (K.int .i16) v2 a1, Z] w0) (H : slices_pdqsortOrdered_int16.f N a1 a4 a5 a6 = some r) :
    Calls Try.prog 27 #[v2, Value.int .i64 a4, Value.int .i64 a5, Value.int .i64 a6] w0 fun e w => ∃ v, e = .returned v ∧ slices_pdqsortOrdered_int16.post wb Z v2 r v w := by
  unfold slices_pdqsortOrdered_int16.f at H
  refine calls_of_g (n := 130) Try.func27 rfl rfl ?_
  show G _ _ _ _ (_::_::_::_::_::_::_::_::_::_::_::_::_::_::_::_::_::_::_::_::_::_::_::_::_::_::_::_::_::_::_::_::_::_::_::_::_::_::_::_::_::_::_::_::_::_::_::_::_::_::_::_::_::_::_::_::_::_::_::_::_::_::_::_::_::_::_::_::_::_::_::_::_::_::_::_::_::_::_::_::_::_::_::_::_::_::_::_::_::_::_::_::_::_::_::_::_::_::_::_::_::_::_::_::_::_::_::_::_::_::_::_::_::_::_::_::_::_::_::_::_::_::_::_::_::_::_::_::_::_::_::_::_::_::[]) _
  refine g_seq ?_
  refine g_region ?_
  show G _ _ _ (.inRegion _ [0] :: _) _ _
  refine g_op (v := Value.bool true) rfl rfl rfl ?_
  refine g_d rfl ?_
  try dsimp only [set0,setS]
  refine g_ops_nil ?_
  refine g_seq ?_
  refine g_region ?_
  show G _ _ _ (.inRegion _ [0] :: _) _ _
  refine g_op (v := Value.bool true) rfl rfl rfl ?_
  refine g_d rfl ?_
  try dsimp only [set0,setS]
  refine g_ops_nil ?_
  obtain ⟨o1_, Ho, Hr1_⟩ := bind_get H
  refine g_block_join (J := fun t w => slices_pdqsortOrdered_int16.a0 N = some r ∧ Fr t (fun O => (O 0::O 1::O 2::O 3::O 4::O 5::O 6::O 7::O 8::O 9::O 10::O 11::O 12::O 13::O 14::O 15::O 16::O 17::O 18::O 19::O 20::O 21::O 22::O 23::O 24::O 25::O 26::O 27::O 28::O 29::O 30::O 31::O 32::O 33::O 34::O 35::O 36::O 37::O 38::O 39::O 40::O 41::O 42::O 43::O 44::O 45::O 46::O 47::O 48::O 49::O 50::O 51::O 52::O 53::O 54::O 55::O 56::O 57::O 58::O 59::O 60::O 61::O 62::O 63::O 64::O 65::O 66::O 67::O 68::O 69::O 70::O 71::O 72::O 73::O 74::O 75::O 76::O 77::O 78::O 79::O 80::O 81::O 82::O 83::O 84::O 85::O 86::O 87::O 88::O 89::O 90::O 91::O 92::O 93::O 94::O 95::O 96::O 97::O 98::O 99::O 100::O 101::O 102::O 103::O 104::O 105::O 106::O 107::O 108::O 109::O 110::O 111::O 112::O 113::O 114::O 115::O 116::O 117::O 118::O 119::O 120::O 121::O 122::O 123::O 124::O 125::O 126::O 127::O 128::O 129::O 130::O 131::O 132::O 133::[] : List Value)) ∧ St wb [] w) ?_ ?_
  ·
   rintro t w ⟨H, hf, hs⟩
   obtain ⟨O, rfl⟩ := hf.open
   try dsimp only
   unfold slices_pdqsortOrdered_int16.a0 at H
   cases H
  ·
   intro ha1_
   have hs := hs.pull 1 rfl
   have hs := hs.pull 1 rfl
   have hs : St _ [_,_] _ := St.take (Γ' := []) hs
   refine g_loop_fuel (I := fun n_ t w => ∃ x7 : Int, ∃ x8 : Int, ∃ x9 : Int, ∃ x10 : Bool, ∃ x11 : Bool, rounds (fun s => slices_pdqsortOrdered_int16.b0 N a1 s.1 s.2.1 s.2.2.1 s.2.2.2.1 s.2.2.2.2) n_ (x7, x8, x9, x10, x11) = some o1_ ∧ Fr t (fun O => (v2::Value.int .i64 x7::Value.int .i64 x8::Value.int .i64 x9::O 4::O 5::O 6::O 7::Value.bool x10::Value.bool x11::O 10::O 11::O 12::O 13::O 14::O 15::O 16::O 17::O 18::O 19::O 20::O 21::O 22::O 23::O 24::O 25::O 26::O 27::O 28::O 29::O 30::O 31::O 32::O 33::O 34::O 35::O 36::O 37::O 38::O 39::O 40::O 41::O 42::O 43::O 44::O 45::O 46::O 47::O 48::O 49::O 50::O 51::O 52::O 53::O 54::O 55::O 56::O 57::O 58::O 59::O 60::O 61::O 62::O 63::O 64::O 65::O 66::O 67::O 68::O 69::O 70::O 71::O 72::O 73::O 74::O 75::O 76::O 77::O 78::O 79::O 80::O 81::O 82::O 83::O 84::O 85::O 86::O 87::O 88::O 89::O 90::O 91::O 92::O 93::O 94::O 95::O 96::O 97::O 98::O 99::O 100::O 101::O 102::O 103::O 104::O 105::O 106::O 107::O 108::O 109::O 110::O 111::O 112::O 113::O 114::O 115::O 116::O 117::O 118::O 119::O 120::O 121::O 122::O 123::O 124::O 125::O 126::O 127::O 128::O 129::O 130::O 131::O 132::O 133::[] : List Value)) ∧ St wb [Row 41 (K.int .i16) v2 a1, Z] w) N ⟨a4, a5, a6, true, true, Ho, rfl, hs⟩ ?_ ?_
   ·
    rintro _ _ ⟨x7, x8, x9, x10, x11, h, _⟩
    exact rounds_zero h
   ·
    intro n_ ih1_
    rintro t w ⟨x7, x8, x9, x10, x11, Ho, hf, hs⟩
    obtain ⟨O, rfl⟩ := hf.open
    try dsimp only
    obtain ⟨x1_, H, Hx1_⟩ := rounds_succ Ho
    have H : slices_pdqsortOrdered_int16.b0 N a1 x7 x8 x9 x10 x11 = some x1_ := H
    unfold slices_pdqsortOrdered_int16.b0 at H
    refine g_block ?_
    refine g_seq ?_
    refine g_region ?_
    show G _ _ _ (.inRegion _ [0, 1, 2, 3] :: _) _ _
    refine g_op (v := Value.int .i64 x8) rfl rfl rfl ?_
    refine g_d rfl ?_
    refine g_op (v := Value.int .i64 x7) rfl rfl rfl ?_
    refine g_d rfl ?_
    refine g_op (v := Value.int .i64 (i64w (x8 - x7))) rfl rfl rfl ?_
    refine g_d rfl ?_
    try dsimp only [set0,setS]
    refine g_op (v := Value.int .i64 (i64w (x8 - x7))) rfl rfl rfl ?_
    refine g_d rfl ?_
    try dsimp only [set0,setS]
    refine g_ops_nil ?_
    refine g_seq ?_
    refine g_seq ?_
    refine g_region ?_
    show G _ _ _ (.inRegion _ [0, 1] :: _) _ _
    refine g_op (v := Value.int .i64 (i64w (x8 - x7))) rfl rfl rfl ?_
    refine g_d rfl ?_
    refine g_op_b (B := decide ((i64w (x8 - x7)) ≤ 12)) rfl rfl rfl ?_ ?_
    ·
     intro hb
     rw [if_pos (b_dec_t hb)] at H
     refine g_d rfl ?_
     try dsimp only [set0,setS]
     refine g_ops_nil ?_
     refine g_cond_true rfl ?_
     refine g_seq ?_
     refine g_region ?_
     show G _ _ _ (.inRegion _ [0, 1, 2, 3] :: _) _ _
     refine g_op (v := v2) rfl rfl rfl ?_
     refine g_d rfl ?_
     refine g_op (v := Value.int .i64 x7) rfl rfl rfl ?_
     refine g_d rfl ?_
     refine g_op (v := Value.int .i64 x8) rfl rfl rfl ?_
     refine g_d rfl ?_
     obtain ⟨r12, Hr12, H⟩ := bind_get H
     have hs := hs.pull 0 rfl
     have hs : St _ [_,_] _ := hs
     have hs := hs.pack 1
     refine s_call (args := [v2, Value.int .i64 x7, Value.int .i64 x8]) rfl rfl (x_call rfl (callFunc_enter Try.func34 rfl rfl) rfl) (slices_insertionSortOrdered_int16.calls (a1 := a1) (a4 := x7) (a5 := x8) hs Hr12) ?_
     rintro _ w ⟨rfl, hs⟩
     have hs := St.unpack (Γ := [_]) hs
     have hs : St _ [_,_] _ := hs
     refine g_d rfl ?_
     try dsimp only [set0,setS]
     refine g_ops_nil ?_
     obtain rfl := Option.some.inj H
     subst Hx1_
     have H := Option.some.inj Hr1_
     subst H
     refine g_ret Try.func27 (v := Value.tuple #[]) (resN (l := Try.f27.results.toList) (vs := []) rfl trivial (by simp)) ?_
     have hs := hs.pull 1 rfl
     have hs := hs.pull 1 rfl
     have hs : St _ [_,_] _ := St.take (Γ' := []) hs
     exact ⟨_, rfl, rfl, hs⟩
    ·
     intro hb
     rw [if_neg (b_dec_f hb)] at H
     refine g_d rfl ?_
     try dsimp only [set0,setS]
     refine g_ops_nil ?_
     refine g_cond_false rfl ?_
     refine g_skip ?_
     refine g_seq ?_
     refine g_seq ?_
     refine g_region ?_
     show G _ _ _ (.inRegion _ [0, 1] :: _) _ _
     refine g_op (v := Value.int .i64 x9) rfl rfl rfl ?_
     refine g_d rfl ?_
     refine g_op_b (B := x9 == 0) rfl rfl rfl ?_ ?_
     ·
      intro hb
      rw [if_pos (b_beq_t hb)] at H
      refine g_d rfl ?_
      try dsimp only [set0,setS]
      refine g_ops_nil ?_
      refine g_cond_true rfl ?_
      refine g_seq ?_
      refine g_region ?_
      show G _ _ _ (.inRegion _ [0, 1, 2, 3] :: _) _ _
      refine g_op (v := v2) rfl rfl rfl ?_
      refine g_d rfl ?_
      refine g_op (v := Value.int .i64 x7) rfl rfl rfl ?_
      refine g_d rfl ?_
      refine g_op (v := Value.int .i64 x8) rfl rfl rfl ?_
      refine g_d rfl ?_
      cases H
     ·
      intro hb
      rw [if_neg (b_beq_f hb)] at H
      refine g_d rfl ?_
      try dsimp only [set0,setS]
      refine g_ops_nil ?_
      refine g_cond_false rfl ?_
      refine g_skip ?_
      refine g_seq ?_
      refine g_seq ?_
      refine g_region ?_
      show G _ _ _ (.inRegion _ [0, 1] :: _) _ _
      refine g_op_b (B := x10) rfl rfl rfl ?_ ?_
      ·
       intro hb
       rw [if_pos (b_var_t hb)] at H
       refine g_d rfl ?_
       refine g_op (v := Value.bool false) rfl rfl rfl ?_
       refine g_d rfl ?_
       try dsimp only [set0,setS]
       refine g_ops_nil ?_
       refine g_cond_false rfl ?_
       refine g_skip ?_
       refine g_seq ?_
       refine g_region ?_
       show G _ _ _ (.inRegion _ [0, 1, 2, 3, 4, 5, 6, 7, 8] :: _) _ _
       refine g_op (v := v2) rfl rfl rfl ?_
       refine g_d rfl ?_
       refine g_op (v := Value.int .i64 x7) rfl rfl rfl ?_
       refine g_d rfl ?_
       refine g_op (v := Value.int .i64 x8) rfl rfl rfl ?_
       refine g_d rfl ?_
       cases H
      ·
       intro hb
       rw [if_neg (b_var_f hb)] at H
       refine g_d rfl ?_
       refine g_op (v := Value.bool true) rfl rfl rfl ?_
       refine g_d rfl ?_
       try dsimp only [set0,setS]
       refine g_ops_nil ?_
       refine g_cond_true rfl ?_
       refine g_seq ?_
       refine g_region ?_
       show G _ _ _ (.inRegion _ [0, 1, 2, 3] :: _) _ _
       refine g_op (v := v2) rfl rfl rfl ?_
       refine g_d rfl ?_
       refine g_op (v := Value.int .i64 x7) rfl rfl rfl ?_
       refine g_d rfl ?_
       refine g_op (v := Value.int .i64 x8) rfl rfl rfl ?_
       refine g_d rfl ?_
       cases H

/- function 17 slices_Sort_impl_Weights_int16 -/
def slices_Sort_impl_Weights_int16.post (wb : World) (Z : As) (v2 : Value) (r : (List Int)) (v : Value) (w : World) : Prop := v = Value.tuple #[] ∧ St wb [Row 41 (K.int .i16) v2 r, Z] w
set_option maxHeartbeats 8000000 in
set_option maxRecDepth 100000 in
theorem slices_Sort_impl_Weights_int16.calls {N : Nat} {a1 : (List Int)} {v2 : Value} {wb : World} {Z : As} {w0 : World} {r : (List Int)} (hs : St wb [Row 41 (K.int .i16) v2 a1, Z] w0) (H : slices_Sort_impl_Weights_int16.f N a1 = some r) :
    Calls Try.prog 17 #[v2] w0 fun e w => ∃ v, e = .returned v ∧ slices_Sort_impl_Weights_int16.post wb Z v2 r v w := by
  unfold slices_Sort_impl_Weights_int16.f at H
  refine calls_of_g (n := 10) Try.func17 rfl rfl ?_
  show G _ _ _ _ [_,_,_,_,_,_,_,_,_,_,_] _
  refine g_seq ?_
  refine g_region ?_
  show G _ _ _ (.inRegion _ [0, 1, 2] :: _) _ _
  refine g_op (v := v2) rfl rfl rfl ?_
  show G _ _ _ _ [_,_,_,_,_,_,_,_,_,_,_] _
  refine s_len (hs.row 0 rfl) rfl rfl rfl rfl rfl ?_
  show G _ _ _ _ [_,_,_,_,_,_,_,_,_,_,_] _
  refine g_op (v := Value.int .i64 (a1.length : Int)) rfl rfl rfl ?_
  show G _ _ _ _ [_,_,_,_,_,_,_,_,_,_,_] _
  refine g_ops_nil ?_
  refine g_region ?_
  show G _ _ _ (.inRegion _ [0, 1, 2, 3, 4, 5] :: _) _ _
  refine g_op (v := v2) rfl rfl rfl ?_
  show G _ _ _ _ [_,_,_,_,_,_,_,_,_,_,_] _
  refine g_op (v := Value.int .i64 (a1.length : Int)) rfl rfl rfl ?_
  show G _ _ _ _ [_,_,_,_,_,_,_,_,_,_,_] _
  refine g_op (v := Value.int .i64 (a1.length : Int)) rfl rfl rfl ?_
  show G _ _ _ _ [_,_,_,_,_,_,_,_,_,_,_] _
  refine g_op (v := Value.int .u64 (u64w (a1.length : Int))) rfl rfl rfl ?_
  show G _ _ _ _ [_,_,_,_,_,_,_,_,_,_,_] _
  obtain ⟨r4, Hr4, H⟩ := bind_get H
  refine s_call (args := [Value.int .u64 (u64w (a1.length : Int))]) rfl rfl (x_call rfl (callFunc_enter Try.func28 rfl rfl) rfl) (bits_Len.calls (a1 := u64w (a1.length : Int)) Hr4) ?_
  rintro _ w ⟨rfl, hs2⟩
  have hs : St _ [_,_] _ := hs.call hs2
  show G _ _ _ _ [_,_,_,_,_,_,_,_,_,_,_] _
  obtain ⟨r5, Hr5, H⟩ := bind_get H
  have hs := hs.pull 0 rfl
  have hs : St _ [_,_] _ := hs
  have hs := hs.pack 1
  refine s_call (args := [v2, Value.int .i64 0, Value.int .i64 (a1.length : Int), Value.int .i64 r4]) rfl rfl (x_call rfl (callFunc_enter Try.func27 rfl rfl) rfl) (slices_pdqsortOrdered_int16.calls (a1 := a1) (a4 := 0) (a5 := (a1.length : Int)) (a6 := r4) hs Hr5) ?_
  rintro _ w ⟨rfl, hs⟩
  have hs := St.unpack (Γ := [_]) hs
  have hs : St _ [_,_] _ := hs
  show G _ _ _ _ [_,_,_,_,_,_,_,_,_,_,_] _
  refine g_ops_nil ?_
  obtain rfl := Option.some.inj H
  refine g_end Try.func17 (v := Value.tuple #[]) (resN (l := Try.f17.results.toList) (vs := []) rfl trivial (by simp)) ?_
  have hs := hs.pull 1 rfl
  have hs := hs.pull 1 rfl
  have hs : St _ [_,_] _ := St.take (Γ' := []) hs
  exact ⟨_, rfl, rfl, hs⟩

/- function 6 impl_LeastWeights -/
def impl_LeastWeights.post (w0 : World) (r : ((List Int) × Int)) (v : Value) (w : World) : Prop := ∃ u1 : Value, v = Value.tuple #[u1, Value.int .i64 r.2] ∧ St w0 [Row 41 (K.int .i16) u1 r.1] w
set_option maxHeartbeats 8000000 in
set_option maxRecDepth 100000 in
theorem impl_LeastWeights.calls {N : Nat} {a1 : Int} {a2 : Bool} {w0 : World} {r : ((List Int) × Int)} (H : impl_LeastWeights.f N a1 a2 = some r) :
    Calls Try.prog 6 #[Value.int .i64 a1, Value.bool a2] w0 fun e w => ∃ v, e = .returned v ∧ impl_LeastWeights.post w0 r v w := by
  unfold impl_LeastWeights.f at H
  have hs : St w0 [] w0 := St.refl w0
  refine calls_of_g (n := 42) Try.func6 rfl rfl ?_
  show G _ _ _ _ [_,_,_,_,_,_,_,_,_,_,_,_,_,_,_,_,_,_,_,_,_,_,_,_,_,_,_,_,_,_,_,_,_,_,_,_,_,_,_,_,_,_,_,_] _
  refine g_seq ?_
  refine g_region ?_
  show G _ _ _ (.inRegion _ [0, 1] :: _) _ _
  refine g_op (v := Value.slice none 0 0) rfl rfl rfl ?_
  refine g_op (v := Value.int .i64 0) rfl rfl rfl ?_
  show G _ _ _ _ [_,_,_,_,_,_,_,_,_,_,_,_,_,_,_,_,_,_,_,_,_,_,_,_,_,_,_,_,_,_,_,_,_,_,_,_,_,_,_,_,_,_,_,_] _
  refine g_ops_nil ?_
  refine g_seq ?_
  refine g_seq ?_
  refine g_region ?_
  show G _ _ _ (.inRegion _ [0, 1, 2] :: _) _ _
  refine g_op (v := Value.int .i64 a1) rfl rfl rfl ?_
  obtain ⟨r3, Hr3, H⟩ := bind_get H
  refine s_call (args := [Value.int .i64 a1, Value.int .i64 1, Value.int .i64 2000]) rfl rfl (x_call rfl (callFunc_enter Try.func16 rfl rfl) rfl) (impl_within.calls (a1 := a1) (a2 := 1) (a3 := 2000) Hr3) ?_
  rintro _ w ⟨rfl, hs2⟩
  have hs : St _ [] _ := hs.call hs2
  cases r3 with
  | true =>
    rw [if_pos rfl] at H
    refine g_op (v := Value.bool false) rfl rfl rfl ?_
    refine g_ops_nil ?_
    refine g_cond_false rfl ?_
    refine g_skip ?_
    refine g_seq ?_
    refine g_region ?_
    show G _ _ _ (.inRegion _ [0, 1, 2] :: _) _ _
    refine g_op (v := Value.int .i64 a1) rfl rfl rfl ?_
    refine g_op (v := Value.int .i64 2) rfl rfl rfl ?_
    show G _ _ _ _ [_,_,_,_,_,_,_,_,_,_,_,_,_,_,_,_,_,_,_,_,_,_,_,_,_,_,_,_,_,_,_,_,_,_,_,_,_,_,_,_,_,_,_,_] _
    refine g_op (v := Value.int .i64 a1) rfl rfl rfl ?_
    refine g_ops_nil ?_
    refine g_seq ?_
    refine g_seq ?_
    refine g_join2 (J := (fun t w => ∃ x4 : Int, ∃ x5 : Int, impl_LeastWeights.j0 N a1 x4 x5 = some r ∧ Fr t (fun O => ([Value.int .i64 a1, O 1, O 2, O 3, O 4, O 5, Value.int .i64 x4, Value.int .i64 x5, O 8, O 9, O 10, O 11, O 12, O 13, O 14, O 15, O 16, O 17, O 18, O 19, O 20, O 21, O 22, O 23, O 24, O 25, O 26, O 27, O 28, O 29, O 30, O 31, O 32, O 33, O 34, O 35, O 36, O 37, O 38, O 39, O 40, O 41, O 42, O 43] : List Value)) ∧ St w0 [] w)) ?_ ?_
    ·
     rintro t w ⟨x4, x5, H, hf, hs⟩
     obtain ⟨O, rfl⟩ := hf.open
     show G _ _ _ _ [_,_,_,_,_,_,_,_,_,_,_,_,_,_,_,_,_,_,_,_,_,_,_,_,_,_,_,_,_,_,_,_,_,_,_,_,_,_,_,_,_,_,_,_] _
     unfold impl_LeastWeights.j0 at H
     refine g_seq ?_
     refine g_region ?_
     show G _ _ _ (.inRegion _ [0, 1, 2, 3] :: _) _ _
     refine s_lit0 (κ := (K.int .i16)) hs rfl rfl rfl rfl (fun _ => rfl) ?_
     intro v6 w hs
     refine g_op (v := Value.int .i64 a1) rfl rfl rfl ?_
     refine g_op (v := v6) rfl rfl rfl ?_
     show G _ _ _ _ [_,_,_,_,_,_,_,_,_,_,_,_,_,_,_,_,_,_,_,_,_,_,_,_,_,_,_,_,_,_,_,_,_,_,_,_,_,_,_,_,_,_,_,_] _
     refine g_op (v := Value.int .i64 a1) rfl rfl rfl ?_
     refine g_ops_nil ?_
     refine g_seq ?_
     refine g_seq ?_
     refine g_region ?_
     show G _ _ _ (.inRegion _ [0] :: _) _ _
     refine g_op (v := Value.int .i64 1) rfl rfl rfl ?_
     refine g_ops_nil ?_
     obtain ⟨o1_, Ho, Hr1_⟩ := bind_get H
     refine g_block_join (J := fun t w => ∃ v17 : Value, ∃ x18 : (List Int), ∃ x20 : Int, impl_LeastWeights.a1 N x18 x20 = some r ∧ Fr t (fun O => ([O 0, O 1, O 2, O 3, O 4, O 5, O 6, O 7, v17, Value.int .i64 x20, O 10, O 11, O 12, O 13, O 14, O 15, O 16, O 17, O 18, O 19, O 20, O 21, O 22, O 23, O 24, O 25, O 26, O 27, O 28, O 29, O 30, O 31, O 32, O 33, O 34, O 35, O 36, O 37, O 38, O 39, O 40, O 41, O 42, O 43] : List Value)) ∧ St w0 [Row 41 (K.int .i16) v17 x18] w) ?_ ?_
     ·
      rintro t w ⟨v17, x18, x20, H, hf, hs⟩
      obtain ⟨O, rfl⟩ := hf.open
      show G _ _ _ _ [_,_,_,_,_,_,_,_,_,_,_,_,_,_,_,_,_,_,_,_,_,_,_,_,_,_,_,_,_,_,_,_,_,_,_,_,_,_,_,_,_,_,_,_] _
      unfold impl_LeastWeights.a1 at H
      refine g_seq ?_
      refine g_region ?_
      show G _ _ _ (.inRegion _ [0, 1, 2, 3, 4, 5] :: _) _ _
      refine g_op (v := v17) rfl rfl rfl ?_
      refine g_op (v := Value.int .i64 x20) rfl rfl rfl ?_
      refine g_op (v := Value.int .i16 (i16w x20)) rfl rfl rfl ?_
      refine s_lit1 (fkI .i16) (y := i16w x20) hs rfl rfl rfl rfl (fun _ => rfl) (zv := (Value.int .i16 0)) (fun _ => rfl) rfl (by decide) (by decide) rfl ?_
      intro v21 w hs
      have hs := hs.pull 1 rfl
      have hs : St _ [_,_] _ := hs
      obtain ⟨g, H⟩ := ite_get H
      refine s_append (fkI .i16) (zv := (Value.int .i16 0)) (B := 2) hs (hs.row 1 rfl) rfl rfl rfl rfl rfl rfl rfl rfl rfl (by decide) rfl rfl (by decide) (by omega) ?_
      intro v23 w hs
      refine g_op (v := v23) rfl rfl rfl ?_
      show G _ _ _ _ [_,_,_,_,_,_,_,_,_,_,_,_,_,_,_,_,_,_,_,_,_,_,_,_,_,_,_,_,_,_,_,_,_,_,_,_,_,_,_,_,_,_,_,_] _
      refine g_ops_nil ?_
      refine g_seq ?_
      refine g_region ?_
      show G _ _ _ (.inRegion _ [0, 1] :: _) _ _
      refine g_op (v := v23) rfl rfl rfl ?_
      obtain ⟨r25, Hr25, H⟩ := bind_get H
      have hs := hs.pull 0 rfl
      have hs : St _ [_,_] _ := hs
      have hs := hs.pack 1
      refine s_call (args := [v23]) rfl rfl (x_call rfl (callFunc_enter Try.func17 rfl rfl) rfl) (slices_Sort_impl_Weights_int16.calls (a1 := x18 ++ ([i16w x20])) hs Hr25) ?_
      rintro _ w ⟨rfl, hs⟩
      have hs := St.unpack (Γ := [_]) hs
      have hs : St _ [_,_] _ := hs
      refine g_ops_nil ?_
      refine g_seq ?_
      refine g_region ?_
      show G _ _ _ (.inRegion _ [0, 1, 2] :: _) _ _
      refine g_op (v := v23) rfl rfl rfl ?_
      refine g_op (v := v23) rfl rfl rfl ?_
      refine g_op (v := Value.int .i64 0) rfl rfl rfl ?_
      show G _ _ _ _ [_,_,_,_,_,_,_,_,_,_,_,_,_,_,_,_,_,_,_,_,_,_,_,_,_,_,_,_,_,_,_,_,_,_,_,_,_,_,_,_,_,_,_,_] _
      refine g_ops_nil ?_
      obtain rfl := Option.some.inj H
      refine g_ret Try.func6 (v := Value.tuple #[v23, Value.int .i64 0]) (resN (l := Try.f6.results.toList) (vs := [v23, Value.int .i64 0]) rfl ⟨rfl, rfl, trivial⟩ (by simp)) ?_
      have hs := hs.pull 0 rfl
      have hs : St _ [_] _ := St.take (Γ' := [_]) hs
      exact ⟨_, rfl, v23, rfl, hs⟩
     ·
      intro ha1_
      have hs := hs.pull 0 rfl
      have hs : St _ [_] _ := St.take (Γ' := []) hs
      refine g_loop_fuel (I := fun n_ t w => ∃ v9 : Value, ∃ x10 : (List Int), ∃ x11 : Int, ∃ x12 : Int, rounds (fun s => impl_LeastWeights.b1 N x4 x5 s.1 s.2.1 s.2.2) n_ (x10, x11, x12) = some o1_ ∧ Fr t (fun O => ([O 0, O 1, O 2, O 3, O 4, O 5, Value.int .i64 x4, Value.int .i64 x5, v9, Value.int .i64 x11, Value.int .i64 x12, O 11, O 12, O 13, O 14, O 15, O 16, O 17, O 18, O 19, O 20, O 21, O 22, O 23, O 24, O 25, O 26, O 27, O 28, O 29, O 30, O 31, O 32, O 33, O 34, O 35, O 36, O 37, O 38, O 39, O 40, O 41, O 42, O 43] : List Value)) ∧ St w0 [Row 41 (K.int .i16) v9 x10] w) N ⟨v6, ([] : List Int), a1, 1, Ho, rfl, hs⟩ ?_ ?_
      ·
       rintro _ _ ⟨v9, x10, x11, x12, h, _⟩
       exact rounds_zero h
      ·
       intro n_ ih1_
       rintro t w ⟨v9, x10, x11, x12, Ho, hf, hs⟩
       obtain ⟨O, rfl⟩ := hf.open
       show G _ _ _ _ [_,_,_,_,_,_,_,_,_,_,_,_,_,_,_,_,_,_,_,_,_,_,_,_,_,_,_,_,_,_,_,_,_,_,_,_,_,_,_,_,_,_,_,_] _
       obtain ⟨x1_, H, Hx1_⟩ := rounds_succ Ho
       have H : impl_LeastWeights.b1 N x4 x5 x10 x11 x12 = some x1_ := H
       unfold impl_LeastWeights.b1 at H
       refine g_seq ?_
       refine g_seq ?_
       refine g_region ?_
       show G _ _ _ (.inRegion _ [0, 1, 2, 3, 4] :: _) _ _
       refine g_op (v := Value.int .i64 x12) rfl rfl rfl ?_
       refine g_op (v := Value.int .i64 x4) rfl rfl rfl ?_
       refine g_op (v := Value.int .i64 (i64w (x12 * x4))) rfl rfl rfl ?_
       show G _ _ _ _ [_,_,_,_,_,_,_,_,_,_,_,_,_,_,_,_,_,_,_,_,_,_,_,_,_,_,_,_,_,_,_,_,_,_,_,_,_,_,_,_,_,_,_,_] _
       refine g_op (v := Value.int .i64 x5) rfl rfl rfl ?_
       refine g_op_b (B := decide ((i64w (x12 * x4)) ≤ x5)) rfl rfl rfl ?_ ?_
       ·
        intro hb
        rw [if_pos (b_dec_t hb)] at H
        refine g_ops_nil ?_
        refine g_cond_true rfl ?_
        refine g_skip ?_
        refine g_seq ?_
        refine g_block ?_
        refine g_seq ?_
        refine g_region ?_
        show G _ _ _ (.inRegion _ [0, 1, 2, 3, 4, 5] :: _) _ _
        refine g_op (v := v9) rfl rfl rfl ?_
        refine g_op (v := Value.int .i64 x12) rfl rfl rfl ?_
        refine g_op (v := Value.int .i16 (i16w x12)) rfl rfl rfl ?_
        refine s_lit1 (fkI .i16) (y := i16w x12) hs rfl rfl rfl rfl (fun _ => rfl) (zv := (Value.int .i16 0)) (fun _ => rfl) rfl (by decide) (by decide) rfl ?_
        intro v13 w hs
        show G _ _ _ _ [_,_,_,_,_,_,_,_,_,_,_,_,_,_,_,_,_,_,_,_,_,_,_,_,_,_,_,_,_,_,_,_,_,_,_,_,_,_,_,_,_,_,_,_] _
        have hs := hs.pull 1 rfl
        have hs : St _ [_,_] _ := hs
        obtain ⟨g, H⟩ := ite_get H
        refine s_append (fkI .i16) (zv := (Value.int .i16 0)) (B := 2) hs (hs.row 1 rfl) rfl rfl rfl rfl rfl rfl rfl rfl rfl (by decide) rfl rfl (by decide) (by omega) ?_
        intro v15 w hs
        refine g_op (v := v15) rfl rfl rfl ?_
        refine g_ops_nil ?_
        refine g_region ?_
        show G _ _ _ (.inRegion _ [0, 1, 2, 3] :: _) _ _
        refine g_op (v := Value.int .i64 x11) rfl rfl rfl ?_
        refine g_op (v := Value.int .i64 x12) rfl rfl rfl ?_
        refine g_op (v := Value.int .i64 (i64w (x11 - x12))) rfl rfl rfl ?_
        show G _ _ _ _ [_,_,_,_,_,_,_,_,_,_,_,_,_,_,_,_,_,_,_,_,_,_,_,_,_,_,_,_,_,_,_,_,_,_,_,_,_,_,_,_,_,_,_,_] _
        refine g_op (v := Value.int .i64 (i64w (x11 - x12))) rfl rfl rfl ?_
        refine g_ops_nil ?_
        refine g_inBlock ?_
        refine g_region ?_
        show G _ _ _ (.inRegion _ [0, 1, 2, 3] :: _) _ _
        refine g_op (v := Value.int .i64 x12) rfl rfl rfl ?_
        refine g_op (v := Value.int .i64 x4) rfl rfl rfl ?_
        refine g_op (v := Value.int .i64 (i64w (x12 * x4))) rfl rfl rfl ?_
        refine g_op (v := Value.int .i64 (i64w (x12 * x4))) rfl rfl rfl ?_
        show G _ _ _ _ [_,_,_,_,_,_,_,_,_,_,_,_,_,_,_,_,_,_,_,_,_,_,_,_,_,_,_,_,_,_,_,_,_,_,_,_,_,_,_,_,_,_,_,_] _
        refine g_ops_nil ?_
        obtain rfl := Option.some.inj H
        have hs := hs.pull 0 rfl
        have hs : St _ [_] _ := St.take (Γ' := [_]) hs
        exact ih1_ _ _ ⟨v15, x10 ++ ([i16w x12]), i64w (x11 - x12), i64w (x12 * x4), Hx1_, rfl, hs⟩
       ·
        intro hb
        rw [if_neg (b_dec_f hb)] at H
        refine g_ops_nil ?_
        refine g_cond_false rfl ?_
        obtain rfl := Option.some.inj H
        subst Hx1_
        have hs := hs.pull 0 rfl
        have hs : St _ [_] _ := St.take (Γ' := []) hs
        refine g_exit rfl ?_
        exact ha1_ _ _ ⟨v9, x10, x11, Hr1_, rfl, hs⟩
    ·
     intro ha
     refine g_region ?_
     show G _ _ _ (.inRegion _ [0] :: _) _ _
     refine g_op_b (B := a2) rfl rfl rfl ?_ ?_
     ·
      intro hb
      rw [if_pos (b_var_t hb)] at H
      refine g_ops_nil ?_
      refine g_cond_true rfl ?_
      refine g_region ?_
      show G _ _ _ (.inRegion _ [0, 1, 2, 3] :: _) _ _
      refine g_op (v := Value.int .i64 a1) rfl rfl rfl ?_
      refine g_op (v := Value.int .i64 (i64w (2 * a1))) rfl rfl rfl ?_
      refine g_op (v := Value.int .i64 3) rfl rfl rfl ?_
      show G _ _ _ _ [_,_,_,_,_,_,_,_,_,_,_,_,_,_,_,_,_,_,_,_,_,_,_,_,_,_,_,_,_,_,_,_,_,_,_,_,_,_,_,_,_,_,_,_] _
      refine g_op (v := Value.int .i64 (i64w (2 * a1))) rfl rfl rfl ?_
      refine g_ops_nil ?_
      have hs : St _ [] _ := St.take (Γ' := []) hs
      exact ha _ _ ⟨3, i64w (2 * a1), H, rfl, hs⟩
     ·
      intro hb
      rw [if_neg (b_var_f hb)] at H
      refine g_ops_nil ?_
      refine g_cond_false rfl ?_
      refine g_skip ?_
      have hs : St _ [] _ := St.take (Γ' := []) hs
      exact ha _ _ ⟨2, a1, H, rfl, hs⟩
  | false =>
    rw [if_neg Bool.false_ne_true] at H
    refine g_op (v := Value.bool true) rfl rfl rfl ?_
    refine g_ops_nil ?_
    refine g_cond_true rfl ?_
    refine g_seq ?_
    refine g_region ?_
    show G _ _ _ (.inRegion _ [0, 1] :: _) _ _
    refine g_op (v := Value.slice none 0 0) rfl rfl rfl ?_
    show G _ _ _ _ [_,_,_,_,_,_,_,_,_,_,_,_,_,_,_,_,_,_,_,_,_,_,_,_,_,_,_,_,_,_,_,_,_,_,_,_,_,_,_,_,_,_,_,_] _
    refine g_op (v := Value.int .i64 2) rfl rfl rfl ?_
    refine g_ops_nil ?_
    obtain rfl := Option.some.inj H
    refine g_ret Try.func6 (v := Value.tuple #[Value.slice none 0 0, Value.int .i64 2]) (resN (l := Try.f6.results.toList) (vs := [Value.slice none 0 0, Value.int .i64 2]) rfl ⟨rfl, rfl, trivial⟩ (by simp)) ?_
    have hs := hs.nil 41 (K.int .i16)
    have hs := hs.pull 0 rfl
    have hs : St _ [_] _ := St.take (Γ' := []) hs
    exact ⟨_, rfl, (Value.slice none 0 0), rfl, hs⟩

/- function 18 spec_l00In -/
def spec_l00In.post (w0 : World) (r : Bool) (v : Value) (w : World) : Prop := v = Value.bool r ∧ St w0 [] w
set_option maxHeartbeats 8000000 in
set_option maxRecDepth 100000 in
theorem spec_l00In.calls {N : Nat} {a1 : Int} {a2 : Int} {a3 : Int} {w0 : World} {r : Bool} (H : spec_l00In.f N a1 a2 a3 = some r) :
    Calls Try.prog 18 #[Value.int .i64 a1, Value.int .i64 a2, Value.int .i64 a3] w0 fun e w => ∃ v, e = .returned v ∧ spec_l00In.post w0 r v w := by
  unfold spec_l00In.f at H
  have hs : St w0 [] w0 := St.refl w0
  refine calls_of_g (n := 12) Try.func18 rfl rfl ?_
  show G _ _ _ _ [_,_,_,_,_,_,_,_,_,_,_,_,_,_,_] _
  refine g_seq ?_
  refine g_region ?_
  show G _ _ _ (.inRegion _ [0] :: _) _ _
  refine g_op (v := Value.bool false) rfl rfl rfl ?_
  show G _ _ _ _ [_,_,_,_,_,_,_,_,_,_,_,_,_,_,_] _
  refine g_ops_nil ?_
  refine g_seq ?_
  refine g_region ?_
  show G _ _ _ (.inRegion _ [0, 1, 2, 3, 4, 5, 6, 7, 8] :: _) _ _
  refine g_op (v := Value.int .i64 a1) rfl rfl rfl ?_
  show G _ _ _ _ [_,_,_,_,_,_,_,_,_,_,_,_,_,_,_] _
  refine g_op (v := Value.int .i64 a2) rfl rfl rfl ?_
  show G _ _ _ _ [_,_,_,_,_,_,_,_,_,_,_,_,_,_,_] _
  refine g_op_b (B := decide (a1 ≥ a2)) rfl rfl rfl ?_ ?_
  ·
   intro hb
   rw [if_pos (b_dec_t hb)] at H
   show G _ _ _ _ [_,_,_,_,_,_,_,_,_,_,_,_,_,_,_] _
   refine g_op (v := Value.bool true) rfl rfl rfl ?_
   show G _ _ _ _ [_,_,_,_,_,_,_,_,_,_,_,_,_,_,_] _
   refine g_op (v := Value.int .i64 a1) rfl rfl rfl ?_
   show G _ _ _ _ [_,_,_,_,_,_,_,_,_,_,_,_,_,_,_] _
   refine g_op (v := Value.int .i64 a3) rfl rfl rfl ?_
   show G _ _ _ _ [_,_,_,_,_,_,_,_,_,_,_,_,_,_,_] _
   refine g_op (v := Value.bool (decide (a1 ≤ a3))) rfl rfl rfl ?_
   show G _ _ _ _ [_,_,_,_,_,_,_,_,_,_,_,_,_,_,_] _
   refine g_op (v := Value.bool (decide (a1 ≤ a3))) rfl rfl rfl ?_
   show G _ _ _ _ [_,_,_,_,_,_,_,_,_,_,_,_,_,_,_] _
   refine g_op (v := Value.bool (decide (a1 ≤ a3))) rfl rfl rfl ?_
   show G _ _ _ _ [_,_,_,_,_,_,_,_,_,_,_,_,_,_,_] _
   refine g_ops_nil ?_
   obtain rfl := Option.some.inj H
   refine g_ret Try.func18 (v := Value.bool (decide (a1 ≤ a3))) (res1 rfl rfl) ?_
   have hs : St _ [] _ := St.take (Γ' := []) hs
   exact ⟨_, rfl, rfl, hs⟩
  ·
   intro hb
   rw [if_neg (b_dec_f hb)] at H
   show G _ _ _ _ [_,_,_,_,_,_,_,_,_,_,_,_,_,_,_] _
   refine g_op (v := Value.bool false) rfl rfl rfl ?_
   show G _ _ _ _ [_,_,_,_,_,_,_,_,_,_,_,_,_,_,_] _
   refine g_op_not rfl rfl ?_
   show G _ _ _ _ [_,_,_,_,_,_,_,_,_,_,_,_,_,_,_] _
   refine g_op_not rfl rfl ?_
   show G _ _ _ _ [_,_,_,_,_,_,_,_,_,_,_,_,_,_,_] _
   refine g_op_not rfl rfl ?_
   show G _ _ _ _ [_,_,_,_,_,_,_,_,_,_,_,_,_,_,_] _
   refine g_op (v := Value.bool false) rfl rfl rfl ?_
   show G _ _ _ _ [_,_,_,_,_,_,_,_,_,_,_,_,_,_,_] _
   refine g_op (v := Value.bool false) rfl rfl rfl ?_
   show G _ _ _ _ [_,_,_,_,_,_,_,_,_,_,_,_,_,_,_] _
   refine g_ops_nil ?_
   obtain rfl := Option.some.inj H
   refine g_ret Try.func18 (v := Value.bool false) (res1 rfl rfl) ?_
   have hs : St _ [] _ := St.take (Γ' := []) hs
   exact ⟨_, rfl, rfl, hs⟩

end Go.Proofs.YtjagkhjbbdfkaaaX
