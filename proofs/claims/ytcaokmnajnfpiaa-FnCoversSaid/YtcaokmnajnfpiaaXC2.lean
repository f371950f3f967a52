/- Contracts, printed by gen.py. -/
import Derived.Test.YtcaokmnajnfpiaaXT
import Derived.Test.YtcaokmnajnfpiaaProg
import Derived.Test.YtcaokmnajnfpiaaXRowR
import Derived.Test.YtcaokmnajnfpiaaXSq
import Derived.Test.YtcaokmnajnfpiaaXSeg
import Derived.Test.YtcaokmnajnfpiaaXKey
import Derived.Test.YtcaokmnajnfpiaaXC1
namespace Go.Proofs.YtcaokmnajnfpiaaX
open Go Go.RowKit Go.Proofs
set_option linter.unusedVariables false
set_option linter.unusedSimpArgs false
/- function 21 spec_l05Drawn -/
def spec_l05Drawn.post (wb : World) (Z : As) (b2 : Nat) (v3 : Value) (r : (S_impl_Ferry × S_spec_l00Src)) (v : Value) (w : World) : Prop := ∃ u1 : Value, v = Value.agg (([Value.int .i8 r.1.f_Things, Value.int .i8 r.1.f_Boat, u1] : List Value)).toArray ∧ St wb [Row 31 (K.int .u16) u1 r.1.f_Rules, Cells b2 (([v3, Value.int .i64 r.2.f_at, Value.int .u64 r.2.f_seed] : List Value)) 85, Z] w
set_option maxHeartbeats 8000000 in
set_option maxRecDepth 100000 in
theorem spec_l05Drawn.calls {N : Nat} {a1 : S_spec_l00Src} {b2 : Nat} {v3 : Value} {wb : World} {Z : As} {w0 : World} {r : (S_impl_Ferry × S_spec_l00Src)} (hs : St wb [Cells b2 (([v3, Value.int .i64 a1.f_at, Value.int .u64 a1.f_seed] : List Value)) 85, Z] w0) (hr4 : RdRow (K.int .u8) wb v3 a1.f_code) (H : spec_l05Drawn.f N a1 = some r) :
    Calls Try.prog 21 #[Value.pointer (some ⟨b2, 0, none⟩)] w0 fun e w => ∃ v, e = .returned v ∧ spec_l05Drawn.post wb Z b2 v3 r v w := by
  unfold spec_l05Drawn.f at H
  refine calls_of_g (n := 68) Try.func21 rfl rfl ?_
  show G _ _ _ _ (_::_::_::_::_::_::_::_::_::_::_::_::_::_::_::_::_::_::_::_::_::_::_::_::_::_::_::_::_::_::_::_::_::_::_::_::_::_::_::_::_::_::_::_::_::_::_::_::_::_::_::_::_::_::_::_::_::_::_::_::_::_::_::_::_::_::_::_::_::[]) _
  refine g_seq (g_region ?_)
  show G _ _ _ (.inRegion _ [0] :: _) _ _
  refine s_alloc hs rfl rfl (z := (Value.agg #[Value.int .i8 0, Value.int .i8 0, Value.slice none 0 0])) (cs := (([Value.int .i8 0, Value.int .i8 0, Value.slice none 0 0] : List Value))) rfl (fun _ => rfl) rfl ?_
  intro b6 w hs
  refine g_d rfl ?_
  try dsimp only [set0,setS]
  refine g_ops_nil (g_seq (g_region ?_))
  show G _ _ _ (.inRegion _ [0, 1, 2, 3, 4, 5, 6] :: _) _ _
  refine g_op (v := Value.pointer (some ⟨b2, 0, none⟩)) rfl rfl rfl (g_d rfl ?_)
  obtain ⟨r8, Hr8, H⟩ := bind_get H
  have hs := hs.pull 1 rfl
  have hs : St _ [_,_,_] _ := hs
  have hs := hs.pack 1
  refine s_call (args := [Value.pointer (some ⟨b2, 0, none⟩), Value.int .i64 4]) rfl rfl (x_call rfl (callFunc_enter Try.func45 rfl rfl) rfl) (_spec_l00Src_pick.calls (a1 := (⟨a1.f_code, a1.f_at, a1.f_seed⟩ : S_spec_l00Src)) (a6 := 4) hs hr4 Hr8) ?_
  rintro _ w ⟨rfl, hs⟩
  have hs := St.unpack (Γ := [_]) hs
  have hs : St _ [_,_,_] _ := hs
  refine g_d rfl ?_
  try dsimp only [set0,setS]
  refine g_op (v := Value.int .i64 (i64w (2 + r8.1))) rfl rfl rfl (g_d rfl ?_)
  try dsimp only [set0,setS]
  refine g_op (v := Value.int .i8 (i8w (i64w (2 + r8.1)))) rfl rfl rfl (g_d rfl ?_)
  refine g_op (v := Value.agg (([Value.int .i8 (i8w (i64w (2 + r8.1))), Value.int .i8 0, Value.slice none 0 0] : List Value)).toArray) rfl rfl (x_buildS (cs := (([Value.int .i8 (i8w (i64w (2 + r8.1))), Value.int .i8 0, Value.slice none 0 0] : List Value))) (segs := [[Value.int .i8 0], [Value.int .i8 0], [Value.slice none 0 0]]) rfl rfl (fun _ => rfl) ⟨rfl, (fun _ => rfl), rfl, (fun _ => rfl), rfl, (fun _ => rfl), trivial⟩ (by simp only [List.map_cons, List.map_nil, List.forall_mem_cons, List.not_mem_nil, false_implies, implies_true, and_true]; exact ⟨_, rfl, rfl⟩) (by first | rfl | (simp [ev, encA]; done) | (simp [ev, encA]; rfl))) ?_
  refine g_d rfl ?_
  try dsimp only [set0,setS]
  refine s_alloc hs rfl rfl (z := (Value.agg #[Value.int .i8 0, Value.int .i8 0, Value.slice none 0 0])) (cs := (([Value.int .i8 0, Value.int .i8 0, Value.slice none 0 0] : List Value))) rfl (fun _ => rfl) rfl ?_
  intro b9 w hs
  refine g_d rfl ?_
  try dsimp only [set0,setS]
  refine s_storeAll (n := 3) hs rfl rfl rfl (vs := (([Value.int .i8 (i8w (i64w (2 + r8.1))), Value.int .i8 0, Value.slice none 0 0] : List Value))) rfl rfl rfl (fun _ => rfl) rfl (by simp [Value.oneCell']) ?_
  intro w hs
  refine g_n rfl (g_ops_nil (g_seq (g_region ?_)))
  show G _ _ _ (.inRegion _ [0, 1, 2, 3, 4, 5, 6, 7] :: _) _ _
  refine g_op (v := Value.pointer (some ⟨b2, 0, none⟩)) rfl rfl rfl (g_d rfl ?_)
  refine g_op (v := Value.pointer (some ⟨b9, 0, none⟩)) rfl rfl rfl (g_d rfl ?_)
  refine s_load1 rfl rfl (v := Value.int .i8 (i8w (i64w (2 + r8.1)))) rfl rfl (fun _ => rfl) (cells_load (hs.cells 0 rfl) 0 1 rfl) (g_d rfl ?_)
  try dsimp only [set0,setS]
  refine g_op (v := Value.int .i64 (i64w (i8w (i64w (2 + r8.1))))) rfl rfl rfl (g_d rfl ?_)
  obtain ⟨r11, Hr11, H⟩ := bind_get H
  have hs := hs.pull 1 rfl
  have hs : St _ [_,_,_,_] _ := hs
  have hs := hs.pack 1
  refine s_call (args := [Value.pointer (some ⟨b2, 0, none⟩), Value.int .i64 (i64w (i8w (i64w (2 + r8.1))))]) rfl rfl (x_call rfl (callFunc_enter Try.func45 rfl rfl) rfl) (_spec_l00Src_pick.calls (a1 := (⟨a1.f_code, r8.2.f_at, r8.2.f_seed⟩ : S_spec_l00Src)) (a6 := i64w (i8w (i64w (2 + r8.1)))) hs hr4 Hr11) ?_
  rintro _ w ⟨rfl, hs⟩
  have hs := St.unpack (Γ := [_]) hs
  have hs : St _ [_,_,_,_] _ := hs
  refine g_d rfl ?_
  try dsimp only [set0,setS]
  refine g_op (v := Value.int .i8 (i8w r11.1)) rfl rfl rfl (g_d rfl ?_)
  refine g_op (v := Value.pointer (some ⟨b9, 1, none⟩)) rfl rfl rfl (g_d rfl ?_)
  have hs := hs.pull 1 rfl
  have hs : St _ [_,_,_,_] _ := hs
  refine s_store hs rfl rfl (vs := ((encI .i8) (i8w r11.1))) (cs' := (([Value.int .i8 (i8w (i64w (2 + r8.1))), Value.int .i8 (i8w r11.1), Value.slice none 0 0] : List Value))) rfl rfl rfl (n := 1) (fun _ => rfl) ((fkI .i8).len _) (by first | exact Nat.le_of_ble_eq_true rfl | simp [encAI_len, encAB_len, encA_len]) ((fkI .i8).one _) rfl ?_
  intro w hs
  refine g_n rfl (g_ops_nil (g_seq (g_seq (g_region ?_))))
  show G _ _ _ (.inRegion _ [0, 1, 2] :: _) _ _
  refine g_op (v := Value.pointer (some ⟨b2, 0, none⟩)) rfl rfl rfl (g_d rfl ?_)
  obtain ⟨r12, Hr12, H⟩ := bind_get H
  have hs := hs.pull 1 rfl
  have hs : St _ [_,_,_,_] _ := hs
  have hs := hs.pack 1
  refine s_call (args := [Value.pointer (some ⟨b2, 0, none⟩), Value.int .i64 5]) rfl rfl (x_call rfl (callFunc_enter Try.func45 rfl rfl) rfl) (_spec_l00Src_pick.calls (a1 := (⟨a1.f_code, r11.2.f_at, r11.2.f_seed⟩ : S_spec_l00Src)) (a6 := 5) hs hr4 Hr12) ?_
  rintro _ w ⟨rfl, hs⟩
  have hs := St.unpack (Γ := [_]) hs
  have hs : St _ [_,_,_,_] _ := hs
  refine g_d rfl ?_
  try dsimp only [set0,setS]
  refine g_op (v := Value.int .i64 r12.1) rfl rfl rfl (g_d rfl ?_)
  try dsimp only [set0,setS]
  refine g_ops_nil ?_
  obtain ⟨o1_, Ho, Hr1_⟩ := bind_get H
  refine g_block_join (J := fun t w => ∃ x46 : Int, ∃ x47 : Int, ∃ v48 : Value, ∃ x49 : (List Int), ∃ x51 : Int, ∃ x52 : Int, spec_l05Drawn.a0 N a1 x46 x47 x49 x51 x52 = some r ∧ Fr t (fun O => (O 0::O 1::Value.pointer (some ⟨b6, 0, none⟩)::Value.pointer (some ⟨b9, 0, none⟩)::O 4::O 5::O 6::O 7::O 8::O 9::O 10::O 11::O 12::O 13::O 14::O 15::O 16::O 17::O 18::O 19::O 20::O 21::O 22::O 23::O 24::O 25::O 26::O 27::O 28::O 29::O 30::O 31::O 32::O 33::O 34::O 35::O 36::O 37::O 38::O 39::O 40::O 41::O 42::O 43::O 44::O 45::O 46::O 47::O 48::O 49::O 50::O 51::O 52::O 53::O 54::O 55::O 56::O 57::O 58::O 59::O 60::O 61::O 62::O 63::O 64::O 65::O 66::O 67::O 68::[] : List Value)) ∧ St wb [Cells b6 (([Value.int .i8 0, Value.int .i8 0, Value.slice none 0 0] : List Value)) 27, Cells b9 (([Value.int .i8 x46, Value.int .i8 x47, v48] : List Value)) 27, Row 31 (K.int .u16) v48 x49, Cells b2 (([v3, Value.int .i64 x51, Value.int .u64 x52] : List Value)) 85, Z] w) ?_ ?_
  ·
   rintro t w ⟨x46, x47, v48, x49, x51, x52, H, hf, hs⟩
   obtain ⟨O, rfl⟩ := hf.open
   try dsimp only
   unfold spec_l05Drawn.a0 at H
   refine g_seq (g_region ?_)
   show G _ _ _ (.inRegion _ [0, 1] :: _) _ _
   refine s_loadA rfl rfl (es := (([Value.int .i8 x46, Value.int .i8 x47, v48] : List Value))) rfl rfl (fun _ => rfl) (n := 3) (fun _ => rfl) rfl (cells_all (hs.cells 1 rfl)) (g_d rfl ?_)
   try dsimp only [set0,setS]
   refine s_storeAll (n := 3) hs rfl rfl rfl (vs := (([Value.int .i8 x46, Value.int .i8 x47, v48] : List Value))) rfl rfl rfl (fun _ => rfl) rfl (by intro v hv; simp only [List.mem_append, List.mem_cons, List.not_mem_nil, or_false] at hv; repeat (first | (subst hv; first | rfl | exact slOne (hs.row 2 rfl)) | (rcases hv with hv | hv))) ?_
   intro w hs
   refine g_n rfl (g_ops_nil ?_)
   obtain rfl := Option.some.inj H
   refine g_ret Try.func21 (v := Value.agg (([Value.int .i8 x46, Value.int .i8 x47, v48] : List Value)).toArray) (resC rfl ⟨⟨_, rfl, (run_loadVar_agg (es := (([Value.int .i8 x46, Value.int .i8 x47, v48] : List Value))) rfl rfl (cells_all (hs.cells 0 rfl)))⟩, trivial⟩) ?_
   have hs := hs.pull 4 rfl
   have hs := hs.pull 4 rfl
   have hs := hs.pull 4 rfl
   have hs : St _ [_,_,_] _ := St.take (Γ' := [_,_]) hs
   exact ⟨_, rfl, v48, rfl, hs⟩
  intro ha1_
  have hs := hs.nil 31 (K.int .u16)
  have hs := hs.pull 4 rfl
  have hs := hs.pull 3 rfl
  have hs := hs.pull 2 rfl
  have hs := hs.pull 4 rfl
  have hs := hs.pull 4 rfl
  have hs : St _ [_,_,_,_,_] _ := St.take (Γ' := []) hs
  refine g_loop_fuel (I := fun n_ t w => ∃ x26 : Int, ∃ x27 : Int, ∃ x28 : Int, ∃ x29 : Int, ∃ v31 : Value, ∃ x32 : (List Int), ∃ x33 : Int, rounds (fun s => spec_l05Drawn.b0 N a1 s.1 s.2.1 s.2.2.1 s.2.2.2.1 s.2.2.2.2.1 s.2.2.2.2.2) n_ (x26, x27, x28, x29, x32, x33) = some o1_ ∧ Fr t (fun O => (Value.pointer (some ⟨b2, 0, none⟩)::O 1::Value.pointer (some ⟨b6, 0, none⟩)::Value.pointer (some ⟨b9, 0, none⟩)::Value.int .i64 x33::O 5::O 6::O 7::O 8::O 9::O 10::O 11::O 12::O 13::O 14::O 15::O 16::O 17::O 18::O 19::O 20::O 21::O 22::O 23::O 24::O 25::O 26::O 27::O 28::O 29::O 30::O 31::O 32::O 33::O 34::O 35::O 36::O 37::O 38::O 39::O 40::O 41::O 42::O 43::O 44::O 45::O 46::O 47::O 48::O 49::O 50::O 51::O 52::O 53::O 54::O 55::O 56::O 57::O 58::O 59::O 60::O 61::O 62::O 63::O 64::O 65::O 66::O 67::O 68::[] : List Value)) ∧ St wb [Cells b2 (([v3, Value.int .i64 x26, Value.int .u64 x27] : List Value)) 85, Cells b6 (([Value.int .i8 0, Value.int .i8 0, Value.slice none 0 0] : List Value)) 27, Row 31 (K.int .u16) v31 x32, Cells b9 (([Value.int .i8 x28, Value.int .i8 x29, v31] : List Value)) 27, Z] w) N ⟨r12.2.f_at, r12.2.f_seed, i8w (i64w (2 + r8.1)), i8w r11.1, Value.slice none 0 0, [], r12.1, Ho, rfl, hs⟩ ?_ ?_
  ·
   rintro _ _ ⟨x26, x27, x28, x29, v31, x32, x33, h, _⟩
   exact rounds_zero h
  intro n_ ih1_
  rintro t w ⟨x26, x27, x28, x29, v31, x32, x33, Ho, hf, hs⟩
  obtain ⟨O, rfl⟩ := hf.open
  try dsimp only
  obtain ⟨x11_, H, Hx1_⟩ := rounds_succ Ho
  have H : spec_l05Drawn.b0 N a1 x26 x27 x28 x29 x32 x33 = some x11_ := H
  unfold spec_l05Drawn.b0 at H
  refine g_seq (g_seq (g_region ?_))
  show G _ _ _ (.inRegion _ [0, 1] :: _) _ _
  refine g_op (v := Value.int .i64 x33) rfl rfl rfl (g_d rfl ?_)
  refine g_op_b (B := decide (x33 > 0)) rfl rfl rfl ?_ ?_
  ·
   intro hb
   rw [if_pos (b_dec_t hb)] at H
   refine g_d rfl ?_
   try dsimp only [set0,setS]
   refine g_ops_nil (g_cond_true rfl (g_skip (g_seq ?_)))
   refine g_block (g_seq (g_region ?_))
   show G _ _ _ (.inRegion _ [0, 1, 2, 3, 4, 5] :: _) _ _
   refine g_op (v := Value.pointer (some ⟨b2, 0, none⟩)) rfl rfl rfl (g_d rfl ?_)
   refine g_op (v := Value.pointer (some ⟨b9, 0, none⟩)) rfl rfl rfl (g_d rfl ?_)
   refine s_load1 rfl rfl (v := Value.int .i8 x28) rfl rfl (fun _ => rfl) (cells_load (hs.cells 3 rfl) 0 1 rfl) (g_d rfl ?_)
   try dsimp only [set0,setS]
   refine g_op (v := Value.int .i64 (i64w x28)) rfl rfl rfl (g_d rfl ?_)
   obtain ⟨r34, Hr34, H⟩ := bind_get H
   have hs := hs.pull 0 rfl
   have hs : St _ [_,_,_,_,_] _ := hs
   have hs := hs.pack 1
   refine s_call (args := [Value.pointer (some ⟨b2, 0, none⟩), Value.int .i64 (i64w x28)]) rfl rfl (x_call rfl (callFunc_enter Try.func45 rfl rfl) rfl) (_spec_l00Src_pick.calls (a1 := (⟨a1.f_code, x26, x27⟩ : S_spec_l00Src)) (a6 := i64w x28) hs hr4 Hr34) ?_
   rintro _ w ⟨rfl, hs⟩
   have hs := St.unpack (Γ := [_]) hs
   have hs : St _ [_,_,_,_,_] _ := hs
   refine g_d rfl ?_
   try dsimp only [set0,setS]
   refine g_op (v := Value.int .i64 r34.1) rfl rfl rfl (g_d rfl ?_)
   try dsimp only [set0,setS]
   refine g_ops_nil (g_seq ?_)
   obtain ⟨r35, Hr35, H⟩ := bind_get H
   obtain ⟨gd6, H⟩ := ite_get H
   refine g_name ?_
   intro T hT
   refine g_any (n := 14) rfl [0, 1, 2, 3, 4, 5, 6, 7, 8, 9, 10, 11, 12, 13] [0, 1, 2, 3, 4, 5, 6, 7, 8, 9, 10, 11, 12, 13] rfl rfl (Inv := fun D t w => ∃ O : Nat → Value, t = (Value.pointer (some ⟨b2, 0, none⟩)::O 1::Value.pointer (some ⟨b6, 0, none⟩)::Value.pointer (some ⟨b9, 0, none⟩)::Value.int .i64 x33::Value.int .i64 r34.1::cnd (D 13) (Value.int .i64 ((i64w ((i64w (r34.1 + 1)) + r35.1)).tmod (i64w x28))) (O 6)::O 7::O 8::O 9::O 10::O 11::O 12::O 13::O 14::O 15::O 16::O 17::O 18::O 19::O 20::O 21::Value.int .i64 x33::Value.bool true::O 24::O 25::Value.pointer (some ⟨b2, 0, none⟩)::Value.pointer (some ⟨b9, 0, none⟩)::Value.int .i8 x28::Value.int .i64 (i64w x28)::Value.int .i64 r34.1::cnd (D 0) (Value.int .i64 r34.1) (O 31)::cnd (D 1) (Value.int .i64 (i64w (r34.1 + 1))) (O 32)::cnd (D 2) (Value.pointer (some ⟨b2, 0, none⟩)) (O 33)::cnd (D 3) (Value.pointer (some ⟨b9, 0, none⟩)) (O 34)::cnd (D 4) (Value.int .i8 x28) (O 35)::cnd (D 5) (Value.int .i64 (i64w x28)) (O 36)::cnd (D 6) (Value.int .i64 (i64w ((i64w x28) - 1))) (O 37)::cnd (D 7) (Value.int .i64 r35.1) (O 38)::cnd (D 8) (Value.int .i64 (i64w ((i64w (r34.1 + 1)) + r35.1))) (O 39)::cnd (D 9) (Value.pointer (some ⟨b9, 0, none⟩)) (O 40)::cnd (D 10) (Value.int .i8 x28) (O 41)::cnd (D 11) (Value.int .i64 (i64w x28)) (O 42)::cnd (D 12) (Value.int .i64 ((i64w ((i64w (r34.1 + 1)) + r35.1)).tmod (i64w x28))) (O 43)::O 44::O 45::O 46::O 47::O 48::O 49::O 50::O 51::O 52::O 53::O 54::O 55::O 56::O 57::O 58::O 59::O 60::O 61::O 62::O 63::O 64::O 65::O 66::O 67::O 68::[]) ∧ St wb [Cells b2 (cnd (D 7) (([v3, Value.int .i64 r35.2.f_at, Value.int .u64 r35.2.f_seed] : List Value)) (([v3, Value.int .i64 r34.2.f_at, Value.int .u64 r34.2.f_seed] : List Value))) 85, Cells b6 (([Value.int .i8 0, Value.int .i8 0, Value.slice none 0 0] : List Value)) 27, Row 31 (K.int .u16) v31 x32, Cells b9 (([Value.int .i8 x28, Value.int .i8 x29, v31] : List Value)) 27, Z] w) ?_ ⟨⟨⟨⟨⟨⟨⟨⟨⟨⟨⟨⟨⟨⟨trivial, ?_⟩, ?_⟩, ?_⟩, ?_⟩, ?_⟩, ?_⟩, ?_⟩, ?_⟩, ?_⟩, ?_⟩, ?_⟩, ?_⟩, ?_⟩, ?_⟩ ?_
   ·
    intro w hh hbw
    have hs := hs.samew hh hbw
    exact ⟨fun i => T.getD i undef, (by subst hT; rfl), hs⟩
   ·
    intro D t w hD hp hcl hI rest hk
    obtain ⟨O, ht, hs⟩ := hI
    have q1_ := nz hcl 1 0 hD
    have q8_ := nz hcl 8 0 q1_
    have q12_ := nz hcl 12 0 q8_
    have q13_ := nz hcl 13 0 q12_
    simp only [hD, q1_, q8_, q12_, q13_, cq] at ht hs
    subst ht
    refine g_op (v := Value.int .i64 r34.1) rfl rfl rfl (g_d rfl ?_)
    try dsimp only [set0,setS]
    refine hk _ _ ⟨O, ?_, hs.cast ?_⟩ <;> simp only [lq, cq, Nat.reduceBEq, q1_, q8_, q12_, q13_]
   ·
    intro D t w hD hp hcl hI rest hk
    obtain ⟨O, ht, hs⟩ := hI
    obtain ⟨p0_, _⟩ := hp
    have q8_ := nz hcl 8 0 hD
    have q12_ := nz hcl 12 0 q8_
    have q13_ := nz hcl 13 0 q12_
    simp only [hD, p0_, q8_, q12_, q13_, cq] at ht hs
    subst ht
    refine g_op (v := Value.int .i64 (i64w (r34.1 + 1))) rfl rfl rfl (g_d rfl ?_)
    try dsimp only [set0,setS]
    refine hk _ _ ⟨O, ?_, hs.cast ?_⟩ <;> simp only [lq, cq, Nat.reduceBEq, p0_, q8_, q12_, q13_]
   ·
    intro D t w hD hp hcl hI rest hk
    obtain ⟨O, ht, hs⟩ := hI
    have q7_ := nz hcl 7 0 hD
    have q8_ := nz hcl 8 1 q7_
    have q12_ := nz hcl 12 0 q8_
    have q13_ := nz hcl 13 0 q12_
    simp only [hD, q7_, q8_, q12_, q13_, cq] at ht hs
    subst ht
    refine g_op (v := Value.pointer (some ⟨b2, 0, none⟩)) rfl rfl rfl (g_d rfl ?_)
    try dsimp only [set0,setS]
    refine hk _ _ ⟨O, ?_, hs.cast ?_⟩ <;> simp only [lq, cq, Nat.reduceBEq, q7_, q8_, q12_, q13_]
   ·
    intro D t w hD hp hcl hI rest hk
    obtain ⟨O, ht, hs⟩ := hI
    have q4_ := nz hcl 4 0 hD
    have q5_ := nz hcl 5 0 q4_
    have q6_ := nz hcl 6 0 q5_
    have q7_ := nz hcl 7 1 q6_
    have q8_ := nz hcl 8 1 q7_
    have q12_ := nz hcl 12 0 q8_
    have q13_ := nz hcl 13 0 q12_
    simp only [hD, q4_, q5_, q6_, q7_, q8_, q12_, q13_, cq] at ht hs
    subst ht
    refine g_op (v := Value.pointer (some ⟨b9, 0, none⟩)) rfl rfl rfl (g_d rfl ?_)
    try dsimp only [set0,setS]
    refine hk _ _ ⟨O, ?_, hs.cast ?_⟩ <;> simp only [lq, cq, Nat.reduceBEq, q4_, q5_, q6_, q7_, q8_, q12_, q13_]
   ·
    intro D t w hD hp hcl hI rest hk
    obtain ⟨O, ht, hs⟩ := hI
    obtain ⟨p3_, _⟩ := hp
    have q5_ := nz hcl 5 0 hD
    have q6_ := nz hcl 6 0 q5_
    have q7_ := nz hcl 7 1 q6_
    have q8_ := nz hcl 8 1 q7_
    have q12_ := nz hcl 12 0 q8_
    have q13_ := nz hcl 13 0 q12_
    simp only [hD, p3_, q5_, q6_, q7_, q8_, q12_, q13_, cq] at ht hs
    subst ht
    refine s_load1 rfl rfl (v := Value.int .i8 x28) rfl rfl (fun _ => rfl) (cells_load (hs.cells 3 rfl) 0 1 rfl) (g_d rfl ?_)
    try dsimp only [set0,setS]
    refine hk _ _ ⟨O, ?_, hs.cast ?_⟩ <;> simp only [lq, cq, Nat.reduceBEq, p3_, q5_, q6_, q7_, q8_, q12_, q13_]
   ·
    intro D t w hD hp hcl hI rest hk
    obtain ⟨O, ht, hs⟩ := hI
    obtain ⟨p4_, _⟩ := hp
    obtain ⟨p3_, _⟩ := (hcl.get 4 (by decide)) p4_
    have q6_ := nz hcl 6 0 hD
    have q7_ := nz hcl 7 1 q6_
    have q8_ := nz hcl 8 1 q7_
    have q12_ := nz hcl 12 0 q8_
    have q13_ := nz hcl 13 0 q12_
    simp only [hD, p3_, p4_, q6_, q7_, q8_, q12_, q13_, cq] at ht hs
    subst ht
    refine g_op (v := Value.int .i64 (i64w x28)) rfl rfl rfl (g_d rfl ?_)
    try dsimp only [set0,setS]
    refine hk _ _ ⟨O, ?_, hs.cast ?_⟩ <;> simp only [lq, cq, Nat.reduceBEq, p3_, p4_, q6_, q7_, q8_, q12_, q13_]
   ·
    intro D t w hD hp hcl hI rest hk
    obtain ⟨O, ht, hs⟩ := hI
    obtain ⟨p5_, _⟩ := hp
    obtain ⟨p4_, _⟩ := (hcl.get 5 (by decide)) p5_
    obtain ⟨p3_, _⟩ := (hcl.get 4 (by decide)) p4_
    have q7_ := nz hcl 7 1 hD
    have q8_ := nz hcl 8 1 q7_
    have q12_ := nz hcl 12 0 q8_
    have q13_ := nz hcl 13 0 q12_
    simp only [hD, p3_, p4_, p5_, q7_, q8_, q12_, q13_, cq] at ht hs
    subst ht
    refine g_op (v := Value.int .i64 (i64w ((i64w x28) - 1))) rfl rfl rfl (g_d rfl ?_)
    try dsimp only [set0,setS]
    refine hk _ _ ⟨O, ?_, hs.cast ?_⟩ <;> simp only [lq, cq, Nat.reduceBEq, p3_, p4_, p5_, q7_, q8_, q12_, q13_]
   ·
    intro D t w hD hp hcl hI rest hk
    obtain ⟨O, ht, hs⟩ := hI
    obtain ⟨p2_, p6_, _⟩ := hp
    obtain ⟨p5_, _⟩ := (hcl.get 6 (by decide)) p6_
    obtain ⟨p4_, _⟩ := (hcl.get 5 (by decide)) p5_
    obtain ⟨p3_, _⟩ := (hcl.get 4 (by decide)) p4_
    have q8_ := nz hcl 8 1 hD
    have q12_ := nz hcl 12 0 q8_
    have q13_ := nz hcl 13 0 q12_
    simp only [hD, p2_, p3_, p4_, p5_, p6_, q8_, q12_, q13_, cq] at ht hs
    subst ht
    have hs := hs.pull 0 rfl
    have hs : St _ [_,_,_,_,_] _ := hs
    have hs := hs.pack 1
    refine s_call (args := [Value.pointer (some ⟨b2, 0, none⟩), Value.int .i64 (i64w ((i64w x28) - 1))]) rfl rfl (x_call rfl (callFunc_enter Try.func45 rfl rfl) rfl) (_spec_l00Src_pick.calls (a1 := (⟨a1.f_code, r34.2.f_at, r34.2.f_seed⟩ : S_spec_l00Src)) (a6 := i64w ((i64w x28) - 1)) hs hr4 Hr35) ?_
    rintro _ w ⟨rfl, hs⟩
    have hs := St.unpack (Γ := [_]) hs
    have hs : St _ [_,_,_,_,_] _ := hs
    refine g_d rfl ?_
    try dsimp only [set0,setS]
    have hs := hs.push 0 (by simp)
    refine hk _ _ ⟨O, ?_, hs.cast ?_⟩ <;> simp only [lq, cq, Nat.reduceBEq, p2_, p3_, p4_, p5_, p6_, q8_, q12_, q13_]
   ·
    intro D t w hD hp hcl hI rest hk
    obtain ⟨O, ht, hs⟩ := hI
    obtain ⟨p1_, p7_, _⟩ := hp
    obtain ⟨p2_, p6_, _⟩ := (hcl.get 7 (by decide)) p7_
    obtain ⟨p5_, _⟩ := (hcl.get 6 (by decide)) p6_
    obtain ⟨p4_, _⟩ := (hcl.get 5 (by decide)) p5_
    obtain ⟨p3_, _⟩ := (hcl.get 4 (by decide)) p4_
    obtain ⟨p0_, _⟩ := (hcl.get 1 (by decide)) p1_
    have q12_ := nz hcl 12 0 hD
    have q13_ := nz hcl 13 0 q12_
    simp only [hD, p0_, p1_, p2_, p3_, p4_, p5_, p6_, p7_, q12_, q13_, cq] at ht hs
    subst ht
    refine g_op (v := Value.int .i64 (i64w ((i64w (r34.1 + 1)) + r35.1))) rfl rfl rfl (g_d rfl ?_)
    try dsimp only [set0,setS]
    refine hk _ _ ⟨O, ?_, hs.cast ?_⟩ <;> simp only [lq, cq, Nat.reduceBEq, p0_, p1_, p2_, p3_, p4_, p5_, p6_, p7_, q12_, q13_]
   ·
    intro D t w hD hp hcl hI rest hk
    obtain ⟨O, ht, hs⟩ := hI
    have q10_ := nz hcl 10 0 hD
    have q11_ := nz hcl 11 0 q10_
    have q12_ := nz hcl 12 1 q11_
    have q13_ := nz hcl 13 0 q12_
    simp only [hD, q10_, q11_, q12_, q13_, cq] at ht hs
    subst ht
    refine g_op (v := Value.pointer (some ⟨b9, 0, none⟩)) rfl rfl rfl (g_d rfl ?_)
    try dsimp only [set0,setS]
    refine hk _ _ ⟨O, ?_, hs.cast ?_⟩ <;> simp only [lq, cq, Nat.reduceBEq, q10_, q11_, q12_, q13_]
   ·
    intro D t w hD hp hcl hI rest hk
    obtain ⟨O, ht, hs⟩ := hI
    obtain ⟨p9_, _⟩ := hp
    have q11_ := nz hcl 11 0 hD
    have q12_ := nz hcl 12 1 q11_
    have q13_ := nz hcl 13 0 q12_
    simp only [hD, p9_, q11_, q12_, q13_, cq] at ht hs
    subst ht
    refine s_load1 rfl rfl (v := Value.int .i8 x28) rfl rfl (fun _ => rfl) (cells_load (hs.cells 3 rfl) 0 1 rfl) (g_d rfl ?_)
    try dsimp only [set0,setS]
    refine hk _ _ ⟨O, ?_, hs.cast ?_⟩ <;> simp only [lq, cq, Nat.reduceBEq, p9_, q11_, q12_, q13_]
   ·
    intro D t w hD hp hcl hI rest hk
    obtain ⟨O, ht, hs⟩ := hI
    obtain ⟨p10_, _⟩ := hp
    obtain ⟨p9_, _⟩ := (hcl.get 10 (by decide)) p10_
    have q12_ := nz hcl 12 1 hD
    have q13_ := nz hcl 13 0 q12_
    simp only [hD, p9_, p10_, q12_, q13_, cq] at ht hs
    subst ht
    refine g_op (v := Value.int .i64 (i64w x28)) rfl rfl rfl (g_d rfl ?_)
    try dsimp only [set0,setS]
    refine hk _ _ ⟨O, ?_, hs.cast ?_⟩ <;> simp only [lq, cq, Nat.reduceBEq, p9_, p10_, q12_, q13_]
   ·
    intro D t w hD hp hcl hI rest hk
    obtain ⟨O, ht, hs⟩ := hI
    obtain ⟨p8_, p11_, _⟩ := hp
    obtain ⟨p10_, _⟩ := (hcl.get 11 (by decide)) p11_
    obtain ⟨p9_, _⟩ := (hcl.get 10 (by decide)) p10_
    obtain ⟨p1_, p7_, _⟩ := (hcl.get 8 (by decide)) p8_
    obtain ⟨p2_, p6_, _⟩ := (hcl.get 7 (by decide)) p7_
    obtain ⟨p5_, _⟩ := (hcl.get 6 (by decide)) p6_
    obtain ⟨p4_, _⟩ := (hcl.get 5 (by decide)) p5_
    obtain ⟨p3_, _⟩ := (hcl.get 4 (by decide)) p4_
    obtain ⟨p0_, _⟩ := (hcl.get 1 (by decide)) p1_
    have q13_ := nz hcl 13 0 hD
    simp only [hD, p0_, p1_, p2_, p3_, p4_, p5_, p6_, p7_, p8_, p9_, p10_, p11_, q13_, cq] at ht hs
    subst ht
    refine g_op (v := Value.int .i64 ((i64w ((i64w (r34.1 + 1)) + r35.1)).tmod (i64w x28))) rfl rfl (x_divrem rfl rfl rfl gd6) (g_d rfl ?_)
    try dsimp only [set0,setS]
    refine hk _ _ ⟨O, ?_, hs.cast ?_⟩ <;> simp only [lq, cq, Nat.reduceBEq, p0_, p1_, p2_, p3_, p4_, p5_, p6_, p7_, p8_, p9_, p10_, p11_, q13_]
   ·
    intro D t w hD hp hcl hI rest hk
    obtain ⟨O, ht, hs⟩ := hI
    obtain ⟨p12_, p7_, p0_, p1_, p2_, p3_, p4_, p5_, p6_, _, p8_, p9_, p10_, p11_, _, _⟩ := hp
    simp only [hD, p0_, p1_, p2_, p3_, p4_, p5_, p6_, p7_, p8_, p9_, p10_, p11_, p12_, cq] at ht hs
    subst ht
    refine g_op (v := Value.int .i64 ((i64w ((i64w (r34.1 + 1)) + r35.1)).tmod (i64w x28))) rfl rfl rfl (g_d rfl ?_)
    try dsimp only [set0,setS]
    refine hk _ _ ⟨O, ?_, hs.cast ?_⟩ <;> simp only [lq, cq, Nat.reduceBEq, p0_, p1_, p2_, p3_, p4_, p5_, p6_, p7_, p8_, p9_, p10_, p11_, p12_]
   intro D t w hall hI
   obtain ⟨O, ht, hs⟩ := hI
   have p0_ : D 0 = true := hall 0 (by decide)
   have p1_ : D 1 = true := hall 1 (by decide)
   have p2_ : D 2 = true := hall 2 (by decide)
   have p3_ : D 3 = true := hall 3 (by decide)
   have p4_ : D 4 = true := hall 4 (by decide)
   have p5_ : D 5 = true := hall 5 (by decide)
   have p6_ : D 6 = true := hall 6 (by decide)
   have p7_ : D 7 = true := hall 7 (by decide)
   have p8_ : D 8 = true := hall 8 (by decide)
   have p9_ : D 9 = true := hall 9 (by decide)
   have p10_ : D 10 = true := hall 10 (by decide)
   have p11_ : D 11 = true := hall 11 (by decide)
   have p12_ : D 12 = true := hall 12 (by decide)
   have p13_ : D 13 = true := hall 13 (by decide)
   simp only [p0_, p1_, p2_, p3_, p4_, p5_, p6_, p7_, p8_, p9_, p10_, p11_, p12_, p13_, cq] at ht hs
   subst ht
   refine g_seq (g_region ?_)
   show G _ _ _ (.inRegion _ [0, 1, 2, 3, 4, 5, 6, 7] :: _) _ _
   refine g_op (v := Value.int .i64 r34.1) rfl rfl rfl (g_d rfl ?_)
   refine g_op (v := Value.int .u64 (u64w r34.1)) rfl rfl rfl (g_d rfl ?_)
   obtain ⟨g7, H⟩ := ite_get H
   refine g_op (v := Value.int .u16 (shlI .u16 1 (u64w r34.1))) rfl rfl (x_shl rfl rfl rfl g7) (g_d rfl ?_)
   try dsimp only [set0,setS]
   refine g_op (v := Value.int .i64 ((i64w ((i64w (r34.1 + 1)) + r35.1)).tmod (i64w x28))) rfl rfl rfl (g_d rfl ?_)
   refine g_op (v := Value.int .u64 (u64w ((i64w ((i64w (r34.1 + 1)) + r35.1)).tmod (i64w x28)))) rfl rfl rfl (g_d rfl ?_)
   obtain ⟨g8, H⟩ := ite_get H
   refine g_op (v := Value.int .u16 (shlI .u16 1 (u64w ((i64w ((i64w (r34.1 + 1)) + r35.1)).tmod (i64w x28))))) rfl rfl (x_shl rfl rfl rfl g8) (g_d rfl ?_)
   try dsimp only [set0,setS]
   refine g_op (v := Value.int .u16 (bOr .u16 (shlI .u16 1 (u64w r34.1)) (shlI .u16 1 (u64w ((i64w ((i64w (r34.1 + 1)) + r35.1)).tmod (i64w x28)))))) rfl rfl rfl (g_d rfl ?_)
   try dsimp only [set0,setS]
   refine g_op (v := Value.int .u16 (bOr .u16 (shlI .u16 1 (u64w r34.1)) (shlI .u16 1 (u64w ((i64w ((i64w (r34.1 + 1)) + r35.1)).tmod (i64w x28)))))) rfl rfl rfl (g_d rfl ?_)
   try dsimp only [set0,setS]
   refine g_ops_nil (g_seq (g_seq ?_))
   refine g_join2 (J := (fun t w => ∃ x38 : Int, ∃ x39 : Int, ∃ x41 : Int, spec_l05Drawn.j2 N x32 x28 x29 x33 x38 x39 x41 = some x11_ ∧ Fr t (fun O => (Value.pointer (some ⟨b2, 0, none⟩)::O 1::Value.pointer (some ⟨b6, 0, none⟩)::Value.pointer (some ⟨b9, 0, none⟩)::Value.int .i64 x33::O 5::O 6::Value.int .u16 x41::O 8::O 9::O 10::O 11::O 12::O 13::O 14::O 15::O 16::O 17::O 18::O 19::O 20::O 21::O 22::O 23::O 24::O 25::O 26::O 27::O 28::O 29::O 30::O 31::O 32::O 33::O 34::O 35::O 36::O 37::O 38::O 39::O 40::O 41::O 42::O 43::O 44::O 45::O 46::O 47::O 48::O 49::O 50::O 51::O 52::O 53::O 54::O 55::O 56::O 57::O 58::O 59::O 60::O 61::O 62::O 63::O 64::O 65::O 66::O 67::O 68::[] : List Value)) ∧ St wb [Cells b2 (([v3, Value.int .i64 x38, Value.int .u64 x39] : List Value)) 85, Cells b6 (([Value.int .i8 0, Value.int .i8 0, Value.slice none 0 0] : List Value)) 27, Cells b9 (([Value.int .i8 x28, Value.int .i8 x29, v31] : List Value)) 27, Row 31 (K.int .u16) v31 x32, Z] w)) ?_ ?_
   ·
    rintro t w ⟨x38, x39, x41, H, hf, hs⟩
    obtain ⟨O, rfl⟩ := hf.open
    try dsimp only
    unfold spec_l05Drawn.j2 at H
    refine g_region ?_
    show G _ _ _ (.inRegion _ [0, 1, 2, 3, 4, 5, 6] :: _) _ _
    refine g_op (v := Value.pointer (some ⟨b9, 2, none⟩)) rfl rfl rfl (g_d rfl ?_)
    refine s_load1 rfl rfl (v := v31) rfl rfl (fun _ => rfl) (cells_load (hs.cells 2 rfl) 2 1 rfl) (g_d rfl ?_)
    try dsimp only [set0,setS]
    refine g_op (v := Value.int .u16 x41) rfl rfl rfl (g_d rfl ?_)
    refine s_lit1 (fkI .u16) (y := x41) hs rfl rfl rfl rfl (fun _ => rfl) (zv := (Value.int .u16 0)) (fun _ => rfl) rfl (by decide) (by decide) rfl ?_
    intro v42 w hs
    refine g_d rfl ?_
    try dsimp only [set0,setS]
    have hs := hs.pull 4 rfl
    have hs : St _ [_,_,_,_,_,_] _ := hs
    obtain ⟨g, H⟩ := ite_get H
    refine s_append (fkI .u16) (zv := (Value.int .u16 0)) (B := 2) hs (hs.row 1 rfl) rfl rfl rfl rfl rfl rfl rfl rfl rfl (by decide) rfl rfl (by decide) (by omega) ?_
    intro v44 w hs
    refine g_d rfl ?_
    try dsimp only [set0,setS]
    refine g_op (v := Value.pointer (some ⟨b9, 2, none⟩)) rfl rfl rfl (g_d rfl ?_)
    have hs := hs.pull 4 rfl
    have hs : St _ [_,_,_,_,_,_] _ := hs
    refine s_store hs rfl rfl (vs := [v44]) (cs' := (([Value.int .i8 x28, Value.int .i8 x29, v44] : List Value))) rfl rfl (slCells (hs.row 1 rfl)) (n := 1) (fun _ => rfl) rfl (by first | exact Nat.le_of_ble_eq_true rfl | simp [encAI_len, encAB_len, encA_len]) (by intro v hv; simp only [List.mem_cons, List.not_mem_nil, or_false] at hv; subst hv; exact slOne (hs.row 1 rfl)) rfl ?_
    intro w hs
    refine g_n rfl (g_ops_nil ?_)
    refine g_inBlock (g_region ?_)
    show G _ _ _ (.inRegion _ [0, 1, 2] :: _) _ _
    refine g_op (v := Value.int .i64 x33) rfl rfl rfl (g_d rfl ?_)
    refine g_op (v := Value.int .i64 (i64w (x33 - 1))) rfl rfl rfl (g_d rfl ?_)
    try dsimp only [set0,setS]
    refine g_op (v := Value.int .i64 (i64w (x33 - 1))) rfl rfl rfl (g_d rfl ?_)
    try dsimp only [set0,setS]
    refine g_ops_nil ?_
    obtain rfl := Option.some.inj H
    have hs := hs.pull 5 rfl
    have hs := hs.pull 1 rfl
    have hs := hs.pull 2 rfl
    have hs := hs.pull 5 rfl
    have hs := hs.pull 5 rfl
    have hs : St _ [_,_,_,_,_] _ := St.take (Γ' := [_]) hs
    exact ih1_ _ _ ⟨x38, x39, x28, x29, v44, x32 ++ ([x41]), i64w (x33 - 1), Hx1_, rfl, hs⟩
   intro ha
   refine g_region ?_
   show G _ _ _ (.inRegion _ [0, 1] :: _) _ _
   refine g_op (v := Value.pointer (some ⟨b2, 0, none⟩)) rfl rfl rfl (g_d rfl ?_)
   obtain ⟨r36, Hr36, H⟩ := bind_get H
   have hs := hs.pull 0 rfl
   have hs : St _ [_,_,_,_,_] _ := hs
   have hs := hs.pack 1
   refine s_call (args := [Value.pointer (some ⟨b2, 0, none⟩), Value.int .i64 5]) rfl rfl (x_call rfl (callFunc_enter Try.func46 rfl rfl) rfl) (_spec_l00Src_one.calls (a1 := (⟨a1.f_code, r35.2.f_at, r35.2.f_seed⟩ : S_spec_l00Src)) (a6 := 5) hs hr4 Hr36) ?_
   rintro _ w ⟨rfl, hs⟩
   have hs := St.unpack (Γ := [_]) hs
   have hs : St _ [_,_,_,_,_] _ := hs
   generalize hb9_ : r36.1 = b_ at H ⊢
   cases b_ with
   | true =>
     rw [if_pos rfl] at H
     refine g_d rfl ?_
     try dsimp only [set0,setS]
     refine g_ops_nil (g_cond_true rfl (g_region ?_))
     show G _ _ _ (.inRegion _ [0, 1, 2, 3, 4, 5, 6, 7, 8, 9] :: _) _ _
     refine g_op (v := Value.int .u16 (bOr .u16 (shlI .u16 1 (u64w r34.1)) (shlI .u16 1 (u64w ((i64w ((i64w (r34.1 + 1)) + r35.1)).tmod (i64w x28)))))) rfl rfl rfl (g_d rfl ?_)
     refine g_op (v := Value.pointer (some ⟨b2, 0, none⟩)) rfl rfl rfl (g_d rfl ?_)
     refine g_op (v := Value.pointer (some ⟨b9, 0, none⟩)) rfl rfl rfl (g_d rfl ?_)
     refine s_load1 rfl rfl (v := Value.int .i8 x28) rfl rfl (fun _ => rfl) (cells_load (hs.cells 3 rfl) 0 1 rfl) (g_d rfl ?_)
     try dsimp only [set0,setS]
     refine g_op (v := Value.int .i64 (i64w x28)) rfl rfl rfl (g_d rfl ?_)
     obtain ⟨r37, Hr37, H⟩ := bind_get H
     have hs := hs.pull 0 rfl
     have hs : St _ [_,_,_,_,_] _ := hs
     have hs := hs.pack 1
     refine s_call (args := [Value.pointer (some ⟨b2, 0, none⟩), Value.int .i64 (i64w x28)]) rfl rfl (x_call rfl (callFunc_enter Try.func45 rfl rfl) rfl) (_spec_l00Src_pick.calls (a1 := (⟨a1.f_code, r36.2.f_at, r36.2.f_seed⟩ : S_spec_l00Src)) (a6 := i64w x28) hs hr4 Hr37) ?_
     rintro _ w ⟨rfl, hs⟩
     have hs := St.unpack (Γ := [_]) hs
     have hs : St _ [_,_,_,_,_] _ := hs
     refine g_d rfl ?_
     try dsimp only [set0,setS]
     refine g_op (v := Value.int .u64 (u64w r37.1)) rfl rfl rfl (g_d rfl ?_)
     obtain ⟨g10, H⟩ := ite_get H
     refine g_op (v := Value.int .u16 (shlI .u16 1 (u64w r37.1))) rfl rfl (x_shl rfl rfl rfl g10) (g_d rfl ?_)
     try dsimp only [set0,setS]
     refine g_op (v := Value.int .u16 (bOr .u16 (bOr .u16 (shlI .u16 1 (u64w r34.1)) (shlI .u16 1 (u64w ((i64w ((i64w (r34.1 + 1)) + r35.1)).tmod (i64w x28))))) (shlI .u16 1 (u64w r37.1)))) rfl rfl rfl (g_d rfl ?_)
     try dsimp only [set0,setS]
     refine g_op (v := Value.int .u16 (bOr .u16 (bOr .u16 (shlI .u16 1 (u64w r34.1)) (shlI .u16 1 (u64w ((i64w ((i64w (r34.1 + 1)) + r35.1)).tmod (i64w x28))))) (shlI .u16 1 (u64w r37.1)))) rfl rfl rfl (g_d rfl ?_)
     try dsimp only [set0,setS]
     refine g_ops_nil ?_
     have hs := hs.pull 4 rfl
     have hs := hs.pull 3 rfl
     have hs := hs.pull 4 rfl
     have hs := hs.pull 4 rfl
     have hs := hs.pull 4 rfl
     have hs : St _ [_,_,_,_,_] _ := St.take (Γ' := []) hs
     exact ha _ _ ⟨r37.2.f_at, r37.2.f_seed, bOr .u16 (bOr .u16 (shlI .u16 1 (u64w r34.1)) (shlI .u16 1 (u64w ((i64w ((i64w (r34.1 + 1)) + r35.1)).tmod (i64w x28))))) (shlI .u16 1 (u64w r37.1)), H, rfl, hs⟩
   | false =>
     rw [if_neg Bool.false_ne_true] at H
     refine g_d rfl ?_
     try dsimp only [set0,setS]
     refine g_ops_nil (g_cond_false rfl (g_skip ?_))
     have hs := hs.pull 4 rfl
     have hs := hs.pull 3 rfl
     have hs := hs.pull 4 rfl
     have hs := hs.pull 4 rfl
     have hs := hs.pull 4 rfl
     have hs : St _ [_,_,_,_,_] _ := St.take (Γ' := []) hs
     exact ha _ _ ⟨r36.2.f_at, r36.2.f_seed, bOr .u16 (shlI .u16 1 (u64w r34.1)) (shlI .u16 1 (u64w ((i64w ((i64w (r34.1 + 1)) + r35.1)).tmod (i64w x28)))), H, rfl, hs⟩
  intro hb
  rw [if_neg (b_dec_f hb)] at H
  refine g_d rfl ?_
  try dsimp only [set0,setS]
  refine g_ops_nil (g_cond_false rfl ?_)
  obtain rfl := Option.some.inj H
  subst Hx1_
  have hs := hs.pull 4 rfl
  have hs := hs.pull 1 rfl
  have hs := hs.pull 3 rfl
  have hs := hs.pull 4 rfl
  have hs := hs.pull 4 rfl
  have hs : St _ [_,_,_,_,_] _ := St.take (Γ' := []) hs
  refine g_exit rfl ?_
  exact ha1_ _ _ ⟨x28, x29, v31, x32, x26, x27, Hr1_, rfl, hs⟩

/- function 5 spec_A2Ferry -/
def spec_A2Ferry.post (w0 : World) (r : S_impl_Ferry) (v : Value) (w : World) : Prop := ∃ u1 : Value, v = Value.agg (([Value.int .i8 r.f_Things, Value.int .i8 r.f_Boat, u1] : List Value)).toArray ∧ St w0 [Row 31 (K.int .u16) u1 r.f_Rules] w
set_option maxHeartbeats 8000000 in
set_option maxRecDepth 100000 in
theorem spec_A2Ferry.calls {N : Nat} {a1 : (List Int)} {v2 : Value} {w0 : World} {r : S_impl_Ferry} (hr0 : RdRow (K.int .u8) w0 v2 a1) (H : spec_A2Ferry.f N a1 = some r) :
    Calls Try.prog 5 #[v2] w0 fun e w => ∃ v, e = .returned v ∧ spec_A2Ferry.post w0 r v w := by
  unfold spec_A2Ferry.f at H
  have hs : St w0 [] w0 := St.refl w0
  refine calls_of_g (n := 5) Try.func5 rfl rfl ?_
  show G _ _ _ _ [_,_,_,_,_,_] _
  refine g_seq (g_region ?_)
  show G _ _ _ (.inRegion _ [0] :: _) _ _
  refine s_alloc hs rfl rfl (z := (Value.agg #[Value.int .i8 0, Value.int .i8 0, Value.slice none 0 0])) (cs := (([Value.int .i8 0, Value.int .i8 0, Value.slice none 0 0] : List Value))) rfl (fun _ => rfl) rfl ?_
  intro b3 w hs
  show G _ _ _ _ [_,_,_,_,_,_] _
  refine g_ops_nil (g_seq (g_region ?_))
  show G _ _ _ (.inRegion _ [0, 1, 2, 3] :: _) _ _
  refine g_op (v := v2) rfl rfl rfl ?_
  show G _ _ _ _ [_,_,_,_,_,_] _
  obtain ⟨r5, Hr5, H⟩ := bind_get H
  refine s_call (args := [v2]) rfl rfl (x_call rfl (callFunc_enter Try.func22 rfl rfl) rfl) (spec_l00From.calls (a1 := a1) (hs.rd hr0) Hr5) ?_
  rintro _ w ⟨b6, rfl, hs2⟩
  have hs : St _ [_,_] _ := hs.call hs2
  show G _ _ _ _ [_,_,_,_,_,_] _
  obtain ⟨r8, Hr8, H⟩ := bind_get H
  have hs := hs.pull 0 rfl
  have hs : St _ [_,_] _ := hs
  have hs := hs.pack 1
  refine s_call (args := [Value.pointer (some ⟨b6, 0, none⟩)]) rfl rfl (x_call rfl (callFunc_enter Try.func21 rfl rfl) rfl) (spec_l05Drawn.calls (a1 := (⟨a1, r5.f_at, r5.f_seed⟩ : S_spec_l00Src)) hs hr0 Hr8) ?_
  rintro _ w ⟨v9, rfl, hs⟩
  have hs := St.unpack (Γ := [_,_]) hs
  have hs : St _ [_,_,_] _ := hs
  show G _ _ _ _ [_,_,_,_,_,_] _
  have hs := hs.pull 2 rfl
  have hs : St _ [_,_,_] _ := hs
  refine s_storeAll (n := 3) hs rfl rfl rfl (vs := (([Value.int .i8 r8.1.f_Things, Value.int .i8 r8.1.f_Boat, v9] : List Value))) rfl rfl rfl (fun _ => rfl) rfl (by intro v hv; simp only [List.mem_append, List.mem_cons, List.not_mem_nil, or_false] at hv; repeat (first | (subst hv; first | rfl | exact slOne (hs.row 1 rfl)) | (rcases hv with hv | hv))) ?_
  intro w hs
  refine g_ops_nil ?_
  obtain rfl := Option.some.inj H
  refine g_ret Try.func5 (v := Value.agg (([Value.int .i8 r8.1.f_Things, Value.int .i8 r8.1.f_Boat, v9] : List Value)).toArray) (resC rfl ⟨⟨_, rfl, (run_loadVar_agg (es := (([Value.int .i8 r8.1.f_Things, Value.int .i8 r8.1.f_Boat, v9] : List Value))) rfl rfl (cells_all (hs.cells 0 rfl)))⟩, trivial⟩) ?_
  have hs := hs.pull 1 rfl
  have hs : St _ [_] _ := St.take (Γ' := [_,_]) hs
  exact ⟨_, rfl, v9, rfl, hs⟩

/- function 39 impl_within -/
def impl_within.post (w0 : World) (r : Bool) (v : Value) (w : World) : Prop := v = Value.bool r ∧ St w0 [] w
set_option maxHeartbeats 8000000 in
set_option maxRecDepth 100000 in
theorem impl_within.calls {N : Nat} {a1 : Int} {a2 : Int} {a3 : Int} {w0 : World} {r : Bool} (H : impl_within.f N a1 a2 a3 = some r) :
    Calls Try.prog 39 #[Value.int .i64 a1, Value.int .i64 a2, Value.int .i64 a3] w0 fun e w => ∃ v, e = .returned v ∧ impl_within.post w0 r v w := by
  unfold impl_within.f at H
  have hs : St w0 [] w0 := St.refl w0
  refine calls_of_g (n := 12) Try.func39 rfl rfl ?_
  show G _ _ _ _ [_,_,_,_,_,_,_,_,_,_,_,_,_,_,_] _
  refine g_seq (g_region ?_)
  show G _ _ _ (.inRegion _ [0] :: _) _ _
  refine g_op (v := Value.bool false) rfl rfl rfl ?_
  show G _ _ _ _ [_,_,_,_,_,_,_,_,_,_,_,_,_,_,_] _
  refine g_ops_nil (g_seq (g_region ?_))
  show G _ _ _ (.inRegion _ [0, 1, 2, 3, 4, 5, 6, 7, 8] :: _) _ _
  refine g_op (v := Value.int .i64 a2) rfl rfl rfl ?_
  show G _ _ _ _ [_,_,_,_,_,_,_,_,_,_,_,_,_,_,_] _
  refine g_op (v := Value.int .i64 a1) rfl rfl rfl ?_
  show G _ _ _ _ [_,_,_,_,_,_,_,_,_,_,_,_,_,_,_] _
  refine g_op_b (B := decide (a2 ≤ a1)) rfl rfl rfl ?_ ?_
  ·
   intro hb
   rw [if_pos (b_dec_t hb)] at H
   show G _ _ _ _ [_,_,_,_,_,_,_,_,_,_,_,_,_,_,_] _
   refine g_op (v := Value.bool true) rfl rfl rfl ?_
   show G _ _ _ _ [_,_,_,_,_,_,_,_,_,_,_,_,_,_,_] _
   refine g_op (v := Value.int .i64 a1) rfl rfl rfl ?_
   show G _ _ _ _ [_,_,_,_,_,_,_,_,_,_,_,_,_,_,_] _
   refine g_op (v := Value.int .i64 a3) rfl rfl rfl ?_
   show G _ _ _ _ [_,_,_,_,_,_,_,_,_,_,_,_,_,_,_] _
   refine g_op (v := Value.bool (decide (a1 ≤ a3))) rfl rfl rfl ?_
   show G _ _ _ _ [_,_,_,_,_,_,_,_,_,_,_,_,_,_,_] _
   refine g_op (v := Value.bool (decide (a1 ≤ a3))) rfl rfl rfl ?_
   show G _ _ _ _ [_,_,_,_,_,_,_,_,_,_,_,_,_,_,_] _
   refine g_op (v := Value.bool (decide (a1 ≤ a3))) rfl rfl rfl ?_
   show G _ _ _ _ [_,_,_,_,_,_,_,_,_,_,_,_,_,_,_] _
   refine g_ops_nil ?_
   obtain rfl := Option.some.inj H
   refine g_ret Try.func39 (v := Value.bool (decide (a1 ≤ a3))) (res1 rfl rfl) ?_
   have hs : St _ [] _ := St.take (Γ' := []) hs
   exact ⟨_, rfl, rfl, hs⟩
  intro hb
  rw [if_neg (b_dec_f hb)] at H
  show G _ _ _ _ [_,_,_,_,_,_,_,_,_,_,_,_,_,_,_] _
  refine g_op (v := Value.bool false) rfl rfl rfl ?_
  show G _ _ _ _ [_,_,_,_,_,_,_,_,_,_,_,_,_,_,_] _
  refine g_op_not rfl rfl ?_
  show G _ _ _ _ [_,_,_,_,_,_,_,_,_,_,_,_,_,_,_] _
  refine g_op_not rfl rfl ?_
  show G _ _ _ _ [_,_,_,_,_,_,_,_,_,_,_,_,_,_,_] _
  refine g_op_not rfl rfl ?_
  show G _ _ _ _ [_,_,_,_,_,_,_,_,_,_,_,_,_,_,_] _
  refine g_op (v := Value.bool false) rfl rfl rfl ?_
  show G _ _ _ _ [_,_,_,_,_,_,_,_,_,_,_,_,_,_,_] _
  refine g_op (v := Value.bool false) rfl rfl rfl ?_
  show G _ _ _ _ [_,_,_,_,_,_,_,_,_,_,_,_,_,_,_] _
  refine g_ops_nil ?_
  obtain rfl := Option.some.inj H
  refine g_ret Try.func39 (v := Value.bool false) (res1 rfl rfl) ?_
  have hs : St _ [] _ := St.take (Γ' := []) hs
  exact ⟨_, rfl, rfl, hs⟩

/- function 27 _impl_Ferry_all -/
def _impl_Ferry_all.post (w0 : World) (r : Int) (v : Value) (w : World) : Prop := v = Value.int .u16 r ∧ St w0 [] w
set_option maxHeartbeats 8000000 in
set_option maxRecDepth 100000 in
theorem _impl_Ferry_all.calls {N : Nat} {a1 : S_impl_Ferry} {v2 : Value} {w0 : World} {r : Int} (hr3 : RdRow (K.int .u16) w0 v2 a1.f_Rules) (H : _impl_Ferry_all.f N a1 = some r) :
    Calls Try.prog 27 #[Value.agg (([Value.int .i8 a1.f_Things, Value.int .i8 a1.f_Boat, v2] : List Value)).toArray] w0 fun e w => ∃ v, e = .returned v ∧ _impl_Ferry_all.post w0 r v w := by
  unfold _impl_Ferry_all.f at H
  have hs : St w0 [] w0 := St.refl w0
  refine calls_of_g (n := 6) Try.func27 rfl rfl ?_
  show G _ _ _ _ [_,_,_,_,_,_,_] _
  refine g_seq (g_region ?_)
  show G _ _ _ (.inRegion _ [0, 1] :: _) _ _
  refine s_box hs rfl rfl (cs := (([Value.int .i8 a1.f_Things, Value.int .i8 a1.f_Boat, v2] : List Value))) rfl rfl ?_
  intro b4 w hs
  show G _ _ _ _ [_,_,_,_,_,_,_] _
  refine g_op (v := Value.int .u16 0) rfl rfl rfl ?_
  show G _ _ _ _ [_,_,_,_,_,_,_] _
  refine g_ops_nil (g_seq (g_region ?_))
  show G _ _ _ (.inRegion _ [0, 1, 2, 3, 4] :: _) _ _
  refine g_op (v := Value.pointer (some ⟨b4, 0, none⟩)) rfl rfl rfl ?_
  show G _ _ _ _ [_,_,_,_,_,_,_] _
  refine s_load1 rfl rfl (v := Value.int .i8 a1.f_Things) rfl rfl (fun _ => rfl) (cells_load (hs.cells 0 rfl) 0 1 rfl) ?_
  show G _ _ _ _ [_,_,_,_,_,_,_] _
  obtain ⟨g1, H⟩ := ite_get H
  refine g_op (v := Value.int .u16 (shlI .u16 1 a1.f_Things)) rfl rfl (x_shl rfl rfl rfl g1) ?_
  show G _ _ _ _ [_,_,_,_,_,_,_] _
  refine g_op (v := Value.int .u16 (u16w ((shlI .u16 1 a1.f_Things) - 1))) rfl rfl rfl ?_
  show G _ _ _ _ [_,_,_,_,_,_,_] _
  refine g_op (v := Value.int .u16 (u16w ((shlI .u16 1 a1.f_Things) - 1))) rfl rfl rfl ?_
  show G _ _ _ _ [_,_,_,_,_,_,_] _
  refine g_ops_nil ?_
  obtain rfl := Option.some.inj H
  refine g_ret Try.func27 (v := Value.int .u16 (u16w ((shlI .u16 1 a1.f_Things) - 1))) (res1 rfl rfl) ?_
  have hs : St _ [] _ := St.take (Γ' := [_]) hs
  exact ⟨_, rfl, rfl, hs⟩

/- function 49 impl_inside -/
def impl_inside.post (w0 : World) (r : Bool) (v : Value) (w : World) : Prop := v = Value.bool r ∧ St w0 [] w
set_option maxHeartbeats 8000000 in
set_option maxRecDepth 100000 in
theorem impl_inside.calls {N : Nat} {a1 : Int} {a2 : Int} {w0 : World} {r : Bool} (H : impl_inside.f N a1 a2 = some r) :
    Calls Try.prog 49 #[Value.int .u16 a1, Value.int .u16 a2] w0 fun e w => ∃ v, e = .returned v ∧ impl_inside.post w0 r v w := by
  unfold impl_inside.f at H
  have hs : St w0 [] w0 := St.refl w0
  refine calls_of_g (n := 7) Try.func49 rfl rfl ?_
  show G _ _ _ _ [_,_,_,_,_,_,_,_,_] _
  refine g_seq (g_region ?_)
  show G _ _ _ (.inRegion _ [0] :: _) _ _
  refine g_op (v := Value.bool false) rfl rfl rfl ?_
  show G _ _ _ _ [_,_,_,_,_,_,_,_,_] _
  refine g_ops_nil (g_seq (g_region ?_))
  show G _ _ _ (.inRegion _ [0, 1, 2, 3, 4] :: _) _ _
  refine g_op (v := Value.int .u16 a1) rfl rfl rfl ?_
  show G _ _ _ _ [_,_,_,_,_,_,_,_,_] _
  refine g_op (v := Value.int .u16 a2) rfl rfl rfl ?_
  show G _ _ _ _ [_,_,_,_,_,_,_,_,_] _
  refine g_op (v := Value.int .u16 (bAndNot .u16 a1 a2)) rfl rfl rfl ?_
  show G _ _ _ _ [_,_,_,_,_,_,_,_,_] _
  refine g_op (v := Value.bool ((bAndNot .u16 a1 a2) == 0)) rfl rfl rfl ?_
  show G _ _ _ _ [_,_,_,_,_,_,_,_,_] _
  refine g_op (v := Value.bool ((bAndNot .u16 a1 a2) == 0)) rfl rfl rfl ?_
  show G _ _ _ _ [_,_,_,_,_,_,_,_,_] _
  refine g_ops_nil ?_
  obtain rfl := Option.some.inj H
  refine g_ret Try.func49 (v := Value.bool ((bAndNot .u16 a1 a2) == 0)) (res1 rfl rfl) ?_
  have hs : St _ [] _ := St.take (Γ' := []) hs
  exact ⟨_, rfl, rfl, hs⟩

/- function 29 bits_OnesCount16 -/
def bits_OnesCount16.post (w0 : World) (r : Int) (v : Value) (w : World) : Prop := v = Value.int .i64 r ∧ St w0 [] w
set_option maxHeartbeats 8000000 in
set_option maxRecDepth 100000 in
theorem bits_OnesCount16.calls {N : Nat} {a1 : Int} {w0 : World} {r : Int} (H : bits_OnesCount16.f N a1 = some r) :
    Calls Try.prog 29 #[Value.int .u16 a1] w0 fun e w => ∃ v, e = .returned v ∧ bits_OnesCount16.post w0 r v w := by
  unfold bits_OnesCount16.f at H
  have hs : St w0 [] w0 := St.refl w0
  refine calls_of_g (n := 10) Try.func29 rfl rfl ?_
  show G _ _ _ _ [_,_,_,_,_,_,_,_,_,_,_] _
  refine g_seq (g_region ?_)
  show G _ _ _ (.inRegion _ [0] :: _) _ _
  refine g_op (v := Value.int .i64 0) rfl rfl rfl ?_
  show G _ _ _ _ [_,_,_,_,_,_,_,_,_,_,_] _
  refine g_ops_nil (g_seq ?_)
  obtain ⟨gd1, H⟩ := ite_get H
  obtain ⟨gd2, H⟩ := ite_get H
  refine g_name ?_
  intro T hT
  refine g_any (n := 9) rfl [0, 1, 2, 3, 4, 5, 6, 7, 8] [0, 1, 2, 3, 4, 5, 6, 7, 8] rfl rfl (Inv := fun D t w => ∃ O : Nat → Value, t = [Value.int .u16 a1, O 1, cnd (D 8) (Value.int .i64 (i64w (u8w ((btS (⟨#[0, 1, 1, 2, 1, 2, 2, 3, 1, 2, 2, 3, 2, 3, 3, 4, 1, 2, 2, 3, 2, 3, 3, 4, 2, 3, 3, 4, 3, 4, 4, 5, 1, 2, 2, 3, 2, 3, 3, 4, 2, 3, 3, 4, 3, 4, 4, 5, 2, 3, 3, 4, 3, 4, 4, 5, 3, 4, 4, 5, 4, 5, 5, 6, 1, 2, 2, 3, 2, 3, 3, 4, 2, 3, 3, 4, 3, 4, 4, 5, 2, 3, 3, 4, 3, 4, 4, 5, 3, 4, 4, 5, 4, 5, 5, 6, 2, 3, 3, 4, 3, 4, 4, 5, 3, 4, 4, 5, 4, 5, 5, 6, 3, 4, 4, 5, 4, 5, 5, 6, 4, 5, 5, 6, 5, 6, 6, 7, 1, 2, 2, 3, 2, 3, 3, 4, 2, 3, 3, 4, 3, 4, 4, 5, 2, 3, 3, 4, 3, 4, 4, 5, 3, 4, 4, 5, 4, 5, 5, 6, 2, 3, 3, 4, 3, 4, 4, 5, 3, 4, 4, 5, 4, 5, 5, 6, 3, 4, 4, 5, 4, 5, 5, 6, 4, 5, 5, 6, 5, 6, 6, 7, 2, 3, 3, 4, 3, 4, 4, 5, 3, 4, 4, 5, 4, 5, 5, 6, 3, 4, 4, 5, 4, 5, 5, 6, 4, 5, 5, 6, 5, 6, 6, 7, 3, 4, 4, 5, 4, 5, 5, 6, 4, 5, 5, 6, 5, 6, 6, 7, 4, 5, 5, 6, 5, 6, 6, 7, 5, 6, 6, 7, 6, 7, 7, 8]⟩ : ByteArray) (shrI .u16 a1 8)) + (btS (⟨#[0, 1, 1, 2, 1, 2, 2, 3, 1, 2, 2, 3, 2, 3, 3, 4, 1, 2, 2, 3, 2, 3, 3, 4, 2, 3, 3, 4, 3, 4, 4, 5, 1, 2, 2, 3, 2, 3, 3, 4, 2, 3, 3, 4, 3, 4, 4, 5, 2, 3, 3, 4, 3, 4, 4, 5, 3, 4, 4, 5, 4, 5, 5, 6, 1, 2, 2, 3, 2, 3, 3, 4, 2, 3, 3, 4, 3, 4, 4, 5, 2, 3, 3, 4, 3, 4, 4, 5, 3, 4, 4, 5, 4, 5, 5, 6, 2, 3, 3, 4, 3, 4, 4, 5, 3, 4, 4, 5, 4, 5, 5, 6, 3, 4, 4, 5, 4, 5, 5, 6, 4, 5, 5, 6, 5, 6, 6, 7, 1, 2, 2, 3, 2, 3, 3, 4, 2, 3, 3, 4, 3, 4, 4, 5, 2, 3, 3, 4, 3, 4, 4, 5, 3, 4, 4, 5, 4, 5, 5, 6, 2, 3, 3, 4, 3, 4, 4, 5, 3, 4, 4, 5, 4, 5, 5, 6, 3, 4, 4, 5, 4, 5, 5, 6, 4, 5, 5, 6, 5, 6, 6, 7, 2, 3, 3, 4, 3, 4, 4, 5, 3, 4, 4, 5, 4, 5, 5, 6, 3, 4, 4, 5, 4, 5, 5, 6, 4, 5, 5, 6, 5, 6, 6, 7, 3, 4, 4, 5, 4, 5, 5, 6, 4, 5, 5, 6, 5, 6, 6, 7, 4, 5, 5, 6, 5, 6, 6, 7, 5, 6, 6, 7, 6, 7, 7, 8]⟩ : ByteArray) (bAnd .u16 a1 255)))))) (Value.int .i64 0), cnd (D 0) (Value.int .u16 a1) (O 3), cnd (D 1) (Value.int .u16 (shrI .u16 a1 8)) (O 4), cnd (D 2) (Value.int .u8 (btS (⟨#[0, 1, 1, 2, 1, 2, 2, 3, 1, 2, 2, 3, 2, 3, 3, 4, 1, 2, 2, 3, 2, 3, 3, 4, 2, 3, 3, 4, 3, 4, 4, 5, 1, 2, 2, 3, 2, 3, 3, 4, 2, 3, 3, 4, 3, 4, 4, 5, 2, 3, 3, 4, 3, 4, 4, 5, 3, 4, 4, 5, 4, 5, 5, 6, 1, 2, 2, 3, 2, 3, 3, 4, 2, 3, 3, 4, 3, 4, 4, 5, 2, 3, 3, 4, 3, 4, 4, 5, 3, 4, 4, 5, 4, 5, 5, 6, 2, 3, 3, 4, 3, 4, 4, 5, 3, 4, 4, 5, 4, 5, 5, 6, 3, 4, 4, 5, 4, 5, 5, 6, 4, 5, 5, 6, 5, 6, 6, 7, 1, 2, 2, 3, 2, 3, 3, 4, 2, 3, 3, 4, 3, 4, 4, 5, 2, 3, 3, 4, 3, 4, 4, 5, 3, 4, 4, 5, 4, 5, 5, 6, 2, 3, 3, 4, 3, 4, 4, 5, 3, 4, 4, 5, 4, 5, 5, 6, 3, 4, 4, 5, 4, 5, 5, 6, 4, 5, 5, 6, 5, 6, 6, 7, 2, 3, 3, 4, 3, 4, 4, 5, 3, 4, 4, 5, 4, 5, 5, 6, 3, 4, 4, 5, 4, 5, 5, 6, 4, 5, 5, 6, 5, 6, 6, 7, 3, 4, 4, 5, 4, 5, 5, 6, 4, 5, 5, 6, 5, 6, 6, 7, 4, 5, 5, 6, 5, 6, 6, 7, 5, 6, 6, 7, 6, 7, 7, 8]⟩ : ByteArray) (shrI .u16 a1 8))) (O 5), cnd (D 3) (Value.int .u16 a1) (O 6), cnd (D 4) (Value.int .u16 (bAnd .u16 a1 255)) (O 7), cnd (D 5) (Value.int .u8 (btS (⟨#[0, 1, 1, 2, 1, 2, 2, 3, 1, 2, 2, 3, 2, 3, 3, 4, 1, 2, 2, 3, 2, 3, 3, 4, 2, 3, 3, 4, 3, 4, 4, 5, 1, 2, 2, 3, 2, 3, 3, 4, 2, 3, 3, 4, 3, 4, 4, 5, 2, 3, 3, 4, 3, 4, 4, 5, 3, 4, 4, 5, 4, 5, 5, 6, 1, 2, 2, 3, 2, 3, 3, 4, 2, 3, 3, 4, 3, 4, 4, 5, 2, 3, 3, 4, 3, 4, 4, 5, 3, 4, 4, 5, 4, 5, 5, 6, 2, 3, 3, 4, 3, 4, 4, 5, 3, 4, 4, 5, 4, 5, 5, 6, 3, 4, 4, 5, 4, 5, 5, 6, 4, 5, 5, 6, 5, 6, 6, 7, 1, 2, 2, 3, 2, 3, 3, 4, 2, 3, 3, 4, 3, 4, 4, 5, 2, 3, 3, 4, 3, 4, 4, 5, 3, 4, 4, 5, 4, 5, 5, 6, 2, 3, 3, 4, 3, 4, 4, 5, 3, 4, 4, 5, 4, 5, 5, 6, 3, 4, 4, 5, 4, 5, 5, 6, 4, 5, 5, 6, 5, 6, 6, 7, 2, 3, 3, 4, 3, 4, 4, 5, 3, 4, 4, 5, 4, 5, 5, 6, 3, 4, 4, 5, 4, 5, 5, 6, 4, 5, 5, 6, 5, 6, 6, 7, 3, 4, 4, 5, 4, 5, 5, 6, 4, 5, 5, 6, 5, 6, 6, 7, 4, 5, 5, 6, 5, 6, 6, 7, 5, 6, 6, 7, 6, 7, 7, 8]⟩ : ByteArray) (bAnd .u16 a1 255))) (O 8), cnd (D 6) (Value.int .u8 (u8w ((btS (⟨#[0, 1, 1, 2, 1, 2, 2, 3, 1, 2, 2, 3, 2, 3, 3, 4, 1, 2, 2, 3, 2, 3, 3, 4, 2, 3, 3, 4, 3, 4, 4, 5, 1, 2, 2, 3, 2, 3, 3, 4, 2, 3, 3, 4, 3, 4, 4, 5, 2, 3, 3, 4, 3, 4, 4, 5, 3, 4, 4, 5, 4, 5, 5, 6, 1, 2, 2, 3, 2, 3, 3, 4, 2, 3, 3, 4, 3, 4, 4, 5, 2, 3, 3, 4, 3, 4, 4, 5, 3, 4, 4, 5, 4, 5, 5, 6, 2, 3, 3, 4, 3, 4, 4, 5, 3, 4, 4, 5, 4, 5, 5, 6, 3, 4, 4, 5, 4, 5, 5, 6, 4, 5, 5, 6, 5, 6, 6, 7, 1, 2, 2, 3, 2, 3, 3, 4, 2, 3, 3, 4, 3, 4, 4, 5, 2, 3, 3, 4, 3, 4, 4, 5, 3, 4, 4, 5, 4, 5, 5, 6, 2, 3, 3, 4, 3, 4, 4, 5, 3, 4, 4, 5, 4, 5, 5, 6, 3, 4, 4, 5, 4, 5, 5, 6, 4, 5, 5, 6, 5, 6, 6, 7, 2, 3, 3, 4, 3, 4, 4, 5, 3, 4, 4, 5, 4, 5, 5, 6, 3, 4, 4, 5, 4, 5, 5, 6, 4, 5, 5, 6, 5, 6, 6, 7, 3, 4, 4, 5, 4, 5, 5, 6, 4, 5, 5, 6, 5, 6, 6, 7, 4, 5, 5, 6, 5, 6, 6, 7, 5, 6, 6, 7, 6, 7, 7, 8]⟩ : ByteArray) (shrI .u16 a1 8)) + (btS (⟨#[0, 1, 1, 2, 1, 2, 2, 3, 1, 2, 2, 3, 2, 3, 3, 4, 1, 2, 2, 3, 2, 3, 3, 4, 2, 3, 3, 4, 3, 4, 4, 5, 1, 2, 2, 3, 2, 3, 3, 4, 2, 3, 3, 4, 3, 4, 4, 5, 2, 3, 3, 4, 3, 4, 4, 5, 3, 4, 4, 5, 4, 5, 5, 6, 1, 2, 2, 3, 2, 3, 3, 4, 2, 3, 3, 4, 3, 4, 4, 5, 2, 3, 3, 4, 3, 4, 4, 5, 3, 4, 4, 5, 4, 5, 5, 6, 2, 3, 3, 4, 3, 4, 4, 5, 3, 4, 4, 5, 4, 5, 5, 6, 3, 4, 4, 5, 4, 5, 5, 6, 4, 5, 5, 6, 5, 6, 6, 7, 1, 2, 2, 3, 2, 3, 3, 4, 2, 3, 3, 4, 3, 4, 4, 5, 2, 3, 3, 4, 3, 4, 4, 5, 3, 4, 4, 5, 4, 5, 5, 6, 2, 3, 3, 4, 3, 4, 4, 5, 3, 4, 4, 5, 4, 5, 5, 6, 3, 4, 4, 5, 4, 5, 5, 6, 4, 5, 5, 6, 5, 6, 6, 7, 2, 3, 3, 4, 3, 4, 4, 5, 3, 4, 4, 5, 4, 5, 5, 6, 3, 4, 4, 5, 4, 5, 5, 6, 4, 5, 5, 6, 5, 6, 6, 7, 3, 4, 4, 5, 4, 5, 5, 6, 4, 5, 5, 6, 5, 6, 6, 7, 4, 5, 5, 6, 5, 6, 6, 7, 5, 6, 6, 7, 6, 7, 7, 8]⟩ : ByteArray) (bAnd .u16 a1 255))))) (O 9), cnd (D 7) (Value.int .i64 (i64w (u8w ((btS (⟨#[0, 1, 1, 2, 1, 2, 2, 3, 1, 2, 2, 3, 2, 3, 3, 4, 1, 2, 2, 3, 2, 3, 3, 4, 2, 3, 3, 4, 3, 4, 4, 5, 1, 2, 2, 3, 2, 3, 3, 4, 2, 3, 3, 4, 3, 4, 4, 5, 2, 3, 3, 4, 3, 4, 4, 5, 3, 4, 4, 5, 4, 5, 5, 6, 1, 2, 2, 3, 2, 3, 3, 4, 2, 3, 3, 4, 3, 4, 4, 5, 2, 3, 3, 4, 3, 4, 4, 5, 3, 4, 4, 5, 4, 5, 5, 6, 2, 3, 3, 4, 3, 4, 4, 5, 3, 4, 4, 5, 4, 5, 5, 6, 3, 4, 4, 5, 4, 5, 5, 6, 4, 5, 5, 6, 5, 6, 6, 7, 1, 2, 2, 3, 2, 3, 3, 4, 2, 3, 3, 4, 3, 4, 4, 5, 2, 3, 3, 4, 3, 4, 4, 5, 3, 4, 4, 5, 4, 5, 5, 6, 2, 3, 3, 4, 3, 4, 4, 5, 3, 4, 4, 5, 4, 5, 5, 6, 3, 4, 4, 5, 4, 5, 5, 6, 4, 5, 5, 6, 5, 6, 6, 7, 2, 3, 3, 4, 3, 4, 4, 5, 3, 4, 4, 5, 4, 5, 5, 6, 3, 4, 4, 5, 4, 5, 5, 6, 4, 5, 5, 6, 5, 6, 6, 7, 3, 4, 4, 5, 4, 5, 5, 6, 4, 5, 5, 6, 5, 6, 6, 7, 4, 5, 5, 6, 5, 6, 6, 7, 5, 6, 6, 7, 6, 7, 7, 8]⟩ : ByteArray) (shrI .u16 a1 8)) + (btS (⟨#[0, 1, 1, 2, 1, 2, 2, 3, 1, 2, 2, 3, 2, 3, 3, 4, 1, 2, 2, 3, 2, 3, 3, 4, 2, 3, 3, 4, 3, 4, 4, 5, 1, 2, 2, 3, 2, 3, 3, 4, 2, 3, 3, 4, 3, 4, 4, 5, 2, 3, 3, 4, 3, 4, 4, 5, 3, 4, 4, 5, 4, 5, 5, 6, 1, 2, 2, 3, 2, 3, 3, 4, 2, 3, 3, 4, 3, 4, 4, 5, 2, 3, 3, 4, 3, 4, 4, 5, 3, 4, 4, 5, 4, 5, 5, 6, 2, 3, 3, 4, 3, 4, 4, 5, 3, 4, 4, 5, 4, 5, 5, 6, 3, 4, 4, 5, 4, 5, 5, 6, 4, 5, 5, 6, 5, 6, 6, 7, 1, 2, 2, 3, 2, 3, 3, 4, 2, 3, 3, 4, 3, 4, 4, 5, 2, 3, 3, 4, 3, 4, 4, 5, 3, 4, 4, 5, 4, 5, 5, 6, 2, 3, 3, 4, 3, 4, 4, 5, 3, 4, 4, 5, 4, 5, 5, 6, 3, 4, 4, 5, 4, 5, 5, 6, 4, 5, 5, 6, 5, 6, 6, 7, 2, 3, 3, 4, 3, 4, 4, 5, 3, 4, 4, 5, 4, 5, 5, 6, 3, 4, 4, 5, 4, 5, 5, 6, 4, 5, 5, 6, 5, 6, 6, 7, 3, 4, 4, 5, 4, 5, 5, 6, 4, 5, 5, 6, 5, 6, 6, 7, 4, 5, 5, 6, 5, 6, 6, 7, 5, 6, 6, 7, 6, 7, 7, 8]⟩ : ByteArray) (bAnd .u16 a1 255)))))) (O 10)] ∧ St w0 [] w) ?_ ⟨⟨⟨⟨⟨⟨⟨⟨⟨trivial, ?_⟩, ?_⟩, ?_⟩, ?_⟩, ?_⟩, ?_⟩, ?_⟩, ?_⟩, ?_⟩ ?_
  ·
   intro w hh hbw
   have hs := hs.samew hh hbw
   exact ⟨fun i => T.getD i undef, (by subst hT; rfl), hs⟩
  ·
   intro D t w hD hp hcl hI rest hk
   obtain ⟨O, ht, hs⟩ := hI
   have q1_ := nz hcl 1 0 hD
   have q2_ := nz hcl 2 0 q1_
   have q6_ := nz hcl 6 0 q2_
   have q7_ := nz hcl 7 0 q6_
   have q8_ := nz hcl 8 0 q7_
   simp only [hD, q1_, q2_, q6_, q7_, q8_, cq] at ht hs
   subst ht
   refine g_op (v := Value.int .u16 a1) rfl rfl rfl ?_
   show G _ _ _ _ [_,_,_,_,_,_,_,_,_,_,_] _
   refine hk _ _ ⟨O, ?_, hs.cast ?_⟩ <;> simp only [lq, cq, Nat.reduceBEq, q1_, q2_, q6_, q7_, q8_]
  ·
   intro D t w hD hp hcl hI rest hk
   obtain ⟨O, ht, hs⟩ := hI
   obtain ⟨p0_, _⟩ := hp
   have q2_ := nz hcl 2 0 hD
   have q6_ := nz hcl 6 0 q2_
   have q7_ := nz hcl 7 0 q6_
   have q8_ := nz hcl 8 0 q7_
   simp only [hD, p0_, q2_, q6_, q7_, q8_, cq] at ht hs
   subst ht
   refine g_op (v := Value.int .u16 (shrI .u16 a1 8)) rfl rfl rfl ?_
   show G _ _ _ _ [_,_,_,_,_,_,_,_,_,_,_] _
   refine hk _ _ ⟨O, ?_, hs.cast ?_⟩ <;> simp only [lq, cq, Nat.reduceBEq, p0_, q2_, q6_, q7_, q8_]
  ·
   intro D t w hD hp hcl hI rest hk
   obtain ⟨O, ht, hs⟩ := hI
   obtain ⟨p1_, _⟩ := hp
   obtain ⟨p0_, _⟩ := (hcl.get 1 (by decide)) p1_
   have q6_ := nz hcl 6 0 hD
   have q7_ := nz hcl 7 0 q6_
   have q8_ := nz hcl 8 0 q7_
   simp only [hD, p0_, p1_, q6_, q7_, q8_, cq] at ht hs
   subst ht
   refine g_op (v := Value.int .u8 (btS (⟨#[0, 1, 1, 2, 1, 2, 2, 3, 1, 2, 2, 3, 2, 3, 3, 4, 1, 2, 2, 3, 2, 3, 3, 4, 2, 3, 3, 4, 3, 4, 4, 5, 1, 2, 2, 3, 2, 3, 3, 4, 2, 3, 3, 4, 3, 4, 4, 5, 2, 3, 3, 4, 3, 4, 4, 5, 3, 4, 4, 5, 4, 5, 5, 6, 1, 2, 2, 3, 2, 3, 3, 4, 2, 3, 3, 4, 3, 4, 4, 5, 2, 3, 3, 4, 3, 4, 4, 5, 3, 4, 4, 5, 4, 5, 5, 6, 2, 3, 3, 4, 3, 4, 4, 5, 3, 4, 4, 5, 4, 5, 5, 6, 3, 4, 4, 5, 4, 5, 5, 6, 4, 5, 5, 6, 5, 6, 6, 7, 1, 2, 2, 3, 2, 3, 3, 4, 2, 3, 3, 4, 3, 4, 4, 5, 2, 3, 3, 4, 3, 4, 4, 5, 3, 4, 4, 5, 4, 5, 5, 6, 2, 3, 3, 4, 3, 4, 4, 5, 3, 4, 4, 5, 4, 5, 5, 6, 3, 4, 4, 5, 4, 5, 5, 6, 4, 5, 5, 6, 5, 6, 6, 7, 2, 3, 3, 4, 3, 4, 4, 5, 3, 4, 4, 5, 4, 5, 5, 6, 3, 4, 4, 5, 4, 5, 5, 6, 4, 5, 5, 6, 5, 6, 6, 7, 3, 4, 4, 5, 4, 5, 5, 6, 4, 5, 5, 6, 5, 6, 6, 7, 4, 5, 5, 6, 5, 6, 6, 7, 5, 6, 6, 7, 6, 7, 7, 8]⟩ : ByteArray) (shrI .u16 a1 8))) rfl rfl (x_indexS rfl rfl rfl rfl gd1.1 gd1.2) ?_
   show G _ _ _ _ [_,_,_,_,_,_,_,_,_,_,_] _
   refine hk _ _ ⟨O, ?_, hs.cast ?_⟩ <;> simp only [lq, cq, Nat.reduceBEq, p0_, p1_, q6_, q7_, q8_]
  ·
   intro D t w hD hp hcl hI rest hk
   obtain ⟨O, ht, hs⟩ := hI
   have q4_ := nz hcl 4 0 hD
   have q5_ := nz hcl 5 0 q4_
   have q6_ := nz hcl 6 1 q5_
   have q7_ := nz hcl 7 0 q6_
   have q8_ := nz hcl 8 0 q7_
   simp only [hD, q4_, q5_, q6_, q7_, q8_, cq] at ht hs
   subst ht
   refine g_op (v := Value.int .u16 a1) rfl rfl rfl ?_
   show G _ _ _ _ [_,_,_,_,_,_,_,_,_,_,_] _
   refine hk _ _ ⟨O, ?_, hs.cast ?_⟩ <;> simp only [lq, cq, Nat.reduceBEq, q4_, q5_, q6_, q7_, q8_]
  ·
   intro D t w hD hp hcl hI rest hk
   obtain ⟨O, ht, hs⟩ := hI
   obtain ⟨p3_, _⟩ := hp
   have q5_ := nz hcl 5 0 hD
   have q6_ := nz hcl 6 1 q5_
   have q7_ := nz hcl 7 0 q6_
   have q8_ := nz hcl 8 0 q7_
   simp only [hD, p3_, q5_, q6_, q7_, q8_, cq] at ht hs
   subst ht
   refine g_op (v := Value.int .u16 (bAnd .u16 a1 255)) rfl rfl rfl ?_
   show G _ _ _ _ [_,_,_,_,_,_,_,_,_,_,_] _
   refine hk _ _ ⟨O, ?_, hs.cast ?_⟩ <;> simp only [lq, cq, Nat.reduceBEq, p3_, q5_, q6_, q7_, q8_]
  ·
   intro D t w hD hp hcl hI rest hk
   obtain ⟨O, ht, hs⟩ := hI
   obtain ⟨p4_, _⟩ := hp
   obtain ⟨p3_, _⟩ := (hcl.get 4 (by decide)) p4_
   have q6_ := nz hcl 6 1 hD
   have q7_ := nz hcl 7 0 q6_
   have q8_ := nz hcl 8 0 q7_
   simp only [hD, p3_, p4_, q6_, q7_, q8_, cq] at ht hs
   subst ht
   refine g_op (v := Value.int .u8 (btS (⟨#[0, 1, 1, 2, 1, 2, 2, 3, 1, 2, 2, 3, 2, 3, 3, 4, 1, 2, 2, 3, 2, 3, 3, 4, 2, 3, 3, 4, 3, 4, 4, 5, 1, 2, 2, 3, 2, 3, 3, 4, 2, 3, 3, 4, 3, 4, 4, 5, 2, 3, 3, 4, 3, 4, 4, 5, 3, 4, 4, 5, 4, 5, 5, 6, 1, 2, 2, 3, 2, 3, 3, 4, 2, 3, 3, 4, 3, 4, 4, 5, 2, 3, 3, 4, 3, 4, 4, 5, 3, 4, 4, 5, 4, 5, 5, 6, 2, 3, 3, 4, 3, 4, 4, 5, 3, 4, 4, 5, 4, 5, 5, 6, 3, 4, 4, 5, 4, 5, 5, 6, 4, 5, 5, 6, 5, 6, 6, 7, 1, 2, 2, 3, 2, 3, 3, 4, 2, 3, 3, 4, 3, 4, 4, 5, 2, 3, 3, 4, 3, 4, 4, 5, 3, 4, 4, 5, 4, 5, 5, 6, 2, 3, 3, 4, 3, 4, 4, 5, 3, 4, 4, 5, 4, 5, 5, 6, 3, 4, 4, 5, 4, 5, 5, 6, 4, 5, 5, 6, 5, 6, 6, 7, 2, 3, 3, 4, 3, 4, 4, 5, 3, 4, 4, 5, 4, 5, 5, 6, 3, 4, 4, 5, 4, 5, 5, 6, 4, 5, 5, 6, 5, 6, 6, 7, 3, 4, 4, 5, 4, 5, 5, 6, 4, 5, 5, 6, 5, 6, 6, 7, 4, 5, 5, 6, 5, 6, 6, 7, 5, 6, 6, 7, 6, 7, 7, 8]⟩ : ByteArray) (bAnd .u16 a1 255))) rfl rfl (x_indexS rfl rfl rfl rfl gd2.1 gd2.2) ?_
   show G _ _ _ _ [_,_,_,_,_,_,_,_,_,_,_] _
   refine hk _ _ ⟨O, ?_, hs.cast ?_⟩ <;> simp only [lq, cq, Nat.reduceBEq, p3_, p4_, q6_, q7_, q8_]
  ·
   intro D t w hD hp hcl hI rest hk
   obtain ⟨O, ht, hs⟩ := hI
   obtain ⟨p2_, p5_, _⟩ := hp
   obtain ⟨p4_, _⟩ := (hcl.get 5 (by decide)) p5_
   obtain ⟨p3_, _⟩ := (hcl.get 4 (by decide)) p4_
   obtain ⟨p1_, _⟩ := (hcl.get 2 (by decide)) p2_
   obtain ⟨p0_, _⟩ := (hcl.get 1 (by decide)) p1_
   have q7_ := nz hcl 7 0 hD
   have q8_ := nz hcl 8 0 q7_
   simp only [hD, p0_, p1_, p2_, p3_, p4_, p5_, q7_, q8_, cq] at ht hs
   subst ht
   refine g_op (v := Value.int .u8 (u8w ((btS (⟨#[0, 1, 1, 2, 1, 2, 2, 3, 1, 2, 2, 3, 2, 3, 3, 4, 1, 2, 2, 3, 2, 3, 3, 4, 2, 3, 3, 4, 3, 4, 4, 5, 1, 2, 2, 3, 2, 3, 3, 4, 2, 3, 3, 4, 3, 4, 4, 5, 2, 3, 3, 4, 3, 4, 4, 5, 3, 4, 4, 5, 4, 5, 5, 6, 1, 2, 2, 3, 2, 3, 3, 4, 2, 3, 3, 4, 3, 4, 4, 5, 2, 3, 3, 4, 3, 4, 4, 5, 3, 4, 4, 5, 4, 5, 5, 6, 2, 3, 3, 4, 3, 4, 4, 5, 3, 4, 4, 5, 4, 5, 5, 6, 3, 4, 4, 5, 4, 5, 5, 6, 4, 5, 5, 6, 5, 6, 6, 7, 1, 2, 2, 3, 2, 3, 3, 4, 2, 3, 3, 4, 3, 4, 4, 5, 2, 3, 3, 4, 3, 4, 4, 5, 3, 4, 4, 5, 4, 5, 5, 6, 2, 3, 3, 4, 3, 4, 4, 5, 3, 4, 4, 5, 4, 5, 5, 6, 3, 4, 4, 5, 4, 5, 5, 6, 4, 5, 5, 6, 5, 6, 6, 7, 2, 3, 3, 4, 3, 4, 4, 5, 3, 4, 4, 5, 4, 5, 5, 6, 3, 4, 4, 5, 4, 5, 5, 6, 4, 5, 5, 6, 5, 6, 6, 7, 3, 4, 4, 5, 4, 5, 5, 6, 4, 5, 5, 6, 5, 6, 6, 7, 4, 5, 5, 6, 5, 6, 6, 7, 5, 6, 6, 7, 6, 7, 7, 8]⟩ : ByteArray) (shrI .u16 a1 8)) + (btS (⟨#[0, 1, 1, 2, 1, 2, 2, 3, 1, 2, 2, 3, 2, 3, 3, 4, 1, 2, 2, 3, 2, 3, 3, 4, 2, 3, 3, 4, 3, 4, 4, 5, 1, 2, 2, 3, 2, 3, 3, 4, 2, 3, 3, 4, 3, 4, 4, 5, 2, 3, 3, 4, 3, 4, 4, 5, 3, 4, 4, 5, 4, 5, 5, 6, 1, 2, 2, 3, 2, 3, 3, 4, 2, 3, 3, 4, 3, 4, 4, 5, 2, 3, 3, 4, 3, 4, 4, 5, 3, 4, 4, 5, 4, 5, 5, 6, 2, 3, 3, 4, 3, 4, 4, 5, 3, 4, 4, 5, 4, 5, 5, 6, 3, 4, 4, 5, 4, 5, 5, 6, 4, 5, 5, 6, 5, 6, 6, 7, 1, 2, 2, 3, 2, 3, 3, 4, 2, 3, 3, 4, 3, 4, 4, 5, 2, 3, 3, 4, 3, 4, 4, 5, 3, 4, 4, 5, 4, 5, 5, 6, 2, 3, 3, 4, 3, 4, 4, 5, 3, 4, 4, 5, 4, 5, 5, 6, 3, 4, 4, 5, 4, 5, 5, 6, 4, 5, 5, 6, 5, 6, 6, 7, 2, 3, 3, 4, 3, 4, 4, 5, 3, 4, 4, 5, 4, 5, 5, 6, 3, 4, 4, 5, 4, 5, 5, 6, 4, 5, 5, 6, 5, 6, 6, 7, 3, 4, 4, 5, 4, 5, 5, 6, 4, 5, 5, 6, 5, 6, 6, 7, 4, 5, 5, 6, 5, 6, 6, 7, 5, 6, 6, 7, 6, 7, 7, 8]⟩ : ByteArray) (bAnd .u16 a1 255))))) rfl rfl rfl ?_
   show G _ _ _ _ [_,_,_,_,_,_,_,_,_,_,_] _
   refine hk _ _ ⟨O, ?_, hs.cast ?_⟩ <;> simp only [lq, cq, Nat.reduceBEq, p0_, p1_, p2_, p3_, p4_, p5_, q7_, q8_]
  ·
   intro D t w hD hp hcl hI rest hk
   obtain ⟨O, ht, hs⟩ := hI
   obtain ⟨p6_, _⟩ := hp
   obtain ⟨p2_, p5_, _⟩ := (hcl.get 6 (by decide)) p6_
   obtain ⟨p4_, _⟩ := (hcl.get 5 (by decide)) p5_
   obtain ⟨p3_, _⟩ := (hcl.get 4 (by decide)) p4_
   obtain ⟨p1_, _⟩ := (hcl.get 2 (by decide)) p2_
   obtain ⟨p0_, _⟩ := (hcl.get 1 (by decide)) p1_
   have q8_ := nz hcl 8 0 hD
   simp only [hD, p0_, p1_, p2_, p3_, p4_, p5_, p6_, q8_, cq] at ht hs
   subst ht
   refine g_op (v := Value.int .i64 (i64w (u8w ((btS (⟨#[0, 1, 1, 2, 1, 2, 2, 3, 1, 2, 2, 3, 2, 3, 3, 4, 1, 2, 2, 3, 2, 3, 3, 4, 2, 3, 3, 4, 3, 4, 4, 5, 1, 2, 2, 3, 2, 3, 3, 4, 2, 3, 3, 4, 3, 4, 4, 5, 2, 3, 3, 4, 3, 4, 4, 5, 3, 4, 4, 5, 4, 5, 5, 6, 1, 2, 2, 3, 2, 3, 3, 4, 2, 3, 3, 4, 3, 4, 4, 5, 2, 3, 3, 4, 3, 4, 4, 5, 3, 4, 4, 5, 4, 5, 5, 6, 2, 3, 3, 4, 3, 4, 4, 5, 3, 4, 4, 5, 4, 5, 5, 6, 3, 4, 4, 5, 4, 5, 5, 6, 4, 5, 5, 6, 5, 6, 6, 7, 1, 2, 2, 3, 2, 3, 3, 4, 2, 3, 3, 4, 3, 4, 4, 5, 2, 3, 3, 4, 3, 4, 4, 5, 3, 4, 4, 5, 4, 5, 5, 6, 2, 3, 3, 4, 3, 4, 4, 5, 3, 4, 4, 5, 4, 5, 5, 6, 3, 4, 4, 5, 4, 5, 5, 6, 4, 5, 5, 6, 5, 6, 6, 7, 2, 3, 3, 4, 3, 4, 4, 5, 3, 4, 4, 5, 4, 5, 5, 6, 3, 4, 4, 5, 4, 5, 5, 6, 4, 5, 5, 6, 5, 6, 6, 7, 3, 4, 4, 5, 4, 5, 5, 6, 4, 5, 5, 6, 5, 6, 6, 7, 4, 5, 5, 6, 5, 6, 6, 7, 5, 6, 6, 7, 6, 7, 7, 8]⟩ : ByteArray) (shrI .u16 a1 8)) + (btS (⟨#[0, 1, 1, 2, 1, 2, 2, 3, 1, 2, 2, 3, 2, 3, 3, 4, 1, 2, 2, 3, 2, 3, 3, 4, 2, 3, 3, 4, 3, 4, 4, 5, 1, 2, 2, 3, 2, 3, 3, 4, 2, 3, 3, 4, 3, 4, 4, 5, 2, 3, 3, 4, 3, 4, 4, 5, 3, 4, 4, 5, 4, 5, 5, 6, 1, 2, 2, 3, 2, 3, 3, 4, 2, 3, 3, 4, 3, 4, 4, 5, 2, 3, 3, 4, 3, 4, 4, 5, 3, 4, 4, 5, 4, 5, 5, 6, 2, 3, 3, 4, 3, 4, 4, 5, 3, 4, 4, 5, 4, 5, 5, 6, 3, 4, 4, 5, 4, 5, 5, 6, 4, 5, 5, 6, 5, 6, 6, 7, 1, 2, 2, 3, 2, 3, 3, 4, 2, 3, 3, 4, 3, 4, 4, 5, 2, 3, 3, 4, 3, 4, 4, 5, 3, 4, 4, 5, 4, 5, 5, 6, 2, 3, 3, 4, 3, 4, 4, 5, 3, 4, 4, 5, 4, 5, 5, 6, 3, 4, 4, 5, 4, 5, 5, 6, 4, 5, 5, 6, 5, 6, 6, 7, 2, 3, 3, 4, 3, 4, 4, 5, 3, 4, 4, 5, 4, 5, 5, 6, 3, 4, 4, 5, 4, 5, 5, 6, 4, 5, 5, 6, 5, 6, 6, 7, 3, 4, 4, 5, 4, 5, 5, 6, 4, 5, 5, 6, 5, 6, 6, 7, 4, 5, 5, 6, 5, 6, 6, 7, 5, 6, 6, 7, 6, 7, 7, 8]⟩ : ByteArray) (bAnd .u16 a1 255)))))) rfl rfl rfl ?_
   show G _ _ _ _ [_,_,_,_,_,_,_,_,_,_,_] _
   refine hk _ _ ⟨O, ?_, hs.cast ?_⟩ <;> simp only [lq, cq, Nat.reduceBEq, p0_, p1_, p2_, p3_, p4_, p5_, p6_, q8_]
  ·
   intro D t w hD hp hcl hI rest hk
   obtain ⟨O, ht, hs⟩ := hI
   obtain ⟨p7_, p0_, p1_, p2_, p3_, p4_, p5_, p6_, _, _⟩ := hp
   simp only [hD, p0_, p1_, p2_, p3_, p4_, p5_, p6_, p7_, cq] at ht hs
   subst ht
   refine g_op (v := Value.int .i64 (i64w (u8w ((btS (⟨#[0, 1, 1, 2, 1, 2, 2, 3, 1, 2, 2, 3, 2, 3, 3, 4, 1, 2, 2, 3, 2, 3, 3, 4, 2, 3, 3, 4, 3, 4, 4, 5, 1, 2, 2, 3, 2, 3, 3, 4, 2, 3, 3, 4, 3, 4, 4, 5, 2, 3, 3, 4, 3, 4, 4, 5, 3, 4, 4, 5, 4, 5, 5, 6, 1, 2, 2, 3, 2, 3, 3, 4, 2, 3, 3, 4, 3, 4, 4, 5, 2, 3, 3, 4, 3, 4, 4, 5, 3, 4, 4, 5, 4, 5, 5, 6, 2, 3, 3, 4, 3, 4, 4, 5, 3, 4, 4, 5, 4, 5, 5, 6, 3, 4, 4, 5, 4, 5, 5, 6, 4, 5, 5, 6, 5, 6, 6, 7, 1, 2, 2, 3, 2, 3, 3, 4, 2, 3, 3, 4, 3, 4, 4, 5, 2, 3, 3, 4, 3, 4, 4, 5, 3, 4, 4, 5, 4, 5, 5, 6, 2, 3, 3, 4, 3, 4, 4, 5, 3, 4, 4, 5, 4, 5, 5, 6, 3, 4, 4, 5, 4, 5, 5, 6, 4, 5, 5, 6, 5, 6, 6, 7, 2, 3, 3, 4, 3, 4, 4, 5, 3, 4, 4, 5, 4, 5, 5, 6, 3, 4, 4, 5, 4, 5, 5, 6, 4, 5, 5, 6, 5, 6, 6, 7, 3, 4, 4, 5, 4, 5, 5, 6, 4, 5, 5, 6, 5, 6, 6, 7, 4, 5, 5, 6, 5, 6, 6, 7, 5, 6, 6, 7, 6, 7, 7, 8]⟩ : ByteArray) (shrI .u16 a1 8)) + (btS (⟨#[0, 1, 1, 2, 1, 2, 2, 3, 1, 2, 2, 3, 2, 3, 3, 4, 1, 2, 2, 3, 2, 3, 3, 4, 2, 3, 3, 4, 3, 4, 4, 5, 1, 2, 2, 3, 2, 3, 3, 4, 2, 3, 3, 4, 3, 4, 4, 5, 2, 3, 3, 4, 3, 4, 4, 5, 3, 4, 4, 5, 4, 5, 5, 6, 1, 2, 2, 3, 2, 3, 3, 4, 2, 3, 3, 4, 3, 4, 4, 5, 2, 3, 3, 4, 3, 4, 4, 5, 3, 4, 4, 5, 4, 5, 5, 6, 2, 3, 3, 4, 3, 4, 4, 5, 3, 4, 4, 5, 4, 5, 5, 6, 3, 4, 4, 5, 4, 5, 5, 6, 4, 5, 5, 6, 5, 6, 6, 7, 1, 2, 2, 3, 2, 3, 3, 4, 2, 3, 3, 4, 3, 4, 4, 5, 2, 3, 3, 4, 3, 4, 4, 5, 3, 4, 4, 5, 4, 5, 5, 6, 2, 3, 3, 4, 3, 4, 4, 5, 3, 4, 4, 5, 4, 5, 5, 6, 3, 4, 4, 5, 4, 5, 5, 6, 4, 5, 5, 6, 5, 6, 6, 7, 2, 3, 3, 4, 3, 4, 4, 5, 3, 4, 4, 5, 4, 5, 5, 6, 3, 4, 4, 5, 4, 5, 5, 6, 4, 5, 5, 6, 5, 6, 6, 7, 3, 4, 4, 5, 4, 5, 5, 6, 4, 5, 5, 6, 5, 6, 6, 7, 4, 5, 5, 6, 5, 6, 6, 7, 5, 6, 6, 7, 6, 7, 7, 8]⟩ : ByteArray) (bAnd .u16 a1 255)))))) rfl rfl rfl ?_
   show G _ _ _ _ [_,_,_,_,_,_,_,_,_,_,_] _
   refine hk _ _ ⟨O, ?_, hs.cast ?_⟩ <;> simp only [lq, cq, Nat.reduceBEq, p0_, p1_, p2_, p3_, p4_, p5_, p6_, p7_]
  intro D t w hall hI
  obtain ⟨O, ht, hs⟩ := hI
  have p0_ : D 0 = true := hall 0 (by decide)
  have p1_ : D 1 = true := hall 1 (by decide)
  have p2_ : D 2 = true := hall 2 (by decide)
  have p3_ : D 3 = true := hall 3 (by decide)
  have p4_ : D 4 = true := hall 4 (by decide)
  have p5_ : D 5 = true := hall 5 (by decide)
  have p6_ : D 6 = true := hall 6 (by decide)
  have p7_ : D 7 = true := hall 7 (by decide)
  have p8_ : D 8 = true := hall 8 (by decide)
  simp only [p0_, p1_, p2_, p3_, p4_, p5_, p6_, p7_, p8_, cq] at ht hs
  subst ht
  obtain rfl := Option.some.inj H
  refine g_ret Try.func29 (v := Value.int .i64 (i64w (u8w ((btS (⟨#[0, 1, 1, 2, 1, 2, 2, 3, 1, 2, 2, 3, 2, 3, 3, 4, 1, 2, 2, 3, 2, 3, 3, 4, 2, 3, 3, 4, 3, 4, 4, 5, 1, 2, 2, 3, 2, 3, 3, 4, 2, 3, 3, 4, 3, 4, 4, 5, 2, 3, 3, 4, 3, 4, 4, 5, 3, 4, 4, 5, 4, 5, 5, 6, 1, 2, 2, 3, 2, 3, 3, 4, 2, 3, 3, 4, 3, 4, 4, 5, 2, 3, 3, 4, 3, 4, 4, 5, 3, 4, 4, 5, 4, 5, 5, 6, 2, 3, 3, 4, 3, 4, 4, 5, 3, 4, 4, 5, 4, 5, 5, 6, 3, 4, 4, 5, 4, 5, 5, 6, 4, 5, 5, 6, 5, 6, 6, 7, 1, 2, 2, 3, 2, 3, 3, 4, 2, 3, 3, 4, 3, 4, 4, 5, 2, 3, 3, 4, 3, 4, 4, 5, 3, 4, 4, 5, 4, 5, 5, 6, 2, 3, 3, 4, 3, 4, 4, 5, 3, 4, 4, 5, 4, 5, 5, 6, 3, 4, 4, 5, 4, 5, 5, 6, 4, 5, 5, 6, 5, 6, 6, 7, 2, 3, 3, 4, 3, 4, 4, 5, 3, 4, 4, 5, 4, 5, 5, 6, 3, 4, 4, 5, 4, 5, 5, 6, 4, 5, 5, 6, 5, 6, 6, 7, 3, 4, 4, 5, 4, 5, 5, 6, 4, 5, 5, 6, 5, 6, 6, 7, 4, 5, 5, 6, 5, 6, 6, 7, 5, 6, 6, 7, 6, 7, 7, 8]⟩ : ByteArray) (shrI .u16 a1 8)) + (btS (⟨#[0, 1, 1, 2, 1, 2, 2, 3, 1, 2, 2, 3, 2, 3, 3, 4, 1, 2, 2, 3, 2, 3, 3, 4, 2, 3, 3, 4, 3, 4, 4, 5, 1, 2, 2, 3, 2, 3, 3, 4, 2, 3, 3, 4, 3, 4, 4, 5, 2, 3, 3, 4, 3, 4, 4, 5, 3, 4, 4, 5, 4, 5, 5, 6, 1, 2, 2, 3, 2, 3, 3, 4, 2, 3, 3, 4, 3, 4, 4, 5, 2, 3, 3, 4, 3, 4, 4, 5, 3, 4, 4, 5, 4, 5, 5, 6, 2, 3, 3, 4, 3, 4, 4, 5, 3, 4, 4, 5, 4, 5, 5, 6, 3, 4, 4, 5, 4, 5, 5, 6, 4, 5, 5, 6, 5, 6, 6, 7, 1, 2, 2, 3, 2, 3, 3, 4, 2, 3, 3, 4, 3, 4, 4, 5, 2, 3, 3, 4, 3, 4, 4, 5, 3, 4, 4, 5, 4, 5, 5, 6, 2, 3, 3, 4, 3, 4, 4, 5, 3, 4, 4, 5, 4, 5, 5, 6, 3, 4, 4, 5, 4, 5, 5, 6, 4, 5, 5, 6, 5, 6, 6, 7, 2, 3, 3, 4, 3, 4, 4, 5, 3, 4, 4, 5, 4, 5, 5, 6, 3, 4, 4, 5, 4, 5, 5, 6, 4, 5, 5, 6, 5, 6, 6, 7, 3, 4, 4, 5, 4, 5, 5, 6, 4, 5, 5, 6, 5, 6, 6, 7, 4, 5, 5, 6, 5, 6, 6, 7, 5, 6, 6, 7, 6, 7, 7, 8]⟩ : ByteArray) (bAnd .u16 a1 255)))))) (res1 rfl rfl) ?_
  have hs : St _ [] _ := St.take (Γ' := []) hs
  exact ⟨_, rfl, rfl, hs⟩

/- function 48 impl_ValidFerry_1 -/
def impl_ValidFerry_1.post (w0 : World) (r : Bool) (v : Value) (w : World) : Prop := v = Value.bool r ∧ St w0 [] w
set_option maxHeartbeats 8000000 in
set_option maxRecDepth 100000 in
theorem impl_ValidFerry_1.calls {N : Nat} {a1 : Int} {a2 : S_impl_Ferry} {b3 : Nat} {v4 : Value} {w0 : World} {r : Bool} (hr5 : RdRow (K.int .u16) w0 v4 a2.f_Rules) (hp1000 : w0.heap[b3]? = some (.cells ((([Value.int .i8 a2.f_Things, Value.int .i8 a2.f_Boat, v4] : List Value)) : List Value).toArray 27 (0, 0))) (H : impl_ValidFerry_1.f N a1 a2 = some r) :
    Calls Try.prog 48 #[Value.int .u16 a1, Value.pointer (some ⟨b3, 0, none⟩)] w0 fun e w => ∃ v, e = .returned v ∧ impl_ValidFerry_1.post w0 r v w := by
  unfold impl_ValidFerry_1.f at H
  have hs : St w0 [] w0 := St.refl w0
  refine calls_of_g (n := 12) Try.func48 rfl rfl ?_
  show G _ _ _ _ [_,_,_,_,_,_,_,_,_,_,_,_,_,_] _
  refine g_seq (g_region ?_)
  show G _ _ _ (.inRegion _ [0] :: _) _ _
  refine g_op (v := Value.bool false) rfl rfl rfl ?_
  show G _ _ _ _ [_,_,_,_,_,_,_,_,_,_,_,_,_,_] _
  refine g_ops_nil (g_seq (g_region ?_))
  show G _ _ _ (.inRegion _ [0, 1, 2, 3, 4, 5, 6, 7, 8, 9, 10] :: _) _ _
  refine g_op (v := Value.int .u16 a1) rfl rfl rfl ?_
  show G _ _ _ _ [_,_,_,_,_,_,_,_,_,_,_,_,_,_] _
  refine s_loadA rfl rfl (es := (([Value.int .i8 a2.f_Things, Value.int .i8 a2.f_Boat, v4] : List Value))) rfl rfl (fun _ => rfl) (n := 3) (fun _ => rfl) rfl (cells_all (hs.box hp1000)) ?_
  show G _ _ _ _ [_,_,_,_,_,_,_,_,_,_,_,_,_,_] _
  obtain ⟨r7, Hr7, H⟩ := bind_get H
  refine s_call (args := [Value.agg (([Value.int .i8 a2.f_Things, Value.int .i8 a2.f_Boat, v4] : List Value)).toArray]) rfl rfl (x_call rfl (callFunc_enter Try.func27 rfl rfl) rfl) (_impl_Ferry_all.calls (a1 := (⟨a2.f_Things, a2.f_Boat, a2.f_Rules⟩ : S_impl_Ferry)) (hs.rd hr5) Hr7) ?_
  rintro _ w ⟨rfl, hs2⟩
  have hs : St _ [] _ := hs.call hs2
  show G _ _ _ _ [_,_,_,_,_,_,_,_,_,_,_,_,_,_] _
  obtain ⟨r8, Hr8, H⟩ := bind_get H
  refine s_call (args := [Value.int .u16 a1, Value.int .u16 r7]) rfl rfl (x_call rfl (callFunc_enter Try.func49 rfl rfl) rfl) (impl_inside.calls (a1 := a1) (a2 := r7) Hr8) ?_
  rintro _ w ⟨rfl, hs2⟩
  have hs : St _ [] _ := hs.call hs2
  cases r8 with
  | true =>
    rw [if_pos rfl] at H
    show G _ _ _ _ [_,_,_,_,_,_,_,_,_,_,_,_,_,_] _
    refine g_op (v := Value.bool false) rfl rfl rfl ?_
    show G _ _ _ _ [_,_,_,_,_,_,_,_,_,_,_,_,_,_] _
    refine g_op (v := Value.bool false) rfl rfl rfl ?_
    show G _ _ _ _ [_,_,_,_,_,_,_,_,_,_,_,_,_,_] _
    refine g_op (v := Value.int .u16 a1) rfl rfl rfl ?_
    show G _ _ _ _ [_,_,_,_,_,_,_,_,_,_,_,_,_,_] _
    obtain ⟨r9, Hr9, H⟩ := bind_get H
    refine s_call (args := [Value.int .u16 a1]) rfl rfl (x_call rfl (callFunc_enter Try.func29 rfl rfl) rfl) (bits_OnesCount16.calls (a1 := a1) Hr9) ?_
    rintro _ w ⟨rfl, hs2⟩
    have hs : St _ [] _ := hs.call hs2
    show G _ _ _ _ [_,_,_,_,_,_,_,_,_,_,_,_,_,_] _
    refine g_op (v := Value.bool (decide (r9 < 2))) rfl rfl rfl ?_
    show G _ _ _ _ [_,_,_,_,_,_,_,_,_,_,_,_,_,_] _
    refine g_op (v := Value.bool (decide (r9 < 2))) rfl rfl rfl ?_
    show G _ _ _ _ [_,_,_,_,_,_,_,_,_,_,_,_,_,_] _
    refine g_op (v := Value.bool (decide (r9 < 2))) rfl rfl rfl ?_
    show G _ _ _ _ [_,_,_,_,_,_,_,_,_,_,_,_,_,_] _
    refine g_ops_nil ?_
    obtain rfl := Option.some.inj H
    refine g_ret Try.func48 (v := Value.bool (decide (r9 < 2))) (res1 rfl rfl) ?_
    have hs : St _ [] _ := St.take (Γ' := []) hs
    exact ⟨_, rfl, rfl, hs⟩
  | false =>
    rw [if_neg Bool.false_ne_true] at H
    show G _ _ _ _ [_,_,_,_,_,_,_,_,_,_,_,_,_,_] _
    refine g_op (v := Value.bool true) rfl rfl rfl ?_
    show G _ _ _ _ [_,_,_,_,_,_,_,_,_,_,_,_,_,_] _
    refine g_op (v := Value.bool true) rfl rfl rfl ?_
    show G _ _ _ _ [_,_,_,_,_,_,_,_,_,_,_,_,_,_] _
    refine g_op_not rfl rfl ?_
    show G _ _ _ _ [_,_,_,_,_,_,_,_,_,_,_,_,_,_] _
    refine g_op_not rfl rfl ?_
    show G _ _ _ _ [_,_,_,_,_,_,_,_,_,_,_,_,_,_] _
    refine g_op_not rfl rfl ?_
    show G _ _ _ _ [_,_,_,_,_,_,_,_,_,_,_,_,_,_] _
    refine g_op (v := Value.bool true) rfl rfl rfl ?_
    show G _ _ _ _ [_,_,_,_,_,_,_,_,_,_,_,_,_,_] _
    refine g_op (v := Value.bool true) rfl rfl rfl ?_
    show G _ _ _ _ [_,_,_,_,_,_,_,_,_,_,_,_,_,_] _
    refine g_ops_nil ?_
    obtain rfl := Option.some.inj H
    refine g_ret Try.func48 (v := Value.bool true) (res1 rfl rfl) ?_
    have hs : St _ [] _ := St.take (Γ' := []) hs
    exact ⟨_, rfl, rfl, hs⟩

/- function 62 slices_IndexFunc_uint16_uint16_at_impl_ValidFerry_1 -/
def slices_IndexFunc_uint16_uint16_at_impl_ValidFerry_1.post (w0 : World) (r : Int) (v : Value) (w : World) : Prop := v = Value.int .i64 r ∧ St w0 [] w
set_option maxHeartbeats 8000000 in
set_option maxRecDepth 100000 in
theorem slices_IndexFunc_uint16_uint16_at_impl_ValidFerry_1.calls {N : Nat} {a1 : (List Int)} {a3 : S_impl_Ferry} {v2 : Value} {b4 : Nat} {v5 : Value} {w0 : World} {r : Int} (hr0 : RdRow (K.int .u16) w0 v2 a1) (hr6 : RdRow (K.int .u16) w0 v5 a3.f_Rules) (hp200 : w0.heap[b4]? = some (.cells ((([Value.int .i8 a3.f_Things, Value.int .i8 a3.f_Boat, v5] : List Value)) : List Value).toArray 27 (0, 0))) (H : slices_IndexFunc_uint16_uint16_at_impl_ValidFerry_1.f N a1 a3 = some r) :
    Calls Try.prog 62 #[v2, Value.func (Fn.func 48) #[] #[Value.pointer (some ⟨b4, 0, none⟩)]] w0 fun e w => ∃ v, e = .returned v ∧ slices_IndexFunc_uint16_uint16_at_impl_ValidFerry_1.post w0 r v w := by
  unfold slices_IndexFunc_uint16_uint16_at_impl_ValidFerry_1.f at H
  have hs : St w0 [] w0 := St.refl w0
  refine calls_of_g (n := 17) Try.func62 rfl rfl ?_
  show G _ _ _ _ [_,_,_,_,_,_,_,_,_,_,_,_,_,_,_,_,_,_,_] _
  refine g_seq (g_region ?_)
  show G _ _ _ (.inRegion _ [0] :: _) _ _
  refine g_op (v := Value.int .i64 0) rfl rfl rfl ?_
  show G _ _ _ _ [_,_,_,_,_,_,_,_,_,_,_,_,_,_,_,_,_,_,_] _
  refine g_ops_nil (g_seq (g_seq (g_region ?_)))
  show G _ _ _ (.inRegion _ [0, 1, 2] :: _) _ _
  refine g_op (v := v2) rfl rfl rfl ?_
  show G _ _ _ _ [_,_,_,_,_,_,_,_,_,_,_,_,_,_,_,_,_,_,_] _
  refine s_len (hs.rd hr0) rfl rfl rfl rfl rfl ?_
  show G _ _ _ _ [_,_,_,_,_,_,_,_,_,_,_,_,_,_,_,_,_,_,_] _
  refine g_op (v := Value.int .i64 0) rfl rfl rfl ?_
  show G _ _ _ _ [_,_,_,_,_,_,_,_,_,_,_,_,_,_,_,_,_,_,_] _
  refine g_ops_nil ?_
  obtain ⟨o1_, Ho, Hr1_⟩ := bind_get H
  refine g_block_join (J := fun t w => slices_IndexFunc_uint16_uint16_at_impl_ValidFerry_1.a0 N = some r ∧ Fr t (fun O => ([O 0, O 1, O 2, O 3, O 4, O 5, O 6, O 7, O 8, O 9, O 10, O 11, O 12, O 13, O 14, O 15, O 16, O 17, O 18] : List Value)) ∧ St w0 [] w) ?_ ?_
  ·
   rintro t w ⟨H, hf, hs⟩
   obtain ⟨O, rfl⟩ := hf.open
   show G _ _ _ _ [_,_,_,_,_,_,_,_,_,_,_,_,_,_,_,_,_,_,_] _
   unfold slices_IndexFunc_uint16_uint16_at_impl_ValidFerry_1.a0 at H
   refine g_seq (g_region ?_)
   show G _ _ _ (.inRegion _ [0] :: _) _ _
   refine g_op (v := Value.int .i64 (-1)) rfl rfl rfl ?_
   show G _ _ _ _ [_,_,_,_,_,_,_,_,_,_,_,_,_,_,_,_,_,_,_] _
   refine g_ops_nil ?_
   obtain rfl := Option.some.inj H
   refine g_ret Try.func62 (v := Value.int .i64 (-1)) (res1 rfl rfl) ?_
   have hs : St _ [] _ := St.take (Γ' := []) hs
   exact ⟨_, rfl, rfl, hs⟩
  intro ha1_
  have hs : St _ [] _ := St.take (Γ' := []) hs
  refine g_loop_fuel (I := fun n_ t w => ∃ x8 : Int, rounds (fun s => slices_IndexFunc_uint16_uint16_at_impl_ValidFerry_1.b0 N a1 a3 s) n_ x8 = some o1_ ∧ Fr t (fun O => ([v2, Value.func (Fn.func 48) #[] #[Value.pointer (some ⟨b4, 0, none⟩)], O 2, O 3, O 4, O 5, O 6, Value.int .i64 (a1.length : Int), Value.int .i64 x8, O 9, O 10, O 11, O 12, O 13, O 14, O 15, O 16, O 17, O 18] : List Value)) ∧ St w0 [] w) N ⟨0, Ho, rfl, hs⟩ ?_ ?_
  ·
   rintro _ _ ⟨x8, h, _⟩
   exact rounds_zero h
  intro n_ ih1_
  rintro t w ⟨x8, Ho, hf, hs⟩
  obtain ⟨O, rfl⟩ := hf.open
  show G _ _ _ _ [_,_,_,_,_,_,_,_,_,_,_,_,_,_,_,_,_,_,_] _
  obtain ⟨x2_, H, Hx1_⟩ := rounds_succ Ho
  have H : slices_IndexFunc_uint16_uint16_at_impl_ValidFerry_1.b0 N a1 a3 x8 = some x2_ := H
  unfold slices_IndexFunc_uint16_uint16_at_impl_ValidFerry_1.b0 at H
  refine g_seq (g_region ?_)
  show G _ _ _ (.inRegion _ [0] :: _) _ _
  refine g_op_b (B := decide (x8 < (a1.length : Int))) rfl rfl rfl ?_ ?_
  ·
   intro hb
   rw [if_pos (b_dec_t hb)] at H
   show G _ _ _ _ [_,_,_,_,_,_,_,_,_,_,_,_,_,_,_,_,_,_,_] _
   refine g_ops_nil (g_seq (g_cond_true rfl (g_skip (g_seq ?_))))
   refine g_block (g_seq (g_region ?_))
   show G _ _ _ (.inRegion _ [0, 1] :: _) _ _
   refine g_op (v := Value.int .i64 x8) rfl rfl rfl ?_
   show G _ _ _ _ [_,_,_,_,_,_,_,_,_,_,_,_,_,_,_,_,_,_,_] _
   refine g_op (v := Value.int .i64 x8) rfl rfl rfl ?_
   show G _ _ _ _ [_,_,_,_,_,_,_,_,_,_,_,_,_,_,_,_,_,_,_] _
   refine g_ops_nil (g_seq (g_region ?_))
   show G _ _ _ (.inRegion _ [0, 1, 2, 3, 4, 5] :: _) _ _
   refine g_op (v := Value.func (Fn.func 48) #[] #[Value.pointer (some ⟨b4, 0, none⟩)]) rfl rfl rfl ?_
   show G _ _ _ _ [_,_,_,_,_,_,_,_,_,_,_,_,_,_,_,_,_,_,_] _
   refine g_op (v := v2) rfl rfl rfl ?_
   show G _ _ _ _ [_,_,_,_,_,_,_,_,_,_,_,_,_,_,_,_,_,_,_] _
   refine g_op (v := Value.int .i64 x8) rfl rfl rfl ?_
   show G _ _ _ _ [_,_,_,_,_,_,_,_,_,_,_,_,_,_,_,_,_,_,_] _
   obtain ⟨g1, H⟩ := ite_get H
   refine s_idx (fkI .u16) 0 (hs.rd hr0) rfl (fun _ => rfl) g1.1 g1.2 rfl rfl rfl rfl rfl ?_
   intro p9 hp9 lp9 op9
   show G _ _ _ _ [_,_,_,_,_,_,_,_,_,_,_,_,_,_,_,_,_,_,_] _
   refine s_load1 rfl rfl (v := Value.int .u16 (rdL a1 x8 0)) rfl rfl (fun _ => rfl) hp9 ?_
   show G _ _ _ _ [_,_,_,_,_,_,_,_,_,_,_,_,_,_,_,_,_,_,_] _
   obtain ⟨r10, Hr10, H⟩ := bind_get H
   refine s_call (args := [Value.int .u16 (rdL a1 x8 0), Value.pointer (some ⟨b4, 0, none⟩)]) rfl rfl (x_callC rfl (callFunc_enter Try.func48 rfl rfl) rfl rfl) (impl_ValidFerry_1.calls (a1 := rdL a1 x8 0) (a2 := (⟨a3.f_Things, a3.f_Boat, a3.f_Rules⟩ : S_impl_Ferry)) (hs.rd hr6) (hs.box hp200) Hr10) ?_
   rintro _ w ⟨rfl, hs2⟩
   have hs : St _ [] _ := hs.call hs2
   cases r10 with
   | true =>
     rw [if_pos rfl] at H
     show G _ _ _ _ [_,_,_,_,_,_,_,_,_,_,_,_,_,_,_,_,_,_,_] _
     refine g_ops_nil (g_cond_true rfl (g_seq (g_region ?_)))
     show G _ _ _ (.inRegion _ [0, 1] :: _) _ _
     refine g_op (v := Value.int .i64 x8) rfl rfl rfl ?_
     show G _ _ _ _ [_,_,_,_,_,_,_,_,_,_,_,_,_,_,_,_,_,_,_] _
     refine g_op (v := Value.int .i64 x8) rfl rfl rfl ?_
     show G _ _ _ _ [_,_,_,_,_,_,_,_,_,_,_,_,_,_,_,_,_,_,_] _
     refine g_ops_nil ?_
     obtain rfl := Option.some.inj H
     subst Hx1_
     have H := Option.some.inj Hr1_
     subst H
     refine g_ret Try.func62 (v := Value.int .i64 x8) (res1 rfl rfl) ?_
     have hs : St _ [] _ := St.take (Γ' := []) hs
     exact ⟨_, rfl, rfl, hs⟩
   | false =>
     rw [if_neg Bool.false_ne_true] at H
     show G _ _ _ _ [_,_,_,_,_,_,_,_,_,_,_,_,_,_,_,_,_,_,_] _
     refine g_ops_nil (g_cond_false rfl (g_skip ?_))
     refine g_inBlock (g_region ?_)
     show G _ _ _ (.inRegion _ [0, 1] :: _) _ _
     refine g_op (v := Value.int .i64 (i64w (x8 + 1))) rfl rfl rfl ?_
     show G _ _ _ _ [_,_,_,_,_,_,_,_,_,_,_,_,_,_,_,_,_,_,_] _
     refine g_op (v := Value.int .i64 (i64w (x8 + 1))) rfl rfl rfl ?_
     show G _ _ _ _ [_,_,_,_,_,_,_,_,_,_,_,_,_,_,_,_,_,_,_] _
     refine g_ops_nil ?_
     obtain rfl := Option.some.inj H
     have hs : St _ [] _ := St.take (Γ' := []) hs
     exact ih1_ _ _ ⟨i64w (x8 + 1), Hx1_, rfl, hs⟩
  intro hb
  rw [if_neg (b_dec_f hb)] at H
  show G _ _ _ _ [_,_,_,_,_,_,_,_,_,_,_,_,_,_,_,_,_,_,_] _
  refine g_ops_nil (g_seq (g_cond_false rfl ?_))
  obtain rfl := Option.some.inj H
  subst Hx1_
  have hs : St _ [] _ := St.take (Γ' := []) hs
  refine g_exit rfl ?_
  exact ha1_ _ _ ⟨Hr1_, rfl, hs⟩

/- function 47 slices_ContainsFunc_uint16_uint16_at_impl_ValidFerry_1 -/
def slices_ContainsFunc_uint16_uint16_at_impl_ValidFerry_1.post (w0 : World) (r : Bool) (v : Value) (w : World) : Prop := v = Value.bool r ∧ St w0 [] w
set_option maxHeartbeats 8000000 in
set_option maxRecDepth 100000 in
theorem slices_ContainsFunc_uint16_uint16_at_impl_ValidFerry_1.calls {N : Nat} {a1 : (List Int)} {a3 : S_impl_Ferry} {v2 : Value} {b4 : Nat} {v5 : Value} {w0 : World} {r : Bool} (hr0 : RdRow (K.int .u16) w0 v2 a1) (hr6 : RdRow (K.int .u16) w0 v5 a3.f_Rules) (hp200 : w0.heap[b4]? = some (.cells ((([Value.int .i8 a3.f_Things, Value.int .i8 a3.f_Boat, v5] : List Value)) : List Value).toArray 27 (0, 0))) (H : slices_ContainsFunc_uint16_uint16_at_impl_ValidFerry_1.f N a1 a3 = some r) :
    Calls Try.prog 47 #[v2, Value.func (Fn.func 48) #[] #[Value.pointer (some ⟨b4, 0, none⟩)]] w0 fun e w => ∃ v, e = .returned v ∧ slices_ContainsFunc_uint16_uint16_at_impl_ValidFerry_1.post w0 r v w := by
  unfold slices_ContainsFunc_uint16_uint16_at_impl_ValidFerry_1.f at H
  have hs : St w0 [] w0 := St.refl w0
  refine calls_of_g (n := 7) Try.func47 rfl rfl ?_
  show G _ _ _ _ [_,_,_,_,_,_,_,_,_] _
  refine g_seq (g_region ?_)
  show G _ _ _ (.inRegion _ [0] :: _) _ _
  refine g_op (v := Value.bool false) rfl rfl rfl ?_
  show G _ _ _ _ [_,_,_,_,_,_,_,_,_] _
  refine g_ops_nil (g_seq (g_region ?_))
  show G _ _ _ (.inRegion _ [0, 1, 2, 3, 4] :: _) _ _
  refine g_op (v := v2) rfl rfl rfl ?_
  show G _ _ _ _ [_,_,_,_,_,_,_,_,_] _
  refine g_op (v := Value.func (Fn.func 48) #[] #[Value.pointer (some ⟨b4, 0, none⟩)]) rfl rfl rfl ?_
  show G _ _ _ _ [_,_,_,_,_,_,_,_,_] _
  obtain ⟨r8, Hr8, H⟩ := bind_get H
  refine s_call (args := [v2, Value.func (Fn.func 48) #[] #[Value.pointer (some ⟨b4, 0, none⟩)]]) rfl rfl (x_call rfl (callFunc_enter Try.func62 rfl rfl) rfl) (slices_IndexFunc_uint16_uint16_at_impl_ValidFerry_1.calls (a1 := a1) (a3 := (⟨a3.f_Things, a3.f_Boat, a3.f_Rules⟩ : S_impl_Ferry)) (hs.rd hr0) (hs.rd hr6) (hs.box hp200) Hr8) ?_
  rintro _ w ⟨rfl, hs2⟩
  have hs : St _ [] _ := hs.call hs2
  show G _ _ _ _ [_,_,_,_,_,_,_,_,_] _
  refine g_op (v := Value.bool (decide (r8 ≥ 0))) rfl rfl rfl ?_
  show G _ _ _ _ [_,_,_,_,_,_,_,_,_] _
  refine g_op (v := Value.bool (decide (r8 ≥ 0))) rfl rfl rfl ?_
  show G _ _ _ _ [_,_,_,_,_,_,_,_,_] _
  refine g_ops_nil ?_
  obtain rfl := Option.some.inj H
  refine g_ret Try.func47 (v := Value.bool (decide (r8 ≥ 0))) (res1 rfl rfl) ?_
  have hs : St _ [] _ := St.take (Γ' := []) hs
  exact ⟨_, rfl, rfl, hs⟩

end Go.Proofs.YtcaokmnajnfpiaaX
