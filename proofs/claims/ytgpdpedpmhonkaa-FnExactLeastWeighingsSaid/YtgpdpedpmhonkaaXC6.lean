/- Contracts, printed by gen.py. -/
import Derived.Test.YtgpdpedpmhonkaaXT
import Derived.Test.YtgpdpedpmhonkaaProg
import Derived.Test.YtgpdpedpmhonkaaXRowR
import Derived.Test.YtgpdpedpmhonkaaXSq
import Derived.Test.YtgpdpedpmhonkaaXSeg
import Derived.Test.YtgpdpedpmhonkaaXKey
import Derived.Test.YtgpdpedpmhonkaaXPart
import Derived.Test.YtgpdpedpmhonkaaXC1
import Derived.Test.YtgpdpedpmhonkaaXC2
import Derived.Test.YtgpdpedpmhonkaaXC4
import Derived.Test.YtgpdpedpmhonkaaXC5
namespace Go.Proofs.YtgpdpedpmhonkaaX
open Go Go.RowKit Go.Proofs
set_option linter.unusedVariables false
set_option linter.unusedSimpArgs false
/- function 30 _spec_l03Finder_can -/
set_option maxHeartbeats 8000000 in
set_option maxRecDepth 100000 in
theorem _spec_l03Finder_can.step {N : Nat} {self : S_spec_l03Finder → S_spec_l03Known → Int → Option (Bool × (List Int) × S_spec_l03Finder)} (ih : ∀ (a1 : S_spec_l03Finder) (a6 : S_spec_l03Known) (a7 : Int) (b2 : Nat) (v3 : Value) (wb : World) (Z : As) (w0 : World) (r : (Bool × (List Int) × S_spec_l03Finder)) (hs : St wb [Row 22 (K.int .i8) v3 a1.f_seen, Cells b2 (([Value.int .i64 a1.f_all, v3] : List Value)) 99, Z] w0), self a1 a6 a7 = some r → Calls Try.prog 30 #[Value.pointer (some ⟨b2, 0, none⟩), Value.agg (enc_S_spec_l03Known a6).toArray, Value.int .i64 a7] w0 fun e w => ∃ v, e = .returned v ∧ _spec_l03Finder_can.post wb Z v3 b2 v3 r v w) (a1 : S_spec_l03Finder) (a6 : S_spec_l03Known) (a7 : Int) (b2 : Nat) (v3 : Value) (wb : World) (Z : As) (w0 : World) (r : (Bool × (List Int) × S_spec_l03Finder)) (hs : St wb [Row 22 (K.int .i8) v3 a1.f_seen, Cells b2 (([Value.int .i64 a1.f_all, v3] : List Value)) 99, Z] w0) (H : _spec_l03Finder_can.body N self a1 a6 a7 = some r) :
    Calls Try.prog 30 #[Value.pointer (some ⟨b2, 0, none⟩), Value.agg (enc_S_spec_l03Known a6).toArray, Value.int .i64 a7] w0 fun e w => ∃ v, e = .returned v ∧ _spec_l03Finder_can.post wb Z v3 b2 v3 r v w := by
  unfold _spec_l03Finder_can.body at H
  refine calls_of_g (n := 72) Try.func30 rfl rfl ?_
  show G _ _ _ _ (_::_::_::_::_::_::_::_::_::_::_::_::_::_::_::_::_::_::_::_::_::_::_::_::_::_::_::_::_::_::_::_::_::_::_::_::_::_::_::_::_::_::_::_::_::_::_::_::_::_::_::_::_::_::_::_::_::_::_::_::_::_::_::_::_::_::_::_::_::_::_::_::_::_::_::[]) _
  refine g_seq (g_rg [0, 1] rfl ?_)
  refine s_box hs rfl rfl (cs := (enc_S_spec_l03Known a6)) rfl rfl ?_
  intro b8 w hs
  refine g_d rfl ?_
  refine g_op (v := Value.bool false) rfl rfl rfl (g_d rfl ?_)
  try dsimp only [set0,setS]
  refine g_ops_nil (g_seq (g_seq (g_rg [0, 1, 2] rfl ?_)))
  refine s_loadA rfl rfl (es := (enc_S_spec_l03Known a6)) rfl rfl (fun _ => rfl) (n := 4) (fun _ => rfl) (fk_S_spec_l03Known.len _) (cells_all (hs.cells 0 rfl)) (g_d rfl ?_)
  obtain ⟨r10, Hr10, H⟩ := bind_get H
  refine s_call (args := [Value.agg (enc_S_spec_l03Known a6).toArray]) rfl rfl (x_call rfl (callFunc_enter Try.func56 rfl rfl) rfl) (_spec_l03Known_cases.calls (a1 := a6) Hr10) ?_
  rintro _ w ⟨rfl, hs2⟩
  have hs : St _ [_,_,_,_] _ := hs.call hs2
  refine g_d rfl ?_
  try dsimp only [set0,setS]
  refine g_op_b (B := decide (r10 ≤ 1)) rfl rfl rfl ?_ ?_
  ·
   intro hb
   rw [if_pos (b_dec_t hb)] at H
   refine g_d rfl ?_
   try dsimp only [set0,setS]
   refine g_ops_nil (g_cond_true rfl (g_seq (g_rg [0] rfl ?_)))
   refine g_op (v := Value.bool true) rfl rfl rfl (g_d rfl (g_ops_nil ?_))
   obtain rfl := Option.some.inj H
   refine g_ret Try.func30 (v := Value.bool true) (res1 rfl rfl) ?_
   have hs := hs.pull 3 rfl
   have hs := hs.pull 3 rfl
   have hs := hs.pull 3 rfl
   have hs : St _ [_,_,_] _ := St.take (Γ' := [_]) hs
   exact ⟨_, rfl, rfl, hs⟩
  intro hb
  rw [if_neg (b_dec_f hb)] at H
  refine g_d rfl (g_ops_nil (g_cond_false rfl (g_skip (g_seq (g_seq (g_rg [0, 1, 2, 3, 4, 5, 6, 7, 8] rfl ?_))))))
  refine g_op (v := Value.int .i64 a7) rfl rfl rfl (g_d rfl ?_)
  refine g_op_b (B := decide (a7 ≤ 0)) rfl rfl rfl ?_ ?_
  ·
   intro hb
   rw [if_pos (b_dec_t hb)] at H
   refine g_d rfl ?_
   refine g_op (v := Value.bool true) rfl rfl rfl (g_d rfl (g_op_not rfl rfl (g_d rfl ?_)))
   try dsimp only [set0,setS]
   refine g_op_not rfl rfl (g_d rfl (g_op_not rfl rfl (g_d rfl (g_op_not rfl rfl (g_d rfl ?_)))))
   try dsimp only [set0,setS]
   refine g_op_not rfl rfl (g_d rfl ?_)
   refine g_op (v := Value.bool true) rfl rfl rfl (g_d rfl ?_)
   try dsimp only [set0,setS]
   refine g_ops_nil (g_cond_true rfl (g_seq (g_rg [0] rfl ?_)))
   refine g_op (v := Value.bool false) rfl rfl rfl (g_d rfl (g_ops_nil ?_))
   obtain rfl := Option.some.inj H
   refine g_ret Try.func30 (v := Value.bool false) (res1 rfl rfl) ?_
   have hs := hs.pull 3 rfl
   have hs := hs.pull 3 rfl
   have hs := hs.pull 3 rfl
   have hs : St _ [_,_,_] _ := St.take (Γ' := [_]) hs
   exact ⟨_, rfl, rfl, hs⟩
  intro hb
  rw [if_neg (b_dec_f hb)] at H
  refine g_d rfl ?_
  try dsimp only [set0,setS]
  refine g_op (v := Value.bool false) rfl rfl rfl (g_d rfl ?_)
  refine s_loadA rfl rfl (es := (enc_S_spec_l03Known a6)) rfl rfl (fun _ => rfl) (n := 4) (fun _ => rfl) (fk_S_spec_l03Known.len _) (cells_all (hs.cells 0 rfl)) (g_d rfl ?_)
  obtain ⟨r11, Hr11, H⟩ := bind_get H
  refine s_call (args := [Value.agg (enc_S_spec_l03Known a6).toArray]) rfl rfl (x_call rfl (callFunc_enter Try.func56 rfl rfl) rfl) (_spec_l03Known_cases.calls (a1 := a6) Hr11) ?_
  rintro _ w ⟨rfl, hs2⟩
  have hs : St _ [_,_,_,_] _ := hs.call hs2
  refine g_d rfl ?_
  try dsimp only [set0,setS]
  refine g_op (v := Value.int .i64 a7) rfl rfl rfl (g_d rfl ?_)
  obtain ⟨r12, Hr12, H⟩ := bind_get H
  refine s_call (args := [Value.int .i64 a7]) rfl rfl (x_call rfl (callFunc_enter Try.func57 rfl rfl) rfl) (spec_l03Power.calls (a1 := a7) Hr12) ?_
  rintro _ w ⟨rfl, hs2⟩
  have hs : St _ [_,_,_,_] _ := hs.call hs2
  refine g_d rfl ?_
  refine g_op_b (B := decide (r11 > r12)) rfl rfl rfl ?_ ?_
  ·
   intro hb
   rw [if_pos (b_dec_t hb)] at H
   refine g_d rfl ?_
   try dsimp only [set0,setS]
   refine g_op (v := Value.bool true) rfl rfl rfl (g_d rfl (g_ops_nil (g_cond_true rfl (g_seq (g_rg [0] rfl ?_)))))
   refine g_op (v := Value.bool false) rfl rfl rfl (g_d rfl ?_)
   try dsimp only [set0,setS]
   refine g_ops_nil ?_
   obtain rfl := Option.some.inj H
   refine g_ret Try.func30 (v := Value.bool false) (res1 rfl rfl) ?_
   have hs := hs.pull 3 rfl
   have hs := hs.pull 3 rfl
   have hs := hs.pull 3 rfl
   have hs : St _ [_,_,_] _ := St.take (Γ' := [_]) hs
   exact ⟨_, rfl, rfl, hs⟩
  intro hb
  rw [if_neg (b_dec_f hb)] at H
  refine g_d rfl ?_
  try dsimp only [set0,setS]
  refine g_op (v := Value.bool false) rfl rfl rfl (g_d rfl (g_ops_nil (g_cond_false rfl (g_skip (g_seq (g_rg [0, 1, 2, 3, 4, 5, 6, 7, 8, 9, 10, 11, 12, 13, 14, 15, 16, 17] rfl ?_))))))
  refine g_op (v := Value.pointer (some ⟨b8, 0, none⟩)) rfl rfl rfl (g_d rfl ?_)
  refine s_load1 rfl rfl (v := Value.int .i64 a6.f_open) rfl rfl (fun _ => rfl) (cells_load (hs.cells 0 rfl) 0 1 rfl) (g_d rfl ?_)
  try dsimp only [set0,setS]
  refine g_op (v := Value.int .i64 (i64w (a6.f_open * 14))) rfl rfl rfl (g_d rfl ?_)
  refine g_op (v := Value.pointer (some ⟨b8, 1, none⟩)) rfl rfl rfl (g_d rfl ?_)
  refine s_load1 rfl rfl (v := Value.int .i64 a6.f_heavy) rfl rfl (fun _ => rfl) (cells_load (hs.cells 0 rfl) 1 1 rfl) (g_d rfl ?_)
  try dsimp only [set0,setS]
  refine g_op (v := Value.int .i64 (i64w ((i64w (a6.f_open * 14)) + a6.f_heavy))) rfl rfl rfl (g_d rfl ?_)
  refine g_op (v := Value.int .i64 (i64w ((i64w ((i64w (a6.f_open * 14)) + a6.f_heavy)) * 14))) rfl rfl rfl (g_d rfl ?_)
  try dsimp only [set0,setS]
  refine g_op (v := Value.pointer (some ⟨b8, 2, none⟩)) rfl rfl rfl (g_d rfl ?_)
  refine s_load1 rfl rfl (v := Value.int .i64 a6.f_light) rfl rfl (fun _ => rfl) (cells_load (hs.cells 0 rfl) 2 1 rfl) (g_d rfl ?_)
  refine g_op (v := Value.int .i64 (i64w ((i64w ((i64w ((i64w (a6.f_open * 14)) + a6.f_heavy)) * 14)) + a6.f_light))) rfl rfl rfl (g_d rfl ?_)
  try dsimp only [set0,setS]
  refine g_op (v := Value.int .i64 (i64w ((i64w ((i64w ((i64w ((i64w (a6.f_open * 14)) + a6.f_heavy)) * 14)) + a6.f_light)) * 2))) rfl rfl rfl (g_d rfl ?_)
  refine g_op (v := Value.pointer (some ⟨b8, 3, none⟩)) rfl rfl rfl (g_d rfl ?_)
  refine s_load1 rfl rfl (v := Value.int .i64 a6.f_none) rfl rfl (fun _ => rfl) (cells_load (hs.cells 0 rfl) 3 1 rfl) (g_d rfl ?_)
  try dsimp only [set0,setS]
  refine g_op (v := Value.int .i64 (i64w ((i64w ((i64w ((i64w ((i64w ((i64w (a6.f_open * 14)) + a6.f_heavy)) * 14)) + a6.f_light)) * 2)) + a6.f_none))) rfl rfl rfl (g_d rfl ?_)
  refine g_op (v := Value.int .i64 (i64w ((i64w ((i64w ((i64w ((i64w ((i64w ((i64w (a6.f_open * 14)) + a6.f_heavy)) * 14)) + a6.f_light)) * 2)) + a6.f_none)) * 6))) rfl rfl rfl (g_d rfl ?_)
  try dsimp only [set0,setS]
  refine g_op (v := Value.int .i64 a7) rfl rfl rfl (g_d rfl ?_)
  refine g_op (v := Value.int .i64 (i64w ((i64w ((i64w ((i64w ((i64w ((i64w ((i64w ((i64w (a6.f_open * 14)) + a6.f_heavy)) * 14)) + a6.f_light)) * 2)) + a6.f_none)) * 6)) + a7))) rfl rfl rfl (g_d rfl ?_)
  refine g_op (v := Value.int .i64 (i64w ((i64w ((i64w ((i64w ((i64w ((i64w ((i64w ((i64w (a6.f_open * 14)) + a6.f_heavy)) * 14)) + a6.f_light)) * 2)) + a6.f_none)) * 6)) + a7))) rfl rfl rfl (g_d rfl ?_)
  try dsimp only [set0,setS]
  refine g_ops_nil (g_seq (g_seq ?_))
  refine g_join2 (J := (fun t w => ∃ x19 : Int, ∃ x20 : (List Int), _spec_l03Finder_can.j0 N self a6 a7 x19 x20 = some r ∧ Fr t (fun O => (Value.pointer (some ⟨b2, 0, none⟩)::O 1::O 2::O 3::O 4::O 5::O 6::Value.int .i64 (i64w ((i64w ((i64w ((i64w ((i64w ((i64w ((i64w ((i64w (a6.f_open * 14)) + a6.f_heavy)) * 14)) + a6.f_light)) * 2)) + a6.f_none)) * 6)) + a7))::O 8::O 9::O 10::O 11::O 12::O 13::O 14::O 15::O 16::O 17::O 18::O 19::O 20::O 21::O 22::O 23::O 24::O 25::O 26::O 27::O 28::O 29::O 30::O 31::O 32::O 33::O 34::O 35::O 36::O 37::O 38::O 39::O 40::O 41::O 42::O 43::O 44::O 45::O 46::O 47::O 48::O 49::O 50::O 51::O 52::O 53::O 54::O 55::O 56::O 57::O 58::O 59::O 60::O 61::O 62::O 63::O 64::O 65::O 66::O 67::O 68::O 69::O 70::O 71::O 72::O 73::O 74::[] : List Value)) ∧ St wb [Cells b2 (([Value.int .i64 x19, v3] : List Value)) 99, Row 22 (K.int .i8) v3 x20, Z] w)) ?_ ?_
  ·
   rintro t w ⟨x19, x20, H, hf, hs⟩
   obtain ⟨O, rfl⟩ := hf.open
   try dsimp only
   unfold _spec_l03Finder_can.j0 at H
   refine g_seq (g_rg [0, 1, 2, 3, 4, 5, 6, 7, 8] rfl ?_)
   refine g_op (v := Value.pointer (some ⟨b2, 0, none⟩)) rfl rfl rfl (g_d rfl ?_)
   refine g_op (v := Value.pointer (some ⟨b2, 0, none⟩)) rfl rfl rfl (g_d rfl ?_)
   refine g_op (v := Value.pointer (some ⟨b2, 1, none⟩)) rfl rfl rfl (g_d rfl ?_)
   refine s_load1 rfl rfl (v := v3) rfl rfl (fun _ => rfl) (cells_load (hs.cells 0 rfl) 1 1 rfl) (g_d rfl ?_)
   try dsimp only [set0,setS]
   refine g_op (v := Value.int .i64 (i64w ((i64w ((i64w ((i64w ((i64w ((i64w ((i64w ((i64w (a6.f_open * 14)) + a6.f_heavy)) * 14)) + a6.f_light)) * 2)) + a6.f_none)) * 6)) + a7))) rfl rfl rfl (g_d rfl ?_)
   obtain ⟨g4, H⟩ := ite_get H
   refine s_idx (fkI .i8) 0 (hs.row 1 rfl) rfl (fun _ => rfl) g4.1 g4.2 rfl rfl rfl rfl rfl ?_
   intro p22 hp22 lp22 op22
   refine g_d rfl ?_
   refine s_load1 rfl rfl (v := Value.int .i8 (rdL x20 (i64w ((i64w ((i64w ((i64w ((i64w ((i64w ((i64w ((i64w (a6.f_open * 14)) + a6.f_heavy)) * 14)) + a6.f_light)) * 2)) + a6.f_none)) * 6)) + a7)) 0)) rfl rfl (fun _ => rfl) hp22 (g_d rfl ?_)
   try dsimp only [set0,setS]
   refine g_op (v := Value.bool ((rdL x20 (i64w ((i64w ((i64w ((i64w ((i64w ((i64w ((i64w ((i64w (a6.f_open * 14)) + a6.f_heavy)) * 14)) + a6.f_light)) * 2)) + a6.f_none)) * 6)) + a7)) 0) == 2)) rfl rfl rfl (g_d rfl ?_)
   refine g_op (v := Value.bool ((rdL x20 (i64w ((i64w ((i64w ((i64w ((i64w ((i64w ((i64w ((i64w (a6.f_open * 14)) + a6.f_heavy)) * 14)) + a6.f_light)) * 2)) + a6.f_none)) * 6)) + a7)) 0) == 2)) rfl rfl rfl (g_d rfl ?_)
   try dsimp only [set0,setS]
   refine g_ops_nil ?_
   obtain rfl := Option.some.inj H
   refine g_ret Try.func30 (v := Value.bool ((rdL x20 (i64w ((i64w ((i64w ((i64w ((i64w ((i64w ((i64w ((i64w (a6.f_open * 14)) + a6.f_heavy)) * 14)) + a6.f_light)) * 2)) + a6.f_none)) * 6)) + a7)) 0) == 2)) (res1 rfl rfl) ?_
   have hs := hs.pull 2 rfl
   have hs := hs.pull 1 rfl
   have hs := hs.pull 2 rfl
   have hs : St _ [_,_,_] _ := St.take (Γ' := []) hs
   exact ⟨_, rfl, rfl, hs⟩
  intro ha
  refine g_rg [0, 1, 2, 3, 4, 5, 6, 7] rfl ?_
  refine g_op (v := Value.pointer (some ⟨b2, 0, none⟩)) rfl rfl rfl (g_d rfl ?_)
  refine g_op (v := Value.pointer (some ⟨b2, 0, none⟩)) rfl rfl rfl (g_d rfl ?_)
  refine g_op (v := Value.pointer (some ⟨b2, 1, none⟩)) rfl rfl rfl (g_d rfl ?_)
  refine s_load1 rfl rfl (v := v3) rfl rfl (fun _ => rfl) (cells_load (hs.cells 2 rfl) 1 1 rfl) (g_d rfl ?_)
  refine g_op (v := Value.int .i64 (i64w ((i64w ((i64w ((i64w ((i64w ((i64w ((i64w ((i64w (a6.f_open * 14)) + a6.f_heavy)) * 14)) + a6.f_light)) * 2)) + a6.f_none)) * 6)) + a7))) rfl rfl rfl (g_d rfl ?_)
  obtain ⟨g1, H⟩ := ite_get H
  refine s_idx (fkI .i8) 0 (hs.row 1 rfl) rfl (fun _ => rfl) g1.1 g1.2 rfl rfl rfl rfl rfl ?_
  intro p13 hp13 lp13 op13
  refine g_d rfl ?_
  try dsimp only [set0,setS]
  refine s_load1 rfl rfl (v := Value.int .i8 (rdL a1.f_seen (i64w ((i64w ((i64w ((i64w ((i64w ((i64w ((i64w ((i64w (a6.f_open * 14)) + a6.f_heavy)) * 14)) + a6.f_light)) * 2)) + a6.f_none)) * 6)) + a7)) 0)) rfl rfl (fun _ => rfl) hp13 (g_d rfl ?_)
  refine g_op_b (B := (rdL a1.f_seen (i64w ((i64w ((i64w ((i64w ((i64w ((i64w ((i64w ((i64w (a6.f_open * 14)) + a6.f_heavy)) * 14)) + a6.f_light)) * 2)) + a6.f_none)) * 6)) + a7)) 0) == 0) rfl rfl rfl ?_ ?_
  ·
   intro hb
   rw [if_pos (b_beq_t hb)] at H
   refine g_d rfl (g_ops_nil (g_cond_true rfl (g_seq (g_rg [0, 1, 2, 3, 4, 5, 6] rfl ?_))))
   refine g_op (v := Value.pointer (some ⟨b2, 0, none⟩)) rfl rfl rfl (g_d rfl ?_)
   refine g_op (v := Value.pointer (some ⟨b2, 0, none⟩)) rfl rfl rfl (g_d rfl ?_)
   refine g_op (v := Value.pointer (some ⟨b2, 1, none⟩)) rfl rfl rfl (g_d rfl ?_)
   refine s_load1 rfl rfl (v := v3) rfl rfl (fun _ => rfl) (cells_load (hs.cells 2 rfl) 1 1 rfl) (g_d rfl ?_)
   try dsimp only [set0,setS]
   refine g_op (v := Value.int .i64 (i64w ((i64w ((i64w ((i64w ((i64w ((i64w ((i64w ((i64w (a6.f_open * 14)) + a6.f_heavy)) * 14)) + a6.f_light)) * 2)) + a6.f_none)) * 6)) + a7))) rfl rfl rfl (g_d rfl ?_)
   obtain ⟨g2, H⟩ := ite_get H
   refine s_idx (fkI .i8) 0 (hs.row 1 rfl) rfl (fun _ => rfl) g2.1 g2.2 rfl rfl rfl rfl rfl ?_
   intro p14 hp14 lp14 op14
   refine g_d rfl ?_
   have hs := hs.pull 1 rfl
   have hs : St _ [_,_,_,_] _ := hs
   refine s_stRow (y := 1) (fkI .i8) g2.1 g2.2 op14 hs rfl rfl rfl rfl rfl (fun _ => rfl) ?_
   intro w hs
   refine g_n rfl (g_ops_nil (g_seq (g_rg [0, 1, 2, 3, 4, 5, 6, 7, 8, 9] rfl ?_)))
   refine g_op (v := Value.pointer (some ⟨b2, 0, none⟩)) rfl rfl rfl (g_d rfl ?_)
   refine s_loadA rfl rfl (es := (enc_S_spec_l03Known a6)) rfl rfl (fun _ => rfl) (n := 4) (fun _ => rfl) (fk_S_spec_l03Known.len _) (cells_all (hs.cells 1 rfl)) (g_d rfl ?_)
   try dsimp only [set0,setS]
   refine g_op (v := Value.int .i64 a7) rfl rfl rfl (g_d rfl ?_)
   obtain ⟨r15, Hr15, H⟩ := bind_get H
   have hs := hs.pull 2 rfl
   have hs := hs.pull 1 rfl
   have hs : St _ [_,_,_,_] _ := hs
   have hs := hs.pack 2
   refine s_call (args := [Value.pointer (some ⟨b2, 0, none⟩), Value.agg (enc_S_spec_l03Known a6).toArray, Value.int .i64 a7]) rfl rfl (x_call rfl (callFunc_enter Try.func58 rfl rfl) rfl) (_spec_l03Finder_first.calls ih (a1 := (⟨a1.f_all, stL a1.f_seen (i64w ((i64w ((i64w ((i64w ((i64w ((i64w ((i64w ((i64w (a6.f_open * 14)) + a6.f_heavy)) * 14)) + a6.f_light)) * 2)) + a6.f_none)) * 6)) + a7)) 1⟩ : S_spec_l03Finder)) (a6 := a6) (a7 := a7) hs Hr15) ?_
   rintro _ w ⟨rfl, hs⟩
   have hs := St.unpack (Γ := [_,_]) hs
   have hs : St _ [_,_,_,_] _ := hs
   refine g_d rfl ?_
   refine g_op (v := Value.tuple #[Value.agg ((encA (encI .i64)) r15.1).toArray, Value.bool r15.2.1]) rfl rfl rfl (g_d rfl ?_)
   refine g_op (v := Value.agg ((encA (encI .i64)) r15.1).toArray) rfl rfl rfl (g_d rfl ?_)
   refine g_op (v := Value.bool r15.2.1) rfl rfl rfl (g_d rfl ?_)
   refine s_alloc hs rfl rfl (z := (Value.agg #[Value.int .i64 0, Value.int .i64 0, Value.int .i64 0, Value.int .i64 0, Value.int .i64 0, Value.int .i64 0, Value.int .i64 0, Value.int .i64 0])) (cs := ((encA (encI .i64)) (Ar.rep 8 0))) rfl (fun _ => rfl) rfl ?_
   intro b16 w hs
   refine g_d rfl ?_
   try dsimp only [set0,setS]
   refine s_storeAll (n := 8) hs ((fkA (n := 8) (he := (fkI .i64).len) (h1 := (fkI .i64).one)).len _) rfl rfl (vs := ((encA (encI .i64)) r15.1)) rfl rfl rfl (fun _ => rfl) ((fkA (n := 8) (he := (fkI .i64).len) (h1 := (fkI .i64).one)).len _) ((fkA (n := 8) (he := (fkI .i64).len) (h1 := (fkI .i64).one)).one _) ?_
   intro w hs
   refine g_n rfl ?_
   refine g_op (v := Value.bool r15.2.1) rfl rfl rfl (g_d rfl (g_ops_nil (g_seq (g_rg [0] rfl ?_))))
   refine g_op_b (B := r15.2.1) rfl rfl rfl ?_ ?_
   ·
    intro hb
    rw [if_pos (b_var_t hb)] at H
    refine g_d rfl (g_ops_nil (g_cond_true rfl (g_rg [0, 1, 2, 3, 4, 5, 6] rfl ?_)))
    refine g_op (v := Value.pointer (some ⟨b2, 0, none⟩)) rfl rfl rfl (g_d rfl ?_)
    refine g_op (v := Value.pointer (some ⟨b2, 0, none⟩)) rfl rfl rfl (g_d rfl ?_)
    refine g_op (v := Value.pointer (some ⟨b2, 1, none⟩)) rfl rfl rfl (g_d rfl ?_)
    refine s_load1 rfl rfl (v := v3) rfl rfl (fun _ => rfl) (cells_load (hs.cells 2 rfl) 1 1 rfl) (g_d rfl ?_)
    try dsimp only [set0,setS]
    refine g_op (v := Value.int .i64 (i64w ((i64w ((i64w ((i64w ((i64w ((i64w ((i64w ((i64w (a6.f_open * 14)) + a6.f_heavy)) * 14)) + a6.f_light)) * 2)) + a6.f_none)) * 6)) + a7))) rfl rfl rfl (g_d rfl ?_)
    obtain ⟨g3, H⟩ := ite_get H
    refine s_idx (fkI .i8) 0 (hs.row 1 rfl) rfl (fun _ => rfl) g3.1 g3.2 rfl rfl rfl rfl rfl ?_
    intro p18 hp18 lp18 op18
    refine g_d rfl ?_
    have hs := hs.pull 1 rfl
    have hs : St _ [_,_,_,_,_] _ := hs
    refine s_stRow (y := 2) (fkI .i8) g3.1 g3.2 op18 hs rfl rfl rfl rfl rfl (fun _ => rfl) ?_
    intro w hs
    refine g_n rfl (g_ops_nil ?_)
    have hs := hs.pull 4 rfl
    have hs := hs.pull 1 rfl
    have hs := hs.pull 3 rfl
    have hs : St _ [_,_,_] _ := St.take (Γ' := [_,_]) hs
    exact ha _ _ ⟨r15.2.2.2.f_all, stL r15.2.2.1 (i64w ((i64w ((i64w ((i64w ((i64w ((i64w ((i64w ((i64w (a6.f_open * 14)) + a6.f_heavy)) * 14)) + a6.f_light)) * 2)) + a6.f_none)) * 6)) + a7)) 2, H, rfl, hs⟩
   intro hb
   rw [if_neg (b_var_f hb)] at H
   refine g_d rfl (g_ops_nil (g_cond_false rfl (g_skip ?_)))
   have hs := hs.pull 4 rfl
   have hs := hs.pull 2 rfl
   have hs := hs.pull 3 rfl
   have hs : St _ [_,_,_] _ := St.take (Γ' := [_,_]) hs
   exact ha _ _ ⟨r15.2.2.2.f_all, r15.2.2.1, H, rfl, hs⟩
  intro hb
  rw [if_neg (b_beq_f hb)] at H
  refine g_d rfl ?_
  try dsimp only [set0,setS]
  refine g_ops_nil (g_cond_false rfl (g_skip ?_))
  have hs := hs.pull 3 rfl
  have hs := hs.pull 2 rfl
  have hs := hs.pull 3 rfl
  have hs : St _ [_,_,_] _ := St.take (Γ' := [_]) hs
  exact ha _ _ ⟨a1.f_all, a1.f_seen, H, rfl, hs⟩
theorem _spec_l03Finder_can.rec {N : Nat} : ∀ (k : Nat) (a1 : S_spec_l03Finder) (a6 : S_spec_l03Known) (a7 : Int) (b2 : Nat) (v3 : Value) (wb : World) (Z : As) (w0 : World) (r : (Bool × (List Int) × S_spec_l03Finder)) (hs : St wb [Row 22 (K.int .i8) v3 a1.f_seen, Cells b2 (([Value.int .i64 a1.f_all, v3] : List Value)) 99, Z] w0) (H : _spec_l03Finder_can.g N k a1 a6 a7 = some r), Calls Try.prog 30 #[Value.pointer (some ⟨b2, 0, none⟩), Value.agg (enc_S_spec_l03Known a6).toArray, Value.int .i64 a7] w0 fun e w => ∃ v, e = .returned v ∧ _spec_l03Finder_can.post wb Z v3 b2 v3 r v w
  | 0, a1, a6, a7, b2, v3, wb, Z, w0, r, hs, H => by cases H
  | k + 1, a1, a6, a7, b2, v3, wb, Z, w0, r, hs, H => _spec_l03Finder_can.step (fun a1 a6 a7 b2 v3 wb Z w0 r hs H => _spec_l03Finder_can.rec k a1 a6 a7 b2 v3 wb Z w0 r hs H) a1 a6 a7 b2 v3 wb Z w0 r hs H
theorem _spec_l03Finder_can.ih {N : Nat} : ∀ (a1 : S_spec_l03Finder) (a6 : S_spec_l03Known) (a7 : Int) (b2 : Nat) (v3 : Value) (wb : World) (Z : As) (w0 : World) (r : (Bool × (List Int) × S_spec_l03Finder)) (hs : St wb [Row 22 (K.int .i8) v3 a1.f_seen, Cells b2 (([Value.int .i64 a1.f_all, v3] : List Value)) 99, Z] w0), _spec_l03Finder_can.f N a1 a6 a7 = some r → Calls Try.prog 30 #[Value.pointer (some ⟨b2, 0, none⟩), Value.agg (enc_S_spec_l03Known a6).toArray, Value.int .i64 a7] w0 fun e w => ∃ v, e = .returned v ∧ _spec_l03Finder_can.post wb Z v3 b2 v3 r v w := fun a1 a6 a7 b2 v3 wb Z w0 r hs H => _spec_l03Finder_can.rec N a1 a6 a7 b2 v3 wb Z w0 r hs H
theorem _spec_l03Finder_can.calls {N : Nat} {a1 : S_spec_l03Finder} {a6 : S_spec_l03Known} {a7 : Int} {b2 : Nat} {v3 : Value} {wb : World} {Z : As} {w0 : World} {r : (Bool × (List Int) × S_spec_l03Finder)} (hs : St wb [Row 22 (K.int .i8) v3 a1.f_seen, Cells b2 (([Value.int .i64 a1.f_all, v3] : List Value)) 99, Z] w0) (H : _spec_l03Finder_can.f N a1 a6 a7 = some r) :
    Calls Try.prog 30 #[Value.pointer (some ⟨b2, 0, none⟩), Value.agg (enc_S_spec_l03Known a6).toArray, Value.int .i64 a7] w0 fun e w => ∃ v, e = .returned v ∧ _spec_l03Finder_can.post wb Z v3 b2 v3 r v w := _spec_l03Finder_can.rec N a1 a6 a7 b2 v3 wb Z w0 r hs H

/- function 6 spec_CanFind -/
def spec_CanFind.post (w0 : World) (r : (Bool × Int)) (v : Value) (w : World) : Prop := v = Value.tuple #[Value.bool r.1, Value.int .i64 r.2] ∧ St w0 [] w
set_option maxHeartbeats 8000000 in
set_option maxRecDepth 100000 in
theorem spec_CanFind.calls {N : Nat} {a1 : S_laws_Task} {a2 : Int} {w0 : World} {r : (Bool × Int)} (H : spec_CanFind.f N a1 a2 = some r) :
    Calls Try.prog 6 #[Value.agg (enc_S_laws_Task a1).toArray, Value.int .i64 a2] w0 fun e w => ∃ v, e = .returned v ∧ spec_CanFind.post w0 r v w := by
  unfold spec_CanFind.f at H
  have hs : St w0 [] w0 := St.refl w0
  refine calls_of_g (n := 21) Try.func6 rfl rfl ?_
  show G _ _ _ _ [_,_,_,_,_,_,_,_,_,_,_,_,_,_,_,_,_,_,_,_,_,_,_] _
  refine g_seq (g_rg [0, 1, 2] rfl ?_)
  refine s_box hs rfl rfl (cs := (enc_S_laws_Task a1)) rfl rfl ?_
  intro b3 w hs
  refine g_op (v := Value.bool false) rfl rfl rfl ?_
  refine g_op (v := Value.int .i64 0) rfl rfl rfl ?_
  show G _ _ _ _ [_,_,_,_,_,_,_,_,_,_,_,_,_,_,_,_,_,_,_,_,_,_,_] _
  refine g_ops_nil (g_seq (g_seq (g_rg [0, 1, 2] rfl ?_)))
  refine s_loadA rfl rfl (es := (enc_S_laws_Task a1)) rfl rfl (fun _ => rfl) (n := 4) (fun _ => rfl) (fk_S_laws_Task.len _) (cells_all (hs.cells 0 rfl)) ?_
  obtain ⟨r5, Hr5, H⟩ := bind_get H
  refine s_call (args := [Value.agg (enc_S_laws_Task a1).toArray]) rfl rfl (x_call rfl (callFunc_enter Try.func27 rfl rfl) rfl) (spec_l03Ok.calls (a1 := a1) Hr5) ?_
  rintro _ w ⟨rfl, hs2⟩
  have hs : St _ [_] _ := hs.call hs2
  cases r5 with
  | true =>
    rw [if_pos rfl] at H
    refine g_op (v := Value.bool false) rfl rfl rfl ?_
    show G _ _ _ _ [_,_,_,_,_,_,_,_,_,_,_,_,_,_,_,_,_,_,_,_,_,_,_] _
    refine g_ops_nil (g_cond_false rfl (g_skip (g_seq (g_seq (g_rg [0, 1, 2] rfl ?_)))))
    refine g_op (v := Value.int .i64 a2) rfl rfl rfl ?_
    obtain ⟨r6, Hr6, H⟩ := bind_get H
    refine s_call (args := [Value.int .i64 a2, Value.int .i64 0, Value.int .i64 5]) rfl rfl (x_call rfl (callFunc_enter Try.func28 rfl rfl) rfl) (spec_l00In.calls (a1 := a2) (a2 := 0) (a3 := 5) Hr6) ?_
    rintro _ w ⟨rfl, hs2⟩
    have hs : St _ [_] _ := hs.call hs2
    cases r6 with
    | true =>
      rw [if_pos rfl] at H
      refine g_op (v := Value.bool false) rfl rfl rfl ?_
      show G _ _ _ _ [_,_,_,_,_,_,_,_,_,_,_,_,_,_,_,_,_,_,_,_,_,_,_] _
      refine g_ops_nil (g_cond_false rfl (g_skip (g_seq (g_rg [0, 1, 2, 3, 4, 5, 6, 7] rfl ?_))))
      refine s_loadA rfl rfl (es := (enc_S_laws_Task a1)) rfl rfl (fun _ => rfl) (n := 4) (fun _ => rfl) (fk_S_laws_Task.len _) (cells_all (hs.cells 0 rfl)) ?_
      obtain ⟨r7, Hr7, H⟩ := bind_get H
      refine s_call (args := [Value.agg (enc_S_laws_Task a1).toArray]) rfl rfl (x_call rfl (callFunc_enter Try.func29 rfl rfl) rfl) (spec_l03Begin.calls (a1 := a1) Hr7) ?_
      rintro _ w ⟨b8, v9, rfl, hs2⟩
      have hs : St _ [_,_,_] _ := hs.call hs2
      refine g_op (v := Value.tuple #[Value.pointer (some ⟨b8, 0, none⟩), Value.agg (enc_S_spec_l03Known r7.2).toArray]) rfl rfl rfl ?_
      show G _ _ _ _ [_,_,_,_,_,_,_,_,_,_,_,_,_,_,_,_,_,_,_,_,_,_,_] _
      refine g_op (v := Value.pointer (some ⟨b8, 0, none⟩)) rfl rfl rfl ?_
      refine g_op (v := Value.agg (enc_S_spec_l03Known r7.2).toArray) rfl rfl rfl ?_
      refine s_alloc hs rfl rfl (z := (Value.agg #[Value.int .i64 0, Value.int .i64 0, Value.int .i64 0, Value.int .i64 0])) (cs := (enc_S_spec_l03Known z_S_spec_l03Known)) rfl (fun _ => rfl) rfl ?_
      intro b12 w hs
      show G _ _ _ _ [_,_,_,_,_,_,_,_,_,_,_,_,_,_,_,_,_,_,_,_,_,_,_] _
      refine g_op (v := Value.pointer (some ⟨b8, 0, none⟩)) rfl rfl rfl ?_
      refine s_storeAll (n := 4) hs (fk_S_spec_l03Known.len _) rfl rfl (vs := (enc_S_spec_l03Known r7.2)) rfl rfl rfl (fun _ => rfl) (fk_S_spec_l03Known.len _) (fk_S_spec_l03Known.one _) ?_
      intro w hs
      refine g_ops_nil (g_seq (g_rg [0, 1, 2, 3, 4, 5] rfl ?_))
      refine g_op (v := Value.pointer (some ⟨b8, 0, none⟩)) rfl rfl rfl ?_
      refine s_loadA rfl rfl (es := (enc_S_spec_l03Known r7.2)) rfl rfl (fun _ => rfl) (n := 4) (fun _ => rfl) (fk_S_spec_l03Known.len _) (cells_all (hs.cells 0 rfl)) ?_
      show G _ _ _ _ [_,_,_,_,_,_,_,_,_,_,_,_,_,_,_,_,_,_,_,_,_,_,_] _
      refine g_op (v := Value.int .i64 a2) rfl rfl rfl ?_
      obtain ⟨r14, Hr14, H⟩ := bind_get H
      have hs := hs.pull 1 rfl
      have hs := hs.pull 2 rfl
      have hs : St _ [_,_,_,_] _ := hs
      have hs := hs.pack 2
      refine s_call (args := [Value.pointer (some ⟨b8, 0, none⟩), Value.agg (enc_S_spec_l03Known r7.2).toArray, Value.int .i64 a2]) rfl rfl (x_call rfl (callFunc_enter Try.func30 rfl rfl) rfl) (_spec_l03Finder_can.calls (a1 := (⟨r7.1.f_all, r7.1.f_seen⟩ : S_spec_l03Finder)) (a6 := r7.2) (a7 := a2) hs Hr14) ?_
      rintro _ w ⟨rfl, hs⟩
      have hs := St.unpack (Γ := [_,_]) hs
      have hs : St _ [_,_,_,_] _ := hs
      refine g_op (v := Value.bool r14.1) rfl rfl rfl ?_
      show G _ _ _ _ [_,_,_,_,_,_,_,_,_,_,_,_,_,_,_,_,_,_,_,_,_,_,_] _
      refine g_op (v := Value.int .i64 0) rfl rfl rfl (g_ops_nil ?_)
      obtain rfl := Option.some.inj H
      refine g_ret Try.func6 (v := Value.tuple #[Value.bool r14.1, Value.int .i64 0]) (resN (l := Try.f6.results.toList) (vs := [Value.bool r14.1, Value.int .i64 0]) rfl ⟨rfl, rfl, trivial⟩ (by simp)) ?_
      have hs : St _ [] _ := St.take (Γ' := [_,_,_,_]) hs
      exact ⟨_, rfl, rfl, hs⟩
    | false =>
      rw [if_neg Bool.false_ne_true] at H
      refine g_op (v := Value.bool true) rfl rfl rfl ?_
      show G _ _ _ _ [_,_,_,_,_,_,_,_,_,_,_,_,_,_,_,_,_,_,_,_,_,_,_] _
      refine g_ops_nil (g_cond_true rfl (g_seq (g_rg [0, 1] rfl ?_)))
      refine g_op (v := Value.bool false) rfl rfl rfl ?_
      refine g_op (v := Value.int .i64 2) rfl rfl rfl (g_ops_nil ?_)
      obtain rfl := Option.some.inj H
      refine g_ret Try.func6 (v := Value.tuple #[Value.bool false, Value.int .i64 2]) (resN (l := Try.f6.results.toList) (vs := [Value.bool false, Value.int .i64 2]) rfl ⟨rfl, rfl, trivial⟩ (by simp)) ?_
      have hs : St _ [] _ := St.take (Γ' := [_]) hs
      exact ⟨_, rfl, rfl, hs⟩
  | false =>
    rw [if_neg Bool.false_ne_true] at H
    refine g_op (v := Value.bool true) rfl rfl rfl ?_
    show G _ _ _ _ [_,_,_,_,_,_,_,_,_,_,_,_,_,_,_,_,_,_,_,_,_,_,_] _
    refine g_ops_nil (g_cond_true rfl (g_seq (g_rg [0, 1] rfl ?_)))
    refine g_op (v := Value.bool false) rfl rfl rfl ?_
    refine g_op (v := Value.int .i64 1) rfl rfl rfl (g_ops_nil ?_)
    obtain rfl := Option.some.inj H
    refine g_ret Try.func6 (v := Value.tuple #[Value.bool false, Value.int .i64 1]) (resN (l := Try.f6.results.toList) (vs := [Value.bool false, Value.int .i64 1]) rfl ⟨rfl, rfl, trivial⟩ (by simp)) ?_
    have hs : St _ [] _ := St.take (Γ' := [_]) hs
    exact ⟨_, rfl, rfl, hs⟩

/- function 31 impl_within -/
def impl_within.post (w0 : World) (r : Bool) (v : Value) (w : World) : Prop := v = Value.bool r ∧ St w0 [] w
set_option maxHeartbeats 8000000 in
set_option maxRecDepth 100000 in
theorem impl_within.calls {N : Nat} {a1 : Int} {a2 : Int} {a3 : Int} {w0 : World} {r : Bool} (H : impl_within.f N a1 a2 a3 = some r) :
    Calls Try.prog 31 #[Value.int .i64 a1, Value.int .i64 a2, Value.int .i64 a3] w0 fun e w => ∃ v, e = .returned v ∧ impl_within.post w0 r v w := by
  unfold impl_within.f at H
  have hs : St w0 [] w0 := St.refl w0
  refine calls_of_g (n := 12) Try.func31 rfl rfl ?_
  show G _ _ _ _ [_,_,_,_,_,_,_,_,_,_,_,_,_,_,_] _
  refine g_seq (g_rg [0] rfl ?_)
  refine g_op (v := Value.bool false) rfl rfl rfl (g_ops_nil (g_seq (g_rg [0, 1, 2, 3, 4, 5, 6, 7, 8] rfl ?_)))
  refine g_op (v := Value.int .i64 a2) rfl rfl rfl ?_
  show G _ _ _ _ [_,_,_,_,_,_,_,_,_,_,_,_,_,_,_] _
  refine g_op (v := Value.int .i64 a1) rfl rfl rfl ?_
  refine g_op_b (B := decide (a2 ≤ a1)) rfl rfl rfl ?_ ?_
  ·
   intro hb
   rw [if_pos (b_dec_t hb)] at H
   show G _ _ _ _ [_,_,_,_,_,_,_,_,_,_,_,_,_,_,_] _
   refine g_op (v := Value.bool true) rfl rfl rfl ?_
   refine g_op (v := Value.int .i64 a1) rfl rfl rfl ?_
   refine g_op (v := Value.int .i64 a3) rfl rfl rfl ?_
   show G _ _ _ _ [_,_,_,_,_,_,_,_,_,_,_,_,_,_,_] _
   refine g_op (v := Value.bool (decide (a1 ≤ a3))) rfl rfl rfl ?_
   refine g_op (v := Value.bool (decide (a1 ≤ a3))) rfl rfl rfl ?_
   refine g_op (v := Value.bool (decide (a1 ≤ a3))) rfl rfl rfl ?_
   show G _ _ _ _ [_,_,_,_,_,_,_,_,_,_,_,_,_,_,_] _
   refine g_ops_nil ?_
   obtain rfl := Option.some.inj H
   refine g_ret Try.func31 (v := Value.bool (decide (a1 ≤ a3))) (res1 rfl rfl) ?_
   have hs : St _ [] _ := St.take (Γ' := []) hs
   exact ⟨_, rfl, rfl, hs⟩
  intro hb
  rw [if_neg (b_dec_f hb)] at H
  refine g_op (v := Value.bool false) rfl rfl rfl ?_
  show G _ _ _ _ [_,_,_,_,_,_,_,_,_,_,_,_,_,_,_] _
  refine g_op_not rfl rfl (g_op_not rfl rfl (g_op_not rfl rfl ?_))
  show G _ _ _ _ [_,_,_,_,_,_,_,_,_,_,_,_,_,_,_] _
  refine g_op (v := Value.bool false) rfl rfl rfl ?_
  refine g_op (v := Value.bool false) rfl rfl rfl (g_ops_nil ?_)
  obtain rfl := Option.some.inj H
  refine g_ret Try.func31 (v := Value.bool false) (res1 rfl rfl) ?_
  have hs : St _ [] _ := St.take (Γ' := []) hs
  exact ⟨_, rfl, rfl, hs⟩

/- function 49 impl_isKind -/
def impl_isKind.post (w0 : World) (r : Bool) (v : Value) (w : World) : Prop := v = Value.bool r ∧ St w0 [] w
set_option maxHeartbeats 8000000 in
set_option maxRecDepth 100000 in
theorem impl_isKind.calls {N : Nat} {a1 : Int} {w0 : World} {r : Bool} (H : impl_isKind.f N a1 = some r) :
    Calls Try.prog 49 #[Value.int .i64 a1] w0 fun e w => ∃ v, e = .returned v ∧ impl_isKind.post w0 r v w := by
  unfold impl_isKind.f at H
  have hs : St w0 [] w0 := St.refl w0
  refine calls_of_g (n := 4) Try.func49 rfl rfl ?_
  show G _ _ _ _ [_,_,_,_,_] _
  refine g_seq (g_rg [0] rfl ?_)
  refine g_op (v := Value.bool false) rfl rfl rfl (g_ops_nil (g_seq (g_rg [0, 1, 2] rfl ?_)))
  refine g_op (v := Value.int .i64 a1) rfl rfl rfl ?_
  obtain ⟨r2, Hr2, H⟩ := bind_get H
  refine s_call (args := [Value.int .i64 a1, Value.int .i64 0, Value.int .i64 2]) rfl rfl (x_call rfl (callFunc_enter Try.func31 rfl rfl) rfl) (impl_within.calls (a1 := a1) (a2 := 0) (a3 := 2) Hr2) ?_
  rintro _ w ⟨rfl, hs2⟩
  have hs : St _ [] _ := hs.call hs2
  show G _ _ _ _ [_,_,_,_,_] _
  refine g_op (v := Value.bool r2) rfl rfl rfl (g_ops_nil ?_)
  obtain rfl := Option.some.inj H
  refine g_ret Try.func49 (v := Value.bool r2) (res1 rfl rfl) ?_
  have hs : St _ [] _ := St.take (Γ' := []) hs
  exact ⟨_, rfl, rfl, hs⟩

/- function 21 impl_ValidTask -/
def impl_ValidTask.post (w0 : World) (r : Bool) (v : Value) (w : World) : Prop := v = Value.bool r ∧ St w0 [] w
set_option maxHeartbeats 8000000 in
set_option maxRecDepth 100000 in
theorem impl_ValidTask.calls {N : Nat} {a1 : S_laws_Task} {w0 : World} {r : Bool} (H : impl_ValidTask.f N a1 = some r) :
    Calls Try.prog 21 #[Value.agg (enc_S_laws_Task a1).toArray] w0 fun e w => ∃ v, e = .returned v ∧ impl_ValidTask.post w0 r v w := by
  unfold impl_ValidTask.f at H
  have hs : St w0 [] w0 := St.refl w0
  refine calls_of_g (n := 12) Try.func21 rfl rfl ?_
  show G _ _ _ _ [_,_,_,_,_,_,_,_,_,_,_,_,_] _
  refine g_seq (g_rg [0, 1] rfl ?_)
  refine s_box hs rfl rfl (cs := (enc_S_laws_Task a1)) rfl rfl ?_
  intro b2 w hs
  show G _ _ _ _ [_,_,_,_,_,_,_,_,_,_,_,_,_] _
  refine g_op (v := Value.bool false) rfl rfl rfl (g_ops_nil (g_seq (g_rg [0, 1, 2, 3, 4, 5, 6, 7, 8, 9, 10] rfl ?_)))
  refine g_op (v := Value.pointer (some ⟨b2, 0, none⟩)) rfl rfl rfl ?_
  refine s_load1 rfl rfl (v := Value.int .i8 a1.f_Coins) rfl rfl (fun _ => rfl) (cells_load (hs.cells 0 rfl) 0 1 rfl) ?_
  show G _ _ _ _ [_,_,_,_,_,_,_,_,_,_,_,_,_] _
  refine g_op (v := Value.int .i64 (i64w a1.f_Coins)) rfl rfl rfl ?_
  obtain ⟨r4, Hr4, H⟩ := bind_get H
  refine s_call (args := [Value.int .i64 (i64w a1.f_Coins), Value.int .i64 1, Value.int .i64 13]) rfl rfl (x_call rfl (callFunc_enter Try.func31 rfl rfl) rfl) (impl_within.calls (a1 := i64w a1.f_Coins) (a2 := 1) (a3 := 13) Hr4) ?_
  rintro _ w ⟨rfl, hs2⟩
  have hs : St _ [_] _ := hs.call hs2
  cases r4 with
  | true =>
    rw [if_pos rfl] at H
    refine g_op (v := Value.bool true) rfl rfl rfl ?_
    refine g_op (v := Value.pointer (some ⟨b2, 1, none⟩)) rfl rfl rfl ?_
    show G _ _ _ _ [_,_,_,_,_,_,_,_,_,_,_,_,_] _
    refine s_load1 rfl rfl (v := Value.int .i8 a1.f_Kind) rfl rfl (fun _ => rfl) (cells_load (hs.cells 0 rfl) 1 1 rfl) ?_
    refine g_op (v := Value.int .i64 (i64w a1.f_Kind)) rfl rfl rfl ?_
    obtain ⟨r5, Hr5, H⟩ := bind_get H
    refine s_call (args := [Value.int .i64 (i64w a1.f_Kind)]) rfl rfl (x_call rfl (callFunc_enter Try.func49 rfl rfl) rfl) (impl_isKind.calls (a1 := i64w a1.f_Kind) Hr5) ?_
    rintro _ w ⟨rfl, hs2⟩
    have hs : St _ [_] _ := hs.call hs2
    show G _ _ _ _ [_,_,_,_,_,_,_,_,_,_,_,_,_] _
    refine g_op (v := Value.bool r5) rfl rfl rfl ?_
    refine g_op (v := Value.bool r5) rfl rfl rfl (g_ops_nil ?_)
    obtain rfl := Option.some.inj H
    refine g_ret Try.func21 (v := Value.bool r5) (res1 rfl rfl) ?_
    have hs : St _ [] _ := St.take (Γ' := [_]) hs
    exact ⟨_, rfl, rfl, hs⟩
  | false =>
    rw [if_neg Bool.false_ne_true] at H
    refine g_op (v := Value.bool false) rfl rfl rfl ?_
    show G _ _ _ _ [_,_,_,_,_,_,_,_,_,_,_,_,_] _
    refine g_op_not rfl rfl (g_op_not rfl rfl (g_op_not rfl rfl ?_))
    show G _ _ _ _ [_,_,_,_,_,_,_,_,_,_,_,_,_] _
    refine g_op_not rfl rfl ?_
    refine g_op (v := Value.bool false) rfl rfl rfl ?_
    refine g_op (v := Value.bool false) rfl rfl rfl ?_
    show G _ _ _ _ [_,_,_,_,_,_,_,_,_,_,_,_,_] _
    refine g_ops_nil ?_
    obtain rfl := Option.some.inj H
    refine g_ret Try.func21 (v := Value.bool false) (res1 rfl rfl) ?_
    have hs : St _ [] _ := St.take (Γ' := [_]) hs
    exact ⟨_, rfl, rfl, hs⟩

end Go.Proofs.YtgpdpedpmhonkaaX
