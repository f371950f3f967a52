/- Contracts, printed by gen.py. -/
import Derived.Test.YtekcbhgojjdcoaaXT
import Derived.Test.YtekcbhgojjdcoaaProg
import Derived.Test.YtekcbhgojjdcoaaXRowR
import Derived.Test.YtekcbhgojjdcoaaXSeg
import Derived.Test.YtekcbhgojjdcoaaXKey
import Derived.Test.YtekcbhgojjdcoaaXIter
import Derived.Test.YtekcbhgojjdcoaaXRow2
import Derived.Test.YtekcbhgojjdcoaaXC0
import Derived.Test.YtekcbhgojjdcoaaXC1
import Derived.Test.YtekcbhgojjdcoaaXC2
namespace Go.Proofs.YtekcbhgojjdcoaaX
open Go Go.RowKit Go.Proofs
set_option linter.unusedVariables false
set_option linter.unusedSimpArgs false
/- function 9 spec_PlacingFor -/
def spec_PlacingFor.post (w0 : World) (r : ((List Int) × Int)) (v : Value) (w : World) : Prop := ∃ u1 : Value, v = Value.tuple #[u1, Value.int .i64 r.2] ∧ St w0 [Row 47 (K.int .i8) u1 r.1] w
set_option maxHeartbeats 8000000 in
set_option maxRecDepth 100000 in
theorem spec_PlacingFor.calls {N : Nat} {a1 : (List Int)} {a3 : Int} {a4 : Bool} {v2 : Value} {w0 : World} {r : ((List Int) × Int)} (hr0 : RdRow (K.int .i16) w0 v2 a1) (H : spec_PlacingFor.f N a1 a3 a4 = some r) :
    Calls Try.prog 9 #[v2, Value.int .i64 a3, Value.bool a4] w0 fun e w => ∃ v, e = .returned v ∧ spec_PlacingFor.post w0 r v w := by
  unfold spec_PlacingFor.f at H
  have hs : St w0 [] w0 := St.refl w0
  refine calls_of_g (n := 96) Try.func9 rfl rfl ?_
  show G _ _ _ _ (_::_::_::_::_::_::_::_::_::_::_::_::_::_::_::_::_::_::_::_::_::_::_::_::_::_::_::_::_::_::_::_::_::_::_::_::_::_::_::_::_::_::_::_::_::_::_::_::_::_::_::_::_::_::_::_::_::_::_::_::_::_::_::_::_::_::_::_::_::_::_::_::_::_::_::_::_::_::_::_::_::_::_::_::_::_::_::_::_::_::_::_::_::_::_::_::_::_::_::[]) _
  refine g_seq ?_
  refine g_region ?_
  show G _ _ _ (.inRegion _ [0, 1] :: _) _ _
  refine g_op (v := Value.slice none 0 0) rfl rfl rfl ?_
  refine g_d rfl ?_
  try dsimp only [set0,setS]
  refine g_op (v := Value.int .i64 0) rfl rfl rfl ?_
  refine g_d rfl ?_
  try dsimp only [set0,setS]
  refine g_ops_nil ?_
  refine g_seq ?_
  refine g_seq ?_
  refine g_region ?_
  show G _ _ _ (.inRegion _ [0, 1, 2, 3] :: _) _ _
  refine g_op (v := v2) rfl rfl rfl ?_
  refine g_d rfl ?_
  refine g_op (v := Value.int .i64 a3) rfl rfl rfl ?_
  refine g_d rfl ?_
  obtain ⟨r5, Hr5, H⟩ := bind_get H
  refine s_call (args := [v2, Value.int .i64 a3]) rfl rfl (x_call rfl (callFunc_enter Try.func23 rfl rfl) rfl) (spec_l01Asked.calls (a1 := a1) (a3 := a3) (hs.rd hr0) Hr5) ?_
  rintro _ w ⟨rfl, hs2⟩
  have hs : St _ [] _ := hs.call hs2
  refine g_d rfl ?_
  try dsimp only [set0,setS]
  refine g_op (v := Value.int .i64 r5) rfl rfl rfl ?_
  refine g_d rfl ?_
  try dsimp only [set0,setS]
  refine g_ops_nil ?_
  refine g_seq ?_
  refine g_region ?_
  show G _ _ _ (.inRegion _ [0, 1] :: _) _ _
  refine g_op (v := Value.int .i64 r5) rfl rfl rfl ?_
  refine g_d rfl ?_
  refine g_op_b (B := r5 != 0) rfl rfl rfl ?_ ?_
  ·
   intro hb
   rw [if_neg (b_bne_t hb)] at H
   refine g_d rfl ?_
   try dsimp only [set0,setS]
   refine g_ops_nil ?_
   refine g_cond_true rfl ?_
   refine g_seq ?_
   refine g_region ?_
   show G _ _ _ (.inRegion _ [0, 1, 2, 3] :: _) _ _
   refine s_lit0 (κ := (K.int .i8)) hs rfl rfl rfl rfl (fun _ => rfl) ?_
   intro v6 w hs
   refine g_d rfl ?_
   try dsimp only [set0,setS]
   refine g_op (v := Value.int .i64 r5) rfl rfl rfl ?_
   refine g_d rfl ?_
   refine g_op (v := v6) rfl rfl rfl ?_
   refine g_d rfl ?_
   try dsimp only [set0,setS]
   refine g_op (v := Value.int .i64 r5) rfl rfl rfl ?_
   refine g_d rfl ?_
   try dsimp only [set0,setS]
   refine g_ops_nil ?_
   obtain rfl := Option.some.inj H
   refine g_ret Try.func9 (v := Value.tuple #[v6, Value.int .i64 r5]) (resN (l := Try.f9.results.toList) (vs := [v6, Value.int .i64 r5]) rfl ⟨rfl, rfl, trivial⟩ (by simp)) ?_
   have hs := hs.pull 0 rfl
   have hs : St _ [_] _ := St.take (Γ' := []) hs
   exact ⟨_, rfl, v6, rfl, hs⟩
  ·
   intro hb
   rw [if_pos (b_bne_f hb)] at H
   refine g_d rfl ?_
   try dsimp only [set0,setS]
   refine g_ops_nil ?_
   refine g_cond_false rfl ?_
   refine g_skip ?_
   refine g_seq ?_
   refine g_region ?_
   show G _ _ _ (.inRegion _ [0, 1, 2, 3] :: _) _ _
   refine g_op (v := v2) rfl rfl rfl ?_
   refine g_d rfl ?_
   refine g_op (v := Value.bool a4) rfl rfl rfl ?_
   refine g_d rfl ?_
   obtain ⟨r8, Hr8, H⟩ := bind_get H
   refine s_call (args := [v2, Value.bool a4]) rfl rfl (x_call rfl (callFunc_enter Try.func24 rfl rfl) rfl) (spec_l01Fewest.calls (a1 := a1) (a3 := a4) (hs.rd hr0) Hr8) ?_
   rintro v9 w ⟨_, ms10, rfl, hs2⟩
   have hs : St _ [_] _ := hs.call hs2
   refine g_d rfl ?_
   try dsimp only [set0,setS]
   refine g_op (v := v9) rfl rfl rfl ?_
   refine g_d rfl ?_
   try dsimp only [set0,setS]
   refine g_ops_nil ?_
   refine g_seq ?_
   refine g_region ?_
   show G _ _ _ (.inRegion _ [0, 1, 2] :: _) _ _
   refine g_op (v := Value.int .i64 a3) rfl rfl rfl ?_
   refine g_d rfl ?_
   refine g_op (v := Value.int .i64 (i64w (2000 + a3))) rfl rfl rfl ?_
   refine g_d rfl ?_
   try dsimp only [set0,setS]
   refine g_op (v := Value.int .i64 (i64w (2000 + a3))) rfl rfl rfl ?_
   refine g_d rfl ?_
   try dsimp only [set0,setS]
   refine g_ops_nil ?_
   refine g_seq ?_
   refine g_seq ?_
   refine g_region ?_
   show G _ _ _ (.inRegion _ [0, 1, 2, 3, 4, 5, 6] :: _) _ _
   refine g_op (v := v9) rfl rfl rfl ?_
   refine g_d rfl ?_
   obtain ⟨g1, H⟩ := ite_get H
   refine s_idx fkHS zHS (hs.r2row 0 rfl) rfl (fun _ => rfl) g1.1 (hs.r2lt 0 rfl g1.2) rfl rfl rfl rfl rfl ?_
   intro p12 hp12 lp12 op12
   refine g_d rfl ?_
   try dsimp only [set0,setS]
   refine s_load1 rfl rfl (v := Value.slice (rdL ms10 0 zHS).a (rdL ms10 0 zHS).n (rdL ms10 0 zHS).c) rfl rfl (fun _ => rfl) hp12 ?_
   refine g_d rfl ?_
   try dsimp only [set0,setS]
   refine g_op (v := Value.int .i64 (i64w (2000 + a3))) rfl rfl rfl ?_
   refine g_d rfl ?_
   obtain ⟨g2, H⟩ := ite_get H
   refine s_idx (fkI .i64) 0 (hs.r2rd 0 rfl g1.1 g1.2) rfl (fun _ => rfl) g2.1 g2.2 rfl rfl rfl rfl rfl ?_
   intro p13 hp13 lp13 op13
   refine g_d rfl ?_
   try dsimp only [set0,setS]
   refine s_load1 rfl rfl (v := Value.int .i64 (rdL (rdL r8 0 []) (i64w (2000 + a3)) 0)) rfl rfl (fun _ => rfl) hp13 ?_
   refine g_d rfl ?_
   try dsimp only [set0,setS]
   refine g_op_b (B := decide ((rdL (rdL r8 0 []) (i64w (2000 + a3)) 0) < 0)) rfl rfl rfl ?_ ?_
   ·
    intro hb
    rw [if_pos (b_dec_t hb)] at H
    refine g_d rfl ?_
    try dsimp only [set0,setS]
    refine g_ops_nil ?_
    refine g_cond_true rfl ?_
    refine g_seq ?_
    refine g_region ?_
    show G _ _ _ (.inRegion _ [0, 1, 2] :: _) _ _
    refine s_lit0 (κ := (K.int .i8)) hs rfl rfl rfl rfl (fun _ => rfl) ?_
    intro v14 w hs
    refine g_d rfl ?_
    try dsimp only [set0,setS]
    refine g_op (v := v14) rfl rfl rfl ?_
    refine g_d rfl ?_
    try dsimp only [set0,setS]
    refine g_op (v := Value.int .i64 6) rfl rfl rfl ?_
    refine g_d rfl ?_
    try dsimp only [set0,setS]
    refine g_ops_nil ?_
    obtain rfl := Option.some.inj H
    refine g_ret Try.func9 (v := Value.tuple #[v14, Value.int .i64 6]) (resN (l := Try.f9.results.toList) (vs := [v14, Value.int .i64 6]) rfl ⟨rfl, rfl, trivial⟩ (by simp)) ?_
    have hs := hs.pull 0 rfl
    have hs : St _ [_] _ := St.take (Γ' := [_]) hs
    exact ⟨_, rfl, v14, rfl, hs⟩
   ·
    intro hb
    rw [if_neg (b_dec_f hb)] at H
    refine g_d rfl ?_
    try dsimp only [set0,setS]
    refine g_ops_nil ?_
    refine g_cond_false rfl ?_
    refine g_skip ?_
    refine g_seq ?_
    refine g_region ?_
    show G _ _ _ (.inRegion _ [0, 1] :: _) _ _
    refine s_lit0 (κ := (K.int .i8)) hs rfl rfl rfl rfl (fun _ => rfl) ?_
    intro v16 w hs
    refine g_d rfl ?_
    try dsimp only [set0,setS]
    refine g_op (v := v16) rfl rfl rfl ?_
    refine g_d rfl ?_
    try dsimp only [set0,setS]
    refine g_ops_nil ?_
    refine g_seq ?_
    refine g_seq ?_
    refine g_region ?_
    show G _ _ _ (.inRegion _ [0] :: _) _ _
    refine g_op (v := Value.int .i64 0) rfl rfl rfl ?_
    refine g_d rfl ?_
    try dsimp only [set0,setS]
    refine g_ops_nil ?_
    obtain ⟨o1_, Ho, Hr1_⟩ := bind_get H
    refine g_block_join (J := fun t w => ∃ v41 : Value, ∃ x42 : (List Int), spec_PlacingFor.a0 N x42 = some r ∧ Fr t (fun O => (O 0::O 1::O 2::O 3::O 4::O 5::O 6::O 7::O 8::O 9::O 10::v41::O 12::O 13::O 14::O 15::O 16::O 17::O 18::O 19::O 20::O 21::O 22::O 23::O 24::O 25::O 26::O 27::O 28::O 29::O 30::O 31::O 32::O 33::O 34::O 35::O 36::O 37::O 38::O 39::O 40::O 41::O 42::O 43::O 44::O 45::O 46::O 47::O 48::O 49::O 50::O 51::O 52::O 53::O 54::O 55::O 56::O 57::O 58::O 59::O 60::O 61::O 62::O 63::O 64::O 65::O 66::O 67::O 68::O 69::O 70::O 71::O 72::O 73::O 74::O 75::O 76::O 77::O 78::O 79::O 80::O 81::O 82::O 83::O 84::O 85::O 86::O 87::O 88::O 89::O 90::O 91::O 92::O 93::O 94::O 95::O 96::O 97::O 98::[] : List Value)) ∧ St w0 [Row 47 (K.int .i8) v41 x42] w) ?_ ?_
    ·
     rintro t w ⟨v41, x42, H, hf, hs⟩
     obtain ⟨O, rfl⟩ := hf.open
     try dsimp only
     unfold spec_PlacingFor.a0 at H
     refine g_seq ?_
     refine g_region ?_
     show G _ _ _ (.inRegion _ [0, 1, 2] :: _) _ _
     refine g_op (v := v41) rfl rfl rfl ?_
     refine g_d rfl ?_
     refine g_op (v := v41) rfl rfl rfl ?_
     refine g_d rfl ?_
     try dsimp only [set0,setS]
     refine g_op (v := Value.int .i64 0) rfl rfl rfl ?_
     refine g_d rfl ?_
     try dsimp only [set0,setS]
     refine g_ops_nil ?_
     obtain rfl := Option.some.inj H
     refine g_ret Try.func9 (v := Value.tuple #[v41, Value.int .i64 0]) (resN (l := Try.f9.results.toList) (vs := [v41, Value.int .i64 0]) rfl ⟨rfl, rfl, trivial⟩ (by simp)) ?_
     have hs := hs.pull 0 rfl
     have hs : St _ [_] _ := St.take (Γ' := []) hs
     exact ⟨_, rfl, v41, rfl, hs⟩
    ·
     intro ha1_
     have hs := hs.pull 0 rfl
     have hs := hs.pull 1 rfl
     have hs : St _ [_,_] _ := St.take (Γ' := []) hs
     refine g_loop_fuel (I := fun n_ t w => ∃ x18 : Int, ∃ v20 : Value, ∃ x21 : (List Int), ∃ x22 : Int, rounds (fun s => spec_PlacingFor.b0 N a1 a4 r8 s.1 s.2.1 s.2.2) n_ (x18, x21, x22) = some o1_ ∧ Fr t (fun O => (v2::O 1::Value.bool a4::O 3::O 4::O 5::O 6::O 7::O 8::v9::Value.int .i64 x18::v20::Value.int .i64 x22::O 13::O 14::O 15::O 16::O 17::O 18::O 19::O 20::O 21::O 22::O 23::O 24::O 25::O 26::O 27::O 28::O 29::O 30::O 31::O 32::O 33::O 34::O 35::O 36::O 37::O 38::O 39::O 40::O 41::O 42::O 43::O 44::O 45::O 46::O 47::O 48::O 49::O 50::O 51::O 52::O 53::O 54::O 55::O 56::O 57::O 58::O 59::O 60::O 61::O 62::O 63::O 64::O 65::O 66::O 67::O 68::O 69::O 70::O 71::O 72::O 73::O 74::O 75::O 76::O 77::O 78::O 79::O 80::O 81::O 82::O 83::O 84::O 85::O 86::O 87::O 88::O 89::O 90::O 91::O 92::O 93::O 94::O 95::O 96::O 97::O 98::[] : List Value)) ∧ St w0 [Rows2 38 kHS (RowO 2 (K.int .i64)) v9 ms10 r8, Row 47 (K.int .i8) v20 x21] w) N ⟨i64w (2000 + a3), v16, ([] : List Int), 0, Ho, rfl, hs⟩ ?_ ?_
     ·
      rintro _ _ ⟨x18, v20, x21, x22, h, _⟩
      exact rounds_zero h
     ·
      intro n_ ih1_
      rintro t w ⟨x18, v20, x21, x22, Ho, hf, hs⟩
      obtain ⟨O, rfl⟩ := hf.open
      try dsimp only
      obtain ⟨x43_, H, Hx1_⟩ := rounds_succ Ho
      have H : spec_PlacingFor.b0 N a1 a4 r8 x18 x21 x22 = some x43_ := H
      unfold spec_PlacingFor.b0 at H
      refine g_seq ?_
      refine g_seq ?_
      refine g_region ?_
      show G _ _ _ (.inRegion _ [0, 1, 2, 3] :: _) _ _
      refine g_op (v := Value.int .i64 x22) rfl rfl rfl ?_
      refine g_d rfl ?_
      refine g_op (v := v2) rfl rfl rfl ?_
      refine g_d rfl ?_
      refine s_len (hs.rd hr0) rfl rfl rfl rfl rfl ?_
      refine g_d rfl ?_
      try dsimp only [set0,setS]
      refine g_op_b (B := decide (x22 < (a1.length : Int))) rfl rfl rfl ?_ ?_
      ·
       intro hb
       rw [if_pos (b_dec_t hb)] at H
       refine g_d rfl ?_
       try dsimp only [set0,setS]
       refine g_ops_nil ?_
       refine g_cond_true rfl ?_
       refine g_skip ?_
       refine g_seq ?_
       refine g_block ?_
       refine g_seq ?_
       refine g_region ?_
       show G _ _ _ (.inRegion _ [0, 1, 2] :: _) _ _
       refine g_op (v := Value.bool a4) rfl rfl rfl ?_
       refine g_d rfl ?_
       obtain ⟨r23, Hr23, H⟩ := bind_get H
       refine s_call (args := [Value.bool a4]) rfl rfl (x_call rfl (callFunc_enter Try.func25 rfl rfl) rfl) (spec_l01Least.calls (a1 := a4) Hr23) ?_
       rintro _ w ⟨rfl, hs2⟩
       have hs : St _ [_,_] _ := hs.call hs2
       refine g_d rfl ?_
       try dsimp only [set0,setS]
       refine g_op (v := Value.int .i64 r23) rfl rfl rfl ?_
       refine g_d rfl ?_
       try dsimp only [set0,setS]
       refine g_ops_nil ?_
       obtain ⟨o2_, Ho, Hr2_⟩ := bind_get H
       refine g_block_join (J := fun t w => ∃ x37 : Int, ∃ v38 : Value, ∃ x39 : (List Int), spec_PlacingFor.a2 N x22 x37 x39 = some x43_ ∧ Fr t (fun O => (v2::O 1::Value.bool a4::O 3::O 4::O 5::O 6::O 7::O 8::v9::Value.int .i64 x37::v38::Value.int .i64 x22::O 13::O 14::O 15::O 16::O 17::O 18::O 19::O 20::O 21::O 22::O 23::O 24::O 25::O 26::O 27::O 28::O 29::O 30::O 31::O 32::O 33::O 34::O 35::O 36::O 37::O 38::O 39::O 40::O 41::O 42::O 43::O 44::O 45::O 46::O 47::O 48::O 49::O 50::O 51::O 52::O 53::O 54::O 55::O 56::O 57::O 58::O 59::O 60::O 61::O 62::O 63::O 64::O 65::O 66::O 67::O 68::O 69::O 70::O 71::O 72::O 73::O 74::O 75::O 76::O 77::O 78::O 79::O 80::O 81::O 82::O 83::O 84::O 85::O 86::O 87::O 88::O 89::O 90::O 91::O 92::O 93::O 94::O 95::O 96::O 97::O 98::[] : List Value)) ∧ St w0 [Rows2 38 kHS (RowO 2 (K.int .i64)) v9 ms10 r8, Row 47 (K.int .i8) v38 x39] w) ?_ ?_
       ·
        rintro t w ⟨x37, v38, x39, H, hf, hs⟩
        obtain ⟨O, rfl⟩ := hf.open
        try dsimp only
        unfold spec_PlacingFor.a2 at H
        refine g_inBlock ?_
        refine g_region ?_
        show G _ _ _ (.inRegion _ [0, 1, 2] :: _) _ _
        refine g_op (v := Value.int .i64 x22) rfl rfl rfl ?_
        refine g_d rfl ?_
        refine g_op (v := Value.int .i64 (i64w (x22 + 1))) rfl rfl rfl ?_
        refine g_d rfl ?_
        try dsimp only [set0,setS]
        refine g_op (v := Value.int .i64 (i64w (x22 + 1))) rfl rfl rfl ?_
        refine g_d rfl ?_
        try dsimp only [set0,setS]
        refine g_ops_nil ?_
        obtain rfl := Option.some.inj H
        have hs := hs.pull 1 rfl
        have hs := hs.pull 1 rfl
        have hs : St _ [_,_] _ := St.take (Γ' := []) hs
        exact ih1_ _ _ ⟨x37, v38, x39, i64w (x22 + 1), Hx1_, rfl, hs⟩
       ·
        intro ha2_
        have hs := hs.pull 1 rfl
        have hs := hs.pull 1 rfl
        have hs : St _ [_,_] _ := St.take (Γ' := []) hs
        refine g_loop_fuel (I := fun n_ t w => ∃ x24 : Int, ∃ v26 : Value, ∃ x27 : (List Int), ∃ x28 : Int, rounds (fun s => spec_PlacingFor.b2 N x22 a1 r8 s.1 s.2.1 s.2.2) n_ (x24, x27, x28) = some o2_ ∧ Fr t (fun O => (v2::O 1::Value.bool a4::O 3::O 4::O 5::O 6::O 7::O 8::v9::Value.int .i64 x24::v26::Value.int .i64 x22::Value.int .i64 x28::O 14::O 15::O 16::O 17::O 18::O 19::O 20::O 21::O 22::O 23::O 24::O 25::O 26::O 27::O 28::O 29::O 30::O 31::O 32::O 33::O 34::O 35::O 36::O 37::O 38::O 39::O 40::O 41::O 42::O 43::O 44::O 45::O 46::O 47::O 48::O 49::O 50::O 51::O 52::O 53::O 54::O 55::O 56::O 57::O 58::O 59::O 60::O 61::O 62::O 63::O 64::O 65::O 66::O 67::O 68::O 69::O 70::O 71::O 72::O 73::O 74::O 75::O 76::O 77::O 78::O 79::O 80::O 81::O 82::O 83::O 84::O 85::O 86::O 87::O 88::O 89::O 90::O 91::O 92::O 93::O 94::O 95::O 96::O 97::O 98::[] : List Value)) ∧ St w0 [Rows2 38 kHS (RowO 2 (K.int .i64)) v9 ms10 r8, Row 47 (K.int .i8) v26 x27] w) N ⟨x18, v20, x21, r23, Ho, rfl, hs⟩ ?_ ?_
        ·
         rintro _ _ ⟨x24, v26, x27, x28, h, _⟩
         exact rounds_zero h
        ·
         intro n_ ih2_
         rintro t w ⟨x24, v26, x27, x28, Ho, hf, hs⟩
         obtain ⟨O, rfl⟩ := hf.open
         try dsimp only
         obtain ⟨x42_, H, Hx2_⟩ := rounds_succ Ho
         have H : spec_PlacingFor.b2 N x22 a1 r8 x24 x27 x28 = some x42_ := H
         unfold spec_PlacingFor.b2 at H
         refine g_seq ?_
         refine g_seq ?_
         refine g_region ?_
         show G _ _ _ (.inRegion _ [0, 1] :: _) _ _
         refine g_op (v := Value.int .i64 x28) rfl rfl rfl ?_
         refine g_d rfl ?_
         refine g_op_b (B := decide (x28 ≤ 1)) rfl rfl rfl ?_ ?_
         ·
          intro hb
          rw [if_pos (b_dec_t hb)] at H
          refine g_d rfl ?_
          try dsimp only [set0,setS]
          refine g_ops_nil ?_
          refine g_cond_true rfl ?_
          refine g_skip ?_
          refine g_seq ?_
          refine g_block_join (J := (fun t w => spec_PlacingFor.j4 N x24 x27 x28 = some x42_ ∧ Fr t (fun O => (v2::O 1::Value.bool a4::O 3::O 4::O 5::O 6::O 7::O 8::v9::Value.int .i64 x24::v26::Value.int .i64 x22::Value.int .i64 x28::O 14::O 15::O 16::O 17::O 18::O 19::O 20::O 21::O 22::O 23::O 24::O 25::O 26::O 27::O 28::O 29::O 30::O 31::O 32::O 33::O 34::O 35::O 36::O 37::O 38::O 39::O 40::O 41::O 42::O 43::O 44::O 45::O 46::O 47::O 48::O 49::O 50::O 51::O 52::O 53::O 54::O 55::O 56::O 57::O 58::O 59::O 60::O 61::O 62::O 63::O 64::O 65::O 66::O 67::O 68::O 69::O 70::O 71::O 72::O 73::O 74::O 75::O 76::O 77::O 78::O 79::O 80::O 81::O 82::O 83::O 84::O 85::O 86::O 87::O 88::O 89::O 90::O 91::O 92::O 93::O 94::O 95::O 96::O 97::O 98::[] : List Value)) ∧ St w0 [Rows2 38 kHS (RowO 2 (K.int .i64)) v9 ms10 r8, Row 47 (K.int .i8) v26 x27] w)) ?_ ?_
          ·
           rintro t w ⟨H, hf, hs⟩
           obtain ⟨O, rfl⟩ := hf.open
           try dsimp only
           unfold spec_PlacingFor.j4 at H
           refine g_region ?_
           show G _ _ _ (.inRegion _ [0, 1, 2] :: _) _ _
           refine g_op (v := Value.int .i64 x28) rfl rfl rfl ?_
           refine g_d rfl ?_
           refine g_op (v := Value.int .i64 (i64w (x28 + 1))) rfl rfl rfl ?_
           refine g_d rfl ?_
           try dsimp only [set0,setS]
           refine g_op (v := Value.int .i64 (i64w (x28 + 1))) rfl rfl rfl ?_
           refine g_d rfl ?_
           try dsimp only [set0,setS]
           refine g_ops_nil ?_
           obtain rfl := Option.some.inj H
           have hs := hs.pull 1 rfl
           have hs := hs.pull 1 rfl
           have hs : St _ [_,_] _ := St.take (Γ' := []) hs
           exact ih2_ _ _ ⟨x24, v26, x27, i64w (x28 + 1), Hx2_, rfl, hs⟩
          ·
           intro ha
           refine g_seq ?_
           refine g_region ?_
           show G _ _ _ (.inRegion _ [0, 1, 2, 3, 4, 5, 6, 7, 8, 9] :: _) _ _
           refine g_op (v := Value.int .i64 x24) rfl rfl rfl ?_
           refine g_d rfl ?_
           refine g_op (v := Value.int .i64 x28) rfl rfl rfl ?_
           refine g_d rfl ?_
           refine g_op (v := v2) rfl rfl rfl ?_
           refine g_d rfl ?_
           refine g_op (v := Value.int .i64 x22) rfl rfl rfl ?_
           refine g_d rfl ?_
           obtain ⟨g3, H⟩ := ite_get H
           refine s_idx (fkI .i16) 0 (hs.rd hr0) rfl (fun _ => rfl) g3.1 g3.2 rfl rfl rfl rfl rfl ?_
           intro p29 hp29 lp29 op29
           refine g_d rfl ?_
           try dsimp only [set0,setS]
           refine s_load1 rfl rfl (v := Value.int .i16 (rdL a1 x22 0)) rfl rfl (fun _ => rfl) hp29 ?_
           refine g_d rfl ?_
           try dsimp only [set0,setS]
           refine g_op (v := Value.int .i64 (i64w (rdL a1 x22 0))) rfl rfl rfl ?_
           refine g_d rfl ?_
           refine g_op (v := Value.int .i64 (i64w (x28 * (i64w (rdL a1 x22 0))))) rfl rfl rfl ?_
           refine g_d rfl ?_
           try dsimp only [set0,setS]
           refine g_op (v := Value.int .i64 (i64w (x24 - (i64w (x28 * (i64w (rdL a1 x22 0))))))) rfl rfl rfl ?_
           refine g_d rfl ?_
           try dsimp only [set0,setS]
           refine g_op (v := Value.int .i64 (i64w (x24 - (i64w (x28 * (i64w (rdL a1 x22 0))))))) rfl rfl rfl ?_
           refine g_d rfl ?_
           try dsimp only [set0,setS]
           refine g_ops_nil ?_
           refine g_seq ?_
           refine g_lay (n := 35) rfl [0, 1, 2, 3, 4, 5, 6, 7, 8, 9, 10, 11, 12, 13, 14, 15, 16, 17, 18, 19, 20, 21, 22, 23, 24, 25, 26, 27, 28, 29, 30, 31, 32, 33, 34] [0, 1, 2, 3, 4, 5, 6, 7, 8, 9, 10, 11, 12, 13, 14, 15, 16, 17, 18, 19, 20, 21, 22, 23, 24, 25, 26, 27, 28, 29, 30, 31, 32, 33, 34] rfl rfl ?_
           intro rest w hh hbw hO
           have hs := hs.samew hh hbw
           try dsimp only [set0,setS]
           obtain ⟨rest, rfl, hO4_⟩ := ord_one (m := 0) hO rfl 0 (m' := 1) (by decide +kernel) rfl
           clear hO
           refine g_op (v := Value.int .i64 (i64w (x24 - (i64w (x28 * (i64w (rdL a1 x22 0))))))) rfl rfl rfl ?_
           refine g_d rfl ?_
           obtain ⟨rest, rfl, hO5_⟩ := ord_one (m := 1) hO4_ rfl 1 (m' := 3) (by decide +kernel) rfl
           clear hO4_
           obtain ⟨r30, Hr30, H⟩ := bind_get H
           refine s_call (args := [Value.int .i64 (i64w (x24 - (i64w (x28 * (i64w (rdL a1 x22 0)))))), Value.int .i64 0, Value.int .i64 4000]) rfl rfl (x_call rfl (callFunc_enter Try.func16 rfl rfl) rfl) (spec_l00In.calls (a1 := i64w (x24 - (i64w (x28 * (i64w (rdL a1 x22 0)))))) (a2 := 0) (a3 := 4000) Hr30) ?_
           rintro _ w ⟨rfl, hs2⟩
           have hs : St _ [_,_] _ := hs.call hs2
           cases r30 with
           | true =>
             rw [if_pos rfl] at H
             refine g_d rfl ?_
             try dsimp only [set0,setS]
             obtain ⟨rest, rfl, hO6_⟩ := ord_one (m := 3) hO5_ rfl 2 (m' := 7) (by decide +kernel) rfl
             clear hO5_
             refine g_op (v := Value.bool true) rfl rfl rfl ?_
             refine g_d rfl ?_
             obtain ⟨gd8, H⟩ := ite_get H
             obtain ⟨ad9_, ad9_N, ad9_C, had9_⟩ := sl_at (hs.r2row 0 rfl) gd8.1 (hs.r2lt 0 rfl gd8.2)
             refine g_name ?_
             intro T hT
             refine g_layer (m0 := 7) hO6_ rfl 511 [3, 4, 5, 6, 7, 8] [0, 1, 3, 7, 7, 23, 63, 127, 7, 511, 1023, 2047, 4095, 8191, 16383, 16383, 49151, 131071, 262143, 16383, 1048575, 2097151, 16383, 16383, 12599295, 33554431, 16383, 16383, 201342975, 469778431, 16383, 2080391167, 4227874815, 8589934591, 17179869183] (by decide +kernel) (fun D t w => ∃ O : Nat → Value, t = (v2::O 1::Value.bool a4::O 3::O 4::O 5::O 6::O 7::O 8::v9::Value.int .i64 x24::v26::Value.int .i64 x22::Value.int .i64 x28::Value.int .i64 (i64w (x24 - (i64w (x28 * (i64w (rdL a1 x22 0))))))::O 15::O 16::O 17::O 18::O 19::O 20::O 21::O 22::O 23::O 24::O 25::O 26::O 27::O 28::O 29::O 30::O 31::O 32::O 33::O 34::O 35::O 36::O 37::O 38::O 39::O 40::O 41::O 42::O 43::Value.int .i64 x28::Value.bool true::O 46::O 47::Value.int .i64 x24::Value.int .i64 x28::v2::Value.int .i64 x22::Value.pointer (some p29)::Value.int .i16 (rdL a1 x22 0)::Value.int .i64 (i64w (rdL a1 x22 0))::Value.int .i64 (i64w (x28 * (i64w (rdL a1 x22 0))))::Value.int .i64 (i64w (x24 - (i64w (x28 * (i64w (rdL a1 x22 0))))))::Value.int .i64 (i64w (x24 - (i64w (x28 * (i64w (rdL a1 x22 0))))))::Value.bool true::Value.bool true::cnd (D 3) v9 (O 60)::cnd (D 4) (Value.int .i64 x22) (O 61)::cnd (D 5) (Value.int .i64 (i64w (x22 + 1))) (O 62)::cnd (D 6) (Value.pointer (some (ad9_.add ((i64w (x22 + 1)).toNat * 1)))) (O 63)::cnd (D 7) (Value.slice (rdL ms10 (i64w (x22 + 1)) zHS).a (rdL ms10 (i64w (x22 + 1)) zHS).n (rdL ms10 (i64w (x22 + 1)) zHS).c) (O 64)::cnd (D 8) (Value.int .i64 (i64w (x24 - (i64w (x28 * (i64w (rdL a1 x22 0))))))) (O 65)::O 66::O 67::O 68::O 69::O 70::O 71::O 72::O 73::O 74::O 75::O 76::O 77::O 78::O 79::O 80::O 81::O 82::O 83::O 84::O 85::O 86::O 87::O 88::O 89::O 90::O 91::O 92::O 93::O 94::O 95::O 96::O 97::O 98::[]) ∧ St w0 [Rows2 38 kHS (RowO 2 (K.int .i64)) v9 ms10 r8, Row 47 (K.int .i8) v26 x27] w) ?_ ⟨?_, ⟨?_, ⟨?_, ⟨?_, ⟨?_, ⟨?_, trivial⟩⟩⟩⟩⟩⟩ ?_
             · exact ⟨fun i => T.getD i undef, (by subst hT; rfl), hs⟩
             ·
              intro D t w hD hp hcl hI rest hk
              obtain ⟨O, ht, hs⟩ := hI
              have hp : AllDone D [2] := hp
              obtain ⟨p2_, _⟩ := hp
              have q6_ : D 6 = false := not_yet (show D 6 = true → AllDone D [3, 5, 2] from hcl 6 (by decide)) 0 3 rfl hD
              have q7_ : D 7 = false := not_yet (show D 7 = true → AllDone D [6, 2] from hcl 7 (by decide)) 0 6 rfl q6_
              simp only [hD, q6_, q7_, cnd_t, cnd_f, Asc_t, Asc_f] at ht hs
              subst ht
              refine g_op (v := v9) rfl rfl rfl ?_
              refine g_d rfl ?_
              try dsimp only [set0,setS]
              exact hk _ _ ⟨O, (by simp only [upd, Nat.reduceBEq, Bool.true_or, Bool.false_or, q6_, q7_, cnd_t, cnd_f, Asc_t, Asc_f]), hs.cast (by first | rfl | simp only [List.take, List.drop, List.cons_append, List.nil_append, List.set_cons_zero, List.set_cons_succ, List.eraseIdx, upd, Nat.reduceBEq, Bool.true_or, Bool.false_or, q6_, q7_, cnd_t, cnd_f, Asc_t, Asc_f])⟩
             ·
              intro D t w hD hp hcl hI rest hk
              obtain ⟨O, ht, hs⟩ := hI
              have hp : AllDone D [2] := hp
              obtain ⟨p2_, _⟩ := hp
              have q5_ : D 5 = false := not_yet (show D 5 = true → AllDone D [4, 2] from hcl 5 (by decide)) 0 4 rfl hD
              have q6_ : D 6 = false := not_yet (show D 6 = true → AllDone D [3, 5, 2] from hcl 6 (by decide)) 1 5 rfl q5_
              have q7_ : D 7 = false := not_yet (show D 7 = true → AllDone D [6, 2] from hcl 7 (by decide)) 0 6 rfl q6_
              simp only [hD, q5_, q6_, q7_, cnd_t, cnd_f, Asc_t, Asc_f] at ht hs
              subst ht
              refine g_op (v := Value.int .i64 x22) rfl rfl rfl ?_
              refine g_d rfl ?_
              try dsimp only [set0,setS]
              exact hk _ _ ⟨O, (by simp only [upd, Nat.reduceBEq, Bool.true_or, Bool.false_or, q5_, q6_, q7_, cnd_t, cnd_f, Asc_t, Asc_f]), hs.cast (by first | rfl | simp only [List.take, List.drop, List.cons_append, List.nil_append, List.set_cons_zero, List.set_cons_succ, List.eraseIdx, upd, Nat.reduceBEq, Bool.true_or, Bool.false_or, q5_, q6_, q7_, cnd_t, cnd_f, Asc_t, Asc_f])⟩
             ·
              intro D t w hD hp hcl hI rest hk
              obtain ⟨O, ht, hs⟩ := hI
              have hp : AllDone D [4, 2] := hp
              obtain ⟨p4_, p2_, _⟩ := hp
              have q6_ : D 6 = false := not_yet (show D 6 = true → AllDone D [3, 5, 2] from hcl 6 (by decide)) 1 5 rfl hD
              have q7_ : D 7 = false := not_yet (show D 7 = true → AllDone D [6, 2] from hcl 7 (by decide)) 0 6 rfl q6_
              simp only [hD, p4_, q6_, q7_, cnd_t, cnd_f, Asc_t, Asc_f] at ht hs
              subst ht
              refine g_op (v := Value.int .i64 (i64w (x22 + 1))) rfl rfl rfl ?_
              refine g_d rfl ?_
              try dsimp only [set0,setS]
              exact hk _ _ ⟨O, (by simp only [upd, Nat.reduceBEq, Bool.true_or, Bool.false_or, p4_, q6_, q7_, cnd_t, cnd_f, Asc_t, Asc_f]), hs.cast (by first | rfl | simp only [List.take, List.drop, List.cons_append, List.nil_append, List.set_cons_zero, List.set_cons_succ, List.eraseIdx, upd, Nat.reduceBEq, Bool.true_or, Bool.false_or, p4_, q6_, q7_, cnd_t, cnd_f, Asc_t, Asc_f])⟩
             ·
              intro D t w hD hp hcl hI rest hk
              obtain ⟨O, ht, hs⟩ := hI
              have hp : AllDone D [3, 5, 2] := hp
              obtain ⟨p3_, p5_, p2_, _⟩ := hp
              obtain ⟨p4_, _, _⟩ := (show D 5 = true → AllDone D [4, 2] from hcl 5 (by decide)) p5_
              have q7_ : D 7 = false := not_yet (show D 7 = true → AllDone D [6, 2] from hcl 7 (by decide)) 0 6 rfl hD
              simp only [hD, p3_, p4_, p5_, q7_, cnd_t, cnd_f, Asc_t, Asc_f] at ht hs
              subst ht
              refine s_idxD (κ := kHS) (m := 1) rfl (hs.r2row 0 rfl) rfl (fun _ => rfl) gd8.1 (hs.r2lt 0 rfl gd8.2) had9_ rfl rfl rfl rfl rfl ?_
              refine g_d rfl ?_
              try dsimp only [set0,setS]
              exact hk _ _ ⟨O, (by simp only [upd, Nat.reduceBEq, Bool.true_or, Bool.false_or, p3_, p4_, p5_, q7_, cnd_t, cnd_f, Asc_t, Asc_f]), hs.cast (by first | rfl | simp only [List.take, List.drop, List.cons_append, List.nil_append, List.set_cons_zero, List.set_cons_succ, List.eraseIdx, upd, Nat.reduceBEq, Bool.true_or, Bool.false_or, p3_, p4_, p5_, q7_, cnd_t, cnd_f, Asc_t, Asc_f])⟩
             ·
              intro D t w hD hp hcl hI rest hk
              obtain ⟨O, ht, hs⟩ := hI
              have hp : AllDone D [6, 2] := hp
              obtain ⟨p6_, p2_, _⟩ := hp
              obtain ⟨p3_, p5_, _, _⟩ := (show D 6 = true → AllDone D [3, 5, 2] from hcl 6 (by decide)) p6_
              obtain ⟨p4_, _, _⟩ := (show D 5 = true → AllDone D [4, 2] from hcl 5 (by decide)) p5_
              simp only [hD, p3_, p4_, p5_, p6_, cnd_t, cnd_f, Asc_t, Asc_f] at ht hs
              subst ht
              refine s_load1 rfl rfl (v := Value.slice (rdL ms10 (i64w (x22 + 1)) zHS).a (rdL ms10 (i64w (x22 + 1)) zHS).n (rdL ms10 (i64w (x22 + 1)) zHS).c) rfl rfl (fun _ => rfl) (cellsAt_of fkHS zHS (hs.r2row 0 rfl) had9_ gd8.1 (hs.r2lt 0 rfl gd8.2)) ?_
              refine g_d rfl ?_
              try dsimp only [set0,setS]
              exact hk _ _ ⟨O, (by simp only [upd, Nat.reduceBEq, Bool.true_or, Bool.false_or, p3_, p4_, p5_, p6_, cnd_t, cnd_f, Asc_t, Asc_f]), hs.cast (by first | rfl | simp only [List.take, List.drop, List.cons_append, List.nil_append, List.set_cons_zero, List.set_cons_succ, List.eraseIdx, upd, Nat.reduceBEq, Bool.true_or, Bool.false_or, p3_, p4_, p5_, p6_, cnd_t, cnd_f, Asc_t, Asc_f])⟩
             ·
              intro D t w hD hp hcl hI rest hk
              obtain ⟨O, ht, hs⟩ := hI
              have hp : AllDone D [2] := hp
              obtain ⟨p2_, _⟩ := hp
              simp only [hD, cnd_t, cnd_f, Asc_t, Asc_f] at ht hs
              subst ht
              refine g_op (v := Value.int .i64 (i64w (x24 - (i64w (x28 * (i64w (rdL a1 x22 0))))))) rfl rfl rfl ?_
              refine g_d rfl ?_
              try dsimp only [set0,setS]
              exact hk _ _ ⟨O, (by simp only [upd, Nat.reduceBEq, Bool.true_or, Bool.false_or, cnd_t, cnd_f, Asc_t, Asc_f]), hs.cast (by first | rfl | simp only [List.take, List.drop, List.cons_append, List.nil_append, List.set_cons_zero, List.set_cons_succ, List.eraseIdx, upd, Nat.reduceBEq, Bool.true_or, Bool.false_or, cnd_t, cnd_f, Asc_t, Asc_f])⟩
             ·
              intro D t w rest hall hO7_ hI
              obtain ⟨O, ht, hs⟩ := hI
              have p3_ : D 3 = true := hall 3 (by decide) rfl
              have p4_ : D 4 = true := hall 4 (by decide) rfl
              have p5_ : D 5 = true := hall 5 (by decide) rfl
              have p6_ : D 6 = true := hall 6 (by decide) rfl
              have p7_ : D 7 = true := hall 7 (by decide) rfl
              have p8_ : D 8 = true := hall 8 (by decide) rfl
              simp only [p3_, p4_, p5_, p6_, p7_, p8_, cnd_t, cnd_f, Asc_t, Asc_f] at ht hs
              subst ht
              obtain ⟨rest, rfl, hO10_⟩ := ord_one (m := 511) hO7_ rfl 9 (m' := 1023) (by decide +kernel) rfl
              clear hO7_
              obtain ⟨g11, H⟩ := ite_get H
              refine s_idx (fkI .i64) 0 (hs.r2rd 0 rfl gd8.1 gd8.2) rfl (fun _ => rfl) g11.1 g11.2 rfl rfl rfl rfl rfl ?_
              intro p31 hp31 lp31 op31
              refine g_d rfl ?_
              try dsimp only [set0,setS]
              obtain ⟨rest, rfl, hO12_⟩ := ord_one (m := 1023) hO10_ rfl 10 (m' := 2047) (by decide +kernel) rfl
              clear hO10_
              refine s_load1 rfl rfl (v := Value.int .i64 (rdL (rdL r8 (i64w (x22 + 1)) []) (i64w (x24 - (i64w (x28 * (i64w (rdL a1 x22 0)))))) 0)) rfl rfl (fun _ => rfl) hp31 ?_
              refine g_d rfl ?_
              try dsimp only [set0,setS]
              obtain ⟨rest, rfl, hO13_⟩ := ord_one (m := 2047) hO12_ rfl 11 (m' := 4095) (by decide +kernel) rfl
              clear hO12_
              refine g_op (v := Value.bool (decide ((rdL (rdL r8 (i64w (x22 + 1)) []) (i64w (x24 - (i64w (x28 * (i64w (rdL a1 x22 0)))))) 0) ≥ 0))) rfl rfl rfl ?_
              refine g_d rfl ?_
              try dsimp only [set0,setS]
              obtain ⟨rest, rfl, hO14_⟩ := ord_one (m := 4095) hO13_ rfl 12 (m' := 8191) (by decide +kernel) rfl
              clear hO13_
              refine g_op_b (B := decide ((rdL (rdL r8 (i64w (x22 + 1)) []) (i64w (x24 - (i64w (x28 * (i64w (rdL a1 x22 0)))))) 0) ≥ 0)) rfl rfl rfl ?_ ?_
              ·
               intro hb
               rw [if_pos (b_dec_t hb)] at H
               refine g_d rfl ?_
               try dsimp only [set0,setS]
               obtain ⟨rest, rfl, hO15_⟩ := ord_one (m := 8191) hO14_ rfl 13 (m' := 16383) (by decide +kernel) rfl
               clear hO14_
               refine g_op (v := Value.bool true) rfl rfl rfl ?_
               refine g_d rfl ?_
               obtain ⟨gd17, H⟩ := ite_get H
               obtain ⟨ad18_, ad18_N, ad18_C, had18_⟩ := sl_at (hs.r2row 0 rfl) gd17.1 (hs.r2lt 0 rfl gd17.2)
               obtain ⟨gd19, H⟩ := ite_get H
               obtain ⟨ad20_, ad20_N, ad20_C, had20_⟩ := sl_at (hs.r2rd 0 rfl gd17.1 gd17.2) gd19.1 gd19.2
               obtain ⟨gd21, H⟩ := ite_get H
               obtain ⟨ad22_, ad22_N, ad22_C, had22_⟩ := sl_at (hs.r2row 0 rfl) gd21.1 (hs.r2lt 0 rfl gd21.2)
               obtain ⟨gd23, H⟩ := ite_get H
               obtain ⟨ad24_, ad24_N, ad24_C, had24_⟩ := sl_at (hs.r2rd 0 rfl gd21.1 gd21.2) gd23.1 gd23.2
               refine g_name ?_
               intro T hT
               refine g_layer (m0 := 16383) hO15_ rfl 8589934591 [14, 15, 16, 17, 18, 19, 20, 21, 22, 23, 24, 25, 26, 27, 28, 29, 30, 31, 32] [0, 1, 3, 7, 7, 23, 63, 127, 7, 511, 1023, 2047, 4095, 8191, 16383, 16383, 49151, 131071, 262143, 16383, 1048575, 2097151, 16383, 16383, 12599295, 33554431, 16383, 16383, 201342975, 469778431, 16383, 2080391167, 4227874815, 8589934591, 17179869183] (by decide +kernel) (fun D t w => ∃ O : Nat → Value, t = (v2::O 1::Value.bool a4::O 3::O 4::O 5::O 6::O 7::O 8::v9::Value.int .i64 x24::v26::Value.int .i64 x22::Value.int .i64 x28::Value.int .i64 (i64w (x24 - (i64w (x28 * (i64w (rdL a1 x22 0))))))::O 15::O 16::O 17::O 18::O 19::O 20::O 21::O 22::O 23::O 24::O 25::O 26::O 27::O 28::O 29::O 30::O 31::O 32::O 33::O 34::O 35::O 36::O 37::O 38::O 39::O 40::O 41::O 42::O 43::Value.int .i64 x28::Value.bool true::O 46::O 47::Value.int .i64 x24::Value.int .i64 x28::v2::Value.int .i64 x22::Value.pointer (some p29)::Value.int .i16 (rdL a1 x22 0)::Value.int .i64 (i64w (rdL a1 x22 0))::Value.int .i64 (i64w (x28 * (i64w (rdL a1 x22 0))))::Value.int .i64 (i64w (x24 - (i64w (x28 * (i64w (rdL a1 x22 0))))))::Value.int .i64 (i64w (x24 - (i64w (x28 * (i64w (rdL a1 x22 0))))))::Value.bool true::Value.bool true::v9::Value.int .i64 x22::Value.int .i64 (i64w (x22 + 1))::Value.pointer (some (ad9_.add ((i64w (x22 + 1)).toNat * 1)))::Value.slice (rdL ms10 (i64w (x22 + 1)) zHS).a (rdL ms10 (i64w (x22 + 1)) zHS).n (rdL ms10 (i64w (x22 + 1)) zHS).c::Value.int .i64 (i64w (x24 - (i64w (x28 * (i64w (rdL a1 x22 0))))))::Value.pointer (some p31)::Value.int .i64 (rdL (rdL r8 (i64w (x22 + 1)) []) (i64w (x24 - (i64w (x28 * (i64w (rdL a1 x22 0)))))) 0)::Value.bool (decide ((rdL (rdL r8 (i64w (x22 + 1)) []) (i64w (x24 - (i64w (x28 * (i64w (rdL a1 x22 0)))))) 0) ≥ 0))::Value.bool true::Value.bool true::cnd (D 14) v9 (O 71)::cnd (D 15) (Value.int .i64 x22) (O 72)::cnd (D 16) (Value.int .i64 (i64w (x22 + 1))) (O 73)::cnd (D 17) (Value.pointer (some (ad18_.add ((i64w (x22 + 1)).toNat * 1)))) (O 74)::cnd (D 18) (Value.slice (rdL ms10 (i64w (x22 + 1)) zHS).a (rdL ms10 (i64w (x22 + 1)) zHS).n (rdL ms10 (i64w (x22 + 1)) zHS).c) (O 75)::cnd (D 19) (Value.int .i64 (i64w (x24 - (i64w (x28 * (i64w (rdL a1 x22 0))))))) (O 76)::cnd (D 20) (Value.pointer (some (ad20_.add ((i64w (x24 - (i64w (x28 * (i64w (rdL a1 x22 0)))))).toNat * 1)))) (O 77)::cnd (D 21) (Value.int .i64 (rdL (rdL r8 (i64w (x22 + 1)) []) (i64w (x24 - (i64w (x28 * (i64w (rdL a1 x22 0)))))) 0)) (O 78)::cnd (D 22) (Value.int .i64 x28) (O 79)::cnd (D 23) (Value.int .i64 x28) (O 80)::cnd (D 24) (Value.int .i64 (i64w (x28 * x28))) (O 81)::cnd (D 25) (Value.int .i64 (i64w ((rdL (rdL r8 (i64w (x22 + 1)) []) (i64w (x24 - (i64w (x28 * (i64w (rdL a1 x22 0)))))) 0) + (i64w (x28 * x28))))) (O 82)::cnd (D 26) v9 (O 83)::cnd (D 27) (Value.int .i64 x22) (O 84)::cnd (D 28) (Value.pointer (some (ad22_.add (x22.toNat * 1)))) (O 85)::cnd (D 29) (Value.slice (rdL ms10 x22 zHS).a (rdL ms10 x22 zHS).n (rdL ms10 x22 zHS).c) (O 86)::cnd (D 30) (Value.int .i64 x24) (O 87)::cnd (D 31) (Value.pointer (some (ad24_.add (x24.toNat * 1)))) (O 88)::cnd (D 32) (Value.int .i64 (rdL (rdL r8 x22 []) x24 0)) (O 89)::O 90::O 91::O 92::O 93::O 94::O 95::O 96::O 97::O 98::[]) ∧ St w0 [Rows2 38 kHS (RowO 2 (K.int .i64)) v9 ms10 r8, Row 47 (K.int .i8) v26 x27] w) ?_ ⟨?_, ⟨?_, ⟨?_, ⟨?_, ⟨?_, ⟨?_, ⟨?_, ⟨?_, ⟨?_, ⟨?_, ⟨?_, ⟨?_, ⟨?_, ⟨?_, ⟨?_, ⟨?_, ⟨?_, ⟨?_, ⟨?_, trivial⟩⟩⟩⟩⟩⟩⟩⟩⟩⟩⟩⟩⟩⟩⟩⟩⟩⟩⟩ ?_
               · exact ⟨fun i => T.getD i undef, (by subst hT; rfl), hs⟩
               ·
                intro D t w hD hp hcl hI rest hk
                obtain ⟨O, ht, hs⟩ := hI
                have hp : AllDone D [13] := hp
                obtain ⟨p13_, _⟩ := hp
                have q17_ : D 17 = false := not_yet (show D 17 = true → AllDone D [14, 16, 13] from hcl 17 (by decide)) 0 14 rfl hD
                have q18_ : D 18 = false := not_yet (show D 18 = true → AllDone D [17, 13] from hcl 18 (by decide)) 0 17 rfl q17_
                have q20_ : D 20 = false := not_yet (show D 20 = true → AllDone D [18, 19, 13] from hcl 20 (by decide)) 0 18 rfl q18_
                have q21_ : D 21 = false := not_yet (show D 21 = true → AllDone D [20, 13] from hcl 21 (by decide)) 0 20 rfl q20_
                have q25_ : D 25 = false := not_yet (show D 25 = true → AllDone D [21, 24, 13] from hcl 25 (by decide)) 0 21 rfl q21_
                simp only [hD, q17_, q18_, q20_, q21_, q25_, cnd_t, cnd_f, Asc_t, Asc_f] at ht hs
                subst ht
                refine g_op (v := v9) rfl rfl rfl ?_
                refine g_d rfl ?_
                try dsimp only [set0,setS]
                exact hk _ _ ⟨O, (by simp only [upd, Nat.reduceBEq, Bool.true_or, Bool.false_or, q17_, q18_, q20_, q21_, q25_, cnd_t, cnd_f, Asc_t, Asc_f]), hs.cast (by first | rfl | simp only [List.take, List.drop, List.cons_append, List.nil_append, List.set_cons_zero, List.set_cons_succ, List.eraseIdx, upd, Nat.reduceBEq, Bool.true_or, Bool.false_or, q17_, q18_, q20_, q21_, q25_, cnd_t, cnd_f, Asc_t, Asc_f])⟩
               ·
                intro D t w hD hp hcl hI rest hk
                obtain ⟨O, ht, hs⟩ := hI
                have hp : AllDone D [13] := hp
                obtain ⟨p13_, _⟩ := hp
                have q16_ : D 16 = false := not_yet (show D 16 = true → AllDone D [15, 13] from hcl 16 (by decide)) 0 15 rfl hD
                have q17_ : D 17 = false := not_yet (show D 17 = true → AllDone D [14, 16, 13] from hcl 17 (by decide)) 1 16 rfl q16_
                have q18_ : D 18 = false := not_yet (show D 18 = true → AllDone D [17, 13] from hcl 18 (by decide)) 0 17 rfl q17_
                have q20_ : D 20 = false := not_yet (show D 20 = true → AllDone D [18, 19, 13] from hcl 20 (by decide)) 0 18 rfl q18_
                have q21_ : D 21 = false := not_yet (show D 21 = true → AllDone D [20, 13] from hcl 21 (by decide)) 0 20 rfl q20_
                have q25_ : D 25 = false := not_yet (show D 25 = true → AllDone D [21, 24, 13] from hcl 25 (by decide)) 0 21 rfl q21_
                simp only [hD, q16_, q17_, q18_, q20_, q21_, q25_, cnd_t, cnd_f, Asc_t, Asc_f] at ht hs
                subst ht
                refine g_op (v := Value.int .i64 x22) rfl rfl rfl ?_
                refine g_d rfl ?_
                try dsimp only [set0,setS]
                exact hk _ _ ⟨O, (by simp only [upd, Nat.reduceBEq, Bool.true_or, Bool.false_or, q16_, q17_, q18_, q20_, q21_, q25_, cnd_t, cnd_f, Asc_t, Asc_f]), hs.cast (by first | rfl | simp only [List.take, List.drop, List.cons_append, List.nil_append, List.set_cons_zero, List.set_cons_succ, List.eraseIdx, upd, Nat.reduceBEq, Bool.true_or, Bool.false_or, q16_, q17_, q18_, q20_, q21_, q25_, cnd_t, cnd_f, Asc_t, Asc_f])⟩
               ·
                intro D t w hD hp hcl hI rest hk
                obtain ⟨O, ht, hs⟩ := hI
                have hp : AllDone D [15, 13] := hp
                obtain ⟨p15_, p13_, _⟩ := hp
                have q17_ : D 17 = false := not_yet (show D 17 = true → AllDone D [14, 16, 13] from hcl 17 (by decide)) 1 16 rfl hD
                have q18_ : D 18 = false := not_yet (show D 18 = true → AllDone D [17, 13] from hcl 18 (by decide)) 0 17 rfl q17_
                have q20_ : D 20 = false := not_yet (show D 20 = true → AllDone D [18, 19, 13] from hcl 20 (by decide)) 0 18 rfl q18_
                have q21_ : D 21 = false := not_yet (show D 21 = true → AllDone D [20, 13] from hcl 21 (by decide)) 0 20 rfl q20_
                have q25_ : D 25 = false := not_yet (show D 25 = true → AllDone D [21, 24, 13] from hcl 25 (by decide)) 0 21 rfl q21_
                simp only [hD, p15_, q17_, q18_, q20_, q21_, q25_, cnd_t, cnd_f, Asc_t, Asc_f] at ht hs
                subst ht
                refine g_op (v := Value.int .i64 (i64w (x22 + 1))) rfl rfl rfl ?_
                refine g_d rfl ?_
                try dsimp only [set0,setS]
                exact hk _ _ ⟨O, (by simp only [upd, Nat.reduceBEq, Bool.true_or, Bool.false_or, p15_, q17_, q18_, q20_, q21_, q25_, cnd_t, cnd_f, Asc_t, Asc_f]), hs.cast (by first | rfl | simp only [List.take, List.drop, List.cons_append, List.nil_append, List.set_cons_zero, List.set_cons_succ, List.eraseIdx, upd, Nat.reduceBEq, Bool.true_or, Bool.false_or, p15_, q17_, q18_, q20_, q21_, q25_, cnd_t, cnd_f, Asc_t, Asc_f])⟩
               ·
                intro D t w hD hp hcl hI rest hk
                obtain ⟨O, ht, hs⟩ := hI
                have hp : AllDone D [14, 16, 13] := hp
                obtain ⟨p14_, p16_, p13_, _⟩ := hp
                obtain ⟨p15_, _, _⟩ := (show D 16 = true → AllDone D [15, 13] from hcl 16 (by decide)) p16_
                have q18_ : D 18 = false := not_yet (show D 18 = true → AllDone D [17, 13] from hcl 18 (by decide)) 0 17 rfl hD
                have q20_ : D 20 = false := not_yet (show D 20 = true → AllDone D [18, 19, 13] from hcl 20 (by decide)) 0 18 rfl q18_
                have q21_ : D 21 = false := not_yet (show D 21 = true → AllDone D [20, 13] from hcl 21 (by decide)) 0 20 rfl q20_
                have q25_ : D 25 = false := not_yet (show D 25 = true → AllDone D [21, 24, 13] from hcl 25 (by decide)) 0 21 rfl q21_
                simp only [hD, p14_, p15_, p16_, q18_, q20_, q21_, q25_, cnd_t, cnd_f, Asc_t, Asc_f] at ht hs
                subst ht
                refine s_idxD (κ := kHS) (m := 1) rfl (hs.r2row 0 rfl) rfl (fun _ => rfl) gd17.1 (hs.r2lt 0 rfl gd17.2) had18_ rfl rfl rfl rfl rfl ?_
                refine g_d rfl ?_
                try dsimp only [set0,setS]
                exact hk _ _ ⟨O, (by simp only [upd, Nat.reduceBEq, Bool.true_or, Bool.false_or, p14_, p15_, p16_, q18_, q20_, q21_, q25_, cnd_t, cnd_f, Asc_t, Asc_f]), hs.cast (by first | rfl | simp only [List.take, List.drop, List.cons_append, List.nil_append, List.set_cons_zero, List.set_cons_succ, List.eraseIdx, upd, Nat.reduceBEq, Bool.true_or, Bool.false_or, p14_, p15_, p16_, q18_, q20_, q21_, q25_, cnd_t, cnd_f, Asc_t, Asc_f])⟩
               ·
                intro D t w hD hp hcl hI rest hk
                obtain ⟨O, ht, hs⟩ := hI
                have hp : AllDone D [17, 13] := hp
                obtain ⟨p17_, p13_, _⟩ := hp
                obtain ⟨p14_, p16_, _, _⟩ := (show D 17 = true → AllDone D [14, 16, 13] from hcl 17 (by decide)) p17_
                obtain ⟨p15_, _, _⟩ := (show D 16 = true → AllDone D [15, 13] from hcl 16 (by decide)) p16_
                have q20_ : D 20 = false := not_yet (show D 20 = true → AllDone D [18, 19, 13] from hcl 20 (by decide)) 0 18 rfl hD
                have q21_ : D 21 = false := not_yet (show D 21 = true → AllDone D [20, 13] from hcl 21 (by decide)) 0 20 rfl q20_
                have q25_ : D 25 = false := not_yet (show D 25 = true → AllDone D [21, 24, 13] from hcl 25 (by decide)) 0 21 rfl q21_
                simp only [hD, p14_, p15_, p16_, p17_, q20_, q21_, q25_, cnd_t, cnd_f, Asc_t, Asc_f] at ht hs
                subst ht
                refine s_load1 rfl rfl (v := Value.slice (rdL ms10 (i64w (x22 + 1)) zHS).a (rdL ms10 (i64w (x22 + 1)) zHS).n (rdL ms10 (i64w (x22 + 1)) zHS).c) rfl rfl (fun _ => rfl) (cellsAt_of fkHS zHS (hs.r2row 0 rfl) had18_ gd17.1 (hs.r2lt 0 rfl gd17.2)) ?_
                refine g_d rfl ?_
                try dsimp only [set0,setS]
                exact hk _ _ ⟨O, (by simp only [upd, Nat.reduceBEq, Bool.true_or, Bool.false_or, p14_, p15_, p16_, p17_, q20_, q21_, q25_, cnd_t, cnd_f, Asc_t, Asc_f]), hs.cast (by first | rfl | simp only [List.take, List.drop, List.cons_append, List.nil_append, List.set_cons_zero, List.set_cons_succ, List.eraseIdx, upd, Nat.reduceBEq, Bool.true_or, Bool.false_or, p14_, p15_, p16_, p17_, q20_, q21_, q25_, cnd_t, cnd_f, Asc_t, Asc_f])⟩
               ·
                intro D t w hD hp hcl hI rest hk
                obtain ⟨O, ht, hs⟩ := hI
                have hp : AllDone D [13] := hp
                obtain ⟨p13_, _⟩ := hp
                have q20_ : D 20 = false := not_yet (show D 20 = true → AllDone D [18, 19, 13] from hcl 20 (by decide)) 1 19 rfl hD
                have q21_ : D 21 = false := not_yet (show D 21 = true → AllDone D [20, 13] from hcl 21 (by decide)) 0 20 rfl q20_
                have q25_ : D 25 = false := not_yet (show D 25 = true → AllDone D [21, 24, 13] from hcl 25 (by decide)) 0 21 rfl q21_
                simp only [hD, q20_, q21_, q25_, cnd_t, cnd_f, Asc_t, Asc_f] at ht hs
                subst ht
                refine g_op (v := Value.int .i64 (i64w (x24 - (i64w (x28 * (i64w (rdL a1 x22 0))))))) rfl rfl rfl ?_
                refine g_d rfl ?_
                try dsimp only [set0,setS]
                exact hk _ _ ⟨O, (by simp only [upd, Nat.reduceBEq, Bool.true_or, Bool.false_or, q20_, q21_, q25_, cnd_t, cnd_f, Asc_t, Asc_f]), hs.cast (by first | rfl | simp only [List.take, List.drop, List.cons_append, List.nil_append, List.set_cons_zero, List.set_cons_succ, List.eraseIdx, upd, Nat.reduceBEq, Bool.true_or, Bool.false_or, q20_, q21_, q25_, cnd_t, cnd_f, Asc_t, Asc_f])⟩
               ·
                intro D t w hD hp hcl hI rest hk
                obtain ⟨O, ht, hs⟩ := hI
                have hp : AllDone D [18, 19, 13] := hp
                obtain ⟨p18_, p19_, p13_, _⟩ := hp
                obtain ⟨p17_, _, _⟩ := (show D 18 = true → AllDone D [17, 13] from hcl 18 (by decide)) p18_
                obtain ⟨p14_, p16_, _, _⟩ := (show D 17 = true → AllDone D [14, 16, 13] from hcl 17 (by decide)) p17_
                obtain ⟨p15_, _, _⟩ := (show D 16 = true → AllDone D [15, 13] from hcl 16 (by decide)) p16_
                have q21_ : D 21 = false := not_yet (show D 21 = true → AllDone D [20, 13] from hcl 21 (by decide)) 0 20 rfl hD
                have q25_ : D 25 = false := not_yet (show D 25 = true → AllDone D [21, 24, 13] from hcl 25 (by decide)) 0 21 rfl q21_
                simp only [hD, p14_, p15_, p16_, p17_, p18_, p19_, q21_, q25_, cnd_t, cnd_f, Asc_t, Asc_f] at ht hs
                subst ht
                refine s_idxD (κ := (K.int .i64)) (m := 1) rfl (hs.r2rd 0 rfl gd17.1 gd17.2) rfl (fun _ => rfl) gd19.1 gd19.2 had20_ rfl rfl rfl rfl rfl ?_
                refine g_d rfl ?_
                try dsimp only [set0,setS]
                exact hk _ _ ⟨O, (by simp only [upd, Nat.reduceBEq, Bool.true_or, Bool.false_or, p14_, p15_, p16_, p17_, p18_, p19_, q21_, q25_, cnd_t, cnd_f, Asc_t, Asc_f]), hs.cast (by first | rfl | simp only [List.take, List.drop, List.cons_append, List.nil_append, List.set_cons_zero, List.set_cons_succ, List.eraseIdx, upd, Nat.reduceBEq, Bool.true_or, Bool.false_or, p14_, p15_, p16_, p17_, p18_, p19_, q21_, q25_, cnd_t, cnd_f, Asc_t, Asc_f])⟩
               ·
                intro D t w hD hp hcl hI rest hk
                obtain ⟨O, ht, hs⟩ := hI
                have hp : AllDone D [20, 13] := hp
                obtain ⟨p20_, p13_, _⟩ := hp
                obtain ⟨p18_, p19_, _, _⟩ := (show D 20 = true → AllDone D [18, 19, 13] from hcl 20 (by decide)) p20_
                obtain ⟨p17_, _, _⟩ := (show D 18 = true → AllDone D [17, 13] from hcl 18 (by decide)) p18_
                obtain ⟨p14_, p16_, _, _⟩ := (show D 17 = true → AllDone D [14, 16, 13] from hcl 17 (by decide)) p17_
                obtain ⟨p15_, _, _⟩ := (show D 16 = true → AllDone D [15, 13] from hcl 16 (by decide)) p16_
                have q25_ : D 25 = false := not_yet (show D 25 = true → AllDone D [21, 24, 13] from hcl 25 (by decide)) 0 21 rfl hD
                simp only [hD, p14_, p15_, p16_, p17_, p18_, p19_, p20_, q25_, cnd_t, cnd_f, Asc_t, Asc_f] at ht hs
                subst ht
                refine s_load1 rfl rfl (v := Value.int .i64 (rdL (rdL r8 (i64w (x22 + 1)) []) (i64w (x24 - (i64w (x28 * (i64w (rdL a1 x22 0)))))) 0)) rfl rfl (fun _ => rfl) (cellsAt_of (fkI .i64) 0 (hs.r2rd 0 rfl gd17.1 gd17.2) had20_ gd19.1 gd19.2) ?_
                refine g_d rfl ?_
                try dsimp only [set0,setS]
                exact hk _ _ ⟨O, (by simp only [upd, Nat.reduceBEq, Bool.true_or, Bool.false_or, p14_, p15_, p16_, p17_, p18_, p19_, p20_, q25_, cnd_t, cnd_f, Asc_t, Asc_f]), hs.cast (by first | rfl | simp only [List.take, List.drop, List.cons_append, List.nil_append, List.set_cons_zero, List.set_cons_succ, List.eraseIdx, upd, Nat.reduceBEq, Bool.true_or, Bool.false_or, p14_, p15_, p16_, p17_, p18_, p19_, p20_, q25_, cnd_t, cnd_f, Asc_t, Asc_f])⟩
               ·
                intro D t w hD hp hcl hI rest hk
                obtain ⟨O, ht, hs⟩ := hI
                have hp : AllDone D [13] := hp
                obtain ⟨p13_, _⟩ := hp
                have q24_ : D 24 = false := not_yet (show D 24 = true → AllDone D [22, 23, 13] from hcl 24 (by decide)) 0 22 rfl hD
                have q25_ : D 25 = false := not_yet (show D 25 = true → AllDone D [21, 24, 13] from hcl 25 (by decide)) 1 24 rfl q24_
                simp only [hD, q24_, q25_, cnd_t, cnd_f, Asc_t, Asc_f] at ht hs
                subst ht
                refine g_op (v := Value.int .i64 x28) rfl rfl rfl ?_
                refine g_d rfl ?_
                try dsimp only [set0,setS]
                exact hk _ _ ⟨O, (by simp only [upd, Nat.reduceBEq, Bool.true_or, Bool.false_or, q24_, q25_, cnd_t, cnd_f, Asc_t, Asc_f]), hs.cast (by first | rfl | simp only [List.take, List.drop, List.cons_append, List.nil_append, List.set_cons_zero, List.set_cons_succ, List.eraseIdx, upd, Nat.reduceBEq, Bool.true_or, Bool.false_or, q24_, q25_, cnd_t, cnd_f, Asc_t, Asc_f])⟩
               ·
                intro D t w hD hp hcl hI rest hk
                obtain ⟨O, ht, hs⟩ := hI
                have hp : AllDone D [13] := hp
                obtain ⟨p13_, _⟩ := hp
                have q24_ : D 24 = false := not_yet (show D 24 = true → AllDone D [22, 23, 13] from hcl 24 (by decide)) 1 23 rfl hD
                have q25_ : D 25 = false := not_yet (show D 25 = true → AllDone D [21, 24, 13] from hcl 25 (by decide)) 1 24 rfl q24_
                simp only [hD, q24_, q25_, cnd_t, cnd_f, Asc_t, Asc_f] at ht hs
                subst ht
                refine g_op (v := Value.int .i64 x28) rfl rfl rfl ?_
                refine g_d rfl ?_
                try dsimp only [set0,setS]
                exact hk _ _ ⟨O, (by simp only [upd, Nat.reduceBEq, Bool.true_or, Bool.false_or, q24_, q25_, cnd_t, cnd_f, Asc_t, Asc_f]), hs.cast (by first | rfl | simp only [List.take, List.drop, List.cons_append, List.nil_append, List.set_cons_zero, List.set_cons_succ, List.eraseIdx, upd, Nat.reduceBEq, Bool.true_or, Bool.false_or, q24_, q25_, cnd_t, cnd_f, Asc_t, Asc_f])⟩
               ·
                intro D t w hD hp hcl hI rest hk
                obtain ⟨O, ht, hs⟩ := hI
                have hp : AllDone D [22, 23, 13] := hp
                obtain ⟨p22_, p23_, p13_, _⟩ := hp
                have q25_ : D 25 = false := not_yet (show D 25 = true → AllDone D [21, 24, 13] from hcl 25 (by decide)) 1 24 rfl hD
                simp only [hD, p22_, p23_, q25_, cnd_t, cnd_f, Asc_t, Asc_f] at ht hs
                subst ht
                refine g_op (v := Value.int .i64 (i64w (x28 * x28))) rfl rfl rfl ?_
                refine g_d rfl ?_
                try dsimp only [set0,setS]
                exact hk _ _ ⟨O, (by simp only [upd, Nat.reduceBEq, Bool.true_or, Bool.false_or, p22_, p23_, q25_, cnd_t, cnd_f, Asc_t, Asc_f]), hs.cast (by first | rfl | simp only [List.take, List.drop, List.cons_append, List.nil_append, List.set_cons_zero, List.set_cons_succ, List.eraseIdx, upd, Nat.reduceBEq, Bool.true_or, Bool.false_or, p22_, p23_, q25_, cnd_t, cnd_f, Asc_t, Asc_f])⟩
               ·
                intro D t w hD hp hcl hI rest hk
                obtain ⟨O, ht, hs⟩ := hI
                have hp : AllDone D [21, 24, 13] := hp
                obtain ⟨p21_, p24_, p13_, _⟩ := hp
                obtain ⟨p22_, p23_, _, _⟩ := (show D 24 = true → AllDone D [22, 23, 13] from hcl 24 (by decide)) p24_
                obtain ⟨p20_, _, _⟩ := (show D 21 = true → AllDone D [20, 13] from hcl 21 (by decide)) p21_
                obtain ⟨p18_, p19_, _, _⟩ := (show D 20 = true → AllDone D [18, 19, 13] from hcl 20 (by decide)) p20_
                obtain ⟨p17_, _, _⟩ := (show D 18 = true → AllDone D [17, 13] from hcl 18 (by decide)) p18_
                obtain ⟨p14_, p16_, _, _⟩ := (show D 17 = true → AllDone D [14, 16, 13] from hcl 17 (by decide)) p17_
                obtain ⟨p15_, _, _⟩ := (show D 16 = true → AllDone D [15, 13] from hcl 16 (by decide)) p16_
                simp only [hD, p14_, p15_, p16_, p17_, p18_, p19_, p20_, p21_, p22_, p23_, p24_, cnd_t, cnd_f, Asc_t, Asc_f] at ht hs
                subst ht
                refine g_op (v := Value.int .i64 (i64w ((rdL (rdL r8 (i64w (x22 + 1)) []) (i64w (x24 - (i64w (x28 * (i64w (rdL a1 x22 0)))))) 0) + (i64w (x28 * x28))))) rfl rfl rfl ?_
                refine g_d rfl ?_
                try dsimp only [set0,setS]
                exact hk _ _ ⟨O, (by simp only [upd, Nat.reduceBEq, Bool.true_or, Bool.false_or, p14_, p15_, p16_, p17_, p18_, p19_, p20_, p21_, p22_, p23_, p24_, cnd_t, cnd_f, Asc_t, Asc_f]), hs.cast (by first | rfl | simp only [List.take, List.drop, List.cons_append, List.nil_append, List.set_cons_zero, List.set_cons_succ, List.eraseIdx, upd, Nat.reduceBEq, Bool.true_or, Bool.false_or, p14_, p15_, p16_, p17_, p18_, p19_, p20_, p21_, p22_, p23_, p24_, cnd_t, cnd_f, Asc_t, Asc_f])⟩
               ·
                intro D t w hD hp hcl hI rest hk
                obtain ⟨O, ht, hs⟩ := hI
                have hp : AllDone D [13] := hp
                obtain ⟨p13_, _⟩ := hp
                have q28_ : D 28 = false := not_yet (show D 28 = true → AllDone D [26, 27, 13] from hcl 28 (by decide)) 0 26 rfl hD
                have q29_ : D 29 = false := not_yet (show D 29 = true → AllDone D [28, 13] from hcl 29 (by decide)) 0 28 rfl q28_
                have q31_ : D 31 = false := not_yet (show D 31 = true → AllDone D [29, 30, 13] from hcl 31 (by decide)) 0 29 rfl q29_
                have q32_ : D 32 = false := not_yet (show D 32 = true → AllDone D [31, 13] from hcl 32 (by decide)) 0 31 rfl q31_
                simp only [hD, q28_, q29_, q31_, q32_, cnd_t, cnd_f, Asc_t, Asc_f] at ht hs
                subst ht
                refine g_op (v := v9) rfl rfl rfl ?_
                refine g_d rfl ?_
                try dsimp only [set0,setS]
                exact hk _ _ ⟨O, (by simp only [upd, Nat.reduceBEq, Bool.true_or, Bool.false_or, q28_, q29_, q31_, q32_, cnd_t, cnd_f, Asc_t, Asc_f]), hs.cast (by first | rfl | simp only [List.take, List.drop, List.cons_append, List.nil_append, List.set_cons_zero, List.set_cons_succ, List.eraseIdx, upd, Nat.reduceBEq, Bool.true_or, Bool.false_or, q28_, q29_, q31_, q32_, cnd_t, cnd_f, Asc_t, Asc_f])⟩
               ·
                intro D t w hD hp hcl hI rest hk
                obtain ⟨O, ht, hs⟩ := hI
                have hp : AllDone D [13] := hp
                obtain ⟨p13_, _⟩ := hp
                have q28_ : D 28 = false := not_yet (show D 28 = true → AllDone D [26, 27, 13] from hcl 28 (by decide)) 1 27 rfl hD
                have q29_ : D 29 = false := not_yet (show D 29 = true → AllDone D [28, 13] from hcl 29 (by decide)) 0 28 rfl q28_
                have q31_ : D 31 = false := not_yet (show D 31 = true → AllDone D [29, 30, 13] from hcl 31 (by decide)) 0 29 rfl q29_
                have q32_ : D 32 = false := not_yet (show D 32 = true → AllDone D [31, 13] from hcl 32 (by decide)) 0 31 rfl q31_
                simp only [hD, q28_, q29_, q31_, q32_, cnd_t, cnd_f, Asc_t, Asc_f] at ht hs
                subst ht
                refine g_op (v := Value.int .i64 x22) rfl rfl rfl ?_
                refine g_d rfl ?_
                try dsimp only [set0,setS]
                exact hk _ _ ⟨O, (by simp only [upd, Nat.reduceBEq, Bool.true_or, Bool.false_or, q28_, q29_, q31_, q32_, cnd_t, cnd_f, Asc_t, Asc_f]), hs.cast (by first | rfl | simp only [List.take, List.drop, List.cons_append, List.nil_append, List.set_cons_zero, List.set_cons_succ, List.eraseIdx, upd, Nat.reduceBEq, Bool.true_or, Bool.false_or, q28_, q29_, q31_, q32_, cnd_t, cnd_f, Asc_t, Asc_f])⟩
               ·
                intro D t w hD hp hcl hI rest hk
                obtain ⟨O, ht, hs⟩ := hI
                have hp : AllDone D [26, 27, 13] := hp
                obtain ⟨p26_, p27_, p13_, _⟩ := hp
                have q29_ : D 29 = false := not_yet (show D 29 = true → AllDone D [28, 13] from hcl 29 (by decide)) 0 28 rfl hD
                have q31_ : D 31 = false := not_yet (show D 31 = true → AllDone D [29, 30, 13] from hcl 31 (by decide)) 0 29 rfl q29_
                have q32_ : D 32 = false := not_yet (show D 32 = true → AllDone D [31, 13] from hcl 32 (by decide)) 0 31 rfl q31_
                simp only [hD, p26_, p27_, q29_, q31_, q32_, cnd_t, cnd_f, Asc_t, Asc_f] at ht hs
                subst ht
                refine s_idxD (κ := kHS) (m := 1) rfl (hs.r2row 0 rfl) rfl (fun _ => rfl) gd21.1 (hs.r2lt 0 rfl gd21.2) had22_ rfl rfl rfl rfl rfl ?_
                refine g_d rfl ?_
                try dsimp only [set0,setS]
                exact hk _ _ ⟨O, (by simp only [upd, Nat.reduceBEq, Bool.true_or, Bool.false_or, p26_, p27_, q29_, q31_, q32_, cnd_t, cnd_f, Asc_t, Asc_f]), hs.cast (by first | rfl | simp only [List.take, List.drop, List.cons_append, List.nil_append, List.set_cons_zero, List.set_cons_succ, List.eraseIdx, upd, Nat.reduceBEq, Bool.true_or, Bool.false_or, p26_, p27_, q29_, q31_, q32_, cnd_t, cnd_f, Asc_t, Asc_f])⟩
               ·
                intro D t w hD hp hcl hI rest hk
                obtain ⟨O, ht, hs⟩ := hI
                have hp : AllDone D [28, 13] := hp
                obtain ⟨p28_, p13_, _⟩ := hp
                obtain ⟨p26_, p27_, _, _⟩ := (show D 28 = true → AllDone D [26, 27, 13] from hcl 28 (by decide)) p28_
                have q31_ : D 31 = false := not_yet (show D 31 = true → AllDone D [29, 30, 13] from hcl 31 (by decide)) 0 29 rfl hD
                have q32_ : D 32 = false := not_yet (show D 32 = true → AllDone D [31, 13] from hcl 32 (by decide)) 0 31 rfl q31_
                simp only [hD, p26_, p27_, p28_, q31_, q32_, cnd_t, cnd_f, Asc_t, Asc_f] at ht hs
                subst ht
                refine s_load1 rfl rfl (v := Value.slice (rdL ms10 x22 zHS).a (rdL ms10 x22 zHS).n (rdL ms10 x22 zHS).c) rfl rfl (fun _ => rfl) (cellsAt_of fkHS zHS (hs.r2row 0 rfl) had22_ gd21.1 (hs.r2lt 0 rfl gd21.2)) ?_
                refine g_d rfl ?_
                try dsimp only [set0,setS]
                exact hk _ _ ⟨O, (by simp only [upd, Nat.reduceBEq, Bool.true_or, Bool.false_or, p26_, p27_, p28_, q31_, q32_, cnd_t, cnd_f, Asc_t, Asc_f]), hs.cast (by first | rfl | simp only [List.take, List.drop, List.cons_append, List.nil_append, List.set_cons_zero, List.set_cons_succ, List.eraseIdx, upd, Nat.reduceBEq, Bool.true_or, Bool.false_or, p26_, p27_, p28_, q31_, q32_, cnd_t, cnd_f, Asc_t, Asc_f])⟩
               ·
                intro D t w hD hp hcl hI rest hk
                obtain ⟨O, ht, hs⟩ := hI
                have hp : AllDone D [13] := hp
                obtain ⟨p13_, _⟩ := hp
                have q31_ : D 31 = false := not_yet (show D 31 = true → AllDone D [29, 30, 13] from hcl 31 (by decide)) 1 30 rfl hD
                have q32_ : D 32 = false := not_yet (show D 32 = true → AllDone D [31, 13] from hcl 32 (by decide)) 0 31 rfl q31_
                simp only [hD, q31_, q32_, cnd_t, cnd_f, Asc_t, Asc_f] at ht hs
                subst ht
                refine g_op (v := Value.int .i64 x24) rfl rfl rfl ?_
                refine g_d rfl ?_
                try dsimp only [set0,setS]
                exact hk _ _ ⟨O, (by simp only [upd, Nat.reduceBEq, Bool.true_or, Bool.false_or, q31_, q32_, cnd_t, cnd_f, Asc_t, Asc_f]), hs.cast (by first | rfl | simp only [List.take, List.drop, List.cons_append, List.nil_append, List.set_cons_zero, List.set_cons_succ, List.eraseIdx, upd, Nat.reduceBEq, Bool.true_or, Bool.false_or, q31_, q32_, cnd_t, cnd_f, Asc_t, Asc_f])⟩
               ·
                intro D t w hD hp hcl hI rest hk
                obtain ⟨O, ht, hs⟩ := hI
                have hp : AllDone D [29, 30, 13] := hp
                obtain ⟨p29_, p30_, p13_, _⟩ := hp
                obtain ⟨p28_, _, _⟩ := (show D 29 = true → AllDone D [28, 13] from hcl 29 (by decide)) p29_
                obtain ⟨p26_, p27_, _, _⟩ := (show D 28 = true → AllDone D [26, 27, 13] from hcl 28 (by decide)) p28_
                have q32_ : D 32 = false := not_yet (show D 32 = true → AllDone D [31, 13] from hcl 32 (by decide)) 0 31 rfl hD
                simp only [hD, p26_, p27_, p28_, p29_, p30_, q32_, cnd_t, cnd_f, Asc_t, Asc_f] at ht hs
                subst ht
                refine s_idxD (κ := (K.int .i64)) (m := 1) rfl (hs.r2rd 0 rfl gd21.1 gd21.2) rfl (fun _ => rfl) gd23.1 gd23.2 had24_ rfl rfl rfl rfl rfl ?_
                refine g_d rfl ?_
                try dsimp only [set0,setS]
                exact hk _ _ ⟨O, (by simp only [upd, Nat.reduceBEq, Bool.true_or, Bool.false_or, p26_, p27_, p28_, p29_, p30_, q32_, cnd_t, cnd_f, Asc_t, Asc_f]), hs.cast (by first | rfl | simp only [List.take, List.drop, List.cons_append, List.nil_append, List.set_cons_zero, List.set_cons_succ, List.eraseIdx, upd, Nat.reduceBEq, Bool.true_or, Bool.false_or, p26_, p27_, p28_, p29_, p30_, q32_, cnd_t, cnd_f, Asc_t, Asc_f])⟩
               ·
                intro D t w hD hp hcl hI rest hk
                obtain ⟨O, ht, hs⟩ := hI
                have hp : AllDone D [31, 13] := hp
                obtain ⟨p31_, p13_, _⟩ := hp
                obtain ⟨p29_, p30_, _, _⟩ := (show D 31 = true → AllDone D [29, 30, 13] from hcl 31 (by decide)) p31_
                obtain ⟨p28_, _, _⟩ := (show D 29 = true → AllDone D [28, 13] from hcl 29 (by decide)) p29_
                obtain ⟨p26_, p27_, _, _⟩ := (show D 28 = true → AllDone D [26, 27, 13] from hcl 28 (by decide)) p28_
                simp only [hD, p26_, p27_, p28_, p29_, p30_, p31_, cnd_t, cnd_f, Asc_t, Asc_f] at ht hs
                subst ht
                refine s_load1 rfl rfl (v := Value.int .i64 (rdL (rdL r8 x22 []) x24 0)) rfl rfl (fun _ => rfl) (cellsAt_of (fkI .i64) 0 (hs.r2rd 0 rfl gd21.1 gd21.2) had24_ gd23.1 gd23.2) ?_
                refine g_d rfl ?_
                try dsimp only [set0,setS]
                exact hk _ _ ⟨O, (by simp only [upd, Nat.reduceBEq, Bool.true_or, Bool.false_or, p26_, p27_, p28_, p29_, p30_, p31_, cnd_t, cnd_f, Asc_t, Asc_f]), hs.cast (by first | rfl | simp only [List.take, List.drop, List.cons_append, List.nil_append, List.set_cons_zero, List.set_cons_succ, List.eraseIdx, upd, Nat.reduceBEq, Bool.true_or, Bool.false_or, p26_, p27_, p28_, p29_, p30_, p31_, cnd_t, cnd_f, Asc_t, Asc_f])⟩
               ·
                intro D t w rest hall hO16_ hI
                obtain ⟨O, ht, hs⟩ := hI
                have p14_ : D 14 = true := hall 14 (by decide) rfl
                have p15_ : D 15 = true := hall 15 (by decide) rfl
                have p16_ : D 16 = true := hall 16 (by decide) rfl
                have p17_ : D 17 = true := hall 17 (by decide) rfl
                have p18_ : D 18 = true := hall 18 (by decide) rfl
                have p19_ : D 19 = true := hall 19 (by decide) rfl
                have p20_ : D 20 = true := hall 20 (by decide) rfl
                have p21_ : D 21 = true := hall 21 (by decide) rfl
                have p22_ : D 22 = true := hall 22 (by decide) rfl
                have p23_ : D 23 = true := hall 23 (by decide) rfl
                have p24_ : D 24 = true := hall 24 (by decide) rfl
                have p25_ : D 25 = true := hall 25 (by decide) rfl
                have p26_ : D 26 = true := hall 26 (by decide) rfl
                have p27_ : D 27 = true := hall 27 (by decide) rfl
                have p28_ : D 28 = true := hall 28 (by decide) rfl
                have p29_ : D 29 = true := hall 29 (by decide) rfl
                have p30_ : D 30 = true := hall 30 (by decide) rfl
                have p31_ : D 31 = true := hall 31 (by decide) rfl
                have p32_ : D 32 = true := hall 32 (by decide) rfl
                simp only [p14_, p15_, p16_, p17_, p18_, p19_, p20_, p21_, p22_, p23_, p24_, p25_, p26_, p27_, p28_, p29_, p30_, p31_, p32_, cnd_t, cnd_f, Asc_t, Asc_f] at ht hs
                subst ht
                obtain ⟨rest, rfl, hO25_⟩ := ord_one (m := 8589934591) hO16_ rfl 33 (m' := 17179869183) (by decide +kernel) rfl
                clear hO16_
                refine g_op_b (B := (i64w ((rdL (rdL r8 (i64w (x22 + 1)) []) (i64w (x24 - (i64w (x28 * (i64w (rdL a1 x22 0)))))) 0) + (i64w (x28 * x28)))) == (rdL (rdL r8 x22 []) x24 0)) rfl rfl rfl ?_ ?_
                ·
                 intro hb
                 rw [if_pos (b_beq_t hb)] at H
                 refine g_d rfl ?_
                 try dsimp only [set0,setS]
                 obtain ⟨rest, rfl, hO26_⟩ := ord_one (m := 17179869183) hO25_ rfl 34 (m' := 34359738367) (by decide +kernel) rfl
                 clear hO25_
                 refine g_op (v := Value.bool true) rfl rfl rfl ?_
                 refine g_d rfl ?_
                 try dsimp only [set0,setS]
                 obtain rfl := ord_end hO26_ rfl (by decide +kernel)
                 refine g_ops_nil ?_
                 refine g_cond_true rfl ?_
                 refine g_seq ?_
                 refine g_region ?_
                 show G _ _ _ (.inRegion _ [0, 1, 2, 3, 4, 5] :: _) _ _
                 refine g_op (v := v26) rfl rfl rfl ?_
                 refine g_d rfl ?_
                 refine g_op (v := Value.int .i64 x28) rfl rfl rfl ?_
                 refine g_d rfl ?_
                 refine g_op (v := Value.int .i8 (i8w x28)) rfl rfl rfl ?_
                 refine g_d rfl ?_
                 refine s_lit1 (fkI .i8) (y := i8w x28) hs rfl rfl rfl rfl (fun _ => rfl) (zv := (Value.int .i8 0)) (fun _ => rfl) rfl (by decide) (by decide) rfl ?_
                 intro v32 w hs
                 refine g_d rfl ?_
                 try dsimp only [set0,setS]
                 have hs := hs.pull 2 rfl
                 have hs : St _ [_,_,_] _ := hs
                 obtain ⟨g, H⟩ := ite_get H
                 refine s_append (fkI .i8) (zv := (Value.int .i8 0)) (B := 1) hs (hs.row 1 rfl) rfl rfl rfl rfl rfl rfl rfl rfl rfl (by decide) rfl rfl (by decide) (by omega) ?_
                 intro v34 w hs
                 refine g_d rfl ?_
                 try dsimp only [set0,setS]
                 refine g_op (v := v34) rfl rfl rfl ?_
                 refine g_d rfl ?_
                 try dsimp only [set0,setS]
                 refine g_ops_nil ?_
                 refine g_seq ?_
                 refine g_region ?_
                 show G _ _ _ (.inRegion _ [0, 1] :: _) _ _
                 refine g_op (v := Value.int .i64 (i64w (x24 - (i64w (x28 * (i64w (rdL a1 x22 0))))))) rfl rfl rfl ?_
                 refine g_d rfl ?_
                 refine g_op (v := Value.int .i64 (i64w (x24 - (i64w (x28 * (i64w (rdL a1 x22 0))))))) rfl rfl rfl ?_
                 refine g_d rfl ?_
                 try dsimp only [set0,setS]
                 refine g_ops_nil ?_
                 obtain rfl := Option.some.inj H
                 subst Hx2_
                 have hs := hs.pull 0 rfl
                 have hs := hs.pull 2 rfl
                 have hs : St _ [_,_] _ := St.take (Γ' := [_]) hs
                 refine g_exit rfl ?_
                 exact ha2_ _ _ ⟨i64w (x24 - (i64w (x28 * (i64w (rdL a1 x22 0))))), v34, x27 ++ ([i8w x28]), Hr2_, rfl, hs⟩
                ·
                 intro hb
                 rw [if_neg (b_beq_f hb)] at H
                 refine g_d rfl ?_
                 try dsimp only [set0,setS]
                 obtain ⟨rest, rfl, hO27_⟩ := ord_one (m := 17179869183) hO25_ rfl 34 (m' := 34359738367) (by decide +kernel) rfl
                 clear hO25_
                 refine g_op (v := Value.bool false) rfl rfl rfl ?_
                 refine g_d rfl ?_
                 try dsimp only [set0,setS]
                 obtain rfl := ord_end hO27_ rfl (by decide +kernel)
                 refine g_ops_nil ?_
                 refine g_cond_false rfl ?_
                 refine g_skip ?_
                 refine g_inBlock ?_
                 have hs := hs.pull 1 rfl
                 have hs := hs.pull 1 rfl
                 have hs : St _ [_,_] _ := St.take (Γ' := []) hs
                 exact ha _ _ ⟨H, rfl, hs⟩
              ·
               intro hb
               rw [if_neg (b_dec_f hb)] at H
               refine g_d rfl ?_
               try dsimp only [set0,setS]
               obtain ⟨rest, rfl, hO28_⟩ := ord_one (m := 8191) hO14_ rfl 13 (m' := 16383) (by decide +kernel) rfl
               clear hO14_
               refine g_op (v := Value.bool false) rfl rfl rfl ?_
               refine g_d rfl ?_
               refine g_name ?_
               intro T hT
               refine g_layer (m0 := 16383) hO28_ rfl 8589934591 [14, 15, 16, 17, 18, 19, 20, 21, 22, 23, 24, 25, 26, 27, 28, 29, 30, 31, 32] [0, 1, 3, 7, 7, 23, 63, 127, 7, 511, 1023, 2047, 4095, 8191, 16383, 16383, 49151, 131071, 262143, 16383, 1048575, 2097151, 16383, 16383, 12599295, 33554431, 16383, 16383, 201342975, 469778431, 16383, 2080391167, 4227874815, 8589934591, 17179869183] (by decide +kernel) (fun D t w => ∃ O : Nat → Value, t = (v2::O 1::Value.bool a4::O 3::O 4::O 5::O 6::O 7::O 8::v9::Value.int .i64 x24::v26::Value.int .i64 x22::Value.int .i64 x28::Value.int .i64 (i64w (x24 - (i64w (x28 * (i64w (rdL a1 x22 0))))))::O 15::O 16::O 17::O 18::O 19::O 20::O 21::O 22::O 23::O 24::O 25::O 26::O 27::O 28::O 29::O 30::O 31::O 32::O 33::O 34::O 35::O 36::O 37::O 38::O 39::O 40::O 41::O 42::O 43::Value.int .i64 x28::Value.bool true::O 46::O 47::Value.int .i64 x24::Value.int .i64 x28::v2::Value.int .i64 x22::Value.pointer (some p29)::Value.int .i16 (rdL a1 x22 0)::Value.int .i64 (i64w (rdL a1 x22 0))::Value.int .i64 (i64w (x28 * (i64w (rdL a1 x22 0))))::Value.int .i64 (i64w (x24 - (i64w (x28 * (i64w (rdL a1 x22 0))))))::Value.int .i64 (i64w (x24 - (i64w (x28 * (i64w (rdL a1 x22 0))))))::Value.bool true::Value.bool true::v9::Value.int .i64 x22::Value.int .i64 (i64w (x22 + 1))::Value.pointer (some (ad9_.add ((i64w (x22 + 1)).toNat * 1)))::Value.slice (rdL ms10 (i64w (x22 + 1)) zHS).a (rdL ms10 (i64w (x22 + 1)) zHS).n (rdL ms10 (i64w (x22 + 1)) zHS).c::Value.int .i64 (i64w (x24 - (i64w (x28 * (i64w (rdL a1 x22 0))))))::Value.pointer (some p31)::Value.int .i64 (rdL (rdL r8 (i64w (x22 + 1)) []) (i64w (x24 - (i64w (x28 * (i64w (rdL a1 x22 0)))))) 0)::Value.bool (decide ((rdL (rdL r8 (i64w (x22 + 1)) []) (i64w (x24 - (i64w (x28 * (i64w (rdL a1 x22 0)))))) 0) ≥ 0))::Value.bool false::Value.bool false::cnd (D 14) undef (O 71)::cnd (D 15) undef (O 72)::cnd (D 16) undef (O 73)::cnd (D 17) undef (O 74)::cnd (D 18) undef (O 75)::cnd (D 19) undef (O 76)::cnd (D 20) undef (O 77)::cnd (D 21) undef (O 78)::cnd (D 22) undef (O 79)::cnd (D 23) undef (O 80)::cnd (D 24) undef (O 81)::cnd (D 25) undef (O 82)::cnd (D 26) undef (O 83)::cnd (D 27) undef (O 84)::cnd (D 28) undef (O 85)::cnd (D 29) undef (O 86)::cnd (D 30) undef (O 87)::cnd (D 31) undef (O 88)::cnd (D 32) undef (O 89)::O 90::O 91::O 92::O 93::O 94::O 95::O 96::O 97::O 98::[]) ∧ St w0 [Rows2 38 kHS (RowO 2 (K.int .i64)) v9 ms10 r8, Row 47 (K.int .i8) v26 x27] w) ?_ ⟨?_, ⟨?_, ⟨?_, ⟨?_, ⟨?_, ⟨?_, ⟨?_, ⟨?_, ⟨?_, ⟨?_, ⟨?_, ⟨?_, ⟨?_, ⟨?_, ⟨?_, ⟨?_, ⟨?_, ⟨?_, ⟨?_, trivial⟩⟩⟩⟩⟩⟩⟩⟩⟩⟩⟩⟩⟩⟩⟩⟩⟩⟩⟩ ?_
               · exact ⟨fun i => T.getD i undef, (by subst hT; rfl), hs⟩
               ·
                intro D t w hD hp hcl hI rest hk
                obtain ⟨O, ht, hs⟩ := hI
                have hp : AllDone D [13] := hp
                obtain ⟨p13_, _⟩ := hp
                have q17_ : D 17 = false := not_yet (show D 17 = true → AllDone D [14, 16, 13] from hcl 17 (by decide)) 0 14 rfl hD
                have q18_ : D 18 = false := not_yet (show D 18 = true → AllDone D [17, 13] from hcl 18 (by decide)) 0 17 rfl q17_
                have q20_ : D 20 = false := not_yet (show D 20 = true → AllDone D [18, 19, 13] from hcl 20 (by decide)) 0 18 rfl q18_
                have q21_ : D 21 = false := not_yet (show D 21 = true → AllDone D [20, 13] from hcl 21 (by decide)) 0 20 rfl q20_
                have q25_ : D 25 = false := not_yet (show D 25 = true → AllDone D [21, 24, 13] from hcl 25 (by decide)) 0 21 rfl q21_
                simp only [hD, q17_, q18_, q20_, q21_, q25_, cnd_t, cnd_f, Asc_t, Asc_f] at ht hs
                subst ht
                refine g_op_not rfl rfl ?_
                refine g_d rfl ?_
                try dsimp only [set0,setS]
                exact hk _ _ ⟨O, (by simp only [upd, Nat.reduceBEq, Bool.true_or, Bool.false_or, q17_, q18_, q20_, q21_, q25_, cnd_t, cnd_f, Asc_t, Asc_f]), hs.cast (by simp only [upd, Nat.reduceBEq, Bool.true_or, Bool.false_or, q17_, q18_, q20_, q21_, q25_, cnd_t, cnd_f, Asc_t, Asc_f])⟩
               ·
                intro D t w hD hp hcl hI rest hk
                obtain ⟨O, ht, hs⟩ := hI
                have hp : AllDone D [13] := hp
                obtain ⟨p13_, _⟩ := hp
                have q16_ : D 16 = false := not_yet (show D 16 = true → AllDone D [15, 13] from hcl 16 (by decide)) 0 15 rfl hD
                have q17_ : D 17 = false := not_yet (show D 17 = true → AllDone D [14, 16, 13] from hcl 17 (by decide)) 1 16 rfl q16_
                have q18_ : D 18 = false := not_yet (show D 18 = true → AllDone D [17, 13] from hcl 18 (by decide)) 0 17 rfl q17_
                have q20_ : D 20 = false := not_yet (show D 20 = true → AllDone D [18, 19, 13] from hcl 20 (by decide)) 0 18 rfl q18_
                have q21_ : D 21 = false := not_yet (show D 21 = true → AllDone D [20, 13] from hcl 21 (by decide)) 0 20 rfl q20_
                have q25_ : D 25 = false := not_yet (show D 25 = true → AllDone D [21, 24, 13] from hcl 25 (by decide)) 0 21 rfl q21_
                simp only [hD, q16_, q17_, q18_, q20_, q21_, q25_, cnd_t, cnd_f, Asc_t, Asc_f] at ht hs
                subst ht
                refine g_op_not rfl rfl ?_
                refine g_d rfl ?_
                try dsimp only [set0,setS]
                exact hk _ _ ⟨O, (by simp only [upd, Nat.reduceBEq, Bool.true_or, Bool.false_or, q16_, q17_, q18_, q20_, q21_, q25_, cnd_t, cnd_f, Asc_t, Asc_f]), hs.cast (by simp only [upd, Nat.reduceBEq, Bool.true_or, Bool.false_or, q16_, q17_, q18_, q20_, q21_, q25_, cnd_t, cnd_f, Asc_t, Asc_f])⟩
               ·
                intro D t w hD hp hcl hI rest hk
                obtain ⟨O, ht, hs⟩ := hI
                have hp : AllDone D [15, 13] := hp
                obtain ⟨p15_, p13_, _⟩ := hp
                have q17_ : D 17 = false := not_yet (show D 17 = true → AllDone D [14, 16, 13] from hcl 17 (by decide)) 1 16 rfl hD
                have q18_ : D 18 = false := not_yet (show D 18 = true → AllDone D [17, 13] from hcl 18 (by decide)) 0 17 rfl q17_
                have q20_ : D 20 = false := not_yet (show D 20 = true → AllDone D [18, 19, 13] from hcl 20 (by decide)) 0 18 rfl q18_
                have q21_ : D 21 = false := not_yet (show D 21 = true → AllDone D [20, 13] from hcl 21 (by decide)) 0 20 rfl q20_
                have q25_ : D 25 = false := not_yet (show D 25 = true → AllDone D [21, 24, 13] from hcl 25 (by decide)) 0 21 rfl q21_
                simp only [hD, p15_, q17_, q18_, q20_, q21_, q25_, cnd_t, cnd_f, Asc_t, Asc_f] at ht hs
                subst ht
                refine g_op_not rfl rfl ?_
                refine g_d rfl ?_
                try dsimp only [set0,setS]
                exact hk _ _ ⟨O, (by simp only [upd, Nat.reduceBEq, Bool.true_or, Bool.false_or, p15_, q17_, q18_, q20_, q21_, q25_, cnd_t, cnd_f, Asc_t, Asc_f]), hs.cast (by simp only [upd, Nat.reduceBEq, Bool.true_or, Bool.false_or, p15_, q17_, q18_, q20_, q21_, q25_, cnd_t, cnd_f, Asc_t, Asc_f])⟩
               ·
                intro D t w hD hp hcl hI rest hk
                obtain ⟨O, ht, hs⟩ := hI
                have hp : AllDone D [14, 16, 13] := hp
                obtain ⟨p14_, p16_, p13_, _⟩ := hp
                obtain ⟨p15_, _, _⟩ := (show D 16 = true → AllDone D [15, 13] from hcl 16 (by decide)) p16_
                have q18_ : D 18 = false := not_yet (show D 18 = true → AllDone D [17, 13] from hcl 18 (by decide)) 0 17 rfl hD
                have q20_ : D 20 = false := not_yet (show D 20 = true → AllDone D [18, 19, 13] from hcl 20 (by decide)) 0 18 rfl q18_
                have q21_ : D 21 = false := not_yet (show D 21 = true → AllDone D [20, 13] from hcl 21 (by decide)) 0 20 rfl q20_
                have q25_ : D 25 = false := not_yet (show D 25 = true → AllDone D [21, 24, 13] from hcl 25 (by decide)) 0 21 rfl q21_
                simp only [hD, p14_, p15_, p16_, q18_, q20_, q21_, q25_, cnd_t, cnd_f, Asc_t, Asc_f] at ht hs
                subst ht
                refine g_op_not rfl rfl ?_
                refine g_d rfl ?_
                try dsimp only [set0,setS]
                exact hk _ _ ⟨O, (by simp only [upd, Nat.reduceBEq, Bool.true_or, Bool.false_or, p14_, p15_, p16_, q18_, q20_, q21_, q25_, cnd_t, cnd_f, Asc_t, Asc_f]), hs.cast (by simp only [upd, Nat.reduceBEq, Bool.true_or, Bool.false_or, p14_, p15_, p16_, q18_, q20_, q21_, q25_, cnd_t, cnd_f, Asc_t, Asc_f])⟩
               ·
                intro D t w hD hp hcl hI rest hk
                obtain ⟨O, ht, hs⟩ := hI
                have hp : AllDone D [17, 13] := hp
                obtain ⟨p17_, p13_, _⟩ := hp
                obtain ⟨p14_, p16_, _, _⟩ := (show D 17 = true → AllDone D [14, 16, 13] from hcl 17 (by decide)) p17_
                obtain ⟨p15_, _, _⟩ := (show D 16 = true → AllDone D [15, 13] from hcl 16 (by decide)) p16_
                have q20_ : D 20 = false := not_yet (show D 20 = true → AllDone D [18, 19, 13] from hcl 20 (by decide)) 0 18 rfl hD
                have q21_ : D 21 = false := not_yet (show D 21 = true → AllDone D [20, 13] from hcl 21 (by decide)) 0 20 rfl q20_
                have q25_ : D 25 = false := not_yet (show D 25 = true → AllDone D [21, 24, 13] from hcl 25 (by decide)) 0 21 rfl q21_
                simp only [hD, p14_, p15_, p16_, p17_, q20_, q21_, q25_, cnd_t, cnd_f, Asc_t, Asc_f] at ht hs
                subst ht
                refine g_op_not rfl rfl ?_
                refine g_d rfl ?_
                try dsimp only [set0,setS]
                exact hk _ _ ⟨O, (by simp only [upd, Nat.reduceBEq, Bool.true_or, Bool.false_or, p14_, p15_, p16_, p17_, q20_, q21_, q25_, cnd_t, cnd_f, Asc_t, Asc_f]), hs.cast (by simp only [upd, Nat.reduceBEq, Bool.true_or, Bool.false_or, p14_, p15_, p16_, p17_, q20_, q21_, q25_, cnd_t, cnd_f, Asc_t, Asc_f])⟩
               ·
                intro D t w hD hp hcl hI rest hk
                obtain ⟨O, ht, hs⟩ := hI
                have hp : AllDone D [13] := hp
                obtain ⟨p13_, _⟩ := hp
                have q20_ : D 20 = false := not_yet (show D 20 = true → AllDone D [18, 19, 13] from hcl 20 (by decide)) 1 19 rfl hD
                have q21_ : D 21 = false := not_yet (show D 21 = true → AllDone D [20, 13] from hcl 21 (by decide)) 0 20 rfl q20_
                have q25_ : D 25 = false := not_yet (show D 25 = true → AllDone D [21, 24, 13] from hcl 25 (by decide)) 0 21 rfl q21_
                simp only [hD, q20_, q21_, q25_, cnd_t, cnd_f, Asc_t, Asc_f] at ht hs
                subst ht
                refine g_op_not rfl rfl ?_
                refine g_d rfl ?_
                try dsimp only [set0,setS]
                exact hk _ _ ⟨O, (by simp only [upd, Nat.reduceBEq, Bool.true_or, Bool.false_or, q20_, q21_, q25_, cnd_t, cnd_f, Asc_t, Asc_f]), hs.cast (by simp only [upd, Nat.reduceBEq, Bool.true_or, Bool.false_or, q20_, q21_, q25_, cnd_t, cnd_f, Asc_t, Asc_f])⟩
               ·
                intro D t w hD hp hcl hI rest hk
                obtain ⟨O, ht, hs⟩ := hI
                have hp : AllDone D [18, 19, 13] := hp
                obtain ⟨p18_, p19_, p13_, _⟩ := hp
                obtain ⟨p17_, _, _⟩ := (show D 18 = true → AllDone D [17, 13] from hcl 18 (by decide)) p18_
                obtain ⟨p14_, p16_, _, _⟩ := (show D 17 = true → AllDone D [14, 16, 13] from hcl 17 (by decide)) p17_
                obtain ⟨p15_, _, _⟩ := (show D 16 = true → AllDone D [15, 13] from hcl 16 (by decide)) p16_
                have q21_ : D 21 = false := not_yet (show D 21 = true → AllDone D [20, 13] from hcl 21 (by decide)) 0 20 rfl hD
                have q25_ : D 25 = false := not_yet (show D 25 = true → AllDone D [21, 24, 13] from hcl 25 (by decide)) 0 21 rfl q21_
                simp only [hD, p14_, p15_, p16_, p17_, p18_, p19_, q21_, q25_, cnd_t, cnd_f, Asc_t, Asc_f] at ht hs
                subst ht
                refine g_op_not rfl rfl ?_
                refine g_d rfl ?_
                try dsimp only [set0,setS]
                exact hk _ _ ⟨O, (by simp only [upd, Nat.reduceBEq, Bool.true_or, Bool.false_or, p14_, p15_, p16_, p17_, p18_, p19_, q21_, q25_, cnd_t, cnd_f, Asc_t, Asc_f]), hs.cast (by simp only [upd, Nat.reduceBEq, Bool.true_or, Bool.false_or, p14_, p15_, p16_, p17_, p18_, p19_, q21_, q25_, cnd_t, cnd_f, Asc_t, Asc_f])⟩
               ·
                intro D t w hD hp hcl hI rest hk
                obtain ⟨O, ht, hs⟩ := hI
                have hp : AllDone D [20, 13] := hp
                obtain ⟨p20_, p13_, _⟩ := hp
                obtain ⟨p18_, p19_, _, _⟩ := (show D 20 = true → AllDone D [18, 19, 13] from hcl 20 (by decide)) p20_
                obtain ⟨p17_, _, _⟩ := (show D 18 = true → AllDone D [17, 13] from hcl 18 (by decide)) p18_
                obtain ⟨p14_, p16_, _, _⟩ := (show D 17 = true → AllDone D [14, 16, 13] from hcl 17 (by decide)) p17_
                obtain ⟨p15_, _, _⟩ := (show D 16 = true → AllDone D [15, 13] from hcl 16 (by decide)) p16_
                have q25_ : D 25 = false := not_yet (show D 25 = true → AllDone D [21, 24, 13] from hcl 25 (by decide)) 0 21 rfl hD
                simp only [hD, p14_, p15_, p16_, p17_, p18_, p19_, p20_, q25_, cnd_t, cnd_f, Asc_t, Asc_f] at ht hs
                subst ht
                refine g_op_not rfl rfl ?_
                refine g_d rfl ?_
                try dsimp only [set0,setS]
                exact hk _ _ ⟨O, (by simp only [upd, Nat.reduceBEq, Bool.true_or, Bool.false_or, p14_, p15_, p16_, p17_, p18_, p19_, p20_, q25_, cnd_t, cnd_f, Asc_t, Asc_f]), hs.cast (by simp only [upd, Nat.reduceBEq, Bool.true_or, Bool.false_or, p14_, p15_, p16_, p17_, p18_, p19_, p20_, q25_, cnd_t, cnd_f, Asc_t, Asc_f])⟩
               ·
                intro D t w hD hp hcl hI rest hk
                obtain ⟨O, ht, hs⟩ := hI
                have hp : AllDone D [13] := hp
                obtain ⟨p13_, _⟩ := hp
                have q24_ : D 24 = false := not_yet (show D 24 = true → AllDone D [22, 23, 13] from hcl 24 (by decide)) 0 22 rfl hD
                have q25_ : D 25 = false := not_yet (show D 25 = true → AllDone D [21, 24, 13] from hcl 25 (by decide)) 1 24 rfl q24_
                simp only [hD, q24_, q25_, cnd_t, cnd_f, Asc_t, Asc_f] at ht hs
                subst ht
                refine g_op_not rfl rfl ?_
                refine g_d rfl ?_
                try dsimp only [set0,setS]
                exact hk _ _ ⟨O, (by simp only [upd, Nat.reduceBEq, Bool.true_or, Bool.false_or, q24_, q25_, cnd_t, cnd_f, Asc_t, Asc_f]), hs.cast (by simp only [upd, Nat.reduceBEq, Bool.true_or, Bool.false_or, q24_, q25_, cnd_t, cnd_f, Asc_t, Asc_f])⟩
               ·
                intro D t w hD hp hcl hI rest hk
                obtain ⟨O, ht, hs⟩ := hI
                have hp : AllDone D [13] := hp
                obtain ⟨p13_, _⟩ := hp
                have q24_ : D 24 = false := not_yet (show D 24 = true → AllDone D [22, 23, 13] from hcl 24 (by decide)) 1 23 rfl hD
                have q25_ : D 25 = false := not_yet (show D 25 = true → AllDone D [21, 24, 13] from hcl 25 (by decide)) 1 24 rfl q24_
                simp only [hD, q24_, q25_, cnd_t, cnd_f, Asc_t, Asc_f] at ht hs
                subst ht
                refine g_op_not rfl rfl ?_
                refine g_d rfl ?_
                try dsimp only [set0,setS]
                exact hk _ _ ⟨O, (by simp only [upd, Nat.reduceBEq, Bool.true_or, Bool.false_or, q24_, q25_, cnd_t, cnd_f, Asc_t, Asc_f]), hs.cast (by simp only [upd, Nat.reduceBEq, Bool.true_or, Bool.false_or, q24_, q25_, cnd_t, cnd_f, Asc_t, Asc_f])⟩
               ·
                intro D t w hD hp hcl hI rest hk
                obtain ⟨O, ht, hs⟩ := hI
                have hp : AllDone D [22, 23, 13] := hp
                obtain ⟨p22_, p23_, p13_, _⟩ := hp
                have q25_ : D 25 = false := not_yet (show D 25 = true → AllDone D [21, 24, 13] from hcl 25 (by decide)) 1 24 rfl hD
                simp only [hD, p22_, p23_, q25_, cnd_t, cnd_f, Asc_t, Asc_f] at ht hs
                subst ht
                refine g_op_not rfl rfl ?_
                refine g_d rfl ?_
                try dsimp only [set0,setS]
                exact hk _ _ ⟨O, (by simp only [upd, Nat.reduceBEq, Bool.true_or, Bool.false_or, p22_, p23_, q25_, cnd_t, cnd_f, Asc_t, Asc_f]), hs.cast (by simp only [upd, Nat.reduceBEq, Bool.true_or, Bool.false_or, p22_, p23_, q25_, cnd_t, cnd_f, Asc_t, Asc_f])⟩
               ·
                intro D t w hD hp hcl hI rest hk
                obtain ⟨O, ht, hs⟩ := hI
                have hp : AllDone D [21, 24, 13] := hp
                obtain ⟨p21_, p24_, p13_, _⟩ := hp
                obtain ⟨p22_, p23_, _, _⟩ := (show D 24 = true → AllDone D [22, 23, 13] from hcl 24 (by decide)) p24_
                obtain ⟨p20_, _, _⟩ := (show D 21 = true → AllDone D [20, 13] from hcl 21 (by decide)) p21_
                obtain ⟨p18_, p19_, _, _⟩ := (show D 20 = true → AllDone D [18, 19, 13] from hcl 20 (by decide)) p20_
                obtain ⟨p17_, _, _⟩ := (show D 18 = true → AllDone D [17, 13] from hcl 18 (by decide)) p18_
                obtain ⟨p14_, p16_, _, _⟩ := (show D 17 = true → AllDone D [14, 16, 13] from hcl 17 (by decide)) p17_
                obtain ⟨p15_, _, _⟩ := (show D 16 = true → AllDone D [15, 13] from hcl 16 (by decide)) p16_
                simp only [hD, p14_, p15_, p16_, p17_, p18_, p19_, p20_, p21_, p22_, p23_, p24_, cnd_t, cnd_f, Asc_t, Asc_f] at ht hs
                subst ht
                refine g_op_not rfl rfl ?_
                refine g_d rfl ?_
                try dsimp only [set0,setS]
                exact hk _ _ ⟨O, (by simp only [upd, Nat.reduceBEq, Bool.true_or, Bool.false_or, p14_, p15_, p16_, p17_, p18_, p19_, p20_, p21_, p22_, p23_, p24_, cnd_t, cnd_f, Asc_t, Asc_f]), hs.cast (by simp only [upd, Nat.reduceBEq, Bool.true_or, Bool.false_or, p14_, p15_, p16_, p17_, p18_, p19_, p20_, p21_, p22_, p23_, p24_, cnd_t, cnd_f, Asc_t, Asc_f])⟩
               ·
                intro D t w hD hp hcl hI rest hk
                obtain ⟨O, ht, hs⟩ := hI
                have hp : AllDone D [13] := hp
                obtain ⟨p13_, _⟩ := hp
                have q28_ : D 28 = false := not_yet (show D 28 = true → AllDone D [26, 27, 13] from hcl 28 (by decide)) 0 26 rfl hD
                have q29_ : D 29 = false := not_yet (show D 29 = true → AllDone D [28, 13] from hcl 29 (by decide)) 0 28 rfl q28_
                have q31_ : D 31 = false := not_yet (show D 31 = true → AllDone D [29, 30, 13] from hcl 31 (by decide)) 0 29 rfl q29_
                have q32_ : D 32 = false := not_yet (show D 32 = true → AllDone D [31, 13] from hcl 32 (by decide)) 0 31 rfl q31_
                simp only [hD, q28_, q29_, q31_, q32_, cnd_t, cnd_f, Asc_t, Asc_f] at ht hs
                subst ht
                refine g_op_not rfl rfl ?_
                refine g_d rfl ?_
                try dsimp only [set0,setS]
                exact hk _ _ ⟨O, (by simp only [upd, Nat.reduceBEq, Bool.true_or, Bool.false_or, q28_, q29_, q31_, q32_, cnd_t, cnd_f, Asc_t, Asc_f]), hs.cast (by simp only [upd, Nat.reduceBEq, Bool.true_or, Bool.false_or, q28_, q29_, q31_, q32_, cnd_t, cnd_f, Asc_t, Asc_f])⟩
               ·
                intro D t w hD hp hcl hI rest hk
                obtain ⟨O, ht, hs⟩ := hI
                have hp : AllDone D [13] := hp
                obtain ⟨p13_, _⟩ := hp
                have q28_ : D 28 = false := not_yet (show D 28 = true → AllDone D [26, 27, 13] from hcl 28 (by decide)) 1 27 rfl hD
                have q29_ : D 29 = false := not_yet (show D 29 = true → AllDone D [28, 13] from hcl 29 (by decide)) 0 28 rfl q28_
                have q31_ : D 31 = false := not_yet (show D 31 = true → AllDone D [29, 30, 13] from hcl 31 (by decide)) 0 29 rfl q29_
                have q32_ : D 32 = false := not_yet (show D 32 = true → AllDone D [31, 13] from hcl 32 (by decide)) 0 31 rfl q31_
                simp only [hD, q28_, q29_, q31_, q32_, cnd_t, cnd_f, Asc_t, Asc_f] at ht hs
                subst ht
                refine g_op_not rfl rfl ?_
                refine g_d rfl ?_
                try dsimp only [set0,setS]
                exact hk _ _ ⟨O, (by simp only [upd, Nat.reduceBEq, Bool.true_or, Bool.false_or, q28_, q29_, q31_, q32_, cnd_t, cnd_f, Asc_t, Asc_f]), hs.cast (by simp only [upd, Nat.reduceBEq, Bool.true_or, Bool.false_or, q28_, q29_, q31_, q32_, cnd_t, cnd_f, Asc_t, Asc_f])⟩
               ·
                intro D t w hD hp hcl hI rest hk
                obtain ⟨O, ht, hs⟩ := hI
                have hp : AllDone D [26, 27, 13] := hp
                obtain ⟨p26_, p27_, p13_, _⟩ := hp
                have q29_ : D 29 = false := not_yet (show D 29 = true → AllDone D [28, 13] from hcl 29 (by decide)) 0 28 rfl hD
                have q31_ : D 31 = false := not_yet (show D 31 = true → AllDone D [29, 30, 13] from hcl 31 (by decide)) 0 29 rfl q29_
                have q32_ : D 32 = false := not_yet (show D 32 = true → AllDone D [31, 13] from hcl 32 (by decide)) 0 31 rfl q31_
                simp only [hD, p26_, p27_, q29_, q31_, q32_, cnd_t, cnd_f, Asc_t, Asc_f] at ht hs
                subst ht
                refine g_op_not rfl rfl ?_
                refine g_d rfl ?_
                try dsimp only [set0,setS]
                exact hk _ _ ⟨O, (by simp only [upd, Nat.reduceBEq, Bool.true_or, Bool.false_or, p26_, p27_, q29_, q31_, q32_, cnd_t, cnd_f, Asc_t, Asc_f]), hs.cast (by simp only [upd, Nat.reduceBEq, Bool.true_or, Bool.false_or, p26_, p27_, q29_, q31_, q32_, cnd_t, cnd_f, Asc_t, Asc_f])⟩
               ·
                intro D t w hD hp hcl hI rest hk
                obtain ⟨O, ht, hs⟩ := hI
                have hp : AllDone D [28, 13] := hp
                obtain ⟨p28_, p13_, _⟩ := hp
                obtain ⟨p26_, p27_, _, _⟩ := (show D 28 = true → AllDone D [26, 27, 13] from hcl 28 (by decide)) p28_
                have q31_ : D 31 = false := not_yet (show D 31 = true → AllDone D [29, 30, 13] from hcl 31 (by decide)) 0 29 rfl hD
                have q32_ : D 32 = false := not_yet (show D 32 = true → AllDone D [31, 13] from hcl 32 (by decide)) 0 31 rfl q31_
                simp only [hD, p26_, p27_, p28_, q31_, q32_, cnd_t, cnd_f, Asc_t, Asc_f] at ht hs
                subst ht
                refine g_op_not rfl rfl ?_
                refine g_d rfl ?_
                try dsimp only [set0,setS]
                exact hk _ _ ⟨O, (by simp only [upd, Nat.reduceBEq, Bool.true_or, Bool.false_or, p26_, p27_, p28_, q31_, q32_, cnd_t, cnd_f, Asc_t, Asc_f]), hs.cast (by simp only [upd, Nat.reduceBEq, Bool.true_or, Bool.false_or, p26_, p27_, p28_, q31_, q32_, cnd_t, cnd_f, Asc_t, Asc_f])⟩
               ·
                intro D t w hD hp hcl hI rest hk
                obtain ⟨O, ht, hs⟩ := hI
                have hp : AllDone D [13] := hp
                obtain ⟨p13_, _⟩ := hp
                have q31_ : D 31 = false := not_yet (show D 31 = true → AllDone D [29, 30, 13] from hcl 31 (by decide)) 1 30 rfl hD
                have q32_ : D 32 = false := not_yet (show D 32 = true → AllDone D [31, 13] from hcl 32 (by decide)) 0 31 rfl q31_
                simp only [hD, q31_, q32_, cnd_t, cnd_f, Asc_t, Asc_f] at ht hs
                subst ht
                refine g_op_not rfl rfl ?_
                refine g_d rfl ?_
                try dsimp only [set0,setS]
                exact hk _ _ ⟨O, (by simp only [upd, Nat.reduceBEq, Bool.true_or, Bool.false_or, q31_, q32_, cnd_t, cnd_f, Asc_t, Asc_f]), hs.cast (by simp only [upd, Nat.reduceBEq, Bool.true_or, Bool.false_or, q31_, q32_, cnd_t, cnd_f, Asc_t, Asc_f])⟩
               ·
                intro D t w hD hp hcl hI rest hk
                obtain ⟨O, ht, hs⟩ := hI
                have hp : AllDone D [29, 30, 13] := hp
                obtain ⟨p29_, p30_, p13_, _⟩ := hp
                obtain ⟨p28_, _, _⟩ := (show D 29 = true → AllDone D [28, 13] from hcl 29 (by decide)) p29_
                obtain ⟨p26_, p27_, _, _⟩ := (show D 28 = true → AllDone D [26, 27, 13] from hcl 28 (by decide)) p28_
                have q32_ : D 32 = false := not_yet (show D 32 = true → AllDone D [31, 13] from hcl 32 (by decide)) 0 31 rfl hD
                simp only [hD, p26_, p27_, p28_, p29_, p30_, q32_, cnd_t, cnd_f, Asc_t, Asc_f] at ht hs
                subst ht
                refine g_op_not rfl rfl ?_
                refine g_d rfl ?_
                try dsimp only [set0,setS]
                exact hk _ _ ⟨O, (by simp only [upd, Nat.reduceBEq, Bool.true_or, Bool.false_or, p26_, p27_, p28_, p29_, p30_, q32_, cnd_t, cnd_f, Asc_t, Asc_f]), hs.cast (by simp only [upd, Nat.reduceBEq, Bool.true_or, Bool.false_or, p26_, p27_, p28_, p29_, p30_, q32_, cnd_t, cnd_f, Asc_t, Asc_f])⟩
               ·
                intro D t w hD hp hcl hI rest hk
                obtain ⟨O, ht, hs⟩ := hI
                have hp : AllDone D [31, 13] := hp
                obtain ⟨p31_, p13_, _⟩ := hp
                obtain ⟨p29_, p30_, _, _⟩ := (show D 31 = true → AllDone D [29, 30, 13] from hcl 31 (by decide)) p31_
                obtain ⟨p28_, _, _⟩ := (show D 29 = true → AllDone D [28, 13] from hcl 29 (by decide)) p29_
                obtain ⟨p26_, p27_, _, _⟩ := (show D 28 = true → AllDone D [26, 27, 13] from hcl 28 (by decide)) p28_
                simp only [hD, p26_, p27_, p28_, p29_, p30_, p31_, cnd_t, cnd_f, Asc_t, Asc_f] at ht hs
                subst ht
                refine g_op_not rfl rfl ?_
                refine g_d rfl ?_
                try dsimp only [set0,setS]
                exact hk _ _ ⟨O, (by simp only [upd, Nat.reduceBEq, Bool.true_or, Bool.false_or, p26_, p27_, p28_, p29_, p30_, p31_, cnd_t, cnd_f, Asc_t, Asc_f]), hs.cast (by simp only [upd, Nat.reduceBEq, Bool.true_or, Bool.false_or, p26_, p27_, p28_, p29_, p30_, p31_, cnd_t, cnd_f, Asc_t, Asc_f])⟩
               ·
                intro D t w rest hall hO29_ hI
                obtain ⟨O, ht, hs⟩ := hI
                have p14_ : D 14 = true := hall 14 (by decide) rfl
                have p15_ : D 15 = true := hall 15 (by decide) rfl
                have p16_ : D 16 = true := hall 16 (by decide) rfl
                have p17_ : D 17 = true := hall 17 (by decide) rfl
                have p18_ : D 18 = true := hall 18 (by decide) rfl
                have p19_ : D 19 = true := hall 19 (by decide) rfl
                have p20_ : D 20 = true := hall 20 (by decide) rfl
                have p21_ : D 21 = true := hall 21 (by decide) rfl
                have p22_ : D 22 = true := hall 22 (by decide) rfl
                have p23_ : D 23 = true := hall 23 (by decide) rfl
                have p24_ : D 24 = true := hall 24 (by decide) rfl
                have p25_ : D 25 = true := hall 25 (by decide) rfl
                have p26_ : D 26 = true := hall 26 (by decide) rfl
                have p27_ : D 27 = true := hall 27 (by decide) rfl
                have p28_ : D 28 = true := hall 28 (by decide) rfl
                have p29_ : D 29 = true := hall 29 (by decide) rfl
                have p30_ : D 30 = true := hall 30 (by decide) rfl
                have p31_ : D 31 = true := hall 31 (by decide) rfl
                have p32_ : D 32 = true := hall 32 (by decide) rfl
                simp only [p14_, p15_, p16_, p17_, p18_, p19_, p20_, p21_, p22_, p23_, p24_, p25_, p26_, p27_, p28_, p29_, p30_, p31_, p32_, cnd_t, cnd_f, Asc_t, Asc_f] at ht hs
                subst ht
                obtain ⟨rest, rfl, hO30_⟩ := ord_one (m := 8589934591) hO29_ rfl 33 (m' := 17179869183) (by decide +kernel) rfl
                clear hO29_
                refine g_op_not rfl rfl ?_
                refine g_d rfl ?_
                try dsimp only [set0,setS]
                obtain ⟨rest, rfl, hO31_⟩ := ord_one (m := 17179869183) hO30_ rfl 34 (m' := 34359738367) (by decide +kernel) rfl
                clear hO30_
                refine g_op (v := Value.bool false) rfl rfl rfl ?_
                refine g_d rfl ?_
                try dsimp only [set0,setS]
                obtain rfl := ord_end hO31_ rfl (by decide +kernel)
                refine g_ops_nil ?_
                refine g_cond_false rfl ?_
                refine g_skip ?_
                refine g_inBlock ?_
                have hs := hs.pull 1 rfl
                have hs := hs.pull 1 rfl
                have hs : St _ [_,_] _ := St.take (Γ' := []) hs
                exact ha _ _ ⟨H, rfl, hs⟩
           | false =>
             rw [if_neg Bool.false_ne_true] at H
             refine g_d rfl ?_
             try dsimp only [set0,setS]
             obtain ⟨rest, rfl, hO32_⟩ := ord_one (m := 3) hO5_ rfl 2 (m' := 7) (by decide +kernel) rfl
             clear hO5_
             refine g_op (v := Value.bool false) rfl rfl rfl ?_
             refine g_d rfl ?_
             refine g_name ?_
             intro T hT
             refine g_layer (m0 := 7) hO32_ rfl 511 [3, 4, 5, 6, 7, 8] [0, 1, 3, 7, 7, 23, 63, 127, 7, 511, 1023, 2047, 4095, 8191, 16383, 16383, 49151, 131071, 262143, 16383, 1048575, 2097151, 16383, 16383, 12599295, 33554431, 16383, 16383, 201342975, 469778431, 16383, 2080391167, 4227874815, 8589934591, 17179869183] (by decide +kernel) (fun D t w => ∃ O : Nat → Value, t = (v2::O 1::Value.bool a4::O 3::O 4::O 5::O 6::O 7::O 8::v9::Value.int .i64 x24::v26::Value.int .i64 x22::Value.int .i64 x28::Value.int .i64 (i64w (x24 - (i64w (x28 * (i64w (rdL a1 x22 0))))))::O 15::O 16::O 17::O 18::O 19::O 20::O 21::O 22::O 23::O 24::O 25::O 26::O 27::O 28::O 29::O 30::O 31::O 32::O 33::O 34::O 35::O 36::O 37::O 38::O 39::O 40::O 41::O 42::O 43::Value.int .i64 x28::Value.bool true::O 46::O 47::Value.int .i64 x24::Value.int .i64 x28::v2::Value.int .i64 x22::Value.pointer (some p29)::Value.int .i16 (rdL a1 x22 0)::Value.int .i64 (i64w (rdL a1 x22 0))::Value.int .i64 (i64w (x28 * (i64w (rdL a1 x22 0))))::Value.int .i64 (i64w (x24 - (i64w (x28 * (i64w (rdL a1 x22 0))))))::Value.int .i64 (i64w (x24 - (i64w (x28 * (i64w (rdL a1 x22 0))))))::Value.bool false::Value.bool false::cnd (D 3) undef (O 60)::cnd (D 4) undef (O 61)::cnd (D 5) undef (O 62)::cnd (D 6) undef (O 63)::cnd (D 7) undef (O 64)::cnd (D 8) undef (O 65)::O 66::O 67::O 68::O 69::O 70::O 71::O 72::O 73::O 74::O 75::O 76::O 77::O 78::O 79::O 80::O 81::O 82::O 83::O 84::O 85::O 86::O 87::O 88::O 89::O 90::O 91::O 92::O 93::O 94::O 95::O 96::O 97::O 98::[]) ∧ St w0 [Rows2 38 kHS (RowO 2 (K.int .i64)) v9 ms10 r8, Row 47 (K.int .i8) v26 x27] w) ?_ ⟨?_, ⟨?_, ⟨?_, ⟨?_, ⟨?_, ⟨?_, trivial⟩⟩⟩⟩⟩⟩ ?_
             · exact ⟨fun i => T.getD i undef, (by subst hT; rfl), hs⟩
             ·
              intro D t w hD hp hcl hI rest hk
              obtain ⟨O, ht, hs⟩ := hI
              have hp : AllDone D [2] := hp
              obtain ⟨p2_, _⟩ := hp
              have q6_ : D 6 = false := not_yet (show D 6 = true → AllDone D [3, 5, 2] from hcl 6 (by decide)) 0 3 rfl hD
              have q7_ : D 7 = false := not_yet (show D 7 = true → AllDone D [6, 2] from hcl 7 (by decide)) 0 6 rfl q6_
              simp only [hD, q6_, q7_, cnd_t, cnd_f, Asc_t, Asc_f] at ht hs
              subst ht
              refine g_op_not rfl rfl ?_
              refine g_d rfl ?_
              try dsimp only [set0,setS]
              exact hk _ _ ⟨O, (by simp only [upd, Nat.reduceBEq, Bool.true_or, Bool.false_or, q6_, q7_, cnd_t, cnd_f, Asc_t, Asc_f]), hs.cast (by simp only [upd, Nat.reduceBEq, Bool.true_or, Bool.false_or, q6_, q7_, cnd_t, cnd_f, Asc_t, Asc_f])⟩
             ·
              intro D t w hD hp hcl hI rest hk
              obtain ⟨O, ht, hs⟩ := hI
              have hp : AllDone D [2] := hp
              obtain ⟨p2_, _⟩ := hp
              have q5_ : D 5 = false := not_yet (show D 5 = true → AllDone D [4, 2] from hcl 5 (by decide)) 0 4 rfl hD
              have q6_ : D 6 = false := not_yet (show D 6 = true → AllDone D [3, 5, 2] from hcl 6 (by decide)) 1 5 rfl q5_
              have q7_ : D 7 = false := not_yet (show D 7 = true → AllDone D [6, 2] from hcl 7 (by decide)) 0 6 rfl q6_
              simp only [hD, q5_, q6_, q7_, cnd_t, cnd_f, Asc_t, Asc_f] at ht hs
              subst ht
              refine g_op_not rfl rfl ?_
              refine g_d rfl ?_
              try dsimp only [set0,setS]
              exact hk _ _ ⟨O, (by simp only [upd, Nat.reduceBEq, Bool.true_or, Bool.false_or, q5_, q6_, q7_, cnd_t, cnd_f, Asc_t, Asc_f]), hs.cast (by simp only [upd, Nat.reduceBEq, Bool.true_or, Bool.false_or, q5_, q6_, q7_, cnd_t, cnd_f, Asc_t, Asc_f])⟩
             ·
              intro D t w hD hp hcl hI rest hk
              obtain ⟨O, ht, hs⟩ := hI
              have hp : AllDone D [4, 2] := hp
              obtain ⟨p4_, p2_, _⟩ := hp
              have q6_ : D 6 = false := not_yet (show D 6 = true → AllDone D [3, 5, 2] from hcl 6 (by decide)) 1 5 rfl hD
              have q7_ : D 7 = false := not_yet (show D 7 = true → AllDone D [6, 2] from hcl 7 (by decide)) 0 6 rfl q6_
              simp only [hD, p4_, q6_, q7_, cnd_t, cnd_f, Asc_t, Asc_f] at ht hs
              subst ht
              refine g_op_not rfl rfl ?_
              refine g_d rfl ?_
              try dsimp only [set0,setS]
              exact hk _ _ ⟨O, (by simp only [upd, Nat.reduceBEq, Bool.true_or, Bool.false_or, p4_, q6_, q7_, cnd_t, cnd_f, Asc_t, Asc_f]), hs.cast (by simp only [upd, Nat.reduceBEq, Bool.true_or, Bool.false_or, p4_, q6_, q7_, cnd_t, cnd_f, Asc_t, Asc_f])⟩
             ·
              intro D t w hD hp hcl hI rest hk
              obtain ⟨O, ht, hs⟩ := hI
              have hp : AllDone D [3, 5, 2] := hp
              obtain ⟨p3_, p5_, p2_, _⟩ := hp
              obtain ⟨p4_, _, _⟩ := (show D 5 = true → AllDone D [4, 2] from hcl 5 (by decide)) p5_
              have q7_ : D 7 = false := not_yet (show D 7 = true → AllDone D [6, 2] from hcl 7 (by decide)) 0 6 rfl hD
              simp only [hD, p3_, p4_, p5_, q7_, cnd_t, cnd_f, Asc_t, Asc_f] at ht hs
              subst ht
              refine g_op_not rfl rfl ?_
              refine g_d rfl ?_
              try dsimp only [set0,setS]
              exact hk _ _ ⟨O, (by simp only [upd, Nat.reduceBEq, Bool.true_or, Bool.false_or, p3_, p4_, p5_, q7_, cnd_t, cnd_f, Asc_t, Asc_f]), hs.cast (by simp only [upd, Nat.reduceBEq, Bool.true_or, Bool.false_or, p3_, p4_, p5_, q7_, cnd_t, cnd_f, Asc_t, Asc_f])⟩
             ·
              intro D t w hD hp hcl hI rest hk
              obtain ⟨O, ht, hs⟩ := hI
              have hp : AllDone D [6, 2] := hp
              obtain ⟨p6_, p2_, _⟩ := hp
              obtain ⟨p3_, p5_, _, _⟩ := (show D 6 = true → AllDone D [3, 5, 2] from hcl 6 (by decide)) p6_
              obtain ⟨p4_, _, _⟩ := (show D 5 = true → AllDone D [4, 2] from hcl 5 (by decide)) p5_
              simp only [hD, p3_, p4_, p5_, p6_, cnd_t, cnd_f, Asc_t, Asc_f] at ht hs
              subst ht
              refine g_op_not rfl rfl ?_
              refine g_d rfl ?_
              try dsimp only [set0,setS]
              exact hk _ _ ⟨O, (by simp only [upd, Nat.reduceBEq, Bool.true_or, Bool.false_or, p3_, p4_, p5_, p6_, cnd_t, cnd_f, Asc_t, Asc_f]), hs.cast (by simp only [upd, Nat.reduceBEq, Bool.true_or, Bool.false_or, p3_, p4_, p5_, p6_, cnd_t, cnd_f, Asc_t, Asc_f])⟩
             ·
              intro D t w hD hp hcl hI rest hk
              obtain ⟨O, ht, hs⟩ := hI
              have hp : AllDone D [2] := hp
              obtain ⟨p2_, _⟩ := hp
              simp only [hD, cnd_t, cnd_f, Asc_t, Asc_f] at ht hs
              subst ht
              refine g_op_not rfl rfl ?_
              refine g_d rfl ?_
              try dsimp only [set0,setS]
              exact hk _ _ ⟨O, (by simp only [upd, Nat.reduceBEq, Bool.true_or, Bool.false_or, cnd_t, cnd_f, Asc_t, Asc_f]), hs.cast (by simp only [upd, Nat.reduceBEq, Bool.true_or, Bool.false_or, cnd_t, cnd_f, Asc_t, Asc_f])⟩
             ·
              intro D t w rest hall hO33_ hI
              obtain ⟨O, ht, hs⟩ := hI
              have p3_ : D 3 = true := hall 3 (by decide) rfl
              have p4_ : D 4 = true := hall 4 (by decide) rfl
              have p5_ : D 5 = true := hall 5 (by decide) rfl
              have p6_ : D 6 = true := hall 6 (by decide) rfl
              have p7_ : D 7 = true := hall 7 (by decide) rfl
              have p8_ : D 8 = true := hall 8 (by decide) rfl
              simp only [p3_, p4_, p5_, p6_, p7_, p8_, cnd_t, cnd_f, Asc_t, Asc_f] at ht hs
              subst ht
              obtain ⟨rest, rfl, hO34_⟩ := ord_one (m := 511) hO33_ rfl 9 (m' := 1023) (by decide +kernel) rfl
              clear hO33_
              refine g_op_not rfl rfl ?_
              refine g_d rfl ?_
              try dsimp only [set0,setS]
              obtain ⟨rest, rfl, hO35_⟩ := ord_one (m := 1023) hO34_ rfl 10 (m' := 2047) (by decide +kernel) rfl
              clear hO34_
              refine g_op_not rfl rfl ?_
              refine g_d rfl ?_
              try dsimp only [set0,setS]
              obtain ⟨rest, rfl, hO36_⟩ := ord_one (m := 2047) hO35_ rfl 11 (m' := 4095) (by decide +kernel) rfl
              clear hO35_
              refine g_op_not rfl rfl ?_
              refine g_d rfl ?_
              try dsimp only [set0,setS]
              obtain ⟨rest, rfl, hO37_⟩ := ord_one (m := 4095) hO36_ rfl 12 (m' := 8191) (by decide +kernel) rfl
              clear hO36_
              refine g_op (v := Value.bool false) rfl rfl rfl ?_
              refine g_d rfl ?_
              try dsimp only [set0,setS]
              obtain ⟨rest, rfl, hO38_⟩ := ord_one (m := 8191) hO37_ rfl 13 (m' := 16383) (by decide +kernel) rfl
              clear hO37_
              refine g_op (v := Value.bool false) rfl rfl rfl ?_
              refine g_d rfl ?_
              refine g_name ?_
              intro T hT
              refine g_layer (m0 := 16383) hO38_ rfl 8589934591 [14, 15, 16, 17, 18, 19, 20, 21, 22, 23, 24, 25, 26, 27, 28, 29, 30, 31, 32] [0, 1, 3, 7, 7, 23, 63, 127, 7, 511, 1023, 2047, 4095, 8191, 16383, 16383, 49151, 131071, 262143, 16383, 1048575, 2097151, 16383, 16383, 12599295, 33554431, 16383, 16383, 201342975, 469778431, 16383, 2080391167, 4227874815, 8589934591, 17179869183] (by decide +kernel) (fun D t w => ∃ O : Nat → Value, t = (v2::O 1::Value.bool a4::O 3::O 4::O 5::O 6::O 7::O 8::v9::Value.int .i64 x24::v26::Value.int .i64 x22::Value.int .i64 x28::Value.int .i64 (i64w (x24 - (i64w (x28 * (i64w (rdL a1 x22 0))))))::O 15::O 16::O 17::O 18::O 19::O 20::O 21::O 22::O 23::O 24::O 25::O 26::O 27::O 28::O 29::O 30::O 31::O 32::O 33::O 34::O 35::O 36::O 37::O 38::O 39::O 40::O 41::O 42::O 43::Value.int .i64 x28::Value.bool true::O 46::O 47::Value.int .i64 x24::Value.int .i64 x28::v2::Value.int .i64 x22::Value.pointer (some p29)::Value.int .i16 (rdL a1 x22 0)::Value.int .i64 (i64w (rdL a1 x22 0))::Value.int .i64 (i64w (x28 * (i64w (rdL a1 x22 0))))::Value.int .i64 (i64w (x24 - (i64w (x28 * (i64w (rdL a1 x22 0))))))::Value.int .i64 (i64w (x24 - (i64w (x28 * (i64w (rdL a1 x22 0))))))::Value.bool false::Value.bool false::O 60::O 61::O 62::O 63::O 64::O 65::O 66::O 67::O 68::Value.bool false::Value.bool false::cnd (D 14) undef (O 71)::cnd (D 15) undef (O 72)::cnd (D 16) undef (O 73)::cnd (D 17) undef (O 74)::cnd (D 18) undef (O 75)::cnd (D 19) undef (O 76)::cnd (D 20) undef (O 77)::cnd (D 21) undef (O 78)::cnd (D 22) undef (O 79)::cnd (D 23) undef (O 80)::cnd (D 24) undef (O 81)::cnd (D 25) undef (O 82)::cnd (D 26) undef (O 83)::cnd (D 27) undef (O 84)::cnd (D 28) undef (O 85)::cnd (D 29) undef (O 86)::cnd (D 30) undef (O 87)::cnd (D 31) undef (O 88)::cnd (D 32) undef (O 89)::O 90::O 91::O 92::O 93::O 94::O 95::O 96::O 97::O 98::[]) ∧ St w0 [Rows2 38 kHS (RowO 2 (K.int .i64)) v9 ms10 r8, Row 47 (K.int .i8) v26 x27] w) ?_ ⟨?_, ⟨?_, ⟨?_, ⟨?_, ⟨?_, ⟨?_, ⟨?_, ⟨?_, ⟨?_, ⟨?_, ⟨?_, ⟨?_, ⟨?_, ⟨?_, ⟨?_, ⟨?_, ⟨?_, ⟨?_, ⟨?_, trivial⟩⟩⟩⟩⟩⟩⟩⟩⟩⟩⟩⟩⟩⟩⟩⟩⟩⟩⟩ ?_
              · exact ⟨fun i => T.getD i undef, (by subst hT; rfl), hs⟩
              ·
               intro D t w hD hp hcl hI rest hk
               obtain ⟨O, ht, hs⟩ := hI
               have hp : AllDone D [13] := hp
               obtain ⟨p13_, _⟩ := hp
               have q17_ : D 17 = false := not_yet (show D 17 = true → AllDone D [14, 16, 13] from hcl 17 (by decide)) 0 14 rfl hD
               have q18_ : D 18 = false := not_yet (show D 18 = true → AllDone D [17, 13] from hcl 18 (by decide)) 0 17 rfl q17_
               have q20_ : D 20 = false := not_yet (show D 20 = true → AllDone D [18, 19, 13] from hcl 20 (by decide)) 0 18 rfl q18_
               have q21_ : D 21 = false := not_yet (show D 21 = true → AllDone D [20, 13] from hcl 21 (by decide)) 0 20 rfl q20_
               have q25_ : D 25 = false := not_yet (show D 25 = true → AllDone D [21, 24, 13] from hcl 25 (by decide)) 0 21 rfl q21_
               simp only [hD, q17_, q18_, q20_, q21_, q25_, cnd_t, cnd_f, Asc_t, Asc_f] at ht hs
               subst ht
               refine g_op_not rfl rfl ?_
               refine g_d rfl ?_
               try dsimp only [set0,setS]
               exact hk _ _ ⟨O, (by simp only [upd, Nat.reduceBEq, Bool.true_or, Bool.false_or, q17_, q18_, q20_, q21_, q25_, cnd_t, cnd_f, Asc_t, Asc_f]), hs.cast (by simp only [upd, Nat.reduceBEq, Bool.true_or, Bool.false_or, q17_, q18_, q20_, q21_, q25_, cnd_t, cnd_f, Asc_t, Asc_f])⟩
              ·
               intro D t w hD hp hcl hI rest hk
               obtain ⟨O, ht, hs⟩ := hI
               have hp : AllDone D [13] := hp
               obtain ⟨p13_, _⟩ := hp
               have q16_ : D 16 = false := not_yet (show D 16 = true → AllDone D [15, 13] from hcl 16 (by decide)) 0 15 rfl hD
               have q17_ : D 17 = false := not_yet (show D 17 = true → AllDone D [14, 16, 13] from hcl 17 (by decide)) 1 16 rfl q16_
               have q18_ : D 18 = false := not_yet (show D 18 = true → AllDone D [17, 13] from hcl 18 (by decide)) 0 17 rfl q17_
               have q20_ : D 20 = false := not_yet (show D 20 = true → AllDone D [18, 19, 13] from hcl 20 (by decide)) 0 18 rfl q18_
               have q21_ : D 21 = false := not_yet (show D 21 = true → AllDone D [20, 13] from hcl 21 (by decide)) 0 20 rfl q20_
               have q25_ : D 25 = false := not_yet (show D 25 = true → AllDone D [21, 24, 13] from hcl 25 (by decide)) 0 21 rfl q21_
               simp only [hD, q16_, q17_, q18_, q20_, q21_, q25_, cnd_t, cnd_f, Asc_t, Asc_f] at ht hs
               subst ht
               refine g_op_not rfl rfl ?_
               refine g_d rfl ?_
               try dsimp only [set0,setS]
               exact hk _ _ ⟨O, (by simp only [upd, Nat.reduceBEq, Bool.true_or, Bool.false_or, q16_, q17_, q18_, q20_, q21_, q25_, cnd_t, cnd_f, Asc_t, Asc_f]), hs.cast (by simp only [upd, Nat.reduceBEq, Bool.true_or, Bool.false_or, q16_, q17_, q18_, q20_, q21_, q25_, cnd_t, cnd_f, Asc_t, Asc_f])⟩
              ·
               intro D t w hD hp hcl hI rest hk
               obtain ⟨O, ht, hs⟩ := hI
               have hp : AllDone D [15, 13] := hp
               obtain ⟨p15_, p13_, _⟩ := hp
               have q17_ : D 17 = false := not_yet (show D 17 = true → AllDone D [14, 16, 13] from hcl 17 (by decide)) 1 16 rfl hD
               have q18_ : D 18 = false := not_yet (show D 18 = true → AllDone D [17, 13] from hcl 18 (by decide)) 0 17 rfl q17_
               have q20_ : D 20 = false := not_yet (show D 20 = true → AllDone D [18, 19, 13] from hcl 20 (by decide)) 0 18 rfl q18_
               have q21_ : D 21 = false := not_yet (show D 21 = true → AllDone D [20, 13] from hcl 21 (by decide)) 0 20 rfl q20_
               have q25_ : D 25 = false := not_yet (show D 25 = true → AllDone D [21, 24, 13] from hcl 25 (by decide)) 0 21 rfl q21_
               simp only [hD, p15_, q17_, q18_, q20_, q21_, q25_, cnd_t, cnd_f, Asc_t, Asc_f] at ht hs
               subst ht
               refine g_op_not rfl rfl ?_
               refine g_d rfl ?_
               try dsimp only [set0,setS]
               exact hk _ _ ⟨O, (by simp only [upd, Nat.reduceBEq, Bool.true_or, Bool.false_or, p15_, q17_, q18_, q20_, q21_, q25_, cnd_t, cnd_f, Asc_t, Asc_f]), hs.cast (by simp only [upd, Nat.reduceBEq, Bool.true_or, Bool.false_or, p15_, q17_, q18_, q20_, q21_, q25_, cnd_t, cnd_f, Asc_t, Asc_f])⟩
              ·
               intro D t w hD hp hcl hI rest hk
               obtain ⟨O, ht, hs⟩ := hI
               have hp : AllDone D [14, 16, 13] := hp
               obtain ⟨p14_, p16_, p13_, _⟩ := hp
               obtain ⟨p15_, _, _⟩ := (show D 16 = true → AllDone D [15, 13] from hcl 16 (by decide)) p16_
               have q18_ : D 18 = false := not_yet (show D 18 = true → AllDone D [17, 13] from hcl 18 (by decide)) 0 17 rfl hD
               have q20_ : D 20 = false := not_yet (show D 20 = true → AllDone D [18, 19, 13] from hcl 20 (by decide)) 0 18 rfl q18_
               have q21_ : D 21 = false := not_yet (show D 21 = true → AllDone D [20, 13] from hcl 21 (by decide)) 0 20 rfl q20_
               have q25_ : D 25 = false := not_yet (show D 25 = true → AllDone D [21, 24, 13] from hcl 25 (by decide)) 0 21 rfl q21_
               simp only [hD, p14_, p15_, p16_, q18_, q20_, q21_, q25_, cnd_t, cnd_f, Asc_t, Asc_f] at ht hs
               subst ht
               refine g_op_not rfl rfl ?_
               refine g_d rfl ?_
               try dsimp only [set0,setS]
               exact hk _ _ ⟨O, (by simp only [upd, Nat.reduceBEq, Bool.true_or, Bool.false_or, p14_, p15_, p16_, q18_, q20_, q21_, q25_, cnd_t, cnd_f, Asc_t, Asc_f]), hs.cast (by simp only [upd, Nat.reduceBEq, Bool.true_or, Bool.false_or, p14_, p15_, p16_, q18_, q20_, q21_, q25_, cnd_t, cnd_f, Asc_t, Asc_f])⟩
              ·
               intro D t w hD hp hcl hI rest hk
               obtain ⟨O, ht, hs⟩ := hI
               have hp : AllDone D [17, 13] := hp
               obtain ⟨p17_, p13_, _⟩ := hp
               obtain ⟨p14_, p16_, _, _⟩ := (show D 17 = true → AllDone D [14, 16, 13] from hcl 17 (by decide)) p17_
               obtain ⟨p15_, _, _⟩ := (show D 16 = true → AllDone D [15, 13] from hcl 16 (by decide)) p16_
               have q20_ : D 20 = false := not_yet (show D 20 = true → AllDone D [18, 19, 13] from hcl 20 (by decide)) 0 18 rfl hD
               have q21_ : D 21 = false := not_yet (show D 21 = true → AllDone D [20, 13] from hcl 21 (by decide)) 0 20 rfl q20_
               have q25_ : D 25 = false := not_yet (show D 25 = true → AllDone D [21, 24, 13] from hcl 25 (by decide)) 0 21 rfl q21_
               simp only [hD, p14_, p15_, p16_, p17_, q20_, q21_, q25_, cnd_t, cnd_f, Asc_t, Asc_f] at ht hs
               subst ht
               refine g_op_not rfl rfl ?_
               refine g_d rfl ?_
               try dsimp only [set0,setS]
               exact hk _ _ ⟨O, (by simp only [upd, Nat.reduceBEq, Bool.true_or, Bool.false_or, p14_, p15_, p16_, p17_, q20_, q21_, q25_, cnd_t, cnd_f, Asc_t, Asc_f]), hs.cast (by simp only [upd, Nat.reduceBEq, Bool.true_or, Bool.false_or, p14_, p15_, p16_, p17_, q20_, q21_, q25_, cnd_t, cnd_f, Asc_t, Asc_f])⟩
              ·
               intro D t w hD hp hcl hI rest hk
               obtain ⟨O, ht, hs⟩ := hI
               have hp : AllDone D [13] := hp
               obtain ⟨p13_, _⟩ := hp
               have q20_ : D 20 = false := not_yet (show D 20 = true → AllDone D [18, 19, 13] from hcl 20 (by decide)) 1 19 rfl hD
               have q21_ : D 21 = false := not_yet (show D 21 = true → AllDone D [20, 13] from hcl 21 (by decide)) 0 20 rfl q20_
               have q25_ : D 25 = false := not_yet (show D 25 = true → AllDone D [21, 24, 13] from hcl 25 (by decide)) 0 21 rfl q21_
               simp only [hD, q20_, q21_, q25_, cnd_t, cnd_f, Asc_t, Asc_f] at ht hs
               subst ht
               refine g_op_not rfl rfl ?_
               refine g_d rfl ?_
               try dsimp only [set0,setS]
               exact hk _ _ ⟨O, (by simp only [upd, Nat.reduceBEq, Bool.true_or, Bool.false_or, q20_, q21_, q25_, cnd_t, cnd_f, Asc_t, Asc_f]), hs.cast (by simp only [upd, Nat.reduceBEq, Bool.true_or, Bool.false_or, q20_, q21_, q25_, cnd_t, cnd_f, Asc_t, Asc_f])⟩
              ·
               intro D t w hD hp hcl hI rest hk
               obtain ⟨O, ht, hs⟩ := hI
               have hp : AllDone D [18, 19, 13] := hp
               obtain ⟨p18_, p19_, p13_, _⟩ := hp
               obtain ⟨p17_, _, _⟩ := (show D 18 = true → AllDone D [17, 13] from hcl 18 (by decide)) p18_
               obtain ⟨p14_, p16_, _, _⟩ := (show D 17 = true → AllDone D [14, 16, 13] from hcl 17 (by decide)) p17_
               obtain ⟨p15_, _, _⟩ := (show D 16 = true → AllDone D [15, 13] from hcl 16 (by decide)) p16_
               have q21_ : D 21 = false := not_yet (show D 21 = true → AllDone D [20, 13] from hcl 21 (by decide)) 0 20 rfl hD
               have q25_ : D 25 = false := not_yet (show D 25 = true → AllDone D [21, 24, 13] from hcl 25 (by decide)) 0 21 rfl q21_
               simp only [hD, p14_, p15_, p16_, p17_, p18_, p19_, q21_, q25_, cnd_t, cnd_f, Asc_t, Asc_f] at ht hs
               subst ht
               refine g_op_not rfl rfl ?_
               refine g_d rfl ?_
               try dsimp only [set0,setS]
               exact hk _ _ ⟨O, (by simp only [upd, Nat.reduceBEq, Bool.true_or, Bool.false_or, p14_, p15_, p16_, p17_, p18_, p19_, q21_, q25_, cnd_t, cnd_f, Asc_t, Asc_f]), hs.cast (by simp only [upd, Nat.reduceBEq, Bool.true_or, Bool.false_or, p14_, p15_, p16_, p17_, p18_, p19_, q21_, q25_, cnd_t, cnd_f, Asc_t, Asc_f])⟩
              ·
               intro D t w hD hp hcl hI rest hk
               obtain ⟨O, ht, hs⟩ := hI
               have hp : AllDone D [20, 13] := hp
               obtain ⟨p20_, p13_, _⟩ := hp
               obtain ⟨p18_, p19_, _, _⟩ := (show D 20 = true → AllDone D [18, 19, 13] from hcl 20 (by decide)) p20_
               obtain ⟨p17_, _, _⟩ := (show D 18 = true → AllDone D [17, 13] from hcl 18 (by decide)) p18_
               obtain ⟨p14_, p16_, _, _⟩ := (show D 17 = true → AllDone D [14, 16, 13] from hcl 17 (by decide)) p17_
               obtain ⟨p15_, _, _⟩ := (show D 16 = true → AllDone D [15, 13] from hcl 16 (by decide)) p16_
               have q25_ : D 25 = false := not_yet (show D 25 = true → AllDone D [21, 24, 13] from hcl 25 (by decide)) 0 21 rfl hD
               simp only [hD, p14_, p15_, p16_, p17_, p18_, p19_, p20_, q25_, cnd_t, cnd_f, Asc_t, Asc_f] at ht hs
               subst ht
               refine g_op_not rfl rfl ?_
               refine g_d rfl ?_
               try dsimp only [set0,setS]
               exact hk _ _ ⟨O, (by simp only [upd, Nat.reduceBEq, Bool.true_or, Bool.false_or, p14_, p15_, p16_, p17_, p18_, p19_, p20_, q25_, cnd_t, cnd_f, Asc_t, Asc_f]), hs.cast (by simp only [upd, Nat.reduceBEq, Bool.true_or, Bool.false_or, p14_, p15_, p16_, p17_, p18_, p19_, p20_, q25_, cnd_t, cnd_f, Asc_t, Asc_f])⟩
              ·
               intro D t w hD hp hcl hI rest hk
               obtain ⟨O, ht, hs⟩ := hI
               have hp : AllDone D [13] := hp
               obtain ⟨p13_, _⟩ := hp
               have q24_ : D 24 = false := not_yet (show D 24 = true → AllDone D [22, 23, 13] from hcl 24 (by decide)) 0 22 rfl hD
               have q25_ : D 25 = false := not_yet (show D 25 = true → AllDone D [21, 24, 13] from hcl 25 (by decide)) 1 24 rfl q24_
               simp only [hD, q24_, q25_, cnd_t, cnd_f, Asc_t, Asc_f] at ht hs
               subst ht
               refine g_op_not rfl rfl ?_
               refine g_d rfl ?_
               try dsimp only [set0,setS]
               exact hk _ _ ⟨O, (by simp only [upd, Nat.reduceBEq, Bool.true_or, Bool.false_or, q24_, q25_, cnd_t, cnd_f, Asc_t, Asc_f]), hs.cast (by simp only [upd, Nat.reduceBEq, Bool.true_or, Bool.false_or, q24_, q25_, cnd_t, cnd_f, Asc_t, Asc_f])⟩
              ·
               intro D t w hD hp hcl hI rest hk
               obtain ⟨O, ht, hs⟩ := hI
               have hp : AllDone D [13] := hp
               obtain ⟨p13_, _⟩ := hp
               have q24_ : D 24 = false := not_yet (show D 24 = true → AllDone D [22, 23, 13] from hcl 24 (by decide)) 1 23 rfl hD
               have q25_ : D 25 = false := not_yet (show D 25 = true → AllDone D [21, 24, 13] from hcl 25 (by decide)) 1 24 rfl q24_
               simp only [hD, q24_, q25_, cnd_t, cnd_f, Asc_t, Asc_f] at ht hs
               subst ht
               refine g_op_not rfl rfl ?_
               refine g_d rfl ?_
               try dsimp only [set0,setS]
               exact hk _ _ ⟨O, (by simp only [upd, Nat.reduceBEq, Bool.true_or, Bool.false_or, q24_, q25_, cnd_t, cnd_f, Asc_t, Asc_f]), hs.cast (by simp only [upd, Nat.reduceBEq, Bool.true_or, Bool.false_or, q24_, q25_, cnd_t, cnd_f, Asc_t, Asc_f])⟩
              ·
               intro D t w hD hp hcl hI rest hk
               obtain ⟨O, ht, hs⟩ := hI
               have hp : AllDone D [22, 23, 13] := hp
               obtain ⟨p22_, p23_, p13_, _⟩ := hp
               have q25_ : D 25 = false := not_yet (show D 25 = true → AllDone D [21, 24, 13] from hcl 25 (by decide)) 1 24 rfl hD
               simp only [hD, p22_, p23_, q25_, cnd_t, cnd_f, Asc_t, Asc_f] at ht hs
               subst ht
               refine g_op_not rfl rfl ?_
               refine g_d rfl ?_
               try dsimp only [set0,setS]
               exact hk _ _ ⟨O, (by simp only [upd, Nat.reduceBEq, Bool.true_or, Bool.false_or, p22_, p23_, q25_, cnd_t, cnd_f, Asc_t, Asc_f]), hs.cast (by simp only [upd, Nat.reduceBEq, Bool.true_or, Bool.false_or, p22_, p23_, q25_, cnd_t, cnd_f, Asc_t, Asc_f])⟩
              ·
               intro D t w hD hp hcl hI rest hk
               obtain ⟨O, ht, hs⟩ := hI
               have hp : AllDone D [21, 24, 13] := hp
               obtain ⟨p21_, p24_, p13_, _⟩ := hp
               obtain ⟨p22_, p23_, _, _⟩ := (show D 24 = true → AllDone D [22, 23, 13] from hcl 24 (by decide)) p24_
               obtain ⟨p20_, _, _⟩ := (show D 21 = true → AllDone D [20, 13] from hcl 21 (by decide)) p21_
               obtain ⟨p18_, p19_, _, _⟩ := (show D 20 = true → AllDone D [18, 19, 13] from hcl 20 (by decide)) p20_
               obtain ⟨p17_, _, _⟩ := (show D 18 = true → AllDone D [17, 13] from hcl 18 (by decide)) p18_
               obtain ⟨p14_, p16_, _, _⟩ := (show D 17 = true → AllDone D [14, 16, 13] from hcl 17 (by decide)) p17_
               obtain ⟨p15_, _, _⟩ := (show D 16 = true → AllDone D [15, 13] from hcl 16 (by decide)) p16_
               simp only [hD, p14_, p15_, p16_, p17_, p18_, p19_, p20_, p21_, p22_, p23_, p24_, cnd_t, cnd_f, Asc_t, Asc_f] at ht hs
               subst ht
               refine g_op_not rfl rfl ?_
               refine g_d rfl ?_
               try dsimp only [set0,setS]
               exact hk _ _ ⟨O, (by simp only [upd, Nat.reduceBEq, Bool.true_or, Bool.false_or, p14_, p15_, p16_, p17_, p18_, p19_, p20_, p21_, p22_, p23_, p24_, cnd_t, cnd_f, Asc_t, Asc_f]), hs.cast (by simp only [upd, Nat.reduceBEq, Bool.true_or, Bool.false_or, p14_, p15_, p16_, p17_, p18_, p19_, p20_, p21_, p22_, p23_, p24_, cnd_t, cnd_f, Asc_t, Asc_f])⟩
              ·
               intro D t w hD hp hcl hI rest hk
               obtain ⟨O, ht, hs⟩ := hI
               have hp : AllDone D [13] := hp
               obtain ⟨p13_, _⟩ := hp
               have q28_ : D 28 = false := not_yet (show D 28 = true → AllDone D [26, 27, 13] from hcl 28 (by decide)) 0 26 rfl hD
               have q29_ : D 29 = false := not_yet (show D 29 = true → AllDone D [28, 13] from hcl 29 (by decide)) 0 28 rfl q28_
               have q31_ : D 31 = false := not_yet (show D 31 = true → AllDone D [29, 30, 13] from hcl 31 (by decide)) 0 29 rfl q29_
               have q32_ : D 32 = false := not_yet (show D 32 = true → AllDone D [31, 13] from hcl 32 (by decide)) 0 31 rfl q31_
               simp only [hD, q28_, q29_, q31_, q32_, cnd_t, cnd_f, Asc_t, Asc_f] at ht hs
               subst ht
               refine g_op_not rfl rfl ?_
               refine g_d rfl ?_
               try dsimp only [set0,setS]
               exact hk _ _ ⟨O, (by simp only [upd, Nat.reduceBEq, Bool.true_or, Bool.false_or, q28_, q29_, q31_, q32_, cnd_t, cnd_f, Asc_t, Asc_f]), hs.cast (by simp only [upd, Nat.reduceBEq, Bool.true_or, Bool.false_or, q28_, q29_, q31_, q32_, cnd_t, cnd_f, Asc_t, Asc_f])⟩
              ·
               intro D t w hD hp hcl hI rest hk
               obtain ⟨O, ht, hs⟩ := hI
               have hp : AllDone D [13] := hp
               obtain ⟨p13_, _⟩ := hp
               have q28_ : D 28 = false := not_yet (show D 28 = true → AllDone D [26, 27, 13] from hcl 28 (by decide)) 1 27 rfl hD
               have q29_ : D 29 = false := not_yet (show D 29 = true → AllDone D [28, 13] from hcl 29 (by decide)) 0 28 rfl q28_
               have q31_ : D 31 = false := not_yet (show D 31 = true → AllDone D [29, 30, 13] from hcl 31 (by decide)) 0 29 rfl q29_
               have q32_ : D 32 = false := not_yet (show D 32 = true → AllDone D [31, 13] from hcl 32 (by decide)) 0 31 rfl q31_
               simp only [hD, q28_, q29_, q31_, q32_, cnd_t, cnd_f, Asc_t, Asc_f] at ht hs
               subst ht
               refine g_op_not rfl rfl ?_
               refine g_d rfl ?_
               try dsimp only [set0,setS]
               exact hk _ _ ⟨O, (by simp only [upd, Nat.reduceBEq, Bool.true_or, Bool.false_or, q28_, q29_, q31_, q32_, cnd_t, cnd_f, Asc_t, Asc_f]), hs.cast (by simp only [upd, Nat.reduceBEq, Bool.true_or, Bool.false_or, q28_, q29_, q31_, q32_, cnd_t, cnd_f, Asc_t, Asc_f])⟩
              ·
               intro D t w hD hp hcl hI rest hk
               obtain ⟨O, ht, hs⟩ := hI
               have hp : AllDone D [26, 27, 13] := hp
               obtain ⟨p26_, p27_, p13_, _⟩ := hp
               have q29_ : D 29 = false := not_yet (show D 29 = true → AllDone D [28, 13] from hcl 29 (by decide)) 0 28 rfl hD
               have q31_ : D 31 = false := not_yet (show D 31 = true → AllDone D [29, 30, 13] from hcl 31 (by decide)) 0 29 rfl q29_
               have q32_ : D 32 = false := not_yet (show D 32 = true → AllDone D [31, 13] from hcl 32 (by decide)) 0 31 rfl q31_
               simp only [hD, p26_, p27_, q29_, q31_, q32_, cnd_t, cnd_f, Asc_t, Asc_f] at ht hs
               subst ht
               refine g_op_not rfl rfl ?_
               refine g_d rfl ?_
               try dsimp only [set0,setS]
               exact hk _ _ ⟨O, (by simp only [upd, Nat.reduceBEq, Bool.true_or, Bool.false_or, p26_, p27_, q29_, q31_, q32_, cnd_t, cnd_f, Asc_t, Asc_f]), hs.cast (by simp only [upd, Nat.reduceBEq, Bool.true_or, Bool.false_or, p26_, p27_, q29_, q31_, q32_, cnd_t, cnd_f, Asc_t, Asc_f])⟩
              ·
               intro D t w hD hp hcl hI rest hk
               obtain ⟨O, ht, hs⟩ := hI
               have hp : AllDone D [28, 13] := hp
               obtain ⟨p28_, p13_, _⟩ := hp
               obtain ⟨p26_, p27_, _, _⟩ := (show D 28 = true → AllDone D [26, 27, 13] from hcl 28 (by decide)) p28_
               have q31_ : D 31 = false := not_yet (show D 31 = true → AllDone D [29, 30, 13] from hcl 31 (by decide)) 0 29 rfl hD
               have q32_ : D 32 = false := not_yet (show D 32 = true → AllDone D [31, 13] from hcl 32 (by decide)) 0 31 rfl q31_
               simp only [hD, p26_, p27_, p28_, q31_, q32_, cnd_t, cnd_f, Asc_t, Asc_f] at ht hs
               subst ht
               refine g_op_not rfl rfl ?_
               refine g_d rfl ?_
               try dsimp only [set0,setS]
               exact hk _ _ ⟨O, (by simp only [upd, Nat.reduceBEq, Bool.true_or, Bool.false_or, p26_, p27_, p28_, q31_, q32_, cnd_t, cnd_f, Asc_t, Asc_f]), hs.cast (by simp only [upd, Nat.reduceBEq, Bool.true_or, Bool.false_or, p26_, p27_, p28_, q31_, q32_, cnd_t, cnd_f, Asc_t, Asc_f])⟩
              ·
               intro D t w hD hp hcl hI rest hk
               obtain ⟨O, ht, hs⟩ := hI
               have hp : AllDone D [13] := hp
               obtain ⟨p13_, _⟩ := hp
               have q31_ : D 31 = false := not_yet (show D 31 = true → AllDone D [29, 30, 13] from hcl 31 (by decide)) 1 30 rfl hD
               have q32_ : D 32 = false := not_yet (show D 32 = true → AllDone D [31, 13] from hcl 32 (by decide)) 0 31 rfl q31_
               simp only [hD, q31_, q32_, cnd_t, cnd_f, Asc_t, Asc_f] at ht hs
               subst ht
               refine g_op_not rfl rfl ?_
               refine g_d rfl ?_
               try dsimp only [set0,setS]
               exact hk _ _ ⟨O, (by simp only [upd, Nat.reduceBEq, Bool.true_or, Bool.false_or, q31_, q32_, cnd_t, cnd_f, Asc_t, Asc_f]), hs.cast (by simp only [upd, Nat.reduceBEq, Bool.true_or, Bool.false_or, q31_, q32_, cnd_t, cnd_f, Asc_t, Asc_f])⟩
              ·
               intro D t w hD hp hcl hI rest hk
               obtain ⟨O, ht, hs⟩ := hI
               have hp : AllDone D [29, 30, 13] := hp
               obtain ⟨p29_, p30_, p13_, _⟩ := hp
               obtain ⟨p28_, _, _⟩ := (show D 29 = true → AllDone D [28, 13] from hcl 29 (by decide)) p29_
               obtain ⟨p26_, p27_, _, _⟩ := (show D 28 = true → AllDone D [26, 27, 13] from hcl 28 (by decide)) p28_
               have q32_ : D 32 = false := not_yet (show D 32 = true → AllDone D [31, 13] from hcl 32 (by decide)) 0 31 rfl hD
               simp only [hD, p26_, p27_, p28_, p29_, p30_, q32_, cnd_t, cnd_f, Asc_t, Asc_f] at ht hs
               subst ht
               refine g_op_not rfl rfl ?_
               refine g_d rfl ?_
               try dsimp only [set0,setS]
               exact hk _ _ ⟨O, (by simp only [upd, Nat.reduceBEq, Bool.true_or, Bool.false_or, p26_, p27_, p28_, p29_, p30_, q32_, cnd_t, cnd_f, Asc_t, Asc_f]), hs.cast (by simp only [upd, Nat.reduceBEq, Bool.true_or, Bool.false_or, p26_, p27_, p28_, p29_, p30_, q32_, cnd_t, cnd_f, Asc_t, Asc_f])⟩
              ·
               intro D t w hD hp hcl hI rest hk
               obtain ⟨O, ht, hs⟩ := hI
               have hp : AllDone D [31, 13] := hp
               obtain ⟨p31_, p13_, _⟩ := hp
               obtain ⟨p29_, p30_, _, _⟩ := (show D 31 = true → AllDone D [29, 30, 13] from hcl 31 (by decide)) p31_
               obtain ⟨p28_, _, _⟩ := (show D 29 = true → AllDone D [28, 13] from hcl 29 (by decide)) p29_
               obtain ⟨p26_, p27_, _, _⟩ := (show D 28 = true → AllDone D [26, 27, 13] from hcl 28 (by decide)) p28_
               simp only [hD, p26_, p27_, p28_, p29_, p30_, p31_, cnd_t, cnd_f, Asc_t, Asc_f] at ht hs
               subst ht
               refine g_op_not rfl rfl ?_
               refine g_d rfl ?_
               try dsimp only [set0,setS]
               exact hk _ _ ⟨O, (by simp only [upd, Nat.reduceBEq, Bool.true_or, Bool.false_or, p26_, p27_, p28_, p29_, p30_, p31_, cnd_t, cnd_f, Asc_t, Asc_f]), hs.cast (by simp only [upd, Nat.reduceBEq, Bool.true_or, Bool.false_or, p26_, p27_, p28_, p29_, p30_, p31_, cnd_t, cnd_f, Asc_t, Asc_f])⟩
              ·
               intro D t w rest hall hO39_ hI
               obtain ⟨O, ht, hs⟩ := hI
               have p14_ : D 14 = true := hall 14 (by decide) rfl
               have p15_ : D 15 = true := hall 15 (by decide) rfl
               have p16_ : D 16 = true := hall 16 (by decide) rfl
               have p17_ : D 17 = true := hall 17 (by decide) rfl
               have p18_ : D 18 = true := hall 18 (by decide) rfl
               have p19_ : D 19 = true := hall 19 (by decide) rfl
               have p20_ : D 20 = true := hall 20 (by decide) rfl
               have p21_ : D 21 = true := hall 21 (by decide) rfl
               have p22_ : D 22 = true := hall 22 (by decide) rfl
               have p23_ : D 23 = true := hall 23 (by decide) rfl
               have p24_ : D 24 = true := hall 24 (by decide) rfl
               have p25_ : D 25 = true := hall 25 (by decide) rfl
               have p26_ : D 26 = true := hall 26 (by decide) rfl
               have p27_ : D 27 = true := hall 27 (by decide) rfl
               have p28_ : D 28 = true := hall 28 (by decide) rfl
               have p29_ : D 29 = true := hall 29 (by decide) rfl
               have p30_ : D 30 = true := hall 30 (by decide) rfl
               have p31_ : D 31 = true := hall 31 (by decide) rfl
               have p32_ : D 32 = true := hall 32 (by decide) rfl
               simp only [p14_, p15_, p16_, p17_, p18_, p19_, p20_, p21_, p22_, p23_, p24_, p25_, p26_, p27_, p28_, p29_, p30_, p31_, p32_, cnd_t, cnd_f, Asc_t, Asc_f] at ht hs
               subst ht
               obtain ⟨rest, rfl, hO40_⟩ := ord_one (m := 8589934591) hO39_ rfl 33 (m' := 17179869183) (by decide +kernel) rfl
               clear hO39_
               refine g_op_not rfl rfl ?_
               refine g_d rfl ?_
               try dsimp only [set0,setS]
               obtain ⟨rest, rfl, hO41_⟩ := ord_one (m := 17179869183) hO40_ rfl 34 (m' := 34359738367) (by decide +kernel) rfl
               clear hO40_
               refine g_op (v := Value.bool false) rfl rfl rfl ?_
               refine g_d rfl ?_
               try dsimp only [set0,setS]
               obtain rfl := ord_end hO41_ rfl (by decide +kernel)
               refine g_ops_nil ?_
               refine g_cond_false rfl ?_
               refine g_skip ?_
               refine g_inBlock ?_
               have hs := hs.pull 1 rfl
               have hs := hs.pull 1 rfl
               have hs : St _ [_,_] _ := St.take (Γ' := []) hs
               exact ha _ _ ⟨H, rfl, hs⟩
         ·
          intro hb
          rw [if_neg (b_dec_f hb)] at H
          refine g_d rfl ?_
          try dsimp only [set0,setS]
          refine g_ops_nil ?_
          refine g_cond_false rfl ?_
          obtain rfl := Option.some.inj H
          subst Hx2_
          have hs := hs.pull 1 rfl
          have hs := hs.pull 1 rfl
          have hs : St _ [_,_] _ := St.take (Γ' := []) hs
          refine g_exit rfl ?_
          exact ha2_ _ _ ⟨x24, v26, x27, Hr2_, rfl, hs⟩
      ·
       intro hb
       rw [if_neg (b_dec_f hb)] at H
       refine g_d rfl ?_
       try dsimp only [set0,setS]
       refine g_ops_nil ?_
       refine g_cond_false rfl ?_
       obtain rfl := Option.some.inj H
       subst Hx1_
       have hs := hs.pull 1 rfl
       have hs : St _ [_] _ := St.take (Γ' := [_]) hs
       refine g_exit rfl ?_
       exact ha1_ _ _ ⟨v20, x21, Hr1_, rfl, hs⟩

end Go.Proofs.YtekcbhgojjdcoaaX
