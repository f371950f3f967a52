/- Contracts, printed by gen.py. -/
import Derived.Test.YtioefkcldfjobaaXT
import Derived.Test.YtioefkcldfjobaaProg
import Derived.Test.YtioefkcldfjobaaXRowR
import Derived.Test.YtioefkcldfjobaaXSeg
import Derived.Test.YtioefkcldfjobaaXKey
import Derived.Test.YtioefkcldfjobaaXIter
import Derived.Test.YtioefkcldfjobaaXC1
import Derived.Test.YtioefkcldfjobaaXC2
import Derived.Test.YtioefkcldfjobaaXC3
namespace Go.Proofs.YtioefkcldfjobaaX
open Go Go.RowKit Go.Proofs
set_option linter.unusedVariables false
set_option linter.unusedSimpArgs false
/- function 27 spec_PlansFor -/
def spec_PlansFor.post (w0 : World) (r : (Int × Int)) (v : Value) (w : World) : Prop := v = Value.tuple #[Value.int .i64 r.1, Value.int .i64 r.2] ∧ St w0 [] w
set_option maxHeartbeats 8000000 in
set_option maxRecDepth 100000 in
theorem spec_PlansFor.calls {N : Nat} {a1 : (List Int)} {a3 : (Ar Int 4)} {a4 : Int} {a5 : Int} {v2 : Value} {w0 : World} {r : (Int × Int)} (hr0 : RdRow (K.int .i16) w0 v2 a1) (H : spec_PlansFor.f N a1 a3 a4 a5 = some r) :
    Calls Try.prog 27 #[v2, Value.agg ((encA (encI .i16)) a3).toArray, Value.int .i64 a4, Value.int .i64 a5] w0 fun e w => ∃ v, e = .returned v ∧ spec_PlansFor.post w0 r v w := by
  unfold spec_PlansFor.f at H
  have hs : St w0 [] w0 := St.refl w0
  refine calls_of_g (n := 133) Try.func27 rfl rfl ?_
  show G _ _ _ _ (_::_::_::_::_::_::_::_::_::_::_::_::_::_::_::_::_::_::_::_::_::_::_::_::_::_::_::_::_::_::_::_::_::_::_::_::_::_::_::_::_::_::_::_::_::_::_::_::_::_::_::_::_::_::_::_::_::_::_::_::_::_::_::_::_::_::_::_::_::_::_::_::_::_::_::_::_::_::_::_::_::_::_::_::_::_::_::_::_::_::_::_::_::_::_::_::_::_::_::_::_::_::_::_::_::_::_::_::_::_::_::_::_::_::_::_::_::_::_::_::_::_::_::_::_::_::_::_::_::_::_::_::_::_::_::_::_::[]) _
  refine g_seq ?_
  refine g_region ?_
  show G _ _ _ (.inRegion _ [0, 1, 2] :: _) _ _
  refine s_box hs rfl rfl (cs := ((encA (encI .i16)) a3)) rfl rfl ?_
  intro b6 w hs
  refine g_d rfl ?_
  try dsimp only [set0,setS]
  refine g_op (v := Value.int .i64 0) rfl rfl rfl ?_
  refine g_d rfl ?_
  try dsimp only [set0,setS]
  refine g_op (v := Value.int .i64 0) rfl rfl rfl ?_
  refine g_d rfl ?_
  try dsimp only [set0,setS]
  refine g_ops_nil ?_
  refine g_seq ?_
  refine g_region ?_
  show G _ _ _ (.inRegion _ [0, 1, 2, 3, 4] :: _) _ _
  refine g_op (v := v2) rfl rfl rfl ?_
  refine g_d rfl ?_
  refine s_loadA rfl rfl (es := ((encA (encI .i16)) a3)) rfl rfl (fun _ => rfl) (n := 4) (fun _ => rfl) ((fkA (n := 4) (he := (fkI .i16).len) (h1 := (fkI .i16).one)).len _) (cells_all (hs.cells 0 rfl)) ?_
  refine g_d rfl ?_
  try dsimp only [set0,setS]
  refine g_op (v := Value.int .i64 a4) rfl rfl rfl ?_
  refine g_d rfl ?_
  obtain ⟨r8, Hr8, H⟩ := bind_get H
  refine s_call (args := [v2, Value.agg ((encA (encI .i16)) a3).toArray, Value.int .i64 a4]) rfl rfl (x_call rfl (callFunc_enter Try.func34 rfl rfl) rfl) (spec_l07Asked.calls (a1 := a1) (a3 := a3) (a4 := a4) (hs.rd hr0) Hr8) ?_
  rintro _ w ⟨rfl, hs2⟩
  have hs : St _ [_] _ := hs.call hs2
  refine g_d rfl ?_
  try dsimp only [set0,setS]
  refine g_op (v := Value.int .i64 r8) rfl rfl rfl ?_
  refine g_d rfl ?_
  try dsimp only [set0,setS]
  refine g_ops_nil ?_
  refine g_seq ?_
  refine g_seq ?_
  refine g_join2 (J := (fun t w => ∃ x10 : Int, spec_PlansFor.j0 N a1 a4 a3 a5 x10 = some r ∧ Fr t (fun O => (v2::O 1::Value.int .i64 a4::Value.int .i64 a5::O 4::Value.pointer (some ⟨b6, 0, none⟩)::O 6::O 7::O 8::O 9::Value.int .i64 x10::O 11::O 12::O 13::O 14::O 15::O 16::O 17::O 18::O 19::O 20::O 21::O 22::O 23::O 24::O 25::O 26::O 27::O 28::O 29::O 30::O 31::O 32::O 33::O 34::O 35::O 36::O 37::O 38::O 39::O 40::O 41::O 42::O 43::O 44::O 45::O 46::O 47::O 48::O 49::O 50::O 51::O 52::O 53::O 54::O 55::O 56::O 57::O 58::O 59::O 60::O 61::O 62::O 63::O 64::O 65::O 66::O 67::O 68::O 69::O 70::O 71::O 72::O 73::O 74::O 75::O 76::O 77::O 78::O 79::O 80::O 81::O 82::O 83::O 84::O 85::O 86::O 87::O 88::O 89::O 90::O 91::O 92::O 93::O 94::O 95::O 96::O 97::O 98::O 99::O 100::O 101::O 102::O 103::O 104::O 105::O 106::O 107::O 108::O 109::O 110::O 111::O 112::O 113::O 114::O 115::O 116::O 117::O 118::O 119::O 120::O 121::O 122::O 123::O 124::O 125::O 126::O 127::O 128::O 129::O 130::O 131::O 132::O 133::O 134::O 135::O 136::[] : List Value)) ∧ St w0 [Cells b6 ((encA (encI .i16)) a3) 29] w)) ?_ ?_
  ·
   rintro t w ⟨x10, H, hf, hs⟩
   obtain ⟨O, rfl⟩ := hf.open
   try dsimp only
   unfold spec_PlansFor.j0 at H
   refine g_seq ?_
   refine g_seq ?_
   refine g_region ?_
   show G _ _ _ (.inRegion _ [0, 1] :: _) _ _
   refine g_op (v := Value.int .i64 x10) rfl rfl rfl ?_
   refine g_d rfl ?_
   refine g_op_b (B := x10 != 0) rfl rfl rfl ?_ ?_
   ·
    intro hb
    rw [if_neg (b_bne_t hb)] at H
    refine g_d rfl ?_
    try dsimp only [set0,setS]
    refine g_ops_nil ?_
    refine g_cond_true rfl ?_
    refine g_seq ?_
    refine g_region ?_
    show G _ _ _ (.inRegion _ [0, 1, 2] :: _) _ _
    refine g_op (v := Value.int .i64 x10) rfl rfl rfl ?_
    refine g_d rfl ?_
    refine g_op (v := Value.int .i64 0) rfl rfl rfl ?_
    refine g_d rfl ?_
    try dsimp only [set0,setS]
    refine g_op (v := Value.int .i64 x10) rfl rfl rfl ?_
    refine g_d rfl ?_
    try dsimp only [set0,setS]
    refine g_ops_nil ?_
    obtain rfl := Option.some.inj H
    refine g_ret Try.func27 (v := Value.tuple #[Value.int .i64 0, Value.int .i64 x10]) (resN (l := Try.f27.results.toList) (vs := [Value.int .i64 0, Value.int .i64 x10]) rfl ⟨rfl, rfl, trivial⟩ (by simp)) ?_
    have hs : St _ [] _ := St.take (Γ' := [_]) hs
    exact ⟨_, rfl, rfl, hs⟩
   ·
    intro hb
    rw [if_pos (b_bne_f hb)] at H
    refine g_d rfl ?_
    try dsimp only [set0,setS]
    refine g_ops_nil ?_
    refine g_cond_false rfl ?_
    refine g_skip ?_
    refine g_seq ?_
    refine g_region ?_
    show G _ _ _ (.inRegion _ [0, 1, 2] :: _) _ _
    refine g_op (v := v2) rfl rfl rfl ?_
    refine g_d rfl ?_
    obtain ⟨r11, Hr11, H⟩ := bind_get H
    refine s_call (args := [v2]) rfl rfl (x_call rfl (callFunc_enter Try.func48 rfl rfl) rfl) (spec_l07States.calls (a1 := a1) (hs.rd hr0) Hr11) ?_
    rintro _ w ⟨rfl, hs2⟩
    have hs : St _ [_] _ := hs.call hs2
    refine g_d rfl ?_
    try dsimp only [set0,setS]
    refine g_op (v := Value.int .i64 r11) rfl rfl rfl ?_
    refine g_d rfl ?_
    try dsimp only [set0,setS]
    refine g_ops_nil ?_
    refine g_seq ?_
    refine g_region ?_
    show G _ _ _ (.inRegion _ [0, 1, 2, 3, 4, 5] :: _) _ _
    refine g_op (v := Value.int .i64 r11) rfl rfl rfl ?_
    refine g_d rfl ?_
    refine g_op (v := Value.int .i64 a4) rfl rfl rfl ?_
    refine g_d rfl ?_
    refine g_op (v := Value.int .i64 (i64w (a4 + 1))) rfl rfl rfl ?_
    refine g_d rfl ?_
    try dsimp only [set0,setS]
    refine g_op (v := Value.int .i64 (i64w (r11 * (i64w (a4 + 1))))) rfl rfl rfl ?_
    refine g_d rfl ?_
    try dsimp only [set0,setS]
    obtain ⟨g, H⟩ := ite_get H
    refine s_make (κ := (K.int .i64)) (z := 0) (zc := ((encI .i64) 0)) (zv := (Value.int .i64 0)) (B := 8) hs rfl rfl rfl rfl rfl g.1 rfl rfl rfl rfl rfl (fun _ => ⟨rfl, rfl⟩) rfl (by decide) (by have := g.2; omega) ?_
    intro v12 w hs
    refine g_d rfl ?_
    try dsimp only [set0,setS]
    refine g_op (v := v12) rfl rfl rfl ?_
    refine g_d rfl ?_
    try dsimp only [set0,setS]
    refine g_ops_nil ?_
    refine g_seq ?_
    refine g_region ?_
    show G _ _ _ (.inRegion _ [0, 1, 2, 3, 4, 5] :: _) _ _
    refine g_op (v := v12) rfl rfl rfl ?_
    refine g_d rfl ?_
    refine g_op (v := v2) rfl rfl rfl ?_
    refine g_d rfl ?_
    refine s_loadA rfl rfl (es := ((encA (encI .i16)) a3)) rfl rfl (fun _ => rfl) (n := 4) (fun _ => rfl) ((fkA (n := 4) (he := (fkI .i16).len) (h1 := (fkI .i16).one)).len _) (cells_all (hs.cells 1 rfl)) ?_
    refine g_d rfl ?_
    try dsimp only [set0,setS]
    obtain ⟨r14, Hr14, H⟩ := bind_get H
    refine s_call (args := [v2, Value.agg ((encA (encI .i16)) a3).toArray]) rfl rfl (x_call rfl (callFunc_enter Try.func49 rfl rfl) rfl) (spec_l07Index.calls (a1 := a1) (a3 := a3) (hs.rd hr0) Hr14) ?_
    rintro _ w ⟨rfl, hs2⟩
    have hs : St _ [_,_] _ := hs.call hs2
    refine g_d rfl ?_
    try dsimp only [set0,setS]
    obtain ⟨g1, H⟩ := ite_get H
    refine s_idx (fkI .i64) 0 (hs.row 0 rfl) rfl (fun _ => rfl) g1.1 g1.2 rfl rfl rfl rfl rfl ?_
    intro p15 hp15 lp15 op15
    refine g_d rfl ?_
    try dsimp only [set0,setS]
    refine s_stRow (y := 1) (fkI .i64) g1.1 g1.2 op15 hs rfl rfl rfl rfl rfl (fun _ => rfl) ?_
    intro w hs
    refine g_n rfl ?_
    refine g_ops_nil ?_
    refine g_seq ?_
    refine g_seq ?_
    refine g_region ?_
    show G _ _ _ (.inRegion _ [0] :: _) _ _
    refine g_op (v := Value.int .i64 0) rfl rfl rfl ?_
    refine g_d rfl ?_
    try dsimp only [set0,setS]
    refine g_ops_nil ?_
    obtain ⟨o1_, Ho, Hr1_⟩ := bind_get H
    refine g_block_join (J := fun t w => ∃ v89 : Value, ∃ x90 : (List Int), spec_PlansFor.a1 N r11 a4 x90 = some r ∧ Fr t (fun O => (O 0::O 1::Value.int .i64 a4::O 3::O 4::O 5::O 6::O 7::O 8::O 9::O 10::Value.int .i64 r11::v89::O 13::O 14::O 15::O 16::O 17::O 18::O 19::O 20::O 21::O 22::O 23::O 24::O 25::O 26::O 27::O 28::O 29::O 30::O 31::O 32::O 33::O 34::O 35::O 36::O 37::O 38::O 39::O 40::O 41::O 42::O 43::O 44::O 45::O 46::O 47::O 48::O 49::O 50::O 51::O 52::O 53::O 54::O 55::O 56::O 57::O 58::O 59::O 60::O 61::O 62::O 63::O 64::O 65::O 66::O 67::O 68::O 69::O 70::O 71::O 72::O 73::O 74::O 75::O 76::O 77::O 78::O 79::O 80::O 81::O 82::O 83::O 84::O 85::O 86::O 87::O 88::O 89::O 90::O 91::O 92::O 93::O 94::O 95::O 96::O 97::O 98::O 99::O 100::O 101::O 102::O 103::O 104::O 105::O 106::O 107::O 108::O 109::O 110::O 111::O 112::O 113::O 114::O 115::O 116::O 117::O 118::O 119::O 120::O 121::O 122::O 123::O 124::O 125::O 126::O 127::O 128::O 129::O 130::O 131::O 132::O 133::O 134::O 135::O 136::[] : List Value)) ∧ St w0 [Row 2 (K.int .i64) v89 x90] w) ?_ ?_
    ·
     rintro t w ⟨v89, x90, H, hf, hs⟩
     obtain ⟨O, rfl⟩ := hf.open
     try dsimp only
     unfold spec_PlansFor.a1 at H
     refine g_seq ?_
     refine g_region ?_
     show G _ _ _ (.inRegion _ [0] :: _) _ _
     refine g_op (v := Value.int .i64 0) rfl rfl rfl ?_
     refine g_d rfl ?_
     try dsimp only [set0,setS]
     refine g_ops_nil ?_
     refine g_seq ?_
     refine g_seq ?_
     refine g_region ?_
     show G _ _ _ (.inRegion _ [0] :: _) _ _
     refine g_op (v := Value.int .i64 0) rfl rfl rfl ?_
     refine g_d rfl ?_
     try dsimp only [set0,setS]
     refine g_ops_nil ?_
     obtain ⟨o1_, Ho, Hr1_⟩ := bind_get H
     refine g_block_join (J := fun t w => ∃ x95 : Int, spec_PlansFor.a3 N x95 = some r ∧ Fr t (fun O => (O 0::O 1::O 2::O 3::O 4::O 5::O 6::O 7::O 8::O 9::O 10::O 11::O 12::O 13::O 14::O 15::O 16::O 17::O 18::O 19::Value.int .i64 x95::O 21::O 22::O 23::O 24::O 25::O 26::O 27::O 28::O 29::O 30::O 31::O 32::O 33::O 34::O 35::O 36::O 37::O 38::O 39::O 40::O 41::O 42::O 43::O 44::O 45::O 46::O 47::O 48::O 49::O 50::O 51::O 52::O 53::O 54::O 55::O 56::O 57::O 58::O 59::O 60::O 61::O 62::O 63::O 64::O 65::O 66::O 67::O 68::O 69::O 70::O 71::O 72::O 73::O 74::O 75::O 76::O 77::O 78::O 79::O 80::O 81::O 82::O 83::O 84::O 85::O 86::O 87::O 88::O 89::O 90::O 91::O 92::O 93::O 94::O 95::O 96::O 97::O 98::O 99::O 100::O 101::O 102::O 103::O 104::O 105::O 106::O 107::O 108::O 109::O 110::O 111::O 112::O 113::O 114::O 115::O 116::O 117::O 118::O 119::O 120::O 121::O 122::O 123::O 124::O 125::O 126::O 127::O 128::O 129::O 130::O 131::O 132::O 133::O 134::O 135::O 136::[] : List Value)) ∧ St w0 [] w) ?_ ?_
     ·
      rintro t w ⟨x95, H, hf, hs⟩
      obtain ⟨O, rfl⟩ := hf.open
      try dsimp only
      unfold spec_PlansFor.a3 at H
      refine g_seq ?_
      refine g_region ?_
      show G _ _ _ (.inRegion _ [0, 1, 2] :: _) _ _
      refine g_op (v := Value.int .i64 x95) rfl rfl rfl ?_
      refine g_d rfl ?_
      refine g_op (v := Value.int .i64 x95) rfl rfl rfl ?_
      refine g_d rfl ?_
      try dsimp only [set0,setS]
      refine g_op (v := Value.int .i64 0) rfl rfl rfl ?_
      refine g_d rfl ?_
      try dsimp only [set0,setS]
      refine g_ops_nil ?_
      obtain rfl := Option.some.inj H
      refine g_ret Try.func27 (v := Value.tuple #[Value.int .i64 x95, Value.int .i64 0]) (resN (l := Try.f27.results.toList) (vs := [Value.int .i64 x95, Value.int .i64 0]) rfl ⟨rfl, rfl, trivial⟩ (by simp)) ?_
      have hs : St _ [] _ := St.take (Γ' := []) hs
      exact ⟨_, rfl, rfl, hs⟩
     ·
      intro ha1_
      have hs := hs.pull 0 rfl
      have hs : St _ [_] _ := St.take (Γ' := []) hs
      refine g_loop_fuel (I := fun n_ t w => ∃ x92 : Int, ∃ x93 : Int, rounds (fun s => spec_PlansFor.b3 N r11 a4 x90 s.1 s.2) n_ (x92, x93) = some o1_ ∧ Fr t (fun O => (O 0::O 1::Value.int .i64 a4::O 3::O 4::O 5::O 6::O 7::O 8::O 9::O 10::Value.int .i64 r11::v89::O 13::O 14::O 15::O 16::O 17::O 18::O 19::Value.int .i64 x92::Value.int .i64 x93::O 22::O 23::O 24::O 25::O 26::O 27::O 28::O 29::O 30::O 31::O 32::O 33::O 34::O 35::O 36::O 37::O 38::O 39::O 40::O 41::O 42::O 43::O 44::O 45::O 46::O 47::O 48::O 49::O 50::O 51::O 52::O 53::O 54::O 55::O 56::O 57::O 58::O 59::O 60::O 61::O 62::O 63::O 64::O 65::O 66::O 67::O 68::O 69::O 70::O 71::O 72::O 73::O 74::O 75::O 76::O 77::O 78::O 79::O 80::O 81::O 82::O 83::O 84::O 85::O 86::O 87::O 88::O 89::O 90::O 91::O 92::O 93::O 94::O 95::O 96::O 97::O 98::O 99::O 100::O 101::O 102::O 103::O 104::O 105::O 106::O 107::O 108::O 109::O 110::O 111::O 112::O 113::O 114::O 115::O 116::O 117::O 118::O 119::O 120::O 121::O 122::O 123::O 124::O 125::O 126::O 127::O 128::O 129::O 130::O 131::O 132::O 133::O 134::O 135::O 136::[] : List Value)) ∧ St w0 [Row 2 (K.int .i64) v89 x90] w) N ⟨0, 0, Ho, rfl, hs⟩ ?_ ?_
      ·
       rintro _ _ ⟨x92, x93, h, _⟩
       exact rounds_zero h
      ·
       intro n_ ih1_
       rintro t w ⟨x92, x93, Ho, hf, hs⟩
       obtain ⟨O, rfl⟩ := hf.open
       try dsimp only
       obtain ⟨x42_, H, Hx1_⟩ := rounds_succ Ho
       have H : spec_PlansFor.b3 N r11 a4 x90 x92 x93 = some x42_ := H
       unfold spec_PlansFor.b3 at H
       refine g_seq ?_
       refine g_seq ?_
       refine g_region ?_
       show G _ _ _ (.inRegion _ [0, 1, 2] :: _) _ _
       refine g_op (v := Value.int .i64 x93) rfl rfl rfl ?_
       refine g_d rfl ?_
       refine g_op (v := Value.int .i64 r11) rfl rfl rfl ?_
       refine g_d rfl ?_
       refine g_op_b (B := decide (x93 < r11)) rfl rfl rfl ?_ ?_
       ·
        intro hb
        rw [if_pos (b_dec_t hb)] at H
        refine g_d rfl ?_
        try dsimp only [set0,setS]
        refine g_ops_nil ?_
        refine g_cond_true rfl ?_
        refine g_skip ?_
        refine g_seq ?_
        refine g_block ?_
        refine g_region ?_
        show G _ _ _ (.inRegion _ [0, 1, 2, 3, 4, 5, 6, 7, 8, 9, 10] :: _) _ _
        refine g_op (v := Value.int .i64 x92) rfl rfl rfl ?_
        refine g_d rfl ?_
        refine g_op (v := v89) rfl rfl rfl ?_
        refine g_d rfl ?_
        refine g_op (v := Value.int .i64 a4) rfl rfl rfl ?_
        refine g_d rfl ?_
        refine g_op (v := Value.int .i64 r11) rfl rfl rfl ?_
        refine g_d rfl ?_
        refine g_op (v := Value.int .i64 (i64w (a4 * r11))) rfl rfl rfl ?_
        refine g_d rfl ?_
        try dsimp only [set0,setS]
        refine g_op (v := Value.int .i64 x93) rfl rfl rfl ?_
        refine g_d rfl ?_
        refine g_op (v := Value.int .i64 (i64w ((i64w (a4 * r11)) + x93))) rfl rfl rfl ?_
        refine g_d rfl ?_
        try dsimp only [set0,setS]
        obtain ⟨g41, H⟩ := ite_get H
        refine s_idx (fkI .i64) 0 (hs.row 0 rfl) rfl (fun _ => rfl) g41.1 g41.2 rfl rfl rfl rfl rfl ?_
        intro p94 hp94 lp94 op94
        refine g_d rfl ?_
        try dsimp only [set0,setS]
        refine s_load1 rfl rfl (v := Value.int .i64 (rdL x90 (i64w ((i64w (a4 * r11)) + x93)) 0)) rfl rfl (fun _ => rfl) hp94 ?_
        refine g_d rfl ?_
        try dsimp only [set0,setS]
        refine g_op (v := Value.int .i64 (i64w (x92 + (rdL x90 (i64w ((i64w (a4 * r11)) + x93)) 0)))) rfl rfl rfl ?_
        refine g_d rfl ?_
        try dsimp only [set0,setS]
        refine g_op (v := Value.int .i64 (i64w (x92 + (rdL x90 (i64w ((i64w (a4 * r11)) + x93)) 0)))) rfl rfl rfl ?_
        refine g_d rfl ?_
        try dsimp only [set0,setS]
        refine g_ops_nil ?_
        refine g_inBlock ?_
        refine g_region ?_
        show G _ _ _ (.inRegion _ [0, 1, 2] :: _) _ _
        refine g_op (v := Value.int .i64 x93) rfl rfl rfl ?_
        refine g_d rfl ?_
        refine g_op (v := Value.int .i64 (i64w (x93 + 1))) rfl rfl rfl ?_
        refine g_d rfl ?_
        try dsimp only [set0,setS]
        refine g_op (v := Value.int .i64 (i64w (x93 + 1))) rfl rfl rfl ?_
        refine g_d rfl ?_
        try dsimp only [set0,setS]
        refine g_ops_nil ?_
        obtain rfl := Option.some.inj H
        have hs := hs.pull 0 rfl
        have hs : St _ [_] _ := St.take (Γ' := []) hs
        exact ih1_ _ _ ⟨i64w (x92 + (rdL x90 (i64w ((i64w (a4 * r11)) + x93)) 0)), i64w (x93 + 1), Hx1_, rfl, hs⟩
       ·
        intro hb
        rw [if_neg (b_dec_f hb)] at H
        refine g_d rfl ?_
        try dsimp only [set0,setS]
        refine g_ops_nil ?_
        refine g_cond_false rfl ?_
        obtain rfl := Option.some.inj H
        subst Hx1_
        have hs : St _ [] _ := St.take (Γ' := [_]) hs
        refine g_exit rfl ?_
        exact ha1_ _ _ ⟨x92, Hr1_, rfl, hs⟩
    ·
     intro ha1_
     have hs := hs.pull 0 rfl
     have hs : St _ [_] _ := St.take (Γ' := [_]) hs
     refine g_loop_fuel (I := fun n_ t w => ∃ v17 : Value, ∃ x18 : (List Int), ∃ x19 : Int, rounds (fun s => spec_PlansFor.b1 N a5 r11 a4 a1 s.1 s.2) n_ (x18, x19) = some o1_ ∧ Fr t (fun O => (v2::O 1::Value.int .i64 a4::Value.int .i64 a5::O 4::O 5::O 6::O 7::O 8::O 9::O 10::Value.int .i64 r11::v17::Value.int .i64 x19::O 14::O 15::O 16::O 17::O 18::O 19::O 20::O 21::O 22::O 23::O 24::O 25::O 26::O 27::O 28::O 29::O 30::O 31::O 32::O 33::O 34::O 35::O 36::O 37::O 38::O 39::O 40::O 41::O 42::O 43::O 44::O 45::O 46::O 47::O 48::O 49::O 50::O 51::O 52::O 53::O 54::O 55::O 56::O 57::O 58::O 59::O 60::O 61::O 62::O 63::O 64::O 65::O 66::O 67::O 68::O 69::O 70::O 71::O 72::O 73::O 74::O 75::O 76::O 77::O 78::O 79::O 80::O 81::O 82::O 83::O 84::O 85::O 86::O 87::O 88::O 89::O 90::O 91::O 92::O 93::O 94::O 95::O 96::O 97::O 98::O 99::O 100::O 101::O 102::O 103::O 104::O 105::O 106::O 107::O 108::O 109::O 110::O 111::O 112::O 113::O 114::O 115::O 116::O 117::O 118::O 119::O 120::O 121::O 122::O 123::O 124::O 125::O 126::O 127::O 128::O 129::O 130::O 131::O 132::O 133::O 134::O 135::O 136::[] : List Value)) ∧ St w0 [Row 2 (K.int .i64) v17 x18] w) N ⟨v12, stL (List.replicate ((i64w (r11 * (i64w (a4 + 1))))).toNat (0 : Int)) r14 1, 0, Ho, rfl, hs⟩ ?_ ?_
     ·
      rintro _ _ ⟨v17, x18, x19, h, _⟩
      exact rounds_zero h
     ·
      intro n_ ih1_
      rintro t w ⟨v17, x18, x19, Ho, hf, hs⟩
      obtain ⟨O, rfl⟩ := hf.open
      try dsimp only
      obtain ⟨x43_, H, Hx1_⟩ := rounds_succ Ho
      have H : spec_PlansFor.b1 N a5 r11 a4 a1 x18 x19 = some x43_ := H
      unfold spec_PlansFor.b1 at H
      refine g_seq ?_
      refine g_seq ?_
      refine g_region ?_
      show G _ _ _ (.inRegion _ [0, 1, 2] :: _) _ _
      refine g_op (v := Value.int .i64 x19) rfl rfl rfl ?_
      refine g_d rfl ?_
      refine g_op (v := Value.int .i64 a5) rfl rfl rfl ?_
      refine g_d rfl ?_
      refine g_op_b (B := decide (x19 < a5)) rfl rfl rfl ?_ ?_
      ·
       intro hb
       rw [if_pos (b_dec_t hb)] at H
       refine g_d rfl ?_
       try dsimp only [set0,setS]
       refine g_ops_nil ?_
       refine g_cond_true rfl ?_
       refine g_skip ?_
       refine g_seq ?_
       refine g_block ?_
       refine g_seq ?_
       refine g_region ?_
       show G _ _ _ (.inRegion _ [0, 1, 2, 3, 4, 5] :: _) _ _
       refine g_op (v := Value.int .i64 r11) rfl rfl rfl ?_
       refine g_d rfl ?_
       refine g_op (v := Value.int .i64 a4) rfl rfl rfl ?_
       refine g_d rfl ?_
       refine g_op (v := Value.int .i64 (i64w (a4 + 1))) rfl rfl rfl ?_
       refine g_d rfl ?_
       try dsimp only [set0,setS]
       refine g_op (v := Value.int .i64 (i64w (r11 * (i64w (a4 + 1))))) rfl rfl rfl ?_
       refine g_d rfl ?_
       try dsimp only [set0,setS]
       obtain ⟨g, H⟩ := ite_get H
       refine s_make (κ := (K.int .i64)) (z := 0) (zc := ((encI .i64) 0)) (zv := (Value.int .i64 0)) (B := 8) hs rfl rfl rfl rfl rfl g.1 rfl rfl rfl rfl rfl (fun _ => ⟨rfl, rfl⟩) rfl (by decide) (by have := g.2; omega) ?_
       intro v20 w hs
       refine g_d rfl ?_
       try dsimp only [set0,setS]
       refine g_op (v := v20) rfl rfl rfl ?_
       refine g_d rfl ?_
       try dsimp only [set0,setS]
       refine g_ops_nil ?_
       refine g_seq ?_
       refine g_seq ?_
       refine g_region ?_
       show G _ _ _ (.inRegion _ [0] :: _) _ _
       refine g_op (v := Value.int .i64 0) rfl rfl rfl ?_
       refine g_d rfl ?_
       try dsimp only [set0,setS]
       refine g_ops_nil ?_
       obtain ⟨o2_, Ho, Hr2_⟩ := bind_get H
       refine g_block_join (J := fun t w => ∃ x87 : (List Int), spec_PlansFor.a5 N x19 x87 = some x43_ ∧ Fr t (fun O => (v2::O 1::Value.int .i64 a4::Value.int .i64 a5::O 4::O 5::O 6::O 7::O 8::O 9::O 10::Value.int .i64 r11::O 12::Value.int .i64 x19::v20::O 15::O 16::O 17::O 18::O 19::O 20::O 21::O 22::O 23::O 24::O 25::O 26::O 27::O 28::O 29::O 30::O 31::O 32::O 33::O 34::O 35::O 36::O 37::O 38::O 39::O 40::O 41::O 42::O 43::O 44::O 45::O 46::O 47::O 48::O 49::O 50::O 51::O 52::O 53::O 54::O 55::O 56::O 57::O 58::O 59::O 60::O 61::O 62::O 63::O 64::O 65::O 66::O 67::O 68::O 69::O 70::O 71::O 72::O 73::O 74::O 75::O 76::O 77::O 78::O 79::O 80::O 81::O 82::O 83::O 84::O 85::O 86::O 87::O 88::O 89::O 90::O 91::O 92::O 93::O 94::O 95::O 96::O 97::O 98::O 99::O 100::O 101::O 102::O 103::O 104::O 105::O 106::O 107::O 108::O 109::O 110::O 111::O 112::O 113::O 114::O 115::O 116::O 117::O 118::O 119::O 120::O 121::O 122::O 123::O 124::O 125::O 126::O 127::O 128::O 129::O 130::O 131::O 132::O 133::O 134::O 135::O 136::[] : List Value)) ∧ St w0 [Row 2 (K.int .i64) v20 x87] w) ?_ ?_
       ·
        rintro t w ⟨x87, H, hf, hs⟩
        obtain ⟨O, rfl⟩ := hf.open
        try dsimp only
        unfold spec_PlansFor.a5 at H
        refine g_region ?_
        show G _ _ _ (.inRegion _ [0, 1] :: _) _ _
        refine g_op (v := v20) rfl rfl rfl ?_
        refine g_d rfl ?_
        refine g_op (v := v20) rfl rfl rfl ?_
        refine g_d rfl ?_
        try dsimp only [set0,setS]
        refine g_ops_nil ?_
        refine g_inBlock ?_
        refine g_region ?_
        show G _ _ _ (.inRegion _ [0, 1, 2] :: _) _ _
        refine g_op (v := Value.int .i64 x19) rfl rfl rfl ?_
        refine g_d rfl ?_
        refine g_op (v := Value.int .i64 (i64w (x19 + 1))) rfl rfl rfl ?_
        refine g_d rfl ?_
        try dsimp only [set0,setS]
        refine g_op (v := Value.int .i64 (i64w (x19 + 1))) rfl rfl rfl ?_
        refine g_d rfl ?_
        try dsimp only [set0,setS]
        refine g_ops_nil ?_
        obtain rfl := Option.some.inj H
        have hs := hs.pull 0 rfl
        have hs : St _ [_] _ := St.take (Γ' := []) hs
        exact ih1_ _ _ ⟨v20, x87, i64w (x19 + 1), Hx1_, rfl, hs⟩
       ·
        intro ha2_
        have hs := hs.pull 0 rfl
        have hs := hs.pull 1 rfl
        have hs : St _ [_,_] _ := St.take (Γ' := []) hs
        refine g_loop_fuel (I := fun n_ t w => ∃ x54 : (List Int), ∃ x55 : Int, rounds (fun s => spec_PlansFor.b5 N x18 r11 a1 a4 s.1 s.2) n_ (x54, x55) = some o2_ ∧ Fr t (fun O => (v2::O 1::Value.int .i64 a4::Value.int .i64 a5::O 4::O 5::O 6::O 7::O 8::O 9::O 10::Value.int .i64 r11::v17::Value.int .i64 x19::v20::Value.int .i64 x55::O 16::O 17::O 18::O 19::O 20::O 21::O 22::O 23::O 24::O 25::O 26::O 27::O 28::O 29::O 30::O 31::O 32::O 33::O 34::O 35::O 36::O 37::O 38::O 39::O 40::O 41::O 42::O 43::O 44::O 45::O 46::O 47::O 48::O 49::O 50::O 51::O 52::O 53::O 54::O 55::O 56::O 57::O 58::O 59::O 60::O 61::O 62::O 63::O 64::O 65::O 66::O 67::O 68::O 69::O 70::O 71::O 72::O 73::O 74::O 75::O 76::O 77::O 78::O 79::O 80::O 81::O 82::O 83::O 84::O 85::O 86::O 87::O 88::O 89::O 90::O 91::O 92::O 93::O 94::O 95::O 96::O 97::O 98::O 99::O 100::O 101::O 102::O 103::O 104::O 105::O 106::O 107::O 108::O 109::O 110::O 111::O 112::O 113::O 114::O 115::O 116::O 117::O 118::O 119::O 120::O 121::O 122::O 123::O 124::O 125::O 126::O 127::O 128::O 129::O 130::O 131::O 132::O 133::O 134::O 135::O 136::[] : List Value)) ∧ St w0 [Row 2 (K.int .i64) v17 x18, Row 2 (K.int .i64) v20 x54] w) N ⟨List.replicate ((i64w (r11 * (i64w (a4 + 1))))).toNat (0 : Int), 0, Ho, rfl, hs⟩ ?_ ?_
        ·
         rintro _ _ ⟨x54, x55, h, _⟩
         exact rounds_zero h
        ·
         intro n_ ih2_
         rintro t w ⟨x54, x55, Ho, hf, hs⟩
         obtain ⟨O, rfl⟩ := hf.open
         try dsimp only
         obtain ⟨x40_, H, Hx2_⟩ := rounds_succ Ho
         have H : spec_PlansFor.b5 N x18 r11 a1 a4 x54 x55 = some x40_ := H
         unfold spec_PlansFor.b5 at H
         refine g_seq ?_
         refine g_seq ?_
         refine g_region ?_
         show G _ _ _ (.inRegion _ [0, 1, 2, 3] :: _) _ _
         refine g_op (v := Value.int .i64 x55) rfl rfl rfl ?_
         refine g_d rfl ?_
         refine g_op (v := v17) rfl rfl rfl ?_
         refine g_d rfl ?_
         refine s_len (hs.row 0 rfl) rfl rfl rfl rfl rfl ?_
         refine g_d rfl ?_
         try dsimp only [set0,setS]
         refine g_op_b (B := decide (x55 < (x18.length : Int))) rfl rfl rfl ?_ ?_
         ·
          intro hb
          rw [if_pos (b_dec_t hb)] at H
          refine g_d rfl ?_
          try dsimp only [set0,setS]
          refine g_ops_nil ?_
          refine g_cond_true rfl ?_
          refine g_skip ?_
          refine g_seq ?_
          refine g_block_join (J := (fun t w => ∃ x85 : (List Int), spec_PlansFor.j7 N x55 x85 = some x40_ ∧ Fr t (fun O => (v2::O 1::Value.int .i64 a4::Value.int .i64 a5::O 4::O 5::O 6::O 7::O 8::O 9::O 10::Value.int .i64 r11::v17::Value.int .i64 x19::v20::Value.int .i64 x55::O 16::O 17::O 18::O 19::O 20::O 21::O 22::O 23::O 24::O 25::O 26::O 27::O 28::O 29::O 30::O 31::O 32::O 33::O 34::O 35::O 36::O 37::O 38::O 39::O 40::O 41::O 42::O 43::O 44::O 45::O 46::O 47::O 48::O 49::O 50::O 51::O 52::O 53::O 54::O 55::O 56::O 57::O 58::O 59::O 60::O 61::O 62::O 63::O 64::O 65::O 66::O 67::O 68::O 69::O 70::O 71::O 72::O 73::O 74::O 75::O 76::O 77::O 78::O 79::O 80::O 81::O 82::O 83::O 84::O 85::O 86::O 87::O 88::O 89::O 90::O 91::O 92::O 93::O 94::O 95::O 96::O 97::O 98::O 99::O 100::O 101::O 102::O 103::O 104::O 105::O 106::O 107::O 108::O 109::O 110::O 111::O 112::O 113::O 114::O 115::O 116::O 117::O 118::O 119::O 120::O 121::O 122::O 123::O 124::O 125::O 126::O 127::O 128::O 129::O 130::O 131::O 132::O 133::O 134::O 135::O 136::[] : List Value)) ∧ St w0 [Row 2 (K.int .i64) v17 x18, Row 2 (K.int .i64) v20 x85] w)) ?_ ?_
          ·
           rintro t w ⟨x85, H, hf, hs⟩
           obtain ⟨O, rfl⟩ := hf.open
           try dsimp only
           unfold spec_PlansFor.j7 at H
           refine g_region ?_
           show G _ _ _ (.inRegion _ [0, 1, 2] :: _) _ _
           refine g_op (v := Value.int .i64 x55) rfl rfl rfl ?_
           refine g_d rfl ?_
           refine g_op (v := Value.int .i64 (i64w (x55 + 1))) rfl rfl rfl ?_
           refine g_d rfl ?_
           try dsimp only [set0,setS]
           refine g_op (v := Value.int .i64 (i64w (x55 + 1))) rfl rfl rfl ?_
           refine g_d rfl ?_
           try dsimp only [set0,setS]
           refine g_ops_nil ?_
           obtain rfl := Option.some.inj H
           have hs := hs.pull 1 rfl
           have hs := hs.pull 1 rfl
           have hs : St _ [_,_] _ := St.take (Γ' := []) hs
           exact ih2_ _ _ ⟨x85, i64w (x55 + 1), Hx2_, rfl, hs⟩
          ·
           intro ha
           refine g_seq ?_
           refine g_seq ?_
           refine g_region ?_
           show G _ _ _ (.inRegion _ [0, 1, 2, 3, 4] :: _) _ _
           refine g_op (v := v17) rfl rfl rfl ?_
           refine g_d rfl ?_
           refine g_op (v := Value.int .i64 x55) rfl rfl rfl ?_
           refine g_d rfl ?_
           obtain ⟨g21, H⟩ := ite_get H
           refine s_idx (fkI .i64) 0 (hs.row 0 rfl) rfl (fun _ => rfl) g21.1 g21.2 rfl rfl rfl rfl rfl ?_
           intro p56 hp56 lp56 op56
           refine g_d rfl ?_
           try dsimp only [set0,setS]
           refine s_load1 rfl rfl (v := Value.int .i64 (rdL x18 x55 0)) rfl rfl (fun _ => rfl) hp56 ?_
           refine g_d rfl ?_
           try dsimp only [set0,setS]
           refine g_op_b (B := (rdL x18 x55 0) == 0) rfl rfl rfl ?_ ?_
           ·
            intro hb
            rw [if_pos (b_beq_t hb)] at H
            refine g_d rfl ?_
            try dsimp only [set0,setS]
            refine g_ops_nil ?_
            refine g_cond_true rfl ?_
            refine g_exit rfl ?_
            have hs := hs.pull 1 rfl
            have hs := hs.pull 1 rfl
            have hs : St _ [_,_] _ := St.take (Γ' := []) hs
            exact ha _ _ ⟨x54, H, rfl, hs⟩
           ·
            intro hb
            rw [if_neg (b_beq_f hb)] at H
            refine g_d rfl ?_
            try dsimp only [set0,setS]
            refine g_ops_nil ?_
            refine g_cond_false rfl ?_
            refine g_skip ?_
            refine g_seq ?_
            refine g_region ?_
            show G _ _ _ (.inRegion _ [0, 1, 2, 3, 4, 5, 6] :: _) _ _
            refine g_op (v := v2) rfl rfl rfl ?_
            refine g_d rfl ?_
            refine g_op (v := Value.int .i64 x55) rfl rfl rfl ?_
            refine g_d rfl ?_
            refine g_op (v := Value.int .i64 r11) rfl rfl rfl ?_
            refine g_d rfl ?_
            obtain ⟨g22, H⟩ := ite_get H
            refine g_op (v := Value.int .i64 (x55.tmod r11)) rfl rfl (x_divrem rfl rfl rfl g22) ?_
            refine g_d rfl ?_
            try dsimp only [set0,setS]
            obtain ⟨r57, Hr57, H⟩ := bind_get H
            refine s_call (args := [v2, Value.int .i64 (x55.tmod r11)]) rfl rfl (x_call rfl (callFunc_enter Try.func41 rfl rfl) rfl) (spec_l07At.calls (a1 := a1) (a3 := x55.tmod r11) (hs.rd hr0) Hr57) ?_
            rintro _ w ⟨rfl, hs2⟩
            have hs : St _ [_,_] _ := hs.call hs2
            refine g_d rfl ?_
            try dsimp only [set0,setS]
            refine s_alloc hs rfl rfl (z := (Value.agg #[Value.int .i16 0, Value.int .i16 0, Value.int .i16 0, Value.int .i16 0])) (cs := ((encA (encI .i16)) (Ar.rep 4 0))) rfl (fun _ => rfl) rfl ?_
            intro b58 w hs
            refine g_d rfl ?_
            try dsimp only [set0,setS]
            refine s_storeAll (n := 4) hs ((fkA (n := 4) (he := (fkI .i16).len) (h1 := (fkI .i16).one)).len _) rfl rfl (vs := ((encA (encI .i16)) r57)) rfl rfl rfl (fun _ => rfl) ((fkA (n := 4) (he := (fkI .i16).len) (h1 := (fkI .i16).one)).len _) ((fkA (n := 4) (he := (fkI .i16).len) (h1 := (fkI .i16).one)).one _) ?_
            intro w hs
            refine g_n rfl ?_
            refine g_ops_nil ?_
            refine g_seq ?_
            refine g_region ?_
            show G _ _ _ (.inRegion _ [0] :: _) _ _
            refine g_op (v := Value.int .i64 0) rfl rfl rfl ?_
            refine g_d rfl ?_
            try dsimp only [set0,setS]
            refine g_ops_nil ?_
            obtain ⟨o3_, Ho, Hr3_⟩ := bind_get H
            refine g_block_join (J := fun t w => ∃ x82 : (List Int), spec_PlansFor.a8 N x55 x82 = some x40_ ∧ Fr t (fun O => (v2::O 1::Value.int .i64 a4::Value.int .i64 a5::O 4::O 5::O 6::O 7::O 8::O 9::O 10::Value.int .i64 r11::v17::Value.int .i64 x19::v20::Value.int .i64 x55::O 16::O 17::O 18::O 19::O 20::O 21::O 22::O 23::O 24::O 25::O 26::O 27::O 28::O 29::O 30::O 31::O 32::O 33::O 34::O 35::O 36::O 37::O 38::O 39::O 40::O 41::O 42::O 43::O 44::O 45::O 46::O 47::O 48::O 49::O 50::O 51::O 52::O 53::O 54::O 55::O 56::O 57::O 58::O 59::O 60::O 61::O 62::O 63::O 64::O 65::O 66::O 67::O 68::O 69::O 70::O 71::O 72::O 73::O 74::O 75::O 76::O 77::O 78::O 79::O 80::O 81::O 82::O 83::O 84::O 85::O 86::O 87::O 88::O 89::O 90::O 91::O 92::O 93::O 94::O 95::O 96::O 97::O 98::O 99::O 100::O 101::O 102::O 103::O 104::O 105::O 106::O 107::O 108::O 109::O 110::O 111::O 112::O 113::O 114::O 115::O 116::O 117::O 118::O 119::O 120::O 121::O 122::O 123::O 124::O 125::O 126::O 127::O 128::O 129::O 130::O 131::O 132::O 133::O 134::O 135::O 136::[] : List Value)) ∧ St w0 [Row 2 (K.int .i64) v17 x18, Row 2 (K.int .i64) v20 x82] w) ?_ ?_
            ·
             rintro t w ⟨x82, H, hf, hs⟩
             obtain ⟨O, rfl⟩ := hf.open
             try dsimp only
             unfold spec_PlansFor.a8 at H
             refine g_inBlock ?_
             have hs := hs.pull 1 rfl
             have hs := hs.pull 1 rfl
             have hs : St _ [_,_] _ := St.take (Γ' := []) hs
             exact ha _ _ ⟨x82, H, rfl, hs⟩
            ·
             intro ha3_
             have hs := hs.pull 0 rfl
             have hs := hs.pull 2 rfl
             have hs := hs.pull 2 rfl
             have hs : St _ [_,_,_] _ := St.take (Γ' := []) hs
             refine g_loop_fuel (I := fun n_ t w => ∃ x70 : (List Int), ∃ x71 : Int, rounds (fun s => spec_PlansFor.b8 N a1 r57 r11 x55 a4 x18 s.1 s.2) n_ (x70, x71) = some o3_ ∧ Fr t (fun O => (v2::O 1::Value.int .i64 a4::Value.int .i64 a5::O 4::O 5::O 6::O 7::O 8::O 9::O 10::Value.int .i64 r11::v17::Value.int .i64 x19::v20::Value.int .i64 x55::Value.pointer (some ⟨b58, 0, none⟩)::Value.int .i64 x71::O 18::O 19::O 20::O 21::O 22::O 23::O 24::O 25::O 26::O 27::O 28::O 29::O 30::O 31::O 32::O 33::O 34::O 35::O 36::O 37::O 38::O 39::O 40::O 41::O 42::O 43::O 44::O 45::O 46::O 47::O 48::O 49::O 50::O 51::O 52::O 53::O 54::O 55::O 56::O 57::O 58::O 59::O 60::O 61::O 62::O 63::O 64::O 65::O 66::O 67::O 68::O 69::O 70::O 71::O 72::O 73::O 74::O 75::O 76::O 77::O 78::O 79::O 80::O 81::O 82::O 83::O 84::O 85::O 86::O 87::O 88::O 89::O 90::O 91::O 92::O 93::O 94::O 95::O 96::O 97::O 98::O 99::O 100::O 101::O 102::O 103::O 104::O 105::O 106::O 107::O 108::O 109::O 110::O 111::O 112::O 113::O 114::O 115::O 116::O 117::O 118::O 119::O 120::O 121::O 122::O 123::O 124::O 125::O 126::O 127::O 128::O 129::O 130::O 131::O 132::O 133::O 134::O 135::O 136::[] : List Value)) ∧ St w0 [Row 2 (K.int .i64) v17 x18, Row 2 (K.int .i64) v20 x70, Cells b58 ((encA (encI .i16)) r57) 29] w) N ⟨x54, 0, Ho, rfl, hs⟩ ?_ ?_
             ·
              rintro _ _ ⟨x70, x71, h, _⟩
              exact rounds_zero h
             ·
              intro n_ ih3_
              rintro t w ⟨x70, x71, Ho, hf, hs⟩
              obtain ⟨O, rfl⟩ := hf.open
              try dsimp only
              obtain ⟨x39_, H, Hx3_⟩ := rounds_succ Ho
              have H : spec_PlansFor.b8 N a1 r57 r11 x55 a4 x18 x70 x71 = some x39_ := H
              unfold spec_PlansFor.b8 at H
              refine g_seq ?_
              refine g_seq ?_
              refine g_region ?_
              show G _ _ _ (.inRegion _ [0, 1, 2, 3] :: _) _ _
              refine g_op (v := Value.int .i64 x71) rfl rfl rfl ?_
              refine g_d rfl ?_
              refine g_op (v := v2) rfl rfl rfl ?_
              refine g_d rfl ?_
              obtain ⟨r72, Hr72, H⟩ := bind_get H
              refine s_call (args := [v2]) rfl rfl (x_call rfl (callFunc_enter Try.func50 rfl rfl) rfl) (spec_l07Sets.calls (a1 := a1) (hs.rd hr0) Hr72) ?_
              rintro _ w ⟨rfl, hs2⟩
              have hs : St _ [_,_,_] _ := hs.call hs2
              refine g_d rfl ?_
              try dsimp only [set0,setS]
              refine g_op_b (B := decide (x71 < r72)) rfl rfl rfl ?_ ?_
              ·
               intro hb
               rw [if_pos (b_dec_t hb)] at H
               refine g_d rfl ?_
               try dsimp only [set0,setS]
               refine g_ops_nil ?_
               refine g_cond_true rfl ?_
               refine g_skip ?_
               refine g_seq ?_
               refine g_block_join (J := (fun t w => ∃ x79 : (List Int), spec_PlansFor.j10 N x71 x79 = some x39_ ∧ Fr t (fun O => (v2::O 1::Value.int .i64 a4::Value.int .i64 a5::O 4::O 5::O 6::O 7::O 8::O 9::O 10::Value.int .i64 r11::v17::Value.int .i64 x19::v20::Value.int .i64 x55::Value.pointer (some ⟨b58, 0, none⟩)::Value.int .i64 x71::O 18::O 19::O 20::O 21::O 22::O 23::O 24::O 25::O 26::O 27::O 28::O 29::O 30::O 31::O 32::O 33::O 34::O 35::O 36::O 37::O 38::O 39::O 40::O 41::O 42::O 43::O 44::O 45::O 46::O 47::O 48::O 49::O 50::O 51::O 52::O 53::O 54::O 55::O 56::O 57::O 58::O 59::O 60::O 61::O 62::O 63::O 64::O 65::O 66::O 67::O 68::O 69::O 70::O 71::O 72::O 73::O 74::O 75::O 76::O 77::O 78::O 79::O 80::O 81::O 82::O 83::O 84::O 85::O 86::O 87::O 88::O 89::O 90::O 91::O 92::O 93::O 94::O 95::O 96::O 97::O 98::O 99::O 100::O 101::O 102::O 103::O 104::O 105::O 106::O 107::O 108::O 109::O 110::O 111::O 112::O 113::O 114::O 115::O 116::O 117::O 118::O 119::O 120::O 121::O 122::O 123::O 124::O 125::O 126::O 127::O 128::O 129::O 130::O 131::O 132::O 133::O 134::O 135::O 136::[] : List Value)) ∧ St w0 [Row 2 (K.int .i64) v17 x18, Row 2 (K.int .i64) v20 x79, Cells b58 ((encA (encI .i16)) r57) 29] w)) ?_ ?_
               ·
                rintro t w ⟨x79, H, hf, hs⟩
                obtain ⟨O, rfl⟩ := hf.open
                try dsimp only
                unfold spec_PlansFor.j10 at H
                refine g_region ?_
                show G _ _ _ (.inRegion _ [0, 1, 2] :: _) _ _
                refine g_op (v := Value.int .i64 x71) rfl rfl rfl ?_
                refine g_d rfl ?_
                refine g_op (v := Value.int .i64 (i64w (x71 + 1))) rfl rfl rfl ?_
                refine g_d rfl ?_
                try dsimp only [set0,setS]
                refine g_op (v := Value.int .i64 (i64w (x71 + 1))) rfl rfl rfl ?_
                refine g_d rfl ?_
                try dsimp only [set0,setS]
                refine g_ops_nil ?_
                obtain rfl := Option.some.inj H
                have hs := hs.pull 2 rfl
                have hs := hs.pull 2 rfl
                have hs := hs.pull 2 rfl
                have hs : St _ [_,_,_] _ := St.take (Γ' := []) hs
                exact ih3_ _ _ ⟨x79, i64w (x71 + 1), Hx3_, rfl, hs⟩
               ·
                intro ha
                refine g_seq ?_
                refine g_region ?_
                show G _ _ _ (.inRegion _ [0, 1, 2, 3, 4, 5, 6, 7, 8, 9, 10, 11] :: _) _ _
                refine g_op (v := v2) rfl rfl rfl ?_
                refine g_d rfl ?_
                refine s_loadA rfl rfl (es := ((encA (encI .i16)) r57)) rfl rfl (fun _ => rfl) (n := 4) (fun _ => rfl) ((fkA (n := 4) (he := (fkI .i16).len) (h1 := (fkI .i16).one)).len _) (cells_all (hs.cells 2 rfl)) ?_
                refine g_d rfl ?_
                try dsimp only [set0,setS]
                refine g_op (v := Value.int .i64 x71) rfl rfl rfl ?_
                refine g_d rfl ?_
                refine g_op (v := Value.int .u8 (u8w x71)) rfl rfl rfl ?_
                refine g_d rfl ?_
                obtain ⟨r73, Hr73, H⟩ := bind_get H
                refine s_call (args := [v2, Value.agg ((encA (encI .i16)) r57).toArray, Value.int .u8 (u8w x71)]) rfl rfl (x_call rfl (callFunc_enter Try.func52 rfl rfl) rfl) (spec_l07Turn.calls (a1 := a1) (a3 := r57) (a4 := u8w x71) (hs.rd hr0) Hr73) ?_
                rintro _ w ⟨rfl, hs2⟩
                have hs : St _ [_,_,_] _ := hs.call hs2
                refine g_d rfl ?_
                try dsimp only [set0,setS]
                obtain ⟨r74, Hr74, H⟩ := bind_get H
                refine s_call (args := [Value.agg ((encA (encI .i16)) r73).toArray]) rfl rfl (x_call rfl (callFunc_enter Try.func51 rfl rfl) rfl) (spec_l07Wait.calls (a1 := r73) Hr74) ?_
                rintro _ w ⟨rfl, hs2⟩
                have hs : St _ [_,_,_] _ := hs.call hs2
                refine g_d rfl ?_
                try dsimp only [set0,setS]
                refine g_op (v := Value.tuple #[Value.agg ((encA (encI .i16)) r74.1).toArray, Value.int .i64 r74.2]) rfl rfl rfl ?_
                refine g_d rfl ?_
                refine g_op (v := Value.agg ((encA (encI .i16)) r74.1).toArray) rfl rfl rfl ?_
                refine g_d rfl ?_
                refine g_op (v := Value.int .i64 r74.2) rfl rfl rfl ?_
                refine g_d rfl ?_
                refine s_alloc hs rfl rfl (z := (Value.agg #[Value.int .i16 0, Value.int .i16 0, Value.int .i16 0, Value.int .i16 0])) (cs := ((encA (encI .i16)) (Ar.rep 4 0))) rfl (fun _ => rfl) rfl ?_
                intro b75 w hs
                refine g_d rfl ?_
                try dsimp only [set0,setS]
                refine s_storeAll (n := 4) hs ((fkA (n := 4) (he := (fkI .i16).len) (h1 := (fkI .i16).one)).len _) rfl rfl (vs := ((encA (encI .i16)) r74.1)) rfl rfl rfl (fun _ => rfl) ((fkA (n := 4) (he := (fkI .i16).len) (h1 := (fkI .i16).one)).len _) ((fkA (n := 4) (he := (fkI .i16).len) (h1 := (fkI .i16).one)).one _) ?_
                intro w hs
                refine g_n rfl ?_
                refine g_op (v := Value.int .i64 r74.2) rfl rfl rfl ?_
                refine g_d rfl ?_
                try dsimp only [set0,setS]
                refine g_ops_nil ?_
                refine g_seq ?_
                refine g_region ?_
                show G _ _ _ (.inRegion _ [0, 1, 2, 3, 4, 5, 6, 7, 8, 9, 10] :: _) _ _
                refine g_op (v := Value.int .i64 r74.2) rfl rfl rfl ?_
                refine g_d rfl ?_
                refine g_op_b (B := decide (r74.2 > 0)) rfl rfl rfl ?_ ?_
                ·
                 intro hb
                 rw [if_pos (b_dec_t hb)] at H
                 refine g_d rfl ?_
                 try dsimp only [set0,setS]
                 refine g_op (v := Value.bool true) rfl rfl rfl ?_
                 refine g_d rfl ?_
                 refine g_op (v := Value.int .i64 x55) rfl rfl rfl ?_
                 refine g_d rfl ?_
                 refine g_op (v := Value.int .i64 r11) rfl rfl rfl ?_
                 refine g_d rfl ?_
                 obtain ⟨g31, H⟩ := ite_get H
                 refine g_op (v := Value.int .i64 (i64w (x55.tdiv r11))) rfl rfl (x_divquo rfl rfl rfl g31) ?_
                 refine g_d rfl ?_
                 try dsimp only [set0,setS]
                 refine g_op (v := Value.int .i64 r74.2) rfl rfl rfl ?_
                 refine g_d rfl ?_
                 refine g_op (v := Value.int .i64 (i64w ((i64w (x55.tdiv r11)) + r74.2))) rfl rfl rfl ?_
                 refine g_d rfl ?_
                 try dsimp only [set0,setS]
                 refine g_op (v := Value.int .i64 a4) rfl rfl rfl ?_
                 refine g_d rfl ?_
                 refine g_op_b (B := decide ((i64w ((i64w (x55.tdiv r11)) + r74.2)) ≤ a4)) rfl rfl rfl ?_ ?_
                 ·
                  intro hb
                  rw [if_pos (b_dec_t hb)] at H
                  refine g_d rfl ?_
                  try dsimp only [set0,setS]
                  refine g_op (v := Value.bool true) rfl rfl rfl ?_
                  refine g_d rfl ?_
                  try dsimp only [set0,setS]
                  refine g_ops_nil ?_
                  refine g_cond_true rfl ?_
                  obtain ⟨gd32, H⟩ := ite_get H
                  obtain ⟨r77, Hr77, H⟩ := bind_get H
                  obtain ⟨gd33, H⟩ := ite_get H
                  obtain ⟨ad34_, ad34_N, ad34_C, had34_⟩ := sl_at (hs.row 2 rfl) gd33.1 gd33.2
                  obtain ⟨gd35, H⟩ := ite_get H
                  obtain ⟨ad36_, ad36_N, ad36_C, had36_⟩ := sl_at (hs.row 1 rfl) gd35.1 gd35.2
                  obtain ⟨gd37, H⟩ := ite_get H
                  obtain ⟨ad38_, ad38_N, ad38_C, had38_⟩ := sl_at (hs.row 2 rfl) gd37.1 gd37.2
                  refine g_name ?_
                  intro T hT
                  refine g_any (n := 21) rfl [0, 1, 2, 3, 4, 5, 6, 7, 8, 9, 10, 11, 12, 13, 14, 15, 16, 17, 18, 19, 20] [0, 1, 2, 3, 4, 5, 6, 7, 8, 9, 10, 11, 12, 13, 14, 15, 16, 17, 18, 19, 20] rfl rfl (Inv := fun D t w => ∃ O : Nat → Value, t = (v2::O 1::Value.int .i64 a4::Value.int .i64 a5::O 4::O 5::O 6::O 7::O 8::O 9::O 10::Value.int .i64 r11::v17::Value.int .i64 x19::v20::Value.int .i64 x55::Value.pointer (some ⟨b58, 0, none⟩)::Value.int .i64 x71::Value.pointer (some ⟨b75, 0, none⟩)::Value.int .i64 r74.2::O 20::O 21::O 22::O 23::O 24::O 25::O 26::O 27::O 28::O 29::O 30::O 31::O 32::O 33::O 34::O 35::O 36::O 37::O 38::O 39::O 40::O 41::O 42::O 43::O 44::O 45::O 46::O 47::O 48::O 49::O 50::O 51::O 52::O 53::O 54::O 55::O 56::O 57::O 58::O 59::O 60::O 61::O 62::O 63::O 64::O 65::O 66::O 67::O 68::O 69::O 70::O 71::O 72::O 73::Value.int .i64 x71::v2::Value.int .i64 r72::Value.bool true::O 78::O 79::Value.tuple #[Value.agg ((encA (encI .i16)) r74.1).toArray, Value.int .i64 r74.2]::v2::Value.agg ((encA (encI .i16)) r57).toArray::Value.int .i64 x71::Value.int .u8 (u8w x71)::Value.agg ((encA (encI .i16)) r73).toArray::Value.tuple #[Value.agg ((encA (encI .i16)) r74.1).toArray, Value.int .i64 r74.2]::Value.agg ((encA (encI .i16)) r74.1).toArray::Value.int .i64 r74.2::Value.int .i64 r74.2::Value.bool true::Value.bool true::Value.int .i64 x55::Value.int .i64 r11::Value.int .i64 (i64w (x55.tdiv r11))::Value.int .i64 r74.2::Value.int .i64 (i64w ((i64w (x55.tdiv r11)) + r74.2))::Value.int .i64 a4::Value.bool true::Value.bool true::cnd (D 0) v20 (O 100)::cnd (D 1) (Value.int .i64 x55) (O 101)::cnd (D 2) (Value.int .i64 r11) (O 102)::cnd (D 3) (Value.int .i64 (i64w (x55.tdiv r11))) (O 103)::cnd (D 4) (Value.int .i64 r74.2) (O 104)::cnd (D 5) (Value.int .i64 (i64w ((i64w (x55.tdiv r11)) + r74.2))) (O 105)::cnd (D 6) (Value.int .i64 r11) (O 106)::cnd (D 7) (Value.int .i64 (i64w ((i64w ((i64w (x55.tdiv r11)) + r74.2)) * r11))) (O 107)::cnd (D 8) v2 (O 108)::cnd (D 9) (Value.agg ((encA (encI .i16)) r74.1).toArray) (O 109)::cnd (D 10) (Value.int .i64 r77) (O 110)::cnd (D 11) (Value.int .i64 (i64w ((i64w ((i64w ((i64w (x55.tdiv r11)) + r74.2)) * r11)) + r77))) (O 111)::cnd (D 12) (Value.pointer (some (ad34_.add ((i64w ((i64w ((i64w ((i64w (x55.tdiv r11)) + r74.2)) * r11)) + r77)).toNat * 1)))) (O 112)::cnd (D 13) (Value.int .i64 (rdL x70 (i64w ((i64w ((i64w ((i64w (x55.tdiv r11)) + r74.2)) * r11)) + r77)) 0)) (O 113)::cnd (D 14) v17 (O 114)::cnd (D 15) (Value.int .i64 x55) (O 115)::cnd (D 16) (Value.pointer (some (ad36_.add (x55.toNat * 1)))) (O 116)::cnd (D 17) (Value.int .i64 (rdL x18 x55 0)) (O 117)::cnd (D 18) (Value.int .i64 (i64w ((rdL x70 (i64w ((i64w ((i64w ((i64w (x55.tdiv r11)) + r74.2)) * r11)) + r77)) 0) + (rdL x18 x55 0)))) (O 118)::cnd (D 19) (Value.pointer (some (ad38_.add ((i64w ((i64w ((i64w ((i64w (x55.tdiv r11)) + r74.2)) * r11)) + r77)).toNat * 1)))) (O 119)::O 120::O 121::O 122::O 123::O 124::O 125::O 126::O 127::O 128::O 129::O 130::O 131::O 132::O 133::O 134::O 135::O 136::[]) ∧ St w0 [Cells b75 ((encA (encI .i16)) r74.1) 29, Row 2 (K.int .i64) v17 x18, Row 2 (K.int .i64) (cnd (D 20) v20 v20) (cnd (D 20) (stL x70 (i64w ((i64w ((i64w ((i64w (x55.tdiv r11)) + r74.2)) * r11)) + r77)) (i64w ((rdL x70 (i64w ((i64w ((i64w ((i64w (x55.tdiv r11)) + r74.2)) * r11)) + r77)) 0) + (rdL x18 x55 0)))) x70), Cells b58 ((encA (encI .i16)) r57) 29] w) ?_ ⟨⟨⟨⟨⟨⟨⟨⟨⟨⟨⟨⟨⟨⟨⟨⟨⟨⟨⟨⟨⟨trivial, ?_⟩, ?_⟩, ?_⟩, ?_⟩, ?_⟩, ?_⟩, ?_⟩, ?_⟩, ?_⟩, ?_⟩, ?_⟩, ?_⟩, ?_⟩, ?_⟩, ?_⟩, ?_⟩, ?_⟩, ?_⟩, ?_⟩, ?_⟩, ?_⟩ ?_
                  ·
                   intro w hh hbw
                   have hs := hs.samew hh hbw
                   exact ⟨fun i => T.getD i undef, (by subst hT; rfl), hs⟩
                  ·
                   intro D t w hD hp hcl hI rest hk
                   obtain ⟨O, ht, hs⟩ := hI
                   have q12_ : D 12 = false := not_yet (hcl.get 12 (by decide)) 0 0 rfl hD
                   have q13_ : D 13 = false := not_yet (hcl.get 13 (by decide)) 0 12 rfl q12_
                   have q18_ : D 18 = false := not_yet (hcl.get 18 (by decide)) 0 13 rfl q13_
                   have q19_ : D 19 = false := not_yet (hcl.get 19 (by decide)) 0 0 rfl hD
                   have q20_ : D 20 = false := not_yet (hcl.get 20 (by decide)) 0 19 rfl q19_
                   simp only [hD, q12_, q13_, q18_, q19_, q20_, cnd_t, cnd_f, Asc_t, Asc_f] at ht hs
                   subst ht
                   refine g_op (v := v20) rfl rfl rfl ?_
                   refine g_d rfl ?_
                   try dsimp only [set0,setS]
                   exact hk _ _ ⟨O, (by simp only [upd, Nat.reduceBEq, Bool.true_or, Bool.false_or, q12_, q13_, q18_, q19_, q20_, cnd_t, cnd_f, Asc_t, Asc_f]), hs.cast (by first | rfl | simp only [List.take, List.drop, List.cons_append, List.nil_append, List.set_cons_zero, List.set_cons_succ, List.eraseIdx, upd, Nat.reduceBEq, Bool.true_or, Bool.false_or, q12_, q13_, q18_, q19_, q20_, cnd_t, cnd_f, Asc_t, Asc_f])⟩
                  ·
                   intro D t w hD hp hcl hI rest hk
                   obtain ⟨O, ht, hs⟩ := hI
                   have q3_ : D 3 = false := not_yet (hcl.get 3 (by decide)) 0 1 rfl hD
                   have q5_ : D 5 = false := not_yet (hcl.get 5 (by decide)) 0 3 rfl q3_
                   have q7_ : D 7 = false := not_yet (hcl.get 7 (by decide)) 0 5 rfl q5_
                   have q11_ : D 11 = false := not_yet (hcl.get 11 (by decide)) 0 7 rfl q7_
                   have q12_ : D 12 = false := not_yet (hcl.get 12 (by decide)) 1 11 rfl q11_
                   have q13_ : D 13 = false := not_yet (hcl.get 13 (by decide)) 0 12 rfl q12_
                   have q18_ : D 18 = false := not_yet (hcl.get 18 (by decide)) 0 13 rfl q13_
                   have q19_ : D 19 = false := not_yet (hcl.get 19 (by decide)) 1 11 rfl q11_
                   have q20_ : D 20 = false := not_yet (hcl.get 20 (by decide)) 0 19 rfl q19_
                   simp only [hD, q3_, q5_, q7_, q11_, q12_, q13_, q18_, q19_, q20_, cnd_t, cnd_f, Asc_t, Asc_f] at ht hs
                   subst ht
                   refine g_op (v := Value.int .i64 x55) rfl rfl rfl ?_
                   refine g_d rfl ?_
                   try dsimp only [set0,setS]
                   exact hk _ _ ⟨O, (by simp only [upd, Nat.reduceBEq, Bool.true_or, Bool.false_or, q3_, q5_, q7_, q11_, q12_, q13_, q18_, q19_, q20_, cnd_t, cnd_f, Asc_t, Asc_f]), hs.cast (by first | rfl | simp only [List.take, List.drop, List.cons_append, List.nil_append, List.set_cons_zero, List.set_cons_succ, List.eraseIdx, upd, Nat.reduceBEq, Bool.true_or, Bool.false_or, q3_, q5_, q7_, q11_, q12_, q13_, q18_, q19_, q20_, cnd_t, cnd_f, Asc_t, Asc_f])⟩
                  ·
                   intro D t w hD hp hcl hI rest hk
                   obtain ⟨O, ht, hs⟩ := hI
                   have q3_ : D 3 = false := not_yet (hcl.get 3 (by decide)) 1 2 rfl hD
                   have q5_ : D 5 = false := not_yet (hcl.get 5 (by decide)) 0 3 rfl q3_
                   have q7_ : D 7 = false := not_yet (hcl.get 7 (by decide)) 0 5 rfl q5_
                   have q11_ : D 11 = false := not_yet (hcl.get 11 (by decide)) 0 7 rfl q7_
                   have q12_ : D 12 = false := not_yet (hcl.get 12 (by decide)) 1 11 rfl q11_
                   have q13_ : D 13 = false := not_yet (hcl.get 13 (by decide)) 0 12 rfl q12_
                   have q18_ : D 18 = false := not_yet (hcl.get 18 (by decide)) 0 13 rfl q13_
                   have q19_ : D 19 = false := not_yet (hcl.get 19 (by decide)) 1 11 rfl q11_
                   have q20_ : D 20 = false := not_yet (hcl.get 20 (by decide)) 0 19 rfl q19_
                   simp only [hD, q3_, q5_, q7_, q11_, q12_, q13_, q18_, q19_, q20_, cnd_t, cnd_f, Asc_t, Asc_f] at ht hs
                   subst ht
                   refine g_op (v := Value.int .i64 r11) rfl rfl rfl ?_
                   refine g_d rfl ?_
                   try dsimp only [set0,setS]
                   exact hk _ _ ⟨O, (by simp only [upd, Nat.reduceBEq, Bool.true_or, Bool.false_or, q3_, q5_, q7_, q11_, q12_, q13_, q18_, q19_, q20_, cnd_t, cnd_f, Asc_t, Asc_f]), hs.cast (by first | rfl | simp only [List.take, List.drop, List.cons_append, List.nil_append, List.set_cons_zero, List.set_cons_succ, List.eraseIdx, upd, Nat.reduceBEq, Bool.true_or, Bool.false_or, q3_, q5_, q7_, q11_, q12_, q13_, q18_, q19_, q20_, cnd_t, cnd_f, Asc_t, Asc_f])⟩
                  ·
                   intro D t w hD hp hcl hI rest hk
                   obtain ⟨O, ht, hs⟩ := hI
                   obtain ⟨p1_, p2_, _⟩ := hp
                   have q5_ : D 5 = false := not_yet (hcl.get 5 (by decide)) 0 3 rfl hD
                   have q7_ : D 7 = false := not_yet (hcl.get 7 (by decide)) 0 5 rfl q5_
                   have q11_ : D 11 = false := not_yet (hcl.get 11 (by decide)) 0 7 rfl q7_
                   have q12_ : D 12 = false := not_yet (hcl.get 12 (by decide)) 1 11 rfl q11_
                   have q13_ : D 13 = false := not_yet (hcl.get 13 (by decide)) 0 12 rfl q12_
                   have q18_ : D 18 = false := not_yet (hcl.get 18 (by decide)) 0 13 rfl q13_
                   have q19_ : D 19 = false := not_yet (hcl.get 19 (by decide)) 1 11 rfl q11_
                   have q20_ : D 20 = false := not_yet (hcl.get 20 (by decide)) 0 19 rfl q19_
                   simp only [hD, p1_, p2_, q5_, q7_, q11_, q12_, q13_, q18_, q19_, q20_, cnd_t, cnd_f, Asc_t, Asc_f] at ht hs
                   subst ht
                   refine g_op (v := Value.int .i64 (i64w (x55.tdiv r11))) rfl rfl (x_divquo rfl rfl rfl gd32) ?_
                   refine g_d rfl ?_
                   try dsimp only [set0,setS]
                   exact hk _ _ ⟨O, (by simp only [upd, Nat.reduceBEq, Bool.true_or, Bool.false_or, p1_, p2_, q5_, q7_, q11_, q12_, q13_, q18_, q19_, q20_, cnd_t, cnd_f, Asc_t, Asc_f]), hs.cast (by first | rfl | simp only [List.take, List.drop, List.cons_append, List.nil_append, List.set_cons_zero, List.set_cons_succ, List.eraseIdx, upd, Nat.reduceBEq, Bool.true_or, Bool.false_or, p1_, p2_, q5_, q7_, q11_, q12_, q13_, q18_, q19_, q20_, cnd_t, cnd_f, Asc_t, Asc_f])⟩
                  ·
                   intro D t w hD hp hcl hI rest hk
                   obtain ⟨O, ht, hs⟩ := hI
                   have q5_ : D 5 = false := not_yet (hcl.get 5 (by decide)) 1 4 rfl hD
                   have q7_ : D 7 = false := not_yet (hcl.get 7 (by decide)) 0 5 rfl q5_
                   have q11_ : D 11 = false := not_yet (hcl.get 11 (by decide)) 0 7 rfl q7_
                   have q12_ : D 12 = false := not_yet (hcl.get 12 (by decide)) 1 11 rfl q11_
                   have q13_ : D 13 = false := not_yet (hcl.get 13 (by decide)) 0 12 rfl q12_
                   have q18_ : D 18 = false := not_yet (hcl.get 18 (by decide)) 0 13 rfl q13_
                   have q19_ : D 19 = false := not_yet (hcl.get 19 (by decide)) 1 11 rfl q11_
                   have q20_ : D 20 = false := not_yet (hcl.get 20 (by decide)) 0 19 rfl q19_
                   simp only [hD, q5_, q7_, q11_, q12_, q13_, q18_, q19_, q20_, cnd_t, cnd_f, Asc_t, Asc_f] at ht hs
                   subst ht
                   refine g_op (v := Value.int .i64 r74.2) rfl rfl rfl ?_
                   refine g_d rfl ?_
                   try dsimp only [set0,setS]
                   exact hk _ _ ⟨O, (by simp only [upd, Nat.reduceBEq, Bool.true_or, Bool.false_or, q5_, q7_, q11_, q12_, q13_, q18_, q19_, q20_, cnd_t, cnd_f, Asc_t, Asc_f]), hs.cast (by first | rfl | simp only [List.take, List.drop, List.cons_append, List.nil_append, List.set_cons_zero, List.set_cons_succ, List.eraseIdx, upd, Nat.reduceBEq, Bool.true_or, Bool.false_or, q5_, q7_, q11_, q12_, q13_, q18_, q19_, q20_, cnd_t, cnd_f, Asc_t, Asc_f])⟩
                  ·
                   intro D t w hD hp hcl hI rest hk
                   obtain ⟨O, ht, hs⟩ := hI
                   obtain ⟨p3_, p4_, _⟩ := hp
                   obtain ⟨p1_, p2_, _⟩ := (hcl.get 3 (by decide)) p3_
                   have q7_ : D 7 = false := not_yet (hcl.get 7 (by decide)) 0 5 rfl hD
                   have q11_ : D 11 = false := not_yet (hcl.get 11 (by decide)) 0 7 rfl q7_
                   have q12_ : D 12 = false := not_yet (hcl.get 12 (by decide)) 1 11 rfl q11_
                   have q13_ : D 13 = false := not_yet (hcl.get 13 (by decide)) 0 12 rfl q12_
                   have q18_ : D 18 = false := not_yet (hcl.get 18 (by decide)) 0 13 rfl q13_
                   have q19_ : D 19 = false := not_yet (hcl.get 19 (by decide)) 1 11 rfl q11_
                   have q20_ : D 20 = false := not_yet (hcl.get 20 (by decide)) 0 19 rfl q19_
                   simp only [hD, p1_, p2_, p3_, p4_, q7_, q11_, q12_, q13_, q18_, q19_, q20_, cnd_t, cnd_f, Asc_t, Asc_f] at ht hs
                   subst ht
                   refine g_op (v := Value.int .i64 (i64w ((i64w (x55.tdiv r11)) + r74.2))) rfl rfl rfl ?_
                   refine g_d rfl ?_
                   try dsimp only [set0,setS]
                   exact hk _ _ ⟨O, (by simp only [upd, Nat.reduceBEq, Bool.true_or, Bool.false_or, p1_, p2_, p3_, p4_, q7_, q11_, q12_, q13_, q18_, q19_, q20_, cnd_t, cnd_f, Asc_t, Asc_f]), hs.cast (by first | rfl | simp only [List.take, List.drop, List.cons_append, List.nil_append, List.set_cons_zero, List.set_cons_succ, List.eraseIdx, upd, Nat.reduceBEq, Bool.true_or, Bool.false_or, p1_, p2_, p3_, p4_, q7_, q11_, q12_, q13_, q18_, q19_, q20_, cnd_t, cnd_f, Asc_t, Asc_f])⟩
                  ·
                   intro D t w hD hp hcl hI rest hk
                   obtain ⟨O, ht, hs⟩ := hI
                   have q7_ : D 7 = false := not_yet (hcl.get 7 (by decide)) 1 6 rfl hD
                   have q11_ : D 11 = false := not_yet (hcl.get 11 (by decide)) 0 7 rfl q7_
                   have q12_ : D 12 = false := not_yet (hcl.get 12 (by decide)) 1 11 rfl q11_
                   have q13_ : D 13 = false := not_yet (hcl.get 13 (by decide)) 0 12 rfl q12_
                   have q18_ : D 18 = false := not_yet (hcl.get 18 (by decide)) 0 13 rfl q13_
                   have q19_ : D 19 = false := not_yet (hcl.get 19 (by decide)) 1 11 rfl q11_
                   have q20_ : D 20 = false := not_yet (hcl.get 20 (by decide)) 0 19 rfl q19_
                   simp only [hD, q7_, q11_, q12_, q13_, q18_, q19_, q20_, cnd_t, cnd_f, Asc_t, Asc_f] at ht hs
                   subst ht
                   refine g_op (v := Value.int .i64 r11) rfl rfl rfl ?_
                   refine g_d rfl ?_
                   try dsimp only [set0,setS]
                   exact hk _ _ ⟨O, (by simp only [upd, Nat.reduceBEq, Bool.true_or, Bool.false_or, q7_, q11_, q12_, q13_, q18_, q19_, q20_, cnd_t, cnd_f, Asc_t, Asc_f]), hs.cast (by first | rfl | simp only [List.take, List.drop, List.cons_append, List.nil_append, List.set_cons_zero, List.set_cons_succ, List.eraseIdx, upd, Nat.reduceBEq, Bool.true_or, Bool.false_or, q7_, q11_, q12_, q13_, q18_, q19_, q20_, cnd_t, cnd_f, Asc_t, Asc_f])⟩
                  ·
                   intro D t w hD hp hcl hI rest hk
                   obtain ⟨O, ht, hs⟩ := hI
                   obtain ⟨p5_, p6_, _⟩ := hp
                   obtain ⟨p3_, p4_, _⟩ := (hcl.get 5 (by decide)) p5_
                   obtain ⟨p1_, p2_, _⟩ := (hcl.get 3 (by decide)) p3_
                   have q11_ : D 11 = false := not_yet (hcl.get 11 (by decide)) 0 7 rfl hD
                   have q12_ : D 12 = false := not_yet (hcl.get 12 (by decide)) 1 11 rfl q11_
                   have q13_ : D 13 = false := not_yet (hcl.get 13 (by decide)) 0 12 rfl q12_
                   have q18_ : D 18 = false := not_yet (hcl.get 18 (by decide)) 0 13 rfl q13_
                   have q19_ : D 19 = false := not_yet (hcl.get 19 (by decide)) 1 11 rfl q11_
                   have q20_ : D 20 = false := not_yet (hcl.get 20 (by decide)) 0 19 rfl q19_
                   simp only [hD, p1_, p2_, p3_, p4_, p5_, p6_, q11_, q12_, q13_, q18_, q19_, q20_, cnd_t, cnd_f, Asc_t, Asc_f] at ht hs
                   subst ht
                   refine g_op (v := Value.int .i64 (i64w ((i64w ((i64w (x55.tdiv r11)) + r74.2)) * r11))) rfl rfl rfl ?_
                   refine g_d rfl ?_
                   try dsimp only [set0,setS]
                   exact hk _ _ ⟨O, (by simp only [upd, Nat.reduceBEq, Bool.true_or, Bool.false_or, p1_, p2_, p3_, p4_, p5_, p6_, q11_, q12_, q13_, q18_, q19_, q20_, cnd_t, cnd_f, Asc_t, Asc_f]), hs.cast (by first | rfl | simp only [List.take, List.drop, List.cons_append, List.nil_append, List.set_cons_zero, List.set_cons_succ, List.eraseIdx, upd, Nat.reduceBEq, Bool.true_or, Bool.false_or, p1_, p2_, p3_, p4_, p5_, p6_, q11_, q12_, q13_, q18_, q19_, q20_, cnd_t, cnd_f, Asc_t, Asc_f])⟩
                  ·
                   intro D t w hD hp hcl hI rest hk
                   obtain ⟨O, ht, hs⟩ := hI
                   have q10_ : D 10 = false := not_yet (hcl.get 10 (by decide)) 0 8 rfl hD
                   have q11_ : D 11 = false := not_yet (hcl.get 11 (by decide)) 1 10 rfl q10_
                   have q12_ : D 12 = false := not_yet (hcl.get 12 (by decide)) 1 11 rfl q11_
                   have q13_ : D 13 = false := not_yet (hcl.get 13 (by decide)) 0 12 rfl q12_
                   have q18_ : D 18 = false := not_yet (hcl.get 18 (by decide)) 0 13 rfl q13_
                   have q19_ : D 19 = false := not_yet (hcl.get 19 (by decide)) 1 11 rfl q11_
                   have q20_ : D 20 = false := not_yet (hcl.get 20 (by decide)) 0 19 rfl q19_
                   simp only [hD, q10_, q11_, q12_, q13_, q18_, q19_, q20_, cnd_t, cnd_f, Asc_t, Asc_f] at ht hs
                   subst ht
                   refine g_op (v := v2) rfl rfl rfl ?_
                   refine g_d rfl ?_
                   try dsimp only [set0,setS]
                   exact hk _ _ ⟨O, (by simp only [upd, Nat.reduceBEq, Bool.true_or, Bool.false_or, q10_, q11_, q12_, q13_, q18_, q19_, q20_, cnd_t, cnd_f, Asc_t, Asc_f]), hs.cast (by first | rfl | simp only [List.take, List.drop, List.cons_append, List.nil_append, List.set_cons_zero, List.set_cons_succ, List.eraseIdx, upd, Nat.reduceBEq, Bool.true_or, Bool.false_or, q10_, q11_, q12_, q13_, q18_, q19_, q20_, cnd_t, cnd_f, Asc_t, Asc_f])⟩
                  ·
                   intro D t w hD hp hcl hI rest hk
                   obtain ⟨O, ht, hs⟩ := hI
                   have q10_ : D 10 = false := not_yet (hcl.get 10 (by decide)) 1 9 rfl hD
                   have q11_ : D 11 = false := not_yet (hcl.get 11 (by decide)) 1 10 rfl q10_
                   have q12_ : D 12 = false := not_yet (hcl.get 12 (by decide)) 1 11 rfl q11_
                   have q13_ : D 13 = false := not_yet (hcl.get 13 (by decide)) 0 12 rfl q12_
                   have q18_ : D 18 = false := not_yet (hcl.get 18 (by decide)) 0 13 rfl q13_
                   have q19_ : D 19 = false := not_yet (hcl.get 19 (by decide)) 1 11 rfl q11_
                   have q20_ : D 20 = false := not_yet (hcl.get 20 (by decide)) 0 19 rfl q19_
                   simp only [hD, q10_, q11_, q12_, q13_, q18_, q19_, q20_, cnd_t, cnd_f, Asc_t, Asc_f] at ht hs
                   subst ht
                   refine s_loadA rfl rfl (es := ((encA (encI .i16)) r74.1)) rfl rfl (fun _ => rfl) (n := 4) (fun _ => rfl) ((fkA (n := 4) (he := (fkI .i16).len) (h1 := (fkI .i16).one)).len _) (cells_all (hs.cells 0 rfl)) ?_
                   refine g_d rfl ?_
                   try dsimp only [set0,setS]
                   exact hk _ _ ⟨O, (by simp only [upd, Nat.reduceBEq, Bool.true_or, Bool.false_or, q10_, q11_, q12_, q13_, q18_, q19_, q20_, cnd_t, cnd_f, Asc_t, Asc_f]), hs.cast (by first | rfl | simp only [List.take, List.drop, List.cons_append, List.nil_append, List.set_cons_zero, List.set_cons_succ, List.eraseIdx, upd, Nat.reduceBEq, Bool.true_or, Bool.false_or, q10_, q11_, q12_, q13_, q18_, q19_, q20_, cnd_t, cnd_f, Asc_t, Asc_f])⟩
                  ·
                   intro D t w hD hp hcl hI rest hk
                   obtain ⟨O, ht, hs⟩ := hI
                   obtain ⟨p8_, p9_, _⟩ := hp
                   have q11_ : D 11 = false := not_yet (hcl.get 11 (by decide)) 1 10 rfl hD
                   have q12_ : D 12 = false := not_yet (hcl.get 12 (by decide)) 1 11 rfl q11_
                   have q13_ : D 13 = false := not_yet (hcl.get 13 (by decide)) 0 12 rfl q12_
                   have q18_ : D 18 = false := not_yet (hcl.get 18 (by decide)) 0 13 rfl q13_
                   have q19_ : D 19 = false := not_yet (hcl.get 19 (by decide)) 1 11 rfl q11_
                   have q20_ : D 20 = false := not_yet (hcl.get 20 (by decide)) 0 19 rfl q19_
                   simp only [hD, p8_, p9_, q11_, q12_, q13_, q18_, q19_, q20_, cnd_t, cnd_f, Asc_t, Asc_f] at ht hs
                   subst ht
                   refine s_call (args := [v2, Value.agg ((encA (encI .i16)) r74.1).toArray]) rfl rfl (x_call rfl (callFunc_enter Try.func49 rfl rfl) rfl) (spec_l07Index.calls (a1 := a1) (a3 := r74.1) (hs.rd hr0) Hr77) ?_
                   rintro _ w ⟨rfl, hs2⟩
                   have hs : St _ [_,_,_,_] _ := hs.call hs2
                   refine g_d rfl ?_
                   try dsimp only [set0,setS]
                   exact hk _ _ ⟨O, (by simp only [upd, Nat.reduceBEq, Bool.true_or, Bool.false_or, p8_, p9_, q11_, q12_, q13_, q18_, q19_, q20_, cnd_t, cnd_f, Asc_t, Asc_f]), hs.cast (by first | rfl | simp only [List.take, List.drop, List.cons_append, List.nil_append, List.set_cons_zero, List.set_cons_succ, List.eraseIdx, upd, Nat.reduceBEq, Bool.true_or, Bool.false_or, p8_, p9_, q11_, q12_, q13_, q18_, q19_, q20_, cnd_t, cnd_f, Asc_t, Asc_f])⟩
                  ·
                   intro D t w hD hp hcl hI rest hk
                   obtain ⟨O, ht, hs⟩ := hI
                   obtain ⟨p7_, p10_, _⟩ := hp
                   obtain ⟨p8_, p9_, _⟩ := (hcl.get 10 (by decide)) p10_
                   obtain ⟨p5_, p6_, _⟩ := (hcl.get 7 (by decide)) p7_
                   obtain ⟨p3_, p4_, _⟩ := (hcl.get 5 (by decide)) p5_
                   obtain ⟨p1_, p2_, _⟩ := (hcl.get 3 (by decide)) p3_
                   have q12_ : D 12 = false := not_yet (hcl.get 12 (by decide)) 1 11 rfl hD
                   have q13_ : D 13 = false := not_yet (hcl.get 13 (by decide)) 0 12 rfl q12_
                   have q18_ : D 18 = false := not_yet (hcl.get 18 (by decide)) 0 13 rfl q13_
                   have q19_ : D 19 = false := not_yet (hcl.get 19 (by decide)) 1 11 rfl hD
                   have q20_ : D 20 = false := not_yet (hcl.get 20 (by decide)) 0 19 rfl q19_
                   simp only [hD, p1_, p2_, p3_, p4_, p5_, p6_, p7_, p8_, p9_, p10_, q12_, q13_, q18_, q19_, q20_, cnd_t, cnd_f, Asc_t, Asc_f] at ht hs
                   subst ht
                   refine g_op (v := Value.int .i64 (i64w ((i64w ((i64w ((i64w (x55.tdiv r11)) + r74.2)) * r11)) + r77))) rfl rfl rfl ?_
                   refine g_d rfl ?_
                   try dsimp only [set0,setS]
                   exact hk _ _ ⟨O, (by simp only [upd, Nat.reduceBEq, Bool.true_or, Bool.false_or, p1_, p2_, p3_, p4_, p5_, p6_, p7_, p8_, p9_, p10_, q12_, q13_, q18_, q19_, q20_, cnd_t, cnd_f, Asc_t, Asc_f]), hs.cast (by first | rfl | simp only [List.take, List.drop, List.cons_append, List.nil_append, List.set_cons_zero, List.set_cons_succ, List.eraseIdx, upd, Nat.reduceBEq, Bool.true_or, Bool.false_or, p1_, p2_, p3_, p4_, p5_, p6_, p7_, p8_, p9_, p10_, q12_, q13_, q18_, q19_, q20_, cnd_t, cnd_f, Asc_t, Asc_f])⟩
                  ·
                   intro D t w hD hp hcl hI rest hk
                   obtain ⟨O, ht, hs⟩ := hI
                   obtain ⟨p0_, p11_, _⟩ := hp
                   obtain ⟨p7_, p10_, _⟩ := (hcl.get 11 (by decide)) p11_
                   obtain ⟨p8_, p9_, _⟩ := (hcl.get 10 (by decide)) p10_
                   obtain ⟨p5_, p6_, _⟩ := (hcl.get 7 (by decide)) p7_
                   obtain ⟨p3_, p4_, _⟩ := (hcl.get 5 (by decide)) p5_
                   obtain ⟨p1_, p2_, _⟩ := (hcl.get 3 (by decide)) p3_
                   have q13_ : D 13 = false := not_yet (hcl.get 13 (by decide)) 0 12 rfl hD
                   have q18_ : D 18 = false := not_yet (hcl.get 18 (by decide)) 0 13 rfl q13_
                   have q19_ : D 19 = false := not_yet (hcl.get 19 (by decide)) 14 12 rfl hD
                   have q20_ : D 20 = false := not_yet (hcl.get 20 (by decide)) 0 19 rfl q19_
                   simp only [hD, p0_, p1_, p2_, p3_, p4_, p5_, p6_, p7_, p8_, p9_, p10_, p11_, q13_, q18_, q19_, q20_, cnd_t, cnd_f, Asc_t, Asc_f] at ht hs
                   subst ht
                   refine s_idxD (κ := (K.int .i64)) (m := 1) rfl (hs.row 2 rfl) rfl (fun _ => rfl) gd33.1 gd33.2 had34_ rfl rfl rfl rfl rfl ?_
                   refine g_d rfl ?_
                   try dsimp only [set0,setS]
                   exact hk _ _ ⟨O, (by simp only [upd, Nat.reduceBEq, Bool.true_or, Bool.false_or, p0_, p1_, p2_, p3_, p4_, p5_, p6_, p7_, p8_, p9_, p10_, p11_, q13_, q18_, q19_, q20_, cnd_t, cnd_f, Asc_t, Asc_f]), hs.cast (by first | rfl | simp only [List.take, List.drop, List.cons_append, List.nil_append, List.set_cons_zero, List.set_cons_succ, List.eraseIdx, upd, Nat.reduceBEq, Bool.true_or, Bool.false_or, p0_, p1_, p2_, p3_, p4_, p5_, p6_, p7_, p8_, p9_, p10_, p11_, q13_, q18_, q19_, q20_, cnd_t, cnd_f, Asc_t, Asc_f])⟩
                  ·
                   intro D t w hD hp hcl hI rest hk
                   obtain ⟨O, ht, hs⟩ := hI
                   obtain ⟨p12_, _⟩ := hp
                   obtain ⟨p0_, p11_, _⟩ := (hcl.get 12 (by decide)) p12_
                   obtain ⟨p7_, p10_, _⟩ := (hcl.get 11 (by decide)) p11_
                   obtain ⟨p8_, p9_, _⟩ := (hcl.get 10 (by decide)) p10_
                   obtain ⟨p5_, p6_, _⟩ := (hcl.get 7 (by decide)) p7_
                   obtain ⟨p3_, p4_, _⟩ := (hcl.get 5 (by decide)) p5_
                   obtain ⟨p1_, p2_, _⟩ := (hcl.get 3 (by decide)) p3_
                   have q18_ : D 18 = false := not_yet (hcl.get 18 (by decide)) 0 13 rfl hD
                   have q19_ : D 19 = false := not_yet (hcl.get 19 (by decide)) 15 13 rfl hD
                   have q20_ : D 20 = false := not_yet (hcl.get 20 (by decide)) 0 19 rfl q19_
                   simp only [hD, p0_, p1_, p2_, p3_, p4_, p5_, p6_, p7_, p8_, p9_, p10_, p11_, p12_, q18_, q19_, q20_, cnd_t, cnd_f, Asc_t, Asc_f] at ht hs
                   subst ht
                   refine s_load1 rfl rfl (v := Value.int .i64 (rdL x70 (i64w ((i64w ((i64w ((i64w (x55.tdiv r11)) + r74.2)) * r11)) + r77)) 0)) rfl rfl (fun _ => rfl) (cellsAt_of (fkI .i64) 0 (hs.row 2 rfl) had34_ gd33.1 gd33.2) ?_
                   refine g_d rfl ?_
                   try dsimp only [set0,setS]
                   exact hk _ _ ⟨O, (by simp only [upd, Nat.reduceBEq, Bool.true_or, Bool.false_or, p0_, p1_, p2_, p3_, p4_, p5_, p6_, p7_, p8_, p9_, p10_, p11_, p12_, q18_, q19_, q20_, cnd_t, cnd_f, Asc_t, Asc_f]), hs.cast (by first | rfl | simp only [List.take, List.drop, List.cons_append, List.nil_append, List.set_cons_zero, List.set_cons_succ, List.eraseIdx, upd, Nat.reduceBEq, Bool.true_or, Bool.false_or, p0_, p1_, p2_, p3_, p4_, p5_, p6_, p7_, p8_, p9_, p10_, p11_, p12_, q18_, q19_, q20_, cnd_t, cnd_f, Asc_t, Asc_f])⟩
                  ·
                   intro D t w hD hp hcl hI rest hk
                   obtain ⟨O, ht, hs⟩ := hI
                   have q16_ : D 16 = false := not_yet (hcl.get 16 (by decide)) 0 14 rfl hD
                   have q17_ : D 17 = false := not_yet (hcl.get 17 (by decide)) 0 16 rfl q16_
                   have q18_ : D 18 = false := not_yet (hcl.get 18 (by decide)) 1 17 rfl q17_
                   have q19_ : D 19 = false := not_yet (hcl.get 19 (by decide)) 16 14 rfl hD
                   have q20_ : D 20 = false := not_yet (hcl.get 20 (by decide)) 0 19 rfl q19_
                   simp only [hD, q16_, q17_, q18_, q19_, q20_, cnd_t, cnd_f, Asc_t, Asc_f] at ht hs
                   subst ht
                   refine g_op (v := v17) rfl rfl rfl ?_
                   refine g_d rfl ?_
                   try dsimp only [set0,setS]
                   exact hk _ _ ⟨O, (by simp only [upd, Nat.reduceBEq, Bool.true_or, Bool.false_or, q16_, q17_, q18_, q19_, q20_, cnd_t, cnd_f, Asc_t, Asc_f]), hs.cast (by first | rfl | simp only [List.take, List.drop, List.cons_append, List.nil_append, List.set_cons_zero, List.set_cons_succ, List.eraseIdx, upd, Nat.reduceBEq, Bool.true_or, Bool.false_or, q16_, q17_, q18_, q19_, q20_, cnd_t, cnd_f, Asc_t, Asc_f])⟩
                  ·
                   intro D t w hD hp hcl hI rest hk
                   obtain ⟨O, ht, hs⟩ := hI
                   have q16_ : D 16 = false := not_yet (hcl.get 16 (by decide)) 1 15 rfl hD
                   have q17_ : D 17 = false := not_yet (hcl.get 17 (by decide)) 0 16 rfl q16_
                   have q18_ : D 18 = false := not_yet (hcl.get 18 (by decide)) 1 17 rfl q17_
                   have q19_ : D 19 = false := not_yet (hcl.get 19 (by decide)) 17 15 rfl hD
                   have q20_ : D 20 = false := not_yet (hcl.get 20 (by decide)) 0 19 rfl q19_
                   simp only [hD, q16_, q17_, q18_, q19_, q20_, cnd_t, cnd_f, Asc_t, Asc_f] at ht hs
                   subst ht
                   refine g_op (v := Value.int .i64 x55) rfl rfl rfl ?_
                   refine g_d rfl ?_
                   try dsimp only [set0,setS]
                   exact hk _ _ ⟨O, (by simp only [upd, Nat.reduceBEq, Bool.true_or, Bool.false_or, q16_, q17_, q18_, q19_, q20_, cnd_t, cnd_f, Asc_t, Asc_f]), hs.cast (by first | rfl | simp only [List.take, List.drop, List.cons_append, List.nil_append, List.set_cons_zero, List.set_cons_succ, List.eraseIdx, upd, Nat.reduceBEq, Bool.true_or, Bool.false_or, q16_, q17_, q18_, q19_, q20_, cnd_t, cnd_f, Asc_t, Asc_f])⟩
                  ·
                   intro D t w hD hp hcl hI rest hk
                   obtain ⟨O, ht, hs⟩ := hI
                   obtain ⟨p14_, p15_, _⟩ := hp
                   have q17_ : D 17 = false := not_yet (hcl.get 17 (by decide)) 0 16 rfl hD
                   have q18_ : D 18 = false := not_yet (hcl.get 18 (by decide)) 1 17 rfl q17_
                   have q19_ : D 19 = false := not_yet (hcl.get 19 (by decide)) 18 16 rfl hD
                   have q20_ : D 20 = false := not_yet (hcl.get 20 (by decide)) 0 19 rfl q19_
                   simp only [hD, p14_, p15_, q17_, q18_, q19_, q20_, cnd_t, cnd_f, Asc_t, Asc_f] at ht hs
                   subst ht
                   refine s_idxD (κ := (K.int .i64)) (m := 1) rfl (hs.row 1 rfl) rfl (fun _ => rfl) gd35.1 gd35.2 had36_ rfl rfl rfl rfl rfl ?_
                   refine g_d rfl ?_
                   try dsimp only [set0,setS]
                   exact hk _ _ ⟨O, (by simp only [upd, Nat.reduceBEq, Bool.true_or, Bool.false_or, p14_, p15_, q17_, q18_, q19_, q20_, cnd_t, cnd_f, Asc_t, Asc_f]), hs.cast (by first | rfl | simp only [List.take, List.drop, List.cons_append, List.nil_append, List.set_cons_zero, List.set_cons_succ, List.eraseIdx, upd, Nat.reduceBEq, Bool.true_or, Bool.false_or, p14_, p15_, q17_, q18_, q19_, q20_, cnd_t, cnd_f, Asc_t, Asc_f])⟩
                  ·
                   intro D t w hD hp hcl hI rest hk
                   obtain ⟨O, ht, hs⟩ := hI
                   obtain ⟨p16_, _⟩ := hp
                   obtain ⟨p14_, p15_, _⟩ := (hcl.get 16 (by decide)) p16_
                   have q18_ : D 18 = false := not_yet (hcl.get 18 (by decide)) 1 17 rfl hD
                   have q19_ : D 19 = false := not_yet (hcl.get 19 (by decide)) 19 17 rfl hD
                   have q20_ : D 20 = false := not_yet (hcl.get 20 (by decide)) 0 19 rfl q19_
                   simp only [hD, p14_, p15_, p16_, q18_, q19_, q20_, cnd_t, cnd_f, Asc_t, Asc_f] at ht hs
                   subst ht
                   refine s_load1 rfl rfl (v := Value.int .i64 (rdL x18 x55 0)) rfl rfl (fun _ => rfl) (cellsAt_of (fkI .i64) 0 (hs.row 1 rfl) had36_ gd35.1 gd35.2) ?_
                   refine g_d rfl ?_
                   try dsimp only [set0,setS]
                   exact hk _ _ ⟨O, (by simp only [upd, Nat.reduceBEq, Bool.true_or, Bool.false_or, p14_, p15_, p16_, q18_, q19_, q20_, cnd_t, cnd_f, Asc_t, Asc_f]), hs.cast (by first | rfl | simp only [List.take, List.drop, List.cons_append, List.nil_append, List.set_cons_zero, List.set_cons_succ, List.eraseIdx, upd, Nat.reduceBEq, Bool.true_or, Bool.false_or, p14_, p15_, p16_, q18_, q19_, q20_, cnd_t, cnd_f, Asc_t, Asc_f])⟩
                  ·
                   intro D t w hD hp hcl hI rest hk
                   obtain ⟨O, ht, hs⟩ := hI
                   obtain ⟨p13_, p17_, _⟩ := hp
                   obtain ⟨p16_, _⟩ := (hcl.get 17 (by decide)) p17_
                   obtain ⟨p14_, p15_, _⟩ := (hcl.get 16 (by decide)) p16_
                   obtain ⟨p12_, _⟩ := (hcl.get 13 (by decide)) p13_
                   obtain ⟨p0_, p11_, _⟩ := (hcl.get 12 (by decide)) p12_
                   obtain ⟨p7_, p10_, _⟩ := (hcl.get 11 (by decide)) p11_
                   obtain ⟨p8_, p9_, _⟩ := (hcl.get 10 (by decide)) p10_
                   obtain ⟨p5_, p6_, _⟩ := (hcl.get 7 (by decide)) p7_
                   obtain ⟨p3_, p4_, _⟩ := (hcl.get 5 (by decide)) p5_
                   obtain ⟨p1_, p2_, _⟩ := (hcl.get 3 (by decide)) p3_
                   have q19_ : D 19 = false := not_yet (hcl.get 19 (by decide)) 20 18 rfl hD
                   have q20_ : D 20 = false := not_yet (hcl.get 20 (by decide)) 0 19 rfl q19_
                   simp only [hD, p0_, p1_, p2_, p3_, p4_, p5_, p6_, p7_, p8_, p9_, p10_, p11_, p12_, p13_, p14_, p15_, p16_, p17_, q19_, q20_, cnd_t, cnd_f, Asc_t, Asc_f] at ht hs
                   subst ht
                   refine g_op (v := Value.int .i64 (i64w ((rdL x70 (i64w ((i64w ((i64w ((i64w (x55.tdiv r11)) + r74.2)) * r11)) + r77)) 0) + (rdL x18 x55 0)))) rfl rfl rfl ?_
                   refine g_d rfl ?_
                   try dsimp only [set0,setS]
                   exact hk _ _ ⟨O, (by simp only [upd, Nat.reduceBEq, Bool.true_or, Bool.false_or, p0_, p1_, p2_, p3_, p4_, p5_, p6_, p7_, p8_, p9_, p10_, p11_, p12_, p13_, p14_, p15_, p16_, p17_, q19_, q20_, cnd_t, cnd_f, Asc_t, Asc_f]), hs.cast (by first | rfl | simp only [List.take, List.drop, List.cons_append, List.nil_append, List.set_cons_zero, List.set_cons_succ, List.eraseIdx, upd, Nat.reduceBEq, Bool.true_or, Bool.false_or, p0_, p1_, p2_, p3_, p4_, p5_, p6_, p7_, p8_, p9_, p10_, p11_, p12_, p13_, p14_, p15_, p16_, p17_, q19_, q20_, cnd_t, cnd_f, Asc_t, Asc_f])⟩
                  ·
                   intro D t w hD hp hcl hI rest hk
                   obtain ⟨O, ht, hs⟩ := hI
                   obtain ⟨p0_, p11_, _, p1_, p2_, p3_, p4_, p5_, p6_, p7_, p8_, p9_, p10_, _, p12_, p13_, p14_, p15_, p16_, p17_, p18_, _⟩ := hp
                   have q20_ : D 20 = false := not_yet (hcl.get 20 (by decide)) 0 19 rfl hD
                   simp only [hD, p0_, p1_, p2_, p3_, p4_, p5_, p6_, p7_, p8_, p9_, p10_, p11_, p12_, p13_, p14_, p15_, p16_, p17_, p18_, q20_, cnd_t, cnd_f, Asc_t, Asc_f] at ht hs
                   subst ht
                   refine s_idxD (κ := (K.int .i64)) (m := 1) rfl (hs.row 2 rfl) rfl (fun _ => rfl) gd37.1 gd37.2 had38_ rfl rfl rfl rfl rfl ?_
                   refine g_d rfl ?_
                   try dsimp only [set0,setS]
                   exact hk _ _ ⟨O, (by simp only [upd, Nat.reduceBEq, Bool.true_or, Bool.false_or, p0_, p1_, p2_, p3_, p4_, p5_, p6_, p7_, p8_, p9_, p10_, p11_, p12_, p13_, p14_, p15_, p16_, p17_, p18_, q20_, cnd_t, cnd_f, Asc_t, Asc_f]), hs.cast (by first | rfl | simp only [List.take, List.drop, List.cons_append, List.nil_append, List.set_cons_zero, List.set_cons_succ, List.eraseIdx, upd, Nat.reduceBEq, Bool.true_or, Bool.false_or, p0_, p1_, p2_, p3_, p4_, p5_, p6_, p7_, p8_, p9_, p10_, p11_, p12_, p13_, p14_, p15_, p16_, p17_, p18_, q20_, cnd_t, cnd_f, Asc_t, Asc_f])⟩
                  ·
                   intro D t w hD hp hcl hI rest hk
                   obtain ⟨O, ht, hs⟩ := hI
                   obtain ⟨p19_, p18_, p10_, p0_, p1_, p2_, p3_, p4_, p5_, p6_, p7_, p8_, p9_, _, p11_, p12_, p13_, p14_, p15_, p16_, p17_, _, _⟩ := hp
                   simp only [hD, p0_, p1_, p2_, p3_, p4_, p5_, p6_, p7_, p8_, p9_, p10_, p11_, p12_, p13_, p14_, p15_, p16_, p17_, p18_, p19_, cnd_t, cnd_f, Asc_t, Asc_f] at ht hs
                   subst ht
                   have hs := hs.pull 2 rfl
                   have hs : St _ [_,_,_,_] _ := hs
                   refine s_stRow (y := i64w ((rdL x70 (i64w ((i64w ((i64w ((i64w (x55.tdiv r11)) + r74.2)) * r11)) + r77)) 0) + (rdL x18 x55 0))) (fkI .i64) gd37.1 gd37.2 (hown_of had38_) hs rfl rfl rfl rfl rfl (fun _ => rfl) ?_
                   intro w hs
                   refine g_n rfl ?_
                   try dsimp only [set0,setS]
                   have hs := hs.push 2 (by simp)
                   exact hk _ _ ⟨O, (by simp only [upd, Nat.reduceBEq, Bool.true_or, Bool.false_or, p0_, p1_, p2_, p3_, p4_, p5_, p6_, p7_, p8_, p9_, p10_, p11_, p12_, p13_, p14_, p15_, p16_, p17_, p18_, p19_, cnd_t, cnd_f, Asc_t, Asc_f]), hs.cast (by first | rfl | simp only [List.take, List.drop, List.cons_append, List.nil_append, List.set_cons_zero, List.set_cons_succ, List.eraseIdx, upd, Nat.reduceBEq, Bool.true_or, Bool.false_or, p0_, p1_, p2_, p3_, p4_, p5_, p6_, p7_, p8_, p9_, p10_, p11_, p12_, p13_, p14_, p15_, p16_, p17_, p18_, p19_, cnd_t, cnd_f, Asc_t, Asc_f])⟩
                  ·
                   intro D t w hall hI
                   obtain ⟨O, ht, hs⟩ := hI
                   have p0_ : D 0 = true := hall 0 (by decide)
                   have p1_ : D 1 = true := hall 1 (by decide)
                   have p2_ : D 2 = true := hall 2 (by decide)
                   have p3_ : D 3 = true := hall 3 (by decide)
                   have p4_ : D 4 = true := hall 4 (by decide)
                   have p5_ : D 5 = true := hall 5 (by decide)
                   have p6_ : D 6 = true := hall 6 (by decide)
                   have p7_ : D 7 = true := hall 7 (by decide)
                   have p8_ : D 8 = true := hall 8 (by decide)
                   have p9_ : D 9 = true := hall 9 (by decide)
                   have p10_ : D 10 = true := hall 10 (by decide)
                   have p11_ : D 11 = true := hall 11 (by decide)
                   have p12_ : D 12 = true := hall 12 (by decide)
                   have p13_ : D 13 = true := hall 13 (by decide)
                   have p14_ : D 14 = true := hall 14 (by decide)
                   have p15_ : D 15 = true := hall 15 (by decide)
                   have p16_ : D 16 = true := hall 16 (by decide)
                   have p17_ : D 17 = true := hall 17 (by decide)
                   have p18_ : D 18 = true := hall 18 (by decide)
                   have p19_ : D 19 = true := hall 19 (by decide)
                   have p20_ : D 20 = true := hall 20 (by decide)
                   simp only [p0_, p1_, p2_, p3_, p4_, p5_, p6_, p7_, p8_, p9_, p10_, p11_, p12_, p13_, p14_, p15_, p16_, p17_, p18_, p19_, p20_, cnd_t, cnd_f, Asc_t, Asc_f] at ht hs
                   subst ht
                   refine g_inBlock ?_
                   have hs := hs.pull 3 rfl
                   have hs := hs.pull 3 rfl
                   have hs := hs.pull 3 rfl
                   have hs : St _ [_,_,_] _ := St.take (Γ' := [_]) hs
                   exact ha _ _ ⟨stL x70 (i64w ((i64w ((i64w ((i64w (x55.tdiv r11)) + r74.2)) * r11)) + r77)) (i64w ((rdL x70 (i64w ((i64w ((i64w ((i64w (x55.tdiv r11)) + r74.2)) * r11)) + r77)) 0) + (rdL x18 x55 0))), H, rfl, hs⟩
                 ·
                  intro hb
                  rw [if_neg (b_dec_f hb)] at H
                  refine g_d rfl ?_
                  try dsimp only [set0,setS]
                  refine g_op (v := Value.bool false) rfl rfl rfl ?_
                  refine g_d rfl ?_
                  try dsimp only [set0,setS]
                  refine g_ops_nil ?_
                  refine g_cond_false rfl ?_
                  refine g_skip ?_
                  refine g_inBlock ?_
                  have hs := hs.pull 3 rfl
                  have hs := hs.pull 3 rfl
                  have hs := hs.pull 3 rfl
                  have hs : St _ [_,_,_] _ := St.take (Γ' := [_]) hs
                  exact ha _ _ ⟨x70, H, rfl, hs⟩
                ·
                 intro hb
                 rw [if_neg (b_dec_f hb)] at H
                 refine g_d rfl ?_
                 try dsimp only [set0,setS]
                 refine g_op (v := Value.bool false) rfl rfl rfl ?_
                 refine g_d rfl ?_
                 refine g_op_not rfl rfl ?_
                 refine g_d rfl ?_
                 refine g_op_not rfl rfl ?_
                 refine g_d rfl ?_
                 refine g_op_not rfl rfl ?_
                 refine g_d rfl ?_
                 try dsimp only [set0,setS]
                 refine g_op_not rfl rfl ?_
                 refine g_d rfl ?_
                 refine g_op_not rfl rfl ?_
                 refine g_d rfl ?_
                 try dsimp only [set0,setS]
                 refine g_op_not rfl rfl ?_
                 refine g_d rfl ?_
                 refine g_op_not rfl rfl ?_
                 refine g_d rfl ?_
                 try dsimp only [set0,setS]
                 refine g_op (v := Value.bool false) rfl rfl rfl ?_
                 refine g_d rfl ?_
                 try dsimp only [set0,setS]
                 refine g_ops_nil ?_
                 refine g_cond_false rfl ?_
                 refine g_skip ?_
                 refine g_inBlock ?_
                 have hs := hs.pull 3 rfl
                 have hs := hs.pull 3 rfl
                 have hs := hs.pull 3 rfl
                 have hs : St _ [_,_,_] _ := St.take (Γ' := [_]) hs
                 exact ha _ _ ⟨x70, H, rfl, hs⟩
              ·
               intro hb
               rw [if_neg (b_dec_f hb)] at H
               refine g_d rfl ?_
               try dsimp only [set0,setS]
               refine g_ops_nil ?_
               refine g_cond_false rfl ?_
               obtain rfl := Option.some.inj H
               subst Hx3_
               have hs := hs.pull 1 rfl
               have hs := hs.pull 1 rfl
               have hs : St _ [_,_] _ := St.take (Γ' := [_]) hs
               refine g_exit rfl ?_
               exact ha3_ _ _ ⟨x70, Hr3_, rfl, hs⟩
         ·
          intro hb
          rw [if_neg (b_dec_f hb)] at H
          refine g_d rfl ?_
          try dsimp only [set0,setS]
          refine g_ops_nil ?_
          refine g_cond_false rfl ?_
          obtain rfl := Option.some.inj H
          subst Hx2_
          have hs := hs.pull 1 rfl
          have hs : St _ [_] _ := St.take (Γ' := [_]) hs
          refine g_exit rfl ?_
          exact ha2_ _ _ ⟨x54, Hr2_, rfl, hs⟩
      ·
       intro hb
       rw [if_neg (b_dec_f hb)] at H
       refine g_d rfl ?_
       try dsimp only [set0,setS]
       refine g_ops_nil ?_
       refine g_cond_false rfl ?_
       obtain rfl := Option.some.inj H
       subst Hx1_
       have hs := hs.pull 0 rfl
       have hs : St _ [_] _ := St.take (Γ' := []) hs
       refine g_exit rfl ?_
       exact ha1_ _ _ ⟨v17, x18, Hr1_, rfl, hs⟩
  ·
   intro ha
   refine g_region ?_
   show G _ _ _ (.inRegion _ [0, 1, 2, 3, 4, 5, 6] :: _) _ _
   refine g_op (v := Value.int .i64 r8) rfl rfl rfl ?_
   refine g_d rfl ?_
   refine g_op_b (B := r8 == 0) rfl rfl rfl ?_ ?_
   ·
    intro hb
    rw [if_pos (b_beq_t hb)] at H
    refine g_d rfl ?_
    try dsimp only [set0,setS]
    refine g_op (v := Value.bool true) rfl rfl rfl ?_
    refine g_d rfl ?_
    refine g_op (v := Value.int .i64 a5) rfl rfl rfl ?_
    refine g_d rfl ?_
    obtain ⟨r9, Hr9, H⟩ := bind_get H
    refine s_call (args := [Value.int .i64 a5, Value.int .i64 0, Value.int .i64 12]) rfl rfl (x_call rfl (callFunc_enter Try.func47 rfl rfl) rfl) (spec_l00In.calls (a1 := a5) (a2 := 0) (a3 := 12) Hr9) ?_
    rintro _ w ⟨rfl, hs2⟩
    have hs : St _ [_] _ := hs.call hs2
    cases r9 with
    | true =>
      rw [if_pos rfl] at H
      refine g_d rfl ?_
      try dsimp only [set0,setS]
      refine g_op (v := Value.bool false) rfl rfl rfl ?_
      refine g_d rfl ?_
      try dsimp only [set0,setS]
      refine g_op (v := Value.bool false) rfl rfl rfl ?_
      refine g_d rfl ?_
      try dsimp only [set0,setS]
      refine g_ops_nil ?_
      refine g_cond_false rfl ?_
      refine g_skip ?_
      have hs := hs.pull 0 rfl
      have hs : St _ [_] _ := St.take (Γ' := []) hs
      exact ha _ _ ⟨r8, H, rfl, hs⟩
    | false =>
      rw [if_neg Bool.false_ne_true] at H
      refine g_d rfl ?_
      try dsimp only [set0,setS]
      refine g_op (v := Value.bool true) rfl rfl rfl ?_
      refine g_d rfl ?_
      try dsimp only [set0,setS]
      refine g_op (v := Value.bool true) rfl rfl rfl ?_
      refine g_d rfl ?_
      try dsimp only [set0,setS]
      refine g_ops_nil ?_
      refine g_cond_true rfl ?_
      refine g_region ?_
      show G _ _ _ (.inRegion _ [0] :: _) _ _
      refine g_op (v := Value.int .i64 2) rfl rfl rfl ?_
      refine g_d rfl ?_
      try dsimp only [set0,setS]
      refine g_ops_nil ?_
      have hs := hs.pull 0 rfl
      have hs : St _ [_] _ := St.take (Γ' := []) hs
      exact ha _ _ ⟨2, H, rfl, hs⟩
   ·
    intro hb
    rw [if_neg (b_beq_f hb)] at H
    refine g_d rfl ?_
    try dsimp only [set0,setS]
    refine g_op (v := Value.bool false) rfl rfl rfl ?_
    refine g_d rfl ?_
    refine g_op_not rfl rfl ?_
    refine g_d rfl ?_
    refine g_op_not rfl rfl ?_
    refine g_d rfl ?_
    try dsimp only [set0,setS]
    refine g_op_not rfl rfl ?_
    refine g_d rfl ?_
    try dsimp only [set0,setS]
    refine g_op (v := Value.bool false) rfl rfl rfl ?_
    refine g_d rfl ?_
    try dsimp only [set0,setS]
    refine g_ops_nil ?_
    refine g_cond_false rfl ?_
    refine g_skip ?_
    have hs := hs.pull 0 rfl
    have hs : St _ [_] _ := St.take (Γ' := []) hs
    exact ha _ _ ⟨r8, H, rfl, hs⟩

end Go.Proofs.YtioefkcldfjobaaX
