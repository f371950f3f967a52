/- Contracts, printed by gen.py. -/
import Derived.Test.YtekcbhgojjdcoaaXT
import Derived.Test.YtekcbhgojjdcoaaProg
import Derived.Test.YtekcbhgojjdcoaaXRowR
import Derived.Test.YtekcbhgojjdcoaaXSeg
import Derived.Test.YtekcbhgojjdcoaaXKey
import Derived.Test.YtekcbhgojjdcoaaXIter
import Derived.Test.YtekcbhgojjdcoaaXRow2
import Derived.Test.YtekcbhgojjdcoaaXDel
import Derived.Test.YtekcbhgojjdcoaaXShelf
import Derived.Test.YtekcbhgojjdcoaaXC0
import Derived.Test.YtekcbhgojjdcoaaXC1
namespace Go.Proofs.YtekcbhgojjdcoaaX
open Go Go.RowKit Go.Proofs
set_option linter.unusedVariables false
set_option linter.unusedSimpArgs false
/- function 24 spec_l01Fewest -/
def spec_l01Fewest.post (w0 : World) (r : (List (List Int))) (v : Value) (w : World) : Prop := ∃ u1 : Value, ∃ ms2 : (List HS), v = u1 ∧ St w0 [Rows2 38 kHS (RowO 2 (K.int .i64)) u1 ms2 r] w
set_option maxHeartbeats 8000000 in
set_option maxRecDepth 100000 in
theorem spec_l01Fewest.calls {N : Nat} {a1 : (List Int)} {a3 : Bool} {v2 : Value} {w0 : World} {r : (List (List Int))} (hr0 : RdRow (K.int .i16) w0 v2 a1) (H : spec_l01Fewest.f N a1 a3 = some r) :
    Calls Try.prog 24 #[v2, Value.bool a3] w0 fun e w => ∃ v, e = .returned v ∧ spec_l01Fewest.post w0 r v w := by
  unfold spec_l01Fewest.f at H
  have hs : St w0 [] w0 := St.refl w0
  refine calls_of_g (n := 126) Try.func24 rfl rfl ?_
  show G _ _ _ _ (_::_::_::_::_::_::_::_::_::_::_::_::_::_::_::_::_::_::_::_::_::_::_::_::_::_::_::_::_::_::_::_::_::_::_::_::_::_::_::_::_::_::_::_::_::_::_::_::_::_::_::_::_::_::_::_::_::_::_::_::_::_::_::_::_::_::_::_::_::_::_::_::_::_::_::_::_::_::_::_::_::_::_::_::_::_::_::_::_::_::_::_::_::_::_::_::_::_::_::_::_::_::_::_::_::_::_::_::_::_::_::_::_::_::_::_::_::_::_::_::_::_::_::_::_::_::_::_::[]) _
  refine g_seq ?_
  refine g_region ?_
  show G _ _ _ (.inRegion _ [0] :: _) _ _
  refine g_op (v := Value.slice none 0 0) rfl rfl rfl ?_
  refine g_d rfl ?_
  try dsimp only [set0,setS]
  refine g_ops_nil ?_
  refine g_seq ?_
  refine g_region ?_
  show G _ _ _ (.inRegion _ [0] :: _) _ _
  refine g_op (v := Value.int .i64 4001) rfl rfl rfl ?_
  refine g_d rfl ?_
  try dsimp only [set0,setS]
  refine g_ops_nil ?_
  refine g_seq ?_
  refine g_region ?_
  show G _ _ _ (.inRegion _ [0, 1, 2, 3, 4] :: _) _ _
  refine g_op (v := v2) rfl rfl rfl ?_
  refine g_d rfl ?_
  refine s_len (hs.rd hr0) rfl rfl rfl rfl rfl ?_
  refine g_d rfl ?_
  try dsimp only [set0,setS]
  refine g_op (v := Value.int .i64 (i64w ((a1.length : Int) + 1))) rfl rfl rfl ?_
  refine g_d rfl ?_
  try dsimp only [set0,setS]
  obtain ⟨g, H⟩ := ite_get H
  refine s_make (κ := kHS) (z := zHS) (zc := (encHS zHS)) (zv := (Value.slice none 0 0)) (B := 24) hs rfl rfl rfl rfl rfl g.1 rfl rfl rfl rfl rfl (fun _ => ⟨rfl, rfl⟩) rfl (by decide) (by have := g.2; omega) ?_
  intro v4 w hs
  have hs := hs.r2make (I := (RowO 2 (K.int .i64))) (y := ([] : (List Int))) rowO0
  have hs : St _ [_] _ := hs
  refine g_d rfl ?_
  try dsimp only [set0,setS]
  refine g_op (v := v4) rfl rfl rfl ?_
  refine g_d rfl ?_
  try dsimp only [set0,setS]
  refine g_ops_nil ?_
  refine g_seq ?_
  refine g_seq ?_
  refine g_region ?_
  show G _ _ _ (.inRegion _ [0] :: _) _ _
  refine g_op (v := Value.int .i64 0) rfl rfl rfl ?_
  refine g_d rfl ?_
  try dsimp only [set0,setS]
  refine g_ops_nil ?_
  obtain ⟨o1_, Ho, Hr1_⟩ := bind_get H
  refine g_block_join (J := fun t w => ∃ ms34 : (List HS), ∃ x35 : (List (List Int)), spec_l01Fewest.a0 N a1 a3 x35 = some r ∧ Fr t (fun O => (v2::Value.bool a3::O 2::O 3::O 4::Value.int .i64 4001::v4::O 7::O 8::O 9::O 10::O 11::O 12::O 13::O 14::O 15::O 16::O 17::O 18::O 19::O 20::O 21::O 22::O 23::O 24::O 25::O 26::O 27::O 28::O 29::O 30::O 31::O 32::O 33::O 34::O 35::O 36::O 37::O 38::O 39::O 40::O 41::O 42::O 43::O 44::O 45::O 46::O 47::O 48::O 49::O 50::O 51::O 52::O 53::O 54::O 55::O 56::O 57::O 58::O 59::O 60::O 61::O 62::O 63::O 64::O 65::O 66::O 67::O 68::O 69::O 70::O 71::O 72::O 73::O 74::O 75::O 76::O 77::O 78::O 79::O 80::O 81::O 82::O 83::O 84::O 85::O 86::O 87::O 88::O 89::O 90::O 91::O 92::O 93::O 94::O 95::O 96::O 97::O 98::O 99::O 100::O 101::O 102::O 103::O 104::O 105::O 106::O 107::O 108::O 109::O 110::O 111::O 112::O 113::O 114::O 115::O 116::O 117::O 118::O 119::O 120::O 121::O 122::O 123::O 124::O 125::O 126::O 127::[] : List Value)) ∧ St w0 [Rows2 38 kHS (RowO 2 (K.int .i64)) v4 ms34 x35] w) ?_ ?_
  ·
   rintro t w ⟨ms34, x35, H, hf, hs⟩
   obtain ⟨O, rfl⟩ := hf.open
   try dsimp only
   unfold spec_l01Fewest.a0 at H
   refine g_seq ?_
   refine g_region ?_
   show G _ _ _ (.inRegion _ [0, 1, 2, 3, 4, 5, 6] :: _) _ _
   refine g_op (v := v4) rfl rfl rfl ?_
   refine g_d rfl ?_
   refine g_op (v := v2) rfl rfl rfl ?_
   refine g_d rfl ?_
   refine s_len (hs.rd hr0) rfl rfl rfl rfl rfl ?_
   refine g_d rfl ?_
   try dsimp only [set0,setS]
   obtain ⟨g13, H⟩ := ite_get H
   refine s_idx fkHS zHS (hs.r2row 0 rfl) rfl (fun _ => rfl) g13.1 (hs.r2lt 0 rfl g13.2) rfl rfl rfl rfl rfl ?_
   intro p36 hp36 lp36 op36
   refine g_d rfl ?_
   try dsimp only [set0,setS]
   refine s_load1 rfl rfl (v := Value.slice (rdL ms34 (a1.length : Int) zHS).a (rdL ms34 (a1.length : Int) zHS).n (rdL ms34 (a1.length : Int) zHS).c) rfl rfl (fun _ => rfl) hp36 ?_
   refine g_d rfl ?_
   try dsimp only [set0,setS]
   obtain ⟨g14, H⟩ := ite_get H
   refine s_idx (fkI .i64) 0 (hs.r2rd 0 rfl g13.1 g13.2) rfl (fun _ => rfl) g14.1 g14.2 rfl rfl rfl rfl rfl ?_
   intro p37 hp37 lp37 op37
   refine g_d rfl ?_
   try dsimp only [set0,setS]
   refine s_r2st (y := 0) (fkI .i64) g13.1 g13.2 g14.1 g14.2 op37 hs rfl rfl rfl rfl rfl (fun _ => rfl) ?_
   intro w hs
   refine g_n rfl ?_
   refine g_ops_nil ?_
   refine g_seq ?_
   refine g_seq ?_
   refine g_region ?_
   show G _ _ _ (.inRegion _ [0, 1, 2, 3] :: _) _ _
   refine g_op (v := v2) rfl rfl rfl ?_
   refine g_d rfl ?_
   refine s_len (hs.rd hr0) rfl rfl rfl rfl rfl ?_
   refine g_d rfl ?_
   try dsimp only [set0,setS]
   refine g_op (v := Value.int .i64 (i64w ((a1.length : Int) - 1))) rfl rfl rfl ?_
   refine g_d rfl ?_
   try dsimp only [set0,setS]
   refine g_op (v := Value.int .i64 (i64w ((a1.length : Int) - 1))) rfl rfl rfl ?_
   refine g_d rfl ?_
   try dsimp only [set0,setS]
   refine g_ops_nil ?_
   obtain ⟨o1_, Ho, Hr1_⟩ := bind_get H
   refine g_block_join (J := fun t w => ∃ x189 : (List (List Int)), spec_l01Fewest.a2 N x189 = some r ∧ Fr t (fun O => (O 0::O 1::O 2::O 3::O 4::O 5::v4::O 7::O 8::O 9::O 10::O 11::O 12::O 13::O 14::O 15::O 16::O 17::O 18::O 19::O 20::O 21::O 22::O 23::O 24::O 25::O 26::O 27::O 28::O 29::O 30::O 31::O 32::O 33::O 34::O 35::O 36::O 37::O 38::O 39::O 40::O 41::O 42::O 43::O 44::O 45::O 46::O 47::O 48::O 49::O 50::O 51::O 52::O 53::O 54::O 55::O 56::O 57::O 58::O 59::O 60::O 61::O 62::O 63::O 64::O 65::O 66::O 67::O 68::O 69::O 70::O 71::O 72::O 73::O 74::O 75::O 76::O 77::O 78::O 79::O 80::O 81::O 82::O 83::O 84::O 85::O 86::O 87::O 88::O 89::O 90::O 91::O 92::O 93::O 94::O 95::O 96::O 97::O 98::O 99::O 100::O 101::O 102::O 103::O 104::O 105::O 106::O 107::O 108::O 109::O 110::O 111::O 112::O 113::O 114::O 115::O 116::O 117::O 118::O 119::O 120::O 121::O 122::O 123::O 124::O 125::O 126::O 127::[] : List Value)) ∧ St w0 [Rows2 38 kHS (RowO 2 (K.int .i64)) v4 ms34 x189] w) ?_ ?_
   ·
    rintro t w ⟨x189, H, hf, hs⟩
    obtain ⟨O, rfl⟩ := hf.open
    try dsimp only
    unfold spec_l01Fewest.a2 at H
    refine g_seq ?_
    refine g_region ?_
    show G _ _ _ (.inRegion _ [0, 1] :: _) _ _
    refine g_op (v := v4) rfl rfl rfl ?_
    refine g_d rfl ?_
    refine g_op (v := v4) rfl rfl rfl ?_
    refine g_d rfl ?_
    try dsimp only [set0,setS]
    refine g_ops_nil ?_
    obtain rfl := Option.some.inj H
    refine g_ret Try.func24 (v := v4) (res1 rfl rfl) ?_
    have hs := hs.pull 0 rfl
    have hs : St _ [_] _ := St.take (Γ' := []) hs
    exact ⟨_, rfl, v4, ms34, rfl, hs⟩
   ·
    intro ha1_
    have hs := hs.pull 0 rfl
    have hs : St _ [_] _ := St.take (Γ' := []) hs
    refine g_loop_fuel (I := fun n_ t w => ∃ x113 : (List (List Int)), ∃ x114 : Int, rounds (fun s => spec_l01Fewest.b2 N a3 a1 s.1 s.2) n_ (x113, x114) = some o1_ ∧ Fr t (fun O => (v2::Value.bool a3::O 2::O 3::O 4::Value.int .i64 4001::v4::O 7::O 8::Value.int .i64 x114::O 10::O 11::O 12::O 13::O 14::O 15::O 16::O 17::O 18::O 19::O 20::O 21::O 22::O 23::O 24::O 25::O 26::O 27::O 28::O 29::O 30::O 31::O 32::O 33::O 34::O 35::O 36::O 37::O 38::O 39::O 40::O 41::O 42::O 43::O 44::O 45::O 46::O 47::O 48::O 49::O 50::O 51::O 52::O 53::O 54::O 55::O 56::O 57::O 58::O 59::O 60::O 61::O 62::O 63::O 64::O 65::O 66::O 67::O 68::O 69::O 70::O 71::O 72::O 73::O 74::O 75::O 76::O 77::O 78::O 79::O 80::O 81::O 82::O 83::O 84::O 85::O 86::O 87::O 88::O 89::O 90::O 91::O 92::O 93::O 94::O 95::O 96::O 97::O 98::O 99::O 100::O 101::O 102::O 103::O 104::O 105::O 106::O 107::O 108::O 109::O 110::O 111::O 112::O 113::O 114::O 115::O 116::O 117::O 118::O 119::O 120::O 121::O 122::O 123::O 124::O 125::O 126::O 127::[] : List Value)) ∧ St w0 [Rows2 38 kHS (RowO 2 (K.int .i64)) v4 ms34 x113] w) N ⟨stL x35 (a1.length : Int) (stL (rdL x35 (a1.length : Int) []) 2000 0), i64w ((a1.length : Int) - 1), Ho, rfl, hs⟩ ?_ ?_
    ·
     rintro _ _ ⟨x113, x114, h, _⟩
     exact rounds_zero h
    ·
     intro n_ ih1_
     rintro t w ⟨x113, x114, Ho, hf, hs⟩
     obtain ⟨O, rfl⟩ := hf.open
     try dsimp only
     obtain ⟨x125_, H, Hx1_⟩ := rounds_succ Ho
     have H : spec_l01Fewest.b2 N a3 a1 x113 x114 = some x125_ := H
     unfold spec_l01Fewest.b2 at H
     refine g_seq ?_
     refine g_seq ?_
     refine g_region ?_
     show G _ _ _ (.inRegion _ [0, 1] :: _) _ _
     refine g_op (v := Value.int .i64 x114) rfl rfl rfl ?_
     refine g_d rfl ?_
     refine g_op_b (B := decide (x114 ≥ 0)) rfl rfl rfl ?_ ?_
     ·
      intro hb
      rw [if_pos (b_dec_t hb)] at H
      refine g_d rfl ?_
      try dsimp only [set0,setS]
      refine g_ops_nil ?_
      refine g_cond_true rfl ?_
      refine g_skip ?_
      refine g_seq ?_
      refine g_block ?_
      refine g_seq ?_
      refine g_region ?_
      show G _ _ _ (.inRegion _ [0] :: _) _ _
      refine g_op (v := Value.int .i64 0) rfl rfl rfl ?_
      refine g_d rfl ?_
      try dsimp only [set0,setS]
      refine g_ops_nil ?_
      obtain ⟨o2_, Ho, Hr2_⟩ := bind_get H
      refine g_block_join (J := fun t w => ∃ x188 : (List (List Int)), spec_l01Fewest.a4 N x114 x188 = some x125_ ∧ Fr t (fun O => (v2::Value.bool a3::O 2::O 3::O 4::Value.int .i64 4001::v4::O 7::O 8::Value.int .i64 x114::O 10::O 11::O 12::O 13::O 14::O 15::O 16::O 17::O 18::O 19::O 20::O 21::O 22::O 23::O 24::O 25::O 26::O 27::O 28::O 29::O 30::O 31::O 32::O 33::O 34::O 35::O 36::O 37::O 38::O 39::O 40::O 41::O 42::O 43::O 44::O 45::O 46::O 47::O 48::O 49::O 50::O 51::O 52::O 53::O 54::O 55::O 56::O 57::O 58::O 59::O 60::O 61::O 62::O 63::O 64::O 65::O 66::O 67::O 68::O 69::O 70::O 71::O 72::O 73::O 74::O 75::O 76::O 77::O 78::O 79::O 80::O 81::O 82::O 83::O 84::O 85::O 86::O 87::O 88::O 89::O 90::O 91::O 92::O 93::O 94::O 95::O 96::O 97::O 98::O 99::O 100::O 101::O 102::O 103::O 104::O 105::O 106::O 107::O 108::O 109::O 110::O 111::O 112::O 113::O 114::O 115::O 116::O 117::O 118::O 119::O 120::O 121::O 122::O 123::O 124::O 125::O 126::O 127::[] : List Value)) ∧ St w0 [Rows2 38 kHS (RowO 2 (K.int .i64)) v4 ms34 x188] w) ?_ ?_
      ·
       rintro t w ⟨x188, H, hf, hs⟩
       obtain ⟨O, rfl⟩ := hf.open
       try dsimp only
       unfold spec_l01Fewest.a4 at H
       refine g_inBlock ?_
       refine g_region ?_
       show G _ _ _ (.inRegion _ [0, 1, 2] :: _) _ _
       refine g_op (v := Value.int .i64 x114) rfl rfl rfl ?_
       refine g_d rfl ?_
       refine g_op (v := Value.int .i64 (i64w (x114 - 1))) rfl rfl rfl ?_
       refine g_d rfl ?_
       try dsimp only [set0,setS]
       refine g_op (v := Value.int .i64 (i64w (x114 - 1))) rfl rfl rfl ?_
       refine g_d rfl ?_
       try dsimp only [set0,setS]
       refine g_ops_nil ?_
       obtain rfl := Option.some.inj H
       have hs := hs.pull 0 rfl
       have hs : St _ [_] _ := St.take (Γ' := []) hs
       exact ih1_ _ _ ⟨x188, i64w (x114 - 1), Hx1_, rfl, hs⟩
      ·
       intro ha2_
       have hs := hs.pull 0 rfl
       have hs : St _ [_] _ := St.take (Γ' := []) hs
       refine g_loop_fuel (I := fun n_ t w => ∃ x151 : (List (List Int)), ∃ x152 : Int, rounds (fun s => spec_l01Fewest.b4 N a3 x114 a1 s.1 s.2) n_ (x151, x152) = some o2_ ∧ Fr t (fun O => (v2::Value.bool a3::O 2::O 3::O 4::Value.int .i64 4001::v4::O 7::O 8::Value.int .i64 x114::Value.int .i64 x152::O 11::O 12::O 13::O 14::O 15::O 16::O 17::O 18::O 19::O 20::O 21::O 22::O 23::O 24::O 25::O 26::O 27::O 28::O 29::O 30::O 31::O 32::O 33::O 34::O 35::O 36::O 37::O 38::O 39::O 40::O 41::O 42::O 43::O 44::O 45::O 46::O 47::O 48::O 49::O 50::O 51::O 52::O 53::O 54::O 55::O 56::O 57::O 58::O 59::O 60::O 61::O 62::O 63::O 64::O 65::O 66::O 67::O 68::O 69::O 70::O 71::O 72::O 73::O 74::O 75::O 76::O 77::O 78::O 79::O 80::O 81::O 82::O 83::O 84::O 85::O 86::O 87::O 88::O 89::O 90::O 91::O 92::O 93::O 94::O 95::O 96::O 97::O 98::O 99::O 100::O 101::O 102::O 103::O 104::O 105::O 106::O 107::O 108::O 109::O 110::O 111::O 112::O 113::O 114::O 115::O 116::O 117::O 118::O 119::O 120::O 121::O 122::O 123::O 124::O 125::O 126::O 127::[] : List Value)) ∧ St w0 [Rows2 38 kHS (RowO 2 (K.int .i64)) v4 ms34 x151] w) N ⟨x113, 0, Ho, rfl, hs⟩ ?_ ?_
       ·
        rintro _ _ ⟨x151, x152, h, _⟩
        exact rounds_zero h
       ·
        intro n_ ih2_
        rintro t w ⟨x151, x152, Ho, hf, hs⟩
        obtain ⟨O, rfl⟩ := hf.open
        try dsimp only
        obtain ⟨x124_, H, Hx2_⟩ := rounds_succ Ho
        have H : spec_l01Fewest.b4 N a3 x114 a1 x151 x152 = some x124_ := H
        unfold spec_l01Fewest.b4 at H
        refine g_seq ?_
        refine g_seq ?_
        refine g_region ?_
        show G _ _ _ (.inRegion _ [0, 1, 2] :: _) _ _
        refine g_op (v := Value.int .i64 x152) rfl rfl rfl ?_
        refine g_d rfl ?_
        refine g_op (v := Value.int .i64 4001) rfl rfl rfl ?_
        refine g_d rfl ?_
        refine g_op_b (B := decide (x152 < 4001)) rfl rfl rfl ?_ ?_
        ·
         intro hb
         rw [if_pos (b_dec_t hb)] at H
         refine g_d rfl ?_
         try dsimp only [set0,setS]
         refine g_ops_nil ?_
         refine g_cond_true rfl ?_
         refine g_skip ?_
         refine g_seq ?_
         refine g_block ?_
         refine g_seq ?_
         refine g_region ?_
         show G _ _ _ (.inRegion _ [0, 1, 2] :: _) _ _
         refine g_op (v := Value.bool a3) rfl rfl rfl ?_
         refine g_d rfl ?_
         obtain ⟨r153, Hr153, H⟩ := bind_get H
         refine s_call (args := [Value.bool a3]) rfl rfl (x_call rfl (callFunc_enter Try.func25 rfl rfl) rfl) (spec_l01Least.calls (a1 := a3) Hr153) ?_
         rintro _ w ⟨rfl, hs2⟩
         have hs : St _ [_] _ := hs.call hs2
         refine g_d rfl ?_
         try dsimp only [set0,setS]
         refine g_op (v := Value.int .i64 r153) rfl rfl rfl ?_
         refine g_d rfl ?_
         try dsimp only [set0,setS]
         refine g_ops_nil ?_
         obtain ⟨o3_, Ho, Hr3_⟩ := bind_get H
         refine g_block_join (J := fun t w => ∃ x187 : (List (List Int)), spec_l01Fewest.a6 N x152 x187 = some x124_ ∧ Fr t (fun O => (v2::Value.bool a3::O 2::O 3::O 4::Value.int .i64 4001::v4::O 7::O 8::Value.int .i64 x114::Value.int .i64 x152::O 11::O 12::O 13::O 14::O 15::O 16::O 17::O 18::O 19::O 20::O 21::O 22::O 23::O 24::O 25::O 26::O 27::O 28::O 29::O 30::O 31::O 32::O 33::O 34::O 35::O 36::O 37::O 38::O 39::O 40::O 41::O 42::O 43::O 44::O 45::O 46::O 47::O 48::O 49::O 50::O 51::O 52::O 53::O 54::O 55::O 56::O 57::O 58::O 59::O 60::O 61::O 62::O 63::O 64::O 65::O 66::O 67::O 68::O 69::O 70::O 71::O 72::O 73::O 74::O 75::O 76::O 77::O 78::O 79::O 80::O 81::O 82::O 83::O 84::O 85::O 86::O 87::O 88::O 89::O 90::O 91::O 92::O 93::O 94::O 95::O 96::O 97::O 98::O 99::O 100::O 101::O 102::O 103::O 104::O 105::O 106::O 107::O 108::O 109::O 110::O 111::O 112::O 113::O 114::O 115::O 116::O 117::O 118::O 119::O 120::O 121::O 122::O 123::O 124::O 125::O 126::O 127::[] : List Value)) ∧ St w0 [Rows2 38 kHS (RowO 2 (K.int .i64)) v4 ms34 x187] w) ?_ ?_
         ·
          rintro t w ⟨x187, H, hf, hs⟩
          obtain ⟨O, rfl⟩ := hf.open
          try dsimp only
          unfold spec_l01Fewest.a6 at H
          refine g_inBlock ?_
          refine g_region ?_
          show G _ _ _ (.inRegion _ [0, 1, 2] :: _) _ _
          refine g_op (v := Value.int .i64 x152) rfl rfl rfl ?_
          refine g_d rfl ?_
          refine g_op (v := Value.int .i64 (i64w (x152 + 1))) rfl rfl rfl ?_
          refine g_d rfl ?_
          try dsimp only [set0,setS]
          refine g_op (v := Value.int .i64 (i64w (x152 + 1))) rfl rfl rfl ?_
          refine g_d rfl ?_
          try dsimp only [set0,setS]
          refine g_ops_nil ?_
          obtain rfl := Option.some.inj H
          have hs := hs.pull 0 rfl
          have hs : St _ [_] _ := St.take (Γ' := []) hs
          exact ih2_ _ _ ⟨x187, i64w (x152 + 1), Hx2_, rfl, hs⟩
         ·
          intro ha3_
          have hs := hs.pull 0 rfl
          have hs : St _ [_] _ := St.take (Γ' := []) hs
          refine g_loop_fuel (I := fun n_ t w => ∃ x170 : (List (List Int)), ∃ x171 : Int, rounds (fun s => spec_l01Fewest.b6 N x114 a1 x152 s.1 s.2) n_ (x170, x171) = some o3_ ∧ Fr t (fun O => (v2::Value.bool a3::O 2::O 3::O 4::Value.int .i64 4001::v4::O 7::O 8::Value.int .i64 x114::Value.int .i64 x152::Value.int .i64 x171::O 12::O 13::O 14::O 15::O 16::O 17::O 18::O 19::O 20::O 21::O 22::O 23::O 24::O 25::O 26::O 27::O 28::O 29::O 30::O 31::O 32::O 33::O 34::O 35::O 36::O 37::O 38::O 39::O 40::O 41::O 42::O 43::O 44::O 45::O 46::O 47::O 48::O 49::O 50::O 51::O 52::O 53::O 54::O 55::O 56::O 57::O 58::O 59::O 60::O 61::O 62::O 63::O 64::O 65::O 66::O 67::O 68::O 69::O 70::O 71::O 72::O 73::O 74::O 75::O 76::O 77::O 78::O 79::O 80::O 81::O 82::O 83::O 84::O 85::O 86::O 87::O 88::O 89::O 90::O 91::O 92::O 93::O 94::O 95::O 96::O 97::O 98::O 99::O 100::O 101::O 102::O 103::O 104::O 105::O 106::O 107::O 108::O 109::O 110::O 111::O 112::O 113::O 114::O 115::O 116::O 117::O 118::O 119::O 120::O 121::O 122::O 123::O 124::O 125::O 126::O 127::[] : List Value)) ∧ St w0 [Rows2 38 kHS (RowO 2 (K.int .i64)) v4 ms34 x170] w) N ⟨x151, r153, Ho, rfl, hs⟩ ?_ ?_
          ·
           rintro _ _ ⟨x170, x171, h, _⟩
           exact rounds_zero h
          ·
           intro n_ ih3_
           rintro t w ⟨x170, x171, Ho, hf, hs⟩
           obtain ⟨O, rfl⟩ := hf.open
           try dsimp only
           obtain ⟨x123_, H, Hx3_⟩ := rounds_succ Ho
           have H : spec_l01Fewest.b6 N x114 a1 x152 x170 x171 = some x123_ := H
           unfold spec_l01Fewest.b6 at H
           refine g_seq ?_
           refine g_seq ?_
           refine g_region ?_
           show G _ _ _ (.inRegion _ [0, 1] :: _) _ _
           refine g_op (v := Value.int .i64 x171) rfl rfl rfl ?_
           refine g_d rfl ?_
           refine g_op_b (B := decide (x171 ≤ 1)) rfl rfl rfl ?_ ?_
           ·
            intro hb
            rw [if_pos (b_dec_t hb)] at H
            refine g_d rfl ?_
            try dsimp only [set0,setS]
            refine g_ops_nil ?_
            refine g_cond_true rfl ?_
            refine g_skip ?_
            refine g_seq ?_
            refine g_block_join (J := (fun t w => ∃ x186 : (List (List Int)), spec_l01Fewest.j8 N x171 x186 = some x123_ ∧ Fr t (fun O => (v2::Value.bool a3::O 2::O 3::O 4::Value.int .i64 4001::v4::O 7::O 8::Value.int .i64 x114::Value.int .i64 x152::Value.int .i64 x171::O 12::O 13::O 14::O 15::O 16::O 17::O 18::O 19::O 20::O 21::O 22::O 23::O 24::O 25::O 26::O 27::O 28::O 29::O 30::O 31::O 32::O 33::O 34::O 35::O 36::O 37::O 38::O 39::O 40::O 41::O 42::O 43::O 44::O 45::O 46::O 47::O 48::O 49::O 50::O 51::O 52::O 53::O 54::O 55::O 56::O 57::O 58::O 59::O 60::O 61::O 62::O 63::O 64::O 65::O 66::O 67::O 68::O 69::O 70::O 71::O 72::O 73::O 74::O 75::O 76::O 77::O 78::O 79::O 80::O 81::O 82::O 83::O 84::O 85::O 86::O 87::O 88::O 89::O 90::O 91::O 92::O 93::O 94::O 95::O 96::O 97::O 98::O 99::O 100::O 101::O 102::O 103::O 104::O 105::O 106::O 107::O 108::O 109::O 110::O 111::O 112::O 113::O 114::O 115::O 116::O 117::O 118::O 119::O 120::O 121::O 122::O 123::O 124::O 125::O 126::O 127::[] : List Value)) ∧ St w0 [Rows2 38 kHS (RowO 2 (K.int .i64)) v4 ms34 x186] w)) ?_ ?_
            ·
             rintro t w ⟨x186, H, hf, hs⟩
             obtain ⟨O, rfl⟩ := hf.open
             try dsimp only
             unfold spec_l01Fewest.j8 at H
             refine g_region ?_
             show G _ _ _ (.inRegion _ [0, 1, 2] :: _) _ _
             refine g_op (v := Value.int .i64 x171) rfl rfl rfl ?_
             refine g_d rfl ?_
             refine g_op (v := Value.int .i64 (i64w (x171 + 1))) rfl rfl rfl ?_
             refine g_d rfl ?_
             try dsimp only [set0,setS]
             refine g_op (v := Value.int .i64 (i64w (x171 + 1))) rfl rfl rfl ?_
             refine g_d rfl ?_
             try dsimp only [set0,setS]
             refine g_ops_nil ?_
             obtain rfl := Option.some.inj H
             have hs := hs.pull 0 rfl
             have hs : St _ [_] _ := St.take (Γ' := []) hs
             exact ih3_ _ _ ⟨x186, i64w (x171 + 1), Hx3_, rfl, hs⟩
            ·
             intro ha
             refine g_seq ?_
             refine g_region ?_
             show G _ _ _ (.inRegion _ [0, 1, 2, 3, 4, 5, 6, 7, 8, 9] :: _) _ _
             refine g_op (v := Value.int .i64 x152) rfl rfl rfl ?_
             refine g_d rfl ?_
             refine g_op (v := Value.int .i64 x171) rfl rfl rfl ?_
             refine g_d rfl ?_
             refine g_op (v := v2) rfl rfl rfl ?_
             refine g_d rfl ?_
             refine g_op (v := Value.int .i64 x114) rfl rfl rfl ?_
             refine g_d rfl ?_
             obtain ⟨g110, H⟩ := ite_get H
             refine s_idx (fkI .i16) 0 (hs.rd hr0) rfl (fun _ => rfl) g110.1 g110.2 rfl rfl rfl rfl rfl ?_
             intro p172 hp172 lp172 op172
             refine g_d rfl ?_
             try dsimp only [set0,setS]
             refine s_load1 rfl rfl (v := Value.int .i16 (rdL a1 x114 0)) rfl rfl (fun _ => rfl) hp172 ?_
             refine g_d rfl ?_
             try dsimp only [set0,setS]
             refine g_op (v := Value.int .i64 (i64w (rdL a1 x114 0))) rfl rfl rfl ?_
             refine g_d rfl ?_
             refine g_op (v := Value.int .i64 (i64w (x171 * (i64w (rdL a1 x114 0))))) rfl rfl rfl ?_
             refine g_d rfl ?_
             try dsimp only [set0,setS]
             refine g_op (v := Value.int .i64 (i64w (x152 - (i64w (x171 * (i64w (rdL a1 x114 0))))))) rfl rfl rfl ?_
             refine g_d rfl ?_
             try dsimp only [set0,setS]
             refine g_op (v := Value.int .i64 (i64w (x152 - (i64w (x171 * (i64w (rdL a1 x114 0))))))) rfl rfl rfl ?_
             refine g_d rfl ?_
             try dsimp only [set0,setS]
             refine g_ops_nil ?_
             refine g_seq ?_
             refine g_seq ?_
             refine g_region ?_
             show G _ _ _ (.inRegion _ [0, 1, 2, 3, 4, 5, 6, 7, 8, 9, 10, 11, 12, 13, 14, 15] :: _) _ _
             refine g_op (v := Value.int .i64 (i64w (x152 - (i64w (x171 * (i64w (rdL a1 x114 0))))))) rfl rfl rfl ?_
             refine g_d rfl ?_
             refine g_op (v := Value.int .i64 4001) rfl rfl rfl ?_
             refine g_d rfl ?_
             refine g_op (v := Value.int .i64 (i64w (4001 - 1))) rfl rfl rfl ?_
             refine g_d rfl ?_
             try dsimp only [set0,setS]
             obtain ⟨r173, Hr173, H⟩ := bind_get H
             refine s_call (args := [Value.int .i64 (i64w (x152 - (i64w (x171 * (i64w (rdL a1 x114 0)))))), Value.int .i64 0, Value.int .i64 (i64w (4001 - 1))]) rfl rfl (x_call rfl (callFunc_enter Try.func16 rfl rfl) rfl) (spec_l00In.calls (a1 := i64w (x152 - (i64w (x171 * (i64w (rdL a1 x114 0)))))) (a2 := 0) (a3 := i64w (4001 - 1)) Hr173) ?_
             rintro _ w ⟨rfl, hs2⟩
             have hs : St _ [_] _ := hs.call hs2
             cases r173 with
             | true =>
               rw [if_pos rfl] at H
               refine g_d rfl ?_
               try dsimp only [set0,setS]
               refine g_op (v := Value.bool false) rfl rfl rfl ?_
               refine g_d rfl ?_
               try dsimp only [set0,setS]
               refine g_op (v := Value.bool false) rfl rfl rfl ?_
               refine g_d rfl ?_
               refine g_op (v := v4) rfl rfl rfl ?_
               refine g_d rfl ?_
               refine g_op (v := Value.int .i64 x114) rfl rfl rfl ?_
               refine g_d rfl ?_
               refine g_op (v := Value.int .i64 (i64w (x114 + 1))) rfl rfl rfl ?_
               refine g_d rfl ?_
               try dsimp only [set0,setS]
               obtain ⟨g111, H⟩ := ite_get H
               refine s_idx fkHS zHS (hs.r2row 0 rfl) rfl (fun _ => rfl) g111.1 (hs.r2lt 0 rfl g111.2) rfl rfl rfl rfl rfl ?_
               intro p174 hp174 lp174 op174
               refine g_d rfl ?_
               try dsimp only [set0,setS]
               refine s_load1 rfl rfl (v := Value.slice (rdL ms34 (i64w (x114 + 1)) zHS).a (rdL ms34 (i64w (x114 + 1)) zHS).n (rdL ms34 (i64w (x114 + 1)) zHS).c) rfl rfl (fun _ => rfl) hp174 ?_
               refine g_d rfl ?_
               try dsimp only [set0,setS]
               refine g_op (v := Value.int .i64 (i64w (x152 - (i64w (x171 * (i64w (rdL a1 x114 0))))))) rfl rfl rfl ?_
               refine g_d rfl ?_
               obtain ⟨g112, H⟩ := ite_get H
               refine s_idx (fkI .i64) 0 (hs.r2rd 0 rfl g111.1 g111.2) rfl (fun _ => rfl) g112.1 g112.2 rfl rfl rfl rfl rfl ?_
               intro p175 hp175 lp175 op175
               refine g_d rfl ?_
               try dsimp only [set0,setS]
               refine s_load1 rfl rfl (v := Value.int .i64 (rdL (rdL x170 (i64w (x114 + 1)) []) (i64w (x152 - (i64w (x171 * (i64w (rdL a1 x114 0)))))) 0)) rfl rfl (fun _ => rfl) hp175 ?_
               refine g_d rfl ?_
               try dsimp only [set0,setS]
               refine g_op_b (B := decide ((rdL (rdL x170 (i64w (x114 + 1)) []) (i64w (x152 - (i64w (x171 * (i64w (rdL a1 x114 0)))))) 0) < 0)) rfl rfl rfl ?_ ?_
               ·
                intro hb
                rw [if_pos (b_dec_t hb)] at H
                refine g_d rfl ?_
                try dsimp only [set0,setS]
                refine g_op (v := Value.bool true) rfl rfl rfl ?_
                refine g_d rfl ?_
                try dsimp only [set0,setS]
                refine g_ops_nil ?_
                refine g_cond_true rfl ?_
                refine g_exit rfl ?_
                have hs := hs.pull 0 rfl
                have hs : St _ [_] _ := St.take (Γ' := []) hs
                exact ha _ _ ⟨x170, H, rfl, hs⟩
               ·
                intro hb
                rw [if_neg (b_dec_f hb)] at H
                refine g_d rfl ?_
                try dsimp only [set0,setS]
                refine g_op (v := Value.bool false) rfl rfl rfl ?_
                refine g_d rfl ?_
                try dsimp only [set0,setS]
                refine g_ops_nil ?_
                refine g_cond_false rfl ?_
                refine g_skip ?_
                refine g_seq ?_
                refine g_region ?_
                show G _ _ _ (.inRegion _ [0, 1, 2, 3, 4, 5, 6, 7, 8, 9, 10, 11, 12] :: _) _ _
                refine g_op (v := v4) rfl rfl rfl ?_
                refine g_d rfl ?_
                refine g_op (v := Value.int .i64 x114) rfl rfl rfl ?_
                refine g_d rfl ?_
                refine g_op (v := Value.int .i64 (i64w (x114 + 1))) rfl rfl rfl ?_
                refine g_d rfl ?_
                try dsimp only [set0,setS]
                obtain ⟨g113, H⟩ := ite_get H
                refine s_idx fkHS zHS (hs.r2row 0 rfl) rfl (fun _ => rfl) g113.1 (hs.r2lt 0 rfl g113.2) rfl rfl rfl rfl rfl ?_
                intro p176 hp176 lp176 op176
                refine g_d rfl ?_
                try dsimp only [set0,setS]
                refine s_load1 rfl rfl (v := Value.slice (rdL ms34 (i64w (x114 + 1)) zHS).a (rdL ms34 (i64w (x114 + 1)) zHS).n (rdL ms34 (i64w (x114 + 1)) zHS).c) rfl rfl (fun _ => rfl) hp176 ?_
                refine g_d rfl ?_
                try dsimp only [set0,setS]
                refine g_op (v := Value.int .i64 (i64w (x152 - (i64w (x171 * (i64w (rdL a1 x114 0))))))) rfl rfl rfl ?_
                refine g_d rfl ?_
                obtain ⟨g114, H⟩ := ite_get H
                refine s_idx (fkI .i64) 0 (hs.r2rd 0 rfl g113.1 g113.2) rfl (fun _ => rfl) g114.1 g114.2 rfl rfl rfl rfl rfl ?_
                intro p177 hp177 lp177 op177
                refine g_d rfl ?_
                try dsimp only [set0,setS]
                refine s_load1 rfl rfl (v := Value.int .i64 (rdL (rdL x170 (i64w (x114 + 1)) []) (i64w (x152 - (i64w (x171 * (i64w (rdL a1 x114 0)))))) 0)) rfl rfl (fun _ => rfl) hp177 ?_
                refine g_d rfl ?_
                try dsimp only [set0,setS]
                refine g_op (v := Value.int .i64 x171) rfl rfl rfl ?_
                refine g_d rfl ?_
                refine g_op (v := Value.int .i64 x171) rfl rfl rfl ?_
                refine g_d rfl ?_
                refine g_op (v := Value.int .i64 (i64w (x171 * x171))) rfl rfl rfl ?_
                refine g_d rfl ?_
                try dsimp only [set0,setS]
                refine g_op (v := Value.int .i64 (i64w ((rdL (rdL x170 (i64w (x114 + 1)) []) (i64w (x152 - (i64w (x171 * (i64w (rdL a1 x114 0)))))) 0) + (i64w (x171 * x171))))) rfl rfl rfl ?_
                refine g_d rfl ?_
                try dsimp only [set0,setS]
                refine g_op (v := Value.int .i64 (i64w ((rdL (rdL x170 (i64w (x114 + 1)) []) (i64w (x152 - (i64w (x171 * (i64w (rdL a1 x114 0)))))) 0) + (i64w (x171 * x171))))) rfl rfl rfl ?_
                refine g_d rfl ?_
                try dsimp only [set0,setS]
                refine g_ops_nil ?_
                refine g_seq ?_
                refine g_region ?_
                show G _ _ _ (.inRegion _ [0, 1, 2, 3, 4, 5, 6, 7, 8, 9, 10, 11, 12, 13, 14, 15, 16, 17, 18] :: _) _ _
                refine g_op (v := v4) rfl rfl rfl ?_
                refine g_d rfl ?_
                refine g_op (v := Value.int .i64 x114) rfl rfl rfl ?_
                refine g_d rfl ?_
                obtain ⟨g115, H⟩ := ite_get H
                refine s_idx fkHS zHS (hs.r2row 0 rfl) rfl (fun _ => rfl) g115.1 (hs.r2lt 0 rfl g115.2) rfl rfl rfl rfl rfl ?_
                intro p178 hp178 lp178 op178
                refine g_d rfl ?_
                try dsimp only [set0,setS]
                refine s_load1 rfl rfl (v := Value.slice (rdL ms34 x114 zHS).a (rdL ms34 x114 zHS).n (rdL ms34 x114 zHS).c) rfl rfl (fun _ => rfl) hp178 ?_
                refine g_d rfl ?_
                try dsimp only [set0,setS]
                refine g_op (v := Value.int .i64 x152) rfl rfl rfl ?_
                refine g_d rfl ?_
                obtain ⟨g116, H⟩ := ite_get H
                refine s_idx (fkI .i64) 0 (hs.r2rd 0 rfl g115.1 g115.2) rfl (fun _ => rfl) g116.1 g116.2 rfl rfl rfl rfl rfl ?_
                intro p179 hp179 lp179 op179
                refine g_d rfl ?_
                try dsimp only [set0,setS]
                refine s_load1 rfl rfl (v := Value.int .i64 (rdL (rdL x170 x114 []) x152 0)) rfl rfl (fun _ => rfl) hp179 ?_
                refine g_d rfl ?_
                try dsimp only [set0,setS]
                refine g_op_b (B := decide ((rdL (rdL x170 x114 []) x152 0) < 0)) rfl rfl rfl ?_ ?_
                ·
                 intro hb
                 rw [if_pos (b_dec_t hb)] at H
                 refine g_d rfl ?_
                 try dsimp only [set0,setS]
                 refine g_op (v := Value.bool true) rfl rfl rfl ?_
                 refine g_d rfl ?_
                 refine g_op_not rfl rfl ?_
                 refine g_d rfl ?_
                 refine g_op_not rfl rfl ?_
                 refine g_d rfl ?_
                 refine g_op_not rfl rfl ?_
                 refine g_d rfl ?_
                 refine g_op_not rfl rfl ?_
                 refine g_d rfl ?_
                 try dsimp only [set0,setS]
                 refine g_op_not rfl rfl ?_
                 refine g_d rfl ?_
                 try dsimp only [set0,setS]
                 refine g_op_not rfl rfl ?_
                 refine g_d rfl ?_
                 refine g_op_not rfl rfl ?_
                 refine g_d rfl ?_
                 try dsimp only [set0,setS]
                 refine g_op_not rfl rfl ?_
                 refine g_d rfl ?_
                 try dsimp only [set0,setS]
                 refine g_op_not rfl rfl ?_
                 refine g_d rfl ?_
                 try dsimp only [set0,setS]
                 refine g_op (v := Value.bool true) rfl rfl rfl ?_
                 refine g_d rfl ?_
                 try dsimp only [set0,setS]
                 refine g_ops_nil ?_
                 refine g_cond_true rfl ?_
                 refine g_region ?_
                 show G _ _ _ (.inRegion _ [0, 1, 2, 3, 4, 5, 6, 7] :: _) _ _
                 refine g_op (v := v4) rfl rfl rfl ?_
                 refine g_d rfl ?_
                 refine g_op (v := Value.int .i64 x114) rfl rfl rfl ?_
                 refine g_d rfl ?_
                 obtain ⟨g117, H⟩ := ite_get H
                 refine s_idx fkHS zHS (hs.r2row 0 rfl) rfl (fun _ => rfl) g117.1 (hs.r2lt 0 rfl g117.2) rfl rfl rfl rfl rfl ?_
                 intro p180 hp180 lp180 op180
                 refine g_d rfl ?_
                 try dsimp only [set0,setS]
                 refine s_load1 rfl rfl (v := Value.slice (rdL ms34 x114 zHS).a (rdL ms34 x114 zHS).n (rdL ms34 x114 zHS).c) rfl rfl (fun _ => rfl) hp180 ?_
                 refine g_d rfl ?_
                 try dsimp only [set0,setS]
                 refine g_op (v := Value.int .i64 x152) rfl rfl rfl ?_
                 refine g_d rfl ?_
                 refine g_op (v := Value.int .i64 (i64w ((rdL (rdL x170 (i64w (x114 + 1)) []) (i64w (x152 - (i64w (x171 * (i64w (rdL a1 x114 0)))))) 0) + (i64w (x171 * x171))))) rfl rfl rfl ?_
                 refine g_d rfl ?_
                 obtain ⟨g118, H⟩ := ite_get H
                 refine s_idx (fkI .i64) 0 (hs.r2rd 0 rfl g117.1 g117.2) rfl (fun _ => rfl) g118.1 g118.2 rfl rfl rfl rfl rfl ?_
                 intro p181 hp181 lp181 op181
                 refine g_d rfl ?_
                 try dsimp only [set0,setS]
                 refine s_r2st (y := i64w ((rdL (rdL x170 (i64w (x114 + 1)) []) (i64w (x152 - (i64w (x171 * (i64w (rdL a1 x114 0)))))) 0) + (i64w (x171 * x171)))) (fkI .i64) g117.1 g117.2 g118.1 g118.2 op181 hs rfl rfl rfl rfl rfl (fun _ => rfl) ?_
                 intro w hs
                 refine g_n rfl ?_
                 refine g_ops_nil ?_
                 refine g_inBlock ?_
                 have hs := hs.pull 0 rfl
                 have hs : St _ [_] _ := St.take (Γ' := []) hs
                 exact ha _ _ ⟨stL x170 x114 (stL (rdL x170 x114 []) x152 (i64w ((rdL (rdL x170 (i64w (x114 + 1)) []) (i64w (x152 - (i64w (x171 * (i64w (rdL a1 x114 0)))))) 0) + (i64w (x171 * x171))))), H, rfl, hs⟩
                ·
                 intro hb
                 rw [if_neg (b_dec_f hb)] at H
                 refine g_d rfl ?_
                 try dsimp only [set0,setS]
                 refine g_op (v := Value.bool false) rfl rfl rfl ?_
                 refine g_d rfl ?_
                 refine g_op (v := Value.int .i64 (i64w ((rdL (rdL x170 (i64w (x114 + 1)) []) (i64w (x152 - (i64w (x171 * (i64w (rdL a1 x114 0)))))) 0) + (i64w (x171 * x171))))) rfl rfl rfl ?_
                 refine g_d rfl ?_
                 refine g_op (v := v4) rfl rfl rfl ?_
                 refine g_d rfl ?_
                 refine g_op (v := Value.int .i64 x114) rfl rfl rfl ?_
                 refine g_d rfl ?_
                 obtain ⟨g119, H⟩ := ite_get H
                 refine s_idx fkHS zHS (hs.r2row 0 rfl) rfl (fun _ => rfl) g119.1 (hs.r2lt 0 rfl g119.2) rfl rfl rfl rfl rfl ?_
                 intro p182 hp182 lp182 op182
                 refine g_d rfl ?_
                 try dsimp only [set0,setS]
                 refine s_load1 rfl rfl (v := Value.slice (rdL ms34 x114 zHS).a (rdL ms34 x114 zHS).n (rdL ms34 x114 zHS).c) rfl rfl (fun _ => rfl) hp182 ?_
                 refine g_d rfl ?_
                 try dsimp only [set0,setS]
                 refine g_op (v := Value.int .i64 x152) rfl rfl rfl ?_
                 refine g_d rfl ?_
                 obtain ⟨g120, H⟩ := ite_get H
                 refine s_idx (fkI .i64) 0 (hs.r2rd 0 rfl g119.1 g119.2) rfl (fun _ => rfl) g120.1 g120.2 rfl rfl rfl rfl rfl ?_
                 intro p183 hp183 lp183 op183
                 refine g_d rfl ?_
                 try dsimp only [set0,setS]
                 refine s_load1 rfl rfl (v := Value.int .i64 (rdL (rdL x170 x114 []) x152 0)) rfl rfl (fun _ => rfl) hp183 ?_
                 refine g_d rfl ?_
                 try dsimp only [set0,setS]
                 refine g_op_b (B := decide ((i64w ((rdL (rdL x170 (i64w (x114 + 1)) []) (i64w (x152 - (i64w (x171 * (i64w (rdL a1 x114 0)))))) 0) + (i64w (x171 * x171)))) < (rdL (rdL x170 x114 []) x152 0))) rfl rfl rfl ?_ ?_
                 ·
                  intro hb
                  rw [if_pos (b_dec_t hb)] at H
                  refine g_d rfl ?_
                  try dsimp only [set0,setS]
                  refine g_op (v := Value.bool true) rfl rfl rfl ?_
                  refine g_d rfl ?_
                  try dsimp only [set0,setS]
                  refine g_ops_nil ?_
                  refine g_cond_true rfl ?_
                  refine g_region ?_
                  show G _ _ _ (.inRegion _ [0, 1, 2, 3, 4, 5, 6, 7] :: _) _ _
                  refine g_op (v := v4) rfl rfl rfl ?_
                  refine g_d rfl ?_
                  refine g_op (v := Value.int .i64 x114) rfl rfl rfl ?_
                  refine g_d rfl ?_
                  obtain ⟨g121, H⟩ := ite_get H
                  refine s_idx fkHS zHS (hs.r2row 0 rfl) rfl (fun _ => rfl) g121.1 (hs.r2lt 0 rfl g121.2) rfl rfl rfl rfl rfl ?_
                  intro p184 hp184 lp184 op184
                  refine g_d rfl ?_
                  try dsimp only [set0,setS]
                  refine s_load1 rfl rfl (v := Value.slice (rdL ms34 x114 zHS).a (rdL ms34 x114 zHS).n (rdL ms34 x114 zHS).c) rfl rfl (fun _ => rfl) hp184 ?_
                  refine g_d rfl ?_
                  try dsimp only [set0,setS]
                  refine g_op (v := Value.int .i64 x152) rfl rfl rfl ?_
                  refine g_d rfl ?_
                  refine g_op (v := Value.int .i64 (i64w ((rdL (rdL x170 (i64w (x114 + 1)) []) (i64w (x152 - (i64w (x171 * (i64w (rdL a1 x114 0)))))) 0) + (i64w (x171 * x171))))) rfl rfl rfl ?_
                  refine g_d rfl ?_
                  obtain ⟨g122, H⟩ := ite_get H
                  refine s_idx (fkI .i64) 0 (hs.r2rd 0 rfl g121.1 g121.2) rfl (fun _ => rfl) g122.1 g122.2 rfl rfl rfl rfl rfl ?_
                  intro p185 hp185 lp185 op185
                  refine g_d rfl ?_
                  try dsimp only [set0,setS]
                  refine s_r2st (y := i64w ((rdL (rdL x170 (i64w (x114 + 1)) []) (i64w (x152 - (i64w (x171 * (i64w (rdL a1 x114 0)))))) 0) + (i64w (x171 * x171)))) (fkI .i64) g121.1 g121.2 g122.1 g122.2 op185 hs rfl rfl rfl rfl rfl (fun _ => rfl) ?_
                  intro w hs
                  refine g_n rfl ?_
                  refine g_ops_nil ?_
                  refine g_inBlock ?_
                  have hs := hs.pull 0 rfl
                  have hs : St _ [_] _ := St.take (Γ' := []) hs
                  exact ha _ _ ⟨stL x170 x114 (stL (rdL x170 x114 []) x152 (i64w ((rdL (rdL x170 (i64w (x114 + 1)) []) (i64w (x152 - (i64w (x171 * (i64w (rdL a1 x114 0)))))) 0) + (i64w (x171 * x171))))), H, rfl, hs⟩
                 ·
                  intro hb
                  rw [if_neg (b_dec_f hb)] at H
                  refine g_d rfl ?_
                  try dsimp only [set0,setS]
                  refine g_op (v := Value.bool false) rfl rfl rfl ?_
                  refine g_d rfl ?_
                  try dsimp only [set0,setS]
                  refine g_ops_nil ?_
                  refine g_cond_false rfl ?_
                  refine g_skip ?_
                  refine g_inBlock ?_
                  have hs := hs.pull 0 rfl
                  have hs : St _ [_] _ := St.take (Γ' := []) hs
                  exact ha _ _ ⟨x170, H, rfl, hs⟩
             | false =>
               rw [if_neg Bool.false_ne_true] at H
               refine g_d rfl ?_
               try dsimp only [set0,setS]
               refine g_op (v := Value.bool true) rfl rfl rfl ?_
               refine g_d rfl ?_
               try dsimp only [set0,setS]
               refine g_op (v := Value.bool true) rfl rfl rfl ?_
               refine g_d rfl ?_
               refine g_op_not rfl rfl ?_
               refine g_d rfl ?_
               refine g_op_not rfl rfl ?_
               refine g_d rfl ?_
               refine g_op_not rfl rfl ?_
               refine g_d rfl ?_
               try dsimp only [set0,setS]
               refine g_op_not rfl rfl ?_
               refine g_d rfl ?_
               try dsimp only [set0,setS]
               refine g_op_not rfl rfl ?_
               refine g_d rfl ?_
               try dsimp only [set0,setS]
               refine g_op_not rfl rfl ?_
               refine g_d rfl ?_
               refine g_op_not rfl rfl ?_
               refine g_d rfl ?_
               try dsimp only [set0,setS]
               refine g_op_not rfl rfl ?_
               refine g_d rfl ?_
               try dsimp only [set0,setS]
               refine g_op_not rfl rfl ?_
               refine g_d rfl ?_
               try dsimp only [set0,setS]
               refine g_op (v := Value.bool true) rfl rfl rfl ?_
               refine g_d rfl ?_
               try dsimp only [set0,setS]
               refine g_ops_nil ?_
               refine g_cond_true rfl ?_
               refine g_exit rfl ?_
               have hs := hs.pull 0 rfl
               have hs : St _ [_] _ := St.take (Γ' := []) hs
               exact ha _ _ ⟨x170, H, rfl, hs⟩
           ·
            intro hb
            rw [if_neg (b_dec_f hb)] at H
            refine g_d rfl ?_
            try dsimp only [set0,setS]
            refine g_ops_nil ?_
            refine g_cond_false rfl ?_
            obtain rfl := Option.some.inj H
            subst Hx3_
            have hs := hs.pull 0 rfl
            have hs : St _ [_] _ := St.take (Γ' := []) hs
            refine g_exit rfl ?_
            exact ha3_ _ _ ⟨x170, Hr3_, rfl, hs⟩
        ·
         intro hb
         rw [if_neg (b_dec_f hb)] at H
         refine g_d rfl ?_
         try dsimp only [set0,setS]
         refine g_ops_nil ?_
         refine g_cond_false rfl ?_
         obtain rfl := Option.some.inj H
         subst Hx2_
         have hs := hs.pull 0 rfl
         have hs : St _ [_] _ := St.take (Γ' := []) hs
         refine g_exit rfl ?_
         exact ha2_ _ _ ⟨x151, Hr2_, rfl, hs⟩
     ·
      intro hb
      rw [if_neg (b_dec_f hb)] at H
      refine g_d rfl ?_
      try dsimp only [set0,setS]
      refine g_ops_nil ?_
      refine g_cond_false rfl ?_
      obtain rfl := Option.some.inj H
      subst Hx1_
      have hs := hs.pull 0 rfl
      have hs : St _ [_] _ := St.take (Γ' := []) hs
      refine g_exit rfl ?_
      exact ha1_ _ _ ⟨x113, Hr1_, rfl, hs⟩
  ·
   intro ha1_
   have hs := hs.pull 0 rfl
   have hs : St _ [_] _ := St.take (Γ' := []) hs
   refine g_loop_fuel (I := fun n_ t w => ∃ ms19 : (List HS), ∃ x20 : (List (List Int)), ∃ x21 : Int, rounds (fun s => spec_l01Fewest.b0 N a1 s.1 s.2) n_ (x20, x21) = some o1_ ∧ Fr t (fun O => (v2::Value.bool a3::O 2::O 3::O 4::Value.int .i64 4001::v4::Value.int .i64 x21::O 8::O 9::O 10::O 11::O 12::O 13::O 14::O 15::O 16::O 17::O 18::O 19::O 20::O 21::O 22::O 23::O 24::O 25::O 26::O 27::O 28::O 29::O 30::O 31::O 32::O 33::O 34::O 35::O 36::O 37::O 38::O 39::O 40::O 41::O 42::O 43::O 44::O 45::O 46::O 47::O 48::O 49::O 50::O 51::O 52::O 53::O 54::O 55::O 56::O 57::O 58::O 59::O 60::O 61::O 62::O 63::O 64::O 65::O 66::O 67::O 68::O 69::O 70::O 71::O 72::O 73::O 74::O 75::O 76::O 77::O 78::O 79::O 80::O 81::O 82::O 83::O 84::O 85::O 86::O 87::O 88::O 89::O 90::O 91::O 92::O 93::O 94::O 95::O 96::O 97::O 98::O 99::O 100::O 101::O 102::O 103::O 104::O 105::O 106::O 107::O 108::O 109::O 110::O 111::O 112::O 113::O 114::O 115::O 116::O 117::O 118::O 119::O 120::O 121::O 122::O 123::O 124::O 125::O 126::O 127::[] : List Value)) ∧ St w0 [Rows2 38 kHS (RowO 2 (K.int .i64)) v4 ms19 x20] w) N ⟨List.replicate ((i64w ((a1.length : Int) + 1))).toNat zHS, List.replicate ((i64w ((a1.length : Int) + 1))).toNat ([] : (List Int)), 0, Ho, rfl, hs⟩ ?_ ?_
   ·
    rintro _ _ ⟨ms19, x20, x21, h, _⟩
    exact rounds_zero h
   ·
    intro n_ ih1_
    rintro t w ⟨ms19, x20, x21, Ho, hf, hs⟩
    obtain ⟨O, rfl⟩ := hf.open
    try dsimp only
    obtain ⟨x126_, H, Hx1_⟩ := rounds_succ Ho
    have H : spec_l01Fewest.b0 N a1 x20 x21 = some x126_ := H
    unfold spec_l01Fewest.b0 at H
    refine g_seq ?_
    refine g_seq ?_
    refine g_region ?_
    show G _ _ _ (.inRegion _ [0, 1, 2, 3] :: _) _ _
    refine g_op (v := Value.int .i64 x21) rfl rfl rfl ?_
    refine g_d rfl ?_
    refine g_op (v := v2) rfl rfl rfl ?_
    refine g_d rfl ?_
    refine s_len (hs.rd hr0) rfl rfl rfl rfl rfl ?_
    refine g_d rfl ?_
    try dsimp only [set0,setS]
    refine g_op_b (B := decide (x21 ≤ (a1.length : Int))) rfl rfl rfl ?_ ?_
    ·
     intro hb
     rw [if_pos (b_dec_t hb)] at H
     refine g_d rfl ?_
     try dsimp only [set0,setS]
     refine g_ops_nil ?_
     refine g_cond_true rfl ?_
     refine g_skip ?_
     refine g_seq ?_
     refine g_block ?_
     refine g_seq ?_
     refine g_region ?_
     show G _ _ _ (.inRegion _ [0, 1, 2, 3, 4, 5] :: _) _ _
     refine g_op (v := v4) rfl rfl rfl ?_
     refine g_d rfl ?_
     refine g_op (v := Value.int .i64 x21) rfl rfl rfl ?_
     refine g_d rfl ?_
     refine g_op (v := Value.int .i64 4001) rfl rfl rfl ?_
     refine g_d rfl ?_
     obtain ⟨g, H⟩ := ite_get H
     refine s_make (κ := (K.int .i64)) (z := 0) (zc := ((encI .i64) 0)) (zv := (Value.int .i64 0)) (B := 8) hs rfl rfl rfl rfl rfl g.1 rfl rfl rfl rfl rfl (fun _ => ⟨rfl, rfl⟩) rfl (by decide) (by have := g.2; omega) ?_
     intro v22 w hs
     refine g_d rfl ?_
     try dsimp only [set0,setS]
     obtain ⟨g7, H⟩ := ite_get H
     refine s_idx fkHS zHS (hs.r2row 1 rfl) rfl (fun _ => rfl) g7.1 (hs.r2lt 1 rfl g7.2) rfl rfl rfl rfl rfl ?_
     intro p24 hp24 lp24 op24
     refine g_d rfl ?_
     try dsimp only [set0,setS]
     obtain ⟨mh25, rfl⟩ := hs.hsOf 0 rfl
     have hs := hs.pull 1 rfl
     have hs : St _ [_,_] _ := hs
     refine s_r2store (I := (RowO 2 (K.int .i64))) (h' := mh25) (x' := List.replicate ((4001 : Int)).toNat (0 : Int)) fkHS g7.1 g7.2 op24 hs rfl rfl rfl rfl rfl (fun _ => rfl) ?_
     intro w hs
     refine g_n rfl ?_
     refine g_ops_nil ?_
     refine g_seq ?_
     refine g_region ?_
     show G _ _ _ (.inRegion _ [0] :: _) _ _
     refine g_op (v := Value.int .i64 0) rfl rfl rfl ?_
     refine g_d rfl ?_
     try dsimp only [set0,setS]
     refine g_ops_nil ?_
     obtain ⟨o2_, Ho, Hr2_⟩ := bind_get H
     refine g_block_join (J := fun t w => ∃ x33 : (List (List Int)), spec_l01Fewest.a9 N x21 x33 = some x126_ ∧ Fr t (fun O => (v2::Value.bool a3::O 2::O 3::O 4::Value.int .i64 4001::v4::Value.int .i64 x21::O 8::O 9::O 10::O 11::O 12::O 13::O 14::O 15::O 16::O 17::O 18::O 19::O 20::O 21::O 22::O 23::O 24::O 25::O 26::O 27::O 28::O 29::O 30::O 31::O 32::O 33::O 34::O 35::O 36::O 37::O 38::O 39::O 40::O 41::O 42::O 43::O 44::O 45::O 46::O 47::O 48::O 49::O 50::O 51::O 52::O 53::O 54::O 55::O 56::O 57::O 58::O 59::O 60::O 61::O 62::O 63::O 64::O 65::O 66::O 67::O 68::O 69::O 70::O 71::O 72::O 73::O 74::O 75::O 76::O 77::O 78::O 79::O 80::O 81::O 82::O 83::O 84::O 85::O 86::O 87::O 88::O 89::O 90::O 91::O 92::O 93::O 94::O 95::O 96::O 97::O 98::O 99::O 100::O 101::O 102::O 103::O 104::O 105::O 106::O 107::O 108::O 109::O 110::O 111::O 112::O 113::O 114::O 115::O 116::O 117::O 118::O 119::O 120::O 121::O 122::O 123::O 124::O 125::O 126::O 127::[] : List Value)) ∧ St w0 [Rows2 38 kHS (RowO 2 (K.int .i64)) v4 (stL ms19 x21 mh25) x33] w) ?_ ?_
     ·
      rintro t w ⟨x33, H, hf, hs⟩
      obtain ⟨O, rfl⟩ := hf.open
      try dsimp only
      unfold spec_l01Fewest.a9 at H
      refine g_inBlock ?_
      refine g_region ?_
      show G _ _ _ (.inRegion _ [0, 1, 2] :: _) _ _
      refine g_op (v := Value.int .i64 x21) rfl rfl rfl ?_
      refine g_d rfl ?_
      refine g_op (v := Value.int .i64 (i64w (x21 + 1))) rfl rfl rfl ?_
      refine g_d rfl ?_
      try dsimp only [set0,setS]
      refine g_op (v := Value.int .i64 (i64w (x21 + 1))) rfl rfl rfl ?_
      refine g_d rfl ?_
      try dsimp only [set0,setS]
      refine g_ops_nil ?_
      obtain rfl := Option.some.inj H
      have hs := hs.pull 0 rfl
      have hs : St _ [_] _ := St.take (Γ' := []) hs
      exact ih1_ _ _ ⟨stL ms19 x21 mh25, x33, i64w (x21 + 1), Hx1_, rfl, hs⟩
     ·
      intro ha2_
      have hs := hs.pull 0 rfl
      have hs : St _ [_] _ := St.take (Γ' := []) hs
      refine g_loop_fuel (I := fun n_ t w => ∃ x29 : (List (List Int)), ∃ x30 : Int, rounds (fun s => spec_l01Fewest.b9 N x21 s.1 s.2) n_ (x29, x30) = some o2_ ∧ Fr t (fun O => (v2::Value.bool a3::O 2::O 3::O 4::Value.int .i64 4001::v4::Value.int .i64 x21::Value.int .i64 x30::O 9::O 10::O 11::O 12::O 13::O 14::O 15::O 16::O 17::O 18::O 19::O 20::O 21::O 22::O 23::O 24::O 25::O 26::O 27::O 28::O 29::O 30::O 31::O 32::O 33::O 34::O 35::O 36::O 37::O 38::O 39::O 40::O 41::O 42::O 43::O 44::O 45::O 46::O 47::O 48::O 49::O 50::O 51::O 52::O 53::O 54::O 55::O 56::O 57::O 58::O 59::O 60::O 61::O 62::O 63::O 64::O 65::O 66::O 67::O 68::O 69::O 70::O 71::O 72::O 73::O 74::O 75::O 76::O 77::O 78::O 79::O 80::O 81::O 82::O 83::O 84::O 85::O 86::O 87::O 88::O 89::O 90::O 91::O 92::O 93::O 94::O 95::O 96::O 97::O 98::O 99::O 100::O 101::O 102::O 103::O 104::O 105::O 106::O 107::O 108::O 109::O 110::O 111::O 112::O 113::O 114::O 115::O 116::O 117::O 118::O 119::O 120::O 121::O 122::O 123::O 124::O 125::O 126::O 127::[] : List Value)) ∧ St w0 [Rows2 38 kHS (RowO 2 (K.int .i64)) v4 (stL ms19 x21 mh25) x29] w) N ⟨stL x20 x21 (List.replicate ((4001 : Int)).toNat (0 : Int)), 0, Ho, rfl, hs⟩ ?_ ?_
      ·
       rintro _ _ ⟨x29, x30, h, _⟩
       exact rounds_zero h
      ·
       intro n_ ih2_
       rintro t w ⟨x29, x30, Ho, hf, hs⟩
       obtain ⟨O, rfl⟩ := hf.open
       try dsimp only
       obtain ⟨x12_, H, Hx2_⟩ := rounds_succ Ho
       have H : spec_l01Fewest.b9 N x21 x29 x30 = some x12_ := H
       unfold spec_l01Fewest.b9 at H
       refine g_seq ?_
       refine g_seq ?_
       refine g_region ?_
       show G _ _ _ (.inRegion _ [0, 1, 2] :: _) _ _
       refine g_op (v := Value.int .i64 x30) rfl rfl rfl ?_
       refine g_d rfl ?_
       refine g_op (v := Value.int .i64 4001) rfl rfl rfl ?_
       refine g_d rfl ?_
       refine g_op_b (B := decide (x30 < 4001)) rfl rfl rfl ?_ ?_
       ·
        intro hb
        rw [if_pos (b_dec_t hb)] at H
        refine g_d rfl ?_
        try dsimp only [set0,setS]
        refine g_ops_nil ?_
        refine g_cond_true rfl ?_
        refine g_skip ?_
        refine g_seq ?_
        refine g_block ?_
        refine g_region ?_
        show G _ _ _ (.inRegion _ [0, 1, 2, 3, 4, 5, 6] :: _) _ _
        refine g_op (v := v4) rfl rfl rfl ?_
        refine g_d rfl ?_
        refine g_op (v := Value.int .i64 x21) rfl rfl rfl ?_
        refine g_d rfl ?_
        obtain ⟨g10, H⟩ := ite_get H
        refine s_idx fkHS zHS (hs.r2row 0 rfl) rfl (fun _ => rfl) g10.1 (hs.r2lt 0 rfl g10.2) rfl rfl rfl rfl rfl ?_
        intro p31 hp31 lp31 op31
        refine g_d rfl ?_
        try dsimp only [set0,setS]
        refine s_load1 rfl rfl (v := Value.slice (rdL (stL ms19 x21 mh25) x21 zHS).a (rdL (stL ms19 x21 mh25) x21 zHS).n (rdL (stL ms19 x21 mh25) x21 zHS).c) rfl rfl (fun _ => rfl) hp31 ?_
        refine g_d rfl ?_
        try dsimp only [set0,setS]
        refine g_op (v := Value.int .i64 x30) rfl rfl rfl ?_
        refine g_d rfl ?_
        obtain ⟨g11, H⟩ := ite_get H
        refine s_idx (fkI .i64) 0 (hs.r2rd 0 rfl g10.1 g10.2) rfl (fun _ => rfl) g11.1 g11.2 rfl rfl rfl rfl rfl ?_
        intro p32 hp32 lp32 op32
        refine g_d rfl ?_
        try dsimp only [set0,setS]
        refine s_r2st (y := (-1)) (fkI .i64) g10.1 g10.2 g11.1 g11.2 op32 hs rfl rfl rfl rfl rfl (fun _ => rfl) ?_
        intro w hs
        refine g_n rfl ?_
        refine g_ops_nil ?_
        refine g_inBlock ?_
        refine g_region ?_
        show G _ _ _ (.inRegion _ [0, 1, 2] :: _) _ _
        refine g_op (v := Value.int .i64 x30) rfl rfl rfl ?_
        refine g_d rfl ?_
        refine g_op (v := Value.int .i64 (i64w (x30 + 1))) rfl rfl rfl ?_
        refine g_d rfl ?_
        try dsimp only [set0,setS]
        refine g_op (v := Value.int .i64 (i64w (x30 + 1))) rfl rfl rfl ?_
        refine g_d rfl ?_
        try dsimp only [set0,setS]
        refine g_ops_nil ?_
        obtain rfl := Option.some.inj H
        have hs := hs.pull 0 rfl
        have hs : St _ [_] _ := St.take (Γ' := []) hs
        exact ih2_ _ _ ⟨stL x29 x21 (stL (rdL x29 x21 []) x30 (-1)), i64w (x30 + 1), Hx2_, rfl, hs⟩
       ·
        intro hb
        rw [if_neg (b_dec_f hb)] at H
        refine g_d rfl ?_
        try dsimp only [set0,setS]
        refine g_ops_nil ?_
        refine g_cond_false rfl ?_
        obtain rfl := Option.some.inj H
        subst Hx2_
        have hs := hs.pull 0 rfl
        have hs : St _ [_] _ := St.take (Γ' := []) hs
        refine g_exit rfl ?_
        exact ha2_ _ _ ⟨x29, Hr2_, rfl, hs⟩
    ·
     intro hb
     rw [if_neg (b_dec_f hb)] at H
     refine g_d rfl ?_
     try dsimp only [set0,setS]
     refine g_ops_nil ?_
     refine g_cond_false rfl ?_
     obtain rfl := Option.some.inj H
     subst Hx1_
     have hs := hs.pull 0 rfl
     have hs : St _ [_] _ := St.take (Γ' := []) hs
     refine g_exit rfl ?_
     exact ha1_ _ _ ⟨ms19, x20, Hr1_, rfl, hs⟩

end Go.Proofs.YtekcbhgojjdcoaaX
