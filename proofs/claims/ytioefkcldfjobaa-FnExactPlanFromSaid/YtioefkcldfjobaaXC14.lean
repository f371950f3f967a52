/- Contracts, printed by gen.py. -/
import Derived.Test.YtioefkcldfjobaaXT
import Derived.Test.YtioefkcldfjobaaProg
import Derived.Test.YtioefkcldfjobaaXRowR
import Derived.Test.YtioefkcldfjobaaXSeg
import Derived.Test.YtioefkcldfjobaaXKey
import Derived.Test.YtioefkcldfjobaaXIter
import Derived.Test.YtioefkcldfjobaaXRow2
import Derived.Test.YtioefkcldfjobaaXC1
import Derived.Test.YtioefkcldfjobaaXC2
import Derived.Test.YtioefkcldfjobaaXC3
namespace Go.Proofs.YtioefkcldfjobaaX
open Go Go.RowKit Go.Proofs
set_option linter.unusedVariables false
set_option linter.unusedSimpArgs false
/- function 29 spec_PlanFrom -/
def spec_PlanFrom.post (w0 : World) (r : ((List Int) × Int)) (v : Value) (w : World) : Prop := ∃ u1 : Value, v = Value.tuple #[u1, Value.int .i64 r.2] ∧ St w0 [Row 5 (K.int .u8) u1 r.1] w
set_option maxHeartbeats 8000000 in
set_option maxRecDepth 100000 in
theorem spec_PlanFrom.calls {N : Nat} {a1 : (List Int)} {a3 : (Ar Int 4)} {a4 : Int} {v2 : Value} {w0 : World} {r : ((List Int) × Int)} (hr0 : RdRow (K.int .i16) w0 v2 a1) (H : spec_PlanFrom.f N a1 a3 a4 = some r) :
    Calls Try.prog 29 #[v2, Value.agg ((encA (encI .i16)) a3).toArray, Value.int .i64 a4] w0 fun e w => ∃ v, e = .returned v ∧ spec_PlanFrom.post w0 r v w := by
  unfold spec_PlanFrom.f at H
  have hs : St w0 [] w0 := St.refl w0
  refine calls_of_g (n := 124) Try.func29 rfl rfl ?_
  show G _ _ _ _ (_::_::_::_::_::_::_::_::_::_::_::_::_::_::_::_::_::_::_::_::_::_::_::_::_::_::_::_::_::_::_::_::_::_::_::_::_::_::_::_::_::_::_::_::_::_::_::_::_::_::_::_::_::_::_::_::_::_::_::_::_::_::_::_::_::_::_::_::_::_::_::_::_::_::_::_::_::_::_::_::_::_::_::_::_::_::_::_::_::_::_::_::_::_::_::_::_::_::_::_::_::_::_::_::_::_::_::_::_::_::_::_::_::_::_::_::_::_::_::_::_::_::_::_::_::_::_::[]) _
  refine g_seq ?_
  refine g_region ?_
  show G _ _ _ (.inRegion _ [0, 1, 2] :: _) _ _
  refine s_box hs rfl rfl (cs := ((encA (encI .i16)) a3)) rfl rfl ?_
  intro b5 w hs
  refine g_d rfl ?_
  try dsimp only [set0,setS]
  refine g_op (v := Value.slice none 0 0) rfl rfl rfl ?_
  refine g_d rfl ?_
  try dsimp only [set0,setS]
  refine g_op (v := Value.int .i64 0) rfl rfl rfl ?_
  refine g_d rfl ?_
  try dsimp only [set0,setS]
  refine g_ops_nil ?_
  refine g_seq ?_
  refine g_seq ?_
  refine g_region ?_
  show G _ _ _ (.inRegion _ [0, 1, 2, 3, 4] :: _) _ _
  refine g_op (v := v2) rfl rfl rfl ?_
  refine g_d rfl ?_
  refine s_loadA rfl rfl (es := ((encA (encI .i16)) a3)) rfl rfl (fun _ => rfl) (n := 4) (fun _ => rfl) ((fkA (n := 4) (he := (fkI .i16).len) (h1 := (fkI .i16).one)).len _) (cells_all (hs.cells 0 rfl)) ?_
  refine g_d rfl ?_
  try dsimp only [set0,setS]
  refine g_op (v := Value.int .i64 a4) rfl rfl rfl ?_
  refine g_d rfl ?_
  obtain ⟨r7, Hr7, H⟩ := bind_get H
  refine s_call (args := [v2, Value.agg ((encA (encI .i16)) a3).toArray, Value.int .i64 a4]) rfl rfl (x_call rfl (callFunc_enter Try.func34 rfl rfl) rfl) (spec_l07Asked.calls (a1 := a1) (a3 := a3) (a4 := a4) (hs.rd hr0) Hr7) ?_
  rintro _ w ⟨rfl, hs2⟩
  have hs : St _ [_] _ := hs.call hs2
  refine g_d rfl ?_
  try dsimp only [set0,setS]
  refine g_op (v := Value.int .i64 r7) rfl rfl rfl ?_
  refine g_d rfl ?_
  try dsimp only [set0,setS]
  refine g_ops_nil ?_
  refine g_seq ?_
  refine g_region ?_
  show G _ _ _ (.inRegion _ [0, 1] :: _) _ _
  refine g_op (v := Value.int .i64 r7) rfl rfl rfl ?_
  refine g_d rfl ?_
  refine g_op_b (B := r7 != 0) rfl rfl rfl ?_ ?_
  ·
   intro hb
   rw [if_neg (b_bne_t hb)] at H
   refine g_d rfl ?_
   try dsimp only [set0,setS]
   refine g_ops_nil ?_
   refine g_cond_true rfl ?_
   refine g_seq ?_
   refine g_region ?_
   show G _ _ _ (.inRegion _ [0, 1, 2, 3] :: _) _ _
   refine s_lit0 (κ := (K.int .u8)) hs rfl rfl rfl rfl (fun _ => rfl) ?_
   intro v8 w hs
   refine g_d rfl ?_
   try dsimp only [set0,setS]
   refine g_op (v := Value.int .i64 r7) rfl rfl rfl ?_
   refine g_d rfl ?_
   refine g_op (v := v8) rfl rfl rfl ?_
   refine g_d rfl ?_
   try dsimp only [set0,setS]
   refine g_op (v := Value.int .i64 r7) rfl rfl rfl ?_
   refine g_d rfl ?_
   try dsimp only [set0,setS]
   refine g_ops_nil ?_
   obtain rfl := Option.some.inj H
   refine g_ret Try.func29 (v := Value.tuple #[v8, Value.int .i64 r7]) (resN (l := Try.f29.results.toList) (vs := [v8, Value.int .i64 r7]) rfl ⟨rfl, rfl, trivial⟩ (by simp)) ?_
   have hs := hs.pull 0 rfl
   have hs : St _ [_] _ := St.take (Γ' := [_]) hs
   exact ⟨_, rfl, v8, rfl, hs⟩
  ·
   intro hb
   rw [if_pos (b_bne_f hb)] at H
   refine g_d rfl ?_
   try dsimp only [set0,setS]
   refine g_ops_nil ?_
   refine g_cond_false rfl ?_
   refine g_skip ?_
   refine g_seq ?_
   refine g_region ?_
   show G _ _ _ (.inRegion _ [0, 1, 2] :: _) _ _
   refine g_op (v := v2) rfl rfl rfl ?_
   refine g_d rfl ?_
   obtain ⟨r10, Hr10, H⟩ := bind_get H
   refine s_call (args := [v2]) rfl rfl (x_call rfl (callFunc_enter Try.func48 rfl rfl) rfl) (spec_l07States.calls (a1 := a1) (hs.rd hr0) Hr10) ?_
   rintro _ w ⟨rfl, hs2⟩
   have hs : St _ [_] _ := hs.call hs2
   refine g_d rfl ?_
   try dsimp only [set0,setS]
   refine g_op (v := Value.int .i64 r10) rfl rfl rfl ?_
   refine g_d rfl ?_
   try dsimp only [set0,setS]
   refine g_ops_nil ?_
   refine g_seq ?_
   refine g_region ?_
   show G _ _ _ (.inRegion _ [0, 1, 2, 3, 4, 5] :: _) _ _
   refine g_op (v := Value.int .i64 r10) rfl rfl rfl ?_
   refine g_d rfl ?_
   refine g_op (v := Value.int .i64 a4) rfl rfl rfl ?_
   refine g_d rfl ?_
   refine g_op (v := Value.int .i64 (i64w (a4 + 1))) rfl rfl rfl ?_
   refine g_d rfl ?_
   try dsimp only [set0,setS]
   refine g_op (v := Value.int .i64 (i64w (r10 * (i64w (a4 + 1))))) rfl rfl rfl ?_
   refine g_d rfl ?_
   try dsimp only [set0,setS]
   obtain ⟨g, H⟩ := ite_get H
   refine s_make (κ := K.bool) (z := false) (zc := (encB false)) (zv := (Value.bool false)) (B := 1) hs rfl rfl rfl rfl rfl g.1 rfl rfl rfl rfl rfl (fun _ => ⟨rfl, rfl⟩) rfl (by decide) (by have := g.2; omega) ?_
   intro v11 w hs
   refine g_d rfl ?_
   try dsimp only [set0,setS]
   refine g_op (v := v11) rfl rfl rfl ?_
   refine g_d rfl ?_
   try dsimp only [set0,setS]
   refine g_ops_nil ?_
   refine g_seq ?_
   refine g_region ?_
   show G _ _ _ (.inRegion _ [0, 1, 2, 3, 4, 5] :: _) _ _
   refine g_op (v := v11) rfl rfl rfl ?_
   refine g_d rfl ?_
   refine g_op (v := v2) rfl rfl rfl ?_
   refine g_d rfl ?_
   refine s_loadA rfl rfl (es := ((encA (encI .i16)) a3)) rfl rfl (fun _ => rfl) (n := 4) (fun _ => rfl) ((fkA (n := 4) (he := (fkI .i16).len) (h1 := (fkI .i16).one)).len _) (cells_all (hs.cells 1 rfl)) ?_
   refine g_d rfl ?_
   try dsimp only [set0,setS]
   obtain ⟨r13, Hr13, H⟩ := bind_get H
   refine s_call (args := [v2, Value.agg ((encA (encI .i16)) a3).toArray]) rfl rfl (x_call rfl (callFunc_enter Try.func49 rfl rfl) rfl) (spec_l07Index.calls (a1 := a1) (a3 := a3) (hs.rd hr0) Hr13) ?_
   rintro _ w ⟨rfl, hs2⟩
   have hs : St _ [_,_] _ := hs.call hs2
   refine g_d rfl ?_
   try dsimp only [set0,setS]
   obtain ⟨g1, H⟩ := ite_get H
   refine s_idx fkB false (hs.row 0 rfl) rfl (fun _ => rfl) g1.1 g1.2 rfl rfl rfl rfl rfl ?_
   intro p14 hp14 lp14 op14
   refine g_d rfl ?_
   try dsimp only [set0,setS]
   refine s_stRow (y := true) fkB g1.1 g1.2 op14 hs rfl rfl rfl rfl rfl (fun _ => rfl) ?_
   intro w hs
   refine g_n rfl ?_
   refine g_ops_nil ?_
   refine g_seq ?_
   refine g_region ?_
   show G _ _ _ (.inRegion _ [0, 1, 2, 3] :: _) _ _
   refine s_loadA rfl rfl (es := ((encA (encI .i16)) a3)) rfl rfl (fun _ => rfl) (n := 4) (fun _ => rfl) ((fkA (n := 4) (he := (fkI .i16).len) (h1 := (fkI .i16).one)).len _) (cells_all (hs.cells 1 rfl)) ?_
   refine g_d rfl ?_
   try dsimp only [set0,setS]
   refine g_op (v := Value.agg (enc_S_spec_l07Node (⟨0, a3, 0, 0, true⟩ : S_spec_l07Node)).toArray) rfl rfl (x_buildS (cs := (enc_S_spec_l07Node (⟨0, a3, 0, 0, true⟩ : S_spec_l07Node))) (segs := [[Value.int .i64 0], [Value.int .i16 0, Value.int .i16 0, Value.int .i16 0, Value.int .i16 0], [Value.int .i64 0], [Value.int .u8 0], [Value.bool false]]) rfl rfl (fun _ => rfl) ⟨rfl, (fun _ => rfl), rfl, (fun _ => rfl), rfl, (fun _ => rfl), rfl, (fun _ => rfl), rfl, (fun _ => rfl), trivial⟩ (by simp only [List.map_cons, List.map_nil, List.forall_mem_cons, List.not_mem_nil, false_implies, implies_true, and_true]; exact ⟨⟨_, rfl, (fkA (n := 4) (he := (fkI .i16).len) (h1 := (fkI .i16).one)).len _⟩, ⟨_, rfl, rfl⟩⟩) (by first | rfl | (simp [ev, enc_S_spec_l07Node]; done) | (simp [ev, enc_S_spec_l07Node]; rfl))) ?_
   refine g_d rfl ?_
   try dsimp only [set0,setS]
   refine s_lit1 fk_S_spec_l07Node (y := (⟨0, a3, 0, 0, true⟩ : S_spec_l07Node)) hs rfl rfl rfl rfl (fun _ => rfl) (zv := (Value.agg #[Value.int .i64 0, Value.int .i16 0, Value.int .i16 0, Value.int .i16 0, Value.int .i16 0, Value.int .i64 0, Value.int .u8 0, Value.bool false])) (fun _ => rfl) rfl (by decide) (by decide) rfl ?_
   intro v15 w hs
   refine g_d rfl ?_
   try dsimp only [set0,setS]
   refine g_op (v := v15) rfl rfl rfl ?_
   refine g_d rfl ?_
   try dsimp only [set0,setS]
   refine g_ops_nil ?_
   refine g_seq ?_
   refine g_seq ?_
   refine g_region ?_
   show G _ _ _ (.inRegion _ [0] :: _) _ _
   refine g_op (v := Value.int .i64 0) rfl rfl rfl ?_
   refine g_d rfl ?_
   try dsimp only [set0,setS]
   refine g_ops_nil ?_
   obtain ⟨o1_, Ho, Hr1_⟩ := bind_get H
   refine g_block_join (J := fun t w => spec_PlanFrom.a0 N = some r ∧ Fr t (fun O => (O 0::O 1::O 2::O 3::O 4::O 5::O 6::O 7::O 8::O 9::O 10::O 11::O 12::O 13::O 14::O 15::O 16::O 17::O 18::O 19::O 20::O 21::O 22::O 23::O 24::O 25::O 26::O 27::O 28::O 29::O 30::O 31::O 32::O 33::O 34::O 35::O 36::O 37::O 38::O 39::O 40::O 41::O 42::O 43::O 44::O 45::O 46::O 47::O 48::O 49::O 50::O 51::O 52::O 53::O 54::O 55::O 56::O 57::O 58::O 59::O 60::O 61::O 62::O 63::O 64::O 65::O 66::O 67::O 68::O 69::O 70::O 71::O 72::O 73::O 74::O 75::O 76::O 77::O 78::O 79::O 80::O 81::O 82::O 83::O 84::O 85::O 86::O 87::O 88::O 89::O 90::O 91::O 92::O 93::O 94::O 95::O 96::O 97::O 98::O 99::O 100::O 101::O 102::O 103::O 104::O 105::O 106::O 107::O 108::O 109::O 110::O 111::O 112::O 113::O 114::O 115::O 116::O 117::O 118::O 119::O 120::O 121::O 122::O 123::O 124::O 125::O 126::[] : List Value)) ∧ St w0 [] w) ?_ ?_
   ·
    rintro t w ⟨H, hf, hs⟩
    obtain ⟨O, rfl⟩ := hf.open
    try dsimp only
    unfold spec_PlanFrom.a0 at H
    refine g_seq ?_
    refine g_region ?_
    show G _ _ _ (.inRegion _ [0, 1, 2] :: _) _ _
    refine s_lit0 (κ := (K.int .u8)) hs rfl rfl rfl rfl (fun _ => rfl) ?_
    intro v172 w hs
    refine g_d rfl ?_
    try dsimp only [set0,setS]
    refine g_op (v := v172) rfl rfl rfl ?_
    refine g_d rfl ?_
    try dsimp only [set0,setS]
    refine g_op (v := Value.int .i64 6) rfl rfl rfl ?_
    refine g_d rfl ?_
    try dsimp only [set0,setS]
    refine g_ops_nil ?_
    obtain rfl := Option.some.inj H
    refine g_ret Try.func29 (v := Value.tuple #[v172, Value.int .i64 6]) (resN (l := Try.f29.results.toList) (vs := [v172, Value.int .i64 6]) rfl ⟨rfl, rfl, trivial⟩ (by simp)) ?_
    have hs := hs.pull 0 rfl
    have hs : St _ [_] _ := St.take (Γ' := []) hs
    exact ⟨_, rfl, v172, rfl, hs⟩
   ·
    intro ha1_
    have hs := hs.pull 0 rfl
    have hs := hs.pull 1 rfl
    have hs : St _ [_,_] _ := St.take (Γ' := [_]) hs
    refine g_loop_fuel (I := fun n_ t w => ∃ x94 : (List Bool), ∃ v96 : Value, ∃ x97 : (List S_spec_l07Node), ∃ x98 : Int, rounds (fun s => spec_PlanFrom.b0 N a4 a1 r10 s.1 s.2.1 s.2.2) n_ (x94, x97, x98) = some o1_ ∧ Fr t (fun O => (v2::O 1::Value.int .i64 a4::O 3::O 4::O 5::O 6::O 7::O 8::Value.int .i64 r10::v11::v96::Value.int .i64 x98::O 13::O 14::O 15::O 16::O 17::O 18::O 19::O 20::O 21::O 22::O 23::O 24::O 25::O 26::O 27::O 28::O 29::O 30::O 31::O 32::O 33::O 34::O 35::O 36::O 37::O 38::O 39::O 40::O 41::O 42::O 43::O 44::O 45::O 46::O 47::O 48::O 49::O 50::O 51::O 52::O 53::O 54::O 55::O 56::O 57::O 58::O 59::O 60::O 61::O 62::O 63::O 64::O 65::O 66::O 67::O 68::O 69::O 70::O 71::O 72::O 73::O 74::O 75::O 76::O 77::O 78::O 79::O 80::O 81::O 82::O 83::O 84::O 85::O 86::O 87::O 88::O 89::O 90::O 91::O 92::O 93::O 94::O 95::O 96::O 97::O 98::O 99::O 100::O 101::O 102::O 103::O 104::O 105::O 106::O 107::O 108::O 109::O 110::O 111::O 112::O 113::O 114::O 115::O 116::O 117::O 118::O 119::O 120::O 121::O 122::O 123::O 124::O 125::O 126::[] : List Value)) ∧ St w0 [Row 4 K.bool v11 x94, Row 79 k_S_spec_l07Node v96 x97] w) N ⟨stL (List.replicate ((i64w (r10 * (i64w (a4 + 1))))).toNat false) r13 true, v15, [(⟨0, a3, 0, 0, true⟩ : S_spec_l07Node)], 0, Ho, rfl, hs⟩ ?_ ?_
    ·
     rintro _ _ ⟨x94, v96, x97, x98, h, _⟩
     exact rounds_zero h
    ·
     intro n_ ih1_
     rintro t w ⟨x94, v96, x97, x98, Ho, hf, hs⟩
     obtain ⟨O, rfl⟩ := hf.open
     try dsimp only
     obtain ⟨x24_, H, Hx1_⟩ := rounds_succ Ho
     have H : spec_PlanFrom.b0 N a4 a1 r10 x94 x97 x98 = some x24_ := H
     unfold spec_PlanFrom.b0 at H
     refine g_seq ?_
     refine g_seq ?_
     refine g_region ?_
     show G _ _ _ (.inRegion _ [0, 1, 2, 3] :: _) _ _
     refine g_op (v := Value.int .i64 x98) rfl rfl rfl ?_
     refine g_d rfl ?_
     refine g_op (v := v96) rfl rfl rfl ?_
     refine g_d rfl ?_
     refine s_len (hs.row 1 rfl) rfl rfl rfl rfl rfl ?_
     refine g_d rfl ?_
     try dsimp only [set0,setS]
     refine g_op_b (B := decide (x98 < (x97.length : Int))) rfl rfl rfl ?_ ?_
     ·
      intro hb
      rw [if_pos (b_dec_t hb)] at H
      refine g_d rfl ?_
      try dsimp only [set0,setS]
      refine g_ops_nil ?_
      refine g_cond_true rfl ?_
      refine g_skip ?_
      refine g_seq ?_
      refine g_block ?_
      refine g_seq ?_
      refine g_region ?_
      show G _ _ _ (.inRegion _ [0, 1, 2, 3, 4, 5] :: _) _ _
      refine g_op (v := v96) rfl rfl rfl ?_
      refine g_d rfl ?_
      refine g_op (v := Value.int .i64 x98) rfl rfl rfl ?_
      refine g_d rfl ?_
      obtain ⟨g13, H⟩ := ite_get H
      refine s_idx fk_S_spec_l07Node z_S_spec_l07Node (hs.row 1 rfl) rfl (fun _ => rfl) g13.1 g13.2 rfl rfl rfl rfl rfl ?_
      intro p99 hp99 lp99 op99
      refine g_d rfl ?_
      try dsimp only [set0,setS]
      refine s_loadA rfl rfl (es := (enc_S_spec_l07Node (rdL x97 x98 z_S_spec_l07Node))) rfl rfl (fun _ => rfl) (n := 8) (fun _ => rfl) (fk_S_spec_l07Node.len _) hp99 ?_
      refine g_d rfl ?_
      try dsimp only [set0,setS]
      refine s_alloc hs rfl rfl (z := (Value.agg #[Value.int .i64 0, Value.int .i16 0, Value.int .i16 0, Value.int .i16 0, Value.int .i16 0, Value.int .i64 0, Value.int .u8 0, Value.bool false])) (cs := (enc_S_spec_l07Node z_S_spec_l07Node)) rfl (fun _ => rfl) rfl ?_
      intro b100 w hs
      refine g_d rfl ?_
      try dsimp only [set0,setS]
      refine s_storeAll (n := 8) hs (fk_S_spec_l07Node.len _) rfl rfl (vs := (enc_S_spec_l07Node (rdL x97 x98 z_S_spec_l07Node))) rfl rfl rfl (fun _ => rfl) (fk_S_spec_l07Node.len _) (fk_S_spec_l07Node.one _) ?_
      intro w hs
      refine g_n rfl ?_
      refine g_ops_nil ?_
      refine g_seq ?_
      refine g_seq ?_
      refine g_region ?_
      show G _ _ _ (.inRegion _ [0, 1, 2, 3] :: _) _ _
      refine g_op (v := Value.pointer (some ⟨b100, 0, none⟩)) rfl rfl rfl ?_
      refine g_d rfl ?_
      refine s_load1 rfl rfl (v := Value.int .i64 ((rdL x97 x98 z_S_spec_l07Node).f_time)) rfl rfl (fun _ => rfl) (cells_load (hs.cells 0 rfl) 0 1 (by first | rfl | (simp only [enc_S_spec_l07Node]; simp [List.drop_append, List.take_append, encAI_len, encAB_len, List.take_of_length_le]))) ?_
      refine g_d rfl ?_
      try dsimp only [set0,setS]
      refine g_op (v := Value.int .i64 a4) rfl rfl rfl ?_
      refine g_d rfl ?_
      refine g_op_b (B := ((rdL x97 x98 z_S_spec_l07Node).f_time) == a4) rfl rfl rfl ?_ ?_
      ·
       intro hb
       rw [if_pos (b_beq_t hb)] at H
       refine g_d rfl ?_
       try dsimp only [set0,setS]
       refine g_ops_nil ?_
       refine g_cond_true rfl ?_
       refine g_seq ?_
       refine g_region ?_
       show G _ _ _ (.inRegion _ [0, 1] :: _) _ _
       refine s_lit0 (κ := (K.int .u8)) hs rfl rfl rfl rfl (fun _ => rfl) ?_
       intro v102 w hs
       refine g_d rfl ?_
       try dsimp only [set0,setS]
       refine g_op (v := v102) rfl rfl rfl ?_
       refine g_d rfl ?_
       try dsimp only [set0,setS]
       refine g_ops_nil ?_
       refine g_seq ?_
       obtain ⟨o2_, Ho, Hr2_⟩ := bind_get H
       refine g_block_join (J := fun t w => ∃ v121 : Value, ∃ x122 : (List Int), spec_PlanFrom.a2 N x122 = some x24_ ∧ Fr t (fun O => (O 0::O 1::O 2::O 3::O 4::O 5::O 6::O 7::O 8::O 9::O 10::O 11::O 12::O 13::v121::O 15::O 16::O 17::O 18::O 19::O 20::O 21::O 22::O 23::O 24::O 25::O 26::O 27::O 28::O 29::O 30::O 31::O 32::O 33::O 34::O 35::O 36::O 37::O 38::O 39::O 40::O 41::O 42::O 43::O 44::O 45::O 46::O 47::O 48::O 49::O 50::O 51::O 52::O 53::O 54::O 55::O 56::O 57::O 58::O 59::O 60::O 61::O 62::O 63::O 64::O 65::O 66::O 67::O 68::O 69::O 70::O 71::O 72::O 73::O 74::O 75::O 76::O 77::O 78::O 79::O 80::O 81::O 82::O 83::O 84::O 85::O 86::O 87::O 88::O 89::O 90::O 91::O 92::O 93::O 94::O 95::O 96::O 97::O 98::O 99::O 100::O 101::O 102::O 103::O 104::O 105::O 106::O 107::O 108::O 109::O 110::O 111::O 112::O 113::O 114::O 115::O 116::O 117::O 118::O 119::O 120::O 121::O 122::O 123::O 124::O 125::O 126::[] : List Value)) ∧ St w0 [Row 5 (K.int .u8) v121 x122] w) ?_ ?_
       ·
        rintro t w ⟨v121, x122, H, hf, hs⟩
        obtain ⟨O, rfl⟩ := hf.open
        try dsimp only
        unfold spec_PlanFrom.a2 at H
        refine g_seq ?_
        refine g_region ?_
        show G _ _ _ (.inRegion _ [0, 1, 2] :: _) _ _
        refine g_op (v := v121) rfl rfl rfl ?_
        refine g_d rfl ?_
        refine g_op (v := v121) rfl rfl rfl ?_
        refine g_d rfl ?_
        try dsimp only [set0,setS]
        refine g_op (v := Value.int .i64 0) rfl rfl rfl ?_
        refine g_d rfl ?_
        try dsimp only [set0,setS]
        refine g_ops_nil ?_
        obtain rfl := Option.some.inj H
        subst Hx1_
        have H := Option.some.inj Hr1_
        subst H
        refine g_ret Try.func29 (v := Value.tuple #[v121, Value.int .i64 0]) (resN (l := Try.f29.results.toList) (vs := [v121, Value.int .i64 0]) rfl ⟨rfl, rfl, trivial⟩ (by simp)) ?_
        have hs := hs.pull 0 rfl
        have hs : St _ [_] _ := St.take (Γ' := []) hs
        exact ⟨_, rfl, v121, rfl, hs⟩
       ·
        intro ha2_
        have hs := hs.pull 0 rfl
        have hs := hs.pull 1 rfl
        have hs := hs.pull 3 rfl
        have hs : St _ [_,_,_] _ := St.take (Γ' := [_]) hs
        refine g_loop_fuel (I := fun n_ t w => ∃ x112 : S_spec_l07Node, ∃ v114 : Value, ∃ x115 : (List Int), rounds (fun s => spec_PlanFrom.b2 N x97 s.1 s.2) n_ (x112, x115) = some o2_ ∧ Fr t (fun O => (O 0::O 1::O 2::O 3::O 4::O 5::O 6::O 7::O 8::O 9::O 10::v96::O 12::Value.pointer (some ⟨b100, 0, none⟩)::v114::O 15::O 16::O 17::O 18::O 19::O 20::O 21::O 22::O 23::O 24::O 25::O 26::O 27::O 28::O 29::O 30::O 31::O 32::O 33::O 34::O 35::O 36::O 37::O 38::O 39::O 40::O 41::O 42::O 43::O 44::O 45::O 46::O 47::O 48::O 49::O 50::O 51::O 52::O 53::O 54::O 55::O 56::O 57::O 58::O 59::O 60::O 61::O 62::O 63::O 64::O 65::O 66::O 67::O 68::O 69::O 70::O 71::O 72::O 73::O 74::O 75::O 76::O 77::O 78::O 79::O 80::O 81::O 82::O 83::O 84::O 85::O 86::O 87::O 88::O 89::O 90::O 91::O 92::O 93::O 94::O 95::O 96::O 97::O 98::O 99::O 100::O 101::O 102::O 103::O 104::O 105::O 106::O 107::O 108::O 109::O 110::O 111::O 112::O 113::O 114::O 115::O 116::O 117::O 118::O 119::O 120::O 121::O 122::O 123::O 124::O 125::O 126::[] : List Value)) ∧ St w0 [Row 79 k_S_spec_l07Node v96 x97, Cells b100 (enc_S_spec_l07Node x112) 79, Row 5 (K.int .u8) v114 x115] w) N ⟨rdL x97 x98 z_S_spec_l07Node, v102, ([] : List Int), Ho, rfl, hs⟩ ?_ ?_
        ·
         rintro _ _ ⟨x112, v114, x115, h, _⟩
         exact rounds_zero h
        ·
         intro n_ ih2_
         rintro t w ⟨x112, v114, x115, Ho, hf, hs⟩
         obtain ⟨O, rfl⟩ := hf.open
         try dsimp only
         obtain ⟨x18_, H, Hx2_⟩ := rounds_succ Ho
         have H : spec_PlanFrom.b2 N x97 x112 x115 = some x18_ := H
         unfold spec_PlanFrom.b2 at H
         refine g_seq ?_
         refine g_seq ?_
         refine g_region ?_
         show G _ _ _ (.inRegion _ [0, 1, 2] :: _) _ _
         refine g_op (v := Value.pointer (some ⟨b100, 7, none⟩)) rfl rfl rfl ?_
         refine g_d rfl ?_
         by_cases hb17_ : x112.f_first = true
         ·
          rw [if_pos hb17_] at H
          refine s_load1 rfl rfl (v := Value.bool true) rfl rfl (fun _ => rfl) (cells_load (hs.cells 1 rfl) 7 1 (Eq.trans (b := [Value.bool x112.f_first]) (by first | rfl | (simp only [enc_S_spec_l07Node]; simp [List.drop_append, List.take_append, encAI_len, encAB_len, List.take_of_length_le])) (congrArg (fun b => [Value.bool b]) hb17_))) ?_
          refine g_d rfl ?_
          try dsimp only [set0,setS]
          refine g_op (v := Value.bool false) rfl rfl rfl ?_
          refine g_d rfl ?_
          try dsimp only [set0,setS]
          refine g_ops_nil ?_
          refine g_cond_false rfl ?_
          obtain rfl := Option.some.inj H
          subst Hx2_
          have hs := hs.pull 2 rfl
          have hs : St _ [_] _ := St.take (Γ' := [_,_]) hs
          refine g_exit rfl ?_
          exact ha2_ _ _ ⟨v114, x115, Hr2_, rfl, hs⟩
         ·
          rw [if_neg hb17_] at H
          refine s_load1 rfl rfl (v := Value.bool false) rfl rfl (fun _ => rfl) (cells_load (hs.cells 1 rfl) 7 1 (Eq.trans (b := [Value.bool x112.f_first]) (by first | rfl | (simp only [enc_S_spec_l07Node]; simp [List.drop_append, List.take_append, encAI_len, encAB_len, List.take_of_length_le])) (congrArg (fun b => [Value.bool b]) (Bool.eq_false_iff.2 hb17_)))) ?_
          refine g_d rfl ?_
          try dsimp only [set0,setS]
          refine g_op (v := Value.bool true) rfl rfl rfl ?_
          refine g_d rfl ?_
          try dsimp only [set0,setS]
          refine g_ops_nil ?_
          refine g_cond_true rfl ?_
          refine g_skip ?_
          refine g_block ?_
          refine g_seq ?_
          refine g_region ?_
          show G _ _ _ (.inRegion _ [0, 1, 2, 3, 4, 5] :: _) _ _
          refine g_op (v := Value.pointer (some ⟨b100, 6, none⟩)) rfl rfl rfl ?_
          refine g_d rfl ?_
          refine s_load1 rfl rfl (v := Value.int .u8 x112.f_set) rfl rfl (fun _ => rfl) (cells_load (hs.cells 1 rfl) 6 1 (by first | rfl | (simp only [enc_S_spec_l07Node]; simp [List.drop_append, List.take_append, encAI_len, encAB_len, List.take_of_length_le]))) ?_
          refine g_d rfl ?_
          try dsimp only [set0,setS]
          refine s_lit1 (fkI .u8) (y := x112.f_set) hs rfl rfl rfl rfl (fun _ => rfl) (zv := (Value.int .u8 0)) (fun _ => rfl) rfl (by decide) (by decide) rfl ?_
          intro v116 w hs
          refine g_d rfl ?_
          try dsimp only [set0,setS]
          refine g_op (v := v114) rfl rfl rfl ?_
          refine g_d rfl ?_
          obtain ⟨g, H⟩ := ite_get H
          refine s_append (fkI .u8) (zv := (Value.int .u8 0)) (B := 1) hs (hs.row 3 rfl) rfl rfl rfl rfl rfl rfl rfl rfl rfl (by decide) rfl rfl (by decide) (by omega) ?_
          intro v118 w hs
          refine g_d rfl ?_
          try dsimp only [set0,setS]
          refine g_op (v := v118) rfl rfl rfl ?_
          refine g_d rfl ?_
          try dsimp only [set0,setS]
          refine g_ops_nil ?_
          refine g_region ?_
          show G _ _ _ (.inRegion _ [0, 1, 2, 3, 4, 5] :: _) _ _
          refine g_op (v := v96) rfl rfl rfl ?_
          refine g_d rfl ?_
          refine g_op (v := Value.pointer (some ⟨b100, 5, none⟩)) rfl rfl rfl ?_
          refine g_d rfl ?_
          refine s_load1 rfl rfl (v := Value.int .i64 x112.f_from) rfl rfl (fun _ => rfl) (cells_load (hs.cells 2 rfl) 5 1 (by first | rfl | (simp only [enc_S_spec_l07Node]; simp [List.drop_append, List.take_append, encAI_len, encAB_len, List.take_of_length_le]))) ?_
          refine g_d rfl ?_
          try dsimp only [set0,setS]
          obtain ⟨g16, H⟩ := ite_get H
          refine s_idx fk_S_spec_l07Node z_S_spec_l07Node (hs.row 1 rfl) rfl (fun _ => rfl) g16.1 g16.2 rfl rfl rfl rfl rfl ?_
          intro p120 hp120 lp120 op120
          refine g_d rfl ?_
          try dsimp only [set0,setS]
          refine s_loadA rfl rfl (es := (enc_S_spec_l07Node (rdL x97 x112.f_from z_S_spec_l07Node))) rfl rfl (fun _ => rfl) (n := 8) (fun _ => rfl) (fk_S_spec_l07Node.len _) hp120 ?_
          refine g_d rfl ?_
          try dsimp only [set0,setS]
          have hs := hs.pull 2 rfl
          have hs : St _ [_,_,_,_] _ := hs
          refine s_storeAll (n := 8) hs (fk_S_spec_l07Node.len _) rfl rfl (vs := (enc_S_spec_l07Node (rdL x97 x112.f_from z_S_spec_l07Node))) rfl rfl rfl (fun _ => rfl) (fk_S_spec_l07Node.len _) (fk_S_spec_l07Node.one _) ?_
          intro w hs
          refine g_n rfl ?_
          refine g_ops_nil ?_
          refine g_inBlock ?_
          obtain rfl := Option.some.inj H
          have hs := hs.pull 1 rfl
          have hs := hs.pull 1 rfl
          have hs := hs.pull 2 rfl
          have hs : St _ [_,_,_] _ := St.take (Γ' := [_]) hs
          exact ih2_ _ _ ⟨rdL x97 x112.f_from z_S_spec_l07Node, v118, ([x112.f_set]) ++ x115, Hx2_, rfl, hs⟩
      ·
       intro hb
       rw [if_neg (b_beq_f hb)] at H
       refine g_d rfl ?_
       try dsimp only [set0,setS]
       refine g_ops_nil ?_
       refine g_cond_false rfl ?_
       refine g_skip ?_
       refine g_seq ?_
       refine g_region ?_
       show G _ _ _ (.inRegion _ [0] :: _) _ _
       refine g_op (v := Value.int .i64 0) rfl rfl rfl ?_
       refine g_d rfl ?_
       try dsimp only [set0,setS]
       refine g_ops_nil ?_
       obtain ⟨o2_, Ho, Hr2_⟩ := bind_get H
       refine g_block_join (J := fun t w => ∃ x167 : (List Bool), ∃ v169 : Value, ∃ x170 : (List S_spec_l07Node), spec_PlanFrom.a4 N x98 x167 x170 = some x24_ ∧ Fr t (fun O => (v2::O 1::Value.int .i64 a4::O 3::O 4::O 5::O 6::O 7::O 8::Value.int .i64 r10::v11::v169::Value.int .i64 x98::O 13::O 14::O 15::O 16::O 17::O 18::O 19::O 20::O 21::O 22::O 23::O 24::O 25::O 26::O 27::O 28::O 29::O 30::O 31::O 32::O 33::O 34::O 35::O 36::O 37::O 38::O 39::O 40::O 41::O 42::O 43::O 44::O 45::O 46::O 47::O 48::O 49::O 50::O 51::O 52::O 53::O 54::O 55::O 56::O 57::O 58::O 59::O 60::O 61::O 62::O 63::O 64::O 65::O 66::O 67::O 68::O 69::O 70::O 71::O 72::O 73::O 74::O 75::O 76::O 77::O 78::O 79::O 80::O 81::O 82::O 83::O 84::O 85::O 86::O 87::O 88::O 89::O 90::O 91::O 92::O 93::O 94::O 95::O 96::O 97::O 98::O 99::O 100::O 101::O 102::O 103::O 104::O 105::O 106::O 107::O 108::O 109::O 110::O 111::O 112::O 113::O 114::O 115::O 116::O 117::O 118::O 119::O 120::O 121::O 122::O 123::O 124::O 125::O 126::[] : List Value)) ∧ St w0 [Row 4 K.bool v11 x167, Row 79 k_S_spec_l07Node v169 x170] w) ?_ ?_
       ·
        rintro t w ⟨x167, v169, x170, H, hf, hs⟩
        obtain ⟨O, rfl⟩ := hf.open
        try dsimp only
        unfold spec_PlanFrom.a4 at H
        refine g_inBlock ?_
        refine g_region ?_
        show G _ _ _ (.inRegion _ [0, 1, 2] :: _) _ _
        refine g_op (v := Value.int .i64 x98) rfl rfl rfl ?_
        refine g_d rfl ?_
        refine g_op (v := Value.int .i64 (i64w (x98 + 1))) rfl rfl rfl ?_
        refine g_d rfl ?_
        try dsimp only [set0,setS]
        refine g_op (v := Value.int .i64 (i64w (x98 + 1))) rfl rfl rfl ?_
        refine g_d rfl ?_
        try dsimp only [set0,setS]
        refine g_ops_nil ?_
        obtain rfl := Option.some.inj H
        have hs := hs.pull 1 rfl
        have hs := hs.pull 1 rfl
        have hs : St _ [_,_] _ := St.take (Γ' := []) hs
        exact ih1_ _ _ ⟨x167, v169, x170, i64w (x98 + 1), Hx1_, rfl, hs⟩
       ·
        intro ha2_
        have hs := hs.pull 0 rfl
        have hs := hs.pull 2 rfl
        have hs := hs.pull 2 rfl
        have hs : St _ [_,_,_] _ := St.take (Γ' := []) hs
        refine g_loop_fuel (I := fun n_ t w => ∃ x145 : (List Bool), ∃ v147 : Value, ∃ x148 : (List S_spec_l07Node), ∃ x149 : Int, rounds (fun s => spec_PlanFrom.b4 N a1 x97 x98 a4 r10 s.1 s.2.1 s.2.2) n_ (x145, x148, x149) = some o2_ ∧ Fr t (fun O => (v2::O 1::Value.int .i64 a4::O 3::O 4::O 5::O 6::O 7::O 8::Value.int .i64 r10::v11::v147::Value.int .i64 x98::Value.pointer (some ⟨b100, 0, none⟩)::O 14::Value.int .i64 x149::O 16::O 17::O 18::O 19::O 20::O 21::O 22::O 23::O 24::O 25::O 26::O 27::O 28::O 29::O 30::O 31::O 32::O 33::O 34::O 35::O 36::O 37::O 38::O 39::O 40::O 41::O 42::O 43::O 44::O 45::O 46::O 47::O 48::O 49::O 50::O 51::O 52::O 53::O 54::O 55::O 56::O 57::O 58::O 59::O 60::O 61::O 62::O 63::O 64::O 65::O 66::O 67::O 68::O 69::O 70::O 71::O 72::O 73::O 74::O 75::O 76::O 77::O 78::O 79::O 80::O 81::O 82::O 83::O 84::O 85::O 86::O 87::O 88::O 89::O 90::O 91::O 92::O 93::O 94::O 95::O 96::O 97::O 98::O 99::O 100::O 101::O 102::O 103::O 104::O 105::O 106::O 107::O 108::O 109::O 110::O 111::O 112::O 113::O 114::O 115::O 116::O 117::O 118::O 119::O 120::O 121::O 122::O 123::O 124::O 125::O 126::[] : List Value)) ∧ St w0 [Row 4 K.bool v11 x145, Row 79 k_S_spec_l07Node v147 x148, Cells b100 (enc_S_spec_l07Node (rdL x97 x98 z_S_spec_l07Node)) 79] w) N ⟨x94, v96, x97, 0, Ho, rfl, hs⟩ ?_ ?_
        ·
         rintro _ _ ⟨x145, v147, x148, x149, h, _⟩
         exact rounds_zero h
        ·
         intro n_ ih2_
         rintro t w ⟨x145, v147, x148, x149, Ho, hf, hs⟩
         obtain ⟨O, rfl⟩ := hf.open
         try dsimp only
         obtain ⟨x23_, H, Hx2_⟩ := rounds_succ Ho
         have H : spec_PlanFrom.b4 N a1 x97 x98 a4 r10 x145 x148 x149 = some x23_ := H
         unfold spec_PlanFrom.b4 at H
         refine g_seq ?_
         refine g_seq ?_
         refine g_region ?_
         show G _ _ _ (.inRegion _ [0, 1, 2, 3] :: _) _ _
         refine g_op (v := Value.int .i64 x149) rfl rfl rfl ?_
         refine g_d rfl ?_
         refine g_op (v := v2) rfl rfl rfl ?_
         refine g_d rfl ?_
         obtain ⟨r150, Hr150, H⟩ := bind_get H
         refine s_call (args := [v2]) rfl rfl (x_call rfl (callFunc_enter Try.func50 rfl rfl) rfl) (spec_l07Sets.calls (a1 := a1) (hs.rd hr0) Hr150) ?_
         rintro _ w ⟨rfl, hs2⟩
         have hs : St _ [_,_,_] _ := hs.call hs2
         refine g_d rfl ?_
         try dsimp only [set0,setS]
         refine g_op_b (B := decide (x149 < r150)) rfl rfl rfl ?_ ?_
         ·
          intro hb
          rw [if_pos (b_dec_t hb)] at H
          refine g_d rfl ?_
          try dsimp only [set0,setS]
          refine g_ops_nil ?_
          refine g_cond_true rfl ?_
          refine g_skip ?_
          refine g_seq ?_
          refine g_block_join (J := (fun t w => ∃ x162 : (List Bool), ∃ v164 : Value, ∃ x165 : (List S_spec_l07Node), spec_PlanFrom.j6 N x149 x162 x165 = some x23_ ∧ Fr t (fun O => (v2::O 1::Value.int .i64 a4::O 3::O 4::O 5::O 6::O 7::O 8::Value.int .i64 r10::v11::v164::Value.int .i64 x98::Value.pointer (some ⟨b100, 0, none⟩)::O 14::Value.int .i64 x149::O 16::O 17::O 18::O 19::O 20::O 21::O 22::O 23::O 24::O 25::O 26::O 27::O 28::O 29::O 30::O 31::O 32::O 33::O 34::O 35::O 36::O 37::O 38::O 39::O 40::O 41::O 42::O 43::O 44::O 45::O 46::O 47::O 48::O 49::O 50::O 51::O 52::O 53::O 54::O 55::O 56::O 57::O 58::O 59::O 60::O 61::O 62::O 63::O 64::O 65::O 66::O 67::O 68::O 69::O 70::O 71::O 72::O 73::O 74::O 75::O 76::O 77::O 78::O 79::O 80::O 81::O 82::O 83::O 84::O 85::O 86::O 87::O 88::O 89::O 90::O 91::O 92::O 93::O 94::O 95::O 96::O 97::O 98::O 99::O 100::O 101::O 102::O 103::O 104::O 105::O 106::O 107::O 108::O 109::O 110::O 111::O 112::O 113::O 114::O 115::O 116::O 117::O 118::O 119::O 120::O 121::O 122::O 123::O 124::O 125::O 126::[] : List Value)) ∧ St w0 [Row 4 K.bool v11 x162, Row 79 k_S_spec_l07Node v164 x165, Cells b100 (enc_S_spec_l07Node (rdL x97 x98 z_S_spec_l07Node)) 79] w)) ?_ ?_
          ·
           rintro t w ⟨x162, v164, x165, H, hf, hs⟩
           obtain ⟨O, rfl⟩ := hf.open
           try dsimp only
           unfold spec_PlanFrom.j6 at H
           refine g_region ?_
           show G _ _ _ (.inRegion _ [0, 1, 2] :: _) _ _
           refine g_op (v := Value.int .i64 x149) rfl rfl rfl ?_
           refine g_d rfl ?_
           refine g_op (v := Value.int .i64 (i64w (x149 + 1))) rfl rfl rfl ?_
           refine g_d rfl ?_
           try dsimp only [set0,setS]
           refine g_op (v := Value.int .i64 (i64w (x149 + 1))) rfl rfl rfl ?_
           refine g_d rfl ?_
           try dsimp only [set0,setS]
           refine g_ops_nil ?_
           obtain rfl := Option.some.inj H
           have hs := hs.pull 2 rfl
           have hs := hs.pull 2 rfl
           have hs := hs.pull 2 rfl
           have hs : St _ [_,_,_] _ := St.take (Γ' := []) hs
           exact ih2_ _ _ ⟨x162, v164, x165, i64w (x149 + 1), Hx2_, rfl, hs⟩
          ·
           intro ha
           refine g_seq ?_
           refine g_region ?_
           show G _ _ _ (.inRegion _ [0, 1, 2, 3, 4, 5, 6, 7, 8, 9, 10, 11, 12] :: _) _ _
           refine g_op (v := v2) rfl rfl rfl ?_
           refine g_d rfl ?_
           refine g_op (v := Value.pointer (some ⟨b100, 1, none⟩)) rfl rfl rfl ?_
           refine g_d rfl ?_
           refine s_loadA rfl rfl (es := ((encA (encI .i16)) ((rdL x97 x98 z_S_spec_l07Node).f_tops))) rfl rfl (fun _ => rfl) (n := 4) (fun _ => rfl) ((fkA (n := 4) (he := (fkI .i16).len) (h1 := (fkI .i16).one)).len _) (cells_load (hs.cells 2 rfl) 1 4 (by simp only [enc_S_spec_l07Node]; first | rfl | exact List.take_of_length_le (Nat.le_of_eq ((fkA (n := 4) (he := (fkI .i16).len) (h1 := (fkI .i16).one)).len _)) | simp [List.drop_append, List.take_append, encAI_len, encAB_len, encA_len, List.take_of_length_le])) ?_
           refine g_d rfl ?_
           try dsimp only [set0,setS]
           refine g_op (v := Value.int .i64 x149) rfl rfl rfl ?_
           refine g_d rfl ?_
           refine g_op (v := Value.int .u8 (u8w x149)) rfl rfl rfl ?_
           refine g_d rfl ?_
           obtain ⟨r151, Hr151, H⟩ := bind_get H
           refine s_call (args := [v2, Value.agg ((encA (encI .i16)) ((rdL x97 x98 z_S_spec_l07Node).f_tops)).toArray, Value.int .u8 (u8w x149)]) rfl rfl (x_call rfl (callFunc_enter Try.func52 rfl rfl) rfl) (spec_l07Turn.calls (a1 := a1) (a3 := (rdL x97 x98 z_S_spec_l07Node).f_tops) (a4 := u8w x149) (hs.rd hr0) Hr151) ?_
           rintro _ w ⟨rfl, hs2⟩
           have hs : St _ [_,_,_] _ := hs.call hs2
           refine g_d rfl ?_
           try dsimp only [set0,setS]
           obtain ⟨r152, Hr152, H⟩ := bind_get H
           refine s_call (args := [Value.agg ((encA (encI .i16)) r151).toArray]) rfl rfl (x_call rfl (callFunc_enter Try.func51 rfl rfl) rfl) (spec_l07Wait.calls (a1 := r151) Hr152) ?_
           rintro _ w ⟨rfl, hs2⟩
           have hs : St _ [_,_,_] _ := hs.call hs2
           refine g_d rfl ?_
           try dsimp only [set0,setS]
           refine g_op (v := Value.tuple #[Value.agg ((encA (encI .i16)) r152.1).toArray, Value.int .i64 r152.2]) rfl rfl rfl ?_
           refine g_d rfl ?_
           refine g_op (v := Value.agg ((encA (encI .i16)) r152.1).toArray) rfl rfl rfl ?_
           refine g_d rfl ?_
           refine g_op (v := Value.int .i64 r152.2) rfl rfl rfl ?_
           refine g_d rfl ?_
           refine s_alloc hs rfl rfl (z := (Value.agg #[Value.int .i16 0, Value.int .i16 0, Value.int .i16 0, Value.int .i16 0])) (cs := ((encA (encI .i16)) (Ar.rep 4 0))) rfl (fun _ => rfl) rfl ?_
           intro b153 w hs
           refine g_d rfl ?_
           try dsimp only [set0,setS]
           refine s_storeAll (n := 4) hs ((fkA (n := 4) (he := (fkI .i16).len) (h1 := (fkI .i16).one)).len _) rfl rfl (vs := ((encA (encI .i16)) r152.1)) rfl rfl rfl (fun _ => rfl) ((fkA (n := 4) (he := (fkI .i16).len) (h1 := (fkI .i16).one)).len _) ((fkA (n := 4) (he := (fkI .i16).len) (h1 := (fkI .i16).one)).one _) ?_
           intro w hs
           refine g_n rfl ?_
           refine g_op (v := Value.int .i64 r152.2) rfl rfl rfl ?_
           refine g_d rfl ?_
           try dsimp only [set0,setS]
           refine g_ops_nil ?_
           refine g_seq ?_
           refine g_seq ?_
           refine g_region ?_
           show G _ _ _ (.inRegion _ [0, 1, 2, 3, 4, 5, 6, 7, 8, 9] :: _) _ _
           refine g_op (v := Value.int .i64 r152.2) rfl rfl rfl ?_
           refine g_d rfl ?_
           refine g_op_b (B := r152.2 == 0) rfl rfl rfl ?_ ?_
           ·
            intro hb
            rw [if_pos (b_beq_t hb)] at H
            refine g_d rfl ?_
            try dsimp only [set0,setS]
            refine g_op (v := Value.bool true) rfl rfl rfl ?_
            refine g_d rfl ?_
            refine g_op_not rfl rfl ?_
            refine g_d rfl ?_
            refine g_op_not rfl rfl ?_
            refine g_d rfl ?_
            try dsimp only [set0,setS]
            refine g_op_not rfl rfl ?_
            refine g_d rfl ?_
            refine g_op_not rfl rfl ?_
            refine g_d rfl ?_
            try dsimp only [set0,setS]
            refine g_op_not rfl rfl ?_
            refine g_d rfl ?_
            refine g_op_not rfl rfl ?_
            refine g_d rfl ?_
            try dsimp only [set0,setS]
            refine g_op (v := Value.bool true) rfl rfl rfl ?_
            refine g_d rfl ?_
            try dsimp only [set0,setS]
            refine g_ops_nil ?_
            refine g_cond_true rfl ?_
            refine g_exit rfl ?_
            have hs := hs.pull 3 rfl
            have hs := hs.pull 3 rfl
            have hs := hs.pull 3 rfl
            have hs : St _ [_,_,_] _ := St.take (Γ' := [_]) hs
            exact ha _ _ ⟨x145, v147, x148, H, rfl, hs⟩
           ·
            intro hb
            rw [if_neg (b_beq_f hb)] at H
            refine g_d rfl ?_
            try dsimp only [set0,setS]
            refine g_op (v := Value.bool false) rfl rfl rfl ?_
            refine g_d rfl ?_
            refine g_op (v := Value.pointer (some ⟨b100, 0, none⟩)) rfl rfl rfl ?_
            refine g_d rfl ?_
            refine s_load1 rfl rfl (v := Value.int .i64 ((rdL x97 x98 z_S_spec_l07Node).f_time)) rfl rfl (fun _ => rfl) (cells_load (hs.cells 3 rfl) 0 1 (by first | rfl | (simp only [enc_S_spec_l07Node]; simp [List.drop_append, List.take_append, encAI_len, encAB_len, List.take_of_length_le]))) ?_
            refine g_d rfl ?_
            try dsimp only [set0,setS]
            refine g_op (v := Value.int .i64 r152.2) rfl rfl rfl ?_
            refine g_d rfl ?_
            refine g_op (v := Value.int .i64 (i64w (((rdL x97 x98 z_S_spec_l07Node).f_time) + r152.2))) rfl rfl rfl ?_
            refine g_d rfl ?_
            try dsimp only [set0,setS]
            refine g_op (v := Value.int .i64 a4) rfl rfl rfl ?_
            refine g_d rfl ?_
            refine g_op_b (B := decide ((i64w (((rdL x97 x98 z_S_spec_l07Node).f_time) + r152.2)) > a4)) rfl rfl rfl ?_ ?_
            ·
             intro hb
             rw [if_pos (b_dec_t hb)] at H
             refine g_d rfl ?_
             try dsimp only [set0,setS]
             refine g_op (v := Value.bool true) rfl rfl rfl ?_
             refine g_d rfl ?_
             try dsimp only [set0,setS]
             refine g_ops_nil ?_
             refine g_cond_true rfl ?_
             refine g_exit rfl ?_
             have hs := hs.pull 3 rfl
             have hs := hs.pull 3 rfl
             have hs := hs.pull 3 rfl
             have hs : St _ [_,_,_] _ := St.take (Γ' := [_]) hs
             exact ha _ _ ⟨x145, v147, x148, H, rfl, hs⟩
            ·
             intro hb
             rw [if_neg (b_dec_f hb)] at H
             refine g_d rfl ?_
             try dsimp only [set0,setS]
             refine g_op (v := Value.bool false) rfl rfl rfl ?_
             refine g_d rfl ?_
             try dsimp only [set0,setS]
             refine g_ops_nil ?_
             refine g_cond_false rfl ?_
             refine g_skip ?_
             refine g_seq ?_
             obtain ⟨r155, Hr155, H⟩ := bind_get H
             refine g_name ?_
             intro T hT
             refine g_any (n := 11) rfl [0, 1, 2, 3, 4, 5, 6, 7, 8, 9, 10] [0, 1, 2, 3, 4, 5, 6, 7, 8, 9, 10] rfl rfl (Inv := fun D t w => ∃ O : Nat → Value, t = (v2::O 1::Value.int .i64 a4::O 3::O 4::O 5::O 6::O 7::O 8::Value.int .i64 r10::v11::v147::Value.int .i64 x98::Value.pointer (some ⟨b100, 0, none⟩)::O 14::Value.int .i64 x149::Value.pointer (some ⟨b153, 0, none⟩)::Value.int .i64 r152.2::cnd (D 10) (Value.int .i64 (i64w ((i64w ((i64w (((rdL x97 x98 z_S_spec_l07Node).f_time) + r152.2)) * r10)) + r155))) (O 18)::O 19::O 20::O 21::O 22::O 23::O 24::O 25::O 26::O 27::O 28::O 29::O 30::O 31::O 32::O 33::O 34::O 35::O 36::O 37::O 38::O 39::O 40::O 41::O 42::O 43::O 44::O 45::O 46::O 47::O 48::O 49::O 50::O 51::O 52::O 53::O 54::O 55::O 56::O 57::O 58::O 59::O 60::O 61::O 62::O 63::O 64::O 65::O 66::O 67::O 68::O 69::O 70::Value.int .i64 x149::v2::Value.int .i64 r150::Value.bool true::O 75::O 76::Value.tuple #[Value.agg ((encA (encI .i16)) r152.1).toArray, Value.int .i64 r152.2]::v2::Value.pointer (some ⟨b100, 1, none⟩)::Value.agg ((encA (encI .i16)) ((rdL x97 x98 z_S_spec_l07Node).f_tops)).toArray::Value.int .i64 x149::Value.int .u8 (u8w x149)::Value.agg ((encA (encI .i16)) r151).toArray::Value.tuple #[Value.agg ((encA (encI .i16)) r152.1).toArray, Value.int .i64 r152.2]::Value.agg ((encA (encI .i16)) r152.1).toArray::Value.int .i64 r152.2::Value.int .i64 r152.2::Value.bool false::Value.bool false::Value.pointer (some ⟨b100, 0, none⟩)::Value.int .i64 ((rdL x97 x98 z_S_spec_l07Node).f_time)::Value.int .i64 r152.2::Value.int .i64 (i64w (((rdL x97 x98 z_S_spec_l07Node).f_time) + r152.2))::Value.int .i64 a4::Value.bool false::Value.bool false::cnd (D 0) (Value.pointer (some ⟨b100, 0, none⟩)) (O 97)::cnd (D 1) (Value.int .i64 ((rdL x97 x98 z_S_spec_l07Node).f_time)) (O 98)::cnd (D 2) (Value.int .i64 r152.2) (O 99)::cnd (D 3) (Value.int .i64 (i64w (((rdL x97 x98 z_S_spec_l07Node).f_time) + r152.2))) (O 100)::cnd (D 4) (Value.int .i64 r10) (O 101)::cnd (D 5) (Value.int .i64 (i64w ((i64w (((rdL x97 x98 z_S_spec_l07Node).f_time) + r152.2)) * r10))) (O 102)::cnd (D 6) v2 (O 103)::cnd (D 7) (Value.agg ((encA (encI .i16)) r152.1).toArray) (O 104)::cnd (D 8) (Value.int .i64 r155) (O 105)::cnd (D 9) (Value.int .i64 (i64w ((i64w ((i64w (((rdL x97 x98 z_S_spec_l07Node).f_time) + r152.2)) * r10)) + r155))) (O 106)::O 107::O 108::O 109::O 110::O 111::O 112::O 113::O 114::O 115::O 116::O 117::O 118::O 119::O 120::O 121::O 122::O 123::O 124::O 125::O 126::[]) ∧ St w0 [Cells b153 ((encA (encI .i16)) r152.1) 29, Row 4 K.bool v11 x145, Row 79 k_S_spec_l07Node v147 x148, Cells b100 (enc_S_spec_l07Node (rdL x97 x98 z_S_spec_l07Node)) 79] w) ?_ ⟨⟨⟨⟨⟨⟨⟨⟨⟨⟨⟨trivial, ?_⟩, ?_⟩, ?_⟩, ?_⟩, ?_⟩, ?_⟩, ?_⟩, ?_⟩, ?_⟩, ?_⟩, ?_⟩ ?_
             ·
              intro w hh hbw
              have hs := hs.samew hh hbw
              exact ⟨fun i => T.getD i undef, (by subst hT; rfl), hs⟩
             ·
              intro D t w hD hp hcl hI rest hk
              obtain ⟨O, ht, hs⟩ := hI
              have q1_ : D 1 = false := not_yet (hcl.get 1 (by decide)) 0 0 rfl hD
              have q3_ : D 3 = false := not_yet (hcl.get 3 (by decide)) 0 1 rfl q1_
              have q5_ : D 5 = false := not_yet (hcl.get 5 (by decide)) 0 3 rfl q3_
              have q9_ : D 9 = false := not_yet (hcl.get 9 (by decide)) 0 5 rfl q5_
              have q10_ : D 10 = false := not_yet (hcl.get 10 (by decide)) 0 9 rfl q9_
              simp only [hD, q1_, q3_, q5_, q9_, q10_, cnd_t, cnd_f, Asc_t, Asc_f] at ht hs
              subst ht
              refine g_op (v := Value.pointer (some ⟨b100, 0, none⟩)) rfl rfl rfl ?_
              refine g_d rfl ?_
              try dsimp only [set0,setS]
              exact hk _ _ ⟨O, (by simp only [upd, Nat.reduceBEq, Bool.true_or, Bool.false_or, q1_, q3_, q5_, q9_, q10_, cnd_t, cnd_f, Asc_t, Asc_f]), hs.cast (by first | rfl | simp only [List.take, List.drop, List.cons_append, List.nil_append, List.set_cons_zero, List.set_cons_succ, List.eraseIdx, upd, Nat.reduceBEq, Bool.true_or, Bool.false_or, q1_, q3_, q5_, q9_, q10_, cnd_t, cnd_f, Asc_t, Asc_f])⟩
             ·
              intro D t w hD hp hcl hI rest hk
              obtain ⟨O, ht, hs⟩ := hI
              obtain ⟨p0_, _⟩ := hp
              have q3_ : D 3 = false := not_yet (hcl.get 3 (by decide)) 0 1 rfl hD
              have q5_ : D 5 = false := not_yet (hcl.get 5 (by decide)) 0 3 rfl q3_
              have q9_ : D 9 = false := not_yet (hcl.get 9 (by decide)) 0 5 rfl q5_
              have q10_ : D 10 = false := not_yet (hcl.get 10 (by decide)) 0 9 rfl q9_
              simp only [hD, p0_, q3_, q5_, q9_, q10_, cnd_t, cnd_f, Asc_t, Asc_f] at ht hs
              subst ht
              refine s_load1 rfl rfl (v := Value.int .i64 ((rdL x97 x98 z_S_spec_l07Node).f_time)) rfl rfl (fun _ => rfl) (cells_load (hs.cells 3 rfl) 0 1 (by first | rfl | (simp only [enc_S_spec_l07Node]; simp [List.drop_append, List.take_append, encAI_len, encAB_len, List.take_of_length_le]))) ?_
              refine g_d rfl ?_
              try dsimp only [set0,setS]
              exact hk _ _ ⟨O, (by simp only [upd, Nat.reduceBEq, Bool.true_or, Bool.false_or, p0_, q3_, q5_, q9_, q10_, cnd_t, cnd_f, Asc_t, Asc_f]), hs.cast (by first | rfl | simp only [List.take, List.drop, List.cons_append, List.nil_append, List.set_cons_zero, List.set_cons_succ, List.eraseIdx, upd, Nat.reduceBEq, Bool.true_or, Bool.false_or, p0_, q3_, q5_, q9_, q10_, cnd_t, cnd_f, Asc_t, Asc_f])⟩
             ·
              intro D t w hD hp hcl hI rest hk
              obtain ⟨O, ht, hs⟩ := hI
              have q3_ : D 3 = false := not_yet (hcl.get 3 (by decide)) 1 2 rfl hD
              have q5_ : D 5 = false := not_yet (hcl.get 5 (by decide)) 0 3 rfl q3_
              have q9_ : D 9 = false := not_yet (hcl.get 9 (by decide)) 0 5 rfl q5_
              have q10_ : D 10 = false := not_yet (hcl.get 10 (by decide)) 0 9 rfl q9_
              simp only [hD, q3_, q5_, q9_, q10_, cnd_t, cnd_f, Asc_t, Asc_f] at ht hs
              subst ht
              refine g_op (v := Value.int .i64 r152.2) rfl rfl rfl ?_
              refine g_d rfl ?_
              try dsimp only [set0,setS]
              exact hk _ _ ⟨O, (by simp only [upd, Nat.reduceBEq, Bool.true_or, Bool.false_or, q3_, q5_, q9_, q10_, cnd_t, cnd_f, Asc_t, Asc_f]), hs.cast (by first | rfl | simp only [List.take, List.drop, List.cons_append, List.nil_append, List.set_cons_zero, List.set_cons_succ, List.eraseIdx, upd, Nat.reduceBEq, Bool.true_or, Bool.false_or, q3_, q5_, q9_, q10_, cnd_t, cnd_f, Asc_t, Asc_f])⟩
             ·
              intro D t w hD hp hcl hI rest hk
              obtain ⟨O, ht, hs⟩ := hI
              obtain ⟨p1_, p2_, _⟩ := hp
              obtain ⟨p0_, _⟩ := (hcl.get 1 (by decide)) p1_
              have q5_ : D 5 = false := not_yet (hcl.get 5 (by decide)) 0 3 rfl hD
              have q9_ : D 9 = false := not_yet (hcl.get 9 (by decide)) 0 5 rfl q5_
              have q10_ : D 10 = false := not_yet (hcl.get 10 (by decide)) 0 9 rfl q9_
              simp only [hD, p0_, p1_, p2_, q5_, q9_, q10_, cnd_t, cnd_f, Asc_t, Asc_f] at ht hs
              subst ht
              refine g_op (v := Value.int .i64 (i64w (((rdL x97 x98 z_S_spec_l07Node).f_time) + r152.2))) rfl rfl rfl ?_
              refine g_d rfl ?_
              try dsimp only [set0,setS]
              exact hk _ _ ⟨O, (by simp only [upd, Nat.reduceBEq, Bool.true_or, Bool.false_or, p0_, p1_, p2_, q5_, q9_, q10_, cnd_t, cnd_f, Asc_t, Asc_f]), hs.cast (by first | rfl | simp only [List.take, List.drop, List.cons_append, List.nil_append, List.set_cons_zero, List.set_cons_succ, List.eraseIdx, upd, Nat.reduceBEq, Bool.true_or, Bool.false_or, p0_, p1_, p2_, q5_, q9_, q10_, cnd_t, cnd_f, Asc_t, Asc_f])⟩
             ·
              intro D t w hD hp hcl hI rest hk
              obtain ⟨O, ht, hs⟩ := hI
              have q5_ : D 5 = false := not_yet (hcl.get 5 (by decide)) 1 4 rfl hD
              have q9_ : D 9 = false := not_yet (hcl.get 9 (by decide)) 0 5 rfl q5_
              have q10_ : D 10 = false := not_yet (hcl.get 10 (by decide)) 0 9 rfl q9_
              simp only [hD, q5_, q9_, q10_, cnd_t, cnd_f, Asc_t, Asc_f] at ht hs
              subst ht
              refine g_op (v := Value.int .i64 r10) rfl rfl rfl ?_
              refine g_d rfl ?_
              try dsimp only [set0,setS]
              exact hk _ _ ⟨O, (by simp only [upd, Nat.reduceBEq, Bool.true_or, Bool.false_or, q5_, q9_, q10_, cnd_t, cnd_f, Asc_t, Asc_f]), hs.cast (by first | rfl | simp only [List.take, List.drop, List.cons_append, List.nil_append, List.set_cons_zero, List.set_cons_succ, List.eraseIdx, upd, Nat.reduceBEq, Bool.true_or, Bool.false_or, q5_, q9_, q10_, cnd_t, cnd_f, Asc_t, Asc_f])⟩
             ·
              intro D t w hD hp hcl hI rest hk
              obtain ⟨O, ht, hs⟩ := hI
              obtain ⟨p3_, p4_, _⟩ := hp
              obtain ⟨p1_, p2_, _⟩ := (hcl.get 3 (by decide)) p3_
              obtain ⟨p0_, _⟩ := (hcl.get 1 (by decide)) p1_
              have q9_ : D 9 = false := not_yet (hcl.get 9 (by decide)) 0 5 rfl hD
              have q10_ : D 10 = false := not_yet (hcl.get 10 (by decide)) 0 9 rfl q9_
              simp only [hD, p0_, p1_, p2_, p3_, p4_, q9_, q10_, cnd_t, cnd_f, Asc_t, Asc_f] at ht hs
              subst ht
              refine g_op (v := Value.int .i64 (i64w ((i64w (((rdL x97 x98 z_S_spec_l07Node).f_time) + r152.2)) * r10))) rfl rfl rfl ?_
              refine g_d rfl ?_
              try dsimp only [set0,setS]
              exact hk _ _ ⟨O, (by simp only [upd, Nat.reduceBEq, Bool.true_or, Bool.false_or, p0_, p1_, p2_, p3_, p4_, q9_, q10_, cnd_t, cnd_f, Asc_t, Asc_f]), hs.cast (by first | rfl | simp only [List.take, List.drop, List.cons_append, List.nil_append, List.set_cons_zero, List.set_cons_succ, List.eraseIdx, upd, Nat.reduceBEq, Bool.true_or, Bool.false_or, p0_, p1_, p2_, p3_, p4_, q9_, q10_, cnd_t, cnd_f, Asc_t, Asc_f])⟩
             ·
              intro D t w hD hp hcl hI rest hk
              obtain ⟨O, ht, hs⟩ := hI
              have q8_ : D 8 = false := not_yet (hcl.get 8 (by decide)) 0 6 rfl hD
              have q9_ : D 9 = false := not_yet (hcl.get 9 (by decide)) 1 8 rfl q8_
              have q10_ : D 10 = false := not_yet (hcl.get 10 (by decide)) 0 9 rfl q9_
              simp only [hD, q8_, q9_, q10_, cnd_t, cnd_f, Asc_t, Asc_f] at ht hs
              subst ht
              refine g_op (v := v2) rfl rfl rfl ?_
              refine g_d rfl ?_
              try dsimp only [set0,setS]
              exact hk _ _ ⟨O, (by simp only [upd, Nat.reduceBEq, Bool.true_or, Bool.false_or, q8_, q9_, q10_, cnd_t, cnd_f, Asc_t, Asc_f]), hs.cast (by first | rfl | simp only [List.take, List.drop, List.cons_append, List.nil_append, List.set_cons_zero, List.set_cons_succ, List.eraseIdx, upd, Nat.reduceBEq, Bool.true_or, Bool.false_or, q8_, q9_, q10_, cnd_t, cnd_f, Asc_t, Asc_f])⟩
             ·
              intro D t w hD hp hcl hI rest hk
              obtain ⟨O, ht, hs⟩ := hI
              have q8_ : D 8 = false := not_yet (hcl.get 8 (by decide)) 1 7 rfl hD
              have q9_ : D 9 = false := not_yet (hcl.get 9 (by decide)) 1 8 rfl q8_
              have q10_ : D 10 = false := not_yet (hcl.get 10 (by decide)) 0 9 rfl q9_
              simp only [hD, q8_, q9_, q10_, cnd_t, cnd_f, Asc_t, Asc_f] at ht hs
              subst ht
              refine s_loadA rfl rfl (es := ((encA (encI .i16)) r152.1)) rfl rfl (fun _ => rfl) (n := 4) (fun _ => rfl) ((fkA (n := 4) (he := (fkI .i16).len) (h1 := (fkI .i16).one)).len _) (cells_all (hs.cells 0 rfl)) ?_
              refine g_d rfl ?_
              try dsimp only [set0,setS]
              exact hk _ _ ⟨O, (by simp only [upd, Nat.reduceBEq, Bool.true_or, Bool.false_or, q8_, q9_, q10_, cnd_t, cnd_f, Asc_t, Asc_f]), hs.cast (by first | rfl | simp only [List.take, List.drop, List.cons_append, List.nil_append, List.set_cons_zero, List.set_cons_succ, List.eraseIdx, upd, Nat.reduceBEq, Bool.true_or, Bool.false_or, q8_, q9_, q10_, cnd_t, cnd_f, Asc_t, Asc_f])⟩
             ·
              intro D t w hD hp hcl hI rest hk
              obtain ⟨O, ht, hs⟩ := hI
              obtain ⟨p6_, p7_, _⟩ := hp
              have q9_ : D 9 = false := not_yet (hcl.get 9 (by decide)) 1 8 rfl hD
              have q10_ : D 10 = false := not_yet (hcl.get 10 (by decide)) 0 9 rfl q9_
              simp only [hD, p6_, p7_, q9_, q10_, cnd_t, cnd_f, Asc_t, Asc_f] at ht hs
              subst ht
              refine s_call (args := [v2, Value.agg ((encA (encI .i16)) r152.1).toArray]) rfl rfl (x_call rfl (callFunc_enter Try.func49 rfl rfl) rfl) (spec_l07Index.calls (a1 := a1) (a3 := r152.1) (hs.rd hr0) Hr155) ?_
              rintro _ w ⟨rfl, hs2⟩
              have hs : St _ [_,_,_,_] _ := hs.call hs2
              refine g_d rfl ?_
              try dsimp only [set0,setS]
              exact hk _ _ ⟨O, (by simp only [upd, Nat.reduceBEq, Bool.true_or, Bool.false_or, p6_, p7_, q9_, q10_, cnd_t, cnd_f, Asc_t, Asc_f]), hs.cast (by first | rfl | simp only [List.take, List.drop, List.cons_append, List.nil_append, List.set_cons_zero, List.set_cons_succ, List.eraseIdx, upd, Nat.reduceBEq, Bool.true_or, Bool.false_or, p6_, p7_, q9_, q10_, cnd_t, cnd_f, Asc_t, Asc_f])⟩
             ·
              intro D t w hD hp hcl hI rest hk
              obtain ⟨O, ht, hs⟩ := hI
              obtain ⟨p5_, p8_, _⟩ := hp
              obtain ⟨p6_, p7_, _⟩ := (hcl.get 8 (by decide)) p8_
              obtain ⟨p3_, p4_, _⟩ := (hcl.get 5 (by decide)) p5_
              obtain ⟨p1_, p2_, _⟩ := (hcl.get 3 (by decide)) p3_
              obtain ⟨p0_, _⟩ := (hcl.get 1 (by decide)) p1_
              have q10_ : D 10 = false := not_yet (hcl.get 10 (by decide)) 0 9 rfl hD
              simp only [hD, p0_, p1_, p2_, p3_, p4_, p5_, p6_, p7_, p8_, q10_, cnd_t, cnd_f, Asc_t, Asc_f] at ht hs
              subst ht
              refine g_op (v := Value.int .i64 (i64w ((i64w ((i64w (((rdL x97 x98 z_S_spec_l07Node).f_time) + r152.2)) * r10)) + r155))) rfl rfl rfl ?_
              refine g_d rfl ?_
              try dsimp only [set0,setS]
              exact hk _ _ ⟨O, (by simp only [upd, Nat.reduceBEq, Bool.true_or, Bool.false_or, p0_, p1_, p2_, p3_, p4_, p5_, p6_, p7_, p8_, q10_, cnd_t, cnd_f, Asc_t, Asc_f]), hs.cast (by first | rfl | simp only [List.take, List.drop, List.cons_append, List.nil_append, List.set_cons_zero, List.set_cons_succ, List.eraseIdx, upd, Nat.reduceBEq, Bool.true_or, Bool.false_or, p0_, p1_, p2_, p3_, p4_, p5_, p6_, p7_, p8_, q10_, cnd_t, cnd_f, Asc_t, Asc_f])⟩
             ·
              intro D t w hD hp hcl hI rest hk
              obtain ⟨O, ht, hs⟩ := hI
              obtain ⟨p9_, p8_, p0_, p1_, p2_, p3_, p4_, p5_, p6_, p7_, _, _, _⟩ := hp
              simp only [hD, p0_, p1_, p2_, p3_, p4_, p5_, p6_, p7_, p8_, p9_, cnd_t, cnd_f, Asc_t, Asc_f] at ht hs
              subst ht
              refine g_op (v := Value.int .i64 (i64w ((i64w ((i64w (((rdL x97 x98 z_S_spec_l07Node).f_time) + r152.2)) * r10)) + r155))) rfl rfl rfl ?_
              refine g_d rfl ?_
              try dsimp only [set0,setS]
              exact hk _ _ ⟨O, (by simp only [upd, Nat.reduceBEq, Bool.true_or, Bool.false_or, p0_, p1_, p2_, p3_, p4_, p5_, p6_, p7_, p8_, p9_, cnd_t, cnd_f, Asc_t, Asc_f]), hs.cast (by first | rfl | simp only [List.take, List.drop, List.cons_append, List.nil_append, List.set_cons_zero, List.set_cons_succ, List.eraseIdx, upd, Nat.reduceBEq, Bool.true_or, Bool.false_or, p0_, p1_, p2_, p3_, p4_, p5_, p6_, p7_, p8_, p9_, cnd_t, cnd_f, Asc_t, Asc_f])⟩
             ·
              intro D t w hall hI
              obtain ⟨O, ht, hs⟩ := hI
              have p0_ : D 0 = true := hall 0 (by decide)
              have p1_ : D 1 = true := hall 1 (by decide)
              have p2_ : D 2 = true := hall 2 (by decide)
              have p3_ : D 3 = true := hall 3 (by decide)
              have p4_ : D 4 = true := hall 4 (by decide)
              have p5_ : D 5 = true := hall 5 (by decide)
              have p6_ : D 6 = true := hall 6 (by decide)
              have p7_ : D 7 = true := hall 7 (by decide)
              have p8_ : D 8 = true := hall 8 (by decide)
              have p9_ : D 9 = true := hall 9 (by decide)
              have p10_ : D 10 = true := hall 10 (by decide)
              simp only [p0_, p1_, p2_, p3_, p4_, p5_, p6_, p7_, p8_, p9_, p10_, cnd_t, cnd_f, Asc_t, Asc_f] at ht hs
              subst ht
              refine g_seq ?_
              refine g_seq ?_
              refine g_region ?_
              show G _ _ _ (.inRegion _ [0, 1, 2, 3] :: _) _ _
              refine g_op (v := v11) rfl rfl rfl ?_
              refine g_d rfl ?_
              refine g_op (v := Value.int .i64 (i64w ((i64w ((i64w (((rdL x97 x98 z_S_spec_l07Node).f_time) + r152.2)) * r10)) + r155))) rfl rfl rfl ?_
              refine g_d rfl ?_
              obtain ⟨g21, H⟩ := ite_get H
              refine s_idx fkB false (hs.row 1 rfl) rfl (fun _ => rfl) g21.1 g21.2 rfl rfl rfl rfl rfl ?_
              intro p156 hp156 lp156 op156
              refine g_d rfl ?_
              try dsimp only [set0,setS]
              refine s_load1 rfl rfl (v := Value.bool (rdL x145 (i64w ((i64w ((i64w (((rdL x97 x98 z_S_spec_l07Node).f_time) + r152.2)) * r10)) + r155)) false)) rfl rfl (fun _ => rfl) hp156 ?_
              refine g_d rfl ?_
              try dsimp only [set0,setS]
              refine g_ops_nil ?_
              refine g_cond_b (b := rdL x145 (i64w ((i64w ((i64w (((rdL x97 x98 z_S_spec_l07Node).f_time) + r152.2)) * r10)) + r155)) false) rfl ?_ ?_
              ·
               intro hb
               rw [if_pos (b_var_t hb)] at H
               refine g_exit rfl ?_
               have hs := hs.pull 3 rfl
               have hs := hs.pull 3 rfl
               have hs := hs.pull 3 rfl
               have hs : St _ [_,_,_] _ := St.take (Γ' := [_]) hs
               exact ha _ _ ⟨x145, v147, x148, H, rfl, hs⟩
              ·
               intro hb
               rw [if_neg (b_var_f hb)] at H
               refine g_skip ?_
               refine g_seq ?_
               refine g_region ?_
               show G _ _ _ (.inRegion _ [0, 1, 2, 3] :: _) _ _
               refine g_op (v := v11) rfl rfl rfl ?_
               refine g_d rfl ?_
               refine g_op (v := Value.int .i64 (i64w ((i64w ((i64w (((rdL x97 x98 z_S_spec_l07Node).f_time) + r152.2)) * r10)) + r155))) rfl rfl rfl ?_
               refine g_d rfl ?_
               obtain ⟨g22, H⟩ := ite_get H
               refine s_idx fkB false (hs.row 1 rfl) rfl (fun _ => rfl) g22.1 g22.2 rfl rfl rfl rfl rfl ?_
               intro p157 hp157 lp157 op157
               refine g_d rfl ?_
               try dsimp only [set0,setS]
               have hs := hs.pull 1 rfl
               have hs : St _ [_,_,_,_] _ := hs
               refine s_stRow (y := true) fkB g22.1 g22.2 op157 hs rfl rfl rfl rfl rfl (fun _ => rfl) ?_
               intro w hs
               refine g_n rfl ?_
               refine g_ops_nil ?_
               refine g_region ?_
               show G _ _ _ (.inRegion _ [0, 1, 2, 3, 4, 5, 6, 7, 8, 9, 10, 11, 12] :: _) _ _
               refine g_op (v := v147) rfl rfl rfl ?_
               refine g_d rfl ?_
               refine g_op (v := Value.pointer (some ⟨b100, 0, none⟩)) rfl rfl rfl ?_
               refine g_d rfl ?_
               refine s_load1 rfl rfl (v := Value.int .i64 ((rdL x97 x98 z_S_spec_l07Node).f_time)) rfl rfl (fun _ => rfl) (cells_load (hs.cells 3 rfl) 0 1 (by first | rfl | (simp only [enc_S_spec_l07Node]; simp [List.drop_append, List.take_append, encAI_len, encAB_len, List.take_of_length_le]))) ?_
               refine g_d rfl ?_
               try dsimp only [set0,setS]
               refine g_op (v := Value.int .i64 r152.2) rfl rfl rfl ?_
               refine g_d rfl ?_
               refine g_op (v := Value.int .i64 (i64w (((rdL x97 x98 z_S_spec_l07Node).f_time) + r152.2))) rfl rfl rfl ?_
               refine g_d rfl ?_
               try dsimp only [set0,setS]
               refine s_loadA rfl rfl (es := ((encA (encI .i16)) r152.1)) rfl rfl (fun _ => rfl) (n := 4) (fun _ => rfl) ((fkA (n := 4) (he := (fkI .i16).len) (h1 := (fkI .i16).one)).len _) (cells_all (hs.cells 1 rfl)) ?_
               refine g_d rfl ?_
               try dsimp only [set0,setS]
               refine g_op (v := Value.int .i64 x98) rfl rfl rfl ?_
               refine g_d rfl ?_
               refine g_op (v := Value.int .i64 x149) rfl rfl rfl ?_
               refine g_d rfl ?_
               refine g_op (v := Value.int .u8 (u8w x149)) rfl rfl rfl ?_
               refine g_d rfl ?_
               refine g_op (v := Value.agg (enc_S_spec_l07Node (⟨i64w (((rdL x97 x98 z_S_spec_l07Node).f_time) + r152.2), r152.1, x98, u8w x149, false⟩ : S_spec_l07Node)).toArray) rfl rfl (x_buildS (cs := (enc_S_spec_l07Node (⟨i64w (((rdL x97 x98 z_S_spec_l07Node).f_time) + r152.2), r152.1, x98, u8w x149, false⟩ : S_spec_l07Node))) (segs := [[Value.int .i64 0], [Value.int .i16 0, Value.int .i16 0, Value.int .i16 0, Value.int .i16 0], [Value.int .i64 0], [Value.int .u8 0], [Value.bool false]]) rfl rfl (fun _ => rfl) ⟨rfl, (fun _ => rfl), rfl, (fun _ => rfl), rfl, (fun _ => rfl), rfl, (fun _ => rfl), rfl, (fun _ => rfl), trivial⟩ (by simp only [List.map_cons, List.map_nil, List.forall_mem_cons, List.not_mem_nil, false_implies, implies_true, and_true]; exact ⟨⟨_, rfl, rfl⟩, ⟨_, rfl, (fkA (n := 4) (he := (fkI .i16).len) (h1 := (fkI .i16).one)).len _⟩, ⟨_, rfl, rfl⟩, ⟨_, rfl, rfl⟩⟩) (by first | rfl | (simp [ev, enc_S_spec_l07Node]; done) | (simp [ev, enc_S_spec_l07Node]; rfl))) ?_
               refine g_d rfl ?_
               try dsimp only [set0,setS]
               refine s_lit1 fk_S_spec_l07Node (y := (⟨i64w (((rdL x97 x98 z_S_spec_l07Node).f_time) + r152.2), r152.1, x98, u8w x149, false⟩ : S_spec_l07Node)) hs rfl rfl rfl rfl (fun _ => rfl) (zv := (Value.agg #[Value.int .i64 0, Value.int .i16 0, Value.int .i16 0, Value.int .i16 0, Value.int .i16 0, Value.int .i64 0, Value.int .u8 0, Value.bool false])) (fun _ => rfl) rfl (by decide) (by decide) rfl ?_
               intro v158 w hs
               refine g_d rfl ?_
               try dsimp only [set0,setS]
               have hs := hs.pull 3 rfl
               have hs : St _ [_,_,_,_,_] _ := hs
               obtain ⟨g, H⟩ := ite_get H
               refine s_append fk_S_spec_l07Node (zv := (Value.agg #[Value.int .i64 0, Value.int .i16 0, Value.int .i16 0, Value.int .i16 0, Value.int .i16 0, Value.int .i64 0, Value.int .u8 0, Value.bool false])) (B := 32) hs (hs.row 1 rfl) rfl rfl rfl rfl rfl rfl rfl rfl rfl (by decide) rfl rfl (by decide) (by omega) ?_
               intro v160 w hs
               refine g_d rfl ?_
               try dsimp only [set0,setS]
               refine g_op (v := v160) rfl rfl rfl ?_
               refine g_d rfl ?_
               try dsimp only [set0,setS]
               refine g_ops_nil ?_
               refine g_inBlock ?_
               have hs := hs.pull 4 rfl
               have hs := hs.pull 1 rfl
               have hs := hs.pull 3 rfl
               have hs : St _ [_,_,_] _ := St.take (Γ' := [_,_]) hs
               exact ha _ _ ⟨stL x145 (i64w ((i64w ((i64w (((rdL x97 x98 z_S_spec_l07Node).f_time) + r152.2)) * r10)) + r155)) true, v160, x148 ++ ([(⟨i64w (((rdL x97 x98 z_S_spec_l07Node).f_time) + r152.2), r152.1, x98, u8w x149, false⟩ : S_spec_l07Node)]), H, rfl, hs⟩
         ·
          intro hb
          rw [if_neg (b_dec_f hb)] at H
          refine g_d rfl ?_
          try dsimp only [set0,setS]
          refine g_ops_nil ?_
          refine g_cond_false rfl ?_
          obtain rfl := Option.some.inj H
          subst Hx2_
          have hs := hs.pull 1 rfl
          have hs := hs.pull 1 rfl
          have hs : St _ [_,_] _ := St.take (Γ' := [_]) hs
          refine g_exit rfl ?_
          exact ha2_ _ _ ⟨x145, v147, x148, Hr2_, rfl, hs⟩
     ·
      intro hb
      rw [if_neg (b_dec_f hb)] at H
      refine g_d rfl ?_
      try dsimp only [set0,setS]
      refine g_ops_nil ?_
      refine g_cond_false rfl ?_
      obtain rfl := Option.some.inj H
      subst Hx1_
      have hs : St _ [] _ := St.take (Γ' := [_,_]) hs
      refine g_exit rfl ?_
      exact ha1_ _ _ ⟨Hr1_, rfl, hs⟩

end Go.Proofs.YtioefkcldfjobaaX
