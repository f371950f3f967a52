/- Contracts, printed by gen.py. -/
import Derived.Test.YtmnaclghakalmaaXT
import Derived.Test.YtmnaclghakalmaaProg
import Derived.Test.YtmnaclghakalmaaXRowR
import Derived.Test.YtmnaclghakalmaaXSq
import Derived.Test.YtmnaclghakalmaaXSeg
import Derived.Test.YtmnaclghakalmaaXKey
import Derived.Test.YtmnaclghakalmaaXIter
import Derived.Test.YtmnaclghakalmaaXRow2
import Derived.Test.YtmnaclghakalmaaXEla
import Derived.Test.YtmnaclghakalmaaTCX
import Derived.Test.YtmnaclghakalmaaXC1
import Derived.Test.YtmnaclghakalmaaXC2
import Derived.Test.YtmnaclghakalmaaXC4
import Derived.Test.YtmnaclghakalmaaXC5
namespace Go.Proofs.YtmnaclghakalmaaX
open Go Go.RowKit Go.Proofs
set_option linter.unusedVariables false
set_option linter.unusedSimpArgs false
/- function 4 spec_TopsAfter -/
def spec_TopsAfter.post (w0 : World) (r : ((List (Ar Int 4)) × Int)) (v : Value) (w : World) : Prop := ∃ u1 : Value, v = Value.tuple #[u1, Value.int .i64 r.2] ∧ St w0 [Row 30 (K.ar 4 1 (encI .i16) (fkI .i16).len (fkI .i16).one) u1 r.1] w
set_option maxHeartbeats 8000000 in
set_option maxRecDepth 100000 in
theorem spec_TopsAfter.calls {N : Nat} {a1 : (List Int)} {a3 : (Ar Int 4)} {a4 : Int} {v2 : Value} {w0 : World} {r : ((List (Ar Int 4)) × Int)} (hr0 : RdRow (K.int .i16) w0 v2 a1) (H : spec_TopsAfter.f N a1 a3 a4 = some r) :
    Calls Try.prog 4 #[v2, Value.agg ((encA (encI .i16)) a3).toArray, Value.int .i64 a4] w0 fun e w => ∃ v, e = .returned v ∧ spec_TopsAfter.post w0 r v w := by
  unfold spec_TopsAfter.f at H
  have hs : St w0 [] w0 := St.refl w0
  refine calls_of_g (n := 81) Try.func4 rfl rfl ?_
  show G _ _ _ _ (_::_::_::_::_::_::_::_::_::_::_::_::_::_::_::_::_::_::_::_::_::_::_::_::_::_::_::_::_::_::_::_::_::_::_::_::_::_::_::_::_::_::_::_::_::_::_::_::_::_::_::_::_::_::_::_::_::_::_::_::_::_::_::_::_::_::_::_::_::_::_::_::_::_::_::_::_::_::_::_::_::_::_::_::[]) _
  refine g_seq (g_rg [0, 1, 2] rfl ?_)
  refine s_box hs rfl rfl (cs := ((encA (encI .i16)) a3)) rfl rfl ?_
  intro b5 w hs
  refine g_d rfl ?_
  refine g_op (v := Value.slice none 0 0) rfl rfl rfl (g_d rfl ?_)
  try dsimp only [set0,setS]
  refine g_op (v := Value.int .i64 0) rfl rfl rfl (g_d rfl (g_ops_nil (g_seq (g_seq (g_rg [0, 1, 2, 3, 4] rfl ?_)))))
  refine g_op (v := v2) rfl rfl rfl (g_d rfl ?_)
  refine s_loadA rfl rfl (es := ((encA (encI .i16)) a3)) rfl rfl (fun _ => rfl) (n := 4) (fun _ => rfl) ((fkA (n := 4) (he := (fkI .i16).len) (h1 := (fkI .i16).one)).len _) (cells_all (hs.cells 0 rfl)) (g_d rfl ?_)
  try dsimp only [set0,setS]
  refine g_op (v := Value.int .i64 a4) rfl rfl rfl (g_d rfl ?_)
  obtain ⟨r7, Hr7, H⟩ := bind_get H
  refine s_call (args := [v2, Value.agg ((encA (encI .i16)) a3).toArray, Value.int .i64 a4]) rfl rfl (x_call rfl (callFunc_enter Try.func13 rfl rfl) rfl) (spec_l07Asked.calls (a1 := a1) (a3 := a3) (a4 := a4) (hs.rd hr0) Hr7) ?_
  rintro _ w ⟨rfl, hs2⟩
  have hs : St _ [_] _ := hs.call hs2
  refine g_d rfl ?_
  refine g_op (v := Value.int .i64 r7) rfl rfl rfl (g_d rfl ?_)
  try dsimp only [set0,setS]
  refine g_ops_nil (g_seq (g_rg [0, 1] rfl ?_))
  refine g_op (v := Value.int .i64 r7) rfl rfl rfl (g_d rfl ?_)
  refine g_op_b (B := r7 != 0) rfl rfl rfl ?_ ?_
  ·
   intro hb
   rw [if_neg (b_bne_t hb)] at H
   refine g_d rfl ?_
   try dsimp only [set0,setS]
   refine g_ops_nil (g_cond_true rfl (g_seq (g_rg [0, 1, 2, 3] rfl ?_)))
   refine s_lit0 (κ := (K.ar 4 1 (encI .i16) (fkI .i16).len (fkI .i16).one)) hs rfl rfl rfl rfl (fun _ => rfl) ?_
   intro v8 w hs
   refine g_d rfl ?_
   refine g_op (v := Value.int .i64 r7) rfl rfl rfl (g_d rfl ?_)
   refine g_op (v := v8) rfl rfl rfl (g_d rfl ?_)
   try dsimp only [set0,setS]
   refine g_op (v := Value.int .i64 r7) rfl rfl rfl (g_d rfl (g_ops_nil ?_))
   obtain rfl := Option.some.inj H
   refine g_ret Try.func4 (v := Value.tuple #[v8, Value.int .i64 r7]) (resN (l := Try.f4.results.toList) (vs := [v8, Value.int .i64 r7]) rfl ⟨rfl, rfl, trivial⟩ (by simp)) ?_
   have hs := hs.pull 0 rfl
   have hs : St _ [_] _ := St.take (Γ' := [_]) hs
   exact ⟨_, rfl, v8, rfl, hs⟩
  intro hb
  rw [if_pos (b_bne_f hb)] at H
  refine g_d rfl (g_ops_nil (g_cond_false rfl (g_skip (g_seq (g_rg [0, 1, 2, 3, 4, 5, 6, 7] rfl ?_)))))
  refine g_op (v := v2) rfl rfl rfl (g_d rfl ?_)
  refine s_loadA rfl rfl (es := ((encA (encI .i16)) a3)) rfl rfl (fun _ => rfl) (n := 4) (fun _ => rfl) ((fkA (n := 4) (he := (fkI .i16).len) (h1 := (fkI .i16).one)).len _) (cells_all (hs.cells 0 rfl)) (g_d rfl ?_)
  try dsimp only [set0,setS]
  refine g_op (v := Value.int .i64 a4) rfl rfl rfl (g_d rfl ?_)
  obtain ⟨r10, Hr10, H⟩ := bind_get H
  refine s_call (args := [v2, Value.agg ((encA (encI .i16)) a3).toArray, Value.int .i64 a4]) rfl rfl (x_call rfl (callFunc_enter Try.func14 rfl rfl) rfl) (spec_l07Table.calls (a1 := a1) (a3 := a3) (a4 := a4) (hs.rd hr0) Hr10) ?_
  rintro v11 w ⟨_, ms12, rfl, hs2⟩
  have hs : St _ [_,_] _ := hs.call hs2
  refine g_d rfl ?_
  refine g_op (v := Value.int .i64 a4) rfl rfl rfl (g_d rfl ?_)
  obtain ⟨g1, H⟩ := ite_get H
  refine s_idx fkHS zHS (hs.r2row 0 rfl) rfl (fun _ => rfl) g1.1 (hs.r2lt 0 rfl g1.2) rfl rfl rfl rfl rfl ?_
  intro p14 hp14 lp14 op14
  refine g_d rfl ?_
  try dsimp only [set0,setS]
  refine s_load1 rfl rfl (v := Value.slice (rdL ms12 a4 zHS).a (rdL ms12 a4 zHS).n (rdL ms12 a4 zHS).c) rfl rfl (fun _ => rfl) hp14 (g_d rfl ?_)
  refine g_op (v := Value.slice (rdL ms12 a4 zHS).a (rdL ms12 a4 zHS).n (rdL ms12 a4 zHS).c) rfl rfl rfl (g_d rfl ?_)
  try dsimp only [set0,setS]
  refine g_ops_nil (g_seq (g_rg [0, 1] rfl ?_))
  refine s_lit0 (κ := (K.ar 4 1 (encI .i16) (fkI .i16).len (fkI .i16).one)) hs rfl rfl rfl rfl (fun _ => rfl) ?_
  intro v15 w hs
  refine g_d rfl ?_
  refine g_op (v := v15) rfl rfl rfl (g_d rfl ?_)
  try dsimp only [set0,setS]
  refine g_ops_nil (g_seq (g_seq (g_rg [0] rfl ?_)))
  refine g_op (v := Value.int .i64 0) rfl rfl rfl (g_d rfl (g_ops_nil ?_))
  obtain ⟨o1_, Ho, Hr1_⟩ := bind_get H
  refine g_block_join (J := fun t w => ∃ v49 : Value, ∃ x50 : (List (Ar Int 4)), spec_TopsAfter.a0 N x50 = some r ∧ Fr t (fun O => (O 0::O 1::O 2::O 3::O 4::O 5::O 6::O 7::O 8::O 9::v49::O 11::O 12::O 13::O 14::O 15::O 16::O 17::O 18::O 19::O 20::O 21::O 22::O 23::O 24::O 25::O 26::O 27::O 28::O 29::O 30::O 31::O 32::O 33::O 34::O 35::O 36::O 37::O 38::O 39::O 40::O 41::O 42::O 43::O 44::O 45::O 46::O 47::O 48::O 49::O 50::O 51::O 52::O 53::O 54::O 55::O 56::O 57::O 58::O 59::O 60::O 61::O 62::O 63::O 64::O 65::O 66::O 67::O 68::O 69::O 70::O 71::O 72::O 73::O 74::O 75::O 76::O 77::O 78::O 79::O 80::O 81::O 82::O 83::[] : List Value)) ∧ St w0 [Row 30 (K.ar 4 1 (encI .i16) (fkI .i16).len (fkI .i16).one) v49 x50] w) ?_ ?_
  ·
   rintro t w ⟨v49, x50, H, hf, hs⟩
   obtain ⟨O, rfl⟩ := hf.open
   try dsimp only
   unfold spec_TopsAfter.a0 at H
   refine g_seq (g_rg [0, 1, 2] rfl ?_)
   refine g_op (v := v49) rfl rfl rfl (g_d rfl ?_)
   refine g_op (v := v49) rfl rfl rfl (g_d rfl ?_)
   refine g_op (v := Value.int .i64 0) rfl rfl rfl (g_d rfl ?_)
   try dsimp only [set0,setS]
   refine g_ops_nil ?_
   obtain rfl := Option.some.inj H
   refine g_ret Try.func4 (v := Value.tuple #[v49, Value.int .i64 0]) (resN (l := Try.f4.results.toList) (vs := [v49, Value.int .i64 0]) rfl ⟨rfl, rfl, trivial⟩ (by simp)) ?_
   have hs := hs.pull 0 rfl
   have hs : St _ [_] _ := St.take (Γ' := []) hs
   exact ⟨_, rfl, v49, rfl, hs⟩
  intro ha1_
  have hs := hs.pull 0 rfl
  have hs := hs.pull 1 rfl
  have hs : St _ [_,_] _ := St.take (Γ' := [_]) hs
  refine g_loop_fuel (I := fun n_ t w => ∃ v18 : Value, ∃ x19 : (List (Ar Int 4)), ∃ x20 : Int, rounds (fun s => spec_TopsAfter.b0 N r10 a4 a1 s.1 s.2) n_ (x19, x20) = some o1_ ∧ Fr t (fun O => (v2::O 1::O 2::O 3::O 4::O 5::O 6::O 7::O 8::Value.slice (rdL ms12 a4 zHS).a (rdL ms12 a4 zHS).n (rdL ms12 a4 zHS).c::v18::Value.int .i64 x20::O 12::O 13::O 14::O 15::O 16::O 17::O 18::O 19::O 20::O 21::O 22::O 23::O 24::O 25::O 26::O 27::O 28::O 29::O 30::O 31::O 32::O 33::O 34::O 35::O 36::O 37::O 38::O 39::O 40::O 41::O 42::O 43::O 44::O 45::O 46::O 47::O 48::O 49::O 50::O 51::O 52::O 53::O 54::O 55::O 56::O 57::O 58::O 59::O 60::O 61::O 62::O 63::O 64::O 65::O 66::O 67::O 68::O 69::O 70::O 71::O 72::O 73::O 74::O 75::O 76::O 77::O 78::O 79::O 80::O 81::O 82::O 83::[] : List Value)) ∧ St w0 [Rows2 38 kHS (RowO 2 (K.int .i64)) v11 ms12 r10, Row 30 (K.ar 4 1 (encI .i16) (fkI .i16).len (fkI .i16).one) v18 x19] w) N ⟨v15, ([] : List (Ar Int 4)), 0, Ho, rfl, hs⟩ ?_ ?_
  ·
   rintro _ _ ⟨v18, x19, x20, h, _⟩
   exact rounds_zero h
  intro n_ ih1_
  rintro t w ⟨v18, x19, x20, Ho, hf, hs⟩
  obtain ⟨O, rfl⟩ := hf.open
  try dsimp only
  obtain ⟨x48_, H, Hx1_⟩ := rounds_succ Ho
  have H : spec_TopsAfter.b0 N r10 a4 a1 x19 x20 = some x48_ := H
  unfold spec_TopsAfter.b0 at H
  refine g_seq (g_seq (g_rg [0, 1, 2, 3] rfl ?_))
  refine g_op (v := Value.int .i64 x20) rfl rfl rfl (g_d rfl ?_)
  refine g_op (v := Value.slice (rdL ms12 a4 zHS).a (rdL ms12 a4 zHS).n (rdL ms12 a4 zHS).c) rfl rfl rfl (g_d rfl ?_)
  refine s_len (hs.r2rd 0 rfl g1.1 g1.2) rfl rfl rfl rfl rfl (g_d rfl ?_)
  try dsimp only [set0,setS]
  refine g_op_b (B := decide (x20 < ((rdL r10 a4 []).length : Int))) rfl rfl rfl ?_ ?_
  ·
   intro hb
   rw [if_pos (b_dec_t hb)] at H
   refine g_d rfl ?_
   try dsimp only [set0,setS]
   refine g_ops_nil (g_cond_true rfl (g_skip (g_seq ?_)))
   refine g_block_join (J := (fun t w => ∃ v46 : Value, ∃ x47 : (List (Ar Int 4)), spec_TopsAfter.j2 N x20 x47 = some x48_ ∧ Fr t (fun O => (v2::O 1::O 2::O 3::O 4::O 5::O 6::O 7::O 8::Value.slice (rdL ms12 a4 zHS).a (rdL ms12 a4 zHS).n (rdL ms12 a4 zHS).c::v46::Value.int .i64 x20::O 12::O 13::O 14::O 15::O 16::O 17::O 18::O 19::O 20::O 21::O 22::O 23::O 24::O 25::O 26::O 27::O 28::O 29::O 30::O 31::O 32::O 33::O 34::O 35::O 36::O 37::O 38::O 39::O 40::O 41::O 42::O 43::O 44::O 45::O 46::O 47::O 48::O 49::O 50::O 51::O 52::O 53::O 54::O 55::O 56::O 57::O 58::O 59::O 60::O 61::O 62::O 63::O 64::O 65::O 66::O 67::O 68::O 69::O 70::O 71::O 72::O 73::O 74::O 75::O 76::O 77::O 78::O 79::O 80::O 81::O 82::O 83::[] : List Value)) ∧ St w0 [Rows2 38 kHS (RowO 2 (K.int .i64)) v11 ms12 r10, Row 30 (K.ar 4 1 (encI .i16) (fkI .i16).len (fkI .i16).one) v46 x47] w)) ?_ ?_
   ·
    rintro t w ⟨v46, x47, H, hf, hs⟩
    obtain ⟨O, rfl⟩ := hf.open
    try dsimp only
    unfold spec_TopsAfter.j2 at H
    refine g_rg [0, 1, 2] rfl ?_
    refine g_op (v := Value.int .i64 x20) rfl rfl rfl (g_d rfl ?_)
    refine g_op (v := Value.int .i64 (i64w (x20 + 1))) rfl rfl rfl (g_d rfl ?_)
    try dsimp only [set0,setS]
    refine g_op (v := Value.int .i64 (i64w (x20 + 1))) rfl rfl rfl (g_d rfl (g_ops_nil ?_))
    obtain rfl := Option.some.inj H
    have hs := hs.pull 1 rfl
    have hs := hs.pull 1 rfl
    have hs : St _ [_,_] _ := St.take (Γ' := []) hs
    exact ih1_ _ _ ⟨v46, x47, i64w (x20 + 1), Hx1_, rfl, hs⟩
   intro ha
   refine g_seq (g_seq (g_rg [0, 1, 2, 3, 4] rfl ?_))
   refine g_op (v := Value.slice (rdL ms12 a4 zHS).a (rdL ms12 a4 zHS).n (rdL ms12 a4 zHS).c) rfl rfl rfl (g_d rfl ?_)
   refine g_op (v := Value.int .i64 x20) rfl rfl rfl (g_d rfl ?_)
   obtain ⟨g2, H⟩ := ite_get H
   refine s_idx (fkI .i64) 0 (hs.r2rd 0 rfl g1.1 g1.2) rfl (fun _ => rfl) g2.1 g2.2 rfl rfl rfl rfl rfl ?_
   intro p21 hp21 lp21 op21
   refine g_d rfl ?_
   refine s_load1 rfl rfl (v := Value.int .i64 (rdL (rdL r10 a4 []) x20 0)) rfl rfl (fun _ => rfl) hp21 (g_d rfl ?_)
   try dsimp only [set0,setS]
   refine g_op_b (B := decide ((rdL (rdL r10 a4 []) x20 0) < 0)) rfl rfl rfl ?_ ?_
   ·
    intro hb
    rw [if_pos (b_dec_t hb)] at H
    refine g_d rfl (g_ops_nil (g_cond_true rfl ?_))
    refine g_exit rfl ?_
    have hs := hs.pull 1 rfl
    have hs := hs.pull 1 rfl
    have hs : St _ [_,_] _ := St.take (Γ' := []) hs
    exact ha _ _ ⟨v18, x19, H, rfl, hs⟩
   intro hb
   rw [if_neg (b_dec_f hb)] at H
   refine g_d rfl (g_ops_nil (g_cond_false rfl (g_skip (g_seq (g_rg [0, 1, 2, 3, 4, 5, 6] rfl ?_)))))
   refine g_op (v := v18) rfl rfl rfl (g_d rfl ?_)
   refine g_op (v := v2) rfl rfl rfl (g_d rfl ?_)
   refine g_op (v := Value.int .i64 x20) rfl rfl rfl (g_d rfl ?_)
   obtain ⟨r22, Hr22, H⟩ := bind_get H
   refine s_call (args := [v2, Value.int .i64 x20]) rfl rfl (x_call rfl (callFunc_enter Try.func15 rfl rfl) rfl) (spec_l07At.calls (a1 := a1) (a3 := x20) (hs.rd hr0) Hr22) ?_
   rintro _ w ⟨rfl, hs2⟩
   have hs : St _ [_,_] _ := hs.call hs2
   refine g_d rfl ?_
   try dsimp only [set0,setS]
   refine s_lit1 (fkA (n := 4) (he := (fkI .i16).len) (h1 := (fkI .i16).one)) (y := r22) hs rfl rfl rfl rfl (fun _ => rfl) (zv := (Value.agg #[Value.int .i16 0, Value.int .i16 0, Value.int .i16 0, Value.int .i16 0])) (fun _ => rfl) rfl (by decide) (by decide) rfl ?_
   intro v23 w hs
   refine g_d rfl ?_
   have hs := hs.pull 2 rfl
   have hs : St _ [_,_,_] _ := hs
   obtain ⟨g, H⟩ := ite_get H
   refine s_append (fkA (n := 4) (he := (fkI .i16).len) (h1 := (fkI .i16).one)) (zv := (Value.agg #[Value.int .i16 0, Value.int .i16 0, Value.int .i16 0, Value.int .i16 0])) (B := 8) hs (hs.row 1 rfl) rfl rfl rfl rfl rfl rfl rfl rfl rfl (by decide) rfl rfl (by decide) (by omega) ?_
   intro v25 w hs
   refine g_d rfl ?_
   try dsimp only [set0,setS]
   refine g_op (v := v25) rfl rfl rfl (g_d rfl (g_ops_nil (g_seq (g_rg [0, 1, 2, 3] rfl ?_))))
   refine g_op (v := v25) rfl rfl rfl (g_d rfl ?_)
   refine s_len (hs.row 0 rfl) rfl rfl rfl rfl rfl (g_d rfl ?_)
   try dsimp only [set0,setS]
   refine g_op (v := Value.int .i64 (i64w (((x19 ++ ([r22])).length : Int) - 1))) rfl rfl rfl (g_d rfl ?_)
   refine g_op (v := Value.int .i64 (i64w (((x19 ++ ([r22])).length : Int) - 1))) rfl rfl rfl (g_d rfl ?_)
   try dsimp only [set0,setS]
   refine g_ops_nil ?_
   obtain ⟨o2_, Ho, Hr2_⟩ := bind_get H
   refine g_block_join (J := fun t w => ∃ x44 : (List (Ar Int 4)), spec_TopsAfter.a3 N x20 x44 = some x48_ ∧ Fr t (fun O => (v2::O 1::O 2::O 3::O 4::O 5::O 6::O 7::O 8::Value.slice (rdL ms12 a4 zHS).a (rdL ms12 a4 zHS).n (rdL ms12 a4 zHS).c::v25::Value.int .i64 x20::O 12::O 13::O 14::O 15::O 16::O 17::O 18::O 19::O 20::O 21::O 22::O 23::O 24::O 25::O 26::O 27::O 28::O 29::O 30::O 31::O 32::O 33::O 34::O 35::O 36::O 37::O 38::O 39::O 40::O 41::O 42::O 43::O 44::O 45::O 46::O 47::O 48::O 49::O 50::O 51::O 52::O 53::O 54::O 55::O 56::O 57::O 58::O 59::O 60::O 61::O 62::O 63::O 64::O 65::O 66::O 67::O 68::O 69::O 70::O 71::O 72::O 73::O 74::O 75::O 76::O 77::O 78::O 79::O 80::O 81::O 82::O 83::[] : List Value)) ∧ St w0 [Rows2 38 kHS (RowO 2 (K.int .i64)) v11 ms12 r10, Row 30 (K.ar 4 1 (encI .i16) (fkI .i16).len (fkI .i16).one) v25 x44] w) ?_ ?_
   ·
    rintro t w ⟨x44, H, hf, hs⟩
    obtain ⟨O, rfl⟩ := hf.open
    try dsimp only
    unfold spec_TopsAfter.a3 at H
    refine g_inBlock ?_
    have hs := hs.pull 1 rfl
    have hs := hs.pull 1 rfl
    have hs : St _ [_,_] _ := St.take (Γ' := []) hs
    exact ha _ _ ⟨v25, x44, H, rfl, hs⟩
   intro ha2_
   have hs := hs.pull 0 rfl
   have hs := hs.pull 2 rfl
   have hs : St _ [_,_] _ := St.take (Γ' := [_]) hs
   refine g_loop_fuel (I := fun n_ t w => ∃ x35 : (List (Ar Int 4)), ∃ x36 : Int, rounds (fun s => spec_TopsAfter.b3 N s.1 s.2) n_ (x35, x36) = some o2_ ∧ Fr t (fun O => (v2::O 1::O 2::O 3::O 4::O 5::O 6::O 7::O 8::Value.slice (rdL ms12 a4 zHS).a (rdL ms12 a4 zHS).n (rdL ms12 a4 zHS).c::v25::Value.int .i64 x20::Value.int .i64 x36::O 13::O 14::O 15::O 16::O 17::O 18::O 19::O 20::O 21::O 22::O 23::O 24::O 25::O 26::O 27::O 28::O 29::O 30::O 31::O 32::O 33::O 34::O 35::O 36::O 37::O 38::O 39::O 40::O 41::O 42::O 43::O 44::O 45::O 46::O 47::O 48::O 49::O 50::O 51::O 52::O 53::O 54::O 55::O 56::O 57::O 58::O 59::O 60::O 61::O 62::O 63::O 64::O 65::O 66::O 67::O 68::O 69::O 70::O 71::O 72::O 73::O 74::O 75::O 76::O 77::O 78::O 79::O 80::O 81::O 82::O 83::[] : List Value)) ∧ St w0 [Rows2 38 kHS (RowO 2 (K.int .i64)) v11 ms12 r10, Row 30 (K.ar 4 1 (encI .i16) (fkI .i16).len (fkI .i16).one) v25 x35] w) N ⟨x19 ++ ([r22]), i64w (((x19 ++ ([r22])).length : Int) - 1), Ho, rfl, hs⟩ ?_ ?_
   ·
    rintro _ _ ⟨x35, x36, h, _⟩
    exact rounds_zero h
   intro n_ ih2_
   rintro t w ⟨x35, x36, Ho, hf, hs⟩
   obtain ⟨O, rfl⟩ := hf.open
   try dsimp only
   obtain ⟨x47_, H, Hx2_⟩ := rounds_succ Ho
   have H : spec_TopsAfter.b3 N x35 x36 = some x47_ := H
   unfold spec_TopsAfter.b3 at H
   refine g_seq (g_seq ?_)
   by_cases hb25_ : x36 > 0
   ·
    rw [if_pos hb25_] at H
    refine g_lay (n := 14) rfl [0, 1, 2, 3, 4, 5, 6, 7, 8, 9, 10, 11, 12, 13] [0, 1, 2, 3, 4, 5, 6, 7, 8, 9, 10, 11, 12, 13] rfl rfl ?_
    intro rest w hh hbw hO
    have hs := hs.samew hh hbw
    try dsimp only [set0,setS]
    obtain ⟨rest, rfl, hO26_⟩ := ord_one (m := 0) hO rfl 0 (m' := 1) (by decide +kernel) rfl
    clear hO
    refine g_op (v := Value.int .i64 x36) rfl rfl rfl (g_d rfl ?_)
    obtain ⟨rest, rfl, hO27_⟩ := ord_one (m := 1) hO26_ rfl 1 (m' := 3) (by decide +kernel) rfl
    clear hO26_
    refine g_op (v := Value.bool true) rfl rfl (run_bool (b := decide (x36 > 0)) rfl (by first | exact decide_eq_true hb25_ | exact decide_eq_false hb25_ | simp [hb25_])) (g_d rfl ?_)
    try dsimp only [set0,setS]
    obtain ⟨rest, rfl, hO28_⟩ := ord_one (m := 3) hO27_ rfl 2 (m' := 7) (by decide +kernel) rfl
    clear hO27_
    refine g_op (v := Value.bool true) rfl rfl rfl (g_d rfl ?_)
    obtain ⟨gd30, H⟩ := ite_get H
    obtain ⟨ad31_, ad31_N, ad31_C, had31_⟩ := sl_at (hs.row 1 rfl) gd30.1 gd30.2
    obtain ⟨gd32, H⟩ := ite_get H
    obtain ⟨ad33_, ad33_N, ad33_C, had33_⟩ := sl_at (hs.row 1 rfl) gd32.1 gd32.2
    refine g_name ?_
    intro T hT
    refine g_layer (m0 := 7) hO28_ rfl 4095 [3, 4, 5, 6, 7, 8, 9, 10, 11] [0, 1, 3, 7, 7, 31, 63, 7, 7, 263, 903, 1927, 4095, 8191] (by decide +kernel) (fun D t w => ∃ O : Nat → Value, t = (v2::O 1::O 2::O 3::O 4::O 5::O 6::O 7::O 8::Value.slice (rdL ms12 a4 zHS).a (rdL ms12 a4 zHS).n (rdL ms12 a4 zHS).c::v25::Value.int .i64 x20::Value.int .i64 x36::O 13::O 14::O 15::O 16::O 17::O 18::O 19::O 20::O 21::O 22::O 23::O 24::O 25::O 26::O 27::O 28::O 29::O 30::O 31::O 32::O 33::O 34::O 35::O 36::O 37::O 38::O 39::O 40::O 41::O 42::O 43::O 44::O 45::O 46::O 47::O 48::O 49::Value.int .i64 x36::Value.bool true::Value.bool true::cnd (D 3) v25 (O 53)::cnd (D 4) (Value.int .i64 x36) (O 54)::cnd (D 5) (Value.pointer (some (ad31_.add (x36.toNat * 4)))) (O 55)::cnd (D 6) (Value.agg ((encA (encI .i16)) (rdL x35 x36 (Ar.rep 4 0))).toArray) (O 56)::cnd (D 7) v25 (O 57)::cnd (D 8) (Value.int .i64 x36) (O 58)::cnd (D 9) (Value.int .i64 (i64w (x36 - 1))) (O 59)::cnd (D 10) (Value.pointer (some (ad33_.add ((i64w (x36 - 1)).toNat * 4)))) (O 60)::cnd (D 11) (Value.agg ((encA (encI .i16)) (rdL x35 (i64w (x36 - 1)) (Ar.rep 4 0))).toArray) (O 61)::O 62::O 63::O 64::O 65::O 66::O 67::O 68::O 69::O 70::O 71::O 72::O 73::O 74::O 75::O 76::O 77::O 78::O 79::O 80::O 81::O 82::O 83::[]) ∧ St w0 [Rows2 38 kHS (RowO 2 (K.int .i64)) v11 ms12 r10, Row 30 (K.ar 4 1 (encI .i16) (fkI .i16).len (fkI .i16).one) v25 x35] w) ?_ ⟨?_, ⟨?_, ⟨?_, ⟨?_, ⟨?_, ⟨?_, ⟨?_, ⟨?_, ⟨?_, trivial⟩⟩⟩⟩⟩⟩⟩⟩⟩ ?_
    · exact ⟨fun i => T.getD i undef, (by subst hT; rfl), hs⟩
    ·
     rintro D t w hD hp hcl ⟨O, ht, hs⟩ rest hk
     have hp : AllDone D [2] := hp
     obtain ⟨p2_, _⟩ := hp
     have q5_ := ny hcl 5 0 hD
     have q6_ := ny hcl 6 0 q5_
     simp only [hD, q5_, q6_, cq] at ht hs
     subst ht
     refine g_op (v := v25) rfl rfl rfl (g_d rfl ?_)
     try dsimp only [set0,setS]
     refine hk _ _ ⟨O, ?_, hs.cast ?_⟩ <;> simp only [lq, cq, Nat.reduceBEq, q5_, q6_]
    ·
     rintro D t w hD hp hcl ⟨O, ht, hs⟩ rest hk
     have hp : AllDone D [2] := hp
     obtain ⟨p2_, _⟩ := hp
     have q5_ := ny hcl 5 1 hD
     have q6_ := ny hcl 6 0 q5_
     simp only [hD, q5_, q6_, cq] at ht hs
     subst ht
     refine g_op (v := Value.int .i64 x36) rfl rfl rfl (g_d rfl ?_)
     try dsimp only [set0,setS]
     refine hk _ _ ⟨O, ?_, hs.cast ?_⟩ <;> simp only [lq, cq, Nat.reduceBEq, q5_, q6_]
    ·
     rintro D t w hD hp hcl ⟨O, ht, hs⟩ rest hk
     have hp : AllDone D [3, 4, 2] := hp
     obtain ⟨p3_, p4_, p2_, _⟩ := hp
     have q6_ := ny hcl 6 0 hD
     simp only [hD, p3_, p4_, q6_, cq] at ht hs
     subst ht
     refine s_idxD (κ := (K.ar 4 1 (encI .i16) (fkI .i16).len (fkI .i16).one)) (m := 4) rfl (hs.row 1 rfl) rfl (fun _ => rfl) gd30.1 gd30.2 had31_ rfl rfl rfl rfl rfl (g_d rfl ?_)
     try dsimp only [set0,setS]
     refine hk _ _ ⟨O, ?_, hs.cast ?_⟩ <;> simp only [lq, cq, Nat.reduceBEq, p3_, p4_, q6_]
    ·
     rintro D t w hD hp hcl ⟨O, ht, hs⟩ rest hk
     have hp : AllDone D [5, 2] := hp
     obtain ⟨p5_, p2_, _⟩ := hp
     obtain ⟨p3_, p4_, _, _⟩ := (show D 5 = true → AllDone D [3, 4, 2] from hcl 5 (by decide)) p5_
     simp only [hD, p3_, p4_, p5_, cq] at ht hs
     subst ht
     refine s_loadA rfl rfl (es := ((encA (encI .i16)) (rdL x35 x36 (Ar.rep 4 0)))) rfl rfl (fun _ => rfl) (n := 4) (fun _ => rfl) ((fkA (n := 4) (he := (fkI .i16).len) (h1 := (fkI .i16).one)).len _) (cellsAt_of (fkA (n := 4) (he := (fkI .i16).len) (h1 := (fkI .i16).one)) (Ar.rep 4 0) (hs.row 1 rfl) had31_ gd30.1 gd30.2) (g_d rfl ?_)
     try dsimp only [set0,setS]
     refine hk _ _ ⟨O, ?_, hs.cast ?_⟩ <;> simp only [lq, cq, Nat.reduceBEq, p3_, p4_, p5_]
    ·
     rintro D t w hD hp hcl ⟨O, ht, hs⟩ rest hk
     have hp : AllDone D [2] := hp
     obtain ⟨p2_, _⟩ := hp
     have q10_ := ny hcl 10 0 hD
     have q11_ := ny hcl 11 0 q10_
     simp only [hD, q10_, q11_, cq] at ht hs
     subst ht
     refine g_op (v := v25) rfl rfl rfl (g_d rfl ?_)
     try dsimp only [set0,setS]
     refine hk _ _ ⟨O, ?_, hs.cast ?_⟩ <;> simp only [lq, cq, Nat.reduceBEq, q10_, q11_]
    ·
     rintro D t w hD hp hcl ⟨O, ht, hs⟩ rest hk
     have hp : AllDone D [2] := hp
     obtain ⟨p2_, _⟩ := hp
     have q9_ := ny hcl 9 0 hD
     have q10_ := ny hcl 10 1 q9_
     have q11_ := ny hcl 11 0 q10_
     simp only [hD, q9_, q10_, q11_, cq] at ht hs
     subst ht
     refine g_op (v := Value.int .i64 x36) rfl rfl rfl (g_d rfl ?_)
     try dsimp only [set0,setS]
     refine hk _ _ ⟨O, ?_, hs.cast ?_⟩ <;> simp only [lq, cq, Nat.reduceBEq, q9_, q10_, q11_]
    ·
     rintro D t w hD hp hcl ⟨O, ht, hs⟩ rest hk
     have hp : AllDone D [8, 2] := hp
     obtain ⟨p8_, p2_, _⟩ := hp
     have q10_ := ny hcl 10 1 hD
     have q11_ := ny hcl 11 0 q10_
     simp only [hD, p8_, q10_, q11_, cq] at ht hs
     subst ht
     refine g_op (v := Value.int .i64 (i64w (x36 - 1))) rfl rfl rfl (g_d rfl ?_)
     try dsimp only [set0,setS]
     refine hk _ _ ⟨O, ?_, hs.cast ?_⟩ <;> simp only [lq, cq, Nat.reduceBEq, p8_, q10_, q11_]
    ·
     rintro D t w hD hp hcl ⟨O, ht, hs⟩ rest hk
     have hp : AllDone D [7, 9, 2] := hp
     obtain ⟨p7_, p9_, p2_, _⟩ := hp
     obtain ⟨p8_, _, _⟩ := (show D 9 = true → AllDone D [8, 2] from hcl 9 (by decide)) p9_
     have q11_ := ny hcl 11 0 hD
     simp only [hD, p7_, p8_, p9_, q11_, cq] at ht hs
     subst ht
     refine s_idxD (κ := (K.ar 4 1 (encI .i16) (fkI .i16).len (fkI .i16).one)) (m := 4) rfl (hs.row 1 rfl) rfl (fun _ => rfl) gd32.1 gd32.2 had33_ rfl rfl rfl rfl rfl (g_d rfl ?_)
     try dsimp only [set0,setS]
     refine hk _ _ ⟨O, ?_, hs.cast ?_⟩ <;> simp only [lq, cq, Nat.reduceBEq, p7_, p8_, p9_, q11_]
    ·
     rintro D t w hD hp hcl ⟨O, ht, hs⟩ rest hk
     have hp : AllDone D [10, 2] := hp
     obtain ⟨p10_, p2_, _⟩ := hp
     obtain ⟨p7_, p9_, _, _⟩ := (show D 10 = true → AllDone D [7, 9, 2] from hcl 10 (by decide)) p10_
     obtain ⟨p8_, _, _⟩ := (show D 9 = true → AllDone D [8, 2] from hcl 9 (by decide)) p9_
     simp only [hD, p7_, p8_, p9_, p10_, cq] at ht hs
     subst ht
     refine s_loadA rfl rfl (es := ((encA (encI .i16)) (rdL x35 (i64w (x36 - 1)) (Ar.rep 4 0)))) rfl rfl (fun _ => rfl) (n := 4) (fun _ => rfl) ((fkA (n := 4) (he := (fkI .i16).len) (h1 := (fkI .i16).one)).len _) (cellsAt_of (fkA (n := 4) (he := (fkI .i16).len) (h1 := (fkI .i16).one)) (Ar.rep 4 0) (hs.row 1 rfl) had33_ gd32.1 gd32.2) (g_d rfl ?_)
     try dsimp only [set0,setS]
     refine hk _ _ ⟨O, ?_, hs.cast ?_⟩ <;> simp only [lq, cq, Nat.reduceBEq, p7_, p8_, p9_, p10_]
    intro D t w rest hall hO29_ hI
    obtain ⟨O, ht, hs⟩ := hI
    have p3_ := hall 3 (by decide) rfl
    have p4_ := hall 4 (by decide) rfl
    have p5_ := hall 5 (by decide) rfl
    have p6_ := hall 6 (by decide) rfl
    have p7_ := hall 7 (by decide) rfl
    have p8_ := hall 8 (by decide) rfl
    have p9_ := hall 9 (by decide) rfl
    have p10_ := hall 10 (by decide) rfl
    have p11_ := hall 11 (by decide) rfl
    simp only [p3_, p4_, p5_, p6_, p7_, p8_, p9_, p10_, p11_, cq] at ht hs
    subst ht
    obtain ⟨rest, rfl, hO34_⟩ := ord_one (m := 4095) hO29_ rfl 12 (m' := 8191) (by decide +kernel) rfl
    clear hO29_
    obtain ⟨r37, Hr37, H⟩ := bind_get H
    refine s_call (args := [Value.agg ((encA (encI .i16)) (rdL x35 x36 (Ar.rep 4 0))).toArray, Value.agg ((encA (encI .i16)) (rdL x35 (i64w (x36 - 1)) (Ar.rep 4 0))).toArray]) rfl rfl (x_call rfl (callFunc_enter Try.func16 rfl rfl) rfl) (spec_l07Before.calls (a1 := rdL x35 x36 (Ar.rep 4 0)) (a2 := rdL x35 (i64w (x36 - 1)) (Ar.rep 4 0)) Hr37) ?_
    rintro _ w ⟨rfl, hs2⟩
    have hs : St _ [_,_] _ := hs.call hs2
    cases r37 with
    | true =>
      rw [if_pos rfl] at H
      refine g_d rfl ?_
      obtain ⟨rest, rfl, hO35_⟩ := ord_one (m := 8191) hO34_ rfl 13 (m' := 16383) (by decide +kernel) rfl
      clear hO34_
      refine g_op (v := Value.bool true) rfl rfl rfl (g_d rfl ?_)
      try dsimp only [set0,setS]
      obtain rfl := ord_end hO35_ rfl (by decide +kernel)
      refine g_ops_nil (g_cond_true rfl (g_skip (g_seq ?_)))
      refine g_block (g_seq (g_rg [0, 1, 2, 3, 4, 5] rfl ?_))
      refine g_op (v := v25) rfl rfl rfl (g_d rfl ?_)
      refine g_op (v := Value.int .i64 x36) rfl rfl rfl (g_d rfl ?_)
      obtain ⟨g36, H⟩ := ite_get H
      refine s_idx (fkA (n := 4) (he := (fkI .i16).len) (h1 := (fkI .i16).one)) (Ar.rep 4 0) (hs.row 1 rfl) rfl (fun _ => rfl) g36.1 g36.2 rfl rfl rfl rfl rfl ?_
      intro p38 hp38 lp38 op38
      refine g_d rfl ?_
      refine s_loadA rfl rfl (es := ((encA (encI .i16)) (rdL x35 x36 (Ar.rep 4 0)))) rfl rfl (fun _ => rfl) (n := 4) (fun _ => rfl) ((fkA (n := 4) (he := (fkI .i16).len) (h1 := (fkI .i16).one)).len _) hp38 (g_d rfl ?_)
      try dsimp only [set0,setS]
      refine s_alloc hs rfl rfl (z := (Value.agg #[Value.int .i16 0, Value.int .i16 0, Value.int .i16 0, Value.int .i16 0])) (cs := ((encA (encI .i16)) (Ar.rep 4 0))) rfl (fun _ => rfl) rfl ?_
      intro b39 w hs
      refine g_d rfl ?_
      refine s_storeAll (n := 4) hs ((fkA (n := 4) (he := (fkI .i16).len) (h1 := (fkI .i16).one)).len _) rfl rfl (vs := ((encA (encI .i16)) (rdL x35 x36 (Ar.rep 4 0)))) rfl rfl rfl (fun _ => rfl) ((fkA (n := 4) (he := (fkI .i16).len) (h1 := (fkI .i16).one)).len _) ((fkA (n := 4) (he := (fkI .i16).len) (h1 := (fkI .i16).one)).one _) ?_
      intro w hs
      refine g_n rfl (g_ops_nil (g_seq (g_rg [0, 1, 2, 3, 4, 5, 6, 7, 8] rfl ?_)))
      refine g_op (v := v25) rfl rfl rfl (g_d rfl ?_)
      refine g_op (v := Value.int .i64 x36) rfl rfl rfl (g_d rfl ?_)
      refine g_op (v := v25) rfl rfl rfl (g_d rfl ?_)
      refine g_op (v := Value.int .i64 x36) rfl rfl rfl (g_d rfl ?_)
      refine g_op (v := Value.int .i64 (i64w (x36 - 1))) rfl rfl rfl (g_d rfl ?_)
      try dsimp only [set0,setS]
      obtain ⟨g37, H⟩ := ite_get H
      refine s_idx (fkA (n := 4) (he := (fkI .i16).len) (h1 := (fkI .i16).one)) (Ar.rep 4 0) (hs.row 2 rfl) rfl (fun _ => rfl) g37.1 g37.2 rfl rfl rfl rfl rfl ?_
      intro p41 hp41 lp41 op41
      refine g_d rfl ?_
      refine s_loadA rfl rfl (es := ((encA (encI .i16)) (rdL x35 (i64w (x36 - 1)) (Ar.rep 4 0)))) rfl rfl (fun _ => rfl) (n := 4) (fun _ => rfl) ((fkA (n := 4) (he := (fkI .i16).len) (h1 := (fkI .i16).one)).len _) hp41 (g_d rfl ?_)
      try dsimp only [set0,setS]
      obtain ⟨g38, H⟩ := ite_get H
      refine s_idx (fkA (n := 4) (he := (fkI .i16).len) (h1 := (fkI .i16).one)) (Ar.rep 4 0) (hs.row 2 rfl) rfl (fun _ => rfl) g38.1 g38.2 rfl rfl rfl rfl rfl ?_
      intro p42 hp42 lp42 op42
      refine g_d rfl ?_
      have hs := hs.pull 2 rfl
      have hs : St _ [_,_,_] _ := hs
      refine s_stRow (y := rdL x35 (i64w (x36 - 1)) (Ar.rep 4 0)) (fkA (n := 4) (he := (fkI .i16).len) (h1 := (fkI .i16).one)) g38.1 g38.2 op42 hs rfl rfl rfl rfl rfl (fun _ => rfl) ?_
      intro w hs
      refine g_n rfl (g_ops_nil (g_rg [0, 1, 2, 3, 4, 5] rfl ?_))
      refine g_op (v := v25) rfl rfl rfl (g_d rfl ?_)
      refine g_op (v := Value.int .i64 x36) rfl rfl rfl (g_d rfl ?_)
      refine g_op (v := Value.int .i64 (i64w (x36 - 1))) rfl rfl rfl (g_d rfl ?_)
      try dsimp only [set0,setS]
      refine s_loadA rfl rfl (es := ((encA (encI .i16)) (rdL x35 x36 (Ar.rep 4 0)))) rfl rfl (fun _ => rfl) (n := 4) (fun _ => rfl) ((fkA (n := 4) (he := (fkI .i16).len) (h1 := (fkI .i16).one)).len _) (cells_all (hs.cells 1 rfl)) (g_d rfl ?_)
      obtain ⟨g39, H⟩ := ite_get H
      refine s_idx (fkA (n := 4) (he := (fkI .i16).len) (h1 := (fkI .i16).one)) (Ar.rep 4 0) (hs.row 0 rfl) rfl (fun _ => rfl) g39.1 g39.2 rfl rfl rfl rfl rfl ?_
      intro p43 hp43 lp43 op43
      refine g_d rfl ?_
      try dsimp only [set0,setS]
      refine s_stRow (y := rdL x35 x36 (Ar.rep 4 0)) (fkA (n := 4) (he := (fkI .i16).len) (h1 := (fkI .i16).one)) g39.1 g39.2 op43 hs rfl rfl rfl rfl rfl (fun _ => rfl) ?_
      intro w hs
      refine g_n rfl (g_ops_nil ?_)
      refine g_inBlock (g_rg [0, 1, 2] rfl ?_)
      refine g_op (v := Value.int .i64 x36) rfl rfl rfl (g_d rfl ?_)
      refine g_op (v := Value.int .i64 (i64w (x36 - 1))) rfl rfl rfl (g_d rfl ?_)
      refine g_op (v := Value.int .i64 (i64w (x36 - 1))) rfl rfl rfl (g_d rfl ?_)
      try dsimp only [set0,setS]
      refine g_ops_nil ?_
      obtain rfl := Option.some.inj H
      have hs := hs.pull 0 rfl
      have hs := hs.pull 2 rfl
      have hs : St _ [_,_] _ := St.take (Γ' := [_]) hs
      exact ih2_ _ _ ⟨stL (stL x35 x36 (rdL x35 (i64w (x36 - 1)) (Ar.rep 4 0))) (i64w (x36 - 1)) (rdL x35 x36 (Ar.rep 4 0)), i64w (x36 - 1), Hx2_, rfl, hs⟩
    | false =>
      rw [if_neg Bool.false_ne_true] at H
      refine g_d rfl ?_
      obtain ⟨rest, rfl, hO40_⟩ := ord_one (m := 8191) hO34_ rfl 13 (m' := 16383) (by decide +kernel) rfl
      clear hO34_
      refine g_op (v := Value.bool false) rfl rfl rfl (g_d rfl ?_)
      try dsimp only [set0,setS]
      obtain rfl := ord_end hO40_ rfl (by decide +kernel)
      refine g_ops_nil (g_cond_false rfl ?_)
      obtain rfl := Option.some.inj H
      subst Hx2_
      have hs := hs.pull 1 rfl
      have hs := hs.pull 1 rfl
      have hs : St _ [_,_] _ := St.take (Γ' := []) hs
      refine g_exit rfl ?_
      exact ha2_ _ _ ⟨x35, Hr2_, rfl, hs⟩
   rw [if_neg hb25_] at H
   refine g_lay (n := 14) rfl [0, 1, 2, 3, 4, 5, 6, 7, 8, 9, 10, 11, 12, 13] [0, 1, 2, 3, 4, 5, 6, 7, 8, 9, 10, 11, 12, 13] rfl rfl ?_
   intro rest w hh hbw hO
   have hs := hs.samew hh hbw
   try dsimp only [set0,setS]
   obtain ⟨rest, rfl, hO41_⟩ := ord_one (m := 0) hO rfl 0 (m' := 1) (by decide +kernel) rfl
   clear hO
   refine g_op (v := Value.int .i64 x36) rfl rfl rfl (g_d rfl ?_)
   obtain ⟨rest, rfl, hO42_⟩ := ord_one (m := 1) hO41_ rfl 1 (m' := 3) (by decide +kernel) rfl
   clear hO41_
   refine g_op (v := Value.bool false) rfl rfl (run_bool (b := decide (x36 > 0)) rfl (by first | exact decide_eq_true hb25_ | exact decide_eq_false hb25_ | simp [hb25_])) (g_d rfl ?_)
   obtain ⟨rest, rfl, hO43_⟩ := ord_one (m := 3) hO42_ rfl 2 (m' := 7) (by decide +kernel) rfl
   clear hO42_
   refine g_op (v := Value.bool false) rfl rfl rfl (g_d rfl ?_)
   refine g_name ?_
   intro T hT
   refine g_layer (m0 := 7) hO43_ rfl 4095 [3, 4, 5, 6, 7, 8, 9, 10, 11] [0, 1, 3, 7, 7, 31, 63, 7, 7, 263, 903, 1927, 4095, 8191] (by decide +kernel) (fun D t w => ∃ O : Nat → Value, t = (v2::O 1::O 2::O 3::O 4::O 5::O 6::O 7::O 8::Value.slice (rdL ms12 a4 zHS).a (rdL ms12 a4 zHS).n (rdL ms12 a4 zHS).c::v25::Value.int .i64 x20::Value.int .i64 x36::O 13::O 14::O 15::O 16::O 17::O 18::O 19::O 20::O 21::O 22::O 23::O 24::O 25::O 26::O 27::O 28::O 29::O 30::O 31::O 32::O 33::O 34::O 35::O 36::O 37::O 38::O 39::O 40::O 41::O 42::O 43::O 44::O 45::O 46::O 47::O 48::O 49::Value.int .i64 x36::Value.bool false::Value.bool false::cnd (D 3) undef (O 53)::cnd (D 4) undef (O 54)::cnd (D 5) undef (O 55)::cnd (D 6) undef (O 56)::cnd (D 7) undef (O 57)::cnd (D 8) undef (O 58)::cnd (D 9) undef (O 59)::cnd (D 10) undef (O 60)::cnd (D 11) undef (O 61)::O 62::O 63::O 64::O 65::O 66::O 67::O 68::O 69::O 70::O 71::O 72::O 73::O 74::O 75::O 76::O 77::O 78::O 79::O 80::O 81::O 82::O 83::[]) ∧ St w0 [Rows2 38 kHS (RowO 2 (K.int .i64)) v11 ms12 r10, Row 30 (K.ar 4 1 (encI .i16) (fkI .i16).len (fkI .i16).one) v25 x35] w) ?_ ⟨?_, ⟨?_, ⟨?_, ⟨?_, ⟨?_, ⟨?_, ⟨?_, ⟨?_, ⟨?_, trivial⟩⟩⟩⟩⟩⟩⟩⟩⟩ ?_
   · exact ⟨fun i => T.getD i undef, (by subst hT; rfl), hs⟩
   ·
    rintro D t w hD hp hcl ⟨O, ht, hs⟩ rest hk
    have hp : AllDone D [2] := hp
    obtain ⟨p2_, _⟩ := hp
    have q5_ := ny hcl 5 0 hD
    have q6_ := ny hcl 6 0 q5_
    simp only [hD, q5_, q6_, cq] at ht hs
    subst ht
    refine g_op_not rfl rfl (g_d rfl ?_)
    try dsimp only [set0,setS]
    refine hk _ _ ⟨O, ?_, hs.cast ?_⟩ <;> simp only [cq, Nat.reduceBEq, q5_, q6_]
   ·
    rintro D t w hD hp hcl ⟨O, ht, hs⟩ rest hk
    have hp : AllDone D [2] := hp
    obtain ⟨p2_, _⟩ := hp
    have q5_ := ny hcl 5 1 hD
    have q6_ := ny hcl 6 0 q5_
    simp only [hD, q5_, q6_, cq] at ht hs
    subst ht
    refine g_op_not rfl rfl (g_d rfl ?_)
    try dsimp only [set0,setS]
    refine hk _ _ ⟨O, ?_, hs.cast ?_⟩ <;> simp only [cq, Nat.reduceBEq, q5_, q6_]
   ·
    rintro D t w hD hp hcl ⟨O, ht, hs⟩ rest hk
    have hp : AllDone D [3, 4, 2] := hp
    obtain ⟨p3_, p4_, p2_, _⟩ := hp
    have q6_ := ny hcl 6 0 hD
    simp only [hD, p3_, p4_, q6_, cq] at ht hs
    subst ht
    refine g_op_not rfl rfl (g_d rfl ?_)
    try dsimp only [set0,setS]
    refine hk _ _ ⟨O, ?_, hs.cast ?_⟩ <;> simp only [cq, Nat.reduceBEq, p3_, p4_, q6_]
   ·
    rintro D t w hD hp hcl ⟨O, ht, hs⟩ rest hk
    have hp : AllDone D [5, 2] := hp
    obtain ⟨p5_, p2_, _⟩ := hp
    obtain ⟨p3_, p4_, _, _⟩ := (show D 5 = true → AllDone D [3, 4, 2] from hcl 5 (by decide)) p5_
    simp only [hD, p3_, p4_, p5_, cq] at ht hs
    subst ht
    refine g_op_not rfl rfl (g_d rfl ?_)
    try dsimp only [set0,setS]
    refine hk _ _ ⟨O, ?_, hs.cast ?_⟩ <;> simp only [cq, Nat.reduceBEq, p3_, p4_, p5_]
   ·
    rintro D t w hD hp hcl ⟨O, ht, hs⟩ rest hk
    have hp : AllDone D [2] := hp
    obtain ⟨p2_, _⟩ := hp
    have q10_ := ny hcl 10 0 hD
    have q11_ := ny hcl 11 0 q10_
    simp only [hD, q10_, q11_, cq] at ht hs
    subst ht
    refine g_op_not rfl rfl (g_d rfl ?_)
    try dsimp only [set0,setS]
    refine hk _ _ ⟨O, ?_, hs.cast ?_⟩ <;> simp only [cq, Nat.reduceBEq, q10_, q11_]
   ·
    rintro D t w hD hp hcl ⟨O, ht, hs⟩ rest hk
    have hp : AllDone D [2] := hp
    obtain ⟨p2_, _⟩ := hp
    have q9_ := ny hcl 9 0 hD
    have q10_ := ny hcl 10 1 q9_
    have q11_ := ny hcl 11 0 q10_
    simp only [hD, q9_, q10_, q11_, cq] at ht hs
    subst ht
    refine g_op_not rfl rfl (g_d rfl ?_)
    try dsimp only [set0,setS]
    refine hk _ _ ⟨O, ?_, hs.cast ?_⟩ <;> simp only [cq, Nat.reduceBEq, q9_, q10_, q11_]
   ·
    rintro D t w hD hp hcl ⟨O, ht, hs⟩ rest hk
    have hp : AllDone D [8, 2] := hp
    obtain ⟨p8_, p2_, _⟩ := hp
    have q10_ := ny hcl 10 1 hD
    have q11_ := ny hcl 11 0 q10_
    simp only [hD, p8_, q10_, q11_, cq] at ht hs
    subst ht
    refine g_op_not rfl rfl (g_d rfl ?_)
    try dsimp only [set0,setS]
    refine hk _ _ ⟨O, ?_, hs.cast ?_⟩ <;> simp only [cq, Nat.reduceBEq, p8_, q10_, q11_]
   ·
    rintro D t w hD hp hcl ⟨O, ht, hs⟩ rest hk
    have hp : AllDone D [7, 9, 2] := hp
    obtain ⟨p7_, p9_, p2_, _⟩ := hp
    obtain ⟨p8_, _, _⟩ := (show D 9 = true → AllDone D [8, 2] from hcl 9 (by decide)) p9_
    have q11_ := ny hcl 11 0 hD
    simp only [hD, p7_, p8_, p9_, q11_, cq] at ht hs
    subst ht
    refine g_op_not rfl rfl (g_d rfl ?_)
    try dsimp only [set0,setS]
    refine hk _ _ ⟨O, ?_, hs.cast ?_⟩ <;> simp only [cq, Nat.reduceBEq, p7_, p8_, p9_, q11_]
   ·
    rintro D t w hD hp hcl ⟨O, ht, hs⟩ rest hk
    have hp : AllDone D [10, 2] := hp
    obtain ⟨p10_, p2_, _⟩ := hp
    obtain ⟨p7_, p9_, _, _⟩ := (show D 10 = true → AllDone D [7, 9, 2] from hcl 10 (by decide)) p10_
    obtain ⟨p8_, _, _⟩ := (show D 9 = true → AllDone D [8, 2] from hcl 9 (by decide)) p9_
    simp only [hD, p7_, p8_, p9_, p10_, cq] at ht hs
    subst ht
    refine g_op_not rfl rfl (g_d rfl ?_)
    try dsimp only [set0,setS]
    refine hk _ _ ⟨O, ?_, hs.cast ?_⟩ <;> simp only [cq, Nat.reduceBEq, p7_, p8_, p9_, p10_]
   intro D t w rest hall hO44_ hI
   obtain ⟨O, ht, hs⟩ := hI
   have p3_ := hall 3 (by decide) rfl
   have p4_ := hall 4 (by decide) rfl
   have p5_ := hall 5 (by decide) rfl
   have p6_ := hall 6 (by decide) rfl
   have p7_ := hall 7 (by decide) rfl
   have p8_ := hall 8 (by decide) rfl
   have p9_ := hall 9 (by decide) rfl
   have p10_ := hall 10 (by decide) rfl
   have p11_ := hall 11 (by decide) rfl
   simp only [p3_, p4_, p5_, p6_, p7_, p8_, p9_, p10_, p11_, cq] at ht hs
   subst ht
   obtain ⟨rest, rfl, hO45_⟩ := ord_one (m := 4095) hO44_ rfl 12 (m' := 8191) (by decide +kernel) rfl
   clear hO44_
   refine g_op_not rfl rfl (g_d rfl ?_)
   try dsimp only [set0,setS]
   obtain ⟨rest, rfl, hO46_⟩ := ord_one (m := 8191) hO45_ rfl 13 (m' := 16383) (by decide +kernel) rfl
   clear hO45_
   refine g_op (v := Value.bool false) rfl rfl rfl (g_d rfl ?_)
   obtain rfl := ord_end hO46_ rfl (by decide +kernel)
   refine g_ops_nil (g_cond_false rfl ?_)
   obtain rfl := Option.some.inj H
   subst Hx2_
   have hs := hs.pull 1 rfl
   have hs := hs.pull 1 rfl
   have hs : St _ [_,_] _ := St.take (Γ' := []) hs
   refine g_exit rfl ?_
   exact ha2_ _ _ ⟨x35, Hr2_, rfl, hs⟩
  intro hb
  rw [if_neg (b_dec_f hb)] at H
  refine g_d rfl (g_ops_nil (g_cond_false rfl ?_))
  obtain rfl := Option.some.inj H
  subst Hx1_
  have hs := hs.pull 1 rfl
  have hs : St _ [_] _ := St.take (Γ' := [_]) hs
  refine g_exit rfl ?_
  exact ha1_ _ _ ⟨v18, x19, Hr1_, rfl, hs⟩

/- function 55 impl_size_int16 -/
def impl_size_int16.post (w0 : World) (r : Int) (v : Value) (w : World) : Prop := v = Value.int .i64 r ∧ St w0 [] w
set_option maxHeartbeats 8000000 in
set_option maxRecDepth 100000 in
theorem impl_size_int16.calls {N : Nat} {a1 : (List Int)} {v2 : Value} {w0 : World} {r : Int} (hr0 : RdRow (K.int .i16) w0 v2 a1) (H : impl_size_int16.f N a1 = some r) :
    Calls Try.prog 55 #[v2] w0 fun e w => ∃ v, e = .returned v ∧ impl_size_int16.post w0 r v w := by
  unfold impl_size_int16.f at H
  have hs : St w0 [] w0 := St.refl w0
  refine calls_of_g (n := 4) Try.func55 rfl rfl ?_
  show G _ _ _ _ [_,_,_,_,_] _
  refine g_seq (g_rg [0] rfl ?_)
  refine g_op (v := Value.int .i64 0) rfl rfl rfl (g_ops_nil (g_seq (g_rg [0, 1, 2] rfl ?_)))
  refine g_op (v := v2) rfl rfl rfl ?_
  refine s_len (hs.rd hr0) rfl rfl rfl rfl rfl ?_
  show G _ _ _ _ [_,_,_,_,_] _
  refine g_op (v := Value.int .i64 (a1.length : Int)) rfl rfl rfl (g_ops_nil ?_)
  obtain rfl := Option.some.inj H
  refine g_ret Try.func55 (v := Value.int .i64 (a1.length : Int)) (res1 rfl rfl) ?_
  have hs : St _ [] _ := St.take (Γ' := []) hs
  exact ⟨_, rfl, rfl, hs⟩

/- function 33 impl_within -/
def impl_within.post (w0 : World) (r : Bool) (v : Value) (w : World) : Prop := v = Value.bool r ∧ St w0 [] w
set_option maxHeartbeats 8000000 in
set_option maxRecDepth 100000 in
theorem impl_within.calls {N : Nat} {a1 : Int} {a2 : Int} {a3 : Int} {w0 : World} {r : Bool} (H : impl_within.f N a1 a2 a3 = some r) :
    Calls Try.prog 33 #[Value.int .i64 a1, Value.int .i64 a2, Value.int .i64 a3] w0 fun e w => ∃ v, e = .returned v ∧ impl_within.post w0 r v w := by
  unfold impl_within.f at H
  have hs : St w0 [] w0 := St.refl w0
  refine calls_of_g (n := 12) Try.func33 rfl rfl ?_
  show G _ _ _ _ [_,_,_,_,_,_,_,_,_,_,_,_,_,_,_] _
  refine g_seq (g_rg [0] rfl ?_)
  refine g_op (v := Value.bool false) rfl rfl rfl (g_ops_nil (g_seq (g_rg [0, 1, 2, 3, 4, 5, 6, 7, 8] rfl ?_)))
  refine g_op (v := Value.int .i64 a2) rfl rfl rfl ?_
  show G _ _ _ _ [_,_,_,_,_,_,_,_,_,_,_,_,_,_,_] _
  refine g_op (v := Value.int .i64 a1) rfl rfl rfl ?_
  refine g_op_b (B := decide (a2 ≤ a1)) rfl rfl rfl ?_ ?_
  ·
   intro hb
   rw [if_pos (b_dec_t hb)] at H
   show G _ _ _ _ [_,_,_,_,_,_,_,_,_,_,_,_,_,_,_] _
   refine g_op (v := Value.bool true) rfl rfl rfl ?_
   refine g_op (v := Value.int .i64 a1) rfl rfl rfl ?_
   refine g_op (v := Value.int .i64 a3) rfl rfl rfl ?_
   show G _ _ _ _ [_,_,_,_,_,_,_,_,_,_,_,_,_,_,_] _
   refine g_op (v := Value.bool (decide (a1 ≤ a3))) rfl rfl rfl ?_
   refine g_op (v := Value.bool (decide (a1 ≤ a3))) rfl rfl rfl ?_
   refine g_op (v := Value.bool (decide (a1 ≤ a3))) rfl rfl rfl ?_
   show G _ _ _ _ [_,_,_,_,_,_,_,_,_,_,_,_,_,_,_] _
   refine g_ops_nil ?_
   obtain rfl := Option.some.inj H
   refine g_ret Try.func33 (v := Value.bool (decide (a1 ≤ a3))) (res1 rfl rfl) ?_
   have hs : St _ [] _ := St.take (Γ' := []) hs
   exact ⟨_, rfl, rfl, hs⟩
  intro hb
  rw [if_neg (b_dec_f hb)] at H
  refine g_op (v := Value.bool false) rfl rfl rfl ?_
  show G _ _ _ _ [_,_,_,_,_,_,_,_,_,_,_,_,_,_,_] _
  refine g_op_not rfl rfl (g_op_not rfl rfl (g_op_not rfl rfl ?_))
  show G _ _ _ _ [_,_,_,_,_,_,_,_,_,_,_,_,_,_,_] _
  refine g_op (v := Value.bool false) rfl rfl rfl ?_
  refine g_op (v := Value.bool false) rfl rfl rfl (g_ops_nil ?_)
  obtain rfl := Option.some.inj H
  refine g_ret Try.func33 (v := Value.bool false) (res1 rfl rfl) ?_
  have hs : St _ [] _ := St.take (Γ' := []) hs
  exact ⟨_, rfl, rfl, hs⟩

/- function 57 impl_ValidGlasses_1 -/
def impl_ValidGlasses_1.post (w0 : World) (r : Bool) (v : Value) (w : World) : Prop := v = Value.bool r ∧ St w0 [] w
set_option maxHeartbeats 8000000 in
set_option maxRecDepth 100000 in
theorem impl_ValidGlasses_1.calls {N : Nat} {a1 : Int} {w0 : World} {r : Bool} (H : impl_ValidGlasses_1.f N a1 = some r) :
    Calls Try.prog 57 #[Value.int .i16 a1] w0 fun e w => ∃ v, e = .returned v ∧ impl_ValidGlasses_1.post w0 r v w := by
  unfold impl_ValidGlasses_1.f at H
  have hs : St w0 [] w0 := St.refl w0
  refine calls_of_g (n := 8) Try.func57 rfl rfl ?_
  show G _ _ _ _ [_,_,_,_,_,_,_,_,_] _
  refine g_seq (g_rg [0] rfl ?_)
  refine g_op (v := Value.bool false) rfl rfl rfl (g_ops_nil (g_seq (g_rg [0, 1, 2, 3, 4, 5, 6] rfl ?_)))
  refine g_op (v := Value.int .i16 a1) rfl rfl rfl ?_
  show G _ _ _ _ [_,_,_,_,_,_,_,_,_] _
  refine g_op_b (B := decide (a1 < 1)) rfl rfl rfl ?_ ?_
  ·
   intro hb
   rw [if_pos (b_dec_t hb)] at H
   refine g_op (v := Value.bool true) rfl rfl rfl (g_op_not rfl rfl ?_)
   show G _ _ _ _ [_,_,_,_,_,_,_,_,_] _
   refine g_op_not rfl rfl ?_
   refine g_op (v := Value.bool true) rfl rfl rfl ?_
   refine g_op (v := Value.bool true) rfl rfl rfl ?_
   show G _ _ _ _ [_,_,_,_,_,_,_,_,_] _
   refine g_ops_nil ?_
   obtain rfl := Option.some.inj H
   refine g_ret Try.func57 (v := Value.bool true) (res1 rfl rfl) ?_
   have hs : St _ [] _ := St.take (Γ' := []) hs
   exact ⟨_, rfl, rfl, hs⟩
  intro hb
  rw [if_neg (b_dec_f hb)] at H
  refine g_op (v := Value.bool false) rfl rfl rfl ?_
  refine g_op (v := Value.int .i16 a1) rfl rfl rfl ?_
  show G _ _ _ _ [_,_,_,_,_,_,_,_,_] _
  refine g_op (v := Value.bool (decide (a1 > 40))) rfl rfl rfl ?_
  refine g_op (v := Value.bool (decide (a1 > 40))) rfl rfl rfl ?_
  refine g_op (v := Value.bool (decide (a1 > 40))) rfl rfl rfl ?_
  show G _ _ _ _ [_,_,_,_,_,_,_,_,_] _
  refine g_ops_nil ?_
  obtain rfl := Option.some.inj H
  refine g_ret Try.func57 (v := Value.bool (decide (a1 > 40))) (res1 rfl rfl) ?_
  have hs : St _ [] _ := St.take (Γ' := []) hs
  exact ⟨_, rfl, rfl, hs⟩

end Go.Proofs.YtmnaclghakalmaaX
