/- Contracts, printed by gen.py. -/
import Derived.Test.YtjagkhjbbdfkaaaXT
import Derived.Test.YtjagkhjbbdfkaaaProg
import Derived.Test.YtjagkhjbbdfkaaaXRowR
import Derived.Test.YtjagkhjbbdfkaaaXSeg
import Derived.Test.YtjagkhjbbdfkaaaXKey
import Derived.Test.YtjagkhjbbdfkaaaXIter
import Derived.Test.YtjagkhjbbdfkaaaXRow2
import Derived.Test.YtjagkhjbbdfkaaaFBX
import Derived.Test.YtjagkhjbbdfkaaaXDel
import Derived.Test.YtjagkhjbbdfkaaaXShelf
import Derived.Test.YtjagkhjbbdfkaaaXC2
namespace Go.Proofs.YtjagkhjbbdfkaaaX
open Go Go.RowKit Go.Proofs
set_option linter.unusedVariables false
set_option linter.unusedSimpArgs false
/- function 7 spec_LeastWeights -/
def spec_LeastWeights.post (w0 : World) (r : ((List Int) × Int)) (v : Value) (w : World) : Prop := ∃ u1 : Value, v = Value.tuple #[u1, Value.int .i64 r.2] ∧ St w0 [Row 41 (K.int .i16) u1 r.1] w
set_option maxHeartbeats 8000000 in
set_option maxRecDepth 100000 in
theorem spec_LeastWeights.calls {N : Nat} {a1 : Int} {a2 : Bool} {w0 : World} {r : ((List Int) × Int)} (H : spec_LeastWeights.f N a1 a2 = some r) :
    Calls Try.prog 7 #[Value.int .i64 a1, Value.bool a2] w0 fun e w => ∃ v, e = .returned v ∧ spec_LeastWeights.post w0 r v w := by
  unfold spec_LeastWeights.f at H
  have hs : St w0 [] w0 := St.refl w0
  refine calls_of_g (n := 79) Try.func7 rfl rfl ?_
  show G _ _ _ _ (_::_::_::_::_::_::_::_::_::_::_::_::_::_::_::_::_::_::_::_::_::_::_::_::_::_::_::_::_::_::_::_::_::_::_::_::_::_::_::_::_::_::_::_::_::_::_::_::_::_::_::_::_::_::_::_::_::_::_::_::_::_::_::_::_::_::_::_::_::_::_::_::_::_::_::_::_::_::_::_::_::[]) _
  refine g_seq ?_
  refine g_region ?_
  show G _ _ _ (.inRegion _ [0, 1] :: _) _ _
  refine g_op (v := Value.slice none 0 0) rfl rfl rfl ?_
  refine g_d rfl ?_
  try dsimp only [set0,setS]
  refine g_op (v := Value.int .i64 0) rfl rfl rfl ?_
  refine g_d rfl ?_
  try dsimp only [set0,setS]
  refine g_ops_nil ?_
  refine g_seq ?_
  refine g_seq ?_
  refine g_region ?_
  show G _ _ _ (.inRegion _ [0, 1, 2] :: _) _ _
  refine g_op (v := Value.int .i64 a1) rfl rfl rfl ?_
  refine g_d rfl ?_
  obtain ⟨r3, Hr3, H⟩ := bind_get H
  refine s_call (args := [Value.int .i64 a1, Value.int .i64 1, Value.int .i64 2000]) rfl rfl (x_call rfl (callFunc_enter Try.func18 rfl rfl) rfl) (spec_l00In.calls (a1 := a1) (a2 := 1) (a3 := 2000) Hr3) ?_
  rintro _ w ⟨rfl, hs2⟩
  have hs : St _ [] _ := hs.call hs2
  cases r3 with
  | true =>
    rw [if_pos rfl] at H
    refine g_d rfl ?_
    try dsimp only [set0,setS]
    refine g_op (v := Value.bool false) rfl rfl rfl ?_
    refine g_d rfl ?_
    try dsimp only [set0,setS]
    refine g_ops_nil ?_
    refine g_cond_false rfl ?_
    refine g_skip ?_
    refine g_seq ?_
    refine g_region ?_
    show G _ _ _ (.inRegion _ [0] :: _) _ _
    refine g_op (v := Value.int .i64 2) rfl rfl rfl ?_
    refine g_d rfl ?_
    try dsimp only [set0,setS]
    refine g_ops_nil ?_
    refine g_seq ?_
    refine g_region ?_
    show G _ _ _ (.inRegion _ [0, 1] :: _) _ _
    refine g_op (v := Value.int .i64 a1) rfl rfl rfl ?_
    refine g_d rfl ?_
    refine g_op (v := Value.int .i64 a1) rfl rfl rfl ?_
    refine g_d rfl ?_
    try dsimp only [set0,setS]
    refine g_ops_nil ?_
    refine g_seq ?_
    refine g_seq ?_
    refine g_join2 (J := (fun t w => ∃ x4 : Int, ∃ x5 : Int, spec_LeastWeights.j0 N a1 x4 x5 = some r ∧ Fr t (fun O => (Value.int .i64 a1::O 1::O 2::O 3::O 4::O 5::Value.int .i64 x4::Value.int .i64 x5::O 8::O 9::O 10::O 11::O 12::O 13::O 14::O 15::O 16::O 17::O 18::O 19::O 20::O 21::O 22::O 23::O 24::O 25::O 26::O 27::O 28::O 29::O 30::O 31::O 32::O 33::O 34::O 35::O 36::O 37::O 38::O 39::O 40::O 41::O 42::O 43::O 44::O 45::O 46::O 47::O 48::O 49::O 50::O 51::O 52::O 53::O 54::O 55::O 56::O 57::O 58::O 59::O 60::O 61::O 62::O 63::O 64::O 65::O 66::O 67::O 68::O 69::O 70::O 71::O 72::O 73::O 74::O 75::O 76::O 77::O 78::O 79::O 80::[] : List Value)) ∧ St w0 [] w)) ?_ ?_
    ·
     rintro t w ⟨x4, x5, H, hf, hs⟩
     obtain ⟨O, rfl⟩ := hf.open
     try dsimp only
     unfold spec_LeastWeights.j0 at H
     refine g_seq ?_
     refine g_region ?_
     show G _ _ _ (.inRegion _ [0, 1] :: _) _ _
     refine s_lit0 (κ := (K.int .i16)) hs rfl rfl rfl rfl (fun _ => rfl) ?_
     intro v6 w hs
     refine g_d rfl ?_
     try dsimp only [set0,setS]
     refine g_op (v := v6) rfl rfl rfl ?_
     refine g_d rfl ?_
     try dsimp only [set0,setS]
     refine g_ops_nil ?_
     refine g_seq ?_
     refine g_region ?_
     show G _ _ _ (.inRegion _ [0, 1] :: _) _ _
     refine g_op (v := Value.int .i64 a1) rfl rfl rfl ?_
     refine g_d rfl ?_
     refine g_op (v := Value.int .i64 a1) rfl rfl rfl ?_
     refine g_d rfl ?_
     try dsimp only [set0,setS]
     refine g_ops_nil ?_
     refine g_seq ?_
     refine g_region ?_
     show G _ _ _ (.inRegion _ [0] :: _) _ _
     refine g_op (v := Value.int .i64 1) rfl rfl rfl ?_
     refine g_d rfl ?_
     try dsimp only [set0,setS]
     refine g_ops_nil ?_
     refine g_seq ?_
     obtain ⟨o1_, Ho, Hr1_⟩ := bind_get H
     refine g_block_join (J := fun t w => ∃ v17 : Value, ∃ x18 : (List Int), ∃ x20 : Int, spec_LeastWeights.a1 N x18 x20 = some r ∧ Fr t (fun O => (O 0::O 1::O 2::O 3::O 4::O 5::O 6::O 7::v17::Value.int .i64 x20::O 10::O 11::O 12::O 13::O 14::O 15::O 16::O 17::O 18::O 19::O 20::O 21::O 22::O 23::O 24::O 25::O 26::O 27::O 28::O 29::O 30::O 31::O 32::O 33::O 34::O 35::O 36::O 37::O 38::O 39::O 40::O 41::O 42::O 43::O 44::O 45::O 46::O 47::O 48::O 49::O 50::O 51::O 52::O 53::O 54::O 55::O 56::O 57::O 58::O 59::O 60::O 61::O 62::O 63::O 64::O 65::O 66::O 67::O 68::O 69::O 70::O 71::O 72::O 73::O 74::O 75::O 76::O 77::O 78::O 79::O 80::[] : List Value)) ∧ St w0 [Row 41 (K.int .i16) v17 x18] w) ?_ ?_
     ·
      rintro t w ⟨v17, x18, x20, H, hf, hs⟩
      obtain ⟨O, rfl⟩ := hf.open
      try dsimp only
      unfold spec_LeastWeights.a1 at H
      refine g_seq ?_
      refine g_region ?_
      show G _ _ _ (.inRegion _ [0, 1, 2, 3, 4, 5] :: _) _ _
      refine g_op (v := v17) rfl rfl rfl ?_
      refine g_d rfl ?_
      refine g_op (v := Value.int .i64 x20) rfl rfl rfl ?_
      refine g_d rfl ?_
      refine g_op (v := Value.int .i16 (i16w x20)) rfl rfl rfl ?_
      refine g_d rfl ?_
      refine s_lit1 (fkI .i16) (y := i16w x20) hs rfl rfl rfl rfl (fun _ => rfl) (zv := (Value.int .i16 0)) (fun _ => rfl) rfl (by decide) (by decide) rfl ?_
      intro v21 w hs
      refine g_d rfl ?_
      try dsimp only [set0,setS]
      have hs := hs.pull 1 rfl
      have hs : St _ [_,_] _ := hs
      obtain ⟨g, H⟩ := ite_get H
      refine s_append (fkI .i16) (zv := (Value.int .i16 0)) (B := 2) hs (hs.row 1 rfl) rfl rfl rfl rfl rfl rfl rfl rfl rfl (by decide) rfl rfl (by decide) (by omega) ?_
      intro v23 w hs
      refine g_d rfl ?_
      try dsimp only [set0,setS]
      refine g_op (v := v23) rfl rfl rfl ?_
      refine g_d rfl ?_
      try dsimp only [set0,setS]
      refine g_ops_nil ?_
      refine g_seq ?_
      refine g_seq ?_
      refine g_region ?_
      show G _ _ _ (.inRegion _ [0, 1, 2, 3] :: _) _ _
      refine g_op (v := v23) rfl rfl rfl ?_
      refine g_d rfl ?_
      refine s_len (hs.row 0 rfl) rfl rfl rfl rfl rfl ?_
      refine g_d rfl ?_
      try dsimp only [set0,setS]
      refine g_op (v := Value.int .i64 (i64w (((x18 ++ ([i16w x20])).length : Int) - 1))) rfl rfl rfl ?_
      refine g_d rfl ?_
      try dsimp only [set0,setS]
      refine g_op (v := Value.int .i64 (i64w (((x18 ++ ([i16w x20])).length : Int) - 1))) rfl rfl rfl ?_
      refine g_d rfl ?_
      try dsimp only [set0,setS]
      refine g_ops_nil ?_
      obtain ⟨o1_, Ho, Hr1_⟩ := bind_get H
      refine g_block_join (J := fun t w => ∃ x36 : (List Int), spec_LeastWeights.a3 N x36 = some r ∧ Fr t (fun O => (O 0::O 1::O 2::O 3::O 4::O 5::O 6::O 7::v23::O 9::O 10::O 11::O 12::O 13::O 14::O 15::O 16::O 17::O 18::O 19::O 20::O 21::O 22::O 23::O 24::O 25::O 26::O 27::O 28::O 29::O 30::O 31::O 32::O 33::O 34::O 35::O 36::O 37::O 38::O 39::O 40::O 41::O 42::O 43::O 44::O 45::O 46::O 47::O 48::O 49::O 50::O 51::O 52::O 53::O 54::O 55::O 56::O 57::O 58::O 59::O 60::O 61::O 62::O 63::O 64::O 65::O 66::O 67::O 68::O 69::O 70::O 71::O 72::O 73::O 74::O 75::O 76::O 77::O 78::O 79::O 80::[] : List Value)) ∧ St w0 [Row 41 (K.int .i16) v23 x36] w) ?_ ?_
      ·
       rintro t w ⟨x36, H, hf, hs⟩
       obtain ⟨O, rfl⟩ := hf.open
       try dsimp only
       unfold spec_LeastWeights.a3 at H
       refine g_seq ?_
       refine g_region ?_
       show G _ _ _ (.inRegion _ [0, 1, 2] :: _) _ _
       refine g_op (v := v23) rfl rfl rfl ?_
       refine g_d rfl ?_
       refine g_op (v := v23) rfl rfl rfl ?_
       refine g_d rfl ?_
       try dsimp only [set0,setS]
       refine g_op (v := Value.int .i64 0) rfl rfl rfl ?_
       refine g_d rfl ?_
       try dsimp only [set0,setS]
       refine g_ops_nil ?_
       obtain rfl := Option.some.inj H
       refine g_ret Try.func7 (v := Value.tuple #[v23, Value.int .i64 0]) (resN (l := Try.f7.results.toList) (vs := [v23, Value.int .i64 0]) rfl ⟨rfl, rfl, trivial⟩ (by simp)) ?_
       have hs := hs.pull 0 rfl
       have hs : St _ [_] _ := St.take (Γ' := []) hs
       exact ⟨_, rfl, v23, rfl, hs⟩
      ·
       intro ha1_
       have hs := hs.pull 0 rfl
       have hs : St _ [_] _ := St.take (Γ' := [_]) hs
       refine g_loop_fuel (I := fun n_ t w => ∃ x30 : (List Int), ∃ x31 : Int, rounds (fun s => spec_LeastWeights.b3 N s.1 s.2) n_ (x30, x31) = some o1_ ∧ Fr t (fun O => (O 0::O 1::O 2::O 3::O 4::O 5::O 6::O 7::v23::O 9::O 10::Value.int .i64 x31::O 12::O 13::O 14::O 15::O 16::O 17::O 18::O 19::O 20::O 21::O 22::O 23::O 24::O 25::O 26::O 27::O 28::O 29::O 30::O 31::O 32::O 33::O 34::O 35::O 36::O 37::O 38::O 39::O 40::O 41::O 42::O 43::O 44::O 45::O 46::O 47::O 48::O 49::O 50::O 51::O 52::O 53::O 54::O 55::O 56::O 57::O 58::O 59::O 60::O 61::O 62::O 63::O 64::O 65::O 66::O 67::O 68::O 69::O 70::O 71::O 72::O 73::O 74::O 75::O 76::O 77::O 78::O 79::O 80::[] : List Value)) ∧ St w0 [Row 41 (K.int .i16) v23 x30] w) N ⟨x18 ++ ([i16w x20]), i64w (((x18 ++ ([i16w x20])).length : Int) - 1), Ho, rfl, hs⟩ ?_ ?_
       ·
        rintro _ _ ⟨x30, x31, h, _⟩
        exact rounds_zero h
       ·
        intro n_ ih1_
        rintro t w ⟨x30, x31, Ho, hf, hs⟩
        obtain ⟨O, rfl⟩ := hf.open
        try dsimp only
        obtain ⟨x45_, H, Hx1_⟩ := rounds_succ Ho
        have H : spec_LeastWeights.b3 N x30 x31 = some x45_ := H
        unfold spec_LeastWeights.b3 at H
        refine g_seq ?_
        refine g_seq ?_
        by_cases hb23_ : x31 > 0
        ·
         rw [if_pos hb23_] at H
         refine g_lay (n := 14) rfl [0, 1, 2, 3, 4, 5, 6, 7, 8, 9, 10, 11, 12, 13] [0, 1, 2, 3, 4, 5, 6, 7, 8, 9, 10, 11, 12, 13] rfl rfl ?_
         intro rest w hh hbw hO
         have hs := hs.samew hh hbw
         try dsimp only [set0,setS]
         obtain ⟨rest, rfl, hO24_⟩ := ord_one (m := 0) hO rfl 0 (m' := 1) (by decide +kernel) rfl
         clear hO
         refine g_op (v := Value.int .i64 x31) rfl rfl rfl ?_
         refine g_d rfl ?_
         obtain ⟨rest, rfl, hO25_⟩ := ord_one (m := 1) hO24_ rfl 1 (m' := 3) (by decide +kernel) rfl
         clear hO24_
         refine g_op (v := Value.bool true) rfl rfl (run_bool (b := decide (x31 > 0)) rfl (by first | exact decide_eq_true hb23_ | exact decide_eq_false hb23_ | simp [hb23_])) ?_
         refine g_d rfl ?_
         try dsimp only [set0,setS]
         obtain ⟨rest, rfl, hO26_⟩ := ord_one (m := 3) hO25_ rfl 2 (m' := 7) (by decide +kernel) rfl
         clear hO25_
         refine g_op (v := Value.bool true) rfl rfl rfl ?_
         refine g_d rfl ?_
         obtain ⟨gd28, H⟩ := ite_get H
         obtain ⟨ad29_, ad29_N, ad29_C, had29_⟩ := sl_at (hs.row 0 rfl) gd28.1 gd28.2
         obtain ⟨gd30, H⟩ := ite_get H
         obtain ⟨ad31_, ad31_N, ad31_C, had31_⟩ := sl_at (hs.row 0 rfl) gd30.1 gd30.2
         refine g_name ?_
         intro T hT
         refine g_layer (m0 := 7) hO26_ rfl 4095 [3, 4, 5, 6, 7, 8, 9, 10, 11] [0, 1, 3, 7, 7, 31, 63, 7, 7, 263, 903, 1927, 4095, 8191] (by decide +kernel) (fun D t w => ∃ O : Nat → Value, t = (O 0::O 1::O 2::O 3::O 4::O 5::O 6::O 7::v23::O 9::O 10::Value.int .i64 x31::O 12::O 13::O 14::O 15::O 16::O 17::O 18::O 19::O 20::O 21::O 22::O 23::O 24::O 25::O 26::O 27::O 28::O 29::O 30::O 31::O 32::O 33::O 34::O 35::O 36::O 37::O 38::O 39::O 40::O 41::O 42::O 43::O 44::O 45::O 46::Value.int .i64 x31::Value.bool true::Value.bool true::cnd (D 3) v23 (O 50)::cnd (D 4) (Value.int .i64 x31) (O 51)::cnd (D 5) (Value.pointer (some (ad29_.add (x31.toNat * 1)))) (O 52)::cnd (D 6) (Value.int .i16 (rdL x30 x31 0)) (O 53)::cnd (D 7) v23 (O 54)::cnd (D 8) (Value.int .i64 x31) (O 55)::cnd (D 9) (Value.int .i64 (i64w (x31 - 1))) (O 56)::cnd (D 10) (Value.pointer (some (ad31_.add ((i64w (x31 - 1)).toNat * 1)))) (O 57)::cnd (D 11) (Value.int .i16 (rdL x30 (i64w (x31 - 1)) 0)) (O 58)::O 59::O 60::O 61::O 62::O 63::O 64::O 65::O 66::O 67::O 68::O 69::O 70::O 71::O 72::O 73::O 74::O 75::O 76::O 77::O 78::O 79::O 80::[]) ∧ St w0 [Row 41 (K.int .i16) v23 x30] w) ?_ ⟨?_, ⟨?_, ⟨?_, ⟨?_, ⟨?_, ⟨?_, ⟨?_, ⟨?_, ⟨?_, trivial⟩⟩⟩⟩⟩⟩⟩⟩⟩ ?_
         · exact ⟨fun i => T.getD i undef, (by subst hT; rfl), hs⟩
         ·
          intro D t w hD hp hcl hI rest hk
          obtain ⟨O, ht, hs⟩ := hI
          have hp : AllDone D [2] := hp
          obtain ⟨p2_, _⟩ := hp
          have q5_ : D 5 = false := not_yet (show D 5 = true → AllDone D [3, 4, 2] from hcl 5 (by decide)) 0 3 rfl hD
          have q6_ : D 6 = false := not_yet (show D 6 = true → AllDone D [5, 2] from hcl 6 (by decide)) 0 5 rfl q5_
          simp only [hD, q5_, q6_, cnd_t, cnd_f, Asc_t, Asc_f] at ht hs
          subst ht
          refine g_op (v := v23) rfl rfl rfl ?_
          refine g_d rfl ?_
          try dsimp only [set0,setS]
          exact hk _ _ ⟨O, (by simp only [upd, Nat.reduceBEq, Bool.true_or, Bool.false_or, q5_, q6_, cnd_t, cnd_f, Asc_t, Asc_f]), hs.cast (by first | rfl | simp only [List.take, List.drop, List.cons_append, List.nil_append, List.set_cons_zero, List.set_cons_succ, List.eraseIdx, upd, Nat.reduceBEq, Bool.true_or, Bool.false_or, q5_, q6_, cnd_t, cnd_f, Asc_t, Asc_f])⟩
         ·
          intro D t w hD hp hcl hI rest hk
          obtain ⟨O, ht, hs⟩ := hI
          have hp : AllDone D [2] := hp
          obtain ⟨p2_, _⟩ := hp
          have q5_ : D 5 = false := not_yet (show D 5 = true → AllDone D [3, 4, 2] from hcl 5 (by decide)) 1 4 rfl hD
          have q6_ : D 6 = false := not_yet (show D 6 = true → AllDone D [5, 2] from hcl 6 (by decide)) 0 5 rfl q5_
          simp only [hD, q5_, q6_, cnd_t, cnd_f, Asc_t, Asc_f] at ht hs
          subst ht
          refine g_op (v := Value.int .i64 x31) rfl rfl rfl ?_
          refine g_d rfl ?_
          try dsimp only [set0,setS]
          exact hk _ _ ⟨O, (by simp only [upd, Nat.reduceBEq, Bool.true_or, Bool.false_or, q5_, q6_, cnd_t, cnd_f, Asc_t, Asc_f]), hs.cast (by first | rfl | simp only [List.take, List.drop, List.cons_append, List.nil_append, List.set_cons_zero, List.set_cons_succ, List.eraseIdx, upd, Nat.reduceBEq, Bool.true_or, Bool.false_or, q5_, q6_, cnd_t, cnd_f, Asc_t, Asc_f])⟩
         ·
          intro D t w hD hp hcl hI rest hk
          obtain ⟨O, ht, hs⟩ := hI
          have hp : AllDone D [3, 4, 2] := hp
          obtain ⟨p3_, p4_, p2_, _⟩ := hp
          have q6_ : D 6 = false := not_yet (show D 6 = true → AllDone D [5, 2] from hcl 6 (by decide)) 0 5 rfl hD
          simp only [hD, p3_, p4_, q6_, cnd_t, cnd_f, Asc_t, Asc_f] at ht hs
          subst ht
          refine s_idxD (κ := (K.int .i16)) (m := 1) rfl (hs.row 0 rfl) rfl (fun _ => rfl) gd28.1 gd28.2 had29_ rfl rfl rfl rfl rfl ?_
          refine g_d rfl ?_
          try dsimp only [set0,setS]
          exact hk _ _ ⟨O, (by simp only [upd, Nat.reduceBEq, Bool.true_or, Bool.false_or, p3_, p4_, q6_, cnd_t, cnd_f, Asc_t, Asc_f]), hs.cast (by first | rfl | simp only [List.take, List.drop, List.cons_append, List.nil_append, List.set_cons_zero, List.set_cons_succ, List.eraseIdx, upd, Nat.reduceBEq, Bool.true_or, Bool.false_or, p3_, p4_, q6_, cnd_t, cnd_f, Asc_t, Asc_f])⟩
         ·
          intro D t w hD hp hcl hI rest hk
          obtain ⟨O, ht, hs⟩ := hI
          have hp : AllDone D [5, 2] := hp
          obtain ⟨p5_, p2_, _⟩ := hp
          obtain ⟨p3_, p4_, _, _⟩ := (show D 5 = true → AllDone D [3, 4, 2] from hcl 5 (by decide)) p5_
          simp only [hD, p3_, p4_, p5_, cnd_t, cnd_f, Asc_t, Asc_f] at ht hs
          subst ht
          refine s_load1 rfl rfl (v := Value.int .i16 (rdL x30 x31 0)) rfl rfl (fun _ => rfl) (cellsAt_of (fkI .i16) 0 (hs.row 0 rfl) had29_ gd28.1 gd28.2) ?_
          refine g_d rfl ?_
          try dsimp only [set0,setS]
          exact hk _ _ ⟨O, (by simp only [upd, Nat.reduceBEq, Bool.true_or, Bool.false_or, p3_, p4_, p5_, cnd_t, cnd_f, Asc_t, Asc_f]), hs.cast (by first | rfl | simp only [List.take, List.drop, List.cons_append, List.nil_append, List.set_cons_zero, List.set_cons_succ, List.eraseIdx, upd, Nat.reduceBEq, Bool.true_or, Bool.false_or, p3_, p4_, p5_, cnd_t, cnd_f, Asc_t, Asc_f])⟩
         ·
          intro D t w hD hp hcl hI rest hk
          obtain ⟨O, ht, hs⟩ := hI
          have hp : AllDone D [2] := hp
          obtain ⟨p2_, _⟩ := hp
          have q10_ : D 10 = false := not_yet (show D 10 = true → AllDone D [7, 9, 2] from hcl 10 (by decide)) 0 7 rfl hD
          have q11_ : D 11 = false := not_yet (show D 11 = true → AllDone D [10, 2] from hcl 11 (by decide)) 0 10 rfl q10_
          simp only [hD, q10_, q11_, cnd_t, cnd_f, Asc_t, Asc_f] at ht hs
          subst ht
          refine g_op (v := v23) rfl rfl rfl ?_
          refine g_d rfl ?_
          try dsimp only [set0,setS]
          exact hk _ _ ⟨O, (by simp only [upd, Nat.reduceBEq, Bool.true_or, Bool.false_or, q10_, q11_, cnd_t, cnd_f, Asc_t, Asc_f]), hs.cast (by first | rfl | simp only [List.take, List.drop, List.cons_append, List.nil_append, List.set_cons_zero, List.set_cons_succ, List.eraseIdx, upd, Nat.reduceBEq, Bool.true_or, Bool.false_or, q10_, q11_, cnd_t, cnd_f, Asc_t, Asc_f])⟩
         ·
          intro D t w hD hp hcl hI rest hk
          obtain ⟨O, ht, hs⟩ := hI
          have hp : AllDone D [2] := hp
          obtain ⟨p2_, _⟩ := hp
          have q9_ : D 9 = false := not_yet (show D 9 = true → AllDone D [8, 2] from hcl 9 (by decide)) 0 8 rfl hD
          have q10_ : D 10 = false := not_yet (show D 10 = true → AllDone D [7, 9, 2] from hcl 10 (by decide)) 1 9 rfl q9_
          have q11_ : D 11 = false := not_yet (show D 11 = true → AllDone D [10, 2] from hcl 11 (by decide)) 0 10 rfl q10_
          simp only [hD, q9_, q10_, q11_, cnd_t, cnd_f, Asc_t, Asc_f] at ht hs
          subst ht
          refine g_op (v := Value.int .i64 x31) rfl rfl rfl ?_
          refine g_d rfl ?_
          try dsimp only [set0,setS]
          exact hk _ _ ⟨O, (by simp only [upd, Nat.reduceBEq, Bool.true_or, Bool.false_or, q9_, q10_, q11_, cnd_t, cnd_f, Asc_t, Asc_f]), hs.cast (by first | rfl | simp only [List.take, List.drop, List.cons_append, List.nil_append, List.set_cons_zero, List.set_cons_succ, List.eraseIdx, upd, Nat.reduceBEq, Bool.true_or, Bool.false_or, q9_, q10_, q11_, cnd_t, cnd_f, Asc_t, Asc_f])⟩
         ·
          intro D t w hD hp hcl hI rest hk
          obtain ⟨O, ht, hs⟩ := hI
          have hp : AllDone D [8, 2] := hp
          obtain ⟨p8_, p2_, _⟩ := hp
          have q10_ : D 10 = false := not_yet (show D 10 = true → AllDone D [7, 9, 2] from hcl 10 (by decide)) 1 9 rfl hD
          have q11_ : D 11 = false := not_yet (show D 11 = true → AllDone D [10, 2] from hcl 11 (by decide)) 0 10 rfl q10_
          simp only [hD, p8_, q10_, q11_, cnd_t, cnd_f, Asc_t, Asc_f] at ht hs
          subst ht
          refine g_op (v := Value.int .i64 (i64w (x31 - 1))) rfl rfl rfl ?_
          refine g_d rfl ?_
          try dsimp only [set0,setS]
          exact hk _ _ ⟨O, (by simp only [upd, Nat.reduceBEq, Bool.true_or, Bool.false_or, p8_, q10_, q11_, cnd_t, cnd_f, Asc_t, Asc_f]), hs.cast (by first | rfl | simp only [List.take, List.drop, List.cons_append, List.nil_append, List.set_cons_zero, List.set_cons_succ, List.eraseIdx, upd, Nat.reduceBEq, Bool.true_or, Bool.false_or, p8_, q10_, q11_, cnd_t, cnd_f, Asc_t, Asc_f])⟩
         ·
          intro D t w hD hp hcl hI rest hk
          obtain ⟨O, ht, hs⟩ := hI
          have hp : AllDone D [7, 9, 2] := hp
          obtain ⟨p7_, p9_, p2_, _⟩ := hp
          obtain ⟨p8_, _, _⟩ := (show D 9 = true → AllDone D [8, 2] from hcl 9 (by decide)) p9_
          have q11_ : D 11 = false := not_yet (show D 11 = true → AllDone D [10, 2] from hcl 11 (by decide)) 0 10 rfl hD
          simp only [hD, p7_, p8_, p9_, q11_, cnd_t, cnd_f, Asc_t, Asc_f] at ht hs
          subst ht
          refine s_idxD (κ := (K.int .i16)) (m := 1) rfl (hs.row 0 rfl) rfl (fun _ => rfl) gd30.1 gd30.2 had31_ rfl rfl rfl rfl rfl ?_
          refine g_d rfl ?_
          try dsimp only [set0,setS]
          exact hk _ _ ⟨O, (by simp only [upd, Nat.reduceBEq, Bool.true_or, Bool.false_or, p7_, p8_, p9_, q11_, cnd_t, cnd_f, Asc_t, Asc_f]), hs.cast (by first | rfl | simp only [List.take, List.drop, List.cons_append, List.nil_append, List.set_cons_zero, List.set_cons_succ, List.eraseIdx, upd, Nat.reduceBEq, Bool.true_or, Bool.false_or, p7_, p8_, p9_, q11_, cnd_t, cnd_f, Asc_t, Asc_f])⟩
         ·
          intro D t w hD hp hcl hI rest hk
          obtain ⟨O, ht, hs⟩ := hI
          have hp : AllDone D [10, 2] := hp
          obtain ⟨p10_, p2_, _⟩ := hp
          obtain ⟨p7_, p9_, _, _⟩ := (show D 10 = true → AllDone D [7, 9, 2] from hcl 10 (by decide)) p10_
          obtain ⟨p8_, _, _⟩ := (show D 9 = true → AllDone D [8, 2] from hcl 9 (by decide)) p9_
          simp only [hD, p7_, p8_, p9_, p10_, cnd_t, cnd_f, Asc_t, Asc_f] at ht hs
          subst ht
          refine s_load1 rfl rfl (v := Value.int .i16 (rdL x30 (i64w (x31 - 1)) 0)) rfl rfl (fun _ => rfl) (cellsAt_of (fkI .i16) 0 (hs.row 0 rfl) had31_ gd30.1 gd30.2) ?_
          refine g_d rfl ?_
          try dsimp only [set0,setS]
          exact hk _ _ ⟨O, (by simp only [upd, Nat.reduceBEq, Bool.true_or, Bool.false_or, p7_, p8_, p9_, p10_, cnd_t, cnd_f, Asc_t, Asc_f]), hs.cast (by first | rfl | simp only [List.take, List.drop, List.cons_append, List.nil_append, List.set_cons_zero, List.set_cons_succ, List.eraseIdx, upd, Nat.reduceBEq, Bool.true_or, Bool.false_or, p7_, p8_, p9_, p10_, cnd_t, cnd_f, Asc_t, Asc_f])⟩
         ·
          intro D t w rest hall hO27_ hI
          obtain ⟨O, ht, hs⟩ := hI
          have p3_ : D 3 = true := hall 3 (by decide) rfl
          have p4_ : D 4 = true := hall 4 (by decide) rfl
          have p5_ : D 5 = true := hall 5 (by decide) rfl
          have p6_ : D 6 = true := hall 6 (by decide) rfl
          have p7_ : D 7 = true := hall 7 (by decide) rfl
          have p8_ : D 8 = true := hall 8 (by decide) rfl
          have p9_ : D 9 = true := hall 9 (by decide) rfl
          have p10_ : D 10 = true := hall 10 (by decide) rfl
          have p11_ : D 11 = true := hall 11 (by decide) rfl
          simp only [p3_, p4_, p5_, p6_, p7_, p8_, p9_, p10_, p11_, cnd_t, cnd_f, Asc_t, Asc_f] at ht hs
          subst ht
          obtain ⟨rest, rfl, hO32_⟩ := ord_one (m := 4095) hO27_ rfl 12 (m' := 8191) (by decide +kernel) rfl
          clear hO27_
          refine g_op_b (B := decide ((rdL x30 x31 0) < (rdL x30 (i64w (x31 - 1)) 0))) rfl rfl rfl ?_ ?_
          ·
           intro hb
           rw [if_pos (b_dec_t hb)] at H
           refine g_d rfl ?_
           try dsimp only [set0,setS]
           obtain ⟨rest, rfl, hO33_⟩ := ord_one (m := 8191) hO32_ rfl 13 (m' := 16383) (by decide +kernel) rfl
           clear hO32_
           refine g_op (v := Value.bool true) rfl rfl rfl ?_
           refine g_d rfl ?_
           try dsimp only [set0,setS]
           obtain rfl := ord_end hO33_ rfl (by decide +kernel)
           refine g_ops_nil ?_
           refine g_cond_true rfl ?_
           refine g_skip ?_
           refine g_seq ?_
           refine g_block ?_
           refine g_seq ?_
           refine g_region ?_
           show G _ _ _ (.inRegion _ [0, 1, 2, 3, 4] :: _) _ _
           refine g_op (v := v23) rfl rfl rfl ?_
           refine g_d rfl ?_
           refine g_op (v := Value.int .i64 x31) rfl rfl rfl ?_
           refine g_d rfl ?_
           obtain ⟨g34, H⟩ := ite_get H
           refine s_idx (fkI .i16) 0 (hs.row 0 rfl) rfl (fun _ => rfl) g34.1 g34.2 rfl rfl rfl rfl rfl ?_
           intro p32 hp32 lp32 op32
           refine g_d rfl ?_
           try dsimp only [set0,setS]
           refine s_load1 rfl rfl (v := Value.int .i16 (rdL x30 x31 0)) rfl rfl (fun _ => rfl) hp32 ?_
           refine g_d rfl ?_
           try dsimp only [set0,setS]
           refine g_op (v := Value.int .i16 (rdL x30 x31 0)) rfl rfl rfl ?_
           refine g_d rfl ?_
           try dsimp only [set0,setS]
           refine g_ops_nil ?_
           refine g_seq ?_
           refine g_region ?_
           show G _ _ _ (.inRegion _ [0, 1, 2, 3, 4, 5, 6, 7, 8] :: _) _ _
           refine g_op (v := v23) rfl rfl rfl ?_
           refine g_d rfl ?_
           refine g_op (v := Value.int .i64 x31) rfl rfl rfl ?_
           refine g_d rfl ?_
           refine g_op (v := v23) rfl rfl rfl ?_
           refine g_d rfl ?_
           refine g_op (v := Value.int .i64 x31) rfl rfl rfl ?_
           refine g_d rfl ?_
           refine g_op (v := Value.int .i64 (i64w (x31 - 1))) rfl rfl rfl ?_
           refine g_d rfl ?_
           try dsimp only [set0,setS]
           obtain ⟨g35, H⟩ := ite_get H
           refine s_idx (fkI .i16) 0 (hs.row 0 rfl) rfl (fun _ => rfl) g35.1 g35.2 rfl rfl rfl rfl rfl ?_
           intro p33 hp33 lp33 op33
           refine g_d rfl ?_
           try dsimp only [set0,setS]
           refine s_load1 rfl rfl (v := Value.int .i16 (rdL x30 (i64w (x31 - 1)) 0)) rfl rfl (fun _ => rfl) hp33 ?_
           refine g_d rfl ?_
           try dsimp only [set0,setS]
           obtain ⟨g36, H⟩ := ite_get H
           refine s_idx (fkI .i16) 0 (hs.row 0 rfl) rfl (fun _ => rfl) g36.1 g36.2 rfl rfl rfl rfl rfl ?_
           intro p34 hp34 lp34 op34
           refine g_d rfl ?_
           try dsimp only [set0,setS]
           refine s_stRow (y := rdL x30 (i64w (x31 - 1)) 0) (fkI .i16) g36.1 g36.2 op34 hs rfl rfl rfl rfl rfl (fun _ => rfl) ?_
           intro w hs
           refine g_n rfl ?_
           refine g_ops_nil ?_
           refine g_region ?_
           show G _ _ _ (.inRegion _ [0, 1, 2, 3, 4, 5] :: _) _ _
           refine g_op (v := v23) rfl rfl rfl ?_
           refine g_d rfl ?_
           refine g_op (v := Value.int .i64 x31) rfl rfl rfl ?_
           refine g_d rfl ?_
           refine g_op (v := Value.int .i64 (i64w (x31 - 1))) rfl rfl rfl ?_
           refine g_d rfl ?_
           try dsimp only [set0,setS]
           refine g_op (v := Value.int .i16 (rdL x30 x31 0)) rfl rfl rfl ?_
           refine g_d rfl ?_
           obtain ⟨g37, H⟩ := ite_get H
           refine s_idx (fkI .i16) 0 (hs.row 0 rfl) rfl (fun _ => rfl) g37.1 g37.2 rfl rfl rfl rfl rfl ?_
           intro p35 hp35 lp35 op35
           refine g_d rfl ?_
           try dsimp only [set0,setS]
           refine s_stRow (y := rdL x30 x31 0) (fkI .i16) g37.1 g37.2 op35 hs rfl rfl rfl rfl rfl (fun _ => rfl) ?_
           intro w hs
           refine g_n rfl ?_
           refine g_ops_nil ?_
           refine g_inBlock ?_
           refine g_region ?_
           show G _ _ _ (.inRegion _ [0, 1, 2] :: _) _ _
           refine g_op (v := Value.int .i64 x31) rfl rfl rfl ?_
           refine g_d rfl ?_
           refine g_op (v := Value.int .i64 (i64w (x31 - 1))) rfl rfl rfl ?_
           refine g_d rfl ?_
           try dsimp only [set0,setS]
           refine g_op (v := Value.int .i64 (i64w (x31 - 1))) rfl rfl rfl ?_
           refine g_d rfl ?_
           try dsimp only [set0,setS]
           refine g_ops_nil ?_
           obtain rfl := Option.some.inj H
           have hs := hs.pull 0 rfl
           have hs : St _ [_] _ := St.take (Γ' := []) hs
           exact ih1_ _ _ ⟨stL (stL x30 x31 (rdL x30 (i64w (x31 - 1)) 0)) (i64w (x31 - 1)) (rdL x30 x31 0), i64w (x31 - 1), Hx1_, rfl, hs⟩
          ·
           intro hb
           rw [if_neg (b_dec_f hb)] at H
           refine g_d rfl ?_
           try dsimp only [set0,setS]
           obtain ⟨rest, rfl, hO38_⟩ := ord_one (m := 8191) hO32_ rfl 13 (m' := 16383) (by decide +kernel) rfl
           clear hO32_
           refine g_op (v := Value.bool false) rfl rfl rfl ?_
           refine g_d rfl ?_
           try dsimp only [set0,setS]
           obtain rfl := ord_end hO38_ rfl (by decide +kernel)
           refine g_ops_nil ?_
           refine g_cond_false rfl ?_
           obtain rfl := Option.some.inj H
           subst Hx1_
           have hs := hs.pull 0 rfl
           have hs : St _ [_] _ := St.take (Γ' := []) hs
           refine g_exit rfl ?_
           exact ha1_ _ _ ⟨x30, Hr1_, rfl, hs⟩
        ·
         rw [if_neg hb23_] at H
         refine g_lay (n := 14) rfl [0, 1, 2, 3, 4, 5, 6, 7, 8, 9, 10, 11, 12, 13] [0, 1, 2, 3, 4, 5, 6, 7, 8, 9, 10, 11, 12, 13] rfl rfl ?_
         intro rest w hh hbw hO
         have hs := hs.samew hh hbw
         try dsimp only [set0,setS]
         obtain ⟨rest, rfl, hO39_⟩ := ord_one (m := 0) hO rfl 0 (m' := 1) (by decide +kernel) rfl
         clear hO
         refine g_op (v := Value.int .i64 x31) rfl rfl rfl ?_
         refine g_d rfl ?_
         obtain ⟨rest, rfl, hO40_⟩ := ord_one (m := 1) hO39_ rfl 1 (m' := 3) (by decide +kernel) rfl
         clear hO39_
         refine g_op (v := Value.bool false) rfl rfl (run_bool (b := decide (x31 > 0)) rfl (by first | exact decide_eq_true hb23_ | exact decide_eq_false hb23_ | simp [hb23_])) ?_
         refine g_d rfl ?_
         try dsimp only [set0,setS]
         obtain ⟨rest, rfl, hO41_⟩ := ord_one (m := 3) hO40_ rfl 2 (m' := 7) (by decide +kernel) rfl
         clear hO40_
         refine g_op (v := Value.bool false) rfl rfl rfl ?_
         refine g_d rfl ?_
         refine g_name ?_
         intro T hT
         refine g_layer (m0 := 7) hO41_ rfl 4095 [3, 4, 5, 6, 7, 8, 9, 10, 11] [0, 1, 3, 7, 7, 31, 63, 7, 7, 263, 903, 1927, 4095, 8191] (by decide +kernel) (fun D t w => ∃ O : Nat → Value, t = (O 0::O 1::O 2::O 3::O 4::O 5::O 6::O 7::v23::O 9::O 10::Value.int .i64 x31::O 12::O 13::O 14::O 15::O 16::O 17::O 18::O 19::O 20::O 21::O 22::O 23::O 24::O 25::O 26::O 27::O 28::O 29::O 30::O 31::O 32::O 33::O 34::O 35::O 36::O 37::O 38::O 39::O 40::O 41::O 42::O 43::O 44::O 45::O 46::Value.int .i64 x31::Value.bool false::Value.bool false::cnd (D 3) undef (O 50)::cnd (D 4) undef (O 51)::cnd (D 5) undef (O 52)::cnd (D 6) undef (O 53)::cnd (D 7) undef (O 54)::cnd (D 8) undef (O 55)::cnd (D 9) undef (O 56)::cnd (D 10) undef (O 57)::cnd (D 11) undef (O 58)::O 59::O 60::O 61::O 62::O 63::O 64::O 65::O 66::O 67::O 68::O 69::O 70::O 71::O 72::O 73::O 74::O 75::O 76::O 77::O 78::O 79::O 80::[]) ∧ St w0 [Row 41 (K.int .i16) v23 x30] w) ?_ ⟨?_, ⟨?_, ⟨?_, ⟨?_, ⟨?_, ⟨?_, ⟨?_, ⟨?_, ⟨?_, trivial⟩⟩⟩⟩⟩⟩⟩⟩⟩ ?_
         · exact ⟨fun i => T.getD i undef, (by subst hT; rfl), hs⟩
         ·
          intro D t w hD hp hcl hI rest hk
          obtain ⟨O, ht, hs⟩ := hI
          have hp : AllDone D [2] := hp
          obtain ⟨p2_, _⟩ := hp
          have q5_ : D 5 = false := not_yet (show D 5 = true → AllDone D [3, 4, 2] from hcl 5 (by decide)) 0 3 rfl hD
          have q6_ : D 6 = false := not_yet (show D 6 = true → AllDone D [5, 2] from hcl 6 (by decide)) 0 5 rfl q5_
          simp only [hD, q5_, q6_, cnd_t, cnd_f, Asc_t, Asc_f] at ht hs
          subst ht
          refine g_op_not rfl rfl ?_
          refine g_d rfl ?_
          try dsimp only [set0,setS]
          exact hk _ _ ⟨O, (by simp only [upd, Nat.reduceBEq, Bool.true_or, Bool.false_or, q5_, q6_, cnd_t, cnd_f, Asc_t, Asc_f]), hs.cast (by simp only [upd, Nat.reduceBEq, Bool.true_or, Bool.false_or, q5_, q6_, cnd_t, cnd_f, Asc_t, Asc_f])⟩
         ·
          intro D t w hD hp hcl hI rest hk
          obtain ⟨O, ht, hs⟩ := hI
          have hp : AllDone D [2] := hp
          obtain ⟨p2_, _⟩ := hp
          have q5_ : D 5 = false := not_yet (show D 5 = true → AllDone D [3, 4, 2] from hcl 5 (by decide)) 1 4 rfl hD
          have q6_ : D 6 = false := not_yet (show D 6 = true → AllDone D [5, 2] from hcl 6 (by decide)) 0 5 rfl q5_
          simp only [hD, q5_, q6_, cnd_t, cnd_f, Asc_t, Asc_f] at ht hs
          subst ht
          refine g_op_not rfl rfl ?_
          refine g_d rfl ?_
          try dsimp only [set0,setS]
          exact hk _ _ ⟨O, (by simp only [upd, Nat.reduceBEq, Bool.true_or, Bool.false_or, q5_, q6_, cnd_t, cnd_f, Asc_t, Asc_f]), hs.cast (by simp only [upd, Nat.reduceBEq, Bool.true_or, Bool.false_or, q5_, q6_, cnd_t, cnd_f, Asc_t, Asc_f])⟩
         ·
          intro D t w hD hp hcl hI rest hk
          obtain ⟨O, ht, hs⟩ := hI
          have hp : AllDone D [3, 4, 2] := hp
          obtain ⟨p3_, p4_, p2_, _⟩ := hp
          have q6_ : D 6 = false := not_yet (show D 6 = true → AllDone D [5, 2] from hcl 6 (by decide)) 0 5 rfl hD
          simp only [hD, p3_, p4_, q6_, cnd_t, cnd_f, Asc_t, Asc_f] at ht hs
          subst ht
          refine g_op_not rfl rfl ?_
          refine g_d rfl ?_
          try dsimp only [set0,setS]
          exact hk _ _ ⟨O, (by simp only [upd, Nat.reduceBEq, Bool.true_or, Bool.false_or, p3_, p4_, q6_, cnd_t, cnd_f, Asc_t, Asc_f]), hs.cast (by simp only [upd, Nat.reduceBEq, Bool.true_or, Bool.false_or, p3_, p4_, q6_, cnd_t, cnd_f, Asc_t, Asc_f])⟩
         ·
          intro D t w hD hp hcl hI rest hk
          obtain ⟨O, ht, hs⟩ := hI
          have hp : AllDone D [5, 2] := hp
          obtain ⟨p5_, p2_, _⟩ := hp
          obtain ⟨p3_, p4_, _, _⟩ := (show D 5 = true → AllDone D [3, 4, 2] from hcl 5 (by decide)) p5_
          simp only [hD, p3_, p4_, p5_, cnd_t, cnd_f, Asc_t, Asc_f] at ht hs
          subst ht
          refine g_op_not rfl rfl ?_
          refine g_d rfl ?_
          try dsimp only [set0,setS]
          exact hk _ _ ⟨O, (by simp only [upd, Nat.reduceBEq, Bool.true_or, Bool.false_or, p3_, p4_, p5_, cnd_t, cnd_f, Asc_t, Asc_f]), hs.cast (by simp only [upd, Nat.reduceBEq, Bool.true_or, Bool.false_or, p3_, p4_, p5_, cnd_t, cnd_f, Asc_t, Asc_f])⟩
         ·
          intro D t w hD hp hcl hI rest hk
          obtain ⟨O, ht, hs⟩ := hI
          have hp : AllDone D [2] := hp
          obtain ⟨p2_, _⟩ := hp
          have q10_ : D 10 = false := not_yet (show D 10 = true → AllDone D [7, 9, 2] from hcl 10 (by decide)) 0 7 rfl hD
          have q11_ : D 11 = false := not_yet (show D 11 = true → AllDone D [10, 2] from hcl 11 (by decide)) 0 10 rfl q10_
          simp only [hD, q10_, q11_, cnd_t, cnd_f, Asc_t, Asc_f] at ht hs
          subst ht
          refine g_op_not rfl rfl ?_
          refine g_d rfl ?_
          try dsimp only [set0,setS]
          exact hk _ _ ⟨O, (by simp only [upd, Nat.reduceBEq, Bool.true_or, Bool.false_or, q10_, q11_, cnd_t, cnd_f, Asc_t, Asc_f]), hs.cast (by simp only [upd, Nat.reduceBEq, Bool.true_or, Bool.false_or, q10_, q11_, cnd_t, cnd_f, Asc_t, Asc_f])⟩
         ·
          intro D t w hD hp hcl hI rest hk
          obtain ⟨O, ht, hs⟩ := hI
          have hp : AllDone D [2] := hp
          obtain ⟨p2_, _⟩ := hp
          have q9_ : D 9 = false := not_yet (show D 9 = true → AllDone D [8, 2] from hcl 9 (by decide)) 0 8 rfl hD
          have q10_ : D 10 = false := not_yet (show D 10 = true → AllDone D [7, 9, 2] from hcl 10 (by decide)) 1 9 rfl q9_
          have q11_ : D 11 = false := not_yet (show D 11 = true → AllDone D [10, 2] from hcl 11 (by decide)) 0 10 rfl q10_
          simp only [hD, q9_, q10_, q11_, cnd_t, cnd_f, Asc_t, Asc_f] at ht hs
          subst ht
          refine g_op_not rfl rfl ?_
          refine g_d rfl ?_
          try dsimp only [set0,setS]
          exact hk _ _ ⟨O, (by simp only [upd, Nat.reduceBEq, Bool.true_or, Bool.false_or, q9_, q10_, q11_, cnd_t, cnd_f, Asc_t, Asc_f]), hs.cast (by simp only [upd, Nat.reduceBEq, Bool.true_or, Bool.false_or, q9_, q10_, q11_, cnd_t, cnd_f, Asc_t, Asc_f])⟩
         ·
          intro D t w hD hp hcl hI rest hk
          obtain ⟨O, ht, hs⟩ := hI
          have hp : AllDone D [8, 2] := hp
          obtain ⟨p8_, p2_, _⟩ := hp
          have q10_ : D 10 = false := not_yet (show D 10 = true → AllDone D [7, 9, 2] from hcl 10 (by decide)) 1 9 rfl hD
          have q11_ : D 11 = false := not_yet (show D 11 = true → AllDone D [10, 2] from hcl 11 (by decide)) 0 10 rfl q10_
          simp only [hD, p8_, q10_, q11_, cnd_t, cnd_f, Asc_t, Asc_f] at ht hs
          subst ht
          refine g_op_not rfl rfl ?_
          refine g_d rfl ?_
          try dsimp only [set0,setS]
          exact hk _ _ ⟨O, (by simp only [upd, Nat.reduceBEq, Bool.true_or, Bool.false_or, p8_, q10_, q11_, cnd_t, cnd_f, Asc_t, Asc_f]), hs.cast (by simp only [upd, Nat.reduceBEq, Bool.true_or, Bool.false_or, p8_, q10_, q11_, cnd_t, cnd_f, Asc_t, Asc_f])⟩
         ·
          intro D t w hD hp hcl hI rest hk
          obtain ⟨O, ht, hs⟩ := hI
          have hp : AllDone D [7, 9, 2] := hp
          obtain ⟨p7_, p9_, p2_, _⟩ := hp
          obtain ⟨p8_, _, _⟩ := (show D 9 = true → AllDone D [8, 2] from hcl 9 (by decide)) p9_
          have q11_ : D 11 = false := not_yet (show D 11 = true → AllDone D [10, 2] from hcl 11 (by decide)) 0 10 rfl hD
          simp only [hD, p7_, p8_, p9_, q11_, cnd_t, cnd_f, Asc_t, Asc_f] at ht hs
          subst ht
          refine g_op_not rfl rfl ?_
          refine g_d rfl ?_
          try dsimp only [set0,setS]
          exact hk _ _ ⟨O, (by simp only [upd, Nat.reduceBEq, Bool.true_or, Bool.false_or, p7_, p8_, p9_, q11_, cnd_t, cnd_f, Asc_t, Asc_f]), hs.cast (by simp only [upd, Nat.reduceBEq, Bool.true_or, Bool.false_or, p7_, p8_, p9_, q11_, cnd_t, cnd_f, Asc_t, Asc_f])⟩
         ·
          intro D t w hD hp hcl hI rest hk
          obtain ⟨O, ht, hs⟩ := hI
          have hp : AllDone D [10, 2] := hp
          obtain ⟨p10_, p2_, _⟩ := hp
          obtain ⟨p7_, p9_, _, _⟩ := (show D 10 = true → AllDone D [7, 9, 2] from hcl 10 (by decide)) p10_
          obtain ⟨p8_, _, _⟩ := (show D 9 = true → AllDone D [8, 2] from hcl 9 (by decide)) p9_
          simp only [hD, p7_, p8_, p9_, p10_, cnd_t, cnd_f, Asc_t, Asc_f] at ht hs
          subst ht
          refine g_op_not rfl rfl ?_
          refine g_d rfl ?_
          try dsimp only [set0,setS]
          exact hk _ _ ⟨O, (by simp only [upd, Nat.reduceBEq, Bool.true_or, Bool.false_or, p7_, p8_, p9_, p10_, cnd_t, cnd_f, Asc_t, Asc_f]), hs.cast (by simp only [upd, Nat.reduceBEq, Bool.true_or, Bool.false_or, p7_, p8_, p9_, p10_, cnd_t, cnd_f, Asc_t, Asc_f])⟩
         ·
          intro D t w rest hall hO42_ hI
          obtain ⟨O, ht, hs⟩ := hI
          have p3_ : D 3 = true := hall 3 (by decide) rfl
          have p4_ : D 4 = true := hall 4 (by decide) rfl
          have p5_ : D 5 = true := hall 5 (by decide) rfl
          have p6_ : D 6 = true := hall 6 (by decide) rfl
          have p7_ : D 7 = true := hall 7 (by decide) rfl
          have p8_ : D 8 = true := hall 8 (by decide) rfl
          have p9_ : D 9 = true := hall 9 (by decide) rfl
          have p10_ : D 10 = true := hall 10 (by decide) rfl
          have p11_ : D 11 = true := hall 11 (by decide) rfl
          simp only [p3_, p4_, p5_, p6_, p7_, p8_, p9_, p10_, p11_, cnd_t, cnd_f, Asc_t, Asc_f] at ht hs
          subst ht
          obtain ⟨rest, rfl, hO43_⟩ := ord_one (m := 4095) hO42_ rfl 12 (m' := 8191) (by decide +kernel) rfl
          clear hO42_
          refine g_op_not rfl rfl ?_
          refine g_d rfl ?_
          try dsimp only [set0,setS]
          obtain ⟨rest, rfl, hO44_⟩ := ord_one (m := 8191) hO43_ rfl 13 (m' := 16383) (by decide +kernel) rfl
          clear hO43_
          refine g_op (v := Value.bool false) rfl rfl rfl ?_
          refine g_d rfl ?_
          try dsimp only [set0,setS]
          obtain rfl := ord_end hO44_ rfl (by decide +kernel)
          refine g_ops_nil ?_
          refine g_cond_false rfl ?_
          obtain rfl := Option.some.inj H
          subst Hx1_
          have hs := hs.pull 0 rfl
          have hs : St _ [_] _ := St.take (Γ' := []) hs
          refine g_exit rfl ?_
          exact ha1_ _ _ ⟨x30, Hr1_, rfl, hs⟩
     ·
      intro ha1_
      have hs := hs.pull 0 rfl
      have hs : St _ [_] _ := St.take (Γ' := []) hs
      refine g_loop_fuel (I := fun n_ t w => ∃ v9 : Value, ∃ x10 : (List Int), ∃ x11 : Int, ∃ x12 : Int, rounds (fun s => spec_LeastWeights.b1 N x4 x5 s.1 s.2.1 s.2.2) n_ (x10, x11, x12) = some o1_ ∧ Fr t (fun O => (O 0::O 1::O 2::O 3::O 4::O 5::Value.int .i64 x4::Value.int .i64 x5::v9::Value.int .i64 x11::Value.int .i64 x12::O 11::O 12::O 13::O 14::O 15::O 16::O 17::O 18::O 19::O 20::O 21::O 22::O 23::O 24::O 25::O 26::O 27::O 28::O 29::O 30::O 31::O 32::O 33::O 34::O 35::O 36::O 37::O 38::O 39::O 40::O 41::O 42::O 43::O 44::O 45::O 46::O 47::O 48::O 49::O 50::O 51::O 52::O 53::O 54::O 55::O 56::O 57::O 58::O 59::O 60::O 61::O 62::O 63::O 64::O 65::O 66::O 67::O 68::O 69::O 70::O 71::O 72::O 73::O 74::O 75::O 76::O 77::O 78::O 79::O 80::[] : List Value)) ∧ St w0 [Row 41 (K.int .i16) v9 x10] w) N ⟨v6, ([] : List Int), a1, 1, Ho, rfl, hs⟩ ?_ ?_
      ·
       rintro _ _ ⟨v9, x10, x11, x12, h, _⟩
       exact rounds_zero h
      ·
       intro n_ ih1_
       rintro t w ⟨v9, x10, x11, x12, Ho, hf, hs⟩
       obtain ⟨O, rfl⟩ := hf.open
       try dsimp only
       obtain ⟨x46_, H, Hx1_⟩ := rounds_succ Ho
       have H : spec_LeastWeights.b1 N x4 x5 x10 x11 x12 = some x46_ := H
       unfold spec_LeastWeights.b1 at H
       refine g_seq ?_
       refine g_seq ?_
       refine g_region ?_
       show G _ _ _ (.inRegion _ [0, 1, 2, 3, 4] :: _) _ _
       refine g_op (v := Value.int .i64 x12) rfl rfl rfl ?_
       refine g_d rfl ?_
       refine g_op (v := Value.int .i64 x4) rfl rfl rfl ?_
       refine g_d rfl ?_
       refine g_op (v := Value.int .i64 (i64w (x12 * x4))) rfl rfl rfl ?_
       refine g_d rfl ?_
       try dsimp only [set0,setS]
       refine g_op (v := Value.int .i64 x5) rfl rfl rfl ?_
       refine g_d rfl ?_
       refine g_op_b (B := decide ((i64w (x12 * x4)) ≤ x5)) rfl rfl rfl ?_ ?_
       ·
        intro hb
        rw [if_pos (b_dec_t hb)] at H
        refine g_d rfl ?_
        try dsimp only [set0,setS]
        refine g_ops_nil ?_
        refine g_cond_true rfl ?_
        refine g_skip ?_
        refine g_block ?_
        refine g_seq ?_
        refine g_region ?_
        show G _ _ _ (.inRegion _ [0, 1, 2, 3, 4, 5] :: _) _ _
        refine g_op (v := v9) rfl rfl rfl ?_
        refine g_d rfl ?_
        refine g_op (v := Value.int .i64 x12) rfl rfl rfl ?_
        refine g_d rfl ?_
        refine g_op (v := Value.int .i16 (i16w x12)) rfl rfl rfl ?_
        refine g_d rfl ?_
        refine s_lit1 (fkI .i16) (y := i16w x12) hs rfl rfl rfl rfl (fun _ => rfl) (zv := (Value.int .i16 0)) (fun _ => rfl) rfl (by decide) (by decide) rfl ?_
        intro v13 w hs
        refine g_d rfl ?_
        try dsimp only [set0,setS]
        have hs := hs.pull 1 rfl
        have hs : St _ [_,_] _ := hs
        obtain ⟨g, H⟩ := ite_get H
        refine s_append (fkI .i16) (zv := (Value.int .i16 0)) (B := 2) hs (hs.row 1 rfl) rfl rfl rfl rfl rfl rfl rfl rfl rfl (by decide) rfl rfl (by decide) (by omega) ?_
        intro v15 w hs
        refine g_d rfl ?_
        try dsimp only [set0,setS]
        refine g_op (v := v15) rfl rfl rfl ?_
        refine g_d rfl ?_
        try dsimp only [set0,setS]
        refine g_ops_nil ?_
        refine g_seq ?_
        refine g_region ?_
        show G _ _ _ (.inRegion _ [0, 1, 2, 3] :: _) _ _
        refine g_op (v := Value.int .i64 x11) rfl rfl rfl ?_
        refine g_d rfl ?_
        refine g_op (v := Value.int .i64 x12) rfl rfl rfl ?_
        refine g_d rfl ?_
        refine g_op (v := Value.int .i64 (i64w (x11 - x12))) rfl rfl rfl ?_
        refine g_d rfl ?_
        try dsimp only [set0,setS]
        refine g_op (v := Value.int .i64 (i64w (x11 - x12))) rfl rfl rfl ?_
        refine g_d rfl ?_
        try dsimp only [set0,setS]
        refine g_ops_nil ?_
        refine g_region ?_
        show G _ _ _ (.inRegion _ [0, 1, 2, 3] :: _) _ _
        refine g_op (v := Value.int .i64 x12) rfl rfl rfl ?_
        refine g_d rfl ?_
        refine g_op (v := Value.int .i64 x4) rfl rfl rfl ?_
        refine g_d rfl ?_
        refine g_op (v := Value.int .i64 (i64w (x12 * x4))) rfl rfl rfl ?_
        refine g_d rfl ?_
        try dsimp only [set0,setS]
        refine g_op (v := Value.int .i64 (i64w (x12 * x4))) rfl rfl rfl ?_
        refine g_d rfl ?_
        try dsimp only [set0,setS]
        refine g_ops_nil ?_
        refine g_inBlock ?_
        obtain rfl := Option.some.inj H
        have hs := hs.pull 0 rfl
        have hs : St _ [_] _ := St.take (Γ' := [_]) hs
        exact ih1_ _ _ ⟨v15, x10 ++ ([i16w x12]), i64w (x11 - x12), i64w (x12 * x4), Hx1_, rfl, hs⟩
       ·
        intro hb
        rw [if_neg (b_dec_f hb)] at H
        refine g_d rfl ?_
        try dsimp only [set0,setS]
        refine g_ops_nil ?_
        refine g_cond_false rfl ?_
        obtain rfl := Option.some.inj H
        subst Hx1_
        have hs := hs.pull 0 rfl
        have hs : St _ [_] _ := St.take (Γ' := []) hs
        refine g_exit rfl ?_
        exact ha1_ _ _ ⟨v9, x10, x11, Hr1_, rfl, hs⟩
    ·
     intro ha
     refine g_region ?_
     show G _ _ _ (.inRegion _ [0] :: _) _ _
     refine g_op_b (B := a2) rfl rfl rfl ?_ ?_
     ·
      intro hb
      rw [if_pos (b_var_t hb)] at H
      refine g_d rfl ?_
      refine g_ops_nil ?_
      refine g_cond_true rfl ?_
      refine g_seq ?_
      refine g_region ?_
      show G _ _ _ (.inRegion _ [0] :: _) _ _
      refine g_op (v := Value.int .i64 3) rfl rfl rfl ?_
      refine g_d rfl ?_
      try dsimp only [set0,setS]
      refine g_ops_nil ?_
      refine g_region ?_
      show G _ _ _ (.inRegion _ [0, 1, 2] :: _) _ _
      refine g_op (v := Value.int .i64 a1) rfl rfl rfl ?_
      refine g_d rfl ?_
      refine g_op (v := Value.int .i64 (i64w (2 * a1))) rfl rfl rfl ?_
      refine g_d rfl ?_
      try dsimp only [set0,setS]
      refine g_op (v := Value.int .i64 (i64w (2 * a1))) rfl rfl rfl ?_
      refine g_d rfl ?_
      try dsimp only [set0,setS]
      refine g_ops_nil ?_
      have hs : St _ [] _ := St.take (Γ' := []) hs
      exact ha _ _ ⟨3, i64w (2 * a1), H, rfl, hs⟩
     ·
      intro hb
      rw [if_neg (b_var_f hb)] at H
      refine g_d rfl ?_
      refine g_ops_nil ?_
      refine g_cond_false rfl ?_
      refine g_skip ?_
      have hs : St _ [] _ := St.take (Γ' := []) hs
      exact ha _ _ ⟨2, a1, H, rfl, hs⟩
  | false =>
    rw [if_neg Bool.false_ne_true] at H
    refine g_d rfl ?_
    try dsimp only [set0,setS]
    refine g_op (v := Value.bool true) rfl rfl rfl ?_
    refine g_d rfl ?_
    try dsimp only [set0,setS]
    refine g_ops_nil ?_
    refine g_cond_true rfl ?_
    refine g_seq ?_
    refine g_region ?_
    show G _ _ _ (.inRegion _ [0, 1, 2] :: _) _ _
    refine s_lit0 (κ := (K.int .i16)) hs rfl rfl rfl rfl (fun _ => rfl) ?_
    intro v38 w hs
    refine g_d rfl ?_
    try dsimp only [set0,setS]
    refine g_op (v := v38) rfl rfl rfl ?_
    refine g_d rfl ?_
    try dsimp only [set0,setS]
    refine g_op (v := Value.int .i64 2) rfl rfl rfl ?_
    refine g_d rfl ?_
    try dsimp only [set0,setS]
    refine g_ops_nil ?_
    obtain rfl := Option.some.inj H
    refine g_ret Try.func7 (v := Value.tuple #[v38, Value.int .i64 2]) (resN (l := Try.f7.results.toList) (vs := [v38, Value.int .i64 2]) rfl ⟨rfl, rfl, trivial⟩ (by simp)) ?_
    have hs := hs.pull 0 rfl
    have hs : St _ [_] _ := St.take (Γ' := []) hs
    exact ⟨_, rfl, v38, rfl, hs⟩

/- function 29 impl_size_int16 -/
def impl_size_int16.post (w0 : World) (r : Int) (v : Value) (w : World) : Prop := v = Value.int .i64 r ∧ St w0 [] w
set_option maxHeartbeats 8000000 in
set_option maxRecDepth 100000 in
theorem impl_size_int16.calls {N : Nat} {a1 : (List Int)} {v2 : Value} {w0 : World} {r : Int} (hr0 : RdRow (K.int .i16) w0 v2 a1) (H : impl_size_int16.f N a1 = some r) :
    Calls Try.prog 29 #[v2] w0 fun e w => ∃ v, e = .returned v ∧ impl_size_int16.post w0 r v w := by
  unfold impl_size_int16.f at H
  have hs : St w0 [] w0 := St.refl w0
  refine calls_of_g (n := 4) Try.func29 rfl rfl ?_
  show G _ _ _ _ [_,_,_,_,_] _
  refine g_seq ?_
  refine g_region ?_
  show G _ _ _ (.inRegion _ [0] :: _) _ _
  refine g_op (v := Value.int .i64 0) rfl rfl rfl ?_
  show G _ _ _ _ [_,_,_,_,_] _
  refine g_ops_nil ?_
  refine g_seq ?_
  refine g_region ?_
  show G _ _ _ (.inRegion _ [0, 1, 2] :: _) _ _
  refine g_op (v := v2) rfl rfl rfl ?_
  show G _ _ _ _ [_,_,_,_,_] _
  refine s_len (hs.rd hr0) rfl rfl rfl rfl rfl ?_
  show G _ _ _ _ [_,_,_,_,_] _
  refine g_op (v := Value.int .i64 (a1.length : Int)) rfl rfl rfl ?_
  show G _ _ _ _ [_,_,_,_,_] _
  refine g_ops_nil ?_
  obtain rfl := Option.some.inj H
  refine g_ret Try.func29 (v := Value.int .i64 (a1.length : Int)) (res1 rfl rfl) ?_
  have hs : St _ [] _ := St.take (Γ' := []) hs
  exact ⟨_, rfl, rfl, hs⟩

end Go.Proofs.YtjagkhjbbdfkaaaX
