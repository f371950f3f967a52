/- Contracts, printed by gen.py. -/
import Derived.Test.YtfnfoecocicigaaXT
import Derived.Test.YtfnfoecocicigaaProg
import Derived.Test.YtfnfoecocicigaaXRowR
import Derived.Test.YtfnfoecocicigaaXSeg
import Derived.Test.YtfnfoecocicigaaXKey
import Derived.Test.YtfnfoecocicigaaXC5
import Derived.Test.YtfnfoecocicigaaXC11
import Derived.Test.YtfnfoecocicigaaXC12
namespace Go.Proofs.YtfnfoecocicigaaX
open Go Go.RowKit Go.Proofs
set_option linter.unusedVariables false
set_option linter.unusedSimpArgs false
/- function 35 _spec_l06Finder_can -/
set_option maxHeartbeats 8000000 in
set_option maxRecDepth 100000 in
theorem _spec_l06Finder_can.step {N : Nat} {self : S_spec_l06Finder → (Ar Int 4) → Int → Option (Bool × (List Int) × S_spec_l06Finder)} (ih : ∀ (a1 : S_spec_l06Finder) (a6 : (Ar Int 4)) (a7 : Int) (b2 : Nat) (v3 : Value) (wb : World) (Z : As) (w0 : World) (r : (Bool × (List Int) × S_spec_l06Finder)) (hs : St wb [Row 75 (K.int .i8) v3 a1.f_seen, Cells b2 (([Value.int .i64 a1.f_lies, v3] : List Value)) 73, Z] w0), self a1 a6 a7 = some r → Calls Try.prog 35 #[Value.pointer (some ⟨b2, 0, none⟩), Value.agg ((encA (encI .i64)) a6).toArray, Value.int .i64 a7] w0 fun e w => ∃ v, e = .returned v ∧ _spec_l06Finder_can.post wb Z v3 b2 v3 r v w) (a1 : S_spec_l06Finder) (a6 : (Ar Int 4)) (a7 : Int) (b2 : Nat) (v3 : Value) (wb : World) (Z : As) (w0 : World) (r : (Bool × (List Int) × S_spec_l06Finder)) (hs : St wb [Row 75 (K.int .i8) v3 a1.f_seen, Cells b2 (([Value.int .i64 a1.f_lies, v3] : List Value)) 73, Z] w0) (H : _spec_l06Finder_can.body N self a1 a6 a7 = some r) :
    Calls Try.prog 35 #[Value.pointer (some ⟨b2, 0, none⟩), Value.agg ((encA (encI .i64)) a6).toArray, Value.int .i64 a7] w0 fun e w => ∃ v, e = .returned v ∧ _spec_l06Finder_can.post wb Z v3 b2 v3 r v w := by
  unfold _spec_l06Finder_can.body at H
  refine calls_of_g (n := 78) Try.func35 rfl rfl ?_
  show G _ _ _ _ (_::_::_::_::_::_::_::_::_::_::_::_::_::_::_::_::_::_::_::_::_::_::_::_::_::_::_::_::_::_::_::_::_::_::_::_::_::_::_::_::_::_::_::_::_::_::_::_::_::_::_::_::_::_::_::_::_::_::_::_::_::_::_::_::_::_::_::_::_::_::_::_::_::_::_::_::_::_::_::_::_::[]) _
  refine g_seq ?_
  refine g_region ?_
  show G _ _ _ (.inRegion _ [0, 1] :: _) _ _
  refine s_box hs rfl rfl (cs := ((encA (encI .i64)) a6)) rfl rfl ?_
  intro b8 w hs
  refine g_d rfl ?_
  try dsimp only [set0,setS]
  refine g_op (v := Value.bool false) rfl rfl rfl ?_
  refine g_d rfl ?_
  try dsimp only [set0,setS]
  refine g_ops_nil ?_
  refine g_seq ?_
  refine g_seq ?_
  refine g_region ?_
  show G _ _ _ (.inRegion _ [0, 1, 2] :: _) _ _
  refine s_loadA rfl rfl (es := ((encA (encI .i64)) a6)) rfl rfl (fun _ => rfl) (n := 4) (fun _ => rfl) ((fkA (n := 4) (he := (fkI .i64).len) (h1 := (fkI .i64).one)).len _) (cells_all (hs.cells 0 rfl)) ?_
  refine g_d rfl ?_
  try dsimp only [set0,setS]
  obtain ⟨r10, Hr10, H⟩ := bind_get H
  refine s_call (args := [Value.agg ((encA (encI .i64)) a6).toArray]) rfl rfl (x_call rfl (callFunc_enter Try.func40 rfl rfl) rfl) (spec_l06Total.calls (a1 := a6) Hr10) ?_
  rintro _ w ⟨rfl, hs2⟩
  have hs : St _ [_,_,_,_] _ := hs.call hs2
  refine g_d rfl ?_
  try dsimp only [set0,setS]
  refine g_op_b (B := decide (r10 ≤ 1)) rfl rfl rfl ?_ ?_
  ·
   intro hb
   rw [if_pos (b_dec_t hb)] at H
   refine g_d rfl ?_
   try dsimp only [set0,setS]
   refine g_ops_nil ?_
   refine g_cond_true rfl ?_
   refine g_seq ?_
   refine g_region ?_
   show G _ _ _ (.inRegion _ [0] :: _) _ _
   refine g_op (v := Value.bool true) rfl rfl rfl ?_
   refine g_d rfl ?_
   try dsimp only [set0,setS]
   refine g_ops_nil ?_
   obtain rfl := Option.some.inj H
   refine g_ret Try.func35 (v := Value.bool true) (res1 rfl rfl) ?_
   have hs := hs.pull 3 rfl
   have hs := hs.pull 3 rfl
   have hs := hs.pull 3 rfl
   have hs : St _ [_,_,_] _ := St.take (Γ' := [_]) hs
   exact ⟨_, rfl, rfl, hs⟩
  ·
   intro hb
   rw [if_neg (b_dec_f hb)] at H
   refine g_d rfl ?_
   try dsimp only [set0,setS]
   refine g_ops_nil ?_
   refine g_cond_false rfl ?_
   refine g_skip ?_
   refine g_seq ?_
   refine g_seq ?_
   by_cases hb1_ : a7 ≤ 0
   ·
    rw [if_pos hb1_] at H
    refine g_lay (n := 15) rfl [0, 1, 2, 3, 4, 5, 6, 7, 8, 9, 10, 11, 12, 13, 14] [0, 1, 2, 3, 4, 5, 6, 7, 8, 9, 10, 11, 12, 13, 14] rfl rfl ?_
    intro rest w hh hbw hO
    have hs := hs.samew hh hbw
    try dsimp only [set0,setS]
    obtain ⟨rest, rfl, hO2_⟩ := ord_one (m := 0) hO rfl 0 (m' := 1) (by decide +kernel) rfl
    clear hO
    refine g_op (v := Value.int .i64 a7) rfl rfl rfl ?_
    refine g_d rfl ?_
    obtain ⟨rest, rfl, hO3_⟩ := ord_one (m := 1) hO2_ rfl 1 (m' := 3) (by decide +kernel) rfl
    clear hO2_
    refine g_op (v := Value.bool true) rfl rfl (run_bool (b := decide (a7 ≤ 0)) rfl (by first | exact decide_eq_true hb1_ | exact decide_eq_false hb1_ | simp [hb1_])) ?_
    refine g_d rfl ?_
    try dsimp only [set0,setS]
    obtain ⟨rest, rfl, hO4_⟩ := ord_one (m := 3) hO3_ rfl 2 (m' := 7) (by decide +kernel) rfl
    clear hO3_
    refine g_op (v := Value.bool true) rfl rfl rfl ?_
    refine g_d rfl ?_
    refine g_name ?_
    intro T hT
    refine g_layer (m0 := 7) hO4_ rfl 8191 [3, 4, 5, 6, 7, 8, 9, 10, 11, 12] [0, 1, 3, 7, 15, 31, 63, 7, 7, 511, 7, 1031, 3079, 8191, 16383] (by decide +kernel) (fun D t w => ∃ O : Nat → Value, t = (Value.pointer (some ⟨b2, 0, none⟩)::Value.agg ((encA (encI .i64)) a6).toArray::Value.int .i64 a7::O 3::Value.pointer (some ⟨b8, 0, none⟩)::O 5::Value.bool false::O 7::O 8::O 9::Value.agg ((encA (encI .i64)) a6).toArray::Value.int .i64 r10::Value.bool false::Value.int .i64 a7::Value.bool true::Value.bool true::cnd (D 3) undef (O 16)::cnd (D 4) undef (O 17)::cnd (D 5) undef (O 18)::cnd (D 6) undef (O 19)::cnd (D 7) undef (O 20)::cnd (D 8) undef (O 21)::cnd (D 9) undef (O 22)::cnd (D 10) undef (O 23)::cnd (D 11) undef (O 24)::cnd (D 12) undef (O 25)::O 26::O 27::O 28::O 29::O 30::O 31::O 32::O 33::O 34::O 35::O 36::O 37::O 38::O 39::O 40::O 41::O 42::O 43::O 44::O 45::O 46::O 47::O 48::O 49::O 50::O 51::O 52::O 53::O 54::O 55::O 56::O 57::O 58::O 59::O 60::O 61::O 62::O 63::O 64::O 65::O 66::O 67::O 68::O 69::O 70::O 71::O 72::O 73::O 74::O 75::O 76::O 77::O 78::O 79::O 80::[]) ∧ St wb [Cells b8 ((encA (encI .i64)) a6) 25, Row 75 (K.int .i8) v3 a1.f_seen, Cells b2 (([Value.int .i64 a1.f_lies, v3] : List Value)) 73, Z] w) ?_ ⟨?_, ⟨?_, ⟨?_, ⟨?_, ⟨?_, ⟨?_, ⟨?_, ⟨?_, ⟨?_, ⟨?_, trivial⟩⟩⟩⟩⟩⟩⟩⟩⟩⟩ ?_
    · exact ⟨fun i => T.getD i undef, (by subst hT; rfl), hs⟩
    ·
     intro D t w hD hp hcl hI rest hk
     obtain ⟨O, ht, hs⟩ := hI
     have hp : AllDone D [2] := hp
     obtain ⟨p2_, _⟩ := hp
     have q4_ : D 4 = false := not_yet (show D 4 = true → AllDone D [3, 2] from hcl 4 (by decide)) 0 3 rfl hD
     have q5_ : D 5 = false := not_yet (show D 5 = true → AllDone D [4, 2] from hcl 5 (by decide)) 0 4 rfl q4_
     have q6_ : D 6 = false := not_yet (show D 6 = true → AllDone D [5, 2] from hcl 6 (by decide)) 0 5 rfl q5_
     have q9_ : D 9 = false := not_yet (show D 9 = true → AllDone D [6, 7, 8, 2, 2] from hcl 9 (by decide)) 0 6 rfl q6_
     simp only [hD, q4_, q5_, q6_, q9_, cnd_t, cnd_f, Asc_t, Asc_f] at ht hs
     subst ht
     refine g_op_not rfl rfl ?_
     refine g_d rfl ?_
     try dsimp only [set0,setS]
     exact hk _ _ ⟨O, (by simp only [upd, Nat.reduceBEq, Bool.true_or, Bool.false_or, q4_, q5_, q6_, q9_, cnd_t, cnd_f, Asc_t, Asc_f]), hs.cast (by simp only [upd, Nat.reduceBEq, Bool.true_or, Bool.false_or, q4_, q5_, q6_, q9_, cnd_t, cnd_f, Asc_t, Asc_f])⟩
    ·
     intro D t w hD hp hcl hI rest hk
     obtain ⟨O, ht, hs⟩ := hI
     have hp : AllDone D [3, 2] := hp
     obtain ⟨p3_, p2_, _⟩ := hp
     have q5_ : D 5 = false := not_yet (show D 5 = true → AllDone D [4, 2] from hcl 5 (by decide)) 0 4 rfl hD
     have q6_ : D 6 = false := not_yet (show D 6 = true → AllDone D [5, 2] from hcl 6 (by decide)) 0 5 rfl q5_
     have q9_ : D 9 = false := not_yet (show D 9 = true → AllDone D [6, 7, 8, 2, 2] from hcl 9 (by decide)) 0 6 rfl q6_
     simp only [hD, p3_, q5_, q6_, q9_, cnd_t, cnd_f, Asc_t, Asc_f] at ht hs
     subst ht
     refine g_op_not rfl rfl ?_
     refine g_d rfl ?_
     try dsimp only [set0,setS]
     exact hk _ _ ⟨O, (by simp only [upd, Nat.reduceBEq, Bool.true_or, Bool.false_or, p3_, q5_, q6_, q9_, cnd_t, cnd_f, Asc_t, Asc_f]), hs.cast (by simp only [upd, Nat.reduceBEq, Bool.true_or, Bool.false_or, p3_, q5_, q6_, q9_, cnd_t, cnd_f, Asc_t, Asc_f])⟩
    ·
     intro D t w hD hp hcl hI rest hk
     obtain ⟨O, ht, hs⟩ := hI
     have hp : AllDone D [4, 2] := hp
     obtain ⟨p4_, p2_, _⟩ := hp
     obtain ⟨p3_, _, _⟩ := (show D 4 = true → AllDone D [3, 2] from hcl 4 (by decide)) p4_
     have q6_ : D 6 = false := not_yet (show D 6 = true → AllDone D [5, 2] from hcl 6 (by decide)) 0 5 rfl hD
     have q9_ : D 9 = false := not_yet (show D 9 = true → AllDone D [6, 7, 8, 2, 2] from hcl 9 (by decide)) 0 6 rfl q6_
     simp only [hD, p3_, p4_, q6_, q9_, cnd_t, cnd_f, Asc_t, Asc_f] at ht hs
     subst ht
     refine g_op_not rfl rfl ?_
     refine g_d rfl ?_
     try dsimp only [set0,setS]
     exact hk _ _ ⟨O, (by simp only [upd, Nat.reduceBEq, Bool.true_or, Bool.false_or, p3_, p4_, q6_, q9_, cnd_t, cnd_f, Asc_t, Asc_f]), hs.cast (by simp only [upd, Nat.reduceBEq, Bool.true_or, Bool.false_or, p3_, p4_, q6_, q9_, cnd_t, cnd_f, Asc_t, Asc_f])⟩
    ·
     intro D t w hD hp hcl hI rest hk
     obtain ⟨O, ht, hs⟩ := hI
     have hp : AllDone D [5, 2] := hp
     obtain ⟨p5_, p2_, _⟩ := hp
     obtain ⟨p4_, _, _⟩ := (show D 5 = true → AllDone D [4, 2] from hcl 5 (by decide)) p5_
     obtain ⟨p3_, _, _⟩ := (show D 4 = true → AllDone D [3, 2] from hcl 4 (by decide)) p4_
     have q9_ : D 9 = false := not_yet (show D 9 = true → AllDone D [6, 7, 8, 2, 2] from hcl 9 (by decide)) 0 6 rfl hD
     simp only [hD, p3_, p4_, p5_, q9_, cnd_t, cnd_f, Asc_t, Asc_f] at ht hs
     subst ht
     refine g_op_not rfl rfl ?_
     refine g_d rfl ?_
     try dsimp only [set0,setS]
     exact hk _ _ ⟨O, (by simp only [upd, Nat.reduceBEq, Bool.true_or, Bool.false_or, p3_, p4_, p5_, q9_, cnd_t, cnd_f, Asc_t, Asc_f]), hs.cast (by simp only [upd, Nat.reduceBEq, Bool.true_or, Bool.false_or, p3_, p4_, p5_, q9_, cnd_t, cnd_f, Asc_t, Asc_f])⟩
    ·
     intro D t w hD hp hcl hI rest hk
     obtain ⟨O, ht, hs⟩ := hI
     have hp : AllDone D [2] := hp
     obtain ⟨p2_, _⟩ := hp
     have q9_ : D 9 = false := not_yet (show D 9 = true → AllDone D [6, 7, 8, 2, 2] from hcl 9 (by decide)) 1 7 rfl hD
     simp only [hD, q9_, cnd_t, cnd_f, Asc_t, Asc_f] at ht hs
     subst ht
     refine g_op_not rfl rfl ?_
     refine g_d rfl ?_
     try dsimp only [set0,setS]
     exact hk _ _ ⟨O, (by simp only [upd, Nat.reduceBEq, Bool.true_or, Bool.false_or, q9_, cnd_t, cnd_f, Asc_t, Asc_f]), hs.cast (by simp only [upd, Nat.reduceBEq, Bool.true_or, Bool.false_or, q9_, cnd_t, cnd_f, Asc_t, Asc_f])⟩
    ·
     intro D t w hD hp hcl hI rest hk
     obtain ⟨O, ht, hs⟩ := hI
     have hp : AllDone D [2] := hp
     obtain ⟨p2_, _⟩ := hp
     have q9_ : D 9 = false := not_yet (show D 9 = true → AllDone D [6, 7, 8, 2, 2] from hcl 9 (by decide)) 2 8 rfl hD
     simp only [hD, q9_, cnd_t, cnd_f, Asc_t, Asc_f] at ht hs
     subst ht
     refine g_op_not rfl rfl ?_
     refine g_d rfl ?_
     try dsimp only [set0,setS]
     exact hk _ _ ⟨O, (by simp only [upd, Nat.reduceBEq, Bool.true_or, Bool.false_or, q9_, cnd_t, cnd_f, Asc_t, Asc_f]), hs.cast (by simp only [upd, Nat.reduceBEq, Bool.true_or, Bool.false_or, q9_, cnd_t, cnd_f, Asc_t, Asc_f])⟩
    ·
     intro D t w hD hp hcl hI rest hk
     obtain ⟨O, ht, hs⟩ := hI
     have hp : AllDone D [6, 7, 8, 2, 2] := hp
     obtain ⟨p6_, p7_, p8_, p2_, _, _⟩ := hp
     obtain ⟨p5_, _, _⟩ := (show D 6 = true → AllDone D [5, 2] from hcl 6 (by decide)) p6_
     obtain ⟨p4_, _, _⟩ := (show D 5 = true → AllDone D [4, 2] from hcl 5 (by decide)) p5_
     obtain ⟨p3_, _, _⟩ := (show D 4 = true → AllDone D [3, 2] from hcl 4 (by decide)) p4_
     simp only [hD, p3_, p4_, p5_, p6_, p7_, p8_, cnd_t, cnd_f, Asc_t, Asc_f] at ht hs
     subst ht
     refine g_op_not rfl rfl ?_
     refine g_d rfl ?_
     try dsimp only [set0,setS]
     exact hk _ _ ⟨O, (by simp only [upd, Nat.reduceBEq, Bool.true_or, Bool.false_or, p3_, p4_, p5_, p6_, p7_, p8_, cnd_t, cnd_f, Asc_t, Asc_f]), hs.cast (by simp only [upd, Nat.reduceBEq, Bool.true_or, Bool.false_or, p3_, p4_, p5_, p6_, p7_, p8_, cnd_t, cnd_f, Asc_t, Asc_f])⟩
    ·
     intro D t w hD hp hcl hI rest hk
     obtain ⟨O, ht, hs⟩ := hI
     have hp : AllDone D [2] := hp
     obtain ⟨p2_, _⟩ := hp
     have q11_ : D 11 = false := not_yet (show D 11 = true → AllDone D [10, 2] from hcl 11 (by decide)) 0 10 rfl hD
     have q12_ : D 12 = false := not_yet (show D 12 = true → AllDone D [11, 2] from hcl 12 (by decide)) 0 11 rfl q11_
     simp only [hD, q11_, q12_, cnd_t, cnd_f, Asc_t, Asc_f] at ht hs
     subst ht
     refine g_op_not rfl rfl ?_
     refine g_d rfl ?_
     try dsimp only [set0,setS]
     exact hk _ _ ⟨O, (by simp only [upd, Nat.reduceBEq, Bool.true_or, Bool.false_or, q11_, q12_, cnd_t, cnd_f, Asc_t, Asc_f]), hs.cast (by simp only [upd, Nat.reduceBEq, Bool.true_or, Bool.false_or, q11_, q12_, cnd_t, cnd_f, Asc_t, Asc_f])⟩
    ·
     intro D t w hD hp hcl hI rest hk
     obtain ⟨O, ht, hs⟩ := hI
     have hp : AllDone D [10, 2] := hp
     obtain ⟨p10_, p2_, _⟩ := hp
     have q12_ : D 12 = false := not_yet (show D 12 = true → AllDone D [11, 2] from hcl 12 (by decide)) 0 11 rfl hD
     simp only [hD, p10_, q12_, cnd_t, cnd_f, Asc_t, Asc_f] at ht hs
     subst ht
     refine g_op_not rfl rfl ?_
     refine g_d rfl ?_
     try dsimp only [set0,setS]
     exact hk _ _ ⟨O, (by simp only [upd, Nat.reduceBEq, Bool.true_or, Bool.false_or, p10_, q12_, cnd_t, cnd_f, Asc_t, Asc_f]), hs.cast (by simp only [upd, Nat.reduceBEq, Bool.true_or, Bool.false_or, p10_, q12_, cnd_t, cnd_f, Asc_t, Asc_f])⟩
    ·
     intro D t w hD hp hcl hI rest hk
     obtain ⟨O, ht, hs⟩ := hI
     have hp : AllDone D [11, 2] := hp
     obtain ⟨p11_, p2_, _⟩ := hp
     obtain ⟨p10_, _, _⟩ := (show D 11 = true → AllDone D [10, 2] from hcl 11 (by decide)) p11_
     simp only [hD, p10_, p11_, cnd_t, cnd_f, Asc_t, Asc_f] at ht hs
     subst ht
     refine g_op_not rfl rfl ?_
     refine g_d rfl ?_
     try dsimp only [set0,setS]
     exact hk _ _ ⟨O, (by simp only [upd, Nat.reduceBEq, Bool.true_or, Bool.false_or, p10_, p11_, cnd_t, cnd_f, Asc_t, Asc_f]), hs.cast (by simp only [upd, Nat.reduceBEq, Bool.true_or, Bool.false_or, p10_, p11_, cnd_t, cnd_f, Asc_t, Asc_f])⟩
    ·
     intro D t w rest hall hO5_ hI
     obtain ⟨O, ht, hs⟩ := hI
     have p3_ : D 3 = true := hall 3 (by decide) rfl
     have p4_ : D 4 = true := hall 4 (by decide) rfl
     have p5_ : D 5 = true := hall 5 (by decide) rfl
     have p6_ : D 6 = true := hall 6 (by decide) rfl
     have p7_ : D 7 = true := hall 7 (by decide) rfl
     have p8_ : D 8 = true := hall 8 (by decide) rfl
     have p9_ : D 9 = true := hall 9 (by decide) rfl
     have p10_ : D 10 = true := hall 10 (by decide) rfl
     have p11_ : D 11 = true := hall 11 (by decide) rfl
     have p12_ : D 12 = true := hall 12 (by decide) rfl
     simp only [p3_, p4_, p5_, p6_, p7_, p8_, p9_, p10_, p11_, p12_, cnd_t, cnd_f, Asc_t, Asc_f] at ht hs
     subst ht
     obtain ⟨rest, rfl, hO6_⟩ := ord_one (m := 8191) hO5_ rfl 13 (m' := 16383) (by decide +kernel) rfl
     clear hO5_
     refine g_op_not rfl rfl ?_
     refine g_d rfl ?_
     try dsimp only [set0,setS]
     obtain ⟨rest, rfl, hO7_⟩ := ord_one (m := 16383) hO6_ rfl 14 (m' := 32767) (by decide +kernel) rfl
     clear hO6_
     refine g_op (v := Value.bool true) rfl rfl rfl ?_
     refine g_d rfl ?_
     try dsimp only [set0,setS]
     obtain rfl := ord_end hO7_ rfl (by decide +kernel)
     refine g_ops_nil ?_
     refine g_cond_true rfl ?_
     refine g_seq ?_
     refine g_region ?_
     show G _ _ _ (.inRegion _ [0] :: _) _ _
     refine g_op (v := Value.bool false) rfl rfl rfl ?_
     refine g_d rfl ?_
     try dsimp only [set0,setS]
     refine g_ops_nil ?_
     obtain rfl := Option.some.inj H
     refine g_ret Try.func35 (v := Value.bool false) (res1 rfl rfl) ?_
     have hs := hs.pull 3 rfl
     have hs := hs.pull 3 rfl
     have hs := hs.pull 3 rfl
     have hs : St _ [_,_,_] _ := St.take (Γ' := [_]) hs
     exact ⟨_, rfl, rfl, hs⟩
   ·
    rw [if_neg hb1_] at H
    refine g_lay (n := 15) rfl [0, 1, 2, 3, 4, 5, 6, 7, 8, 9, 10, 11, 12, 13, 14] [0, 1, 2, 3, 4, 5, 6, 7, 8, 9, 10, 11, 12, 13, 14] rfl rfl ?_
    intro rest w hh hbw hO
    have hs := hs.samew hh hbw
    try dsimp only [set0,setS]
    obtain ⟨rest, rfl, hO8_⟩ := ord_one (m := 0) hO rfl 0 (m' := 1) (by decide +kernel) rfl
    clear hO
    refine g_op (v := Value.int .i64 a7) rfl rfl rfl ?_
    refine g_d rfl ?_
    obtain ⟨rest, rfl, hO9_⟩ := ord_one (m := 1) hO8_ rfl 1 (m' := 3) (by decide +kernel) rfl
    clear hO8_
    refine g_op (v := Value.bool false) rfl rfl (run_bool (b := decide (a7 ≤ 0)) rfl (by first | exact decide_eq_true hb1_ | exact decide_eq_false hb1_ | simp [hb1_])) ?_
    refine g_d rfl ?_
    try dsimp only [set0,setS]
    obtain ⟨rest, rfl, hO10_⟩ := ord_one (m := 3) hO9_ rfl 2 (m' := 7) (by decide +kernel) rfl
    clear hO9_
    refine g_op (v := Value.bool false) rfl rfl rfl ?_
    refine g_d rfl ?_
    obtain ⟨r11, Hr11, H⟩ := bind_get H
    obtain ⟨gd12, H⟩ := ite_get H
    refine g_name ?_
    intro T hT
    refine g_layer (m0 := 7) hO10_ rfl 8191 [3, 4, 5, 6, 7, 8, 9, 10, 11, 12] [0, 1, 3, 7, 15, 31, 63, 7, 7, 511, 7, 1031, 3079, 8191, 16383] (by decide +kernel) (fun D t w => ∃ O : Nat → Value, t = (Value.pointer (some ⟨b2, 0, none⟩)::Value.agg ((encA (encI .i64)) a6).toArray::Value.int .i64 a7::O 3::Value.pointer (some ⟨b8, 0, none⟩)::O 5::Value.bool false::O 7::O 8::O 9::Value.agg ((encA (encI .i64)) a6).toArray::Value.int .i64 r10::Value.bool false::Value.int .i64 a7::Value.bool false::Value.bool false::cnd (D 3) (Value.pointer (some ⟨b2, 0, none⟩)) (O 16)::cnd (D 4) (Value.pointer (some ⟨b2, 0, none⟩)) (O 17)::cnd (D 5) (Value.pointer (some ⟨b2, 0, none⟩)) (O 18)::cnd (D 6) (Value.int .i64 a1.f_lies) (O 19)::cnd (D 7) (Value.agg ((encA (encI .i64)) a6).toArray) (O 20)::cnd (D 8) (Value.int .i64 a7) (O 21)::cnd (D 9) (Value.int .i64 r11) (O 22)::cnd (D 10) (Value.int .i64 a7) (O 23)::cnd (D 11) (Value.int .u64 (u64w a7)) (O 24)::cnd (D 12) (Value.int .i64 (shlI .i64 1 (u64w a7))) (O 25)::O 26::O 27::O 28::O 29::O 30::O 31::O 32::O 33::O 34::O 35::O 36::O 37::O 38::O 39::O 40::O 41::O 42::O 43::O 44::O 45::O 46::O 47::O 48::O 49::O 50::O 51::O 52::O 53::O 54::O 55::O 56::O 57::O 58::O 59::O 60::O 61::O 62::O 63::O 64::O 65::O 66::O 67::O 68::O 69::O 70::O 71::O 72::O 73::O 74::O 75::O 76::O 77::O 78::O 79::O 80::[]) ∧ St wb [Cells b8 ((encA (encI .i64)) a6) 25, Row 75 (K.int .i8) v3 a1.f_seen, Cells b2 (([Value.int .i64 a1.f_lies, v3] : List Value)) 73, Z] w) ?_ ⟨?_, ⟨?_, ⟨?_, ⟨?_, ⟨?_, ⟨?_, ⟨?_, ⟨?_, ⟨?_, ⟨?_, trivial⟩⟩⟩⟩⟩⟩⟩⟩⟩⟩ ?_
    · exact ⟨fun i => T.getD i undef, (by subst hT; rfl), hs⟩
    ·
     intro D t w hD hp hcl hI rest hk
     obtain ⟨O, ht, hs⟩ := hI
     have hp : AllDone D [2] := hp
     obtain ⟨p2_, _⟩ := hp
     have q4_ : D 4 = false := not_yet (show D 4 = true → AllDone D [3, 2] from hcl 4 (by decide)) 0 3 rfl hD
     have q5_ : D 5 = false := not_yet (show D 5 = true → AllDone D [4, 2] from hcl 5 (by decide)) 0 4 rfl q4_
     have q6_ : D 6 = false := not_yet (show D 6 = true → AllDone D [5, 2] from hcl 6 (by decide)) 0 5 rfl q5_
     have q9_ : D 9 = false := not_yet (show D 9 = true → AllDone D [6, 7, 8, 2, 2] from hcl 9 (by decide)) 0 6 rfl q6_
     simp only [hD, q4_, q5_, q6_, q9_, cnd_t, cnd_f, Asc_t, Asc_f] at ht hs
     subst ht
     refine g_op (v := Value.pointer (some ⟨b2, 0, none⟩)) rfl rfl rfl ?_
     refine g_d rfl ?_
     try dsimp only [set0,setS]
     exact hk _ _ ⟨O, (by simp only [upd, Nat.reduceBEq, Bool.true_or, Bool.false_or, q4_, q5_, q6_, q9_, cnd_t, cnd_f, Asc_t, Asc_f]), hs.cast (by first | rfl | simp only [List.take, List.drop, List.cons_append, List.nil_append, List.set_cons_zero, List.set_cons_succ, List.eraseIdx, upd, Nat.reduceBEq, Bool.true_or, Bool.false_or, q4_, q5_, q6_, q9_, cnd_t, cnd_f, Asc_t, Asc_f])⟩
    ·
     intro D t w hD hp hcl hI rest hk
     obtain ⟨O, ht, hs⟩ := hI
     have hp : AllDone D [3, 2] := hp
     obtain ⟨p3_, p2_, _⟩ := hp
     have q5_ : D 5 = false := not_yet (show D 5 = true → AllDone D [4, 2] from hcl 5 (by decide)) 0 4 rfl hD
     have q6_ : D 6 = false := not_yet (show D 6 = true → AllDone D [5, 2] from hcl 6 (by decide)) 0 5 rfl q5_
     have q9_ : D 9 = false := not_yet (show D 9 = true → AllDone D [6, 7, 8, 2, 2] from hcl 9 (by decide)) 0 6 rfl q6_
     simp only [hD, p3_, q5_, q6_, q9_, cnd_t, cnd_f, Asc_t, Asc_f] at ht hs
     subst ht
     refine g_op (v := Value.pointer (some ⟨b2, 0, none⟩)) rfl rfl rfl ?_
     refine g_d rfl ?_
     try dsimp only [set0,setS]
     exact hk _ _ ⟨O, (by simp only [upd, Nat.reduceBEq, Bool.true_or, Bool.false_or, p3_, q5_, q6_, q9_, cnd_t, cnd_f, Asc_t, Asc_f]), hs.cast (by first | rfl | simp only [List.take, List.drop, List.cons_append, List.nil_append, List.set_cons_zero, List.set_cons_succ, List.eraseIdx, upd, Nat.reduceBEq, Bool.true_or, Bool.false_or, p3_, q5_, q6_, q9_, cnd_t, cnd_f, Asc_t, Asc_f])⟩
    ·
     intro D t w hD hp hcl hI rest hk
     obtain ⟨O, ht, hs⟩ := hI
     have hp : AllDone D [4, 2] := hp
     obtain ⟨p4_, p2_, _⟩ := hp
     obtain ⟨p3_, _, _⟩ := (show D 4 = true → AllDone D [3, 2] from hcl 4 (by decide)) p4_
     have q6_ : D 6 = false := not_yet (show D 6 = true → AllDone D [5, 2] from hcl 6 (by decide)) 0 5 rfl hD
     have q9_ : D 9 = false := not_yet (show D 9 = true → AllDone D [6, 7, 8, 2, 2] from hcl 9 (by decide)) 0 6 rfl q6_
     simp only [hD, p3_, p4_, q6_, q9_, cnd_t, cnd_f, Asc_t, Asc_f] at ht hs
     subst ht
     refine g_op (v := Value.pointer (some ⟨b2, 0, none⟩)) rfl rfl rfl ?_
     refine g_d rfl ?_
     try dsimp only [set0,setS]
     exact hk _ _ ⟨O, (by simp only [upd, Nat.reduceBEq, Bool.true_or, Bool.false_or, p3_, p4_, q6_, q9_, cnd_t, cnd_f, Asc_t, Asc_f]), hs.cast (by first | rfl | simp only [List.take, List.drop, List.cons_append, List.nil_append, List.set_cons_zero, List.set_cons_succ, List.eraseIdx, upd, Nat.reduceBEq, Bool.true_or, Bool.false_or, p3_, p4_, q6_, q9_, cnd_t, cnd_f, Asc_t, Asc_f])⟩
    ·
     intro D t w hD hp hcl hI rest hk
     obtain ⟨O, ht, hs⟩ := hI
     have hp : AllDone D [5, 2] := hp
     obtain ⟨p5_, p2_, _⟩ := hp
     obtain ⟨p4_, _, _⟩ := (show D 5 = true → AllDone D [4, 2] from hcl 5 (by decide)) p5_
     obtain ⟨p3_, _, _⟩ := (show D 4 = true → AllDone D [3, 2] from hcl 4 (by decide)) p4_
     have q9_ : D 9 = false := not_yet (show D 9 = true → AllDone D [6, 7, 8, 2, 2] from hcl 9 (by decide)) 0 6 rfl hD
     simp only [hD, p3_, p4_, p5_, q9_, cnd_t, cnd_f, Asc_t, Asc_f] at ht hs
     subst ht
     refine s_load1 rfl rfl (v := Value.int .i64 a1.f_lies) rfl rfl (fun _ => rfl) (cells_load (hs.cells 2 rfl) 0 1 rfl) ?_
     refine g_d rfl ?_
     try dsimp only [set0,setS]
     exact hk _ _ ⟨O, (by simp only [upd, Nat.reduceBEq, Bool.true_or, Bool.false_or, p3_, p4_, p5_, q9_, cnd_t, cnd_f, Asc_t, Asc_f]), hs.cast (by first | rfl | simp only [List.take, List.drop, List.cons_append, List.nil_append, List.set_cons_zero, List.set_cons_succ, List.eraseIdx, upd, Nat.reduceBEq, Bool.true_or, Bool.false_or, p3_, p4_, p5_, q9_, cnd_t, cnd_f, Asc_t, Asc_f])⟩
    ·
     intro D t w hD hp hcl hI rest hk
     obtain ⟨O, ht, hs⟩ := hI
     have hp : AllDone D [2] := hp
     obtain ⟨p2_, _⟩ := hp
     have q9_ : D 9 = false := not_yet (show D 9 = true → AllDone D [6, 7, 8, 2, 2] from hcl 9 (by decide)) 1 7 rfl hD
     simp only [hD, q9_, cnd_t, cnd_f, Asc_t, Asc_f] at ht hs
     subst ht
     refine s_loadA rfl rfl (es := ((encA (encI .i64)) a6)) rfl rfl (fun _ => rfl) (n := 4) (fun _ => rfl) ((fkA (n := 4) (he := (fkI .i64).len) (h1 := (fkI .i64).one)).len _) (cells_all (hs.cells 0 rfl)) ?_
     refine g_d rfl ?_
     try dsimp only [set0,setS]
     exact hk _ _ ⟨O, (by simp only [upd, Nat.reduceBEq, Bool.true_or, Bool.false_or, q9_, cnd_t, cnd_f, Asc_t, Asc_f]), hs.cast (by first | rfl | simp only [List.take, List.drop, List.cons_append, List.nil_append, List.set_cons_zero, List.set_cons_succ, List.eraseIdx, upd, Nat.reduceBEq, Bool.true_or, Bool.false_or, q9_, cnd_t, cnd_f, Asc_t, Asc_f])⟩
    ·
     intro D t w hD hp hcl hI rest hk
     obtain ⟨O, ht, hs⟩ := hI
     have hp : AllDone D [2] := hp
     obtain ⟨p2_, _⟩ := hp
     have q9_ : D 9 = false := not_yet (show D 9 = true → AllDone D [6, 7, 8, 2, 2] from hcl 9 (by decide)) 2 8 rfl hD
     simp only [hD, q9_, cnd_t, cnd_f, Asc_t, Asc_f] at ht hs
     subst ht
     refine g_op (v := Value.int .i64 a7) rfl rfl rfl ?_
     refine g_d rfl ?_
     try dsimp only [set0,setS]
     exact hk _ _ ⟨O, (by simp only [upd, Nat.reduceBEq, Bool.true_or, Bool.false_or, q9_, cnd_t, cnd_f, Asc_t, Asc_f]), hs.cast (by first | rfl | simp only [List.take, List.drop, List.cons_append, List.nil_append, List.set_cons_zero, List.set_cons_succ, List.eraseIdx, upd, Nat.reduceBEq, Bool.true_or, Bool.false_or, q9_, cnd_t, cnd_f, Asc_t, Asc_f])⟩
    ·
     intro D t w hD hp hcl hI rest hk
     obtain ⟨O, ht, hs⟩ := hI
     have hp : AllDone D [6, 7, 8, 2, 2] := hp
     obtain ⟨p6_, p7_, p8_, p2_, _, _⟩ := hp
     obtain ⟨p5_, _, _⟩ := (show D 6 = true → AllDone D [5, 2] from hcl 6 (by decide)) p6_
     obtain ⟨p4_, _, _⟩ := (show D 5 = true → AllDone D [4, 2] from hcl 5 (by decide)) p5_
     obtain ⟨p3_, _, _⟩ := (show D 4 = true → AllDone D [3, 2] from hcl 4 (by decide)) p4_
     simp only [hD, p3_, p4_, p5_, p6_, p7_, p8_, cnd_t, cnd_f, Asc_t, Asc_f] at ht hs
     subst ht
     refine s_call (args := [Value.int .i64 a1.f_lies, Value.agg ((encA (encI .i64)) a6).toArray, Value.int .i64 a7]) rfl rfl (x_call rfl (callFunc_enter Try.func42 rfl rfl) rfl) (spec_l06Weight.calls (a1 := a1.f_lies) (a2 := a6) (a3 := a7) Hr11) ?_
     rintro _ w ⟨rfl, hs2⟩
     have hs : St _ [_,_,_,_] _ := hs.call hs2
     refine g_d rfl ?_
     try dsimp only [set0,setS]
     exact hk _ _ ⟨O, (by simp only [upd, Nat.reduceBEq, Bool.true_or, Bool.false_or, p3_, p4_, p5_, p6_, p7_, p8_, cnd_t, cnd_f, Asc_t, Asc_f]), hs.cast (by first | rfl | simp only [List.take, List.drop, List.cons_append, List.nil_append, List.set_cons_zero, List.set_cons_succ, List.eraseIdx, upd, Nat.reduceBEq, Bool.true_or, Bool.false_or, p3_, p4_, p5_, p6_, p7_, p8_, cnd_t, cnd_f, Asc_t, Asc_f])⟩
    ·
     intro D t w hD hp hcl hI rest hk
     obtain ⟨O, ht, hs⟩ := hI
     have hp : AllDone D [2] := hp
     obtain ⟨p2_, _⟩ := hp
     have q11_ : D 11 = false := not_yet (show D 11 = true → AllDone D [10, 2] from hcl 11 (by decide)) 0 10 rfl hD
     have q12_ : D 12 = false := not_yet (show D 12 = true → AllDone D [11, 2] from hcl 12 (by decide)) 0 11 rfl q11_
     simp only [hD, q11_, q12_, cnd_t, cnd_f, Asc_t, Asc_f] at ht hs
     subst ht
     refine g_op (v := Value.int .i64 a7) rfl rfl rfl ?_
     refine g_d rfl ?_
     try dsimp only [set0,setS]
     exact hk _ _ ⟨O, (by simp only [upd, Nat.reduceBEq, Bool.true_or, Bool.false_or, q11_, q12_, cnd_t, cnd_f, Asc_t, Asc_f]), hs.cast (by first | rfl | simp only [List.take, List.drop, List.cons_append, List.nil_append, List.set_cons_zero, List.set_cons_succ, List.eraseIdx, upd, Nat.reduceBEq, Bool.true_or, Bool.false_or, q11_, q12_, cnd_t, cnd_f, Asc_t, Asc_f])⟩
    ·
     intro D t w hD hp hcl hI rest hk
     obtain ⟨O, ht, hs⟩ := hI
     have hp : AllDone D [10, 2] := hp
     obtain ⟨p10_, p2_, _⟩ := hp
     have q12_ : D 12 = false := not_yet (show D 12 = true → AllDone D [11, 2] from hcl 12 (by decide)) 0 11 rfl hD
     simp only [hD, p10_, q12_, cnd_t, cnd_f, Asc_t, Asc_f] at ht hs
     subst ht
     refine g_op (v := Value.int .u64 (u64w a7)) rfl rfl rfl ?_
     refine g_d rfl ?_
     try dsimp only [set0,setS]
     exact hk _ _ ⟨O, (by simp only [upd, Nat.reduceBEq, Bool.true_or, Bool.false_or, p10_, q12_, cnd_t, cnd_f, Asc_t, Asc_f]), hs.cast (by first | rfl | simp only [List.take, List.drop, List.cons_append, List.nil_append, List.set_cons_zero, List.set_cons_succ, List.eraseIdx, upd, Nat.reduceBEq, Bool.true_or, Bool.false_or, p10_, q12_, cnd_t, cnd_f, Asc_t, Asc_f])⟩
    ·
     intro D t w hD hp hcl hI rest hk
     obtain ⟨O, ht, hs⟩ := hI
     have hp : AllDone D [11, 2] := hp
     obtain ⟨p11_, p2_, _⟩ := hp
     obtain ⟨p10_, _, _⟩ := (show D 11 = true → AllDone D [10, 2] from hcl 11 (by decide)) p11_
     simp only [hD, p10_, p11_, cnd_t, cnd_f, Asc_t, Asc_f] at ht hs
     subst ht
     refine g_op (v := Value.int .i64 (shlI .i64 1 (u64w a7))) rfl rfl (x_shl rfl rfl rfl gd12) ?_
     refine g_d rfl ?_
     try dsimp only [set0,setS]
     exact hk _ _ ⟨O, (by simp only [upd, Nat.reduceBEq, Bool.true_or, Bool.false_or, p10_, p11_, cnd_t, cnd_f, Asc_t, Asc_f]), hs.cast (by first | rfl | simp only [List.take, List.drop, List.cons_append, List.nil_append, List.set_cons_zero, List.set_cons_succ, List.eraseIdx, upd, Nat.reduceBEq, Bool.true_or, Bool.false_or, p10_, p11_, cnd_t, cnd_f, Asc_t, Asc_f])⟩
    ·
     intro D t w rest hall hO11_ hI
     obtain ⟨O, ht, hs⟩ := hI
     have p3_ : D 3 = true := hall 3 (by decide) rfl
     have p4_ : D 4 = true := hall 4 (by decide) rfl
     have p5_ : D 5 = true := hall 5 (by decide) rfl
     have p6_ : D 6 = true := hall 6 (by decide) rfl
     have p7_ : D 7 = true := hall 7 (by decide) rfl
     have p8_ : D 8 = true := hall 8 (by decide) rfl
     have p9_ : D 9 = true := hall 9 (by decide) rfl
     have p10_ : D 10 = true := hall 10 (by decide) rfl
     have p11_ : D 11 = true := hall 11 (by decide) rfl
     have p12_ : D 12 = true := hall 12 (by decide) rfl
     simp only [p3_, p4_, p5_, p6_, p7_, p8_, p9_, p10_, p11_, p12_, cnd_t, cnd_f, Asc_t, Asc_f] at ht hs
     subst ht
     obtain ⟨rest, rfl, hO13_⟩ := ord_one (m := 8191) hO11_ rfl 13 (m' := 16383) (by decide +kernel) rfl
     clear hO11_
     refine g_op_b (B := decide (r11 > (shlI .i64 1 (u64w a7)))) rfl rfl rfl ?_ ?_
     ·
      intro hb
      rw [if_pos (b_dec_t hb)] at H
      refine g_d rfl ?_
      try dsimp only [set0,setS]
      obtain ⟨rest, rfl, hO14_⟩ := ord_one (m := 16383) hO13_ rfl 14 (m' := 32767) (by decide +kernel) rfl
      clear hO13_
      refine g_op (v := Value.bool true) rfl rfl rfl ?_
      refine g_d rfl ?_
      try dsimp only [set0,setS]
      obtain rfl := ord_end hO14_ rfl (by decide +kernel)
      refine g_ops_nil ?_
      refine g_cond_true rfl ?_
      refine g_seq ?_
      refine g_region ?_
      show G _ _ _ (.inRegion _ [0] :: _) _ _
      refine g_op (v := Value.bool false) rfl rfl rfl ?_
      refine g_d rfl ?_
      try dsimp only [set0,setS]
      refine g_ops_nil ?_
      obtain rfl := Option.some.inj H
      refine g_ret Try.func35 (v := Value.bool false) (res1 rfl rfl) ?_
      have hs := hs.pull 3 rfl
      have hs := hs.pull 3 rfl
      have hs := hs.pull 3 rfl
      have hs : St _ [_,_,_] _ := St.take (Γ' := [_]) hs
      exact ⟨_, rfl, rfl, hs⟩
     ·
      intro hb
      rw [if_neg (b_dec_f hb)] at H
      refine g_d rfl ?_
      try dsimp only [set0,setS]
      obtain ⟨rest, rfl, hO15_⟩ := ord_one (m := 16383) hO13_ rfl 14 (m' := 32767) (by decide +kernel) rfl
      clear hO13_
      refine g_op (v := Value.bool false) rfl rfl rfl ?_
      refine g_d rfl ?_
      try dsimp only [set0,setS]
      obtain rfl := ord_end hO15_ rfl (by decide +kernel)
      refine g_ops_nil ?_
      refine g_cond_false rfl ?_
      refine g_skip ?_
      refine g_seq ?_
      refine g_region ?_
      show G _ _ _ (.inRegion _ [0, 1, 2, 3, 4, 5, 6, 7, 8, 9, 10, 11, 12, 13, 14, 15, 16, 17] :: _) _ _
      obtain ⟨g16, H⟩ := ite_get H
      refine s_idxA (n := 0) (m := 1) rfl (fun _ => rfl) g16.1 g16.2 rfl rfl rfl rfl rfl ?_
      refine g_d rfl ?_
      try dsimp only [set0,setS]
      refine s_load1 rfl rfl (v := Value.int .i64 (a6.get 0 0)) rfl rfl (fun _ => rfl) (by rw [Nat.zero_add]; exact cells_load (hs.cells 0 rfl) _ _ (encA_at (fkI .i64).len _ _ 0 g16.1 g16.2)) ?_
      refine g_d rfl ?_
      try dsimp only [set0,setS]
      refine g_op (v := Value.int .i64 (i64w ((a6.get 0 0) * 9))) rfl rfl rfl ?_
      refine g_d rfl ?_
      try dsimp only [set0,setS]
      obtain ⟨g17, H⟩ := ite_get H
      refine s_idxA (n := 1) (m := 1) rfl (fun _ => rfl) g17.1 g17.2 rfl rfl rfl rfl rfl ?_
      refine g_d rfl ?_
      try dsimp only [set0,setS]
      refine s_load1 rfl rfl (v := Value.int .i64 (a6.get 1 0)) rfl rfl (fun _ => rfl) (by rw [Nat.zero_add]; exact cells_load (hs.cells 0 rfl) _ _ (encA_at (fkI .i64).len _ _ 0 g17.1 g17.2)) ?_
      refine g_d rfl ?_
      try dsimp only [set0,setS]
      refine g_op (v := Value.int .i64 (i64w ((i64w ((a6.get 0 0) * 9)) + (a6.get 1 0)))) rfl rfl rfl ?_
      refine g_d rfl ?_
      try dsimp only [set0,setS]
      refine g_op (v := Value.int .i64 (i64w ((i64w ((i64w ((a6.get 0 0) * 9)) + (a6.get 1 0))) * 9))) rfl rfl rfl ?_
      refine g_d rfl ?_
      try dsimp only [set0,setS]
      obtain ⟨g18, H⟩ := ite_get H
      refine s_idxA (n := 2) (m := 1) rfl (fun _ => rfl) g18.1 g18.2 rfl rfl rfl rfl rfl ?_
      refine g_d rfl ?_
      try dsimp only [set0,setS]
      refine s_load1 rfl rfl (v := Value.int .i64 (a6.get 2 0)) rfl rfl (fun _ => rfl) (by rw [Nat.zero_add]; exact cells_load (hs.cells 0 rfl) _ _ (encA_at (fkI .i64).len _ _ 0 g18.1 g18.2)) ?_
      refine g_d rfl ?_
      try dsimp only [set0,setS]
      refine g_op (v := Value.int .i64 (i64w ((i64w ((i64w ((i64w ((a6.get 0 0) * 9)) + (a6.get 1 0))) * 9)) + (a6.get 2 0)))) rfl rfl rfl ?_
      refine g_d rfl ?_
      try dsimp only [set0,setS]
      refine g_op (v := Value.int .i64 (i64w ((i64w ((i64w ((i64w ((i64w ((a6.get 0 0) * 9)) + (a6.get 1 0))) * 9)) + (a6.get 2 0))) * 9))) rfl rfl rfl ?_
      refine g_d rfl ?_
      try dsimp only [set0,setS]
      obtain ⟨g19, H⟩ := ite_get H
      refine s_idxA (n := 3) (m := 1) rfl (fun _ => rfl) g19.1 g19.2 rfl rfl rfl rfl rfl ?_
      refine g_d rfl ?_
      try dsimp only [set0,setS]
      refine s_load1 rfl rfl (v := Value.int .i64 (a6.get 3 0)) rfl rfl (fun _ => rfl) (by rw [Nat.zero_add]; exact cells_load (hs.cells 0 rfl) _ _ (encA_at (fkI .i64).len _ _ 0 g19.1 g19.2)) ?_
      refine g_d rfl ?_
      try dsimp only [set0,setS]
      refine g_op (v := Value.int .i64 (i64w ((i64w ((i64w ((i64w ((i64w ((i64w ((a6.get 0 0) * 9)) + (a6.get 1 0))) * 9)) + (a6.get 2 0))) * 9)) + (a6.get 3 0)))) rfl rfl rfl ?_
      refine g_d rfl ?_
      try dsimp only [set0,setS]
      refine g_op (v := Value.int .i64 (i64w ((i64w ((i64w ((i64w ((i64w ((i64w ((i64w ((a6.get 0 0) * 9)) + (a6.get 1 0))) * 9)) + (a6.get 2 0))) * 9)) + (a6.get 3 0))) * 21))) rfl rfl rfl ?_
      refine g_d rfl ?_
      try dsimp only [set0,setS]
      refine g_op (v := Value.int .i64 a7) rfl rfl rfl ?_
      refine g_d rfl ?_
      refine g_op (v := Value.int .i64 (i64w ((i64w ((i64w ((i64w ((i64w ((i64w ((i64w ((i64w ((a6.get 0 0) * 9)) + (a6.get 1 0))) * 9)) + (a6.get 2 0))) * 9)) + (a6.get 3 0))) * 21)) + a7))) rfl rfl rfl ?_
      refine g_d rfl ?_
      try dsimp only [set0,setS]
      refine g_op (v := Value.int .i64 (i64w ((i64w ((i64w ((i64w ((i64w ((i64w ((i64w ((i64w ((a6.get 0 0) * 9)) + (a6.get 1 0))) * 9)) + (a6.get 2 0))) * 9)) + (a6.get 3 0))) * 21)) + a7))) rfl rfl rfl ?_
      refine g_d rfl ?_
      try dsimp only [set0,setS]
      refine g_ops_nil ?_
      refine g_seq ?_
      refine g_seq ?_
      refine g_join2 (J := (fun t w => ∃ x18 : Int, ∃ x19 : (List Int), _spec_l06Finder_can.j0 N self a6 a7 x18 x19 = some r ∧ Fr t (fun O => (Value.pointer (some ⟨b2, 0, none⟩)::O 1::O 2::O 3::O 4::O 5::O 6::Value.int .i64 (i64w ((i64w ((i64w ((i64w ((i64w ((i64w ((i64w ((i64w ((a6.get 0 0) * 9)) + (a6.get 1 0))) * 9)) + (a6.get 2 0))) * 9)) + (a6.get 3 0))) * 21)) + a7))::O 8::O 9::O 10::O 11::O 12::O 13::O 14::O 15::O 16::O 17::O 18::O 19::O 20::O 21::O 22::O 23::O 24::O 25::O 26::O 27::O 28::O 29::O 30::O 31::O 32::O 33::O 34::O 35::O 36::O 37::O 38::O 39::O 40::O 41::O 42::O 43::O 44::O 45::O 46::O 47::O 48::O 49::O 50::O 51::O 52::O 53::O 54::O 55::O 56::O 57::O 58::O 59::O 60::O 61::O 62::O 63::O 64::O 65::O 66::O 67::O 68::O 69::O 70::O 71::O 72::O 73::O 74::O 75::O 76::O 77::O 78::O 79::O 80::[] : List Value)) ∧ St wb [Cells b2 (([Value.int .i64 x18, v3] : List Value)) 73, Row 75 (K.int .i8) v3 x19, Z] w)) ?_ ?_
      ·
       rintro t w ⟨x18, x19, H, hf, hs⟩
       obtain ⟨O, rfl⟩ := hf.open
       try dsimp only
       unfold _spec_l06Finder_can.j0 at H
       refine g_seq ?_
       refine g_region ?_
       show G _ _ _ (.inRegion _ [0, 1, 2, 3, 4, 5, 6, 7, 8] :: _) _ _
       refine g_op (v := Value.pointer (some ⟨b2, 0, none⟩)) rfl rfl rfl ?_
       refine g_d rfl ?_
       refine g_op (v := Value.pointer (some ⟨b2, 0, none⟩)) rfl rfl rfl ?_
       refine g_d rfl ?_
       refine g_op (v := Value.pointer (some ⟨b2, 1, none⟩)) rfl rfl rfl ?_
       refine g_d rfl ?_
       refine s_load1 rfl rfl (v := v3) rfl rfl (fun _ => rfl) (cells_load (hs.cells 0 rfl) 1 1 rfl) ?_
       refine g_d rfl ?_
       try dsimp only [set0,setS]
       refine g_op (v := Value.int .i64 (i64w ((i64w ((i64w ((i64w ((i64w ((i64w ((i64w ((i64w ((a6.get 0 0) * 9)) + (a6.get 1 0))) * 9)) + (a6.get 2 0))) * 9)) + (a6.get 3 0))) * 21)) + a7))) rfl rfl rfl ?_
       refine g_d rfl ?_
       obtain ⟨g23, H⟩ := ite_get H
       refine s_idx (fkI .i8) 0 (hs.row 1 rfl) rfl (fun _ => rfl) g23.1 g23.2 rfl rfl rfl rfl rfl ?_
       intro p21 hp21 lp21 op21
       refine g_d rfl ?_
       try dsimp only [set0,setS]
       refine s_load1 rfl rfl (v := Value.int .i8 (rdL x19 (i64w ((i64w ((i64w ((i64w ((i64w ((i64w ((i64w ((i64w ((a6.get 0 0) * 9)) + (a6.get 1 0))) * 9)) + (a6.get 2 0))) * 9)) + (a6.get 3 0))) * 21)) + a7)) 0)) rfl rfl (fun _ => rfl) hp21 ?_
       refine g_d rfl ?_
       try dsimp only [set0,setS]
       refine g_op (v := Value.bool ((rdL x19 (i64w ((i64w ((i64w ((i64w ((i64w ((i64w ((i64w ((i64w ((a6.get 0 0) * 9)) + (a6.get 1 0))) * 9)) + (a6.get 2 0))) * 9)) + (a6.get 3 0))) * 21)) + a7)) 0) == 2)) rfl rfl rfl ?_
       refine g_d rfl ?_
       try dsimp only [set0,setS]
       refine g_op (v := Value.bool ((rdL x19 (i64w ((i64w ((i64w ((i64w ((i64w ((i64w ((i64w ((i64w ((a6.get 0 0) * 9)) + (a6.get 1 0))) * 9)) + (a6.get 2 0))) * 9)) + (a6.get 3 0))) * 21)) + a7)) 0) == 2)) rfl rfl rfl ?_
       refine g_d rfl ?_
       try dsimp only [set0,setS]
       refine g_ops_nil ?_
       obtain rfl := Option.some.inj H
       refine g_ret Try.func35 (v := Value.bool ((rdL x19 (i64w ((i64w ((i64w ((i64w ((i64w ((i64w ((i64w ((i64w ((a6.get 0 0) * 9)) + (a6.get 1 0))) * 9)) + (a6.get 2 0))) * 9)) + (a6.get 3 0))) * 21)) + a7)) 0) == 2)) (res1 rfl rfl) ?_
       have hs := hs.pull 2 rfl
       have hs := hs.pull 1 rfl
       have hs := hs.pull 2 rfl
       have hs : St _ [_,_,_] _ := St.take (Γ' := []) hs
       exact ⟨_, rfl, rfl, hs⟩
      ·
       intro ha
       refine g_region ?_
       show G _ _ _ (.inRegion _ [0, 1, 2, 3, 4, 5, 6, 7] :: _) _ _
       refine g_op (v := Value.pointer (some ⟨b2, 0, none⟩)) rfl rfl rfl ?_
       refine g_d rfl ?_
       refine g_op (v := Value.pointer (some ⟨b2, 0, none⟩)) rfl rfl rfl ?_
       refine g_d rfl ?_
       refine g_op (v := Value.pointer (some ⟨b2, 1, none⟩)) rfl rfl rfl ?_
       refine g_d rfl ?_
       refine s_load1 rfl rfl (v := v3) rfl rfl (fun _ => rfl) (cells_load (hs.cells 2 rfl) 1 1 rfl) ?_
       refine g_d rfl ?_
       try dsimp only [set0,setS]
       refine g_op (v := Value.int .i64 (i64w ((i64w ((i64w ((i64w ((i64w ((i64w ((i64w ((i64w ((a6.get 0 0) * 9)) + (a6.get 1 0))) * 9)) + (a6.get 2 0))) * 9)) + (a6.get 3 0))) * 21)) + a7))) rfl rfl rfl ?_
       refine g_d rfl ?_
       obtain ⟨g20, H⟩ := ite_get H
       refine s_idx (fkI .i8) 0 (hs.row 1 rfl) rfl (fun _ => rfl) g20.1 g20.2 rfl rfl rfl rfl rfl ?_
       intro p12 hp12 lp12 op12
       refine g_d rfl ?_
       try dsimp only [set0,setS]
       refine s_load1 rfl rfl (v := Value.int .i8 (rdL a1.f_seen (i64w ((i64w ((i64w ((i64w ((i64w ((i64w ((i64w ((i64w ((a6.get 0 0) * 9)) + (a6.get 1 0))) * 9)) + (a6.get 2 0))) * 9)) + (a6.get 3 0))) * 21)) + a7)) 0)) rfl rfl (fun _ => rfl) hp12 ?_
       refine g_d rfl ?_
       try dsimp only [set0,setS]
       refine g_op_b (B := (rdL a1.f_seen (i64w ((i64w ((i64w ((i64w ((i64w ((i64w ((i64w ((i64w ((a6.get 0 0) * 9)) + (a6.get 1 0))) * 9)) + (a6.get 2 0))) * 9)) + (a6.get 3 0))) * 21)) + a7)) 0) == 0) rfl rfl rfl ?_ ?_
       ·
        intro hb
        rw [if_pos (b_beq_t hb)] at H
        refine g_d rfl ?_
        try dsimp only [set0,setS]
        refine g_ops_nil ?_
        refine g_cond_true rfl ?_
        refine g_seq ?_
        refine g_region ?_
        show G _ _ _ (.inRegion _ [0, 1, 2, 3, 4, 5, 6] :: _) _ _
        refine g_op (v := Value.pointer (some ⟨b2, 0, none⟩)) rfl rfl rfl ?_
        refine g_d rfl ?_
        refine g_op (v := Value.pointer (some ⟨b2, 0, none⟩)) rfl rfl rfl ?_
        refine g_d rfl ?_
        refine g_op (v := Value.pointer (some ⟨b2, 1, none⟩)) rfl rfl rfl ?_
        refine g_d rfl ?_
        refine s_load1 rfl rfl (v := v3) rfl rfl (fun _ => rfl) (cells_load (hs.cells 2 rfl) 1 1 rfl) ?_
        refine g_d rfl ?_
        try dsimp only [set0,setS]
        refine g_op (v := Value.int .i64 (i64w ((i64w ((i64w ((i64w ((i64w ((i64w ((i64w ((i64w ((a6.get 0 0) * 9)) + (a6.get 1 0))) * 9)) + (a6.get 2 0))) * 9)) + (a6.get 3 0))) * 21)) + a7))) rfl rfl rfl ?_
        refine g_d rfl ?_
        obtain ⟨g21, H⟩ := ite_get H
        refine s_idx (fkI .i8) 0 (hs.row 1 rfl) rfl (fun _ => rfl) g21.1 g21.2 rfl rfl rfl rfl rfl ?_
        intro p13 hp13 lp13 op13
        refine g_d rfl ?_
        try dsimp only [set0,setS]
        have hs := hs.pull 1 rfl
        have hs : St _ [_,_,_,_] _ := hs
        refine s_stRow (y := 1) (fkI .i8) g21.1 g21.2 op13 hs rfl rfl rfl rfl rfl (fun _ => rfl) ?_
        intro w hs
        refine g_n rfl ?_
        refine g_ops_nil ?_
        refine g_seq ?_
        refine g_region ?_
        show G _ _ _ (.inRegion _ [0, 1, 2, 3, 4, 5, 6, 7, 8, 9] :: _) _ _
        refine g_op (v := Value.pointer (some ⟨b2, 0, none⟩)) rfl rfl rfl ?_
        refine g_d rfl ?_
        refine s_loadA rfl rfl (es := ((encA (encI .i64)) a6)) rfl rfl (fun _ => rfl) (n := 4) (fun _ => rfl) ((fkA (n := 4) (he := (fkI .i64).len) (h1 := (fkI .i64).one)).len _) (cells_all (hs.cells 1 rfl)) ?_
        refine g_d rfl ?_
        try dsimp only [set0,setS]
        refine g_op (v := Value.int .i64 a7) rfl rfl rfl ?_
        refine g_d rfl ?_
        obtain ⟨r14, Hr14, H⟩ := bind_get H
        have hs := hs.pull 2 rfl
        have hs := hs.pull 1 rfl
        have hs : St _ [_,_,_,_] _ := hs
        have hs := hs.pack 2
        refine s_call (args := [Value.pointer (some ⟨b2, 0, none⟩), Value.agg ((encA (encI .i64)) a6).toArray, Value.int .i64 a7]) rfl rfl (x_call rfl (callFunc_enter Try.func37 rfl rfl) rfl) (_spec_l06Finder_first.calls ih (a1 := (⟨a1.f_lies, stL a1.f_seen (i64w ((i64w ((i64w ((i64w ((i64w ((i64w ((i64w ((i64w ((a6.get 0 0) * 9)) + (a6.get 1 0))) * 9)) + (a6.get 2 0))) * 9)) + (a6.get 3 0))) * 21)) + a7)) 1⟩ : S_spec_l06Finder)) (a6 := a6) (a7 := a7) hs Hr14) ?_
        rintro _ w ⟨rfl, hs⟩
        have hs := St.unpack (Γ := [_,_]) hs
        have hs : St _ [_,_,_,_] _ := hs
        refine g_d rfl ?_
        try dsimp only [set0,setS]
        refine g_op (v := Value.tuple #[Value.agg ((encA (encI .i64)) r14.1).toArray, Value.bool r14.2.1]) rfl rfl rfl ?_
        refine g_d rfl ?_
        refine g_op (v := Value.agg ((encA (encI .i64)) r14.1).toArray) rfl rfl rfl ?_
        refine g_d rfl ?_
        refine g_op (v := Value.bool r14.2.1) rfl rfl rfl ?_
        refine g_d rfl ?_
        refine s_alloc hs rfl rfl (z := (Value.agg #[Value.int .i64 0, Value.int .i64 0, Value.int .i64 0, Value.int .i64 0])) (cs := ((encA (encI .i64)) (Ar.rep 4 0))) rfl (fun _ => rfl) rfl ?_
        intro b15 w hs
        refine g_d rfl ?_
        try dsimp only [set0,setS]
        refine s_storeAll (n := 4) hs ((fkA (n := 4) (he := (fkI .i64).len) (h1 := (fkI .i64).one)).len _) rfl rfl (vs := ((encA (encI .i64)) r14.1)) rfl rfl rfl (fun _ => rfl) ((fkA (n := 4) (he := (fkI .i64).len) (h1 := (fkI .i64).one)).len _) ((fkA (n := 4) (he := (fkI .i64).len) (h1 := (fkI .i64).one)).one _) ?_
        intro w hs
        refine g_n rfl ?_
        refine g_op (v := Value.bool r14.2.1) rfl rfl rfl ?_
        refine g_d rfl ?_
        try dsimp only [set0,setS]
        refine g_ops_nil ?_
        refine g_seq ?_
        refine g_region ?_
        show G _ _ _ (.inRegion _ [0] :: _) _ _
        refine g_op_b (B := r14.2.1) rfl rfl rfl ?_ ?_
        ·
         intro hb
         rw [if_pos (b_var_t hb)] at H
         refine g_d rfl ?_
         refine g_ops_nil ?_
         refine g_cond_true rfl ?_
         refine g_region ?_
         show G _ _ _ (.inRegion _ [0, 1, 2, 3, 4, 5, 6] :: _) _ _
         refine g_op (v := Value.pointer (some ⟨b2, 0, none⟩)) rfl rfl rfl ?_
         refine g_d rfl ?_
         refine g_op (v := Value.pointer (some ⟨b2, 0, none⟩)) rfl rfl rfl ?_
         refine g_d rfl ?_
         refine g_op (v := Value.pointer (some ⟨b2, 1, none⟩)) rfl rfl rfl ?_
         refine g_d rfl ?_
         refine s_load1 rfl rfl (v := v3) rfl rfl (fun _ => rfl) (cells_load (hs.cells 2 rfl) 1 1 rfl) ?_
         refine g_d rfl ?_
         try dsimp only [set0,setS]
         refine g_op (v := Value.int .i64 (i64w ((i64w ((i64w ((i64w ((i64w ((i64w ((i64w ((i64w ((a6.get 0 0) * 9)) + (a6.get 1 0))) * 9)) + (a6.get 2 0))) * 9)) + (a6.get 3 0))) * 21)) + a7))) rfl rfl rfl ?_
         refine g_d rfl ?_
         obtain ⟨g22, H⟩ := ite_get H
         refine s_idx (fkI .i8) 0 (hs.row 1 rfl) rfl (fun _ => rfl) g22.1 g22.2 rfl rfl rfl rfl rfl ?_
         intro p17 hp17 lp17 op17
         refine g_d rfl ?_
         try dsimp only [set0,setS]
         have hs := hs.pull 1 rfl
         have hs : St _ [_,_,_,_,_] _ := hs
         refine s_stRow (y := 2) (fkI .i8) g22.1 g22.2 op17 hs rfl rfl rfl rfl rfl (fun _ => rfl) ?_
         intro w hs
         refine g_n rfl ?_
         refine g_ops_nil ?_
         have hs := hs.pull 4 rfl
         have hs := hs.pull 1 rfl
         have hs := hs.pull 3 rfl
         have hs : St _ [_,_,_] _ := St.take (Γ' := [_,_]) hs
         exact ha _ _ ⟨r14.2.2.2.f_lies, stL r14.2.2.1 (i64w ((i64w ((i64w ((i64w ((i64w ((i64w ((i64w ((i64w ((a6.get 0 0) * 9)) + (a6.get 1 0))) * 9)) + (a6.get 2 0))) * 9)) + (a6.get 3 0))) * 21)) + a7)) 2, H, rfl, hs⟩
        ·
         intro hb
         rw [if_neg (b_var_f hb)] at H
         refine g_d rfl ?_
         refine g_ops_nil ?_
         refine g_cond_false rfl ?_
         refine g_skip ?_
         have hs := hs.pull 4 rfl
         have hs := hs.pull 2 rfl
         have hs := hs.pull 3 rfl
         have hs : St _ [_,_,_] _ := St.take (Γ' := [_,_]) hs
         exact ha _ _ ⟨r14.2.2.2.f_lies, r14.2.2.1, H, rfl, hs⟩
       ·
        intro hb
        rw [if_neg (b_beq_f hb)] at H
        refine g_d rfl ?_
        try dsimp only [set0,setS]
        refine g_ops_nil ?_
        refine g_cond_false rfl ?_
        refine g_skip ?_
        have hs := hs.pull 3 rfl
        have hs := hs.pull 2 rfl
        have hs := hs.pull 3 rfl
        have hs : St _ [_,_,_] _ := St.take (Γ' := [_]) hs
        exact ha _ _ ⟨a1.f_lies, a1.f_seen, H, rfl, hs⟩
theorem _spec_l06Finder_can.rec {N : Nat} : ∀ (k : Nat) (a1 : S_spec_l06Finder) (a6 : (Ar Int 4)) (a7 : Int) (b2 : Nat) (v3 : Value) (wb : World) (Z : As) (w0 : World) (r : (Bool × (List Int) × S_spec_l06Finder)) (hs : St wb [Row 75 (K.int .i8) v3 a1.f_seen, Cells b2 (([Value.int .i64 a1.f_lies, v3] : List Value)) 73, Z] w0) (H : _spec_l06Finder_can.g N k a1 a6 a7 = some r), Calls Try.prog 35 #[Value.pointer (some ⟨b2, 0, none⟩), Value.agg ((encA (encI .i64)) a6).toArray, Value.int .i64 a7] w0 fun e w => ∃ v, e = .returned v ∧ _spec_l06Finder_can.post wb Z v3 b2 v3 r v w
  | 0, a1, a6, a7, b2, v3, wb, Z, w0, r, hs, H => by cases H
  | k + 1, a1, a6, a7, b2, v3, wb, Z, w0, r, hs, H => _spec_l06Finder_can.step (fun a1 a6 a7 b2 v3 wb Z w0 r hs H => _spec_l06Finder_can.rec k a1 a6 a7 b2 v3 wb Z w0 r hs H) a1 a6 a7 b2 v3 wb Z w0 r hs H
theorem _spec_l06Finder_can.ih {N : Nat} : ∀ (a1 : S_spec_l06Finder) (a6 : (Ar Int 4)) (a7 : Int) (b2 : Nat) (v3 : Value) (wb : World) (Z : As) (w0 : World) (r : (Bool × (List Int) × S_spec_l06Finder)) (hs : St wb [Row 75 (K.int .i8) v3 a1.f_seen, Cells b2 (([Value.int .i64 a1.f_lies, v3] : List Value)) 73, Z] w0), _spec_l06Finder_can.f N a1 a6 a7 = some r → Calls Try.prog 35 #[Value.pointer (some ⟨b2, 0, none⟩), Value.agg ((encA (encI .i64)) a6).toArray, Value.int .i64 a7] w0 fun e w => ∃ v, e = .returned v ∧ _spec_l06Finder_can.post wb Z v3 b2 v3 r v w := fun a1 a6 a7 b2 v3 wb Z w0 r hs H => _spec_l06Finder_can.rec N a1 a6 a7 b2 v3 wb Z w0 r hs H
theorem _spec_l06Finder_can.calls {N : Nat} {a1 : S_spec_l06Finder} {a6 : (Ar Int 4)} {a7 : Int} {b2 : Nat} {v3 : Value} {wb : World} {Z : As} {w0 : World} {r : (Bool × (List Int) × S_spec_l06Finder)} (hs : St wb [Row 75 (K.int .i8) v3 a1.f_seen, Cells b2 (([Value.int .i64 a1.f_lies, v3] : List Value)) 73, Z] w0) (H : _spec_l06Finder_can.f N a1 a6 a7 = some r) :
    Calls Try.prog 35 #[Value.pointer (some ⟨b2, 0, none⟩), Value.agg ((encA (encI .i64)) a6).toArray, Value.int .i64 a7] w0 fun e w => ∃ v, e = .returned v ∧ _spec_l06Finder_can.post wb Z v3 b2 v3 r v w := _spec_l06Finder_can.rec N a1 a6 a7 b2 v3 wb Z w0 r hs H

end Go.Proofs.YtfnfoecocicigaaX
