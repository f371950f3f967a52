/- Contracts, printed by gen.py. -/
import Derived.Test.YtfnfoecocicigaaXT
import Derived.Test.YtfnfoecocicigaaProg
import Derived.Test.YtfnfoecocicigaaXRowR
import Derived.Test.YtfnfoecocicigaaXSeg
import Derived.Test.YtfnfoecocicigaaXKey
import Derived.Test.YtfnfoecocicigaaXC0
import Derived.Test.YtfnfoecocicigaaXC2
import Derived.Test.YtfnfoecocicigaaXC5
import Derived.Test.YtfnfoecocicigaaXC7
import Derived.Test.YtfnfoecocicigaaXC8
import Derived.Test.YtfnfoecocicigaaXC9
namespace Go.Proofs.YtfnfoecocicigaaX
open Go Go.RowKit Go.Proofs
set_option linter.unusedVariables false
set_option linter.unusedSimpArgs false
/- function 33 _impl_searcher_can -/
set_option maxHeartbeats 8000000 in
set_option maxRecDepth 100000 in
theorem _impl_searcher_can.step {N : Nat} {self : S_impl_searcher → (Ar Int 4) → Int → Option (Bool × (List (S_impl_stateLeft × Bool)))} (ih : ∀ (a1 : S_impl_searcher) (a4 : (Ar Int 4)) (a5 : Int) (b2 : Nat) (wb : World) (Z : As) (w0 : World) (r : (Bool × (List (S_impl_stateLeft × Bool)))) (hs : St wb [MapAs b2 ek_S_impl_stateLeft Value.bool a1.f_known, Z] w0), self a1 a4 a5 = some r → Calls Try.prog 33 #[Value.agg (([Value.int .i64 a1.f_lies, Value.map (some b2)] : List Value)).toArray, Value.agg ((encA (encI .i64)) a4).toArray, Value.int .i64 a5] w0 fun e w => ∃ v, e = .returned v ∧ _impl_searcher_can.post wb Z b2 r v w) (a1 : S_impl_searcher) (a4 : (Ar Int 4)) (a5 : Int) (b2 : Nat) (wb : World) (Z : As) (w0 : World) (r : (Bool × (List (S_impl_stateLeft × Bool)))) (hs : St wb [MapAs b2 ek_S_impl_stateLeft Value.bool a1.f_known, Z] w0) (H : _impl_searcher_can.body N self a1 a4 a5 = some r) :
    Calls Try.prog 33 #[Value.agg (([Value.int .i64 a1.f_lies, Value.map (some b2)] : List Value)).toArray, Value.agg ((encA (encI .i64)) a4).toArray, Value.int .i64 a5] w0 fun e w => ∃ v, e = .returned v ∧ _impl_searcher_can.post wb Z b2 r v w := by
  unfold _impl_searcher_can.body at H
  refine calls_of_g (n := 48) Try.func33 rfl rfl ?_
  show G _ _ _ _ [_,_,_,_,_,_,_,_,_,_,_,_,_,_,_,_,_,_,_,_,_,_,_,_,_,_,_,_,_,_,_,_,_,_,_,_,_,_,_,_,_,_,_,_,_,_,_,_,_,_,_] _
  refine g_seq ?_
  refine g_region ?_
  show G _ _ _ (.inRegion _ [0, 1, 2] :: _) _ _
  refine s_box hs rfl rfl (cs := (([Value.int .i64 a1.f_lies, Value.map (some b2)] : List Value))) rfl rfl ?_
  intro b6 w hs
  refine s_box hs rfl rfl (cs := ((encA (encI .i64)) a4)) rfl rfl ?_
  intro b8 w hs
  show G _ _ _ _ [_,_,_,_,_,_,_,_,_,_,_,_,_,_,_,_,_,_,_,_,_,_,_,_,_,_,_,_,_,_,_,_,_,_,_,_,_,_,_,_,_,_,_,_,_,_,_,_,_,_,_] _
  refine g_op (v := Value.bool false) rfl rfl rfl ?_
  refine g_ops_nil ?_
  refine g_seq ?_
  refine g_block ?_
  refine g_seq ?_
  refine g_region ?_
  show G _ _ _ (.inRegion _ [0, 1, 2, 3] :: _) _ _
  refine s_loadA rfl rfl (es := ((encA (encI .i64)) a4)) rfl rfl (fun _ => rfl) (n := 4) (fun _ => rfl) ((fkA (n := 4) (he := (fkI .i64).len) (h1 := (fkI .i64).one)).len _) (cells_all (hs.cells 0 rfl)) ?_
  obtain ⟨r10, Hr10, H⟩ := bind_get H
  refine s_call (args := [Value.agg ((encA (encI .i64)) a4).toArray]) rfl rfl (x_call rfl (callFunc_enter Try.func29 rfl rfl) rfl) (_impl_State_sum.calls (a1 := a4) Hr10) ?_
  rintro _ w ⟨rfl, hs2⟩
  have hs : St _ [_,_,_,_] _ := hs.call hs2
  show G _ _ _ _ [_,_,_,_,_,_,_,_,_,_,_,_,_,_,_,_,_,_,_,_,_,_,_,_,_,_,_,_,_,_,_,_,_,_,_,_,_,_,_,_,_,_,_,_,_,_,_,_,_,_,_] _
  refine g_op_b (B := decide (r10 ≤ 1)) rfl rfl rfl ?_ ?_
  ·
   intro hb
   rw [if_pos (b_dec_t hb)] at H
   show G _ _ _ _ [_,_,_,_,_,_,_,_,_,_,_,_,_,_,_,_,_,_,_,_,_,_,_,_,_,_,_,_,_,_,_,_,_,_,_,_,_,_,_,_,_,_,_,_,_,_,_,_,_,_,_] _
   refine g_op (v := Value.bool true) rfl rfl rfl ?_
   refine g_ops_nil ?_
   refine g_cond_true rfl ?_
   refine g_seq ?_
   refine g_region ?_
   show G _ _ _ (.inRegion _ [0] :: _) _ _
   refine g_op (v := Value.bool true) rfl rfl rfl ?_
   refine g_ops_nil ?_
   obtain rfl := Option.some.inj H
   refine g_ret Try.func33 (v := Value.bool true) (res1 rfl rfl) ?_
   have hs := hs.pull 3 rfl
   have hs := hs.pull 3 rfl
   have hs : St _ [_,_] _ := St.take (Γ' := [_,_]) hs
   exact ⟨_, rfl, rfl, hs⟩
  ·
   intro hb
   rw [if_neg (b_dec_f hb)] at H
   refine g_op (v := Value.bool false) rfl rfl rfl ?_
   refine g_ops_nil ?_
   refine g_cond_false rfl ?_
   refine g_seq ?_
   by_cases hb1_ : a5 = 0
   ·
    rw [if_pos hb1_] at H
    refine g_lay (n := 13) rfl [0, 1, 2, 3, 4, 5, 6, 7, 8, 9, 10, 11, 12] [0, 1, 2, 3, 4, 5, 6, 7, 8, 9, 10, 11, 12] rfl rfl ?_
    intro rest w hh hbw hO
    have hs := hs.samew hh hbw
    show G _ _ _ _ [_,_,_,_,_,_,_,_,_,_,_,_,_,_,_,_,_,_,_,_,_,_,_,_,_,_,_,_,_,_,_,_,_,_,_,_,_,_,_,_,_,_,_,_,_,_,_,_,_,_,_] _
    obtain ⟨rest, rfl, hO2_⟩ := ord_one (m := 0) hO rfl 0 (m' := 1) (by decide +kernel) rfl
    clear hO
    refine g_op (v := Value.int .i64 a5) rfl rfl rfl ?_
    obtain ⟨rest, rfl, hO3_⟩ := ord_one (m := 1) hO2_ rfl 1 (m' := 3) (by decide +kernel) rfl
    clear hO2_
    refine g_op (v := Value.bool true) rfl rfl (run_bool (b := a5 == 0) rfl (by first | exact decide_eq_true hb1_ | exact decide_eq_false hb1_ | simp [hb1_])) ?_
    obtain ⟨rest, rfl, hO4_⟩ := ord_one (m := 3) hO3_ rfl 2 (m' := 7) (by decide +kernel) rfl
    clear hO3_
    refine g_op (v := Value.bool true) rfl rfl rfl ?_
    refine g_name ?_
    intro T hT
    refine g_layer (m0 := 7) hO4_ rfl 1023 [3, 4, 5, 6, 7, 8, 9] [0, 1, 3, 7, 15, 7, 7, 127, 7, 263, 1023, 2047, 4095] (by decide +kernel) (fun D t w => ∃ O : Nat → Value, t = [Value.agg (([Value.int .i64 a1.f_lies, Value.map (some b2)] : List Value)).toArray, Value.agg ((encA (encI .i64)) a4).toArray, Value.int .i64 a5, Value.pointer (some ⟨b6, 0, none⟩), Value.pointer (some ⟨b8, 0, none⟩), O 5, Value.bool false, O 7, O 8, O 9, Value.bool false, Value.agg ((encA (encI .i64)) a4).toArray, Value.int .i64 r10, Value.bool false, O 14, Value.int .i64 a5, Value.bool true, Value.bool true, cnd (D 3) undef (O 18), cnd (D 4) undef (O 19), cnd (D 5) undef (O 20), cnd (D 6) undef (O 21), cnd (D 7) undef (O 22), cnd (D 8) undef (O 23), cnd (D 9) undef (O 24), O 25, O 26, O 27, O 28, O 29, O 30, O 31, O 32, O 33, O 34, O 35, O 36, O 37, O 38, O 39, O 40, O 41, O 42, O 43, O 44, O 45, O 46, O 47, O 48, O 49, O 50] ∧ St wb [Cells b8 ((encA (encI .i64)) a4) 25, Cells b6 (([Value.int .i64 a1.f_lies, Value.map (some b2)] : List Value)) 56, MapAs b2 ek_S_impl_stateLeft Value.bool a1.f_known, Z] w) ?_ ⟨?_, ⟨?_, ⟨?_, ⟨?_, ⟨?_, ⟨?_, ⟨?_, trivial⟩⟩⟩⟩⟩⟩⟩ ?_
    · exact ⟨fun i => T.getD i undef, (by subst hT; rfl), hs⟩
    ·
     intro D t w hD hp hcl hI rest hk
     obtain ⟨O, ht, hs⟩ := hI
     have hp : AllDone D [2] := hp
     obtain ⟨p2_, _⟩ := hp
     have q4_ : D 4 = false := not_yet (show D 4 = true → AllDone D [3, 2] from hcl 4 (by decide)) 0 3 rfl hD
     have q7_ : D 7 = false := not_yet (show D 7 = true → AllDone D [4, 5, 6, 2, 2] from hcl 7 (by decide)) 0 4 rfl q4_
     simp only [hD, q4_, q7_, cnd_t, cnd_f, Asc_t, Asc_f] at ht hs
     subst ht
     refine g_op_not rfl rfl ?_
     show G _ _ _ _ [_,_,_,_,_,_,_,_,_,_,_,_,_,_,_,_,_,_,_,_,_,_,_,_,_,_,_,_,_,_,_,_,_,_,_,_,_,_,_,_,_,_,_,_,_,_,_,_,_,_,_] _
     exact hk _ _ ⟨O, (by simp only [upd, Nat.reduceBEq, Bool.true_or, Bool.false_or, q4_, q7_, cnd_t, cnd_f, Asc_t, Asc_f]), hs.cast (by simp only [upd, Nat.reduceBEq, Bool.true_or, Bool.false_or, q4_, q7_, cnd_t, cnd_f, Asc_t, Asc_f])⟩
    ·
     intro D t w hD hp hcl hI rest hk
     obtain ⟨O, ht, hs⟩ := hI
     have hp : AllDone D [3, 2] := hp
     obtain ⟨p3_, p2_, _⟩ := hp
     have q7_ : D 7 = false := not_yet (show D 7 = true → AllDone D [4, 5, 6, 2, 2] from hcl 7 (by decide)) 0 4 rfl hD
     simp only [hD, p3_, q7_, cnd_t, cnd_f, Asc_t, Asc_f] at ht hs
     subst ht
     refine g_op_not rfl rfl ?_
     show G _ _ _ _ [_,_,_,_,_,_,_,_,_,_,_,_,_,_,_,_,_,_,_,_,_,_,_,_,_,_,_,_,_,_,_,_,_,_,_,_,_,_,_,_,_,_,_,_,_,_,_,_,_,_,_] _
     exact hk _ _ ⟨O, (by simp only [upd, Nat.reduceBEq, Bool.true_or, Bool.false_or, p3_, q7_, cnd_t, cnd_f, Asc_t, Asc_f]), hs.cast (by simp only [upd, Nat.reduceBEq, Bool.true_or, Bool.false_or, p3_, q7_, cnd_t, cnd_f, Asc_t, Asc_f])⟩
    ·
     intro D t w hD hp hcl hI rest hk
     obtain ⟨O, ht, hs⟩ := hI
     have hp : AllDone D [2] := hp
     obtain ⟨p2_, _⟩ := hp
     have q7_ : D 7 = false := not_yet (show D 7 = true → AllDone D [4, 5, 6, 2, 2] from hcl 7 (by decide)) 1 5 rfl hD
     simp only [hD, q7_, cnd_t, cnd_f, Asc_t, Asc_f] at ht hs
     subst ht
     refine g_op_not rfl rfl ?_
     show G _ _ _ _ [_,_,_,_,_,_,_,_,_,_,_,_,_,_,_,_,_,_,_,_,_,_,_,_,_,_,_,_,_,_,_,_,_,_,_,_,_,_,_,_,_,_,_,_,_,_,_,_,_,_,_] _
     exact hk _ _ ⟨O, (by simp only [upd, Nat.reduceBEq, Bool.true_or, Bool.false_or, q7_, cnd_t, cnd_f, Asc_t, Asc_f]), hs.cast (by simp only [upd, Nat.reduceBEq, Bool.true_or, Bool.false_or, q7_, cnd_t, cnd_f, Asc_t, Asc_f])⟩
    ·
     intro D t w hD hp hcl hI rest hk
     obtain ⟨O, ht, hs⟩ := hI
     have hp : AllDone D [2] := hp
     obtain ⟨p2_, _⟩ := hp
     have q7_ : D 7 = false := not_yet (show D 7 = true → AllDone D [4, 5, 6, 2, 2] from hcl 7 (by decide)) 2 6 rfl hD
     simp only [hD, q7_, cnd_t, cnd_f, Asc_t, Asc_f] at ht hs
     subst ht
     refine g_op_not rfl rfl ?_
     show G _ _ _ _ [_,_,_,_,_,_,_,_,_,_,_,_,_,_,_,_,_,_,_,_,_,_,_,_,_,_,_,_,_,_,_,_,_,_,_,_,_,_,_,_,_,_,_,_,_,_,_,_,_,_,_] _
     exact hk _ _ ⟨O, (by simp only [upd, Nat.reduceBEq, Bool.true_or, Bool.false_or, q7_, cnd_t, cnd_f, Asc_t, Asc_f]), hs.cast (by simp only [upd, Nat.reduceBEq, Bool.true_or, Bool.false_or, q7_, cnd_t, cnd_f, Asc_t, Asc_f])⟩
    ·
     intro D t w hD hp hcl hI rest hk
     obtain ⟨O, ht, hs⟩ := hI
     have hp : AllDone D [4, 5, 6, 2, 2] := hp
     obtain ⟨p4_, p5_, p6_, p2_, _, _⟩ := hp
     obtain ⟨p3_, _, _⟩ := (show D 4 = true → AllDone D [3, 2] from hcl 4 (by decide)) p4_
     simp only [hD, p3_, p4_, p5_, p6_, cnd_t, cnd_f, Asc_t, Asc_f] at ht hs
     subst ht
     refine g_op_not rfl rfl ?_
     show G _ _ _ _ [_,_,_,_,_,_,_,_,_,_,_,_,_,_,_,_,_,_,_,_,_,_,_,_,_,_,_,_,_,_,_,_,_,_,_,_,_,_,_,_,_,_,_,_,_,_,_,_,_,_,_] _
     exact hk _ _ ⟨O, (by simp only [upd, Nat.reduceBEq, Bool.true_or, Bool.false_or, p3_, p4_, p5_, p6_, cnd_t, cnd_f, Asc_t, Asc_f]), hs.cast (by simp only [upd, Nat.reduceBEq, Bool.true_or, Bool.false_or, p3_, p4_, p5_, p6_, cnd_t, cnd_f, Asc_t, Asc_f])⟩
    ·
     intro D t w hD hp hcl hI rest hk
     obtain ⟨O, ht, hs⟩ := hI
     have hp : AllDone D [2] := hp
     obtain ⟨p2_, _⟩ := hp
     have q9_ : D 9 = false := not_yet (show D 9 = true → AllDone D [8, 2] from hcl 9 (by decide)) 0 8 rfl hD
     simp only [hD, q9_, cnd_t, cnd_f, Asc_t, Asc_f] at ht hs
     subst ht
     refine g_op_not rfl rfl ?_
     show G _ _ _ _ [_,_,_,_,_,_,_,_,_,_,_,_,_,_,_,_,_,_,_,_,_,_,_,_,_,_,_,_,_,_,_,_,_,_,_,_,_,_,_,_,_,_,_,_,_,_,_,_,_,_,_] _
     exact hk _ _ ⟨O, (by simp only [upd, Nat.reduceBEq, Bool.true_or, Bool.false_or, q9_, cnd_t, cnd_f, Asc_t, Asc_f]), hs.cast (by simp only [upd, Nat.reduceBEq, Bool.true_or, Bool.false_or, q9_, cnd_t, cnd_f, Asc_t, Asc_f])⟩
    ·
     intro D t w hD hp hcl hI rest hk
     obtain ⟨O, ht, hs⟩ := hI
     have hp : AllDone D [8, 2] := hp
     obtain ⟨p8_, p2_, _⟩ := hp
     simp only [hD, p8_, cnd_t, cnd_f, Asc_t, Asc_f] at ht hs
     subst ht
     refine g_op_not rfl rfl ?_
     show G _ _ _ _ [_,_,_,_,_,_,_,_,_,_,_,_,_,_,_,_,_,_,_,_,_,_,_,_,_,_,_,_,_,_,_,_,_,_,_,_,_,_,_,_,_,_,_,_,_,_,_,_,_,_,_] _
     exact hk _ _ ⟨O, (by simp only [upd, Nat.reduceBEq, Bool.true_or, Bool.false_or, p8_, cnd_t, cnd_f, Asc_t, Asc_f]), hs.cast (by simp only [upd, Nat.reduceBEq, Bool.true_or, Bool.false_or, p8_, cnd_t, cnd_f, Asc_t, Asc_f])⟩
    ·
     intro D t w rest hall hO5_ hI
     obtain ⟨O, ht, hs⟩ := hI
     have p3_ : D 3 = true := hall 3 (by decide) rfl
     have p4_ : D 4 = true := hall 4 (by decide) rfl
     have p5_ : D 5 = true := hall 5 (by decide) rfl
     have p6_ : D 6 = true := hall 6 (by decide) rfl
     have p7_ : D 7 = true := hall 7 (by decide) rfl
     have p8_ : D 8 = true := hall 8 (by decide) rfl
     have p9_ : D 9 = true := hall 9 (by decide) rfl
     simp only [p3_, p4_, p5_, p6_, p7_, p8_, p9_, cnd_t, cnd_f, Asc_t, Asc_f] at ht hs
     subst ht
     obtain ⟨rest, rfl, hO6_⟩ := ord_one (m := 1023) hO5_ rfl 10 (m' := 2047) (by decide +kernel) rfl
     clear hO5_
     refine g_op_not rfl rfl ?_
     obtain ⟨rest, rfl, hO7_⟩ := ord_one (m := 2047) hO6_ rfl 11 (m' := 4095) (by decide +kernel) rfl
     clear hO6_
     refine g_op (v := Value.bool true) rfl rfl rfl ?_
     show G _ _ _ _ [_,_,_,_,_,_,_,_,_,_,_,_,_,_,_,_,_,_,_,_,_,_,_,_,_,_,_,_,_,_,_,_,_,_,_,_,_,_,_,_,_,_,_,_,_,_,_,_,_,_,_] _
     obtain ⟨rest, rfl, hO8_⟩ := ord_one (m := 4095) hO7_ rfl 12 (m' := 8191) (by decide +kernel) rfl
     clear hO7_
     refine g_op (v := Value.bool true) rfl rfl rfl ?_
     obtain rfl := ord_end hO8_ rfl (by decide +kernel)
     refine g_ops_nil ?_
     refine g_cond_true rfl ?_
     refine g_seq ?_
     refine g_region ?_
     show G _ _ _ (.inRegion _ [0] :: _) _ _
     refine g_op (v := Value.bool false) rfl rfl rfl ?_
     refine g_ops_nil ?_
     obtain rfl := Option.some.inj H
     refine g_ret Try.func33 (v := Value.bool false) (res1 rfl rfl) ?_
     have hs := hs.pull 3 rfl
     have hs := hs.pull 3 rfl
     have hs : St _ [_,_] _ := St.take (Γ' := [_,_]) hs
     exact ⟨_, rfl, rfl, hs⟩
   ·
    rw [if_neg hb1_] at H
    refine g_lay (n := 13) rfl [0, 1, 2, 3, 4, 5, 6, 7, 8, 9, 10, 11, 12] [0, 1, 2, 3, 4, 5, 6, 7, 8, 9, 10, 11, 12] rfl rfl ?_
    intro rest w hh hbw hO
    have hs := hs.samew hh hbw
    show G _ _ _ _ [_,_,_,_,_,_,_,_,_,_,_,_,_,_,_,_,_,_,_,_,_,_,_,_,_,_,_,_,_,_,_,_,_,_,_,_,_,_,_,_,_,_,_,_,_,_,_,_,_,_,_] _
    obtain ⟨rest, rfl, hO9_⟩ := ord_one (m := 0) hO rfl 0 (m' := 1) (by decide +kernel) rfl
    clear hO
    refine g_op (v := Value.int .i64 a5) rfl rfl rfl ?_
    obtain ⟨rest, rfl, hO10_⟩ := ord_one (m := 1) hO9_ rfl 1 (m' := 3) (by decide +kernel) rfl
    clear hO9_
    refine g_op (v := Value.bool false) rfl rfl (run_bool (b := a5 == 0) rfl (by first | exact decide_eq_true hb1_ | exact decide_eq_false hb1_ | simp [hb1_])) ?_
    show G _ _ _ _ [_,_,_,_,_,_,_,_,_,_,_,_,_,_,_,_,_,_,_,_,_,_,_,_,_,_,_,_,_,_,_,_,_,_,_,_,_,_,_,_,_,_,_,_,_,_,_,_,_,_,_] _
    obtain ⟨rest, rfl, hO11_⟩ := ord_one (m := 3) hO10_ rfl 2 (m' := 7) (by decide +kernel) rfl
    clear hO10_
    refine g_op (v := Value.bool false) rfl rfl rfl ?_
    obtain ⟨r11, Hr11, H⟩ := bind_get H
    obtain ⟨gd13, H⟩ := ite_get H
    refine g_name ?_
    intro T hT
    refine g_layer (m0 := 7) hO11_ rfl 1023 [3, 4, 5, 6, 7, 8, 9] [0, 1, 3, 7, 15, 7, 7, 127, 7, 263, 1023, 2047, 4095] (by decide +kernel) (fun D t w => ∃ O : Nat → Value, t = [Value.agg (([Value.int .i64 a1.f_lies, Value.map (some b2)] : List Value)).toArray, Value.agg ((encA (encI .i64)) a4).toArray, Value.int .i64 a5, Value.pointer (some ⟨b6, 0, none⟩), Value.pointer (some ⟨b8, 0, none⟩), O 5, Value.bool false, O 7, O 8, O 9, Value.bool false, Value.agg ((encA (encI .i64)) a4).toArray, Value.int .i64 r10, Value.bool false, O 14, Value.int .i64 a5, Value.bool false, Value.bool false, cnd (D 3) (Value.pointer (some ⟨b6, 0, none⟩)) (O 18), cnd (D 4) (Value.int .i64 a1.f_lies) (O 19), cnd (D 5) (Value.agg ((encA (encI .i64)) a4).toArray) (O 20), cnd (D 6) (Value.int .i64 a5) (O 21), cnd (D 7) (Value.int .i64 r11) (O 22), cnd (D 8) (Value.int .i64 a5) (O 23), cnd (D 9) (Value.int .i64 (shlI .i64 1 a5)) (O 24), O 25, O 26, O 27, O 28, O 29, O 30, O 31, O 32, O 33, O 34, O 35, O 36, O 37, O 38, O 39, O 40, O 41, O 42, O 43, O 44, O 45, O 46, O 47, O 48, O 49, O 50] ∧ St wb [Cells b8 ((encA (encI .i64)) a4) 25, Cells b6 (([Value.int .i64 a1.f_lies, Value.map (some b2)] : List Value)) 56, MapAs b2 ek_S_impl_stateLeft Value.bool a1.f_known, Z] w) ?_ ⟨?_, ⟨?_, ⟨?_, ⟨?_, ⟨?_, ⟨?_, ⟨?_, trivial⟩⟩⟩⟩⟩⟩⟩ ?_
    · exact ⟨fun i => T.getD i undef, (by subst hT; rfl), hs⟩
    ·
     intro D t w hD hp hcl hI rest hk
     obtain ⟨O, ht, hs⟩ := hI
     have hp : AllDone D [2] := hp
     obtain ⟨p2_, _⟩ := hp
     have q4_ : D 4 = false := not_yet (show D 4 = true → AllDone D [3, 2] from hcl 4 (by decide)) 0 3 rfl hD
     have q7_ : D 7 = false := not_yet (show D 7 = true → AllDone D [4, 5, 6, 2, 2] from hcl 7 (by decide)) 0 4 rfl q4_
     simp only [hD, q4_, q7_, cnd_t, cnd_f, Asc_t, Asc_f] at ht hs
     subst ht
     refine g_op (v := Value.pointer (some ⟨b6, 0, none⟩)) rfl rfl rfl ?_
     show G _ _ _ _ [_,_,_,_,_,_,_,_,_,_,_,_,_,_,_,_,_,_,_,_,_,_,_,_,_,_,_,_,_,_,_,_,_,_,_,_,_,_,_,_,_,_,_,_,_,_,_,_,_,_,_] _
     exact hk _ _ ⟨O, (by simp only [upd, Nat.reduceBEq, Bool.true_or, Bool.false_or, q4_, q7_, cnd_t, cnd_f, Asc_t, Asc_f]), hs.cast (by first | rfl | simp only [List.take, List.drop, List.cons_append, List.nil_append, List.set_cons_zero, List.set_cons_succ, List.eraseIdx, upd, Nat.reduceBEq, Bool.true_or, Bool.false_or, q4_, q7_, cnd_t, cnd_f, Asc_t, Asc_f])⟩
    ·
     intro D t w hD hp hcl hI rest hk
     obtain ⟨O, ht, hs⟩ := hI
     have hp : AllDone D [3, 2] := hp
     obtain ⟨p3_, p2_, _⟩ := hp
     have q7_ : D 7 = false := not_yet (show D 7 = true → AllDone D [4, 5, 6, 2, 2] from hcl 7 (by decide)) 0 4 rfl hD
     simp only [hD, p3_, q7_, cnd_t, cnd_f, Asc_t, Asc_f] at ht hs
     subst ht
     refine s_load1 rfl rfl (v := Value.int .i64 a1.f_lies) rfl rfl (fun _ => rfl) (cells_load (hs.cells 1 rfl) 0 1 rfl) ?_
     show G _ _ _ _ [_,_,_,_,_,_,_,_,_,_,_,_,_,_,_,_,_,_,_,_,_,_,_,_,_,_,_,_,_,_,_,_,_,_,_,_,_,_,_,_,_,_,_,_,_,_,_,_,_,_,_] _
     exact hk _ _ ⟨O, (by simp only [upd, Nat.reduceBEq, Bool.true_or, Bool.false_or, p3_, q7_, cnd_t, cnd_f, Asc_t, Asc_f]), hs.cast (by first | rfl | simp only [List.take, List.drop, List.cons_append, List.nil_append, List.set_cons_zero, List.set_cons_succ, List.eraseIdx, upd, Nat.reduceBEq, Bool.true_or, Bool.false_or, p3_, q7_, cnd_t, cnd_f, Asc_t, Asc_f])⟩
    ·
     intro D t w hD hp hcl hI rest hk
     obtain ⟨O, ht, hs⟩ := hI
     have hp : AllDone D [2] := hp
     obtain ⟨p2_, _⟩ := hp
     have q7_ : D 7 = false := not_yet (show D 7 = true → AllDone D [4, 5, 6, 2, 2] from hcl 7 (by decide)) 1 5 rfl hD
     simp only [hD, q7_, cnd_t, cnd_f, Asc_t, Asc_f] at ht hs
     subst ht
     refine s_loadA rfl rfl (es := ((encA (encI .i64)) a4)) rfl rfl (fun _ => rfl) (n := 4) (fun _ => rfl) ((fkA (n := 4) (he := (fkI .i64).len) (h1 := (fkI .i64).one)).len _) (cells_all (hs.cells 0 rfl)) ?_
     show G _ _ _ _ [_,_,_,_,_,_,_,_,_,_,_,_,_,_,_,_,_,_,_,_,_,_,_,_,_,_,_,_,_,_,_,_,_,_,_,_,_,_,_,_,_,_,_,_,_,_,_,_,_,_,_] _
     exact hk _ _ ⟨O, (by simp only [upd, Nat.reduceBEq, Bool.true_or, Bool.false_or, q7_, cnd_t, cnd_f, Asc_t, Asc_f]), hs.cast (by first | rfl | simp only [List.take, List.drop, List.cons_append, List.nil_append, List.set_cons_zero, List.set_cons_succ, List.eraseIdx, upd, Nat.reduceBEq, Bool.true_or, Bool.false_or, q7_, cnd_t, cnd_f, Asc_t, Asc_f])⟩
    ·
     intro D t w hD hp hcl hI rest hk
     obtain ⟨O, ht, hs⟩ := hI
     have hp : AllDone D [2] := hp
     obtain ⟨p2_, _⟩ := hp
     have q7_ : D 7 = false := not_yet (show D 7 = true → AllDone D [4, 5, 6, 2, 2] from hcl 7 (by decide)) 2 6 rfl hD
     simp only [hD, q7_, cnd_t, cnd_f, Asc_t, Asc_f] at ht hs
     subst ht
     refine g_op (v := Value.int .i64 a5) rfl rfl rfl ?_
     show G _ _ _ _ [_,_,_,_,_,_,_,_,_,_,_,_,_,_,_,_,_,_,_,_,_,_,_,_,_,_,_,_,_,_,_,_,_,_,_,_,_,_,_,_,_,_,_,_,_,_,_,_,_,_,_] _
     exact hk _ _ ⟨O, (by simp only [upd, Nat.reduceBEq, Bool.true_or, Bool.false_or, q7_, cnd_t, cnd_f, Asc_t, Asc_f]), hs.cast (by first | rfl | simp only [List.take, List.drop, List.cons_append, List.nil_append, List.set_cons_zero, List.set_cons_succ, List.eraseIdx, upd, Nat.reduceBEq, Bool.true_or, Bool.false_or, q7_, cnd_t, cnd_f, Asc_t, Asc_f])⟩
    ·
     intro D t w hD hp hcl hI rest hk
     obtain ⟨O, ht, hs⟩ := hI
     have hp : AllDone D [4, 5, 6, 2, 2] := hp
     obtain ⟨p4_, p5_, p6_, p2_, _, _⟩ := hp
     obtain ⟨p3_, _, _⟩ := (show D 4 = true → AllDone D [3, 2] from hcl 4 (by decide)) p4_
     simp only [hD, p3_, p4_, p5_, p6_, cnd_t, cnd_f, Asc_t, Asc_f] at ht hs
     subst ht
     refine s_call (args := [Value.int .i64 a1.f_lies, Value.agg ((encA (encI .i64)) a4).toArray, Value.int .i64 a5]) rfl rfl (x_call rfl (callFunc_enter Try.func28 rfl rfl) rfl) (impl_weight.calls (a1 := a1.f_lies) (a2 := a4) (a3 := a5) Hr11) ?_
     rintro _ w ⟨rfl, hs2⟩
     have hs : St _ [_,_,_,_] _ := hs.call hs2
     show G _ _ _ _ [_,_,_,_,_,_,_,_,_,_,_,_,_,_,_,_,_,_,_,_,_,_,_,_,_,_,_,_,_,_,_,_,_,_,_,_,_,_,_,_,_,_,_,_,_,_,_,_,_,_,_] _
     exact hk _ _ ⟨O, (by simp only [upd, Nat.reduceBEq, Bool.true_or, Bool.false_or, p3_, p4_, p5_, p6_, cnd_t, cnd_f, Asc_t, Asc_f]), hs.cast (by first | rfl | simp only [List.take, List.drop, List.cons_append, List.nil_append, List.set_cons_zero, List.set_cons_succ, List.eraseIdx, upd, Nat.reduceBEq, Bool.true_or, Bool.false_or, p3_, p4_, p5_, p6_, cnd_t, cnd_f, Asc_t, Asc_f])⟩
    ·
     intro D t w hD hp hcl hI rest hk
     obtain ⟨O, ht, hs⟩ := hI
     have hp : AllDone D [2] := hp
     obtain ⟨p2_, _⟩ := hp
     have q9_ : D 9 = false := not_yet (show D 9 = true → AllDone D [8, 2] from hcl 9 (by decide)) 0 8 rfl hD
     simp only [hD, q9_, cnd_t, cnd_f, Asc_t, Asc_f] at ht hs
     subst ht
     refine g_op (v := Value.int .i64 a5) rfl rfl rfl ?_
     show G _ _ _ _ [_,_,_,_,_,_,_,_,_,_,_,_,_,_,_,_,_,_,_,_,_,_,_,_,_,_,_,_,_,_,_,_,_,_,_,_,_,_,_,_,_,_,_,_,_,_,_,_,_,_,_] _
     exact hk _ _ ⟨O, (by simp only [upd, Nat.reduceBEq, Bool.true_or, Bool.false_or, q9_, cnd_t, cnd_f, Asc_t, Asc_f]), hs.cast (by first | rfl | simp only [List.take, List.drop, List.cons_append, List.nil_append, List.set_cons_zero, List.set_cons_succ, List.eraseIdx, upd, Nat.reduceBEq, Bool.true_or, Bool.false_or, q9_, cnd_t, cnd_f, Asc_t, Asc_f])⟩
    ·
     intro D t w hD hp hcl hI rest hk
     obtain ⟨O, ht, hs⟩ := hI
     have hp : AllDone D [8, 2] := hp
     obtain ⟨p8_, p2_, _⟩ := hp
     simp only [hD, p8_, cnd_t, cnd_f, Asc_t, Asc_f] at ht hs
     subst ht
     refine g_op (v := Value.int .i64 (shlI .i64 1 a5)) rfl rfl (x_shl rfl rfl rfl gd13) ?_
     show G _ _ _ _ [_,_,_,_,_,_,_,_,_,_,_,_,_,_,_,_,_,_,_,_,_,_,_,_,_,_,_,_,_,_,_,_,_,_,_,_,_,_,_,_,_,_,_,_,_,_,_,_,_,_,_] _
     exact hk _ _ ⟨O, (by simp only [upd, Nat.reduceBEq, Bool.true_or, Bool.false_or, p8_, cnd_t, cnd_f, Asc_t, Asc_f]), hs.cast (by first | rfl | simp only [List.take, List.drop, List.cons_append, List.nil_append, List.set_cons_zero, List.set_cons_succ, List.eraseIdx, upd, Nat.reduceBEq, Bool.true_or, Bool.false_or, p8_, cnd_t, cnd_f, Asc_t, Asc_f])⟩
    ·
     intro D t w rest hall hO12_ hI
     obtain ⟨O, ht, hs⟩ := hI
     have p3_ : D 3 = true := hall 3 (by decide) rfl
     have p4_ : D 4 = true := hall 4 (by decide) rfl
     have p5_ : D 5 = true := hall 5 (by decide) rfl
     have p6_ : D 6 = true := hall 6 (by decide) rfl
     have p7_ : D 7 = true := hall 7 (by decide) rfl
     have p8_ : D 8 = true := hall 8 (by decide) rfl
     have p9_ : D 9 = true := hall 9 (by decide) rfl
     simp only [p3_, p4_, p5_, p6_, p7_, p8_, p9_, cnd_t, cnd_f, Asc_t, Asc_f] at ht hs
     subst ht
     obtain ⟨rest, rfl, hO14_⟩ := ord_one (m := 1023) hO12_ rfl 10 (m' := 2047) (by decide +kernel) rfl
     clear hO12_
     refine g_op (v := Value.bool (decide (r11 > (shlI .i64 1 a5)))) rfl rfl rfl ?_
     obtain ⟨rest, rfl, hO15_⟩ := ord_one (m := 2047) hO14_ rfl 11 (m' := 4095) (by decide +kernel) rfl
     clear hO14_
     refine g_op_b (B := decide (r11 > (shlI .i64 1 a5))) rfl rfl rfl ?_ ?_
     ·
      intro hb
      rw [if_pos (b_dec_t hb)] at H
      obtain ⟨rest, rfl, hO16_⟩ := ord_one (m := 4095) hO15_ rfl 12 (m' := 8191) (by decide +kernel) rfl
      clear hO15_
      refine g_op (v := Value.bool true) rfl rfl rfl ?_
      obtain rfl := ord_end hO16_ rfl (by decide +kernel)
      refine g_ops_nil ?_
      refine g_cond_true rfl ?_
      refine g_seq ?_
      refine g_region ?_
      show G _ _ _ (.inRegion _ [0] :: _) _ _
      refine g_op (v := Value.bool false) rfl rfl rfl ?_
      show G _ _ _ _ [_,_,_,_,_,_,_,_,_,_,_,_,_,_,_,_,_,_,_,_,_,_,_,_,_,_,_,_,_,_,_,_,_,_,_,_,_,_,_,_,_,_,_,_,_,_,_,_,_,_,_] _
      refine g_ops_nil ?_
      obtain rfl := Option.some.inj H
      refine g_ret Try.func33 (v := Value.bool false) (res1 rfl rfl) ?_
      have hs := hs.pull 3 rfl
      have hs := hs.pull 3 rfl
      have hs : St _ [_,_] _ := St.take (Γ' := [_,_]) hs
      exact ⟨_, rfl, rfl, hs⟩
     ·
      intro hb
      rw [if_neg (b_dec_f hb)] at H
      obtain ⟨rest, rfl, hO17_⟩ := ord_one (m := 4095) hO15_ rfl 12 (m' := 8191) (by decide +kernel) rfl
      clear hO15_
      refine g_op (v := Value.bool false) rfl rfl rfl ?_
      show G _ _ _ _ [_,_,_,_,_,_,_,_,_,_,_,_,_,_,_,_,_,_,_,_,_,_,_,_,_,_,_,_,_,_,_,_,_,_,_,_,_,_,_,_,_,_,_,_,_,_,_,_,_,_,_] _
      obtain rfl := ord_end hO17_ rfl (by decide +kernel)
      refine g_ops_nil ?_
      refine g_cond_false rfl ?_
      refine g_skip ?_
      refine g_inBlock ?_
      refine g_seq ?_
      refine g_region ?_
      show G _ _ _ (.inRegion _ [0, 1, 2, 3, 4] :: _) _ _
      refine s_loadA rfl rfl (es := ((encA (encI .i64)) a4)) rfl rfl (fun _ => rfl) (n := 4) (fun _ => rfl) ((fkA (n := 4) (he := (fkI .i64).len) (h1 := (fkI .i64).one)).len _) (cells_all (hs.cells 0 rfl)) ?_
      refine g_op (v := Value.int .i64 a5) rfl rfl rfl ?_
      refine g_op (v := Value.agg (enc_S_impl_stateLeft (⟨a4, a5⟩ : S_impl_stateLeft)).toArray) rfl rfl (x_buildS (cs := (enc_S_impl_stateLeft (⟨a4, a5⟩ : S_impl_stateLeft))) (segs := [[Value.int .i64 0, Value.int .i64 0, Value.int .i64 0, Value.int .i64 0], [Value.int .i64 0]]) rfl rfl (fun _ => rfl) ⟨rfl, (fun _ => rfl), rfl, (fun _ => rfl), trivial⟩ (by simp only [List.map_cons, List.map_nil, List.forall_mem_cons, List.not_mem_nil, false_implies, implies_true, and_true]; exact ⟨⟨_, rfl, (fkA (n := 4) (he := (fkI .i64).len) (h1 := (fkI .i64).one)).len _⟩, ⟨_, rfl, rfl⟩⟩) (by first | rfl | (simp [ev, enc_S_impl_stateLeft]; done) | (simp [ev, enc_S_impl_stateLeft]; rfl))) ?_
      refine s_alloc hs rfl rfl (z := (Value.agg #[Value.int .i64 0, Value.int .i64 0, Value.int .i64 0, Value.int .i64 0, Value.int .i64 0])) (cs := (enc_S_impl_stateLeft z_S_impl_stateLeft)) rfl (fun _ => rfl) rfl ?_
      intro b12 w hs
      show G _ _ _ _ [_,_,_,_,_,_,_,_,_,_,_,_,_,_,_,_,_,_,_,_,_,_,_,_,_,_,_,_,_,_,_,_,_,_,_,_,_,_,_,_,_,_,_,_,_,_,_,_,_,_,_] _
      refine s_storeAll (n := 5) hs (fk_S_impl_stateLeft.len _) rfl rfl (vs := (enc_S_impl_stateLeft (⟨a4, a5⟩ : S_impl_stateLeft))) rfl rfl rfl (fun _ => rfl) (fk_S_impl_stateLeft.len _) (fk_S_impl_stateLeft.one _) ?_
      intro w hs
      refine g_ops_nil ?_
      refine g_seq ?_
      refine g_region ?_
      show G _ _ _ (.inRegion _ [0, 1, 2, 3, 4, 5, 6, 7, 8] :: _) _ _
      refine g_op (v := Value.pointer (some ⟨b6, 1, none⟩)) rfl rfl rfl ?_
      refine s_load1 rfl rfl (v := Value.map (some b2)) rfl rfl (fun _ => rfl) (cells_load (hs.cells 2 rfl) 1 1 rfl) ?_
      refine s_loadA rfl rfl (es := (enc_S_impl_stateLeft (⟨a4, a5⟩ : S_impl_stateLeft))) rfl rfl (fun _ => rfl) (n := 5) (fun _ => rfl) (fk_S_impl_stateLeft.len _) (cells_all (hs.cells 0 rfl)) ?_
      refine g_op (v := Value.tuple #[Value.bool (mGet a1.f_known (⟨a4, a5⟩ : S_impl_stateLeft) false), Value.bool (mIdx a1.f_known (⟨a4, a5⟩ : S_impl_stateLeft)).isSome]) rfl rfl (x_lookupOk key_S_impl_stateLeft_69 (a := (⟨a4, a5⟩ : S_impl_stateLeft)) (z := false) (hs.mp 3 rfl) rfl Try.underlying54 rfl rfl (fun _ => rfl)) ?_
      show G _ _ _ _ [_,_,_,_,_,_,_,_,_,_,_,_,_,_,_,_,_,_,_,_,_,_,_,_,_,_,_,_,_,_,_,_,_,_,_,_,_,_,_,_,_,_,_,_,_,_,_,_,_,_,_] _
      refine g_op (v := Value.tuple #[Value.bool (mGet a1.f_known (⟨a4, a5⟩ : S_impl_stateLeft) false), Value.bool (mIdx a1.f_known (⟨a4, a5⟩ : S_impl_stateLeft)).isSome]) rfl rfl rfl ?_
      refine g_op (v := Value.bool (mGet a1.f_known (⟨a4, a5⟩ : S_impl_stateLeft) false)) rfl rfl rfl ?_
      refine g_op (v := Value.bool (mIdx a1.f_known (⟨a4, a5⟩ : S_impl_stateLeft)).isSome) rfl rfl rfl ?_
      refine g_op (v := Value.bool (mGet a1.f_known (⟨a4, a5⟩ : S_impl_stateLeft) false)) rfl rfl rfl ?_
      refine g_op (v := Value.bool (mIdx a1.f_known (⟨a4, a5⟩ : S_impl_stateLeft)).isSome) rfl rfl rfl ?_
      refine g_ops_nil ?_
      refine g_seq ?_
      refine g_seq ?_
      refine g_region ?_
      show G _ _ _ (.inRegion _ [0, 1] :: _) _ _
      refine g_op_b (B := (mIdx a1.f_known (⟨a4, a5⟩ : S_impl_stateLeft)).isSome) rfl rfl rfl ?_ ?_
      ·
       intro hb
       rw [if_pos (b_var_t hb)] at H
       refine g_op (v := Value.bool false) rfl rfl rfl ?_
       show G _ _ _ _ [_,_,_,_,_,_,_,_,_,_,_,_,_,_,_,_,_,_,_,_,_,_,_,_,_,_,_,_,_,_,_,_,_,_,_,_,_,_,_,_,_,_,_,_,_,_,_,_,_,_,_] _
       refine g_ops_nil ?_
       refine g_cond_false rfl ?_
       refine g_skip ?_
       refine g_seq ?_
       refine g_region ?_
       show G _ _ _ (.inRegion _ [0, 1] :: _) _ _
       refine g_op (v := Value.bool (mGet a1.f_known (⟨a4, a5⟩ : S_impl_stateLeft) false)) rfl rfl rfl ?_
       refine g_op (v := Value.bool (mGet a1.f_known (⟨a4, a5⟩ : S_impl_stateLeft) false)) rfl rfl rfl ?_
       refine g_ops_nil ?_
       obtain rfl := Option.some.inj H
       refine g_ret Try.func33 (v := Value.bool (mGet a1.f_known (⟨a4, a5⟩ : S_impl_stateLeft) false)) (res1 rfl rfl) ?_
       have hs := hs.pull 4 rfl
       have hs := hs.pull 4 rfl
       have hs : St _ [_,_] _ := St.take (Γ' := [_,_,_]) hs
       exact ⟨_, rfl, rfl, hs⟩
      ·
       intro hb
       rw [if_neg (b_var_f hb)] at H
       refine g_op (v := Value.bool true) rfl rfl rfl ?_
       show G _ _ _ _ [_,_,_,_,_,_,_,_,_,_,_,_,_,_,_,_,_,_,_,_,_,_,_,_,_,_,_,_,_,_,_,_,_,_,_,_,_,_,_,_,_,_,_,_,_,_,_,_,_,_,_] _
       refine g_ops_nil ?_
       refine g_cond_true rfl ?_
       refine g_seq ?_
       refine g_region ?_
       show G _ _ _ (.inRegion _ [0, 1, 2, 3, 4, 5, 6, 7] :: _) _ _
       refine s_loadA rfl rfl (es := (([Value.int .i64 a1.f_lies, Value.map (some b2)] : List Value))) rfl rfl (fun _ => rfl) (n := 2) (fun _ => rfl) rfl (cells_all (hs.cells 2 rfl)) ?_
       refine s_loadA rfl rfl (es := ((encA (encI .i64)) a4)) rfl rfl (fun _ => rfl) (n := 4) (fun _ => rfl) ((fkA (n := 4) (he := (fkI .i64).len) (h1 := (fkI .i64).one)).len _) (cells_all (hs.cells 1 rfl)) ?_
       refine g_op (v := Value.int .i64 a5) rfl rfl rfl ?_
       obtain ⟨r14, Hr14, H⟩ := bind_get H
       have hs := hs.pull 3 rfl
       have hs : St _ [_,_,_,_,_] _ := hs
       have hs := hs.pack 1
       refine s_call (args := [Value.agg (([Value.int .i64 a1.f_lies, Value.map (some b2)] : List Value)).toArray, Value.agg ((encA (encI .i64)) a4).toArray, Value.int .i64 a5]) rfl rfl (x_call rfl (callFunc_enter Try.func36 rfl rfl) rfl) (_impl_searcher_ask.calls ih (a1 := (⟨a1.f_lies, a1.f_known⟩ : S_impl_searcher)) (a4 := a4) (a5 := a5) hs Hr14) ?_
       rintro _ w ⟨rfl, hs⟩
       have hs := St.unpack (Γ := [_]) hs
       have hs : St _ [_,_,_,_,_] _ := hs
       show G _ _ _ _ [_,_,_,_,_,_,_,_,_,_,_,_,_,_,_,_,_,_,_,_,_,_,_,_,_,_,_,_,_,_,_,_,_,_,_,_,_,_,_,_,_,_,_,_,_,_,_,_,_,_,_] _
       refine g_op (v := Value.tuple #[Value.agg ((encA (encI .i64)) r14.1).toArray, Value.bool r14.2.1]) rfl rfl rfl ?_
       refine g_op (v := Value.agg ((encA (encI .i64)) r14.1).toArray) rfl rfl rfl ?_
       refine g_op (v := Value.bool r14.2.1) rfl rfl rfl ?_
       refine g_op (v := Value.bool r14.2.1) rfl rfl rfl ?_
       refine g_ops_nil ?_
       refine g_region ?_
       show G _ _ _ (.inRegion _ [0, 1, 2, 3, 4] :: _) _ _
       refine g_op (v := Value.pointer (some ⟨b6, 1, none⟩)) rfl rfl rfl ?_
       refine s_load1 rfl rfl (v := Value.map (some b2)) rfl rfl (fun _ => rfl) (cells_load (hs.cells 3 rfl) 1 1 rfl) ?_
       refine s_loadA rfl rfl (es := (enc_S_impl_stateLeft (⟨a4, a5⟩ : S_impl_stateLeft))) rfl rfl (fun _ => rfl) (n := 5) (fun _ => rfl) (fk_S_impl_stateLeft.len _) (cells_all (hs.cells 1 rfl)) ?_
       show G _ _ _ _ [_,_,_,_,_,_,_,_,_,_,_,_,_,_,_,_,_,_,_,_,_,_,_,_,_,_,_,_,_,_,_,_,_,_,_,_,_,_,_,_,_,_,_,_,_,_,_,_,_,_,_] _
       refine g_op (v := Value.bool r14.2.1) rfl rfl rfl ?_
       refine s_mapSet key_S_impl_stateLeft_69 (a := (⟨a4, a5⟩ : S_impl_stateLeft)) (v := r14.2.1) hs rfl rfl (.inl rfl) Try.underlying54 rfl rfl rfl ?_
       intro w hs
       refine g_ops_nil ?_
       refine g_seq ?_
       refine g_region ?_
       show G _ _ _ (.inRegion _ [0, 1] :: _) _ _
       refine g_op (v := Value.bool r14.2.1) rfl rfl rfl ?_
       refine g_op (v := Value.bool r14.2.1) rfl rfl rfl ?_
       refine g_ops_nil ?_
       obtain rfl := Option.some.inj H
       refine g_ret Try.func33 (v := Value.bool r14.2.1) (res1 rfl rfl) ?_
       have hs := hs.pull 4 rfl
       have hs := hs.pull 1 rfl
       have hs : St _ [_,_] _ := St.take (Γ' := [_,_,_]) hs
       exact ⟨_, rfl, rfl, hs⟩
theorem _impl_searcher_can.rec {N : Nat} : ∀ (k : Nat) (a1 : S_impl_searcher) (a4 : (Ar Int 4)) (a5 : Int) (b2 : Nat) (wb : World) (Z : As) (w0 : World) (r : (Bool × (List (S_impl_stateLeft × Bool)))) (hs : St wb [MapAs b2 ek_S_impl_stateLeft Value.bool a1.f_known, Z] w0) (H : _impl_searcher_can.g N k a1 a4 a5 = some r), Calls Try.prog 33 #[Value.agg (([Value.int .i64 a1.f_lies, Value.map (some b2)] : List Value)).toArray, Value.agg ((encA (encI .i64)) a4).toArray, Value.int .i64 a5] w0 fun e w => ∃ v, e = .returned v ∧ _impl_searcher_can.post wb Z b2 r v w
  | 0, a1, a4, a5, b2, wb, Z, w0, r, hs, H => by cases H
  | k + 1, a1, a4, a5, b2, wb, Z, w0, r, hs, H => _impl_searcher_can.step (fun a1 a4 a5 b2 wb Z w0 r hs H => _impl_searcher_can.rec k a1 a4 a5 b2 wb Z w0 r hs H) a1 a4 a5 b2 wb Z w0 r hs H
theorem _impl_searcher_can.ih {N : Nat} : ∀ (a1 : S_impl_searcher) (a4 : (Ar Int 4)) (a5 : Int) (b2 : Nat) (wb : World) (Z : As) (w0 : World) (r : (Bool × (List (S_impl_stateLeft × Bool)))) (hs : St wb [MapAs b2 ek_S_impl_stateLeft Value.bool a1.f_known, Z] w0), _impl_searcher_can.f N a1 a4 a5 = some r → Calls Try.prog 33 #[Value.agg (([Value.int .i64 a1.f_lies, Value.map (some b2)] : List Value)).toArray, Value.agg ((encA (encI .i64)) a4).toArray, Value.int .i64 a5] w0 fun e w => ∃ v, e = .returned v ∧ _impl_searcher_can.post wb Z b2 r v w := fun a1 a4 a5 b2 wb Z w0 r hs H => _impl_searcher_can.rec N a1 a4 a5 b2 wb Z w0 r hs H
theorem _impl_searcher_can.calls {N : Nat} {a1 : S_impl_searcher} {a4 : (Ar Int 4)} {a5 : Int} {b2 : Nat} {wb : World} {Z : As} {w0 : World} {r : (Bool × (List (S_impl_stateLeft × Bool)))} (hs : St wb [MapAs b2 ek_S_impl_stateLeft Value.bool a1.f_known, Z] w0) (H : _impl_searcher_can.f N a1 a4 a5 = some r) :
    Calls Try.prog 33 #[Value.agg (([Value.int .i64 a1.f_lies, Value.map (some b2)] : List Value)).toArray, Value.agg ((encA (encI .i64)) a4).toArray, Value.int .i64 a5] w0 fun e w => ∃ v, e = .returned v ∧ _impl_searcher_can.post wb Z b2 r v w := _impl_searcher_can.rec N a1 a4 a5 b2 wb Z w0 r hs H

/- function 15 impl_LeastQuestions -/
def impl_LeastQuestions.post (w0 : World) (r : (Int × Int)) (v : Value) (w : World) : Prop := v = Value.tuple #[Value.int .i64 r.1, Value.int .i64 r.2] ∧ St w0 [] w
set_option maxHeartbeats 8000000 in
set_option maxRecDepth 100000 in
theorem impl_LeastQuestions.calls {N : Nat} {a1 : Int} {a2 : (Ar Int 4)} {w0 : World} {r : (Int × Int)} (H : impl_LeastQuestions.f N a1 a2 = some r) :
    Calls Try.prog 15 #[Value.int .i64 a1, Value.agg ((encA (encI .i64)) a2).toArray] w0 fun e w => ∃ v, e = .returned v ∧ impl_LeastQuestions.post w0 r v w := by
  unfold impl_LeastQuestions.f at H
  have hs : St w0 [] w0 := St.refl w0
  refine calls_of_g (n := 25) Try.func15 rfl rfl ?_
  show G _ _ _ _ [_,_,_,_,_,_,_,_,_,_,_,_,_,_,_,_,_,_,_,_,_,_,_,_,_,_,_] _
  refine g_seq ?_
  refine g_region ?_
  show G _ _ _ (.inRegion _ [0, 1, 2] :: _) _ _
  refine s_box hs rfl rfl (cs := ((encA (encI .i64)) a2)) rfl rfl ?_
  intro b3 w hs
  show G _ _ _ _ [_,_,_,_,_,_,_,_,_,_,_,_,_,_,_,_,_,_,_,_,_,_,_,_,_,_,_] _
  refine g_op (v := Value.int .i64 0) rfl rfl rfl ?_
  show G _ _ _ _ [_,_,_,_,_,_,_,_,_,_,_,_,_,_,_,_,_,_,_,_,_,_,_,_,_,_,_] _
  refine g_op (v := Value.int .i64 0) rfl rfl rfl ?_
  show G _ _ _ _ [_,_,_,_,_,_,_,_,_,_,_,_,_,_,_,_,_,_,_,_,_,_,_,_,_,_,_] _
  refine g_ops_nil ?_
  refine g_seq ?_
  refine g_seq ?_
  refine g_region ?_
  show G _ _ _ (.inRegion _ [0, 1, 2, 3] :: _) _ _
  refine g_op (v := Value.int .i64 a1) rfl rfl rfl ?_
  refine s_loadA rfl rfl (es := ((encA (encI .i64)) a2)) rfl rfl (fun _ => rfl) (n := 4) (fun _ => rfl) ((fkA (n := 4) (he := (fkI .i64).len) (h1 := (fkI .i64).one)).len _) (cells_all (hs.cells 0 rfl)) ?_
  show G _ _ _ _ [_,_,_,_,_,_,_,_,_,_,_,_,_,_,_,_,_,_,_,_,_,_,_,_,_,_,_] _
  obtain ⟨r5, Hr5, H⟩ := bind_get H
  refine s_call (args := [Value.int .i64 a1, Value.agg ((encA (encI .i64)) a2).toArray, Value.int .i64 0]) rfl rfl (x_call rfl (callFunc_enter Try.func32 rfl rfl) rfl) (impl_exactCode.calls (a1 := a1) (a2 := a2) (a3 := 0) Hr5) ?_
  rintro _ w ⟨rfl, hs2⟩
  have hs : St _ [_] _ := hs.call hs2
  show G _ _ _ _ [_,_,_,_,_,_,_,_,_,_,_,_,_,_,_,_,_,_,_,_,_,_,_,_,_,_,_] _
  refine g_op (v := Value.int .i64 r5) rfl rfl rfl ?_
  show G _ _ _ _ [_,_,_,_,_,_,_,_,_,_,_,_,_,_,_,_,_,_,_,_,_,_,_,_,_,_,_] _
  refine g_ops_nil ?_
  refine g_seq ?_
  refine g_region ?_
  show G _ _ _ (.inRegion _ [0, 1] :: _) _ _
  refine g_op (v := Value.int .i64 r5) rfl rfl rfl ?_
  refine g_op_b (B := r5 != 0) rfl rfl rfl ?_ ?_
  ·
   intro hb
   rw [if_neg (b_bne_t hb)] at H
   show G _ _ _ _ [_,_,_,_,_,_,_,_,_,_,_,_,_,_,_,_,_,_,_,_,_,_,_,_,_,_,_] _
   refine g_ops_nil ?_
   refine g_cond_true rfl ?_
   refine g_seq ?_
   refine g_region ?_
   show G _ _ _ (.inRegion _ [0, 1, 2] :: _) _ _
   refine g_op (v := Value.int .i64 r5) rfl rfl rfl ?_
   refine g_op (v := Value.int .i64 0) rfl rfl rfl ?_
   show G _ _ _ _ [_,_,_,_,_,_,_,_,_,_,_,_,_,_,_,_,_,_,_,_,_,_,_,_,_,_,_] _
   refine g_op (v := Value.int .i64 r5) rfl rfl rfl ?_
   show G _ _ _ _ [_,_,_,_,_,_,_,_,_,_,_,_,_,_,_,_,_,_,_,_,_,_,_,_,_,_,_] _
   refine g_ops_nil ?_
   obtain rfl := Option.some.inj H
   refine g_ret Try.func15 (v := Value.tuple #[Value.int .i64 0, Value.int .i64 r5]) (resN (l := Try.f15.results.toList) (vs := [Value.int .i64 0, Value.int .i64 r5]) rfl ⟨rfl, rfl, trivial⟩ (by simp)) ?_
   have hs : St _ [] _ := St.take (Γ' := [_]) hs
   exact ⟨_, rfl, rfl, hs⟩
  ·
   intro hb
   rw [if_pos (b_bne_f hb)] at H
   show G _ _ _ _ [_,_,_,_,_,_,_,_,_,_,_,_,_,_,_,_,_,_,_,_,_,_,_,_,_,_,_] _
   refine g_ops_nil ?_
   refine g_cond_false rfl ?_
   refine g_skip ?_
   refine g_seq ?_
   refine g_region ?_
   show G _ _ _ (.inRegion _ [0, 1, 2, 3, 4] :: _) _ _
   refine g_op (v := Value.int .i64 a1) rfl rfl rfl ?_
   refine s_makeMap (ek := ek_S_impl_stateLeft) (en := Value.bool) hs rfl rfl rfl ?_
   intro b6 w hs
   show G _ _ _ _ [_,_,_,_,_,_,_,_,_,_,_,_,_,_,_,_,_,_,_,_,_,_,_,_,_,_,_] _
   refine g_op (v := Value.agg (([Value.int .i64 a1, Value.map (some b6)] : List Value)).toArray) rfl rfl (x_buildS (cs := (([Value.int .i64 a1, Value.map (some b6)] : List Value))) (segs := [[Value.int .i64 0], [Value.map none]]) rfl rfl (fun _ => rfl) ⟨rfl, (fun _ => rfl), rfl, (fun _ => rfl), trivial⟩ (by simp only [List.map_cons, List.map_nil, List.forall_mem_cons, List.not_mem_nil, false_implies, implies_true, and_true]; exact ⟨⟨_, rfl, rfl⟩, ⟨_, rfl, rfl⟩⟩) (by first | rfl | (simp [ev, encA]; done) | (simp [ev, encA]; rfl))) ?_
   show G _ _ _ _ [_,_,_,_,_,_,_,_,_,_,_,_,_,_,_,_,_,_,_,_,_,_,_,_,_,_,_] _
   refine s_alloc hs rfl rfl (z := (Value.agg #[Value.int .i64 0, Value.map none])) (cs := (([Value.int .i64 0, Value.map none] : List Value))) rfl (fun _ => rfl) rfl ?_
   intro b8 w hs
   show G _ _ _ _ [_,_,_,_,_,_,_,_,_,_,_,_,_,_,_,_,_,_,_,_,_,_,_,_,_,_,_] _
   refine s_storeAll (n := 2) hs rfl rfl rfl (vs := (([Value.int .i64 a1, Value.map (some b6)] : List Value))) rfl rfl rfl (fun _ => rfl) rfl (by simp [Value.oneCell']) ?_
   intro w hs
   refine g_ops_nil ?_
   refine g_seq ?_
   refine g_seq ?_
   refine g_region ?_
   show G _ _ _ (.inRegion _ [0] :: _) _ _
   refine g_op (v := Value.int .i64 0) rfl rfl rfl ?_
   refine g_ops_nil ?_
   obtain ⟨o1_, Ho, Hr1_⟩ := bind_get H
   refine g_block_join (J := fun t w => impl_LeastQuestions.a0 N = some r ∧ Fr t (fun O => ([O 0, O 1, O 2, O 3, O 4, O 5, O 6, O 7, O 8, O 9, O 10, O 11, O 12, O 13, O 14, O 15, O 16, O 17, O 18, O 19, O 20, O 21, O 22, O 23, O 24, O 25, O 26] : List Value)) ∧ St w0 [] w) ?_ ?_
   ·
    rintro t w ⟨H, hf, hs⟩
    obtain ⟨O, rfl⟩ := hf.open
    show G _ _ _ _ [_,_,_,_,_,_,_,_,_,_,_,_,_,_,_,_,_,_,_,_,_,_,_,_,_,_,_] _
    unfold impl_LeastQuestions.a0 at H
    refine g_seq ?_
    refine g_region ?_
    show G _ _ _ (.inRegion _ [0, 1] :: _) _ _
    refine g_op (v := Value.int .i64 0) rfl rfl rfl ?_
    show G _ _ _ _ [_,_,_,_,_,_,_,_,_,_,_,_,_,_,_,_,_,_,_,_,_,_,_,_,_,_,_] _
    refine g_op (v := Value.int .i64 6) rfl rfl rfl ?_
    show G _ _ _ _ [_,_,_,_,_,_,_,_,_,_,_,_,_,_,_,_,_,_,_,_,_,_,_,_,_,_,_] _
    refine g_ops_nil ?_
    obtain rfl := Option.some.inj H
    refine g_ret Try.func15 (v := Value.tuple #[Value.int .i64 0, Value.int .i64 6]) (resN (l := Try.f15.results.toList) (vs := [Value.int .i64 0, Value.int .i64 6]) rfl ⟨rfl, rfl, trivial⟩ (by simp)) ?_
    have hs : St _ [] _ := St.take (Γ' := []) hs
    exact ⟨_, rfl, rfl, hs⟩
   ·
    intro ha1_
    have hs := hs.pull 0 rfl
    have hs := hs.pull 1 rfl
    have hs := hs.pull 2 rfl
    have hs : St _ [_,_,_] _ := St.take (Γ' := []) hs
    refine g_loop_fuel (I := fun n_ t w => ∃ x12 : (List (S_impl_stateLeft × Bool)), ∃ x13 : Int, rounds (fun s => impl_LeastQuestions.b0 N a1 a2 s.1 s.2) n_ (x12, x13) = some o1_ ∧ Fr t (fun O => ([O 0, O 1, O 2, Value.pointer (some ⟨b3, 0, none⟩), O 4, O 5, O 6, Value.pointer (some ⟨b8, 0, none⟩), O 8, O 9, O 10, O 11, O 12, O 13, O 14, O 15, O 16, O 17, Value.int .i64 x13, O 19, O 20, O 21, O 22, O 23, O 24, O 25, O 26] : List Value)) ∧ St w0 [Cells b3 ((encA (encI .i64)) a2) 25, MapAs b6 ek_S_impl_stateLeft Value.bool x12, Cells b8 (([Value.int .i64 a1, Value.map (some b6)] : List Value)) 56] w) N ⟨([] : (List (S_impl_stateLeft × Bool))), 0, Ho, rfl, hs⟩ ?_ ?_
    ·
     rintro _ _ ⟨x12, x13, h, _⟩
     exact rounds_zero h
    ·
     intro n_ ih1_
     rintro t w ⟨x12, x13, Ho, hf, hs⟩
     obtain ⟨O, rfl⟩ := hf.open
     show G _ _ _ _ [_,_,_,_,_,_,_,_,_,_,_,_,_,_,_,_,_,_,_,_,_,_,_,_,_,_,_] _
     obtain ⟨x3_, H, Hx1_⟩ := rounds_succ Ho
     have H : impl_LeastQuestions.b0 N a1 a2 x12 x13 = some x3_ := H
     unfold impl_LeastQuestions.b0 at H
     refine g_seq ?_
     refine g_region ?_
     show G _ _ _ (.inRegion _ [0] :: _) _ _
     refine g_op_b (B := decide (x13 < 21)) rfl rfl rfl ?_ ?_
     ·
      intro hb
      rw [if_pos (b_dec_t hb)] at H
      show G _ _ _ _ [_,_,_,_,_,_,_,_,_,_,_,_,_,_,_,_,_,_,_,_,_,_,_,_,_,_,_] _
      refine g_ops_nil ?_
      refine g_seq ?_
      refine g_cond_true rfl ?_
      refine g_skip ?_
      refine g_seq ?_
      refine g_block ?_
      refine g_seq ?_
      refine g_region ?_
      show G _ _ _ (.inRegion _ [0, 1] :: _) _ _
      refine g_op (v := Value.int .i64 x13) rfl rfl rfl ?_
      refine g_op (v := Value.int .i64 x13) rfl rfl rfl ?_
      show G _ _ _ _ [_,_,_,_,_,_,_,_,_,_,_,_,_,_,_,_,_,_,_,_,_,_,_,_,_,_,_] _
      refine g_ops_nil ?_
      refine g_seq ?_
      refine g_region ?_
      show G _ _ _ (.inRegion _ [0, 1, 2, 3] :: _) _ _
      refine s_loadA rfl rfl (es := (([Value.int .i64 a1, Value.map (some b6)] : List Value))) rfl rfl (fun _ => rfl) (n := 2) (fun _ => rfl) rfl (cells_all (hs.cells 2 rfl)) ?_
      show G _ _ _ _ [_,_,_,_,_,_,_,_,_,_,_,_,_,_,_,_,_,_,_,_,_,_,_,_,_,_,_] _
      refine s_loadA rfl rfl (es := ((encA (encI .i64)) a2)) rfl rfl (fun _ => rfl) (n := 4) (fun _ => rfl) ((fkA (n := 4) (he := (fkI .i64).len) (h1 := (fkI .i64).one)).len _) (cells_all (hs.cells 0 rfl)) ?_
      show G _ _ _ _ [_,_,_,_,_,_,_,_,_,_,_,_,_,_,_,_,_,_,_,_,_,_,_,_,_,_,_] _
      refine g_op (v := Value.int .i64 x13) rfl rfl rfl ?_
      obtain ⟨r14, Hr14, H⟩ := bind_get H
      have hs := hs.pull 1 rfl
      have hs : St _ [_,_,_] _ := hs
      have hs := hs.pack 1
      refine s_call (args := [Value.agg (([Value.int .i64 a1, Value.map (some b6)] : List Value)).toArray, Value.agg ((encA (encI .i64)) a2).toArray, Value.int .i64 x13]) rfl rfl (x_call rfl (callFunc_enter Try.func33 rfl rfl) rfl) (_impl_searcher_can.calls (a1 := (⟨a1, x12⟩ : S_impl_searcher)) (a4 := a2) (a5 := x13) hs Hr14) ?_
      rintro _ w ⟨rfl, hs⟩
      have hs := St.unpack (Γ := [_]) hs
      have hs : St _ [_,_,_] _ := hs
      generalize hb2_ : r14.1 = b_ at H ⊢
      cases b_ with
      | true =>
        rw [if_pos rfl] at H
        show G _ _ _ _ [_,_,_,_,_,_,_,_,_,_,_,_,_,_,_,_,_,_,_,_,_,_,_,_,_,_,_] _
        refine g_ops_nil ?_
        refine g_cond_true rfl ?_
        refine g_seq ?_
        refine g_region ?_
        show G _ _ _ (.inRegion _ [0, 1, 2] :: _) _ _
        refine g_op (v := Value.int .i64 x13) rfl rfl rfl ?_
        refine g_op (v := Value.int .i64 x13) rfl rfl rfl ?_
        show G _ _ _ _ [_,_,_,_,_,_,_,_,_,_,_,_,_,_,_,_,_,_,_,_,_,_,_,_,_,_,_] _
        refine g_op (v := Value.int .i64 0) rfl rfl rfl ?_
        show G _ _ _ _ [_,_,_,_,_,_,_,_,_,_,_,_,_,_,_,_,_,_,_,_,_,_,_,_,_,_,_] _
        refine g_ops_nil ?_
        obtain rfl := Option.some.inj H
        subst Hx1_
        have H := Option.some.inj Hr1_
        subst H
        refine g_ret Try.func15 (v := Value.tuple #[Value.int .i64 x13, Value.int .i64 0]) (resN (l := Try.f15.results.toList) (vs := [Value.int .i64 x13, Value.int .i64 0]) rfl ⟨rfl, rfl, trivial⟩ (by simp)) ?_
        have hs : St _ [] _ := St.take (Γ' := [_,_,_]) hs
        exact ⟨_, rfl, rfl, hs⟩
      | false =>
        rw [if_neg Bool.false_ne_true] at H
        show G _ _ _ _ [_,_,_,_,_,_,_,_,_,_,_,_,_,_,_,_,_,_,_,_,_,_,_,_,_,_,_] _
        refine g_ops_nil ?_
        refine g_cond_false rfl ?_
        refine g_skip ?_
        refine g_inBlock ?_
        refine g_region ?_
        show G _ _ _ (.inRegion _ [0, 1] :: _) _ _
        refine g_op (v := Value.int .i64 (i64w (x13 + 1))) rfl rfl rfl ?_
        show G _ _ _ _ [_,_,_,_,_,_,_,_,_,_,_,_,_,_,_,_,_,_,_,_,_,_,_,_,_,_,_] _
        refine g_op (v := Value.int .i64 (i64w (x13 + 1))) rfl rfl rfl ?_
        refine g_ops_nil ?_
        obtain rfl := Option.some.inj H
        have hs := hs.pull 2 rfl
        have hs := hs.pull 1 rfl
        have hs := hs.pull 2 rfl
        have hs : St _ [_,_,_] _ := St.take (Γ' := []) hs
        exact ih1_ _ _ ⟨r14.2, i64w (x13 + 1), Hx1_, rfl, hs⟩
     ·
      intro hb
      rw [if_neg (b_dec_f hb)] at H
      show G _ _ _ _ [_,_,_,_,_,_,_,_,_,_,_,_,_,_,_,_,_,_,_,_,_,_,_,_,_,_,_] _
      refine g_ops_nil ?_
      refine g_seq ?_
      refine g_cond_false rfl ?_
      obtain rfl := Option.some.inj H
      subst Hx1_
      have hs : St _ [] _ := St.take (Γ' := [_,_,_]) hs
      refine g_exit rfl ?_
      exact ha1_ _ _ ⟨Hr1_, rfl, hs⟩

/- function 34 spec_l06Start -/
def spec_l06Start.post (w0 : World) (r : ((Option S_spec_l06Finder) × Int)) (v : Value) (w : World) : Prop := match r with
  | (none, x1) => v = Value.tuple #[Value.pointer none, Value.int .i64 x1] ∧ St w0 [] w
  | (some q, x1) => ∃ b1 : Nat, ∃ u2 : Value, v = Value.tuple #[Value.pointer (some ⟨b1, 0, none⟩), Value.int .i64 x1] ∧ St w0 [Cells b1 (([Value.int .i64 q.f_lies, u2] : List Value)) 73, Row 75 (K.int .i8) u2 q.f_seen] w
set_option maxHeartbeats 8000000 in
set_option maxRecDepth 100000 in
theorem spec_l06Start.calls {N : Nat} {a1 : Int} {a2 : (Ar Int 4)} {a3 : Int} {w0 : World} {r : ((Option S_spec_l06Finder) × Int)} (H : spec_l06Start.f N a1 a2 a3 = some r) :
    Calls Try.prog 34 #[Value.int .i64 a1, Value.agg ((encA (encI .i64)) a2).toArray, Value.int .i64 a3] w0 fun e w => ∃ v, e = .returned v ∧ spec_l06Start.post w0 r v w := by
  unfold spec_l06Start.f at H
  have hs : St w0 [] w0 := St.refl w0
  refine calls_of_g (n := 19) Try.func34 rfl rfl ?_
  show G _ _ _ _ [_,_,_,_,_,_,_,_,_,_,_,_,_,_,_,_,_,_,_,_,_,_] _
  refine g_seq ?_
  refine g_region ?_
  show G _ _ _ (.inRegion _ [0, 1, 2] :: _) _ _
  refine s_box hs rfl rfl (cs := ((encA (encI .i64)) a2)) rfl rfl ?_
  intro b4 w hs
  show G _ _ _ _ [_,_,_,_,_,_,_,_,_,_,_,_,_,_,_,_,_,_,_,_,_,_] _
  refine g_op (v := Value.pointer none) rfl rfl rfl ?_
  show G _ _ _ _ [_,_,_,_,_,_,_,_,_,_,_,_,_,_,_,_,_,_,_,_,_,_] _
  refine g_op (v := Value.int .i64 0) rfl rfl rfl ?_
  show G _ _ _ _ [_,_,_,_,_,_,_,_,_,_,_,_,_,_,_,_,_,_,_,_,_,_] _
  refine g_ops_nil ?_
  refine g_seq ?_
  refine g_seq ?_
  refine g_region ?_
  show G _ _ _ (.inRegion _ [0, 1, 2, 3] :: _) _ _
  refine g_op (v := Value.int .i64 a1) rfl rfl rfl ?_
  show G _ _ _ _ [_,_,_,_,_,_,_,_,_,_,_,_,_,_,_,_,_,_,_,_,_,_] _
  refine s_loadA rfl rfl (es := ((encA (encI .i64)) a2)) rfl rfl (fun _ => rfl) (n := 4) (fun _ => rfl) ((fkA (n := 4) (he := (fkI .i64).len) (h1 := (fkI .i64).one)).len _) (cells_all (hs.cells 0 rfl)) ?_
  show G _ _ _ _ [_,_,_,_,_,_,_,_,_,_,_,_,_,_,_,_,_,_,_,_,_,_] _
  obtain ⟨r6, Hr6, H⟩ := bind_get H
  refine s_call (args := [Value.int .i64 a1, Value.agg ((encA (encI .i64)) a2).toArray]) rfl rfl (x_call rfl (callFunc_enter Try.func24 rfl rfl) rfl) (spec_l06Valid.calls (a1 := a1) (a2 := a2) Hr6) ?_
  rintro _ w ⟨rfl, hs2⟩
  have hs : St _ [_] _ := hs.call hs2
  cases r6 with
  | true =>
    rw [if_pos rfl] at H
    show G _ _ _ _ [_,_,_,_,_,_,_,_,_,_,_,_,_,_,_,_,_,_,_,_,_,_] _
    refine g_op (v := Value.bool false) rfl rfl rfl ?_
    show G _ _ _ _ [_,_,_,_,_,_,_,_,_,_,_,_,_,_,_,_,_,_,_,_,_,_] _
    refine g_ops_nil ?_
    refine g_cond_false rfl ?_
    refine g_skip ?_
    refine g_seq ?_
    refine g_seq ?_
    refine g_region ?_
    show G _ _ _ (.inRegion _ [0, 1, 2] :: _) _ _
    refine g_op (v := Value.int .i64 a3) rfl rfl rfl ?_
    show G _ _ _ _ [_,_,_,_,_,_,_,_,_,_,_,_,_,_,_,_,_,_,_,_,_,_] _
    obtain ⟨r7, Hr7, H⟩ := bind_get H
    refine s_call (args := [Value.int .i64 a3, Value.int .i64 0, Value.int .i64 20]) rfl rfl (x_call rfl (callFunc_enter Try.func39 rfl rfl) rfl) (spec_l00In.calls (a1 := a3) (a2 := 0) (a3 := 20) Hr7) ?_
    rintro _ w ⟨rfl, hs2⟩
    have hs : St _ [_] _ := hs.call hs2
    cases r7 with
    | true =>
      rw [if_pos rfl] at H
      show G _ _ _ _ [_,_,_,_,_,_,_,_,_,_,_,_,_,_,_,_,_,_,_,_,_,_] _
      refine g_op (v := Value.bool false) rfl rfl rfl ?_
      show G _ _ _ _ [_,_,_,_,_,_,_,_,_,_,_,_,_,_,_,_,_,_,_,_,_,_] _
      refine g_ops_nil ?_
      refine g_cond_false rfl ?_
      refine g_skip ?_
      refine g_seq ?_
      refine g_seq ?_
      refine g_region ?_
      show G _ _ _ (.inRegion _ [0, 1, 2] :: _) _ _
      refine s_loadA rfl rfl (es := ((encA (encI .i64)) a2)) rfl rfl (fun _ => rfl) (n := 4) (fun _ => rfl) ((fkA (n := 4) (he := (fkI .i64).len) (h1 := (fkI .i64).one)).len _) (cells_all (hs.cells 0 rfl)) ?_
      show G _ _ _ _ [_,_,_,_,_,_,_,_,_,_,_,_,_,_,_,_,_,_,_,_,_,_] _
      obtain ⟨r8, Hr8, H⟩ := bind_get H
      refine s_call (args := [Value.agg ((encA (encI .i64)) a2).toArray]) rfl rfl (x_call rfl (callFunc_enter Try.func40 rfl rfl) rfl) (spec_l06Total.calls (a1 := a2) Hr8) ?_
      rintro _ w ⟨rfl, hs2⟩
      have hs : St _ [_] _ := hs.call hs2
      show G _ _ _ _ [_,_,_,_,_,_,_,_,_,_,_,_,_,_,_,_,_,_,_,_,_,_] _
      refine g_op_b (B := decide (r8 > 8)) rfl rfl rfl ?_ ?_
      ·
       intro hb
       rw [if_pos (b_dec_t hb)] at H
       show G _ _ _ _ [_,_,_,_,_,_,_,_,_,_,_,_,_,_,_,_,_,_,_,_,_,_] _
       refine g_ops_nil ?_
       refine g_cond_true rfl ?_
       refine g_seq ?_
       refine g_region ?_
       show G _ _ _ (.inRegion _ [0, 1] :: _) _ _
       refine g_op (v := Value.pointer none) rfl rfl rfl ?_
       show G _ _ _ _ [_,_,_,_,_,_,_,_,_,_,_,_,_,_,_,_,_,_,_,_,_,_] _
       refine g_op (v := Value.int .i64 3) rfl rfl rfl ?_
       show G _ _ _ _ [_,_,_,_,_,_,_,_,_,_,_,_,_,_,_,_,_,_,_,_,_,_] _
       refine g_ops_nil ?_
       obtain rfl := Option.some.inj H
       refine g_ret Try.func34 (v := Value.tuple #[Value.pointer none, Value.int .i64 3]) (resN (l := Try.f34.results.toList) (vs := [Value.pointer none, Value.int .i64 3]) rfl ⟨rfl, rfl, trivial⟩ (by simp)) ?_
       have hs : St _ [] _ := St.take (Γ' := [_]) hs
       exact ⟨_, rfl, rfl, hs⟩
      ·
       intro hb
       rw [if_neg (b_dec_f hb)] at H
       show G _ _ _ _ [_,_,_,_,_,_,_,_,_,_,_,_,_,_,_,_,_,_,_,_,_,_] _
       refine g_ops_nil ?_
       refine g_cond_false rfl ?_
       refine g_skip ?_
       refine g_seq ?_
       refine g_region ?_
       show G _ _ _ (.inRegion _ [0, 1, 2, 3, 4, 5] :: _) _ _
       refine g_op (v := Value.int .i64 a1) rfl rfl rfl ?_
       show G _ _ _ _ [_,_,_,_,_,_,_,_,_,_,_,_,_,_,_,_,_,_,_,_,_,_] _
       obtain ⟨g, H⟩ := ite_get H
       refine s_make (κ := (K.int .i8)) (z := 0) (zc := ((encI .i8) 0)) (zv := (Value.int .i8 0)) (B := 1) hs rfl rfl rfl rfl rfl g.1 rfl rfl rfl rfl rfl (fun _ => ⟨rfl, rfl⟩) rfl (by decide) (by have := g.2; omega) ?_
       intro v9 w hs
       show G _ _ _ _ [_,_,_,_,_,_,_,_,_,_,_,_,_,_,_,_,_,_,_,_,_,_] _
       refine g_op (v := Value.agg (([Value.int .i64 a1, v9] : List Value)).toArray) rfl rfl (x_buildS (cs := (([Value.int .i64 a1, v9] : List Value))) (segs := [[Value.int .i64 0], [Value.slice none 0 0]]) rfl rfl (fun _ => rfl) ⟨rfl, (fun _ => rfl), rfl, (fun _ => rfl), trivial⟩ (by simp only [List.map_cons, List.map_nil, List.forall_mem_cons, List.not_mem_nil, false_implies, implies_true, and_true]; exact ⟨⟨_, rfl, rfl⟩, ⟨_, rfl, slSize (hs.row 0 rfl)⟩⟩) (by first | rfl | (simp [ev, encA, slCells (hs.row 0 rfl)]; done) | (simp [ev, encA, slCells (hs.row 0 rfl)]; rfl))) ?_
       show G _ _ _ _ [_,_,_,_,_,_,_,_,_,_,_,_,_,_,_,_,_,_,_,_,_,_] _
       refine s_box hs rfl rfl (cs := (([Value.int .i64 a1, v9] : List Value))) rfl rfl ?_
       intro b11 w hs
       show G _ _ _ _ [_,_,_,_,_,_,_,_,_,_,_,_,_,_,_,_,_,_,_,_,_,_] _
       refine g_op (v := Value.pointer (some ⟨b11, 0, none⟩)) rfl rfl rfl ?_
       show G _ _ _ _ [_,_,_,_,_,_,_,_,_,_,_,_,_,_,_,_,_,_,_,_,_,_] _
       refine g_op (v := Value.int .i64 0) rfl rfl rfl ?_
       show G _ _ _ _ [_,_,_,_,_,_,_,_,_,_,_,_,_,_,_,_,_,_,_,_,_,_] _
       refine g_ops_nil ?_
       obtain rfl := Option.some.inj H
       refine g_ret Try.func34 (v := Value.tuple #[Value.pointer (some ⟨b11, 0, none⟩), Value.int .i64 0]) (resN (l := Try.f34.results.toList) (vs := [Value.pointer (some ⟨b11, 0, none⟩), Value.int .i64 0]) rfl ⟨rfl, rfl, trivial⟩ (by simp)) ?_
       have hs := hs.pull 1 rfl
       have hs := hs.pull 1 rfl
       have hs : St _ [_,_] _ := St.take (Γ' := [_]) hs
       exact ⟨_, rfl, b11, v9, rfl, hs⟩
    | false =>
      rw [if_neg Bool.false_ne_true] at H
      show G _ _ _ _ [_,_,_,_,_,_,_,_,_,_,_,_,_,_,_,_,_,_,_,_,_,_] _
      refine g_op (v := Value.bool true) rfl rfl rfl ?_
      show G _ _ _ _ [_,_,_,_,_,_,_,_,_,_,_,_,_,_,_,_,_,_,_,_,_,_] _
      refine g_ops_nil ?_
      refine g_cond_true rfl ?_
      refine g_seq ?_
      refine g_region ?_
      show G _ _ _ (.inRegion _ [0, 1] :: _) _ _
      refine g_op (v := Value.pointer none) rfl rfl rfl ?_
      show G _ _ _ _ [_,_,_,_,_,_,_,_,_,_,_,_,_,_,_,_,_,_,_,_,_,_] _
      refine g_op (v := Value.int .i64 2) rfl rfl rfl ?_
      show G _ _ _ _ [_,_,_,_,_,_,_,_,_,_,_,_,_,_,_,_,_,_,_,_,_,_] _
      refine g_ops_nil ?_
      obtain rfl := Option.some.inj H
      refine g_ret Try.func34 (v := Value.tuple #[Value.pointer none, Value.int .i64 2]) (resN (l := Try.f34.results.toList) (vs := [Value.pointer none, Value.int .i64 2]) rfl ⟨rfl, rfl, trivial⟩ (by simp)) ?_
      have hs : St _ [] _ := St.take (Γ' := [_]) hs
      exact ⟨_, rfl, rfl, hs⟩
  | false =>
    rw [if_neg Bool.false_ne_true] at H
    show G _ _ _ _ [_,_,_,_,_,_,_,_,_,_,_,_,_,_,_,_,_,_,_,_,_,_] _
    refine g_op (v := Value.bool true) rfl rfl rfl ?_
    show G _ _ _ _ [_,_,_,_,_,_,_,_,_,_,_,_,_,_,_,_,_,_,_,_,_,_] _
    refine g_ops_nil ?_
    refine g_cond_true rfl ?_
    refine g_seq ?_
    refine g_region ?_
    show G _ _ _ (.inRegion _ [0, 1] :: _) _ _
    refine g_op (v := Value.pointer none) rfl rfl rfl ?_
    show G _ _ _ _ [_,_,_,_,_,_,_,_,_,_,_,_,_,_,_,_,_,_,_,_,_,_] _
    refine g_op (v := Value.int .i64 1) rfl rfl rfl ?_
    show G _ _ _ _ [_,_,_,_,_,_,_,_,_,_,_,_,_,_,_,_,_,_,_,_,_,_] _
    refine g_ops_nil ?_
    obtain rfl := Option.some.inj H
    refine g_ret Try.func34 (v := Value.tuple #[Value.pointer none, Value.int .i64 1]) (resN (l := Try.f34.results.toList) (vs := [Value.pointer none, Value.int .i64 1]) rfl ⟨rfl, rfl, trivial⟩ (by simp)) ?_
    have hs : St _ [] _ := St.take (Γ' := [_]) hs
    exact ⟨_, rfl, rfl, hs⟩

end Go.Proofs.YtfnfoecocicigaaX
