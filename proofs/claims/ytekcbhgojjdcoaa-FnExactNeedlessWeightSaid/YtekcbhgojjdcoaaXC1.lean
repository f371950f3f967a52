/- Contracts, printed by gen.py. -/
import Derived.Test.YtekcbhgojjdcoaaXT
import Derived.Test.YtekcbhgojjdcoaaProg
import Derived.Test.YtekcbhgojjdcoaaXRowR
import Derived.Test.YtekcbhgojjdcoaaXSeg
import Derived.Test.YtekcbhgojjdcoaaXKey
import Derived.Test.YtekcbhgojjdcoaaXIter
import Derived.Test.YtekcbhgojjdcoaaXRow2
import Derived.Test.YtekcbhgojjdcoaaXDel
import Derived.Test.YtekcbhgojjdcoaaXShelf
import Derived.Test.YtekcbhgojjdcoaaXC0
namespace Go.Proofs.YtekcbhgojjdcoaaX
open Go Go.RowKit Go.Proofs
set_option linter.unusedVariables false
set_option linter.unusedSimpArgs false
/- function 15 spec_l01Ok -/
def spec_l01Ok.post (w0 : World) (r : Bool) (v : Value) (w : World) : Prop := v = Value.bool r ∧ St w0 [] w
set_option maxHeartbeats 8000000 in
set_option maxRecDepth 100000 in
theorem spec_l01Ok.calls {N : Nat} {a1 : (List Int)} {v2 : Value} {w0 : World} {r : Bool} (hr0 : RdRow (K.int .i16) w0 v2 a1) (H : spec_l01Ok.f N a1 = some r) :
    Calls Try.prog 15 #[v2] w0 fun e w => ∃ v, e = .returned v ∧ spec_l01Ok.post w0 r v w := by
  unfold spec_l01Ok.f at H
  have hs : St w0 [] w0 := St.refl w0
  refine calls_of_g (n := 37) Try.func15 rfl rfl ?_
  show G _ _ _ _ [_,_,_,_,_,_,_,_,_,_,_,_,_,_,_,_,_,_,_,_,_,_,_,_,_,_,_,_,_,_,_,_,_,_,_,_,_,_] _
  refine g_seq ?_
  refine g_region ?_
  show G _ _ _ (.inRegion _ [0] :: _) _ _
  refine g_op (v := Value.bool false) rfl rfl rfl ?_
  show G _ _ _ _ [_,_,_,_,_,_,_,_,_,_,_,_,_,_,_,_,_,_,_,_,_,_,_,_,_,_,_,_,_,_,_,_,_,_,_,_,_,_] _
  refine g_ops_nil ?_
  refine g_seq ?_
  refine g_seq ?_
  refine g_region ?_
  show G _ _ _ (.inRegion _ [0, 1, 2, 3] :: _) _ _
  refine g_op (v := v2) rfl rfl rfl ?_
  refine s_len (hs.rd hr0) rfl rfl rfl rfl rfl ?_
  show G _ _ _ _ [_,_,_,_,_,_,_,_,_,_,_,_,_,_,_,_,_,_,_,_,_,_,_,_,_,_,_,_,_,_,_,_,_,_,_,_,_,_] _
  obtain ⟨r3, Hr3, H⟩ := bind_get H
  refine s_call (args := [Value.int .i64 (a1.length : Int), Value.int .i64 1, Value.int .i64 16]) rfl rfl (x_call rfl (callFunc_enter Try.func16 rfl rfl) rfl) (spec_l00In.calls (a1 := (a1.length : Int)) (a2 := 1) (a3 := 16) Hr3) ?_
  rintro _ w ⟨rfl, hs2⟩
  have hs : St _ [] _ := hs.call hs2
  cases r3 with
  | true =>
    rw [if_pos rfl] at H
    show G _ _ _ _ [_,_,_,_,_,_,_,_,_,_,_,_,_,_,_,_,_,_,_,_,_,_,_,_,_,_,_,_,_,_,_,_,_,_,_,_,_,_] _
    refine g_op (v := Value.bool false) rfl rfl rfl ?_
    show G _ _ _ _ [_,_,_,_,_,_,_,_,_,_,_,_,_,_,_,_,_,_,_,_,_,_,_,_,_,_,_,_,_,_,_,_,_,_,_,_,_,_] _
    refine g_ops_nil ?_
    refine g_cond_false rfl ?_
    refine g_skip ?_
    refine g_seq ?_
    refine g_seq ?_
    refine g_region ?_
    show G _ _ _ (.inRegion _ [0] :: _) _ _
    refine g_op (v := Value.int .i64 0) rfl rfl rfl ?_
    show G _ _ _ _ [_,_,_,_,_,_,_,_,_,_,_,_,_,_,_,_,_,_,_,_,_,_,_,_,_,_,_,_,_,_,_,_,_,_,_,_,_,_] _
    refine g_ops_nil ?_
    obtain ⟨o1_, Ho, Hr1_⟩ := bind_get H
    refine g_block_join (J := fun t w => spec_l01Ok.a0 N a1 = some r ∧ Fr t (fun O => ([v2, O 1, O 2, O 3, O 4, O 5, O 6, O 7, O 8, O 9, O 10, O 11, O 12, O 13, O 14, O 15, O 16, O 17, O 18, O 19, O 20, O 21, O 22, O 23, O 24, O 25, O 26, O 27, O 28, O 29, O 30, O 31, O 32, O 33, O 34, O 35, O 36, O 37] : List Value)) ∧ St w0 [] w) ?_ ?_
    ·
     rintro t w ⟨H, hf, hs⟩
     obtain ⟨O, rfl⟩ := hf.open
     show G _ _ _ _ [_,_,_,_,_,_,_,_,_,_,_,_,_,_,_,_,_,_,_,_,_,_,_,_,_,_,_,_,_,_,_,_,_,_,_,_,_,_] _
     unfold spec_l01Ok.a0 at H
     refine g_seq ?_
     refine g_region ?_
     show G _ _ _ (.inRegion _ [0, 1, 2, 3] :: _) _ _
     refine g_op (v := v2) rfl rfl rfl ?_
     obtain ⟨r7, Hr7, H⟩ := bind_get H
     refine s_call (args := [v2]) rfl rfl (x_call rfl (callFunc_enter Try.func29 rfl rfl) rfl) (spec_l01Sum.calls (a1 := a1) (hs.rd hr0) Hr7) ?_
     rintro _ w ⟨rfl, hs2⟩
     have hs : St _ [] _ := hs.call hs2
     show G _ _ _ _ [_,_,_,_,_,_,_,_,_,_,_,_,_,_,_,_,_,_,_,_,_,_,_,_,_,_,_,_,_,_,_,_,_,_,_,_,_,_] _
     refine g_op (v := Value.bool (decide (r7 ≤ 2000))) rfl rfl rfl ?_
     show G _ _ _ _ [_,_,_,_,_,_,_,_,_,_,_,_,_,_,_,_,_,_,_,_,_,_,_,_,_,_,_,_,_,_,_,_,_,_,_,_,_,_] _
     refine g_op (v := Value.bool (decide (r7 ≤ 2000))) rfl rfl rfl ?_
     show G _ _ _ _ [_,_,_,_,_,_,_,_,_,_,_,_,_,_,_,_,_,_,_,_,_,_,_,_,_,_,_,_,_,_,_,_,_,_,_,_,_,_] _
     refine g_ops_nil ?_
     obtain rfl := Option.some.inj H
     refine g_ret Try.func15 (v := Value.bool (decide (r7 ≤ 2000))) (res1 rfl rfl) ?_
     have hs : St _ [] _ := St.take (Γ' := []) hs
     exact ⟨_, rfl, rfl, hs⟩
    ·
     intro ha1_
     have hs : St _ [] _ := St.take (Γ' := []) hs
     refine g_loop_fuel (I := fun n_ t w => ∃ x4 : Int, rounds (fun s => spec_l01Ok.b0 N a1 s) n_ x4 = some o1_ ∧ Fr t (fun O => ([v2, O 1, O 2, Value.int .i64 x4, O 4, O 5, O 6, O 7, O 8, O 9, O 10, O 11, O 12, O 13, O 14, O 15, O 16, O 17, O 18, O 19, O 20, O 21, O 22, O 23, O 24, O 25, O 26, O 27, O 28, O 29, O 30, O 31, O 32, O 33, O 34, O 35, O 36, O 37] : List Value)) ∧ St w0 [] w) N ⟨0, Ho, rfl, hs⟩ ?_ ?_
     ·
      rintro _ _ ⟨x4, h, _⟩
      exact rounds_zero h
     ·
      intro n_ ih1_
      rintro t w ⟨x4, Ho, hf, hs⟩
      obtain ⟨O, rfl⟩ := hf.open
      show G _ _ _ _ [_,_,_,_,_,_,_,_,_,_,_,_,_,_,_,_,_,_,_,_,_,_,_,_,_,_,_,_,_,_,_,_,_,_,_,_,_,_] _
      obtain ⟨x32_, H, Hx1_⟩ := rounds_succ Ho
      have H : spec_l01Ok.b0 N a1 x4 = some x32_ := H
      unfold spec_l01Ok.b0 at H
      refine g_seq ?_
      refine g_seq ?_
      refine g_region ?_
      show G _ _ _ (.inRegion _ [0, 1, 2, 3] :: _) _ _
      refine g_op (v := Value.int .i64 x4) rfl rfl rfl ?_
      refine g_op (v := v2) rfl rfl rfl ?_
      refine s_len (hs.rd hr0) rfl rfl rfl rfl rfl ?_
      show G _ _ _ _ [_,_,_,_,_,_,_,_,_,_,_,_,_,_,_,_,_,_,_,_,_,_,_,_,_,_,_,_,_,_,_,_,_,_,_,_,_,_] _
      refine g_op_b (B := decide (x4 < (a1.length : Int))) rfl rfl rfl ?_ ?_
      ·
       intro hb
       rw [if_pos (b_dec_t hb)] at H
       show G _ _ _ _ [_,_,_,_,_,_,_,_,_,_,_,_,_,_,_,_,_,_,_,_,_,_,_,_,_,_,_,_,_,_,_,_,_,_,_,_,_,_] _
       refine g_ops_nil ?_
       refine g_cond_true rfl ?_
       refine g_skip ?_
       refine g_seq ?_
       refine g_block_join (J := (fun t w => ∃ x6 : Bool, spec_l01Ok.j2 N x4 x6 = some x32_ ∧ Fr t (fun O => ([v2, O 1, O 2, Value.int .i64 x4, O 4, O 5, O 6, O 7, O 8, O 9, O 10, O 11, O 12, O 13, O 14, O 15, O 16, O 17, O 18, O 19, Value.int .i64 x4, Value.bool x6, Value.bool x6, O 23, O 24, O 25, O 26, O 27, O 28, O 29, O 30, O 31, O 32, Value.bool false, O 34, O 35, O 36, O 37] : List Value)) ∧ St w0 [] w)) ?_ ?_
       ·
        rintro t w ⟨x6, H, hf, hs⟩
        obtain ⟨O, rfl⟩ := hf.open
        show G _ _ _ _ [_,_,_,_,_,_,_,_,_,_,_,_,_,_,_,_,_,_,_,_,_,_,_,_,_,_,_,_,_,_,_,_,_,_,_,_,_,_] _
        unfold spec_l01Ok.j2 at H
        refine g_region ?_
        show G _ _ _ (.inRegion _ [0, 1, 2] :: _) _ _
        refine g_op (v := Value.int .i64 x4) rfl rfl rfl ?_
        refine g_op (v := Value.int .i64 (i64w (x4 + 1))) rfl rfl rfl ?_
        show G _ _ _ _ [_,_,_,_,_,_,_,_,_,_,_,_,_,_,_,_,_,_,_,_,_,_,_,_,_,_,_,_,_,_,_,_,_,_,_,_,_,_] _
        refine g_op (v := Value.int .i64 (i64w (x4 + 1))) rfl rfl rfl ?_
        show G _ _ _ _ [_,_,_,_,_,_,_,_,_,_,_,_,_,_,_,_,_,_,_,_,_,_,_,_,_,_,_,_,_,_,_,_,_,_,_,_,_,_] _
        refine g_ops_nil ?_
        obtain rfl := Option.some.inj H
        have hs : St _ [] _ := St.take (Γ' := []) hs
        exact ih1_ _ _ ⟨i64w (x4 + 1), Hx1_, rfl, hs⟩
       ·
        intro ha
        refine g_seq ?_
        refine g_lay (n := 21) rfl [0, 1, 2, 3, 4, 5, 6, 7, 8, 9, 10, 11, 12, 13, 14, 15, 16, 17, 18, 19, 20] [0, 1, 2, 3, 4, 5, 6, 7, 8, 9, 10, 11, 12, 13, 14, 15, 16, 17, 18, 19, 20] rfl rfl ?_
        intro rest w hh hbw hO
        have hs := hs.samew hh hbw
        show G _ _ _ _ [_,_,_,_,_,_,_,_,_,_,_,_,_,_,_,_,_,_,_,_,_,_,_,_,_,_,_,_,_,_,_,_,_,_,_,_,_,_] _
        refine g_name ?_
        intro T hT
        refine g_layer (m0 := 0) hO rfl 3 [0, 1] [0, 0, 3, 7, 15, 31, 63, 127, 255, 511, 511, 2047, 4095, 511, 511, 16895, 57855, 123391, 262143, 524287, 1048575] (by decide +kernel) (fun D t w => ∃ O : Nat → Value, t = [v2, O 1, O 2, Value.int .i64 x4, O 4, O 5, O 6, O 7, Value.int .i64 x4, v2, Value.int .i64 (a1.length : Int), Value.bool true, O 12, O 13, cnd (D 0) v2 (O 14), cnd (D 1) (Value.int .i64 x4) (O 15), O 16, O 17, O 18, O 19, O 20, O 21, O 22, O 23, O 24, O 25, O 26, O 27, O 28, O 29, O 30, O 31, O 32, O 33, O 34, O 35, O 36, O 37] ∧ St w0 [] w) ?_ ⟨?_, ⟨?_, trivial⟩⟩ ?_
        · exact ⟨fun i => T.getD i undef, (by subst hT; rfl), hs⟩
        ·
         intro D t w hD hp hcl hI rest hk
         obtain ⟨O, ht, hs⟩ := hI
         have hp : AllDone D [] := hp
         simp only [hD, cnd_t, cnd_f, Asc_t, Asc_f] at ht hs
         subst ht
         refine g_op (v := v2) rfl rfl rfl ?_
         show G _ _ _ _ [_,_,_,_,_,_,_,_,_,_,_,_,_,_,_,_,_,_,_,_,_,_,_,_,_,_,_,_,_,_,_,_,_,_,_,_,_,_] _
         exact hk _ _ ⟨O, (by simp only [upd, Nat.reduceBEq, Bool.true_or, Bool.false_or, cnd_t, cnd_f, Asc_t, Asc_f]), hs.cast (by first | rfl | simp only [List.take, List.drop, List.cons_append, List.nil_append, List.set_cons_zero, List.set_cons_succ, List.eraseIdx, upd, Nat.reduceBEq, Bool.true_or, Bool.false_or, cnd_t, cnd_f, Asc_t, Asc_f])⟩
        ·
         intro D t w hD hp hcl hI rest hk
         obtain ⟨O, ht, hs⟩ := hI
         have hp : AllDone D [] := hp
         simp only [hD, cnd_t, cnd_f, Asc_t, Asc_f] at ht hs
         subst ht
         refine g_op (v := Value.int .i64 x4) rfl rfl rfl ?_
         show G _ _ _ _ [_,_,_,_,_,_,_,_,_,_,_,_,_,_,_,_,_,_,_,_,_,_,_,_,_,_,_,_,_,_,_,_,_,_,_,_,_,_] _
         exact hk _ _ ⟨O, (by simp only [upd, Nat.reduceBEq, Bool.true_or, Bool.false_or, cnd_t, cnd_f, Asc_t, Asc_f]), hs.cast (by first | rfl | simp only [List.take, List.drop, List.cons_append, List.nil_append, List.set_cons_zero, List.set_cons_succ, List.eraseIdx, upd, Nat.reduceBEq, Bool.true_or, Bool.false_or, cnd_t, cnd_f, Asc_t, Asc_f])⟩
        ·
         intro D t w rest hall hO1_ hI
         obtain ⟨O, ht, hs⟩ := hI
         have p0_ : D 0 = true := hall 0 (by decide) rfl
         have p1_ : D 1 = true := hall 1 (by decide) rfl
         simp only [p0_, p1_, cnd_t, cnd_f, Asc_t, Asc_f] at ht hs
         subst ht
         obtain ⟨rest, rfl, hO2_⟩ := ord_one (m := 3) hO1_ rfl 2 (m' := 7) (by decide +kernel) rfl
         clear hO1_
         obtain ⟨g3, H⟩ := ite_get H
         refine s_idx (fkI .i16) 0 (hs.rd hr0) rfl (fun _ => rfl) g3.1 g3.2 rfl rfl rfl rfl rfl ?_
         intro p5 hp5 lp5 op5
         show G _ _ _ _ [_,_,_,_,_,_,_,_,_,_,_,_,_,_,_,_,_,_,_,_,_,_,_,_,_,_,_,_,_,_,_,_,_,_,_,_,_,_] _
         obtain ⟨rest, rfl, hO4_⟩ := ord_one (m := 7) hO2_ rfl 3 (m' := 15) (by decide +kernel) rfl
         clear hO2_
         refine s_load1 rfl rfl (v := Value.int .i16 (rdL a1 x4 0)) rfl rfl (fun _ => rfl) hp5 ?_
         show G _ _ _ _ [_,_,_,_,_,_,_,_,_,_,_,_,_,_,_,_,_,_,_,_,_,_,_,_,_,_,_,_,_,_,_,_,_,_,_,_,_,_] _
         obtain ⟨rest, rfl, hO5_⟩ := ord_one (m := 15) hO4_ rfl 4 (m' := 31) (by decide +kernel) rfl
         clear hO4_
         refine g_op_b (B := decide ((rdL a1 x4 0) < 1)) rfl rfl rfl ?_ ?_
         ·
          intro hb
          rw [if_pos (b_dec_t hb)] at H
          show G _ _ _ _ [_,_,_,_,_,_,_,_,_,_,_,_,_,_,_,_,_,_,_,_,_,_,_,_,_,_,_,_,_,_,_,_,_,_,_,_,_,_] _
          obtain ⟨rest, rfl, hO6_⟩ := ord_one (m := 31) hO5_ rfl 5 (m' := 63) (by decide +kernel) rfl
          clear hO5_
          refine g_op (v := Value.bool true) rfl rfl rfl ?_
          obtain ⟨rest, rfl, hO7_⟩ := ord_one (m := 63) hO6_ rfl 6 (m' := 127) (by decide +kernel) rfl
          clear hO6_
          refine g_op_not rfl rfl ?_
          obtain ⟨rest, rfl, hO8_⟩ := ord_one (m := 127) hO7_ rfl 7 (m' := 255) (by decide +kernel) rfl
          clear hO7_
          refine g_op_not rfl rfl ?_
          show G _ _ _ _ [_,_,_,_,_,_,_,_,_,_,_,_,_,_,_,_,_,_,_,_,_,_,_,_,_,_,_,_,_,_,_,_,_,_,_,_,_,_] _
          obtain ⟨rest, rfl, hO9_⟩ := ord_one (m := 255) hO8_ rfl 8 (m' := 511) (by decide +kernel) rfl
          clear hO8_
          refine g_op_not rfl rfl ?_
          refine g_name ?_
          intro T hT
          refine g_layer (m0 := 511) hO9_ rfl 262143 [9, 10, 11, 12, 13, 14, 15, 16, 17] [0, 0, 3, 7, 15, 31, 63, 127, 255, 511, 511, 2047, 4095, 511, 511, 16895, 57855, 123391, 262143, 524287, 1048575] (by decide +kernel) (fun D t w => ∃ O : Nat → Value, t = [v2, O 1, O 2, Value.int .i64 x4, O 4, O 5, O 6, O 7, Value.int .i64 x4, v2, Value.int .i64 (a1.length : Int), Value.bool true, O 12, O 13, v2, Value.int .i64 x4, Value.pointer (some p5), Value.int .i16 (rdL a1 x4 0), Value.bool true, Value.bool true, O 20, O 21, undef, cnd (D 9) undef (O 23), cnd (D 10) undef (O 24), cnd (D 11) undef (O 25), cnd (D 12) undef (O 26), cnd (D 13) undef (O 27), cnd (D 14) undef (O 28), cnd (D 15) undef (O 29), cnd (D 16) undef (O 30), cnd (D 17) undef (O 31), O 32, O 33, O 34, O 35, O 36, O 37] ∧ St w0 [] w) ?_ ⟨?_, ⟨?_, ⟨?_, ⟨?_, ⟨?_, ⟨?_, ⟨?_, ⟨?_, ⟨?_, trivial⟩⟩⟩⟩⟩⟩⟩⟩⟩ ?_
          · exact ⟨fun i => T.getD i undef, (by subst hT; rfl), hs⟩
          ·
           intro D t w hD hp hcl hI rest hk
           obtain ⟨O, ht, hs⟩ := hI
           have hp : AllDone D [8] := hp
           obtain ⟨p8_, _⟩ := hp
           have q11_ : D 11 = false := not_yet (show D 11 = true → AllDone D [9, 10, 8] from hcl 11 (by decide)) 0 9 rfl hD
           have q12_ : D 12 = false := not_yet (show D 12 = true → AllDone D [11, 8] from hcl 12 (by decide)) 0 11 rfl q11_
           simp only [hD, q11_, q12_, cnd_t, cnd_f, Asc_t, Asc_f] at ht hs
           subst ht
           refine g_op_not rfl rfl ?_
           show G _ _ _ _ [_,_,_,_,_,_,_,_,_,_,_,_,_,_,_,_,_,_,_,_,_,_,_,_,_,_,_,_,_,_,_,_,_,_,_,_,_,_] _
           exact hk _ _ ⟨O, (by simp only [upd, Nat.reduceBEq, Bool.true_or, Bool.false_or, q11_, q12_, cnd_t, cnd_f, Asc_t, Asc_f]), hs.cast (by simp only [upd, Nat.reduceBEq, Bool.true_or, Bool.false_or, q11_, q12_, cnd_t, cnd_f, Asc_t, Asc_f])⟩
          ·
           intro D t w hD hp hcl hI rest hk
           obtain ⟨O, ht, hs⟩ := hI
           have hp : AllDone D [8] := hp
           obtain ⟨p8_, _⟩ := hp
           have q11_ : D 11 = false := not_yet (show D 11 = true → AllDone D [9, 10, 8] from hcl 11 (by decide)) 1 10 rfl hD
           have q12_ : D 12 = false := not_yet (show D 12 = true → AllDone D [11, 8] from hcl 12 (by decide)) 0 11 rfl q11_
           simp only [hD, q11_, q12_, cnd_t, cnd_f, Asc_t, Asc_f] at ht hs
           subst ht
           refine g_op_not rfl rfl ?_
           show G _ _ _ _ [_,_,_,_,_,_,_,_,_,_,_,_,_,_,_,_,_,_,_,_,_,_,_,_,_,_,_,_,_,_,_,_,_,_,_,_,_,_] _
           exact hk _ _ ⟨O, (by simp only [upd, Nat.reduceBEq, Bool.true_or, Bool.false_or, q11_, q12_, cnd_t, cnd_f, Asc_t, Asc_f]), hs.cast (by simp only [upd, Nat.reduceBEq, Bool.true_or, Bool.false_or, q11_, q12_, cnd_t, cnd_f, Asc_t, Asc_f])⟩
          ·
           intro D t w hD hp hcl hI rest hk
           obtain ⟨O, ht, hs⟩ := hI
           have hp : AllDone D [9, 10, 8] := hp
           obtain ⟨p9_, p10_, p8_, _⟩ := hp
           have q12_ : D 12 = false := not_yet (show D 12 = true → AllDone D [11, 8] from hcl 12 (by decide)) 0 11 rfl hD
           simp only [hD, p9_, p10_, q12_, cnd_t, cnd_f, Asc_t, Asc_f] at ht hs
           subst ht
           refine g_op_not rfl rfl ?_
           show G _ _ _ _ [_,_,_,_,_,_,_,_,_,_,_,_,_,_,_,_,_,_,_,_,_,_,_,_,_,_,_,_,_,_,_,_,_,_,_,_,_,_] _
           exact hk _ _ ⟨O, (by simp only [upd, Nat.reduceBEq, Bool.true_or, Bool.false_or, p9_, p10_, q12_, cnd_t, cnd_f, Asc_t, Asc_f]), hs.cast (by simp only [upd, Nat.reduceBEq, Bool.true_or, Bool.false_or, p9_, p10_, q12_, cnd_t, cnd_f, Asc_t, Asc_f])⟩
          ·
           intro D t w hD hp hcl hI rest hk
           obtain ⟨O, ht, hs⟩ := hI
           have hp : AllDone D [11, 8] := hp
           obtain ⟨p11_, p8_, _⟩ := hp
           obtain ⟨p9_, p10_, _, _⟩ := (show D 11 = true → AllDone D [9, 10, 8] from hcl 11 (by decide)) p11_
           simp only [hD, p9_, p10_, p11_, cnd_t, cnd_f, Asc_t, Asc_f] at ht hs
           subst ht
           refine g_op_not rfl rfl ?_
           show G _ _ _ _ [_,_,_,_,_,_,_,_,_,_,_,_,_,_,_,_,_,_,_,_,_,_,_,_,_,_,_,_,_,_,_,_,_,_,_,_,_,_] _
           exact hk _ _ ⟨O, (by simp only [upd, Nat.reduceBEq, Bool.true_or, Bool.false_or, p9_, p10_, p11_, cnd_t, cnd_f, Asc_t, Asc_f]), hs.cast (by simp only [upd, Nat.reduceBEq, Bool.true_or, Bool.false_or, p9_, p10_, p11_, cnd_t, cnd_f, Asc_t, Asc_f])⟩
          ·
           intro D t w hD hp hcl hI rest hk
           obtain ⟨O, ht, hs⟩ := hI
           have hp : AllDone D [8] := hp
           obtain ⟨p8_, _⟩ := hp
           have q16_ : D 16 = false := not_yet (show D 16 = true → AllDone D [13, 15, 8] from hcl 16 (by decide)) 0 13 rfl hD
           have q17_ : D 17 = false := not_yet (show D 17 = true → AllDone D [16, 8] from hcl 17 (by decide)) 0 16 rfl q16_
           simp only [hD, q16_, q17_, cnd_t, cnd_f, Asc_t, Asc_f] at ht hs
           subst ht
           refine g_op_not rfl rfl ?_
           show G _ _ _ _ [_,_,_,_,_,_,_,_,_,_,_,_,_,_,_,_,_,_,_,_,_,_,_,_,_,_,_,_,_,_,_,_,_,_,_,_,_,_] _
           exact hk _ _ ⟨O, (by simp only [upd, Nat.reduceBEq, Bool.true_or, Bool.false_or, q16_, q17_, cnd_t, cnd_f, Asc_t, Asc_f]), hs.cast (by simp only [upd, Nat.reduceBEq, Bool.true_or, Bool.false_or, q16_, q17_, cnd_t, cnd_f, Asc_t, Asc_f])⟩
          ·
           intro D t w hD hp hcl hI rest hk
           obtain ⟨O, ht, hs⟩ := hI
           have hp : AllDone D [8] := hp
           obtain ⟨p8_, _⟩ := hp
           have q15_ : D 15 = false := not_yet (show D 15 = true → AllDone D [14, 8] from hcl 15 (by decide)) 0 14 rfl hD
           have q16_ : D 16 = false := not_yet (show D 16 = true → AllDone D [13, 15, 8] from hcl 16 (by decide)) 1 15 rfl q15_
           have q17_ : D 17 = false := not_yet (show D 17 = true → AllDone D [16, 8] from hcl 17 (by decide)) 0 16 rfl q16_
           simp only [hD, q15_, q16_, q17_, cnd_t, cnd_f, Asc_t, Asc_f] at ht hs
           subst ht
           refine g_op_not rfl rfl ?_
           show G _ _ _ _ [_,_,_,_,_,_,_,_,_,_,_,_,_,_,_,_,_,_,_,_,_,_,_,_,_,_,_,_,_,_,_,_,_,_,_,_,_,_] _
           exact hk _ _ ⟨O, (by simp only [upd, Nat.reduceBEq, Bool.true_or, Bool.false_or, q15_, q16_, q17_, cnd_t, cnd_f, Asc_t, Asc_f]), hs.cast (by simp only [upd, Nat.reduceBEq, Bool.true_or, Bool.false_or, q15_, q16_, q17_, cnd_t, cnd_f, Asc_t, Asc_f])⟩
          ·
           intro D t w hD hp hcl hI rest hk
           obtain ⟨O, ht, hs⟩ := hI
           have hp : AllDone D [14, 8] := hp
           obtain ⟨p14_, p8_, _⟩ := hp
           have q16_ : D 16 = false := not_yet (show D 16 = true → AllDone D [13, 15, 8] from hcl 16 (by decide)) 1 15 rfl hD
           have q17_ : D 17 = false := not_yet (show D 17 = true → AllDone D [16, 8] from hcl 17 (by decide)) 0 16 rfl q16_
           simp only [hD, p14_, q16_, q17_, cnd_t, cnd_f, Asc_t, Asc_f] at ht hs
           subst ht
           refine g_op_not rfl rfl ?_
           show G _ _ _ _ [_,_,_,_,_,_,_,_,_,_,_,_,_,_,_,_,_,_,_,_,_,_,_,_,_,_,_,_,_,_,_,_,_,_,_,_,_,_] _
           exact hk _ _ ⟨O, (by simp only [upd, Nat.reduceBEq, Bool.true_or, Bool.false_or, p14_, q16_, q17_, cnd_t, cnd_f, Asc_t, Asc_f]), hs.cast (by simp only [upd, Nat.reduceBEq, Bool.true_or, Bool.false_or, p14_, q16_, q17_, cnd_t, cnd_f, Asc_t, Asc_f])⟩
          ·
           intro D t w hD hp hcl hI rest hk
           obtain ⟨O, ht, hs⟩ := hI
           have hp : AllDone D [13, 15, 8] := hp
           obtain ⟨p13_, p15_, p8_, _⟩ := hp
           obtain ⟨p14_, _, _⟩ := (show D 15 = true → AllDone D [14, 8] from hcl 15 (by decide)) p15_
           have q17_ : D 17 = false := not_yet (show D 17 = true → AllDone D [16, 8] from hcl 17 (by decide)) 0 16 rfl hD
           simp only [hD, p13_, p14_, p15_, q17_, cnd_t, cnd_f, Asc_t, Asc_f] at ht hs
           subst ht
           refine g_op_not rfl rfl ?_
           show G _ _ _ _ [_,_,_,_,_,_,_,_,_,_,_,_,_,_,_,_,_,_,_,_,_,_,_,_,_,_,_,_,_,_,_,_,_,_,_,_,_,_] _
           exact hk _ _ ⟨O, (by simp only [upd, Nat.reduceBEq, Bool.true_or, Bool.false_or, p13_, p14_, p15_, q17_, cnd_t, cnd_f, Asc_t, Asc_f]), hs.cast (by simp only [upd, Nat.reduceBEq, Bool.true_or, Bool.false_or, p13_, p14_, p15_, q17_, cnd_t, cnd_f, Asc_t, Asc_f])⟩
          ·
           intro D t w hD hp hcl hI rest hk
           obtain ⟨O, ht, hs⟩ := hI
           have hp : AllDone D [16, 8] := hp
           obtain ⟨p16_, p8_, _⟩ := hp
           obtain ⟨p13_, p15_, _, _⟩ := (show D 16 = true → AllDone D [13, 15, 8] from hcl 16 (by decide)) p16_
           obtain ⟨p14_, _, _⟩ := (show D 15 = true → AllDone D [14, 8] from hcl 15 (by decide)) p15_
           simp only [hD, p13_, p14_, p15_, p16_, cnd_t, cnd_f, Asc_t, Asc_f] at ht hs
           subst ht
           refine g_op_not rfl rfl ?_
           show G _ _ _ _ [_,_,_,_,_,_,_,_,_,_,_,_,_,_,_,_,_,_,_,_,_,_,_,_,_,_,_,_,_,_,_,_,_,_,_,_,_,_] _
           exact hk _ _ ⟨O, (by simp only [upd, Nat.reduceBEq, Bool.true_or, Bool.false_or, p13_, p14_, p15_, p16_, cnd_t, cnd_f, Asc_t, Asc_f]), hs.cast (by simp only [upd, Nat.reduceBEq, Bool.true_or, Bool.false_or, p13_, p14_, p15_, p16_, cnd_t, cnd_f, Asc_t, Asc_f])⟩
          ·
           intro D t w rest hall hO10_ hI
           obtain ⟨O, ht, hs⟩ := hI
           have p9_ : D 9 = true := hall 9 (by decide) rfl
           have p10_ : D 10 = true := hall 10 (by decide) rfl
           have p11_ : D 11 = true := hall 11 (by decide) rfl
           have p12_ : D 12 = true := hall 12 (by decide) rfl
           have p13_ : D 13 = true := hall 13 (by decide) rfl
           have p14_ : D 14 = true := hall 14 (by decide) rfl
           have p15_ : D 15 = true := hall 15 (by decide) rfl
           have p16_ : D 16 = true := hall 16 (by decide) rfl
           have p17_ : D 17 = true := hall 17 (by decide) rfl
           simp only [p9_, p10_, p11_, p12_, p13_, p14_, p15_, p16_, p17_, cnd_t, cnd_f, Asc_t, Asc_f] at ht hs
           subst ht
           obtain ⟨rest, rfl, hO11_⟩ := ord_one (m := 262143) hO10_ rfl 18 (m' := 524287) (by decide +kernel) rfl
           clear hO10_
           refine g_op_not rfl rfl ?_
           show G _ _ _ _ [_,_,_,_,_,_,_,_,_,_,_,_,_,_,_,_,_,_,_,_,_,_,_,_,_,_,_,_,_,_,_,_,_,_,_,_,_,_] _
           obtain ⟨rest, rfl, hO12_⟩ := ord_one (m := 524287) hO11_ rfl 19 (m' := 1048575) (by decide +kernel) rfl
           clear hO11_
           refine g_op_not rfl rfl ?_
           show G _ _ _ _ [_,_,_,_,_,_,_,_,_,_,_,_,_,_,_,_,_,_,_,_,_,_,_,_,_,_,_,_,_,_,_,_,_,_,_,_,_,_] _
           obtain ⟨rest, rfl, hO13_⟩ := ord_one (m := 1048575) hO12_ rfl 20 (m' := 2097151) (by decide +kernel) rfl
           clear hO12_
           refine g_op (v := Value.bool true) rfl rfl rfl ?_
           show G _ _ _ _ [_,_,_,_,_,_,_,_,_,_,_,_,_,_,_,_,_,_,_,_,_,_,_,_,_,_,_,_,_,_,_,_,_,_,_,_,_,_] _
           obtain rfl := ord_end hO13_ rfl (by decide +kernel)
           refine g_ops_nil ?_
           refine g_cond_true rfl ?_
           refine g_seq ?_
           refine g_region ?_
           show G _ _ _ (.inRegion _ [0] :: _) _ _
           refine g_op (v := Value.bool false) rfl rfl rfl ?_
           show G _ _ _ _ [_,_,_,_,_,_,_,_,_,_,_,_,_,_,_,_,_,_,_,_,_,_,_,_,_,_,_,_,_,_,_,_,_,_,_,_,_,_] _
           refine g_ops_nil ?_
           obtain rfl := Option.some.inj H
           subst Hx1_
           have H := Option.some.inj Hr1_
           subst H
           refine g_ret Try.func15 (v := Value.bool false) (res1 rfl rfl) ?_
           have hs : St _ [] _ := St.take (Γ' := []) hs
           exact ⟨_, rfl, rfl, hs⟩
         ·
          intro hb
          rw [if_neg (b_dec_f hb)] at H
          show G _ _ _ _ [_,_,_,_,_,_,_,_,_,_,_,_,_,_,_,_,_,_,_,_,_,_,_,_,_,_,_,_,_,_,_,_,_,_,_,_,_,_] _
          obtain ⟨rest, rfl, hO14_⟩ := ord_one (m := 31) hO5_ rfl 5 (m' := 63) (by decide +kernel) rfl
          clear hO5_
          refine g_op (v := Value.bool false) rfl rfl rfl ?_
          obtain ⟨rest, rfl, hO15_⟩ := ord_one (m := 63) hO14_ rfl 6 (m' := 127) (by decide +kernel) rfl
          clear hO14_
          refine g_op (v := Value.int .i64 x4) rfl rfl rfl ?_
          obtain ⟨rest, rfl, hO16_⟩ := ord_one (m := 127) hO15_ rfl 7 (m' := 255) (by decide +kernel) rfl
          clear hO15_
          refine g_op_b (B := decide (x4 > 0)) rfl rfl rfl ?_ ?_
          ·
           intro hb
           rw [if_pos (b_dec_t hb)] at H
           show G _ _ _ _ [_,_,_,_,_,_,_,_,_,_,_,_,_,_,_,_,_,_,_,_,_,_,_,_,_,_,_,_,_,_,_,_,_,_,_,_,_,_] _
           obtain ⟨rest, rfl, hO17_⟩ := ord_one (m := 255) hO16_ rfl 8 (m' := 511) (by decide +kernel) rfl
           clear hO16_
           refine g_op (v := Value.bool true) rfl rfl rfl ?_
           obtain ⟨gd19, H⟩ := ite_get H
           obtain ⟨ad20_, ad20_N, ad20_C, had20_⟩ := sl_at (hs.rd hr0) gd19.1 gd19.2
           obtain ⟨gd21, H⟩ := ite_get H
           obtain ⟨ad22_, ad22_N, ad22_C, had22_⟩ := sl_at (hs.rd hr0) gd21.1 gd21.2
           refine g_name ?_
           intro T hT
           refine g_layer (m0 := 511) hO17_ rfl 262143 [9, 10, 11, 12, 13, 14, 15, 16, 17] [0, 0, 3, 7, 15, 31, 63, 127, 255, 511, 511, 2047, 4095, 511, 511, 16895, 57855, 123391, 262143, 524287, 1048575] (by decide +kernel) (fun D t w => ∃ O : Nat → Value, t = [v2, O 1, O 2, Value.int .i64 x4, O 4, O 5, O 6, O 7, Value.int .i64 x4, v2, Value.int .i64 (a1.length : Int), Value.bool true, O 12, O 13, v2, Value.int .i64 x4, Value.pointer (some p5), Value.int .i16 (rdL a1 x4 0), Value.bool false, Value.bool false, Value.int .i64 x4, Value.bool true, Value.bool true, cnd (D 9) v2 (O 23), cnd (D 10) (Value.int .i64 x4) (O 24), cnd (D 11) (Value.pointer (some (ad20_.add (x4.toNat * 1)))) (O 25), cnd (D 12) (Value.int .i16 (rdL a1 x4 0)) (O 26), cnd (D 13) v2 (O 27), cnd (D 14) (Value.int .i64 x4) (O 28), cnd (D 15) (Value.int .i64 (i64w (x4 - 1))) (O 29), cnd (D 16) (Value.pointer (some (ad22_.add ((i64w (x4 - 1)).toNat * 1)))) (O 30), cnd (D 17) (Value.int .i16 (rdL a1 (i64w (x4 - 1)) 0)) (O 31), O 32, O 33, O 34, O 35, O 36, O 37] ∧ St w0 [] w) ?_ ⟨?_, ⟨?_, ⟨?_, ⟨?_, ⟨?_, ⟨?_, ⟨?_, ⟨?_, ⟨?_, trivial⟩⟩⟩⟩⟩⟩⟩⟩⟩ ?_
           · exact ⟨fun i => T.getD i undef, (by subst hT; rfl), hs⟩
           ·
            intro D t w hD hp hcl hI rest hk
            obtain ⟨O, ht, hs⟩ := hI
            have hp : AllDone D [8] := hp
            obtain ⟨p8_, _⟩ := hp
            have q11_ : D 11 = false := not_yet (show D 11 = true → AllDone D [9, 10, 8] from hcl 11 (by decide)) 0 9 rfl hD
            have q12_ : D 12 = false := not_yet (show D 12 = true → AllDone D [11, 8] from hcl 12 (by decide)) 0 11 rfl q11_
            simp only [hD, q11_, q12_, cnd_t, cnd_f, Asc_t, Asc_f] at ht hs
            subst ht
            refine g_op (v := v2) rfl rfl rfl ?_
            show G _ _ _ _ [_,_,_,_,_,_,_,_,_,_,_,_,_,_,_,_,_,_,_,_,_,_,_,_,_,_,_,_,_,_,_,_,_,_,_,_,_,_] _
            exact hk _ _ ⟨O, (by simp only [upd, Nat.reduceBEq, Bool.true_or, Bool.false_or, q11_, q12_, cnd_t, cnd_f, Asc_t, Asc_f]), hs.cast (by first | rfl | simp only [List.take, List.drop, List.cons_append, List.nil_append, List.set_cons_zero, List.set_cons_succ, List.eraseIdx, upd, Nat.reduceBEq, Bool.true_or, Bool.false_or, q11_, q12_, cnd_t, cnd_f, Asc_t, Asc_f])⟩
           ·
            intro D t w hD hp hcl hI rest hk
            obtain ⟨O, ht, hs⟩ := hI
            have hp : AllDone D [8] := hp
            obtain ⟨p8_, _⟩ := hp
            have q11_ : D 11 = false := not_yet (show D 11 = true → AllDone D [9, 10, 8] from hcl 11 (by decide)) 1 10 rfl hD
            have q12_ : D 12 = false := not_yet (show D 12 = true → AllDone D [11, 8] from hcl 12 (by decide)) 0 11 rfl q11_
            simp only [hD, q11_, q12_, cnd_t, cnd_f, Asc_t, Asc_f] at ht hs
            subst ht
            refine g_op (v := Value.int .i64 x4) rfl rfl rfl ?_
            show G _ _ _ _ [_,_,_,_,_,_,_,_,_,_,_,_,_,_,_,_,_,_,_,_,_,_,_,_,_,_,_,_,_,_,_,_,_,_,_,_,_,_] _
            exact hk _ _ ⟨O, (by simp only [upd, Nat.reduceBEq, Bool.true_or, Bool.false_or, q11_, q12_, cnd_t, cnd_f, Asc_t, Asc_f]), hs.cast (by first | rfl | simp only [List.take, List.drop, List.cons_append, List.nil_append, List.set_cons_zero, List.set_cons_succ, List.eraseIdx, upd, Nat.reduceBEq, Bool.true_or, Bool.false_or, q11_, q12_, cnd_t, cnd_f, Asc_t, Asc_f])⟩
           ·
            intro D t w hD hp hcl hI rest hk
            obtain ⟨O, ht, hs⟩ := hI
            have hp : AllDone D [9, 10, 8] := hp
            obtain ⟨p9_, p10_, p8_, _⟩ := hp
            have q12_ : D 12 = false := not_yet (show D 12 = true → AllDone D [11, 8] from hcl 12 (by decide)) 0 11 rfl hD
            simp only [hD, p9_, p10_, q12_, cnd_t, cnd_f, Asc_t, Asc_f] at ht hs
            subst ht
            refine s_idxD (κ := (K.int .i16)) (m := 1) rfl (hs.rd hr0) rfl (fun _ => rfl) gd19.1 gd19.2 had20_ rfl rfl rfl rfl rfl ?_
            show G _ _ _ _ [_,_,_,_,_,_,_,_,_,_,_,_,_,_,_,_,_,_,_,_,_,_,_,_,_,_,_,_,_,_,_,_,_,_,_,_,_,_] _
            exact hk _ _ ⟨O, (by simp only [upd, Nat.reduceBEq, Bool.true_or, Bool.false_or, p9_, p10_, q12_, cnd_t, cnd_f, Asc_t, Asc_f]), hs.cast (by first | rfl | simp only [List.take, List.drop, List.cons_append, List.nil_append, List.set_cons_zero, List.set_cons_succ, List.eraseIdx, upd, Nat.reduceBEq, Bool.true_or, Bool.false_or, p9_, p10_, q12_, cnd_t, cnd_f, Asc_t, Asc_f])⟩
           ·
            intro D t w hD hp hcl hI rest hk
            obtain ⟨O, ht, hs⟩ := hI
            have hp : AllDone D [11, 8] := hp
            obtain ⟨p11_, p8_, _⟩ := hp
            obtain ⟨p9_, p10_, _, _⟩ := (show D 11 = true → AllDone D [9, 10, 8] from hcl 11 (by decide)) p11_
            simp only [hD, p9_, p10_, p11_, cnd_t, cnd_f, Asc_t, Asc_f] at ht hs
            subst ht
            refine s_load1 rfl rfl (v := Value.int .i16 (rdL a1 x4 0)) rfl rfl (fun _ => rfl) (cellsAt_of (fkI .i16) 0 (hs.rd hr0) had20_ gd19.1 gd19.2) ?_
            show G _ _ _ _ [_,_,_,_,_,_,_,_,_,_,_,_,_,_,_,_,_,_,_,_,_,_,_,_,_,_,_,_,_,_,_,_,_,_,_,_,_,_] _
            exact hk _ _ ⟨O, (by simp only [upd, Nat.reduceBEq, Bool.true_or, Bool.false_or, p9_, p10_, p11_, cnd_t, cnd_f, Asc_t, Asc_f]), hs.cast (by first | rfl | simp only [List.take, List.drop, List.cons_append, List.nil_append, List.set_cons_zero, List.set_cons_succ, List.eraseIdx, upd, Nat.reduceBEq, Bool.true_or, Bool.false_or, p9_, p10_, p11_, cnd_t, cnd_f, Asc_t, Asc_f])⟩
           ·
            intro D t w hD hp hcl hI rest hk
            obtain ⟨O, ht, hs⟩ := hI
            have hp : AllDone D [8] := hp
            obtain ⟨p8_, _⟩ := hp
            have q16_ : D 16 = false := not_yet (show D 16 = true → AllDone D [13, 15, 8] from hcl 16 (by decide)) 0 13 rfl hD
            have q17_ : D 17 = false := not_yet (show D 17 = true → AllDone D [16, 8] from hcl 17 (by decide)) 0 16 rfl q16_
            simp only [hD, q16_, q17_, cnd_t, cnd_f, Asc_t, Asc_f] at ht hs
            subst ht
            refine g_op (v := v2) rfl rfl rfl ?_
            show G _ _ _ _ [_,_,_,_,_,_,_,_,_,_,_,_,_,_,_,_,_,_,_,_,_,_,_,_,_,_,_,_,_,_,_,_,_,_,_,_,_,_] _
            exact hk _ _ ⟨O, (by simp only [upd, Nat.reduceBEq, Bool.true_or, Bool.false_or, q16_, q17_, cnd_t, cnd_f, Asc_t, Asc_f]), hs.cast (by first | rfl | simp only [List.take, List.drop, List.cons_append, List.nil_append, List.set_cons_zero, List.set_cons_succ, List.eraseIdx, upd, Nat.reduceBEq, Bool.true_or, Bool.false_or, q16_, q17_, cnd_t, cnd_f, Asc_t, Asc_f])⟩
           ·
            intro D t w hD hp hcl hI rest hk
            obtain ⟨O, ht, hs⟩ := hI
            have hp : AllDone D [8] := hp
            obtain ⟨p8_, _⟩ := hp
            have q15_ : D 15 = false := not_yet (show D 15 = true → AllDone D [14, 8] from hcl 15 (by decide)) 0 14 rfl hD
            have q16_ : D 16 = false := not_yet (show D 16 = true → AllDone D [13, 15, 8] from hcl 16 (by decide)) 1 15 rfl q15_
            have q17_ : D 17 = false := not_yet (show D 17 = true → AllDone D [16, 8] from hcl 17 (by decide)) 0 16 rfl q16_
            simp only [hD, q15_, q16_, q17_, cnd_t, cnd_f, Asc_t, Asc_f] at ht hs
            subst ht
            refine g_op (v := Value.int .i64 x4) rfl rfl rfl ?_
            show G _ _ _ _ [_,_,_,_,_,_,_,_,_,_,_,_,_,_,_,_,_,_,_,_,_,_,_,_,_,_,_,_,_,_,_,_,_,_,_,_,_,_] _
            exact hk _ _ ⟨O, (by simp only [upd, Nat.reduceBEq, Bool.true_or, Bool.false_or, q15_, q16_, q17_, cnd_t, cnd_f, Asc_t, Asc_f]), hs.cast (by first | rfl | simp only [List.take, List.drop, List.cons_append, List.nil_append, List.set_cons_zero, List.set_cons_succ, List.eraseIdx, upd, Nat.reduceBEq, Bool.true_or, Bool.false_or, q15_, q16_, q17_, cnd_t, cnd_f, Asc_t, Asc_f])⟩
           ·
            intro D t w hD hp hcl hI rest hk
            obtain ⟨O, ht, hs⟩ := hI
            have hp : AllDone D [14, 8] := hp
            obtain ⟨p14_, p8_, _⟩ := hp
            have q16_ : D 16 = false := not_yet (show D 16 = true → AllDone D [13, 15, 8] from hcl 16 (by decide)) 1 15 rfl hD
            have q17_ : D 17 = false := not_yet (show D 17 = true → AllDone D [16, 8] from hcl 17 (by decide)) 0 16 rfl q16_
            simp only [hD, p14_, q16_, q17_, cnd_t, cnd_f, Asc_t, Asc_f] at ht hs
            subst ht
            refine g_op (v := Value.int .i64 (i64w (x4 - 1))) rfl rfl rfl ?_
            show G _ _ _ _ [_,_,_,_,_,_,_,_,_,_,_,_,_,_,_,_,_,_,_,_,_,_,_,_,_,_,_,_,_,_,_,_,_,_,_,_,_,_] _
            exact hk _ _ ⟨O, (by simp only [upd, Nat.reduceBEq, Bool.true_or, Bool.false_or, p14_, q16_, q17_, cnd_t, cnd_f, Asc_t, Asc_f]), hs.cast (by first | rfl | simp only [List.take, List.drop, List.cons_append, List.nil_append, List.set_cons_zero, List.set_cons_succ, List.eraseIdx, upd, Nat.reduceBEq, Bool.true_or, Bool.false_or, p14_, q16_, q17_, cnd_t, cnd_f, Asc_t, Asc_f])⟩
           ·
            intro D t w hD hp hcl hI rest hk
            obtain ⟨O, ht, hs⟩ := hI
            have hp : AllDone D [13, 15, 8] := hp
            obtain ⟨p13_, p15_, p8_, _⟩ := hp
            obtain ⟨p14_, _, _⟩ := (show D 15 = true → AllDone D [14, 8] from hcl 15 (by decide)) p15_
            have q17_ : D 17 = false := not_yet (show D 17 = true → AllDone D [16, 8] from hcl 17 (by decide)) 0 16 rfl hD
            simp only [hD, p13_, p14_, p15_, q17_, cnd_t, cnd_f, Asc_t, Asc_f] at ht hs
            subst ht
            refine s_idxD (κ := (K.int .i16)) (m := 1) rfl (hs.rd hr0) rfl (fun _ => rfl) gd21.1 gd21.2 had22_ rfl rfl rfl rfl rfl ?_
            show G _ _ _ _ [_,_,_,_,_,_,_,_,_,_,_,_,_,_,_,_,_,_,_,_,_,_,_,_,_,_,_,_,_,_,_,_,_,_,_,_,_,_] _
            exact hk _ _ ⟨O, (by simp only [upd, Nat.reduceBEq, Bool.true_or, Bool.false_or, p13_, p14_, p15_, q17_, cnd_t, cnd_f, Asc_t, Asc_f]), hs.cast (by first | rfl | simp only [List.take, List.drop, List.cons_append, List.nil_append, List.set_cons_zero, List.set_cons_succ, List.eraseIdx, upd, Nat.reduceBEq, Bool.true_or, Bool.false_or, p13_, p14_, p15_, q17_, cnd_t, cnd_f, Asc_t, Asc_f])⟩
           ·
            intro D t w hD hp hcl hI rest hk
            obtain ⟨O, ht, hs⟩ := hI
            have hp : AllDone D [16, 8] := hp
            obtain ⟨p16_, p8_, _⟩ := hp
            obtain ⟨p13_, p15_, _, _⟩ := (show D 16 = true → AllDone D [13, 15, 8] from hcl 16 (by decide)) p16_
            obtain ⟨p14_, _, _⟩ := (show D 15 = true → AllDone D [14, 8] from hcl 15 (by decide)) p15_
            simp only [hD, p13_, p14_, p15_, p16_, cnd_t, cnd_f, Asc_t, Asc_f] at ht hs
            subst ht
            refine s_load1 rfl rfl (v := Value.int .i16 (rdL a1 (i64w (x4 - 1)) 0)) rfl rfl (fun _ => rfl) (cellsAt_of (fkI .i16) 0 (hs.rd hr0) had22_ gd21.1 gd21.2) ?_
            show G _ _ _ _ [_,_,_,_,_,_,_,_,_,_,_,_,_,_,_,_,_,_,_,_,_,_,_,_,_,_,_,_,_,_,_,_,_,_,_,_,_,_] _
            exact hk _ _ ⟨O, (by simp only [upd, Nat.reduceBEq, Bool.true_or, Bool.false_or, p13_, p14_, p15_, p16_, cnd_t, cnd_f, Asc_t, Asc_f]), hs.cast (by first | rfl | simp only [List.take, List.drop, List.cons_append, List.nil_append, List.set_cons_zero, List.set_cons_succ, List.eraseIdx, upd, Nat.reduceBEq, Bool.true_or, Bool.false_or, p13_, p14_, p15_, p16_, cnd_t, cnd_f, Asc_t, Asc_f])⟩
           ·
            intro D t w rest hall hO18_ hI
            obtain ⟨O, ht, hs⟩ := hI
            have p9_ : D 9 = true := hall 9 (by decide) rfl
            have p10_ : D 10 = true := hall 10 (by decide) rfl
            have p11_ : D 11 = true := hall 11 (by decide) rfl
            have p12_ : D 12 = true := hall 12 (by decide) rfl
            have p13_ : D 13 = true := hall 13 (by decide) rfl
            have p14_ : D 14 = true := hall 14 (by decide) rfl
            have p15_ : D 15 = true := hall 15 (by decide) rfl
            have p16_ : D 16 = true := hall 16 (by decide) rfl
            have p17_ : D 17 = true := hall 17 (by decide) rfl
            simp only [p9_, p10_, p11_, p12_, p13_, p14_, p15_, p16_, p17_, cnd_t, cnd_f, Asc_t, Asc_f] at ht hs
            subst ht
            obtain ⟨rest, rfl, hO23_⟩ := ord_one (m := 262143) hO18_ rfl 18 (m' := 524287) (by decide +kernel) rfl
            clear hO18_
            refine g_op (v := Value.bool (decide ((rdL a1 x4 0) < (rdL a1 (i64w (x4 - 1)) 0)))) rfl rfl rfl ?_
            show G _ _ _ _ [_,_,_,_,_,_,_,_,_,_,_,_,_,_,_,_,_,_,_,_,_,_,_,_,_,_,_,_,_,_,_,_,_,_,_,_,_,_] _
            obtain ⟨rest, rfl, hO24_⟩ := ord_one (m := 524287) hO23_ rfl 19 (m' := 1048575) (by decide +kernel) rfl
            clear hO23_
            refine g_op_b (B := decide ((rdL a1 x4 0) < (rdL a1 (i64w (x4 - 1)) 0))) rfl rfl rfl ?_ ?_
            ·
             intro hb
             rw [if_pos (b_dec_t hb)] at H
             show G _ _ _ _ [_,_,_,_,_,_,_,_,_,_,_,_,_,_,_,_,_,_,_,_,_,_,_,_,_,_,_,_,_,_,_,_,_,_,_,_,_,_] _
             obtain ⟨rest, rfl, hO25_⟩ := ord_one (m := 1048575) hO24_ rfl 20 (m' := 2097151) (by decide +kernel) rfl
             clear hO24_
             refine g_op (v := Value.bool true) rfl rfl rfl ?_
             show G _ _ _ _ [_,_,_,_,_,_,_,_,_,_,_,_,_,_,_,_,_,_,_,_,_,_,_,_,_,_,_,_,_,_,_,_,_,_,_,_,_,_] _
             obtain rfl := ord_end hO25_ rfl (by decide +kernel)
             refine g_ops_nil ?_
             refine g_cond_true rfl ?_
             refine g_seq ?_
             refine g_region ?_
             show G _ _ _ (.inRegion _ [0] :: _) _ _
             refine g_op (v := Value.bool false) rfl rfl rfl ?_
             show G _ _ _ _ [_,_,_,_,_,_,_,_,_,_,_,_,_,_,_,_,_,_,_,_,_,_,_,_,_,_,_,_,_,_,_,_,_,_,_,_,_,_] _
             refine g_ops_nil ?_
             obtain rfl := Option.some.inj H
             subst Hx1_
             have H := Option.some.inj Hr1_
             subst H
             refine g_ret Try.func15 (v := Value.bool false) (res1 rfl rfl) ?_
             have hs : St _ [] _ := St.take (Γ' := []) hs
             exact ⟨_, rfl, rfl, hs⟩
            ·
             intro hb
             rw [if_neg (b_dec_f hb)] at H
             show G _ _ _ _ [_,_,_,_,_,_,_,_,_,_,_,_,_,_,_,_,_,_,_,_,_,_,_,_,_,_,_,_,_,_,_,_,_,_,_,_,_,_] _
             obtain ⟨rest, rfl, hO26_⟩ := ord_one (m := 1048575) hO24_ rfl 20 (m' := 2097151) (by decide +kernel) rfl
             clear hO24_
             refine g_op (v := Value.bool false) rfl rfl rfl ?_
             show G _ _ _ _ [_,_,_,_,_,_,_,_,_,_,_,_,_,_,_,_,_,_,_,_,_,_,_,_,_,_,_,_,_,_,_,_,_,_,_,_,_,_] _
             obtain rfl := ord_end hO26_ rfl (by decide +kernel)
             refine g_ops_nil ?_
             refine g_cond_false rfl ?_
             refine g_skip ?_
             refine g_inBlock ?_
             have hs : St _ [] _ := St.take (Γ' := []) hs
             exact ha _ _ ⟨true, H, rfl, hs⟩
          ·
           intro hb
           rw [if_neg (b_dec_f hb)] at H
           show G _ _ _ _ [_,_,_,_,_,_,_,_,_,_,_,_,_,_,_,_,_,_,_,_,_,_,_,_,_,_,_,_,_,_,_,_,_,_,_,_,_,_] _
           obtain ⟨rest, rfl, hO27_⟩ := ord_one (m := 255) hO16_ rfl 8 (m' := 511) (by decide +kernel) rfl
           clear hO16_
           refine g_op (v := Value.bool false) rfl rfl rfl ?_
           refine g_name ?_
           intro T hT
           refine g_layer (m0 := 511) hO27_ rfl 262143 [9, 10, 11, 12, 13, 14, 15, 16, 17] [0, 0, 3, 7, 15, 31, 63, 127, 255, 511, 511, 2047, 4095, 511, 511, 16895, 57855, 123391, 262143, 524287, 1048575] (by decide +kernel) (fun D t w => ∃ O : Nat → Value, t = [v2, O 1, O 2, Value.int .i64 x4, O 4, O 5, O 6, O 7, Value.int .i64 x4, v2, Value.int .i64 (a1.length : Int), Value.bool true, O 12, O 13, v2, Value.int .i64 x4, Value.pointer (some p5), Value.int .i16 (rdL a1 x4 0), Value.bool false, Value.bool false, Value.int .i64 x4, Value.bool false, Value.bool false, cnd (D 9) undef (O 23), cnd (D 10) undef (O 24), cnd (D 11) undef (O 25), cnd (D 12) undef (O 26), cnd (D 13) undef (O 27), cnd (D 14) undef (O 28), cnd (D 15) undef (O 29), cnd (D 16) undef (O 30), cnd (D 17) undef (O 31), O 32, O 33, O 34, O 35, O 36, O 37] ∧ St w0 [] w) ?_ ⟨?_, ⟨?_, ⟨?_, ⟨?_, ⟨?_, ⟨?_, ⟨?_, ⟨?_, ⟨?_, trivial⟩⟩⟩⟩⟩⟩⟩⟩⟩ ?_
           · exact ⟨fun i => T.getD i undef, (by subst hT; rfl), hs⟩
           ·
            intro D t w hD hp hcl hI rest hk
            obtain ⟨O, ht, hs⟩ := hI
            have hp : AllDone D [8] := hp
            obtain ⟨p8_, _⟩ := hp
            have q11_ : D 11 = false := not_yet (show D 11 = true → AllDone D [9, 10, 8] from hcl 11 (by decide)) 0 9 rfl hD
            have q12_ : D 12 = false := not_yet (show D 12 = true → AllDone D [11, 8] from hcl 12 (by decide)) 0 11 rfl q11_
            simp only [hD, q11_, q12_, cnd_t, cnd_f, Asc_t, Asc_f] at ht hs
            subst ht
            refine g_op_not rfl rfl ?_
            show G _ _ _ _ [_,_,_,_,_,_,_,_,_,_,_,_,_,_,_,_,_,_,_,_,_,_,_,_,_,_,_,_,_,_,_,_,_,_,_,_,_,_] _
            exact hk _ _ ⟨O, (by simp only [upd, Nat.reduceBEq, Bool.true_or, Bool.false_or, q11_, q12_, cnd_t, cnd_f, Asc_t, Asc_f]), hs.cast (by simp only [upd, Nat.reduceBEq, Bool.true_or, Bool.false_or, q11_, q12_, cnd_t, cnd_f, Asc_t, Asc_f])⟩
           ·
            intro D t w hD hp hcl hI rest hk
            obtain ⟨O, ht, hs⟩ := hI
            have hp : AllDone D [8] := hp
            obtain ⟨p8_, _⟩ := hp
            have q11_ : D 11 = false := not_yet (show D 11 = true → AllDone D [9, 10, 8] from hcl 11 (by decide)) 1 10 rfl hD
            have q12_ : D 12 = false := not_yet (show D 12 = true → AllDone D [11, 8] from hcl 12 (by decide)) 0 11 rfl q11_
            simp only [hD, q11_, q12_, cnd_t, cnd_f, Asc_t, Asc_f] at ht hs
            subst ht
            refine g_op_not rfl rfl ?_
            show G _ _ _ _ [_,_,_,_,_,_,_,_,_,_,_,_,_,_,_,_,_,_,_,_,_,_,_,_,_,_,_,_,_,_,_,_,_,_,_,_,_,_] _
            exact hk _ _ ⟨O, (by simp only [upd, Nat.reduceBEq, Bool.true_or, Bool.false_or, q11_, q12_, cnd_t, cnd_f, Asc_t, Asc_f]), hs.cast (by simp only [upd, Nat.reduceBEq, Bool.true_or, Bool.false_or, q11_, q12_, cnd_t, cnd_f, Asc_t, Asc_f])⟩
           ·
            intro D t w hD hp hcl hI rest hk
            obtain ⟨O, ht, hs⟩ := hI
            have hp : AllDone D [9, 10, 8] := hp
            obtain ⟨p9_, p10_, p8_, _⟩ := hp
            have q12_ : D 12 = false := not_yet (show D 12 = true → AllDone D [11, 8] from hcl 12 (by decide)) 0 11 rfl hD
            simp only [hD, p9_, p10_, q12_, cnd_t, cnd_f, Asc_t, Asc_f] at ht hs
            subst ht
            refine g_op_not rfl rfl ?_
            show G _ _ _ _ [_,_,_,_,_,_,_,_,_,_,_,_,_,_,_,_,_,_,_,_,_,_,_,_,_,_,_,_,_,_,_,_,_,_,_,_,_,_] _
            exact hk _ _ ⟨O, (by simp only [upd, Nat.reduceBEq, Bool.true_or, Bool.false_or, p9_, p10_, q12_, cnd_t, cnd_f, Asc_t, Asc_f]), hs.cast (by simp only [upd, Nat.reduceBEq, Bool.true_or, Bool.false_or, p9_, p10_, q12_, cnd_t, cnd_f, Asc_t, Asc_f])⟩
           ·
            intro D t w hD hp hcl hI rest hk
            obtain ⟨O, ht, hs⟩ := hI
            have hp : AllDone D [11, 8] := hp
            obtain ⟨p11_, p8_, _⟩ := hp
            obtain ⟨p9_, p10_, _, _⟩ := (show D 11 = true → AllDone D [9, 10, 8] from hcl 11 (by decide)) p11_
            simp only [hD, p9_, p10_, p11_, cnd_t, cnd_f, Asc_t, Asc_f] at ht hs
            subst ht
            refine g_op_not rfl rfl ?_
            show G _ _ _ _ [_,_,_,_,_,_,_,_,_,_,_,_,_,_,_,_,_,_,_,_,_,_,_,_,_,_,_,_,_,_,_,_,_,_,_,_,_,_] _
            exact hk _ _ ⟨O, (by simp only [upd, Nat.reduceBEq, Bool.true_or, Bool.false_or, p9_, p10_, p11_, cnd_t, cnd_f, Asc_t, Asc_f]), hs.cast (by simp only [upd, Nat.reduceBEq, Bool.true_or, Bool.false_or, p9_, p10_, p11_, cnd_t, cnd_f, Asc_t, Asc_f])⟩
           ·
            intro D t w hD hp hcl hI rest hk
            obtain ⟨O, ht, hs⟩ := hI
            have hp : AllDone D [8] := hp
            obtain ⟨p8_, _⟩ := hp
            have q16_ : D 16 = false := not_yet (show D 16 = true → AllDone D [13, 15, 8] from hcl 16 (by decide)) 0 13 rfl hD
            have q17_ : D 17 = false := not_yet (show D 17 = true → AllDone D [16, 8] from hcl 17 (by decide)) 0 16 rfl q16_
            simp only [hD, q16_, q17_, cnd_t, cnd_f, Asc_t, Asc_f] at ht hs
            subst ht
            refine g_op_not rfl rfl ?_
            show G _ _ _ _ [_,_,_,_,_,_,_,_,_,_,_,_,_,_,_,_,_,_,_,_,_,_,_,_,_,_,_,_,_,_,_,_,_,_,_,_,_,_] _
            exact hk _ _ ⟨O, (by simp only [upd, Nat.reduceBEq, Bool.true_or, Bool.false_or, q16_, q17_, cnd_t, cnd_f, Asc_t, Asc_f]), hs.cast (by simp only [upd, Nat.reduceBEq, Bool.true_or, Bool.false_or, q16_, q17_, cnd_t, cnd_f, Asc_t, Asc_f])⟩
           ·
            intro D t w hD hp hcl hI rest hk
            obtain ⟨O, ht, hs⟩ := hI
            have hp : AllDone D [8] := hp
            obtain ⟨p8_, _⟩ := hp
            have q15_ : D 15 = false := not_yet (show D 15 = true → AllDone D [14, 8] from hcl 15 (by decide)) 0 14 rfl hD
            have q16_ : D 16 = false := not_yet (show D 16 = true → AllDone D [13, 15, 8] from hcl 16 (by decide)) 1 15 rfl q15_
            have q17_ : D 17 = false := not_yet (show D 17 = true → AllDone D [16, 8] from hcl 17 (by decide)) 0 16 rfl q16_
            simp only [hD, q15_, q16_, q17_, cnd_t, cnd_f, Asc_t, Asc_f] at ht hs
            subst ht
            refine g_op_not rfl rfl ?_
            show G _ _ _ _ [_,_,_,_,_,_,_,_,_,_,_,_,_,_,_,_,_,_,_,_,_,_,_,_,_,_,_,_,_,_,_,_,_,_,_,_,_,_] _
            exact hk _ _ ⟨O, (by simp only [upd, Nat.reduceBEq, Bool.true_or, Bool.false_or, q15_, q16_, q17_, cnd_t, cnd_f, Asc_t, Asc_f]), hs.cast (by simp only [upd, Nat.reduceBEq, Bool.true_or, Bool.false_or, q15_, q16_, q17_, cnd_t, cnd_f, Asc_t, Asc_f])⟩
           ·
            intro D t w hD hp hcl hI rest hk
            obtain ⟨O, ht, hs⟩ := hI
            have hp : AllDone D [14, 8] := hp
            obtain ⟨p14_, p8_, _⟩ := hp
            have q16_ : D 16 = false := not_yet (show D 16 = true → AllDone D [13, 15, 8] from hcl 16 (by decide)) 1 15 rfl hD
            have q17_ : D 17 = false := not_yet (show D 17 = true → AllDone D [16, 8] from hcl 17 (by decide)) 0 16 rfl q16_
            simp only [hD, p14_, q16_, q17_, cnd_t, cnd_f, Asc_t, Asc_f] at ht hs
            subst ht
            refine g_op_not rfl rfl ?_
            show G _ _ _ _ [_,_,_,_,_,_,_,_,_,_,_,_,_,_,_,_,_,_,_,_,_,_,_,_,_,_,_,_,_,_,_,_,_,_,_,_,_,_] _
            exact hk _ _ ⟨O, (by simp only [upd, Nat.reduceBEq, Bool.true_or, Bool.false_or, p14_, q16_, q17_, cnd_t, cnd_f, Asc_t, Asc_f]), hs.cast (by simp only [upd, Nat.reduceBEq, Bool.true_or, Bool.false_or, p14_, q16_, q17_, cnd_t, cnd_f, Asc_t, Asc_f])⟩
           ·
            intro D t w hD hp hcl hI rest hk
            obtain ⟨O, ht, hs⟩ := hI
            have hp : AllDone D [13, 15, 8] := hp
            obtain ⟨p13_, p15_, p8_, _⟩ := hp
            obtain ⟨p14_, _, _⟩ := (show D 15 = true → AllDone D [14, 8] from hcl 15 (by decide)) p15_
            have q17_ : D 17 = false := not_yet (show D 17 = true → AllDone D [16, 8] from hcl 17 (by decide)) 0 16 rfl hD
            simp only [hD, p13_, p14_, p15_, q17_, cnd_t, cnd_f, Asc_t, Asc_f] at ht hs
            subst ht
            refine g_op_not rfl rfl ?_
            show G _ _ _ _ [_,_,_,_,_,_,_,_,_,_,_,_,_,_,_,_,_,_,_,_,_,_,_,_,_,_,_,_,_,_,_,_,_,_,_,_,_,_] _
            exact hk _ _ ⟨O, (by simp only [upd, Nat.reduceBEq, Bool.true_or, Bool.false_or, p13_, p14_, p15_, q17_, cnd_t, cnd_f, Asc_t, Asc_f]), hs.cast (by simp only [upd, Nat.reduceBEq, Bool.true_or, Bool.false_or, p13_, p14_, p15_, q17_, cnd_t, cnd_f, Asc_t, Asc_f])⟩
           ·
            intro D t w hD hp hcl hI rest hk
            obtain ⟨O, ht, hs⟩ := hI
            have hp : AllDone D [16, 8] := hp
            obtain ⟨p16_, p8_, _⟩ := hp
            obtain ⟨p13_, p15_, _, _⟩ := (show D 16 = true → AllDone D [13, 15, 8] from hcl 16 (by decide)) p16_
            obtain ⟨p14_, _, _⟩ := (show D 15 = true → AllDone D [14, 8] from hcl 15 (by decide)) p15_
            simp only [hD, p13_, p14_, p15_, p16_, cnd_t, cnd_f, Asc_t, Asc_f] at ht hs
            subst ht
            refine g_op_not rfl rfl ?_
            show G _ _ _ _ [_,_,_,_,_,_,_,_,_,_,_,_,_,_,_,_,_,_,_,_,_,_,_,_,_,_,_,_,_,_,_,_,_,_,_,_,_,_] _
            exact hk _ _ ⟨O, (by simp only [upd, Nat.reduceBEq, Bool.true_or, Bool.false_or, p13_, p14_, p15_, p16_, cnd_t, cnd_f, Asc_t, Asc_f]), hs.cast (by simp only [upd, Nat.reduceBEq, Bool.true_or, Bool.false_or, p13_, p14_, p15_, p16_, cnd_t, cnd_f, Asc_t, Asc_f])⟩
           ·
            intro D t w rest hall hO28_ hI
            obtain ⟨O, ht, hs⟩ := hI
            have p9_ : D 9 = true := hall 9 (by decide) rfl
            have p10_ : D 10 = true := hall 10 (by decide) rfl
            have p11_ : D 11 = true := hall 11 (by decide) rfl
            have p12_ : D 12 = true := hall 12 (by decide) rfl
            have p13_ : D 13 = true := hall 13 (by decide) rfl
            have p14_ : D 14 = true := hall 14 (by decide) rfl
            have p15_ : D 15 = true := hall 15 (by decide) rfl
            have p16_ : D 16 = true := hall 16 (by decide) rfl
            have p17_ : D 17 = true := hall 17 (by decide) rfl
            simp only [p9_, p10_, p11_, p12_, p13_, p14_, p15_, p16_, p17_, cnd_t, cnd_f, Asc_t, Asc_f] at ht hs
            subst ht
            obtain ⟨rest, rfl, hO29_⟩ := ord_one (m := 262143) hO28_ rfl 18 (m' := 524287) (by decide +kernel) rfl
            clear hO28_
            refine g_op_not rfl rfl ?_
            show G _ _ _ _ [_,_,_,_,_,_,_,_,_,_,_,_,_,_,_,_,_,_,_,_,_,_,_,_,_,_,_,_,_,_,_,_,_,_,_,_,_,_] _
            obtain ⟨rest, rfl, hO30_⟩ := ord_one (m := 524287) hO29_ rfl 19 (m' := 1048575) (by decide +kernel) rfl
            clear hO29_
            refine g_op (v := Value.bool false) rfl rfl rfl ?_
            show G _ _ _ _ [_,_,_,_,_,_,_,_,_,_,_,_,_,_,_,_,_,_,_,_,_,_,_,_,_,_,_,_,_,_,_,_,_,_,_,_,_,_] _
            obtain ⟨rest, rfl, hO31_⟩ := ord_one (m := 1048575) hO30_ rfl 20 (m' := 2097151) (by decide +kernel) rfl
            clear hO30_
            refine g_op (v := Value.bool false) rfl rfl rfl ?_
            show G _ _ _ _ [_,_,_,_,_,_,_,_,_,_,_,_,_,_,_,_,_,_,_,_,_,_,_,_,_,_,_,_,_,_,_,_,_,_,_,_,_,_] _
            obtain rfl := ord_end hO31_ rfl (by decide +kernel)
            refine g_ops_nil ?_
            refine g_cond_false rfl ?_
            refine g_skip ?_
            refine g_inBlock ?_
            have hs : St _ [] _ := St.take (Γ' := []) hs
            exact ha _ _ ⟨false, H, rfl, hs⟩
      ·
       intro hb
       rw [if_neg (b_dec_f hb)] at H
       show G _ _ _ _ [_,_,_,_,_,_,_,_,_,_,_,_,_,_,_,_,_,_,_,_,_,_,_,_,_,_,_,_,_,_,_,_,_,_,_,_,_,_] _
       refine g_ops_nil ?_
       refine g_cond_false rfl ?_
       obtain rfl := Option.some.inj H
       subst Hx1_
       have hs : St _ [] _ := St.take (Γ' := []) hs
       refine g_exit rfl ?_
       exact ha1_ _ _ ⟨Hr1_, rfl, hs⟩
  | false =>
    rw [if_neg Bool.false_ne_true] at H
    show G _ _ _ _ [_,_,_,_,_,_,_,_,_,_,_,_,_,_,_,_,_,_,_,_,_,_,_,_,_,_,_,_,_,_,_,_,_,_,_,_,_,_] _
    refine g_op (v := Value.bool true) rfl rfl rfl ?_
    show G _ _ _ _ [_,_,_,_,_,_,_,_,_,_,_,_,_,_,_,_,_,_,_,_,_,_,_,_,_,_,_,_,_,_,_,_,_,_,_,_,_,_] _
    refine g_ops_nil ?_
    refine g_cond_true rfl ?_
    refine g_seq ?_
    refine g_region ?_
    show G _ _ _ (.inRegion _ [0] :: _) _ _
    refine g_op (v := Value.bool false) rfl rfl rfl ?_
    show G _ _ _ _ [_,_,_,_,_,_,_,_,_,_,_,_,_,_,_,_,_,_,_,_,_,_,_,_,_,_,_,_,_,_,_,_,_,_,_,_,_,_] _
    refine g_ops_nil ?_
    obtain rfl := Option.some.inj H
    refine g_ret Try.func15 (v := Value.bool false) (res1 rfl rfl) ?_
    have hs : St _ [] _ := St.take (Γ' := []) hs
    exact ⟨_, rfl, rfl, hs⟩

/- function 25 spec_l01Least -/
def spec_l01Least.post (w0 : World) (r : Int) (v : Value) (w : World) : Prop := v = Value.int .i64 r ∧ St w0 [] w
set_option maxHeartbeats 8000000 in
set_option maxRecDepth 100000 in
theorem spec_l01Least.calls {N : Nat} {a1 : Bool} {w0 : World} {r : Int} (H : spec_l01Least.f N a1 = some r) :
    Calls Try.prog 25 #[Value.bool a1] w0 fun e w => ∃ v, e = .returned v ∧ spec_l01Least.post w0 r v w := by
  unfold spec_l01Least.f at H
  have hs : St w0 [] w0 := St.refl w0
  refine calls_of_g (n := 3) Try.func25 rfl rfl ?_
  show G _ _ _ _ [_,_,_,_] _
  refine g_seq ?_
  refine g_region ?_
  show G _ _ _ (.inRegion _ [0] :: _) _ _
  refine g_op (v := Value.int .i64 0) rfl rfl rfl ?_
  show G _ _ _ _ [_,_,_,_] _
  refine g_ops_nil ?_
  refine g_seq ?_
  refine g_seq ?_
  refine g_region ?_
  show G _ _ _ (.inRegion _ [0] :: _) _ _
  refine g_op_b (B := a1) rfl rfl rfl ?_ ?_
  ·
   intro hb
   rw [if_pos (b_var_t hb)] at H
   show G _ _ _ _ [_,_,_,_] _
   refine g_ops_nil ?_
   refine g_cond_true rfl ?_
   refine g_seq ?_
   refine g_region ?_
   show G _ _ _ (.inRegion _ [0] :: _) _ _
   refine g_op (v := Value.int .i64 (-1)) rfl rfl rfl ?_
   show G _ _ _ _ [_,_,_,_] _
   refine g_ops_nil ?_
   obtain rfl := Option.some.inj H
   refine g_ret Try.func25 (v := Value.int .i64 (-1)) (res1 rfl rfl) ?_
   have hs : St _ [] _ := St.take (Γ' := []) hs
   exact ⟨_, rfl, rfl, hs⟩
  ·
   intro hb
   rw [if_neg (b_var_f hb)] at H
   show G _ _ _ _ [_,_,_,_] _
   refine g_ops_nil ?_
   refine g_cond_false rfl ?_
   refine g_skip ?_
   refine g_seq ?_
   refine g_region ?_
   show G _ _ _ (.inRegion _ [0] :: _) _ _
   refine g_op (v := Value.int .i64 0) rfl rfl rfl ?_
   show G _ _ _ _ [_,_,_,_] _
   refine g_ops_nil ?_
   obtain rfl := Option.some.inj H
   refine g_ret Try.func25 (v := Value.int .i64 0) (res1 rfl rfl) ?_
   have hs : St _ [] _ := St.take (Γ' := []) hs
   exact ⟨_, rfl, rfl, hs⟩

end Go.Proofs.YtekcbhgojjdcoaaX
