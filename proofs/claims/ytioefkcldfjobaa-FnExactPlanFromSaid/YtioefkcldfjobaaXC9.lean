/- Contracts, printed by gen.py. -/
import Derived.Test.YtioefkcldfjobaaXT
import Derived.Test.YtioefkcldfjobaaProg
import Derived.Test.YtioefkcldfjobaaXRowR
import Derived.Test.YtioefkcldfjobaaXSeg
import Derived.Test.YtioefkcldfjobaaXKey
import Derived.Test.YtioefkcldfjobaaXIter
import Derived.Test.YtioefkcldfjobaaXRow2
import Derived.Test.YtioefkcldfjobaaXC1
import Derived.Test.YtioefkcldfjobaaXC4
import Derived.Test.YtioefkcldfjobaaXC5
import Derived.Test.YtioefkcldfjobaaXC8
namespace Go.Proofs.YtioefkcldfjobaaX
open Go Go.RowKit Go.Proofs
set_option linter.unusedVariables false
set_option linter.unusedSimpArgs false
/- function 13 laws_eqGlasses -/
def laws_eqGlasses.post (w0 : World) (r : Bool) (v : Value) (w : World) : Prop := v = Value.bool r ∧ St w0 [] w
set_option maxHeartbeats 8000000 in
set_option maxRecDepth 100000 in
theorem laws_eqGlasses.calls {N : Nat} {a1 : (List Int)} {a3 : (List Int)} {v2 : Value} {v4 : Value} {w0 : World} {r : Bool} (hr0 : RdRow (K.int .i16) w0 v2 a1) (hr1 : RdRow (K.int .i16) w0 v4 a3) (H : laws_eqGlasses.f N a1 a3 = some r) :
    Calls Try.prog 13 #[v2, v4] w0 fun e w => ∃ v, e = .returned v ∧ laws_eqGlasses.post w0 r v w := by
  unfold laws_eqGlasses.f at H
  have hs : St w0 [] w0 := St.refl w0
  refine calls_of_g (n := 24) Try.func13 rfl rfl ?_
  show G _ _ _ _ [_,_,_,_,_,_,_,_,_,_,_,_,_,_,_,_,_,_,_,_,_,_,_,_,_,_] _
  refine g_seq ?_
  refine g_region ?_
  show G _ _ _ (.inRegion _ [0] :: _) _ _
  refine g_op (v := Value.bool false) rfl rfl rfl ?_
  show G _ _ _ _ [_,_,_,_,_,_,_,_,_,_,_,_,_,_,_,_,_,_,_,_,_,_,_,_,_,_] _
  refine g_ops_nil ?_
  refine g_seq ?_
  refine g_seq ?_
  refine g_region ?_
  show G _ _ _ (.inRegion _ [0, 1, 2, 3, 4] :: _) _ _
  refine g_op (v := v2) rfl rfl rfl ?_
  refine s_len (hs.rd hr0) rfl rfl rfl rfl rfl ?_
  show G _ _ _ _ [_,_,_,_,_,_,_,_,_,_,_,_,_,_,_,_,_,_,_,_,_,_,_,_,_,_] _
  refine g_op (v := v4) rfl rfl rfl ?_
  refine s_len (hs.rd hr1) rfl rfl rfl rfl rfl ?_
  show G _ _ _ _ [_,_,_,_,_,_,_,_,_,_,_,_,_,_,_,_,_,_,_,_,_,_,_,_,_,_] _
  refine g_op_b (B := (a1.length : Int) != (a3.length : Int)) rfl rfl rfl ?_ ?_
  ·
   intro hb
   rw [if_neg (b_bne_t hb)] at H
   show G _ _ _ _ [_,_,_,_,_,_,_,_,_,_,_,_,_,_,_,_,_,_,_,_,_,_,_,_,_,_] _
   refine g_ops_nil ?_
   refine g_cond_true rfl ?_
   refine g_seq ?_
   refine g_region ?_
   show G _ _ _ (.inRegion _ [0] :: _) _ _
   refine g_op (v := Value.bool false) rfl rfl rfl ?_
   show G _ _ _ _ [_,_,_,_,_,_,_,_,_,_,_,_,_,_,_,_,_,_,_,_,_,_,_,_,_,_] _
   refine g_ops_nil ?_
   obtain rfl := Option.some.inj H
   refine g_ret Try.func13 (v := Value.bool false) (res1 rfl rfl) ?_
   have hs : St _ [] _ := St.take (Γ' := []) hs
   exact ⟨_, rfl, rfl, hs⟩
  ·
   intro hb
   rw [if_pos (b_bne_f hb)] at H
   show G _ _ _ _ [_,_,_,_,_,_,_,_,_,_,_,_,_,_,_,_,_,_,_,_,_,_,_,_,_,_] _
   refine g_ops_nil ?_
   refine g_cond_false rfl ?_
   refine g_skip ?_
   refine g_seq ?_
   refine g_seq ?_
   refine g_region ?_
   show G _ _ _ (.inRegion _ [0] :: _) _ _
   refine g_op (v := Value.int .i64 0) rfl rfl rfl ?_
   show G _ _ _ _ [_,_,_,_,_,_,_,_,_,_,_,_,_,_,_,_,_,_,_,_,_,_,_,_,_,_] _
   refine g_ops_nil ?_
   obtain ⟨o1_, Ho, Hr1_⟩ := bind_get H
   refine g_block_join (J := fun t w => laws_eqGlasses.a0 N = some r ∧ Fr t (fun O => ([O 0, O 1, O 2, O 3, O 4, O 5, O 6, O 7, O 8, O 9, O 10, O 11, O 12, O 13, O 14, O 15, O 16, O 17, O 18, O 19, O 20, O 21, O 22, O 23, O 24, O 25] : List Value)) ∧ St w0 [] w) ?_ ?_
   ·
    rintro t w ⟨H, hf, hs⟩
    obtain ⟨O, rfl⟩ := hf.open
    show G _ _ _ _ [_,_,_,_,_,_,_,_,_,_,_,_,_,_,_,_,_,_,_,_,_,_,_,_,_,_] _
    unfold laws_eqGlasses.a0 at H
    refine g_seq ?_
    refine g_region ?_
    show G _ _ _ (.inRegion _ [0] :: _) _ _
    refine g_op (v := Value.bool true) rfl rfl rfl ?_
    show G _ _ _ _ [_,_,_,_,_,_,_,_,_,_,_,_,_,_,_,_,_,_,_,_,_,_,_,_,_,_] _
    refine g_ops_nil ?_
    obtain rfl := Option.some.inj H
    refine g_ret Try.func13 (v := Value.bool true) (res1 rfl rfl) ?_
    have hs : St _ [] _ := St.take (Γ' := []) hs
    exact ⟨_, rfl, rfl, hs⟩
   ·
    intro ha1_
    have hs : St _ [] _ := St.take (Γ' := []) hs
    refine g_loop_fuel (I := fun n_ t w => ∃ x5 : Int, rounds (fun s => laws_eqGlasses.b0 N a1 a3 s) n_ x5 = some o1_ ∧ Fr t (fun O => ([v2, v4, O 2, O 3, O 4, Value.int .i64 x5, O 6, O 7, O 8, O 9, O 10, O 11, O 12, O 13, O 14, O 15, O 16, O 17, O 18, O 19, O 20, O 21, O 22, O 23, O 24, O 25] : List Value)) ∧ St w0 [] w) N ⟨0, Ho, rfl, hs⟩ ?_ ?_
    ·
     rintro _ _ ⟨x5, h, _⟩
     exact rounds_zero h
    ·
     intro n_ ih1_
     rintro t w ⟨x5, Ho, hf, hs⟩
     obtain ⟨O, rfl⟩ := hf.open
     show G _ _ _ _ [_,_,_,_,_,_,_,_,_,_,_,_,_,_,_,_,_,_,_,_,_,_,_,_,_,_] _
     obtain ⟨x7_, H, Hx1_⟩ := rounds_succ Ho
     have H : laws_eqGlasses.b0 N a1 a3 x5 = some x7_ := H
     unfold laws_eqGlasses.b0 at H
     refine g_seq ?_
     refine g_seq ?_
     refine g_region ?_
     show G _ _ _ (.inRegion _ [0, 1, 2, 3] :: _) _ _
     refine g_op (v := Value.int .i64 x5) rfl rfl rfl ?_
     refine g_op (v := v2) rfl rfl rfl ?_
     refine s_len (hs.rd hr0) rfl rfl rfl rfl rfl ?_
     show G _ _ _ _ [_,_,_,_,_,_,_,_,_,_,_,_,_,_,_,_,_,_,_,_,_,_,_,_,_,_] _
     refine g_op_b (B := decide (x5 < (a1.length : Int))) rfl rfl rfl ?_ ?_
     ·
      intro hb
      rw [if_pos (b_dec_t hb)] at H
      show G _ _ _ _ [_,_,_,_,_,_,_,_,_,_,_,_,_,_,_,_,_,_,_,_,_,_,_,_,_,_] _
      refine g_ops_nil ?_
      refine g_cond_true rfl ?_
      refine g_skip ?_
      refine g_seq ?_
      refine g_block ?_
      refine g_seq ?_
      refine g_lay (n := 9) rfl [0, 1, 2, 3, 4, 5, 6, 7, 8] [0, 1, 2, 3, 4, 5, 6, 7, 8] rfl rfl ?_
      intro rest w hh hbw hO
      have hs := hs.samew hh hbw
      show G _ _ _ _ [_,_,_,_,_,_,_,_,_,_,_,_,_,_,_,_,_,_,_,_,_,_,_,_,_,_] _
      obtain ⟨gd2, H⟩ := ite_get H
      obtain ⟨ad3_, ad3_N, ad3_C, had3_⟩ := sl_at (hs.rd hr0) gd2.1 gd2.2
      obtain ⟨gd4, H⟩ := ite_get H
      obtain ⟨ad5_, ad5_N, ad5_C, had5_⟩ := sl_at (hs.rd hr1) gd4.1 gd4.2
      refine g_name ?_
      intro T hT
      refine g_layer (m0 := 0) hO rfl 255 [0, 1, 2, 3, 4, 5, 6, 7] [0, 0, 3, 7, 0, 0, 48, 112, 255] (by decide +kernel) (fun D t w => ∃ O : Nat → Value, t = [v2, v4, O 2, O 3, O 4, Value.int .i64 x5, O 6, O 7, O 8, O 9, O 10, Value.int .i64 x5, v2, Value.int .i64 (a1.length : Int), Value.bool true, O 15, O 16, cnd (D 0) v2 (O 17), cnd (D 1) (Value.int .i64 x5) (O 18), cnd (D 2) (Value.pointer (some (ad3_.add (x5.toNat * 1)))) (O 19), cnd (D 3) (Value.int .i16 (rdL a1 x5 0)) (O 20), cnd (D 4) v4 (O 21), cnd (D 5) (Value.int .i64 x5) (O 22), cnd (D 6) (Value.pointer (some (ad5_.add (x5.toNat * 1)))) (O 23), cnd (D 7) (Value.int .i16 (rdL a3 x5 0)) (O 24), O 25] ∧ St w0 [] w) ?_ ⟨?_, ⟨?_, ⟨?_, ⟨?_, ⟨?_, ⟨?_, ⟨?_, ⟨?_, trivial⟩⟩⟩⟩⟩⟩⟩⟩ ?_
      · exact ⟨fun i => T.getD i undef, (by subst hT; rfl), hs⟩
      ·
       intro D t w hD hp hcl hI rest hk
       obtain ⟨O, ht, hs⟩ := hI
       have hp : AllDone D [] := hp
       have q2_ : D 2 = false := not_yet (show D 2 = true → AllDone D [0, 1] from hcl 2 (by decide)) 0 0 rfl hD
       have q3_ : D 3 = false := not_yet (show D 3 = true → AllDone D [2] from hcl 3 (by decide)) 0 2 rfl q2_
       simp only [hD, q2_, q3_, cnd_t, cnd_f, Asc_t, Asc_f] at ht hs
       subst ht
       refine g_op (v := v2) rfl rfl rfl ?_
       show G _ _ _ _ [_,_,_,_,_,_,_,_,_,_,_,_,_,_,_,_,_,_,_,_,_,_,_,_,_,_] _
       exact hk _ _ ⟨O, (by simp only [upd, Nat.reduceBEq, Bool.true_or, Bool.false_or, q2_, q3_, cnd_t, cnd_f, Asc_t, Asc_f]), hs.cast (by first | rfl | simp only [List.take, List.drop, List.cons_append, List.nil_append, List.set_cons_zero, List.set_cons_succ, List.eraseIdx, upd, Nat.reduceBEq, Bool.true_or, Bool.false_or, q2_, q3_, cnd_t, cnd_f, Asc_t, Asc_f])⟩
      ·
       intro D t w hD hp hcl hI rest hk
       obtain ⟨O, ht, hs⟩ := hI
       have hp : AllDone D [] := hp
       have q2_ : D 2 = false := not_yet (show D 2 = true → AllDone D [0, 1] from hcl 2 (by decide)) 1 1 rfl hD
       have q3_ : D 3 = false := not_yet (show D 3 = true → AllDone D [2] from hcl 3 (by decide)) 0 2 rfl q2_
       simp only [hD, q2_, q3_, cnd_t, cnd_f, Asc_t, Asc_f] at ht hs
       subst ht
       refine g_op (v := Value.int .i64 x5) rfl rfl rfl ?_
       show G _ _ _ _ [_,_,_,_,_,_,_,_,_,_,_,_,_,_,_,_,_,_,_,_,_,_,_,_,_,_] _
       exact hk _ _ ⟨O, (by simp only [upd, Nat.reduceBEq, Bool.true_or, Bool.false_or, q2_, q3_, cnd_t, cnd_f, Asc_t, Asc_f]), hs.cast (by first | rfl | simp only [List.take, List.drop, List.cons_append, List.nil_append, List.set_cons_zero, List.set_cons_succ, List.eraseIdx, upd, Nat.reduceBEq, Bool.true_or, Bool.false_or, q2_, q3_, cnd_t, cnd_f, Asc_t, Asc_f])⟩
      ·
       intro D t w hD hp hcl hI rest hk
       obtain ⟨O, ht, hs⟩ := hI
       have hp : AllDone D [0, 1] := hp
       obtain ⟨p0_, p1_, _⟩ := hp
       have q3_ : D 3 = false := not_yet (show D 3 = true → AllDone D [2] from hcl 3 (by decide)) 0 2 rfl hD
       simp only [hD, p0_, p1_, q3_, cnd_t, cnd_f, Asc_t, Asc_f] at ht hs
       subst ht
       refine s_idxD (κ := (K.int .i16)) (m := 1) rfl (hs.rd hr0) rfl (fun _ => rfl) gd2.1 gd2.2 had3_ rfl rfl rfl rfl rfl ?_
       show G _ _ _ _ [_,_,_,_,_,_,_,_,_,_,_,_,_,_,_,_,_,_,_,_,_,_,_,_,_,_] _
       exact hk _ _ ⟨O, (by simp only [upd, Nat.reduceBEq, Bool.true_or, Bool.false_or, p0_, p1_, q3_, cnd_t, cnd_f, Asc_t, Asc_f]), hs.cast (by first | rfl | simp only [List.take, List.drop, List.cons_append, List.nil_append, List.set_cons_zero, List.set_cons_succ, List.eraseIdx, upd, Nat.reduceBEq, Bool.true_or, Bool.false_or, p0_, p1_, q3_, cnd_t, cnd_f, Asc_t, Asc_f])⟩
      ·
       intro D t w hD hp hcl hI rest hk
       obtain ⟨O, ht, hs⟩ := hI
       have hp : AllDone D [2] := hp
       obtain ⟨p2_, _⟩ := hp
       obtain ⟨p0_, p1_, _⟩ := (show D 2 = true → AllDone D [0, 1] from hcl 2 (by decide)) p2_
       simp only [hD, p0_, p1_, p2_, cnd_t, cnd_f, Asc_t, Asc_f] at ht hs
       subst ht
       refine s_load1 rfl rfl (v := Value.int .i16 (rdL a1 x5 0)) rfl rfl (fun _ => rfl) (cellsAt_of (fkI .i16) 0 (hs.rd hr0) had3_ gd2.1 gd2.2) ?_
       show G _ _ _ _ [_,_,_,_,_,_,_,_,_,_,_,_,_,_,_,_,_,_,_,_,_,_,_,_,_,_] _
       exact hk _ _ ⟨O, (by simp only [upd, Nat.reduceBEq, Bool.true_or, Bool.false_or, p0_, p1_, p2_, cnd_t, cnd_f, Asc_t, Asc_f]), hs.cast (by first | rfl | simp only [List.take, List.drop, List.cons_append, List.nil_append, List.set_cons_zero, List.set_cons_succ, List.eraseIdx, upd, Nat.reduceBEq, Bool.true_or, Bool.false_or, p0_, p1_, p2_, cnd_t, cnd_f, Asc_t, Asc_f])⟩
      ·
       intro D t w hD hp hcl hI rest hk
       obtain ⟨O, ht, hs⟩ := hI
       have hp : AllDone D [] := hp
       have q6_ : D 6 = false := not_yet (show D 6 = true → AllDone D [4, 5] from hcl 6 (by decide)) 0 4 rfl hD
       have q7_ : D 7 = false := not_yet (show D 7 = true → AllDone D [6] from hcl 7 (by decide)) 0 6 rfl q6_
       simp only [hD, q6_, q7_, cnd_t, cnd_f, Asc_t, Asc_f] at ht hs
       subst ht
       refine g_op (v := v4) rfl rfl rfl ?_
       show G _ _ _ _ [_,_,_,_,_,_,_,_,_,_,_,_,_,_,_,_,_,_,_,_,_,_,_,_,_,_] _
       exact hk _ _ ⟨O, (by simp only [upd, Nat.reduceBEq, Bool.true_or, Bool.false_or, q6_, q7_, cnd_t, cnd_f, Asc_t, Asc_f]), hs.cast (by first | rfl | simp only [List.take, List.drop, List.cons_append, List.nil_append, List.set_cons_zero, List.set_cons_succ, List.eraseIdx, upd, Nat.reduceBEq, Bool.true_or, Bool.false_or, q6_, q7_, cnd_t, cnd_f, Asc_t, Asc_f])⟩
      ·
       intro D t w hD hp hcl hI rest hk
       obtain ⟨O, ht, hs⟩ := hI
       have hp : AllDone D [] := hp
       have q6_ : D 6 = false := not_yet (show D 6 = true → AllDone D [4, 5] from hcl 6 (by decide)) 1 5 rfl hD
       have q7_ : D 7 = false := not_yet (show D 7 = true → AllDone D [6] from hcl 7 (by decide)) 0 6 rfl q6_
       simp only [hD, q6_, q7_, cnd_t, cnd_f, Asc_t, Asc_f] at ht hs
       subst ht
       refine g_op (v := Value.int .i64 x5) rfl rfl rfl ?_
       show G _ _ _ _ [_,_,_,_,_,_,_,_,_,_,_,_,_,_,_,_,_,_,_,_,_,_,_,_,_,_] _
       exact hk _ _ ⟨O, (by simp only [upd, Nat.reduceBEq, Bool.true_or, Bool.false_or, q6_, q7_, cnd_t, cnd_f, Asc_t, Asc_f]), hs.cast (by first | rfl | simp only [List.take, List.drop, List.cons_append, List.nil_append, List.set_cons_zero, List.set_cons_succ, List.eraseIdx, upd, Nat.reduceBEq, Bool.true_or, Bool.false_or, q6_, q7_, cnd_t, cnd_f, Asc_t, Asc_f])⟩
      ·
       intro D t w hD hp hcl hI rest hk
       obtain ⟨O, ht, hs⟩ := hI
       have hp : AllDone D [4, 5] := hp
       obtain ⟨p4_, p5_, _⟩ := hp
       have q7_ : D 7 = false := not_yet (show D 7 = true → AllDone D [6] from hcl 7 (by decide)) 0 6 rfl hD
       simp only [hD, p4_, p5_, q7_, cnd_t, cnd_f, Asc_t, Asc_f] at ht hs
       subst ht
       refine s_idxD (κ := (K.int .i16)) (m := 1) rfl (hs.rd hr1) rfl (fun _ => rfl) gd4.1 gd4.2 had5_ rfl rfl rfl rfl rfl ?_
       show G _ _ _ _ [_,_,_,_,_,_,_,_,_,_,_,_,_,_,_,_,_,_,_,_,_,_,_,_,_,_] _
       exact hk _ _ ⟨O, (by simp only [upd, Nat.reduceBEq, Bool.true_or, Bool.false_or, p4_, p5_, q7_, cnd_t, cnd_f, Asc_t, Asc_f]), hs.cast (by first | rfl | simp only [List.take, List.drop, List.cons_append, List.nil_append, List.set_cons_zero, List.set_cons_succ, List.eraseIdx, upd, Nat.reduceBEq, Bool.true_or, Bool.false_or, p4_, p5_, q7_, cnd_t, cnd_f, Asc_t, Asc_f])⟩
      ·
       intro D t w hD hp hcl hI rest hk
       obtain ⟨O, ht, hs⟩ := hI
       have hp : AllDone D [6] := hp
       obtain ⟨p6_, _⟩ := hp
       obtain ⟨p4_, p5_, _⟩ := (show D 6 = true → AllDone D [4, 5] from hcl 6 (by decide)) p6_
       simp only [hD, p4_, p5_, p6_, cnd_t, cnd_f, Asc_t, Asc_f] at ht hs
       subst ht
       refine s_load1 rfl rfl (v := Value.int .i16 (rdL a3 x5 0)) rfl rfl (fun _ => rfl) (cellsAt_of (fkI .i16) 0 (hs.rd hr1) had5_ gd4.1 gd4.2) ?_
       show G _ _ _ _ [_,_,_,_,_,_,_,_,_,_,_,_,_,_,_,_,_,_,_,_,_,_,_,_,_,_] _
       exact hk _ _ ⟨O, (by simp only [upd, Nat.reduceBEq, Bool.true_or, Bool.false_or, p4_, p5_, p6_, cnd_t, cnd_f, Asc_t, Asc_f]), hs.cast (by first | rfl | simp only [List.take, List.drop, List.cons_append, List.nil_append, List.set_cons_zero, List.set_cons_succ, List.eraseIdx, upd, Nat.reduceBEq, Bool.true_or, Bool.false_or, p4_, p5_, p6_, cnd_t, cnd_f, Asc_t, Asc_f])⟩
      ·
       intro D t w rest hall hO1_ hI
       obtain ⟨O, ht, hs⟩ := hI
       have p0_ : D 0 = true := hall 0 (by decide) rfl
       have p1_ : D 1 = true := hall 1 (by decide) rfl
       have p2_ : D 2 = true := hall 2 (by decide) rfl
       have p3_ : D 3 = true := hall 3 (by decide) rfl
       have p4_ : D 4 = true := hall 4 (by decide) rfl
       have p5_ : D 5 = true := hall 5 (by decide) rfl
       have p6_ : D 6 = true := hall 6 (by decide) rfl
       have p7_ : D 7 = true := hall 7 (by decide) rfl
       simp only [p0_, p1_, p2_, p3_, p4_, p5_, p6_, p7_, cnd_t, cnd_f, Asc_t, Asc_f] at ht hs
       subst ht
       obtain ⟨rest, rfl, hO6_⟩ := ord_one (m := 255) hO1_ rfl 8 (m' := 511) (by decide +kernel) rfl
       clear hO1_
       refine g_op_b (B := (rdL a1 x5 0) != (rdL a3 x5 0)) rfl rfl rfl ?_ ?_
       ·
        intro hb
        rw [if_neg (b_bne_t hb)] at H
        show G _ _ _ _ [_,_,_,_,_,_,_,_,_,_,_,_,_,_,_,_,_,_,_,_,_,_,_,_,_,_] _
        obtain rfl := ord_end hO6_ rfl (by decide +kernel)
        refine g_ops_nil ?_
        refine g_cond_true rfl ?_
        refine g_seq ?_
        refine g_region ?_
        show G _ _ _ (.inRegion _ [0] :: _) _ _
        refine g_op (v := Value.bool false) rfl rfl rfl ?_
        show G _ _ _ _ [_,_,_,_,_,_,_,_,_,_,_,_,_,_,_,_,_,_,_,_,_,_,_,_,_,_] _
        refine g_ops_nil ?_
        obtain rfl := Option.some.inj H
        subst Hx1_
        have H := Option.some.inj Hr1_
        subst H
        refine g_ret Try.func13 (v := Value.bool false) (res1 rfl rfl) ?_
        have hs : St _ [] _ := St.take (Γ' := []) hs
        exact ⟨_, rfl, rfl, hs⟩
       ·
        intro hb
        rw [if_pos (b_bne_f hb)] at H
        show G _ _ _ _ [_,_,_,_,_,_,_,_,_,_,_,_,_,_,_,_,_,_,_,_,_,_,_,_,_,_] _
        obtain rfl := ord_end hO6_ rfl (by decide +kernel)
        refine g_ops_nil ?_
        refine g_cond_false rfl ?_
        refine g_skip ?_
        refine g_inBlock ?_
        refine g_region ?_
        show G _ _ _ (.inRegion _ [0, 1, 2] :: _) _ _
        refine g_op (v := Value.int .i64 x5) rfl rfl rfl ?_
        refine g_op (v := Value.int .i64 (i64w (x5 + 1))) rfl rfl rfl ?_
        show G _ _ _ _ [_,_,_,_,_,_,_,_,_,_,_,_,_,_,_,_,_,_,_,_,_,_,_,_,_,_] _
        refine g_op (v := Value.int .i64 (i64w (x5 + 1))) rfl rfl rfl ?_
        show G _ _ _ _ [_,_,_,_,_,_,_,_,_,_,_,_,_,_,_,_,_,_,_,_,_,_,_,_,_,_] _
        refine g_ops_nil ?_
        obtain rfl := Option.some.inj H
        have hs : St _ [] _ := St.take (Γ' := []) hs
        exact ih1_ _ _ ⟨i64w (x5 + 1), Hx1_, rfl, hs⟩
     ·
      intro hb
      rw [if_neg (b_dec_f hb)] at H
      show G _ _ _ _ [_,_,_,_,_,_,_,_,_,_,_,_,_,_,_,_,_,_,_,_,_,_,_,_,_,_] _
      refine g_ops_nil ?_
      refine g_cond_false rfl ?_
      obtain rfl := Option.some.inj H
      subst Hx1_
      have hs : St _ [] _ := St.take (Γ' := []) hs
      refine g_exit rfl ?_
      exact ha1_ _ _ ⟨Hr1_, rfl, hs⟩

/- function 3 laws_FnExactFewestTurns -/
def laws_FnExactFewestTurns.post (w0 : World) (r : Bool) (v : Value) (w : World) : Prop := v = Value.bool r ∧ St w0 [] w
set_option maxHeartbeats 8000000 in
set_option maxRecDepth 100000 in
theorem laws_FnExactFewestTurns.calls {N : Nat} {a1 : (List Int)} {a3 : (Ar Int 4)} {a4 : Int} {v2 : Value} {w0 : World} {Q : Bool → Prop} (hr0 : RdRow (K.int .i16) w0 v2 a1) (H : laws_FnExactFewestTurns.f N a1 a3 a4 Q) :
    Calls Try.prog 3 #[v2, Value.agg ((encA (encI .i16)) a3).toArray, Value.int .i64 a4] w0 fun e w => ∃ v, e = .returned v ∧ ∃ r, Q r ∧ laws_FnExactFewestTurns.post w0 r v w := by
  unfold laws_FnExactFewestTurns.f at H
  have hs : St w0 [] w0 := St.refl w0
  refine calls_of_g (n := 44) Try.func3 rfl rfl ?_
  show G _ _ _ _ [_,_,_,_,_,_,_,_,_,_,_,_,_,_,_,_,_,_,_,_,_,_,_,_,_,_,_,_,_,_,_,_,_,_,_,_,_,_,_,_,_,_,_,_,_,_,_] _
  refine g_seq ?_
  refine g_region ?_
  show G _ _ _ (.inRegion _ [0, 1] :: _) _ _
  refine s_box hs rfl rfl (cs := ((encA (encI .i16)) a3)) rfl rfl ?_
  intro b5 w hs
  refine g_op (v := Value.bool false) rfl rfl rfl ?_
  show G _ _ _ _ [_,_,_,_,_,_,_,_,_,_,_,_,_,_,_,_,_,_,_,_,_,_,_,_,_,_,_,_,_,_,_,_,_,_,_,_,_,_,_,_,_,_,_,_,_,_,_] _
  refine g_ops_nil ?_
  refine g_seq ?_
  refine g_seq ?_
  refine g_region ?_
  show G _ _ _ (.inRegion _ [0, 1, 2] :: _) _ _
  refine g_op (v := v2) rfl rfl rfl ?_
  refine s_len (hs.rd hr0) rfl rfl rfl rfl rfl ?_
  refine g_op_b (B := decide ((a1.length : Int) > 1048576)) rfl rfl rfl ?_ ?_
  ·
   intro hb
   rw [if_pos (b_dec_t hb)] at H
   show G _ _ _ _ [_,_,_,_,_,_,_,_,_,_,_,_,_,_,_,_,_,_,_,_,_,_,_,_,_,_,_,_,_,_,_,_,_,_,_,_,_,_,_,_,_,_,_,_,_,_,_] _
   refine g_ops_nil ?_
   refine g_cond_true rfl ?_
   refine g_seq ?_
   refine g_region ?_
   show G _ _ _ (.inRegion _ [0] :: _) _ _
   refine g_op (v := Value.bool true) rfl rfl rfl ?_
   refine g_ops_nil ?_
   refine g_ret Try.func3 (v := Value.bool true) (res1 rfl rfl) ?_
   have hs : St _ [] _ := St.take (Γ' := [_]) hs
   exact ⟨_, rfl, _, H, rfl, hs⟩
  ·
   intro hb
   rw [if_neg (b_dec_f hb)] at H
   refine g_ops_nil ?_
   refine g_cond_false rfl ?_
   refine g_skip ?_
   refine g_seq ?_
   obtain ⟨r7, Hr7, H⟩ := H
   obtain ⟨r10, Hr10, H⟩ := H
   obtain ⟨r11, Hr11, H⟩ := H
   refine g_name ?_
   intro T hT
   refine g_any (n := 11) rfl [0, 1, 2, 3, 4, 5, 6, 7, 8, 9, 10] [0, 1, 2, 3, 4, 5, 6, 7, 9, 8, 10] rfl rfl (Inv := fun D t w => ∃ v8 : Value, ∃ O : Nat → Value, t = [v2, Value.agg ((encA (encI .i16)) a3).toArray, Value.int .i64 a4, O 3, Value.pointer (some ⟨b5, 0, none⟩), O 5, Value.bool false, cnd (D 9) (Value.int .i64 r11.1) (O 7), cnd (D 10) (Value.int .i64 r11.2) (O 8), O 9, O 10, O 11, v2, Value.int .i64 (a1.length : Int), Value.bool false, cnd (D 6) (Value.tuple #[Value.int .i64 r11.1, Value.int .i64 r11.2]) (O 15), cnd (D 0) v2 (O 16), cnd (D 1) v8 (O 17), cnd (D 2) (Value.agg ((encA (encI .i16)) a3).toArray) (O 18), cnd (D 3) (Value.agg ((encA (encI .i16)) r10).toArray) (O 19), cnd (D 4) (Value.int .i64 a4) (O 20), cnd (D 5) (Value.tuple #[Value.int .i64 r11.1, Value.int .i64 r11.2]) (O 21), cnd (D 7) (Value.int .i64 r11.1) (O 22), cnd (D 8) (Value.int .i64 r11.2) (O 23), O 24, O 25, O 26, O 27, O 28, O 29, O 30, O 31, O 32, O 33, O 34, O 35, O 36, O 37, O 38, O 39, O 40, O 41, O 42, O 43, O 44, O 45, O 46] ∧ St w0 [Asc (D 1) (Row 23 (K.int .i16) v8 r7), Cells b5 ((encA (encI .i16)) a3) 24] w) ?_ ⟨⟨⟨⟨⟨⟨⟨⟨⟨⟨⟨trivial, ?_⟩, ?_⟩, ?_⟩, ?_⟩, ?_⟩, ?_⟩, ?_⟩, ?_⟩, ?_⟩, ?_⟩, ?_⟩ ?_
   ·
    intro w hh hbw
    have hs := hs.samew hh hbw
    have hs := hs.emp
    exact ⟨undef, fun i => T.getD i undef, (by subst hT; rfl), hs⟩
   ·
    intro D t w hD hp hcl hI rest hk
    obtain ⟨v8, O, ht, hs⟩ := hI
    have q1_ : D 1 = false := not_yet (hcl.get 1 (by decide)) 0 0 rfl hD
    have q3_ : D 3 = false := not_yet (hcl.get 3 (by decide)) 1 1 rfl q1_
    have q5_ : D 5 = false := not_yet (hcl.get 5 (by decide)) 0 1 rfl q1_
    have q6_ : D 6 = false := not_yet (hcl.get 6 (by decide)) 0 5 rfl q5_
    have q7_ : D 7 = false := not_yet (hcl.get 7 (by decide)) 0 6 rfl q6_
    have q8_ : D 8 = false := not_yet (hcl.get 8 (by decide)) 0 6 rfl q6_
    have q9_ : D 9 = false := not_yet (hcl.get 9 (by decide)) 0 7 rfl q7_
    have q10_ : D 10 = false := not_yet (hcl.get 10 (by decide)) 0 8 rfl q8_
    simp only [hD, q1_, q3_, q5_, q6_, q7_, q8_, q9_, q10_, cnd_t, cnd_f, Asc_t, Asc_f] at ht hs
    subst ht
    refine g_op (v := v2) rfl rfl rfl ?_
    show G _ _ _ _ [_,_,_,_,_,_,_,_,_,_,_,_,_,_,_,_,_,_,_,_,_,_,_,_,_,_,_,_,_,_,_,_,_,_,_,_,_,_,_,_,_,_,_,_,_,_,_] _
    exact hk _ _ ⟨v8, O, (by simp only [upd, Nat.reduceBEq, Bool.true_or, Bool.false_or, q1_, q3_, q5_, q6_, q7_, q8_, q9_, q10_, cnd_t, cnd_f, Asc_t, Asc_f]), hs.cast (by first | rfl | simp only [List.take, List.drop, List.cons_append, List.nil_append, List.set_cons_zero, List.set_cons_succ, List.eraseIdx, upd, Nat.reduceBEq, Bool.true_or, Bool.false_or, q1_, q3_, q5_, q6_, q7_, q8_, q9_, q10_, cnd_t, cnd_f, Asc_t, Asc_f])⟩
   ·
    intro D t w hD hp hcl hI rest hk
    obtain ⟨v8, O, ht, hs⟩ := hI
    obtain ⟨p0_, _⟩ := hp
    have q3_ : D 3 = false := not_yet (hcl.get 3 (by decide)) 1 1 rfl hD
    have q5_ : D 5 = false := not_yet (hcl.get 5 (by decide)) 0 1 rfl hD
    have q6_ : D 6 = false := not_yet (hcl.get 6 (by decide)) 0 5 rfl q5_
    have q7_ : D 7 = false := not_yet (hcl.get 7 (by decide)) 0 6 rfl q6_
    have q8_ : D 8 = false := not_yet (hcl.get 8 (by decide)) 0 6 rfl q6_
    have q9_ : D 9 = false := not_yet (hcl.get 9 (by decide)) 0 7 rfl q7_
    have q10_ : D 10 = false := not_yet (hcl.get 10 (by decide)) 0 8 rfl q8_
    simp only [hD, p0_, q3_, q5_, q6_, q7_, q8_, q9_, q10_, cnd_t, cnd_f, Asc_t, Asc_f] at ht hs
    subst ht
    refine s_call (args := [v2]) rfl rfl (x_call rfl (callFunc_enter Try.func10 rfl rfl) rfl) (laws_toGlasses.calls (a1 := a1) (hs.rd hr0) Hr7) ?_
    intro v8 w hs2
    have hs : St _ [_,_,_] _ := hs.call hs2
    show G _ _ _ _ [_,_,_,_,_,_,_,_,_,_,_,_,_,_,_,_,_,_,_,_,_,_,_,_,_,_,_,_,_,_,_,_,_,_,_,_,_,_,_,_,_,_,_,_,_,_,_] _
    have hs := hs.fill 0 rfl
    exact hk _ _ ⟨v8, O, (by simp only [upd, Nat.reduceBEq, Bool.true_or, Bool.false_or, p0_, q3_, q5_, q6_, q7_, q8_, q9_, q10_, cnd_t, cnd_f, Asc_t, Asc_f]), hs.cast (by first | rfl | simp only [List.take, List.drop, List.cons_append, List.nil_append, List.set_cons_zero, List.set_cons_succ, List.eraseIdx, upd, Nat.reduceBEq, Bool.true_or, Bool.false_or, p0_, q3_, q5_, q6_, q7_, q8_, q9_, q10_, cnd_t, cnd_f, Asc_t, Asc_f])⟩
   ·
    intro D t w hD hp hcl hI rest hk
    obtain ⟨v8, O, ht, hs⟩ := hI
    have q3_ : D 3 = false := not_yet (hcl.get 3 (by decide)) 0 2 rfl hD
    have q5_ : D 5 = false := not_yet (hcl.get 5 (by decide)) 1 3 rfl q3_
    have q6_ : D 6 = false := not_yet (hcl.get 6 (by decide)) 0 5 rfl q5_
    have q7_ : D 7 = false := not_yet (hcl.get 7 (by decide)) 0 6 rfl q6_
    have q8_ : D 8 = false := not_yet (hcl.get 8 (by decide)) 0 6 rfl q6_
    have q9_ : D 9 = false := not_yet (hcl.get 9 (by decide)) 0 7 rfl q7_
    have q10_ : D 10 = false := not_yet (hcl.get 10 (by decide)) 0 8 rfl q8_
    simp only [hD, q3_, q5_, q6_, q7_, q8_, q9_, q10_, cnd_t, cnd_f, Asc_t, Asc_f] at ht hs
    subst ht
    refine s_loadA rfl rfl (es := ((encA (encI .i16)) a3)) rfl rfl (fun _ => rfl) (n := 4) (fun _ => rfl) ((fkA (n := 4) (he := (fkI .i16).len) (h1 := (fkI .i16).one)).len _) (cells_all (hs.cells 1 rfl)) ?_
    show G _ _ _ _ [_,_,_,_,_,_,_,_,_,_,_,_,_,_,_,_,_,_,_,_,_,_,_,_,_,_,_,_,_,_,_,_,_,_,_,_,_,_,_,_,_,_,_,_,_,_,_] _
    exact hk _ _ ⟨v8, O, (by simp only [upd, Nat.reduceBEq, Bool.true_or, Bool.false_or, q3_, q5_, q6_, q7_, q8_, q9_, q10_, cnd_t, cnd_f, Asc_t, Asc_f]), hs.cast (by first | rfl | simp only [List.take, List.drop, List.cons_append, List.nil_append, List.set_cons_zero, List.set_cons_succ, List.eraseIdx, upd, Nat.reduceBEq, Bool.true_or, Bool.false_or, q3_, q5_, q6_, q7_, q8_, q9_, q10_, cnd_t, cnd_f, Asc_t, Asc_f])⟩
   ·
    intro D t w hD hp hcl hI rest hk
    obtain ⟨v8, O, ht, hs⟩ := hI
    obtain ⟨p2_, p1_, _⟩ := hp
    obtain ⟨p0_, _⟩ := (hcl.get 1 (by decide)) p1_
    have q5_ : D 5 = false := not_yet (hcl.get 5 (by decide)) 1 3 rfl hD
    have q6_ : D 6 = false := not_yet (hcl.get 6 (by decide)) 0 5 rfl q5_
    have q7_ : D 7 = false := not_yet (hcl.get 7 (by decide)) 0 6 rfl q6_
    have q8_ : D 8 = false := not_yet (hcl.get 8 (by decide)) 0 6 rfl q6_
    have q9_ : D 9 = false := not_yet (hcl.get 9 (by decide)) 0 7 rfl q7_
    have q10_ : D 10 = false := not_yet (hcl.get 10 (by decide)) 0 8 rfl q8_
    simp only [hD, p0_, p1_, p2_, q5_, q6_, q7_, q8_, q9_, q10_, cnd_t, cnd_f, Asc_t, Asc_f] at ht hs
    subst ht
    refine s_call (args := [Value.agg ((encA (encI .i16)) a3).toArray]) rfl rfl (x_call rfl (callFunc_enter Try.func11 rfl rfl) rfl) (laws_toTops.calls (a1 := a3) Hr10) ?_
    rintro _ w ⟨rfl, hs2⟩
    have hs : St _ [_,_] _ := hs.call hs2
    show G _ _ _ _ [_,_,_,_,_,_,_,_,_,_,_,_,_,_,_,_,_,_,_,_,_,_,_,_,_,_,_,_,_,_,_,_,_,_,_,_,_,_,_,_,_,_,_,_,_,_,_] _
    exact hk _ _ ⟨v8, O, (by simp only [upd, Nat.reduceBEq, Bool.true_or, Bool.false_or, p0_, p1_, p2_, q5_, q6_, q7_, q8_, q9_, q10_, cnd_t, cnd_f, Asc_t, Asc_f]), hs.cast (by first | rfl | simp only [List.take, List.drop, List.cons_append, List.nil_append, List.set_cons_zero, List.set_cons_succ, List.eraseIdx, upd, Nat.reduceBEq, Bool.true_or, Bool.false_or, p0_, p1_, p2_, q5_, q6_, q7_, q8_, q9_, q10_, cnd_t, cnd_f, Asc_t, Asc_f])⟩
   ·
    intro D t w hD hp hcl hI rest hk
    obtain ⟨v8, O, ht, hs⟩ := hI
    have q5_ : D 5 = false := not_yet (hcl.get 5 (by decide)) 2 4 rfl hD
    have q6_ : D 6 = false := not_yet (hcl.get 6 (by decide)) 0 5 rfl q5_
    have q7_ : D 7 = false := not_yet (hcl.get 7 (by decide)) 0 6 rfl q6_
    have q8_ : D 8 = false := not_yet (hcl.get 8 (by decide)) 0 6 rfl q6_
    have q9_ : D 9 = false := not_yet (hcl.get 9 (by decide)) 0 7 rfl q7_
    have q10_ : D 10 = false := not_yet (hcl.get 10 (by decide)) 0 8 rfl q8_
    simp only [hD, q5_, q6_, q7_, q8_, q9_, q10_, cnd_t, cnd_f, Asc_t, Asc_f] at ht hs
    subst ht
    refine g_op (v := Value.int .i64 a4) rfl rfl rfl ?_
    show G _ _ _ _ [_,_,_,_,_,_,_,_,_,_,_,_,_,_,_,_,_,_,_,_,_,_,_,_,_,_,_,_,_,_,_,_,_,_,_,_,_,_,_,_,_,_,_,_,_,_,_] _
    exact hk _ _ ⟨v8, O, (by simp only [upd, Nat.reduceBEq, Bool.true_or, Bool.false_or, q5_, q6_, q7_, q8_, q9_, q10_, cnd_t, cnd_f, Asc_t, Asc_f]), hs.cast (by first | rfl | simp only [List.take, List.drop, List.cons_append, List.nil_append, List.set_cons_zero, List.set_cons_succ, List.eraseIdx, upd, Nat.reduceBEq, Bool.true_or, Bool.false_or, q5_, q6_, q7_, q8_, q9_, q10_, cnd_t, cnd_f, Asc_t, Asc_f])⟩
   ·
    intro D t w hD hp hcl hI rest hk
    obtain ⟨v8, O, ht, hs⟩ := hI
    obtain ⟨p1_, p3_, p4_, _, _⟩ := hp
    obtain ⟨p2_, _, _⟩ := (hcl.get 3 (by decide)) p3_
    obtain ⟨p0_, _⟩ := (hcl.get 1 (by decide)) p1_
    have q6_ : D 6 = false := not_yet (hcl.get 6 (by decide)) 0 5 rfl hD
    have q7_ : D 7 = false := not_yet (hcl.get 7 (by decide)) 0 6 rfl q6_
    have q8_ : D 8 = false := not_yet (hcl.get 8 (by decide)) 0 6 rfl q6_
    have q9_ : D 9 = false := not_yet (hcl.get 9 (by decide)) 0 7 rfl q7_
    have q10_ : D 10 = false := not_yet (hcl.get 10 (by decide)) 0 8 rfl q8_
    simp only [hD, p0_, p1_, p2_, p3_, p4_, q6_, q7_, q8_, q9_, q10_, cnd_t, cnd_f, Asc_t, Asc_f] at ht hs
    subst ht
    refine s_call (args := [v8, Value.agg ((encA (encI .i16)) r10).toArray, Value.int .i64 a4]) rfl rfl (x_call rfl (callFunc_enter Try.func9 rfl rfl) rfl) (spec_FewestTurns.calls (a1 := r7) (a3 := r10) (a4 := a4) (hs.row 0 rfl) Hr11) ?_
    rintro _ w ⟨rfl, hs2⟩
    have hs : St _ [_,_] _ := hs.call hs2
    show G _ _ _ _ [_,_,_,_,_,_,_,_,_,_,_,_,_,_,_,_,_,_,_,_,_,_,_,_,_,_,_,_,_,_,_,_,_,_,_,_,_,_,_,_,_,_,_,_,_,_,_] _
    exact hk _ _ ⟨v8, O, (by simp only [upd, Nat.reduceBEq, Bool.true_or, Bool.false_or, p0_, p1_, p2_, p3_, p4_, q6_, q7_, q8_, q9_, q10_, cnd_t, cnd_f, Asc_t, Asc_f]), hs.cast (by first | rfl | simp only [List.take, List.drop, List.cons_append, List.nil_append, List.set_cons_zero, List.set_cons_succ, List.eraseIdx, upd, Nat.reduceBEq, Bool.true_or, Bool.false_or, p0_, p1_, p2_, p3_, p4_, q6_, q7_, q8_, q9_, q10_, cnd_t, cnd_f, Asc_t, Asc_f])⟩
   ·
    intro D t w hD hp hcl hI rest hk
    obtain ⟨v8, O, ht, hs⟩ := hI
    obtain ⟨p5_, _⟩ := hp
    obtain ⟨p1_, p3_, p4_, _, _⟩ := (hcl.get 5 (by decide)) p5_
    obtain ⟨p2_, _, _⟩ := (hcl.get 3 (by decide)) p3_
    obtain ⟨p0_, _⟩ := (hcl.get 1 (by decide)) p1_
    have q7_ : D 7 = false := not_yet (hcl.get 7 (by decide)) 0 6 rfl hD
    have q8_ : D 8 = false := not_yet (hcl.get 8 (by decide)) 0 6 rfl hD
    have q9_ : D 9 = false := not_yet (hcl.get 9 (by decide)) 0 7 rfl q7_
    have q10_ : D 10 = false := not_yet (hcl.get 10 (by decide)) 0 8 rfl q8_
    simp only [hD, p0_, p1_, p2_, p3_, p4_, p5_, q7_, q8_, q9_, q10_, cnd_t, cnd_f, Asc_t, Asc_f] at ht hs
    subst ht
    refine g_op (v := Value.tuple #[Value.int .i64 r11.1, Value.int .i64 r11.2]) rfl rfl rfl ?_
    show G _ _ _ _ [_,_,_,_,_,_,_,_,_,_,_,_,_,_,_,_,_,_,_,_,_,_,_,_,_,_,_,_,_,_,_,_,_,_,_,_,_,_,_,_,_,_,_,_,_,_,_] _
    exact hk _ _ ⟨v8, O, (by simp only [upd, Nat.reduceBEq, Bool.true_or, Bool.false_or, p0_, p1_, p2_, p3_, p4_, p5_, q7_, q8_, q9_, q10_, cnd_t, cnd_f, Asc_t, Asc_f]), hs.cast (by first | rfl | simp only [List.take, List.drop, List.cons_append, List.nil_append, List.set_cons_zero, List.set_cons_succ, List.eraseIdx, upd, Nat.reduceBEq, Bool.true_or, Bool.false_or, p0_, p1_, p2_, p3_, p4_, p5_, q7_, q8_, q9_, q10_, cnd_t, cnd_f, Asc_t, Asc_f])⟩
   ·
    intro D t w hD hp hcl hI rest hk
    obtain ⟨v8, O, ht, hs⟩ := hI
    obtain ⟨p6_, _⟩ := hp
    obtain ⟨p5_, _⟩ := (hcl.get 6 (by decide)) p6_
    obtain ⟨p1_, p3_, p4_, _, _⟩ := (hcl.get 5 (by decide)) p5_
    obtain ⟨p2_, _, _⟩ := (hcl.get 3 (by decide)) p3_
    obtain ⟨p0_, _⟩ := (hcl.get 1 (by decide)) p1_
    have q9_ : D 9 = false := not_yet (hcl.get 9 (by decide)) 0 7 rfl hD
    have q10_ : D 10 = false := not_yet (hcl.get 10 (by decide)) 1 9 rfl q9_
    simp only [hD, p0_, p1_, p2_, p3_, p4_, p5_, p6_, q9_, q10_, cnd_t, cnd_f, Asc_t, Asc_f] at ht hs
    subst ht
    refine g_op (v := Value.int .i64 r11.1) rfl rfl rfl ?_
    show G _ _ _ _ [_,_,_,_,_,_,_,_,_,_,_,_,_,_,_,_,_,_,_,_,_,_,_,_,_,_,_,_,_,_,_,_,_,_,_,_,_,_,_,_,_,_,_,_,_,_,_] _
    exact hk _ _ ⟨v8, O, (by simp only [upd, Nat.reduceBEq, Bool.true_or, Bool.false_or, p0_, p1_, p2_, p3_, p4_, p5_, p6_, q9_, q10_, cnd_t, cnd_f, Asc_t, Asc_f]), hs.cast (by first | rfl | simp only [List.take, List.drop, List.cons_append, List.nil_append, List.set_cons_zero, List.set_cons_succ, List.eraseIdx, upd, Nat.reduceBEq, Bool.true_or, Bool.false_or, p0_, p1_, p2_, p3_, p4_, p5_, p6_, q9_, q10_, cnd_t, cnd_f, Asc_t, Asc_f])⟩
   ·
    intro D t w hD hp hcl hI rest hk
    obtain ⟨v8, O, ht, hs⟩ := hI
    obtain ⟨p6_, _⟩ := hp
    obtain ⟨p5_, _⟩ := (hcl.get 6 (by decide)) p6_
    obtain ⟨p1_, p3_, p4_, _, _⟩ := (hcl.get 5 (by decide)) p5_
    obtain ⟨p2_, _, _⟩ := (hcl.get 3 (by decide)) p3_
    obtain ⟨p0_, _⟩ := (hcl.get 1 (by decide)) p1_
    have q10_ : D 10 = false := not_yet (hcl.get 10 (by decide)) 0 8 rfl hD
    simp only [hD, p0_, p1_, p2_, p3_, p4_, p5_, p6_, q10_, cnd_t, cnd_f, Asc_t, Asc_f] at ht hs
    subst ht
    refine g_op (v := Value.int .i64 r11.2) rfl rfl rfl ?_
    show G _ _ _ _ [_,_,_,_,_,_,_,_,_,_,_,_,_,_,_,_,_,_,_,_,_,_,_,_,_,_,_,_,_,_,_,_,_,_,_,_,_,_,_,_,_,_,_,_,_,_,_] _
    exact hk _ _ ⟨v8, O, (by simp only [upd, Nat.reduceBEq, Bool.true_or, Bool.false_or, p0_, p1_, p2_, p3_, p4_, p5_, p6_, q10_, cnd_t, cnd_f, Asc_t, Asc_f]), hs.cast (by first | rfl | simp only [List.take, List.drop, List.cons_append, List.nil_append, List.set_cons_zero, List.set_cons_succ, List.eraseIdx, upd, Nat.reduceBEq, Bool.true_or, Bool.false_or, p0_, p1_, p2_, p3_, p4_, p5_, p6_, q10_, cnd_t, cnd_f, Asc_t, Asc_f])⟩
   ·
    intro D t w hD hp hcl hI rest hk
    obtain ⟨v8, O, ht, hs⟩ := hI
    obtain ⟨p7_, p5_, p0_, p1_, p2_, p3_, p4_, _, p6_, _, _⟩ := hp
    have q10_ : D 10 = false := not_yet (hcl.get 10 (by decide)) 1 9 rfl hD
    simp only [hD, p0_, p1_, p2_, p3_, p4_, p5_, p6_, p7_, q10_, cnd_t, cnd_f, Asc_t, Asc_f] at ht hs
    subst ht
    refine g_op (v := Value.int .i64 r11.1) rfl rfl rfl ?_
    show G _ _ _ _ [_,_,_,_,_,_,_,_,_,_,_,_,_,_,_,_,_,_,_,_,_,_,_,_,_,_,_,_,_,_,_,_,_,_,_,_,_,_,_,_,_,_,_,_,_,_,_] _
    exact hk _ _ ⟨v8, O, (by simp only [upd, Nat.reduceBEq, Bool.true_or, Bool.false_or, p0_, p1_, p2_, p3_, p4_, p5_, p6_, p7_, q10_, cnd_t, cnd_f, Asc_t, Asc_f]), hs.cast (by first | rfl | simp only [List.take, List.drop, List.cons_append, List.nil_append, List.set_cons_zero, List.set_cons_succ, List.eraseIdx, upd, Nat.reduceBEq, Bool.true_or, Bool.false_or, p0_, p1_, p2_, p3_, p4_, p5_, p6_, p7_, q10_, cnd_t, cnd_f, Asc_t, Asc_f])⟩
   ·
    intro D t w hD hp hcl hI rest hk
    obtain ⟨v8, O, ht, hs⟩ := hI
    obtain ⟨p8_, p9_, p0_, p1_, p2_, p3_, p4_, p5_, p6_, p7_, _, _, _⟩ := hp
    simp only [hD, p0_, p1_, p2_, p3_, p4_, p5_, p6_, p7_, p8_, p9_, cnd_t, cnd_f, Asc_t, Asc_f] at ht hs
    subst ht
    refine g_op (v := Value.int .i64 r11.2) rfl rfl rfl ?_
    show G _ _ _ _ [_,_,_,_,_,_,_,_,_,_,_,_,_,_,_,_,_,_,_,_,_,_,_,_,_,_,_,_,_,_,_,_,_,_,_,_,_,_,_,_,_,_,_,_,_,_,_] _
    exact hk _ _ ⟨v8, O, (by simp only [upd, Nat.reduceBEq, Bool.true_or, Bool.false_or, p0_, p1_, p2_, p3_, p4_, p5_, p6_, p7_, p8_, p9_, cnd_t, cnd_f, Asc_t, Asc_f]), hs.cast (by first | rfl | simp only [List.take, List.drop, List.cons_append, List.nil_append, List.set_cons_zero, List.set_cons_succ, List.eraseIdx, upd, Nat.reduceBEq, Bool.true_or, Bool.false_or, p0_, p1_, p2_, p3_, p4_, p5_, p6_, p7_, p8_, p9_, cnd_t, cnd_f, Asc_t, Asc_f])⟩
   ·
    intro D t w hall hI
    obtain ⟨v8, O, ht, hs⟩ := hI
    have p0_ : D 0 = true := hall 0 (by decide)
    have p1_ : D 1 = true := hall 1 (by decide)
    have p2_ : D 2 = true := hall 2 (by decide)
    have p3_ : D 3 = true := hall 3 (by decide)
    have p4_ : D 4 = true := hall 4 (by decide)
    have p5_ : D 5 = true := hall 5 (by decide)
    have p6_ : D 6 = true := hall 6 (by decide)
    have p7_ : D 7 = true := hall 7 (by decide)
    have p8_ : D 8 = true := hall 8 (by decide)
    have p9_ : D 9 = true := hall 9 (by decide)
    have p10_ : D 10 = true := hall 10 (by decide)
    simp only [p0_, p1_, p2_, p3_, p4_, p5_, p6_, p7_, p8_, p9_, p10_, cnd_t, cnd_f, Asc_t, Asc_f] at ht hs
    subst ht
    refine g_seq ?_
    refine g_region ?_
    show G _ _ _ (.inRegion _ [0, 1, 2] :: _) _ _
    refine g_op (v := v2) rfl rfl rfl ?_
    obtain ⟨r13, Hr13, H⟩ := H
    refine s_call (args := [v2]) rfl rfl (x_call rfl (callFunc_enter Try.func10 rfl rfl) rfl) (laws_toGlasses.calls (a1 := a1) (hs.rd hr0) Hr13) ?_
    intro v14 w hs2
    have hs : St _ [_,_,_] _ := hs.call hs2
    show G _ _ _ _ [_,_,_,_,_,_,_,_,_,_,_,_,_,_,_,_,_,_,_,_,_,_,_,_,_,_,_,_,_,_,_,_,_,_,_,_,_,_,_,_,_,_,_,_,_,_,_] _
    refine g_op (v := v14) rfl rfl rfl ?_
    refine g_ops_nil ?_
    refine g_seq ?_
    refine g_region ?_
    show G _ _ _ (.inRegion _ [0, 1, 2, 3, 4, 5, 6, 7, 8, 9] :: _) _ _
    refine g_op (v := v14) rfl rfl rfl ?_
    refine s_loadA rfl rfl (es := ((encA (encI .i16)) a3)) rfl rfl (fun _ => rfl) (n := 4) (fun _ => rfl) ((fkA (n := 4) (he := (fkI .i16).len) (h1 := (fkI .i16).one)).len _) (cells_all (hs.cells 2 rfl)) ?_
    obtain ⟨r16, Hr16, H⟩ := H
    refine s_call (args := [Value.agg ((encA (encI .i16)) a3).toArray]) rfl rfl (x_call rfl (callFunc_enter Try.func11 rfl rfl) rfl) (laws_toTops.calls (a1 := a3) Hr16) ?_
    rintro _ w ⟨rfl, hs2⟩
    have hs : St _ [_,_,_] _ := hs.call hs2
    show G _ _ _ _ [_,_,_,_,_,_,_,_,_,_,_,_,_,_,_,_,_,_,_,_,_,_,_,_,_,_,_,_,_,_,_,_,_,_,_,_,_,_,_,_,_,_,_,_,_,_,_] _
    refine g_op (v := Value.int .i64 a4) rfl rfl rfl ?_
    refine s_call (args := [v14, Value.agg ((encA (encI .i16)) r16).toArray, Value.int .i64 a4]) rfl rfl (x_call rfl (callFunc_enter Try.func12 rfl rfl) rfl) (impl_FewestTurns.calls (a1 := r13) (a3 := r16) (a4 := a4) (hs.row 0 rfl) H) ?_
    rintro _ w ⟨r17, H, rfl, hs2⟩
    try dsimp only at H
    have hs : St _ [_,_,_] _ := hs.call hs2
    refine g_op (v := Value.tuple #[Value.int .i64 r17.1, Value.int .i64 r17.2]) rfl rfl rfl ?_
    refine g_op (v := Value.int .i64 r17.1) rfl rfl rfl ?_
    refine g_op (v := Value.int .i64 r17.2) rfl rfl rfl ?_
    refine g_op (v := Value.int .i64 r17.1) rfl rfl rfl ?_
    refine g_op (v := Value.int .i64 r17.2) rfl rfl rfl ?_
    show G _ _ _ _ [_,_,_,_,_,_,_,_,_,_,_,_,_,_,_,_,_,_,_,_,_,_,_,_,_,_,_,_,_,_,_,_,_,_,_,_,_,_,_,_,_,_,_,_,_,_,_] _
    refine g_ops_nil ?_
    refine g_seq ?_
    refine g_seq ?_
    refine g_region ?_
    show G _ _ _ (.inRegion _ [0, 1, 2, 3, 4, 5, 6, 7] :: _) _ _
    refine g_op (v := Value.int .i64 r17.1) rfl rfl rfl ?_
    refine g_op (v := Value.int .i64 r11.1) rfl rfl rfl ?_
    refine g_op_b (B := r17.1 != r11.1) rfl rfl rfl ?_ ?_
    ·
     intro hb
     rw [if_neg (b_bne_t hb)] at H
     refine g_op (v := Value.bool true) rfl rfl rfl ?_
     refine g_op_not rfl rfl ?_
     refine g_op_not rfl rfl ?_
     refine g_op_not rfl rfl ?_
     refine g_op (v := Value.bool true) rfl rfl rfl ?_
     show G _ _ _ _ [_,_,_,_,_,_,_,_,_,_,_,_,_,_,_,_,_,_,_,_,_,_,_,_,_,_,_,_,_,_,_,_,_,_,_,_,_,_,_,_,_,_,_,_,_,_,_] _
     refine g_ops_nil ?_
     refine g_cond_true rfl ?_
     refine g_seq ?_
     refine g_region ?_
     show G _ _ _ (.inRegion _ [0] :: _) _ _
     refine g_op (v := Value.bool false) rfl rfl rfl ?_
     refine g_ops_nil ?_
     refine g_ret Try.func3 (v := Value.bool false) (res1 rfl rfl) ?_
     have hs : St _ [] _ := St.take (Γ' := [_,_,_]) hs
     exact ⟨_, rfl, _, H, rfl, hs⟩
    ·
     intro hb
     rw [if_pos (b_bne_f hb)] at H
     refine g_op (v := Value.bool false) rfl rfl rfl ?_
     refine g_op (v := Value.int .i64 r17.2) rfl rfl rfl ?_
     refine g_op (v := Value.int .i64 r11.2) rfl rfl rfl ?_
     refine g_op_b (B := r17.2 != r11.2) rfl rfl rfl ?_ ?_
     ·
      intro hb
      rw [if_neg (b_bne_t hb)] at H
      refine g_op (v := Value.bool true) rfl rfl rfl ?_
      refine g_ops_nil ?_
      refine g_cond_true rfl ?_
      refine g_seq ?_
      refine g_region ?_
      show G _ _ _ (.inRegion _ [0] :: _) _ _
      refine g_op (v := Value.bool false) rfl rfl rfl ?_
      show G _ _ _ _ [_,_,_,_,_,_,_,_,_,_,_,_,_,_,_,_,_,_,_,_,_,_,_,_,_,_,_,_,_,_,_,_,_,_,_,_,_,_,_,_,_,_,_,_,_,_,_] _
      refine g_ops_nil ?_
      refine g_ret Try.func3 (v := Value.bool false) (res1 rfl rfl) ?_
      have hs : St _ [] _ := St.take (Γ' := [_,_,_]) hs
      exact ⟨_, rfl, _, H, rfl, hs⟩
     ·
      intro hb
      rw [if_pos (b_bne_f hb)] at H
      refine g_op (v := Value.bool false) rfl rfl rfl ?_
      show G _ _ _ _ [_,_,_,_,_,_,_,_,_,_,_,_,_,_,_,_,_,_,_,_,_,_,_,_,_,_,_,_,_,_,_,_,_,_,_,_,_,_,_,_,_,_,_,_,_,_,_] _
      refine g_ops_nil ?_
      refine g_cond_false rfl ?_
      refine g_skip ?_
      refine g_seq ?_
      refine g_seq ?_
      refine g_region ?_
      show G _ _ _ (.inRegion _ [0, 1, 2, 3, 4] :: _) _ _
      refine g_op (v := v14) rfl rfl rfl ?_
      refine g_op (v := v2) rfl rfl rfl ?_
      obtain ⟨r18, Hr18, H⟩ := H
      refine s_call (args := [v2]) rfl rfl (x_call rfl (callFunc_enter Try.func10 rfl rfl) rfl) (laws_toGlasses.calls (a1 := a1) (hs.rd hr0) Hr18) ?_
      intro v19 w hs2
      have hs : St _ [_,_,_,_] _ := hs.call hs2
      obtain ⟨r21, Hr21, H⟩ := H
      refine s_call (args := [v14, v19]) rfl rfl (x_call rfl (callFunc_enter Try.func13 rfl rfl) rfl) (laws_eqGlasses.calls (a1 := r13) (a3 := r18) (hs.row 1 rfl) (hs.row 0 rfl) Hr21) ?_
      rintro _ w ⟨rfl, hs2⟩
      have hs : St _ [_,_,_,_] _ := hs.call hs2
      cases r21 with
      | true =>
        rw [if_pos rfl] at H
        refine g_op (v := Value.bool false) rfl rfl rfl ?_
        show G _ _ _ _ [_,_,_,_,_,_,_,_,_,_,_,_,_,_,_,_,_,_,_,_,_,_,_,_,_,_,_,_,_,_,_,_,_,_,_,_,_,_,_,_,_,_,_,_,_,_,_] _
        refine g_ops_nil ?_
        refine g_cond_false rfl ?_
        refine g_skip ?_
        refine g_seq ?_
        refine g_region ?_
        show G _ _ _ (.inRegion _ [0] :: _) _ _
        refine g_op (v := Value.bool true) rfl rfl rfl ?_
        refine g_ops_nil ?_
        refine g_ret Try.func3 (v := Value.bool true) (res1 rfl rfl) ?_
        have hs : St _ [] _ := St.take (Γ' := [_,_,_,_]) hs
        exact ⟨_, rfl, _, H, rfl, hs⟩
      | false =>
        rw [if_neg Bool.false_ne_true] at H
        refine g_op (v := Value.bool true) rfl rfl rfl ?_
        show G _ _ _ _ [_,_,_,_,_,_,_,_,_,_,_,_,_,_,_,_,_,_,_,_,_,_,_,_,_,_,_,_,_,_,_,_,_,_,_,_,_,_,_,_,_,_,_,_,_,_,_] _
        refine g_ops_nil ?_
        refine g_cond_true rfl ?_
        refine g_seq ?_
        refine g_region ?_
        show G _ _ _ (.inRegion _ [0] :: _) _ _
        refine g_op (v := Value.bool false) rfl rfl rfl ?_
        refine g_ops_nil ?_
        refine g_ret Try.func3 (v := Value.bool false) (res1 rfl rfl) ?_
        have hs : St _ [] _ := St.take (Γ' := [_,_,_,_]) hs
        exact ⟨_, rfl, _, H, rfl, hs⟩

/- function 39 spec_l07Times -/
def spec_l07Times.post (w0 : World) (r : (List Int)) (v : Value) (w : World) : Prop := St w0 [Row 2 (K.int .i64) v r] w
set_option maxHeartbeats 8000000 in
set_option maxRecDepth 100000 in
theorem spec_l07Times.calls {N : Nat} {a1 : (List Int)} {a3 : (Ar Int 4)} {a4 : Int} {a5 : Int} {a6 : Bool} {v2 : Value} {w0 : World} {r : (List Int)} (hr0 : RdRow (K.int .i16) w0 v2 a1) (H : spec_l07Times.f N a1 a3 a4 a5 a6 = some r) :
    Calls Try.prog 39 #[v2, Value.agg ((encA (encI .i16)) a3).toArray, Value.int .i64 a4, Value.int .i64 a5, Value.bool a6] w0 fun e w => ∃ v, e = .returned v ∧ spec_l07Times.post w0 r v w := by
  unfold spec_l07Times.f at H
  have hs : St w0 [] w0 := St.refl w0
  refine calls_of_g (n := 33) Try.func39 rfl rfl ?_
  show G _ _ _ _ [_,_,_,_,_,_,_,_,_,_,_,_,_,_,_,_,_,_,_,_,_,_,_,_,_,_,_,_,_,_,_,_,_,_,_,_,_,_] _
  refine g_seq ?_
  refine g_region ?_
  show G _ _ _ (.inRegion _ [0, 1] :: _) _ _
  refine s_box hs rfl rfl (cs := ((encA (encI .i16)) a3)) rfl rfl ?_
  intro b7 w hs
  show G _ _ _ _ [_,_,_,_,_,_,_,_,_,_,_,_,_,_,_,_,_,_,_,_,_,_,_,_,_,_,_,_,_,_,_,_,_,_,_,_,_,_] _
  refine g_op (v := Value.slice none 0 0) rfl rfl rfl ?_
  show G _ _ _ _ [_,_,_,_,_,_,_,_,_,_,_,_,_,_,_,_,_,_,_,_,_,_,_,_,_,_,_,_,_,_,_,_,_,_,_,_,_,_] _
  refine g_ops_nil ?_
  refine g_seq ?_
  refine g_region ?_
  show G _ _ _ (.inRegion _ [0, 1, 2, 3, 4] :: _) _ _
  refine g_op (v := v2) rfl rfl rfl ?_
  refine s_loadA rfl rfl (es := ((encA (encI .i16)) a3)) rfl rfl (fun _ => rfl) (n := 4) (fun _ => rfl) ((fkA (n := 4) (he := (fkI .i16).len) (h1 := (fkI .i16).one)).len _) (cells_all (hs.cells 0 rfl)) ?_
  show G _ _ _ _ [_,_,_,_,_,_,_,_,_,_,_,_,_,_,_,_,_,_,_,_,_,_,_,_,_,_,_,_,_,_,_,_,_,_,_,_,_,_] _
  refine g_op (v := Value.int .i64 a5) rfl rfl rfl ?_
  obtain ⟨r9, Hr9, H⟩ := bind_get H
  refine s_call (args := [v2, Value.agg ((encA (encI .i16)) a3).toArray, Value.int .i64 a5]) rfl rfl (x_call rfl (callFunc_enter Try.func36 rfl rfl) rfl) (spec_l07Table.calls (a1 := a1) (a3 := a3) (a4 := a5) (hs.rd hr0) Hr9) ?_
  rintro v10 w ⟨_, ms11, rfl, hs2⟩
  have hs : St _ [_,_] _ := hs.call hs2
  show G _ _ _ _ [_,_,_,_,_,_,_,_,_,_,_,_,_,_,_,_,_,_,_,_,_,_,_,_,_,_,_,_,_,_,_,_,_,_,_,_,_,_] _
  refine g_op (v := v10) rfl rfl rfl ?_
  show G _ _ _ _ [_,_,_,_,_,_,_,_,_,_,_,_,_,_,_,_,_,_,_,_,_,_,_,_,_,_,_,_,_,_,_,_,_,_,_,_,_,_] _
  refine g_ops_nil ?_
  refine g_seq ?_
  refine g_region ?_
  show G _ _ _ (.inRegion _ [0, 1] :: _) _ _
  refine s_lit0 (κ := (K.int .i64)) hs rfl rfl rfl rfl (fun _ => rfl) ?_
  intro v13 w hs
  show G _ _ _ _ [_,_,_,_,_,_,_,_,_,_,_,_,_,_,_,_,_,_,_,_,_,_,_,_,_,_,_,_,_,_,_,_,_,_,_,_,_,_] _
  refine g_op (v := v13) rfl rfl rfl ?_
  show G _ _ _ _ [_,_,_,_,_,_,_,_,_,_,_,_,_,_,_,_,_,_,_,_,_,_,_,_,_,_,_,_,_,_,_,_,_,_,_,_,_,_] _
  refine g_ops_nil ?_
  refine g_seq ?_
  refine g_seq ?_
  refine g_region ?_
  show G _ _ _ (.inRegion _ [0, 1] :: _) _ _
  refine g_op (v := Value.int .i64 a4) rfl rfl rfl ?_
  refine g_op (v := Value.int .i64 a4) rfl rfl rfl ?_
  show G _ _ _ _ [_,_,_,_,_,_,_,_,_,_,_,_,_,_,_,_,_,_,_,_,_,_,_,_,_,_,_,_,_,_,_,_,_,_,_,_,_,_] _
  refine g_ops_nil ?_
  obtain ⟨o1_, Ho, Hr1_⟩ := bind_get H
  refine g_block_join (J := fun t w => ∃ v28 : Value, ∃ x29 : (List Int), spec_l07Times.a0 N x29 = some r ∧ Fr t (fun O => ([O 0, O 1, O 2, O 3, O 4, O 5, O 6, O 7, O 8, O 9, O 10, O 11, v28, O 13, O 14, O 15, O 16, O 17, O 18, O 19, O 20, O 21, O 22, O 23, O 24, O 25, O 26, O 27, O 28, O 29, O 30, O 31, O 32, O 33, O 34, O 35, O 36, O 37] : List Value)) ∧ St w0 [Row 2 (K.int .i64) v28 x29] w) ?_ ?_
  ·
   rintro t w ⟨v28, x29, H, hf, hs⟩
   obtain ⟨O, rfl⟩ := hf.open
   show G _ _ _ _ [_,_,_,_,_,_,_,_,_,_,_,_,_,_,_,_,_,_,_,_,_,_,_,_,_,_,_,_,_,_,_,_,_,_,_,_,_,_] _
   unfold spec_l07Times.a0 at H
   refine g_seq ?_
   refine g_region ?_
   show G _ _ _ (.inRegion _ [0, 1] :: _) _ _
   refine g_op (v := v28) rfl rfl rfl ?_
   refine g_op (v := v28) rfl rfl rfl ?_
   show G _ _ _ _ [_,_,_,_,_,_,_,_,_,_,_,_,_,_,_,_,_,_,_,_,_,_,_,_,_,_,_,_,_,_,_,_,_,_,_,_,_,_] _
   refine g_ops_nil ?_
   obtain rfl := Option.some.inj H
   refine g_ret Try.func39 (v := v28) (res1 rfl rfl) ?_
   have hs := hs.pull 0 rfl
   have hs : St _ [_] _ := St.take (Γ' := []) hs
   exact ⟨_, rfl, hs⟩
  ·
   intro ha1_
   have hs := hs.pull 0 rfl
   have hs := hs.pull 1 rfl
   have hs : St _ [_,_] _ := St.take (Γ' := [_]) hs
   refine g_loop_fuel (I := fun n_ t w => ∃ v16 : Value, ∃ x17 : (List Int), ∃ x18 : Int, rounds (fun s => spec_l07Times.b0 N a5 r9 a6 s.1 s.2) n_ (x17, x18) = some o1_ ∧ Fr t (fun O => ([O 0, O 1, O 2, Value.int .i64 a5, Value.bool a6, O 5, O 6, O 7, O 8, O 9, O 10, v10, v16, Value.int .i64 x18, O 14, O 15, O 16, O 17, O 18, O 19, O 20, O 21, O 22, O 23, O 24, O 25, O 26, O 27, O 28, O 29, O 30, O 31, O 32, O 33, O 34, O 35, O 36, O 37] : List Value)) ∧ St w0 [Rows2 33 kHS (RowO 2 (K.int .i64)) v10 ms11 r9, Row 2 (K.int .i64) v16 x17] w) N ⟨v13, ([] : List Int), a4, Ho, rfl, hs⟩ ?_ ?_
   ·
    rintro _ _ ⟨v16, x17, x18, h, _⟩
    exact rounds_zero h
   ·
    intro n_ ih1_
    rintro t w ⟨v16, x17, x18, Ho, hf, hs⟩
    obtain ⟨O, rfl⟩ := hf.open
    show G _ _ _ _ [_,_,_,_,_,_,_,_,_,_,_,_,_,_,_,_,_,_,_,_,_,_,_,_,_,_,_,_,_,_,_,_,_,_,_,_,_,_] _
    obtain ⟨x2_, H, Hx1_⟩ := rounds_succ Ho
    have H : spec_l07Times.b0 N a5 r9 a6 x17 x18 = some x2_ := H
    unfold spec_l07Times.b0 at H
    refine g_seq ?_
    refine g_seq ?_
    refine g_region ?_
    show G _ _ _ (.inRegion _ [0, 1, 2] :: _) _ _
    refine g_op (v := Value.int .i64 x18) rfl rfl rfl ?_
    refine g_op (v := Value.int .i64 a5) rfl rfl rfl ?_
    refine g_op_b (B := decide (x18 ≤ a5)) rfl rfl rfl ?_ ?_
    ·
     intro hb
     rw [if_pos (b_dec_t hb)] at H
     show G _ _ _ _ [_,_,_,_,_,_,_,_,_,_,_,_,_,_,_,_,_,_,_,_,_,_,_,_,_,_,_,_,_,_,_,_,_,_,_,_,_,_] _
     refine g_ops_nil ?_
     refine g_cond_true rfl ?_
     refine g_skip ?_
     refine g_seq ?_
     refine g_block_join (J := (fun t w => ∃ v25 : Value, ∃ x26 : (List Int), spec_l07Times.j2 N x18 x26 = some x2_ ∧ Fr t (fun O => ([O 0, O 1, O 2, Value.int .i64 a5, Value.bool a6, O 5, O 6, O 7, O 8, O 9, O 10, v10, v25, Value.int .i64 x18, O 14, O 15, O 16, O 17, O 18, O 19, O 20, O 21, O 22, O 23, O 24, O 25, O 26, O 27, O 28, O 29, O 30, O 31, O 32, O 33, O 34, O 35, O 36, O 37] : List Value)) ∧ St w0 [Rows2 33 kHS (RowO 2 (K.int .i64)) v10 ms11 r9, Row 2 (K.int .i64) v25 x26] w)) ?_ ?_
     ·
      rintro t w ⟨v25, x26, H, hf, hs⟩
      obtain ⟨O, rfl⟩ := hf.open
      show G _ _ _ _ [_,_,_,_,_,_,_,_,_,_,_,_,_,_,_,_,_,_,_,_,_,_,_,_,_,_,_,_,_,_,_,_,_,_,_,_,_,_] _
      unfold spec_l07Times.j2 at H
      refine g_region ?_
      show G _ _ _ (.inRegion _ [0, 1, 2] :: _) _ _
      refine g_op (v := Value.int .i64 x18) rfl rfl rfl ?_
      refine g_op (v := Value.int .i64 (i64w (x18 + 1))) rfl rfl rfl ?_
      show G _ _ _ _ [_,_,_,_,_,_,_,_,_,_,_,_,_,_,_,_,_,_,_,_,_,_,_,_,_,_,_,_,_,_,_,_,_,_,_,_,_,_] _
      refine g_op (v := Value.int .i64 (i64w (x18 + 1))) rfl rfl rfl ?_
      show G _ _ _ _ [_,_,_,_,_,_,_,_,_,_,_,_,_,_,_,_,_,_,_,_,_,_,_,_,_,_,_,_,_,_,_,_,_,_,_,_,_,_] _
      refine g_ops_nil ?_
      obtain rfl := Option.some.inj H
      have hs := hs.pull 1 rfl
      have hs := hs.pull 1 rfl
      have hs : St _ [_,_] _ := St.take (Γ' := []) hs
      exact ih1_ _ _ ⟨v25, x26, i64w (x18 + 1), Hx1_, rfl, hs⟩
     ·
      intro ha
      refine g_seq ?_
      refine g_region ?_
      show G _ _ _ (.inRegion _ [0, 1, 2, 3, 4, 5, 6, 7] :: _) _ _
      refine g_op (v := v10) rfl rfl rfl ?_
      refine g_op (v := Value.int .i64 x18) rfl rfl rfl ?_
      obtain ⟨g1, H⟩ := ite_get H
      refine s_idx fkHS zHS (hs.r2row 0 rfl) rfl (fun _ => rfl) g1.1 (hs.r2lt 0 rfl g1.2) rfl rfl rfl rfl rfl ?_
      intro p19 hp19 lp19 op19
      show G _ _ _ _ [_,_,_,_,_,_,_,_,_,_,_,_,_,_,_,_,_,_,_,_,_,_,_,_,_,_,_,_,_,_,_,_,_,_,_,_,_,_] _
      refine s_load1 rfl rfl (v := Value.slice (rdL ms11 x18 zHS).a (rdL ms11 x18 zHS).n (rdL ms11 x18 zHS).c) rfl rfl (fun _ => rfl) hp19 ?_
      show G _ _ _ _ [_,_,_,_,_,_,_,_,_,_,_,_,_,_,_,_,_,_,_,_,_,_,_,_,_,_,_,_,_,_,_,_,_,_,_,_,_,_] _
      obtain ⟨r20, Hr20, H⟩ := bind_get H
      refine s_call (args := [Value.slice (rdL ms11 x18 zHS).a (rdL ms11 x18 zHS).n (rdL ms11 x18 zHS).c]) rfl rfl (x_call rfl (callFunc_enter Try.func35 rfl rfl) rfl) (spec_l07Least.calls (a1 := rdL r9 x18 []) (hs.r2rd 0 rfl g1.1 g1.2) Hr20) ?_
      rintro _ w ⟨rfl, hs2⟩
      have hs : St _ [_,_] _ := hs.call hs2
      show G _ _ _ _ [_,_,_,_,_,_,_,_,_,_,_,_,_,_,_,_,_,_,_,_,_,_,_,_,_,_,_,_,_,_,_,_,_,_,_,_,_,_] _
      refine g_op (v := Value.bool (decide (r20 ≥ 0))) rfl rfl rfl ?_
      show G _ _ _ _ [_,_,_,_,_,_,_,_,_,_,_,_,_,_,_,_,_,_,_,_,_,_,_,_,_,_,_,_,_,_,_,_,_,_,_,_,_,_] _
      refine g_op (v := Value.bool a6) rfl rfl rfl ?_
      refine g_op_b (B := (decide (r20 ≥ 0)) == a6) rfl rfl rfl ?_ ?_
      ·
       intro hb
       rw [if_pos (b_beq_t hb)] at H
       show G _ _ _ _ [_,_,_,_,_,_,_,_,_,_,_,_,_,_,_,_,_,_,_,_,_,_,_,_,_,_,_,_,_,_,_,_,_,_,_,_,_,_] _
       refine g_ops_nil ?_
       refine g_cond_true rfl ?_
       refine g_region ?_
       show G _ _ _ (.inRegion _ [0, 1, 2, 3, 4] :: _) _ _
       refine g_op (v := v16) rfl rfl rfl ?_
       refine g_op (v := Value.int .i64 x18) rfl rfl rfl ?_
       refine s_lit1 (fkI .i64) (y := x18) hs rfl rfl rfl rfl (fun _ => rfl) (zv := (Value.int .i64 0)) (fun _ => rfl) rfl (by decide) (by decide) rfl ?_
       intro v21 w hs
       show G _ _ _ _ [_,_,_,_,_,_,_,_,_,_,_,_,_,_,_,_,_,_,_,_,_,_,_,_,_,_,_,_,_,_,_,_,_,_,_,_,_,_] _
       have hs := hs.pull 2 rfl
       have hs : St _ [_,_,_] _ := hs
       obtain ⟨g, H⟩ := ite_get H
       refine s_append (fkI .i64) (zv := (Value.int .i64 0)) (B := 8) hs (hs.row 1 rfl) rfl rfl rfl rfl rfl rfl rfl rfl rfl (by decide) rfl rfl (by decide) (by omega) ?_
       intro v23 w hs
       show G _ _ _ _ [_,_,_,_,_,_,_,_,_,_,_,_,_,_,_,_,_,_,_,_,_,_,_,_,_,_,_,_,_,_,_,_,_,_,_,_,_,_] _
       refine g_op (v := v23) rfl rfl rfl ?_
       show G _ _ _ _ [_,_,_,_,_,_,_,_,_,_,_,_,_,_,_,_,_,_,_,_,_,_,_,_,_,_,_,_,_,_,_,_,_,_,_,_,_,_] _
       refine g_ops_nil ?_
       refine g_inBlock ?_
       have hs := hs.pull 0 rfl
       have hs := hs.pull 2 rfl
       have hs : St _ [_,_] _ := St.take (Γ' := [_]) hs
       exact ha _ _ ⟨v23, x17 ++ ([x18]), H, rfl, hs⟩
      ·
       intro hb
       rw [if_neg (b_beq_f hb)] at H
       show G _ _ _ _ [_,_,_,_,_,_,_,_,_,_,_,_,_,_,_,_,_,_,_,_,_,_,_,_,_,_,_,_,_,_,_,_,_,_,_,_,_,_] _
       refine g_ops_nil ?_
       refine g_cond_false rfl ?_
       refine g_skip ?_
       refine g_inBlock ?_
       have hs := hs.pull 1 rfl
       have hs := hs.pull 1 rfl
       have hs : St _ [_,_] _ := St.take (Γ' := []) hs
       exact ha _ _ ⟨v16, x17, H, rfl, hs⟩
    ·
     intro hb
     rw [if_neg (b_dec_f hb)] at H
     show G _ _ _ _ [_,_,_,_,_,_,_,_,_,_,_,_,_,_,_,_,_,_,_,_,_,_,_,_,_,_,_,_,_,_,_,_,_,_,_,_,_,_] _
     refine g_ops_nil ?_
     refine g_cond_false rfl ?_
     obtain rfl := Option.some.inj H
     subst Hx1_
     have hs := hs.pull 1 rfl
     have hs : St _ [_] _ := St.take (Γ' := [_]) hs
     refine g_exit rfl ?_
     exact ha1_ _ _ ⟨v16, x17, Hr1_, rfl, hs⟩

/- function 14 spec_TimesFrom -/
def spec_TimesFrom.post (w0 : World) (r : ((List Int) × Int)) (v : Value) (w : World) : Prop := ∃ u1 : Value, v = Value.tuple #[u1, Value.int .i64 r.2] ∧ St w0 [Row 2 (K.int .i64) u1 r.1] w
set_option maxHeartbeats 8000000 in
set_option maxRecDepth 100000 in
theorem spec_TimesFrom.calls {N : Nat} {a1 : (List Int)} {a3 : (Ar Int 4)} {a4 : Int} {v2 : Value} {w0 : World} {r : ((List Int) × Int)} (hr0 : RdRow (K.int .i16) w0 v2 a1) (H : spec_TimesFrom.f N a1 a3 a4 = some r) :
    Calls Try.prog 14 #[v2, Value.agg ((encA (encI .i16)) a3).toArray, Value.int .i64 a4] w0 fun e w => ∃ v, e = .returned v ∧ spec_TimesFrom.post w0 r v w := by
  unfold spec_TimesFrom.f at H
  have hs : St w0 [] w0 := St.refl w0
  refine calls_of_g (n := 18) Try.func14 rfl rfl ?_
  show G _ _ _ _ [_,_,_,_,_,_,_,_,_,_,_,_,_,_,_,_,_,_,_,_,_] _
  refine g_seq ?_
  refine g_region ?_
  show G _ _ _ (.inRegion _ [0, 1, 2] :: _) _ _
  refine s_box hs rfl rfl (cs := ((encA (encI .i16)) a3)) rfl rfl ?_
  intro b5 w hs
  show G _ _ _ _ [_,_,_,_,_,_,_,_,_,_,_,_,_,_,_,_,_,_,_,_,_] _
  refine g_op (v := Value.slice none 0 0) rfl rfl rfl ?_
  show G _ _ _ _ [_,_,_,_,_,_,_,_,_,_,_,_,_,_,_,_,_,_,_,_,_] _
  refine g_op (v := Value.int .i64 0) rfl rfl rfl ?_
  show G _ _ _ _ [_,_,_,_,_,_,_,_,_,_,_,_,_,_,_,_,_,_,_,_,_] _
  refine g_ops_nil ?_
  refine g_seq ?_
  refine g_seq ?_
  refine g_region ?_
  show G _ _ _ (.inRegion _ [0, 1, 2, 3, 4] :: _) _ _
  refine g_op (v := v2) rfl rfl rfl ?_
  show G _ _ _ _ [_,_,_,_,_,_,_,_,_,_,_,_,_,_,_,_,_,_,_,_,_] _
  refine s_loadA rfl rfl (es := ((encA (encI .i16)) a3)) rfl rfl (fun _ => rfl) (n := 4) (fun _ => rfl) ((fkA (n := 4) (he := (fkI .i16).len) (h1 := (fkI .i16).one)).len _) (cells_all (hs.cells 0 rfl)) ?_
  show G _ _ _ _ [_,_,_,_,_,_,_,_,_,_,_,_,_,_,_,_,_,_,_,_,_] _
  refine g_op (v := Value.int .i64 a4) rfl rfl rfl ?_
  show G _ _ _ _ [_,_,_,_,_,_,_,_,_,_,_,_,_,_,_,_,_,_,_,_,_] _
  obtain ⟨r7, Hr7, H⟩ := bind_get H
  refine s_call (args := [v2, Value.agg ((encA (encI .i16)) a3).toArray, Value.int .i64 a4]) rfl rfl (x_call rfl (callFunc_enter Try.func34 rfl rfl) rfl) (spec_l07Asked.calls (a1 := a1) (a3 := a3) (a4 := a4) (hs.rd hr0) Hr7) ?_
  rintro _ w ⟨rfl, hs2⟩
  have hs : St _ [_] _ := hs.call hs2
  show G _ _ _ _ [_,_,_,_,_,_,_,_,_,_,_,_,_,_,_,_,_,_,_,_,_] _
  refine g_op (v := Value.int .i64 r7) rfl rfl rfl ?_
  show G _ _ _ _ [_,_,_,_,_,_,_,_,_,_,_,_,_,_,_,_,_,_,_,_,_] _
  refine g_ops_nil ?_
  refine g_seq ?_
  refine g_region ?_
  show G _ _ _ (.inRegion _ [0, 1] :: _) _ _
  refine g_op (v := Value.int .i64 r7) rfl rfl rfl ?_
  show G _ _ _ _ [_,_,_,_,_,_,_,_,_,_,_,_,_,_,_,_,_,_,_,_,_] _
  refine g_op_b (B := r7 != 0) rfl rfl rfl ?_ ?_
  ·
   intro hb
   rw [if_neg (b_bne_t hb)] at H
   show G _ _ _ _ [_,_,_,_,_,_,_,_,_,_,_,_,_,_,_,_,_,_,_,_,_] _
   refine g_ops_nil ?_
   refine g_cond_true rfl ?_
   refine g_seq ?_
   refine g_region ?_
   show G _ _ _ (.inRegion _ [0, 1, 2, 3] :: _) _ _
   refine s_lit0 (κ := (K.int .i64)) hs rfl rfl rfl rfl (fun _ => rfl) ?_
   intro v8 w hs
   show G _ _ _ _ [_,_,_,_,_,_,_,_,_,_,_,_,_,_,_,_,_,_,_,_,_] _
   refine g_op (v := Value.int .i64 r7) rfl rfl rfl ?_
   show G _ _ _ _ [_,_,_,_,_,_,_,_,_,_,_,_,_,_,_,_,_,_,_,_,_] _
   refine g_op (v := v8) rfl rfl rfl ?_
   show G _ _ _ _ [_,_,_,_,_,_,_,_,_,_,_,_,_,_,_,_,_,_,_,_,_] _
   refine g_op (v := Value.int .i64 r7) rfl rfl rfl ?_
   show G _ _ _ _ [_,_,_,_,_,_,_,_,_,_,_,_,_,_,_,_,_,_,_,_,_] _
   refine g_ops_nil ?_
   obtain rfl := Option.some.inj H
   refine g_ret Try.func14 (v := Value.tuple #[v8, Value.int .i64 r7]) (resN (l := Try.f14.results.toList) (vs := [v8, Value.int .i64 r7]) rfl ⟨rfl, rfl, trivial⟩ (by simp)) ?_
   have hs := hs.pull 0 rfl
   have hs : St _ [_] _ := St.take (Γ' := [_]) hs
   exact ⟨_, rfl, v8, rfl, hs⟩
  ·
   intro hb
   rw [if_pos (b_bne_f hb)] at H
   show G _ _ _ _ [_,_,_,_,_,_,_,_,_,_,_,_,_,_,_,_,_,_,_,_,_] _
   refine g_ops_nil ?_
   refine g_cond_false rfl ?_
   refine g_skip ?_
   refine g_seq ?_
   refine g_region ?_
   show G _ _ _ (.inRegion _ [0, 1, 2, 3, 4, 5] :: _) _ _
   refine g_op (v := v2) rfl rfl rfl ?_
   show G _ _ _ _ [_,_,_,_,_,_,_,_,_,_,_,_,_,_,_,_,_,_,_,_,_] _
   refine s_loadA rfl rfl (es := ((encA (encI .i16)) a3)) rfl rfl (fun _ => rfl) (n := 4) (fun _ => rfl) ((fkA (n := 4) (he := (fkI .i16).len) (h1 := (fkI .i16).one)).len _) (cells_all (hs.cells 0 rfl)) ?_
   show G _ _ _ _ [_,_,_,_,_,_,_,_,_,_,_,_,_,_,_,_,_,_,_,_,_] _
   refine g_op (v := Value.int .i64 a4) rfl rfl rfl ?_
   show G _ _ _ _ [_,_,_,_,_,_,_,_,_,_,_,_,_,_,_,_,_,_,_,_,_] _
   obtain ⟨r10, Hr10, H⟩ := bind_get H
   refine s_call (args := [v2, Value.agg ((encA (encI .i16)) a3).toArray, Value.int .i64 0, Value.int .i64 a4, Value.bool true]) rfl rfl (x_call rfl (callFunc_enter Try.func39 rfl rfl) rfl) (spec_l07Times.calls (a1 := a1) (a3 := a3) (a4 := 0) (a5 := a4) (a6 := true) (hs.rd hr0) Hr10) ?_
   intro v11 w hs2
   have hs : St _ [_,_] _ := hs.call hs2
   show G _ _ _ _ [_,_,_,_,_,_,_,_,_,_,_,_,_,_,_,_,_,_,_,_,_] _
   refine g_op (v := v11) rfl rfl rfl ?_
   show G _ _ _ _ [_,_,_,_,_,_,_,_,_,_,_,_,_,_,_,_,_,_,_,_,_] _
   refine g_op (v := Value.int .i64 0) rfl rfl rfl ?_
   show G _ _ _ _ [_,_,_,_,_,_,_,_,_,_,_,_,_,_,_,_,_,_,_,_,_] _
   refine g_ops_nil ?_
   obtain rfl := Option.some.inj H
   refine g_ret Try.func14 (v := Value.tuple #[v11, Value.int .i64 0]) (resN (l := Try.f14.results.toList) (vs := [v11, Value.int .i64 0]) rfl ⟨rfl, rfl, trivial⟩ (by simp)) ?_
   have hs := hs.pull 0 rfl
   have hs : St _ [_] _ := St.take (Γ' := [_]) hs
   exact ⟨_, rfl, v11, rfl, hs⟩

end Go.Proofs.YtioefkcldfjobaaX
