/- Contracts, printed by gen.py. -/
import Derived.Test.YtpbkenbmjgchkaaXC4
namespace Go.Proofs.YtpbkenbmjgchkaaX
open Go Go.RowKit Go.Proofs
set_option linter.unusedVariables false
set_option linter.unusedSimpArgs false
/- function 14 laws_eqInt64S -/
def laws_eqInt64S.post (w0 : World) (r : Bool) (v : Value) (w : World) : Prop := v = Value.bool r ∧ St w0 [] w
set_option maxHeartbeats 8000000 in
set_option maxRecDepth 100000 in
theorem laws_eqInt64S.calls {N : Nat} {a1 : (List Int)} {a3 : (List Int)} {v2 : Value} {v4 : Value} {w0 : World} {r : Bool} (hr0 : RdRow (K.int .i64) w0 v2 a1) (hr1 : RdRow (K.int .i64) w0 v4 a3) (H : laws_eqInt64S.f N a1 a3 = some r) :
    Calls Try.prog 14 #[v2, v4] w0 fun e w => ∃ v, e = .returned v ∧ laws_eqInt64S.post w0 r v w := by
  unfold laws_eqInt64S.f at H
  have hs : St w0 [] w0 := St.refl w0
  refine calls_of_g (n := 24) Try.func14 rfl rfl ?_
  show G _ _ _ _ [_, _, _, _, _, _, _, _, _, _, _, _, _, _, _, _, _, _, _, _, _, _, _, _, _, _] _
  refine g_seq ?_
  refine g_region ?_
  show G _ _ _ (.inRegion _ [0] :: _) _ _
  refine g_op (v := Value.bool false) rfl rfl rfl ?_
  show G _ _ _ _ [_, _, _, _, _, _, _, _, _, _, _, _, _, _, _, _, _, _, _, _, _, _, _, _, _, _] _
  refine g_ops_nil ?_
  refine g_seq ?_
  refine g_seq ?_
  refine g_region ?_
  show G _ _ _ (.inRegion _ [0, 1, 2, 3, 4] :: _) _ _
  refine g_op (v := v2) rfl rfl rfl ?_
  refine s_len (hs.rd hr0) rfl rfl rfl rfl rfl ?_
  show G _ _ _ _ [_, _, _, _, _, _, _, _, _, _, _, _, _, _, _, _, _, _, _, _, _, _, _, _, _, _] _
  refine g_op (v := v4) rfl rfl rfl ?_
  refine s_len (hs.rd hr1) rfl rfl rfl rfl rfl ?_
  show G _ _ _ _ [_, _, _, _, _, _, _, _, _, _, _, _, _, _, _, _, _, _, _, _, _, _, _, _, _, _] _
  refine g_op_b (B := (a1.length : Int) != (a3.length : Int)) rfl rfl rfl ?_ ?_
  ·
   intro hb
   rw [if_neg (b_bne_t hb)] at H
   show G _ _ _ _ [_, _, _, _, _, _, _, _, _, _, _, _, _, _, _, _, _, _, _, _, _, _, _, _, _, _] _
   refine g_ops_nil ?_
   refine g_cond_true rfl ?_
   refine g_seq ?_
   refine g_region ?_
   show G _ _ _ (.inRegion _ [0] :: _) _ _
   refine g_op (v := Value.bool false) rfl rfl rfl ?_
   show G _ _ _ _ [_, _, _, _, _, _, _, _, _, _, _, _, _, _, _, _, _, _, _, _, _, _, _, _, _, _] _
   refine g_ops_nil ?_
   obtain rfl := Option.some.inj H
   refine g_ret Try.func14 (v := Value.bool false) (res1 rfl rfl) ?_
   have hs : St _ [] _ := St.take (Γ' := []) hs
   exact ⟨_, rfl, rfl, hs⟩
  ·
   intro hb
   rw [if_pos (b_bne_f hb)] at H
   show G _ _ _ _ [_, _, _, _, _, _, _, _, _, _, _, _, _, _, _, _, _, _, _, _, _, _, _, _, _, _] _
   refine g_ops_nil ?_
   refine g_cond_false rfl ?_
   refine g_skip ?_
   refine g_seq ?_
   refine g_seq ?_
   refine g_region ?_
   show G _ _ _ (.inRegion _ [0] :: _) _ _
   refine g_op (v := Value.int .i64 0) rfl rfl rfl ?_
   show G _ _ _ _ [_, _, _, _, _, _, _, _, _, _, _, _, _, _, _, _, _, _, _, _, _, _, _, _, _, _] _
   refine g_ops_nil ?_
   obtain ⟨o1_, Ho, Hr1_⟩ := bind_get H
   refine g_block_join (J := fun t w => laws_eqInt64S.a0 N = some r ∧ Fr t (fun O => ([O 0, O 1, O 2, O 3, O 4, O 5, O 6, O 7, O 8, O 9, O 10, O 11, O 12, O 13, O 14, O 15, O 16, O 17, O 18, O 19, O 20, O 21, O 22, O 23, O 24, O 25] : List Value)) ∧ St w0 [] w) ?_ ?_
   ·
    rintro t w ⟨H, hf, hs⟩
    obtain ⟨O, rfl⟩ := hf.open
    show G _ _ _ _ [_, _, _, _, _, _, _, _, _, _, _, _, _, _, _, _, _, _, _, _, _, _, _, _, _, _] _
    unfold laws_eqInt64S.a0 at H
    refine g_seq ?_
    refine g_region ?_
    show G _ _ _ (.inRegion _ [0] :: _) _ _
    refine g_op (v := Value.bool true) rfl rfl rfl ?_
    show G _ _ _ _ [_, _, _, _, _, _, _, _, _, _, _, _, _, _, _, _, _, _, _, _, _, _, _, _, _, _] _
    refine g_ops_nil ?_
    obtain rfl := Option.some.inj H
    refine g_ret Try.func14 (v := Value.bool true) (res1 rfl rfl) ?_
    have hs : St _ [] _ := St.take (Γ' := []) hs
    exact ⟨_, rfl, rfl, hs⟩
   ·
    intro ha1_
    have hs : St _ [] _ := St.take (Γ' := []) hs
    refine g_loop_fuel (I := fun n_ t w => ∃ x5 : Int, rounds (fun s => laws_eqInt64S.b0 N a1 a3 s) n_ x5 = some o1_ ∧ Fr t (fun O => ([v2, v4, O 2, O 3, O 4, Value.int .i64 x5, O 6, O 7, O 8, O 9, O 10, O 11, O 12, O 13, O 14, O 15, O 16, O 17, O 18, O 19, O 20, O 21, O 22, O 23, O 24, O 25] : List Value)) ∧ St w0 [] w) N ⟨0, Ho, rfl, hs⟩ ?_ ?_
    ·
     rintro _ _ ⟨x5, h, _⟩
     exact rounds_zero h
    ·
     intro n_ ih1_
     rintro t w ⟨x5, Ho, hf, hs⟩
     obtain ⟨O, rfl⟩ := hf.open
     show G _ _ _ _ [_, _, _, _, _, _, _, _, _, _, _, _, _, _, _, _, _, _, _, _, _, _, _, _, _, _] _
     obtain ⟨x7_, H, Hx1_⟩ := rounds_succ Ho
     have H : laws_eqInt64S.b0 N a1 a3 x5 = some x7_ := H
     unfold laws_eqInt64S.b0 at H
     refine g_seq ?_
     refine g_seq ?_
     refine g_region ?_
     show G _ _ _ (.inRegion _ [0, 1, 2, 3] :: _) _ _
     refine g_op (v := Value.int .i64 x5) rfl rfl rfl ?_
     refine g_op (v := v2) rfl rfl rfl ?_
     refine s_len (hs.rd hr0) rfl rfl rfl rfl rfl ?_
     show G _ _ _ _ [_, _, _, _, _, _, _, _, _, _, _, _, _, _, _, _, _, _, _, _, _, _, _, _, _, _] _
     refine g_op_b (B := decide (x5 < (a1.length : Int))) rfl rfl rfl ?_ ?_
     ·
      intro hb
      rw [if_pos (b_dec_t hb)] at H
      show G _ _ _ _ [_, _, _, _, _, _, _, _, _, _, _, _, _, _, _, _, _, _, _, _, _, _, _, _, _, _] _
      refine g_ops_nil ?_
      refine g_cond_true rfl ?_
      refine g_skip ?_
      refine g_seq ?_
      refine g_block ?_
      refine g_seq ?_
      refine g_lay (n := 9) rfl [0, 1, 2, 3, 4, 5, 6, 7, 8] [0, 1, 2, 3, 4, 5, 6, 7, 8] rfl rfl ?_
      intro rest w hh hbw hO
      have hs := hs.samew hh hbw
      show G _ _ _ _ [_, _, _, _, _, _, _, _, _, _, _, _, _, _, _, _, _, _, _, _, _, _, _, _, _, _] _
      obtain ⟨gd2, H⟩ := ite_get H
      obtain ⟨ad3_, ad3_N, ad3_C, had3_⟩ := sl_at (hs.rd hr0) gd2.1 gd2.2
      obtain ⟨gd4, H⟩ := ite_get H
      obtain ⟨ad5_, ad5_N, ad5_C, had5_⟩ := sl_at (hs.rd hr1) gd4.1 gd4.2
      refine g_name ?_
      intro T hT
      refine g_layer (m0 := 0) hO rfl 255 [0, 1, 2, 3, 4, 5, 6, 7] [0, 0, 3, 7, 0, 0, 48, 112, 255] (by decide +kernel) (fun D t w => ∃ O : Nat → Value, t = [v2, v4, O 2, O 3, O 4, Value.int .i64 x5, O 6, O 7, O 8, O 9, O 10, Value.int .i64 x5, v2, Value.int .i64 (a1.length : Int), Value.bool true, O 15, O 16, cnd (D 0) v2 (O 17), cnd (D 1) (Value.int .i64 x5) (O 18), cnd (D 2) (Value.pointer (some (ad3_.add (x5.toNat * 1)))) (O 19), cnd (D 3) (Value.int .i64 (rdL a1 x5 0)) (O 20), cnd (D 4) v4 (O 21), cnd (D 5) (Value.int .i64 x5) (O 22), cnd (D 6) (Value.pointer (some (ad5_.add (x5.toNat * 1)))) (O 23), cnd (D 7) (Value.int .i64 (rdL a3 x5 0)) (O 24), O 25] ∧ St w0 [] w) ?_ ⟨?_, ⟨?_, ⟨?_, ⟨?_, ⟨?_, ⟨?_, ⟨?_, ⟨?_, trivial⟩⟩⟩⟩⟩⟩⟩⟩ ?_
      · exact ⟨fun i => T.getD i undef, (by subst hT; rfl), hs⟩
      ·
       intro D t w hD hp hcl hI rest hk
       obtain ⟨O, ht, hs⟩ := hI
       have hp : AllDone D [] := hp
       have q2_ : D 2 = false := not_yet (show D 2 = true → AllDone D [0, 1] from hcl 2 (by decide)) 0 0 rfl hD
       have q3_ : D 3 = false := not_yet (show D 3 = true → AllDone D [2] from hcl 3 (by decide)) 0 2 rfl q2_
       have u0_ : upd D 0 0 = true := rfl; have u1_ : upd D 0 1 = D 1 := rfl; have u2_ : upd D 0 2 = D 2 := rfl; have u3_ : upd D 0 3 = D 3 := rfl; have u4_ : upd D 0 4 = D 4 := rfl; have u5_ : upd D 0 5 = D 5 := rfl; have u6_ : upd D 0 6 = D 6 := rfl; have u7_ : upd D 0 7 = D 7 := rfl
       simp only [hD, q2_, q3_, cnd_t, cnd_f, Asc_t, Asc_f] at ht hs
       subst ht
       refine g_op (v := v2) rfl rfl rfl ?_
       show G _ _ _ _ [_, _, _, _, _, _, _, _, _, _, _, _, _, _, _, _, _, _, _, _, _, _, _, _, _, _] _
       exact hk _ _ ⟨O, (by simp only [u0_, u1_, u2_, u3_, u4_, u5_, u6_, u7_, q2_, q3_, cnd_t, cnd_f, Asc_t, Asc_f]), hs.cast (by first | rfl | simp only [List.take, List.drop, List.cons_append, List.nil_append, List.set_cons_zero, List.set_cons_succ, List.eraseIdx, u0_, u1_, u2_, u3_, u4_, u5_, u6_, u7_, q2_, q3_, cnd_t, cnd_f, Asc_t, Asc_f])⟩
      ·
       intro D t w hD hp hcl hI rest hk
       obtain ⟨O, ht, hs⟩ := hI
       have hp : AllDone D [] := hp
       have q2_ : D 2 = false := not_yet (show D 2 = true → AllDone D [0, 1] from hcl 2 (by decide)) 1 1 rfl hD
       have q3_ : D 3 = false := not_yet (show D 3 = true → AllDone D [2] from hcl 3 (by decide)) 0 2 rfl q2_
       have u0_ : upd D 1 0 = D 0 := rfl; have u1_ : upd D 1 1 = true := rfl; have u2_ : upd D 1 2 = D 2 := rfl; have u3_ : upd D 1 3 = D 3 := rfl; have u4_ : upd D 1 4 = D 4 := rfl; have u5_ : upd D 1 5 = D 5 := rfl; have u6_ : upd D 1 6 = D 6 := rfl; have u7_ : upd D 1 7 = D 7 := rfl
       simp only [hD, q2_, q3_, cnd_t, cnd_f, Asc_t, Asc_f] at ht hs
       subst ht
       refine g_op (v := Value.int .i64 x5) rfl rfl rfl ?_
       show G _ _ _ _ [_, _, _, _, _, _, _, _, _, _, _, _, _, _, _, _, _, _, _, _, _, _, _, _, _, _] _
       exact hk _ _ ⟨O, (by simp only [u0_, u1_, u2_, u3_, u4_, u5_, u6_, u7_, q2_, q3_, cnd_t, cnd_f, Asc_t, Asc_f]), hs.cast (by first | rfl | simp only [List.take, List.drop, List.cons_append, List.nil_append, List.set_cons_zero, List.set_cons_succ, List.eraseIdx, u0_, u1_, u2_, u3_, u4_, u5_, u6_, u7_, q2_, q3_, cnd_t, cnd_f, Asc_t, Asc_f])⟩
      ·
       intro D t w hD hp hcl hI rest hk
       obtain ⟨O, ht, hs⟩ := hI
       have hp : AllDone D [0, 1] := hp
       obtain ⟨p0_, p1_, _⟩ := hp
       have q3_ : D 3 = false := not_yet (show D 3 = true → AllDone D [2] from hcl 3 (by decide)) 0 2 rfl hD
       have u0_ : upd D 2 0 = D 0 := rfl; have u1_ : upd D 2 1 = D 1 := rfl; have u2_ : upd D 2 2 = true := rfl; have u3_ : upd D 2 3 = D 3 := rfl; have u4_ : upd D 2 4 = D 4 := rfl; have u5_ : upd D 2 5 = D 5 := rfl; have u6_ : upd D 2 6 = D 6 := rfl; have u7_ : upd D 2 7 = D 7 := rfl
       simp only [hD, p0_, p1_, q3_, cnd_t, cnd_f, Asc_t, Asc_f] at ht hs
       subst ht
       refine s_idxD (κ := (K.int .i64)) (m := 1) rfl (hs.rd hr0) rfl (fun _ => rfl) gd2.1 gd2.2 had3_ rfl rfl rfl rfl rfl ?_
       show G _ _ _ _ [_, _, _, _, _, _, _, _, _, _, _, _, _, _, _, _, _, _, _, _, _, _, _, _, _, _] _
       exact hk _ _ ⟨O, (by simp only [u0_, u1_, u2_, u3_, u4_, u5_, u6_, u7_, p0_, p1_, q3_, cnd_t, cnd_f, Asc_t, Asc_f]), hs.cast (by first | rfl | simp only [List.take, List.drop, List.cons_append, List.nil_append, List.set_cons_zero, List.set_cons_succ, List.eraseIdx, u0_, u1_, u2_, u3_, u4_, u5_, u6_, u7_, p0_, p1_, q3_, cnd_t, cnd_f, Asc_t, Asc_f])⟩
      ·
       intro D t w hD hp hcl hI rest hk
       obtain ⟨O, ht, hs⟩ := hI
       have hp : AllDone D [2] := hp
       obtain ⟨p2_, _⟩ := hp
       obtain ⟨p0_, p1_, _⟩ := (show D 2 = true → AllDone D [0, 1] from hcl 2 (by decide)) p2_
       have u0_ : upd D 3 0 = D 0 := rfl; have u1_ : upd D 3 1 = D 1 := rfl; have u2_ : upd D 3 2 = D 2 := rfl; have u3_ : upd D 3 3 = true := rfl; have u4_ : upd D 3 4 = D 4 := rfl; have u5_ : upd D 3 5 = D 5 := rfl; have u6_ : upd D 3 6 = D 6 := rfl; have u7_ : upd D 3 7 = D 7 := rfl
       simp only [hD, p0_, p1_, p2_, cnd_t, cnd_f, Asc_t, Asc_f] at ht hs
       subst ht
       refine s_load1 rfl rfl (v := Value.int .i64 (rdL a1 x5 0)) rfl rfl (fun _ => rfl) (cellsAt_of (fkI .i64) 0 (hs.rd hr0) had3_ gd2.1 gd2.2) ?_
       show G _ _ _ _ [_, _, _, _, _, _, _, _, _, _, _, _, _, _, _, _, _, _, _, _, _, _, _, _, _, _] _
       exact hk _ _ ⟨O, (by simp only [u0_, u1_, u2_, u3_, u4_, u5_, u6_, u7_, p0_, p1_, p2_, cnd_t, cnd_f, Asc_t, Asc_f]), hs.cast (by first | rfl | simp only [List.take, List.drop, List.cons_append, List.nil_append, List.set_cons_zero, List.set_cons_succ, List.eraseIdx, u0_, u1_, u2_, u3_, u4_, u5_, u6_, u7_, p0_, p1_, p2_, cnd_t, cnd_f, Asc_t, Asc_f])⟩
      ·
       intro D t w hD hp hcl hI rest hk
       obtain ⟨O, ht, hs⟩ := hI
       have hp : AllDone D [] := hp
       have q6_ : D 6 = false := not_yet (show D 6 = true → AllDone D [4, 5] from hcl 6 (by decide)) 0 4 rfl hD
       have q7_ : D 7 = false := not_yet (show D 7 = true → AllDone D [6] from hcl 7 (by decide)) 0 6 rfl q6_
       have u0_ : upd D 4 0 = D 0 := rfl; have u1_ : upd D 4 1 = D 1 := rfl; have u2_ : upd D 4 2 = D 2 := rfl; have u3_ : upd D 4 3 = D 3 := rfl; have u4_ : upd D 4 4 = true := rfl; have u5_ : upd D 4 5 = D 5 := rfl; have u6_ : upd D 4 6 = D 6 := rfl; have u7_ : upd D 4 7 = D 7 := rfl
       simp only [hD, q6_, q7_, cnd_t, cnd_f, Asc_t, Asc_f] at ht hs
       subst ht
       refine g_op (v := v4) rfl rfl rfl ?_
       show G _ _ _ _ [_, _, _, _, _, _, _, _, _, _, _, _, _, _, _, _, _, _, _, _, _, _, _, _, _, _] _
       exact hk _ _ ⟨O, (by simp only [u0_, u1_, u2_, u3_, u4_, u5_, u6_, u7_, q6_, q7_, cnd_t, cnd_f, Asc_t, Asc_f]), hs.cast (by first | rfl | simp only [List.take, List.drop, List.cons_append, List.nil_append, List.set_cons_zero, List.set_cons_succ, List.eraseIdx, u0_, u1_, u2_, u3_, u4_, u5_, u6_, u7_, q6_, q7_, cnd_t, cnd_f, Asc_t, Asc_f])⟩
      ·
       intro D t w hD hp hcl hI rest hk
       obtain ⟨O, ht, hs⟩ := hI
       have hp : AllDone D [] := hp
       have q6_ : D 6 = false := not_yet (show D 6 = true → AllDone D [4, 5] from hcl 6 (by decide)) 1 5 rfl hD
       have q7_ : D 7 = false := not_yet (show D 7 = true → AllDone D [6] from hcl 7 (by decide)) 0 6 rfl q6_
       have u0_ : upd D 5 0 = D 0 := rfl; have u1_ : upd D 5 1 = D 1 := rfl; have u2_ : upd D 5 2 = D 2 := rfl; have u3_ : upd D 5 3 = D 3 := rfl; have u4_ : upd D 5 4 = D 4 := rfl; have u5_ : upd D 5 5 = true := rfl; have u6_ : upd D 5 6 = D 6 := rfl; have u7_ : upd D 5 7 = D 7 := rfl
       simp only [hD, q6_, q7_, cnd_t, cnd_f, Asc_t, Asc_f] at ht hs
       subst ht
       refine g_op (v := Value.int .i64 x5) rfl rfl rfl ?_
       show G _ _ _ _ [_, _, _, _, _, _, _, _, _, _, _, _, _, _, _, _, _, _, _, _, _, _, _, _, _, _] _
       exact hk _ _ ⟨O, (by simp only [u0_, u1_, u2_, u3_, u4_, u5_, u6_, u7_, q6_, q7_, cnd_t, cnd_f, Asc_t, Asc_f]), hs.cast (by first | rfl | simp only [List.take, List.drop, List.cons_append, List.nil_append, List.set_cons_zero, List.set_cons_succ, List.eraseIdx, u0_, u1_, u2_, u3_, u4_, u5_, u6_, u7_, q6_, q7_, cnd_t, cnd_f, Asc_t, Asc_f])⟩
      ·
       intro D t w hD hp hcl hI rest hk
       obtain ⟨O, ht, hs⟩ := hI
       have hp : AllDone D [4, 5] := hp
       obtain ⟨p4_, p5_, _⟩ := hp
       have q7_ : D 7 = false := not_yet (show D 7 = true → AllDone D [6] from hcl 7 (by decide)) 0 6 rfl hD
       have u0_ : upd D 6 0 = D 0 := rfl; have u1_ : upd D 6 1 = D 1 := rfl; have u2_ : upd D 6 2 = D 2 := rfl; have u3_ : upd D 6 3 = D 3 := rfl; have u4_ : upd D 6 4 = D 4 := rfl; have u5_ : upd D 6 5 = D 5 := rfl; have u6_ : upd D 6 6 = true := rfl; have u7_ : upd D 6 7 = D 7 := rfl
       simp only [hD, p4_, p5_, q7_, cnd_t, cnd_f, Asc_t, Asc_f] at ht hs
       subst ht
       refine s_idxD (κ := (K.int .i64)) (m := 1) rfl (hs.rd hr1) rfl (fun _ => rfl) gd4.1 gd4.2 had5_ rfl rfl rfl rfl rfl ?_
       show G _ _ _ _ [_, _, _, _, _, _, _, _, _, _, _, _, _, _, _, _, _, _, _, _, _, _, _, _, _, _] _
       exact hk _ _ ⟨O, (by simp only [u0_, u1_, u2_, u3_, u4_, u5_, u6_, u7_, p4_, p5_, q7_, cnd_t, cnd_f, Asc_t, Asc_f]), hs.cast (by first | rfl | simp only [List.take, List.drop, List.cons_append, List.nil_append, List.set_cons_zero, List.set_cons_succ, List.eraseIdx, u0_, u1_, u2_, u3_, u4_, u5_, u6_, u7_, p4_, p5_, q7_, cnd_t, cnd_f, Asc_t, Asc_f])⟩
      ·
       intro D t w hD hp hcl hI rest hk
       obtain ⟨O, ht, hs⟩ := hI
       have hp : AllDone D [6] := hp
       obtain ⟨p6_, _⟩ := hp
       obtain ⟨p4_, p5_, _⟩ := (show D 6 = true → AllDone D [4, 5] from hcl 6 (by decide)) p6_
       have u0_ : upd D 7 0 = D 0 := rfl; have u1_ : upd D 7 1 = D 1 := rfl; have u2_ : upd D 7 2 = D 2 := rfl; have u3_ : upd D 7 3 = D 3 := rfl; have u4_ : upd D 7 4 = D 4 := rfl; have u5_ : upd D 7 5 = D 5 := rfl; have u6_ : upd D 7 6 = D 6 := rfl; have u7_ : upd D 7 7 = true := rfl
       simp only [hD, p4_, p5_, p6_, cnd_t, cnd_f, Asc_t, Asc_f] at ht hs
       subst ht
       refine s_load1 rfl rfl (v := Value.int .i64 (rdL a3 x5 0)) rfl rfl (fun _ => rfl) (cellsAt_of (fkI .i64) 0 (hs.rd hr1) had5_ gd4.1 gd4.2) ?_
       show G _ _ _ _ [_, _, _, _, _, _, _, _, _, _, _, _, _, _, _, _, _, _, _, _, _, _, _, _, _, _] _
       exact hk _ _ ⟨O, (by simp only [u0_, u1_, u2_, u3_, u4_, u5_, u6_, u7_, p4_, p5_, p6_, cnd_t, cnd_f, Asc_t, Asc_f]), hs.cast (by first | rfl | simp only [List.take, List.drop, List.cons_append, List.nil_append, List.set_cons_zero, List.set_cons_succ, List.eraseIdx, u0_, u1_, u2_, u3_, u4_, u5_, u6_, u7_, p4_, p5_, p6_, cnd_t, cnd_f, Asc_t, Asc_f])⟩
      ·
       intro D t w rest hall hO1_ hI
       obtain ⟨O, ht, hs⟩ := hI
       have p0_ : D 0 = true := hall 0 (by decide) rfl
       have p1_ : D 1 = true := hall 1 (by decide) rfl
       have p2_ : D 2 = true := hall 2 (by decide) rfl
       have p3_ : D 3 = true := hall 3 (by decide) rfl
       have p4_ : D 4 = true := hall 4 (by decide) rfl
       have p5_ : D 5 = true := hall 5 (by decide) rfl
       have p6_ : D 6 = true := hall 6 (by decide) rfl
       have p7_ : D 7 = true := hall 7 (by decide) rfl
       simp only [p0_, p1_, p2_, p3_, p4_, p5_, p6_, p7_, cnd_t, cnd_f, Asc_t, Asc_f] at ht hs
       subst ht
       obtain ⟨rest, rfl, hO6_⟩ := ord_one (m := 255) hO1_ rfl 8 (m' := 511) (by decide +kernel) rfl
       clear hO1_
       refine g_op_b (B := (rdL a1 x5 0) != (rdL a3 x5 0)) rfl rfl rfl ?_ ?_
       ·
        intro hb
        rw [if_neg (b_bne_t hb)] at H
        show G _ _ _ _ [_, _, _, _, _, _, _, _, _, _, _, _, _, _, _, _, _, _, _, _, _, _, _, _, _, _] _
        obtain rfl := ord_end hO6_ rfl (by decide +kernel)
        refine g_ops_nil ?_
        refine g_cond_true rfl ?_
        refine g_seq ?_
        refine g_region ?_
        show G _ _ _ (.inRegion _ [0] :: _) _ _
        refine g_op (v := Value.bool false) rfl rfl rfl ?_
        show G _ _ _ _ [_, _, _, _, _, _, _, _, _, _, _, _, _, _, _, _, _, _, _, _, _, _, _, _, _, _] _
        refine g_ops_nil ?_
        obtain rfl := Option.some.inj H
        subst Hx1_
        have H := Option.some.inj Hr1_
        subst H
        refine g_ret Try.func14 (v := Value.bool false) (res1 rfl rfl) ?_
        have hs : St _ [] _ := St.take (Γ' := []) hs
        exact ⟨_, rfl, rfl, hs⟩
       ·
        intro hb
        rw [if_pos (b_bne_f hb)] at H
        show G _ _ _ _ [_, _, _, _, _, _, _, _, _, _, _, _, _, _, _, _, _, _, _, _, _, _, _, _, _, _] _
        obtain rfl := ord_end hO6_ rfl (by decide +kernel)
        refine g_ops_nil ?_
        refine g_cond_false rfl ?_
        refine g_skip ?_
        refine g_inBlock ?_
        refine g_region ?_
        show G _ _ _ (.inRegion _ [0, 1, 2] :: _) _ _
        refine g_op (v := Value.int .i64 x5) rfl rfl rfl ?_
        refine g_op (v := Value.int .i64 (i64w (x5 + 1))) rfl rfl rfl ?_
        show G _ _ _ _ [_, _, _, _, _, _, _, _, _, _, _, _, _, _, _, _, _, _, _, _, _, _, _, _, _, _] _
        refine g_op (v := Value.int .i64 (i64w (x5 + 1))) rfl rfl rfl ?_
        show G _ _ _ _ [_, _, _, _, _, _, _, _, _, _, _, _, _, _, _, _, _, _, _, _, _, _, _, _, _, _] _
        refine g_ops_nil ?_
        obtain rfl := Option.some.inj H
        have hs : St _ [] _ := St.take (Γ' := []) hs
        exact ih1_ _ _ ⟨i64w (x5 + 1), Hx1_, rfl, hs⟩
     ·
      intro hb
      rw [if_neg (b_dec_f hb)] at H
      show G _ _ _ _ [_, _, _, _, _, _, _, _, _, _, _, _, _, _, _, _, _, _, _, _, _, _, _, _, _, _] _
      refine g_ops_nil ?_
      refine g_cond_false rfl ?_
      obtain rfl := Option.some.inj H
      subst Hx1_
      have hs : St _ [] _ := St.take (Γ' := []) hs
      refine g_exit rfl ?_
      exact ha1_ _ _ ⟨Hr1_, rfl, hs⟩

/- function 53 laws_eqAsk -/
def laws_eqAsk.post (w0 : World) (r : Bool) (v : Value) (w : World) : Prop := v = Value.bool r ∧ St w0 [] w
set_option maxHeartbeats 8000000 in
set_option maxRecDepth 100000 in
theorem laws_eqAsk.calls {N : Nat} {a1 : S_impl_Ask} {a2 : S_impl_Ask} {w0 : World} {r : Bool} (H : laws_eqAsk.f N a1 a2 = some r) :
    Calls Try.prog 53 #[Value.agg (enc_S_impl_Ask a1).toArray, Value.agg (enc_S_impl_Ask a2).toArray] w0 fun e w => ∃ v, e = .returned v ∧ laws_eqAsk.post w0 r v w := by
  unfold laws_eqAsk.f at H
  have hs : St w0 [] w0 := St.refl w0
  refine calls_of_g (n := 13) Try.func53 rfl rfl ?_
  show G _ _ _ _ [_, _, _, _, _, _, _, _, _, _, _, _, _, _, _] _
  refine g_seq ?_
  refine g_region ?_
  show G _ _ _ (.inRegion _ [0, 1, 2] :: _) _ _
  refine s_box hs rfl rfl (cs := (enc_S_impl_Ask a1)) rfl rfl ?_
  intro b3 w hs
  show G _ _ _ _ [_, _, _, _, _, _, _, _, _, _, _, _, _, _, _] _
  refine s_box hs rfl rfl (cs := (enc_S_impl_Ask a2)) rfl rfl ?_
  intro b5 w hs
  show G _ _ _ _ [_, _, _, _, _, _, _, _, _, _, _, _, _, _, _] _
  refine g_op (v := Value.bool false) rfl rfl rfl ?_
  show G _ _ _ _ [_, _, _, _, _, _, _, _, _, _, _, _, _, _, _] _
  refine g_ops_nil ?_
  refine g_seq ?_
  refine g_seq ?_
  refine g_region ?_
  show G _ _ _ (.inRegion _ [0, 1, 2, 3, 4] :: _) _ _
  refine g_op (v := Value.pointer (some ⟨b3, 0, none⟩)) rfl rfl rfl ?_
  show G _ _ _ _ [_, _, _, _, _, _, _, _, _, _, _, _, _, _, _] _
  refine s_load1 rfl rfl (v := Value.int .u64 a1.f_Set) rfl rfl (fun _ => rfl) (cells_load (hs.cells 1 rfl) 0 1 rfl) ?_
  show G _ _ _ _ [_, _, _, _, _, _, _, _, _, _, _, _, _, _, _] _
  refine g_op (v := Value.pointer (some ⟨b5, 0, none⟩)) rfl rfl rfl ?_
  show G _ _ _ _ [_, _, _, _, _, _, _, _, _, _, _, _, _, _, _] _
  refine s_load1 rfl rfl (v := Value.int .u64 a2.f_Set) rfl rfl (fun _ => rfl) (cells_load (hs.cells 0 rfl) 0 1 rfl) ?_
  show G _ _ _ _ [_, _, _, _, _, _, _, _, _, _, _, _, _, _, _] _
  refine g_op_b (B := a1.f_Set != a2.f_Set) rfl rfl rfl ?_ ?_
  ·
   intro hb
   rw [if_neg (b_bne_t hb)] at H
   show G _ _ _ _ [_, _, _, _, _, _, _, _, _, _, _, _, _, _, _] _
   refine g_ops_nil ?_
   refine g_cond_true rfl ?_
   refine g_seq ?_
   refine g_region ?_
   show G _ _ _ (.inRegion _ [0] :: _) _ _
   refine g_op (v := Value.bool false) rfl rfl rfl ?_
   show G _ _ _ _ [_, _, _, _, _, _, _, _, _, _, _, _, _, _, _] _
   refine g_ops_nil ?_
   obtain rfl := Option.some.inj H
   refine g_ret Try.func53 (v := Value.bool false) (res1 rfl rfl) ?_
   have hs : St _ [] _ := St.take (Γ' := [_, _]) hs
   exact ⟨_, rfl, rfl, hs⟩
  ·
   intro hb
   rw [if_pos (b_bne_f hb)] at H
   show G _ _ _ _ [_, _, _, _, _, _, _, _, _, _, _, _, _, _, _] _
   refine g_ops_nil ?_
   refine g_cond_false rfl ?_
   refine g_skip ?_
   refine g_seq ?_
   refine g_seq ?_
   refine g_region ?_
   show G _ _ _ (.inRegion _ [0, 1, 2, 3, 4] :: _) _ _
   refine g_op (v := Value.pointer (some ⟨b3, 1, none⟩)) rfl rfl rfl ?_
   show G _ _ _ _ [_, _, _, _, _, _, _, _, _, _, _, _, _, _, _] _
   refine s_load1 rfl rfl (v := Value.bool a1.f_Yes) rfl rfl (fun _ => rfl) (cells_load (hs.cells 1 rfl) 1 1 rfl) ?_
   show G _ _ _ _ [_, _, _, _, _, _, _, _, _, _, _, _, _, _, _] _
   refine g_op (v := Value.pointer (some ⟨b5, 1, none⟩)) rfl rfl rfl ?_
   show G _ _ _ _ [_, _, _, _, _, _, _, _, _, _, _, _, _, _, _] _
   refine s_load1 rfl rfl (v := Value.bool a2.f_Yes) rfl rfl (fun _ => rfl) (cells_load (hs.cells 0 rfl) 1 1 rfl) ?_
   show G _ _ _ _ [_, _, _, _, _, _, _, _, _, _, _, _, _, _, _] _
   refine g_op_b (B := a1.f_Yes != a2.f_Yes) rfl rfl rfl ?_ ?_
   ·
    intro hb
    rw [if_neg (b_bne_t hb)] at H
    show G _ _ _ _ [_, _, _, _, _, _, _, _, _, _, _, _, _, _, _] _
    refine g_ops_nil ?_
    refine g_cond_true rfl ?_
    refine g_seq ?_
    refine g_region ?_
    show G _ _ _ (.inRegion _ [0] :: _) _ _
    refine g_op (v := Value.bool false) rfl rfl rfl ?_
    show G _ _ _ _ [_, _, _, _, _, _, _, _, _, _, _, _, _, _, _] _
    refine g_ops_nil ?_
    obtain rfl := Option.some.inj H
    refine g_ret Try.func53 (v := Value.bool false) (res1 rfl rfl) ?_
    have hs : St _ [] _ := St.take (Γ' := [_, _]) hs
    exact ⟨_, rfl, rfl, hs⟩
   ·
    intro hb
    rw [if_pos (b_bne_f hb)] at H
    show G _ _ _ _ [_, _, _, _, _, _, _, _, _, _, _, _, _, _, _] _
    refine g_ops_nil ?_
    refine g_cond_false rfl ?_
    refine g_skip ?_
    refine g_seq ?_
    refine g_region ?_
    show G _ _ _ (.inRegion _ [0] :: _) _ _
    refine g_op (v := Value.bool true) rfl rfl rfl ?_
    show G _ _ _ _ [_, _, _, _, _, _, _, _, _, _, _, _, _, _, _] _
    refine g_ops_nil ?_
    obtain rfl := Option.some.inj H
    refine g_ret Try.func53 (v := Value.bool true) (res1 rfl rfl) ?_
    have hs : St _ [] _ := St.take (Γ' := [_, _]) hs
    exact ⟨_, rfl, rfl, hs⟩

/- function 32 laws_eqAskS -/
def laws_eqAskS.post (w0 : World) (r : Bool) (v : Value) (w : World) : Prop := v = Value.bool r ∧ St w0 [] w
set_option maxHeartbeats 8000000 in
set_option maxRecDepth 100000 in
theorem laws_eqAskS.calls {N : Nat} {a1 : (List S_impl_Ask)} {a3 : (List S_impl_Ask)} {v2 : Value} {v4 : Value} {w0 : World} {r : Bool} (hr0 : RdRow k_S_impl_Ask w0 v2 a1) (hr1 : RdRow k_S_impl_Ask w0 v4 a3) (H : laws_eqAskS.f N a1 a3 = some r) :
    Calls Try.prog 32 #[v2, v4] w0 fun e w => ∃ v, e = .returned v ∧ laws_eqAskS.post w0 r v w := by
  unfold laws_eqAskS.f at H
  have hs : St w0 [] w0 := St.refl w0
  refine calls_of_g (n := 25) Try.func32 rfl rfl ?_
  show G _ _ _ _ [_, _, _, _, _, _, _, _, _, _, _, _, _, _, _, _, _, _, _, _, _, _, _, _, _, _, _] _
  refine g_seq ?_
  refine g_region ?_
  show G _ _ _ (.inRegion _ [0] :: _) _ _
  refine g_op (v := Value.bool false) rfl rfl rfl ?_
  show G _ _ _ _ [_, _, _, _, _, _, _, _, _, _, _, _, _, _, _, _, _, _, _, _, _, _, _, _, _, _, _] _
  refine g_ops_nil ?_
  refine g_seq ?_
  refine g_seq ?_
  refine g_region ?_
  show G _ _ _ (.inRegion _ [0, 1, 2, 3, 4] :: _) _ _
  refine g_op (v := v2) rfl rfl rfl ?_
  refine s_len (hs.rd hr0) rfl rfl rfl rfl rfl ?_
  show G _ _ _ _ [_, _, _, _, _, _, _, _, _, _, _, _, _, _, _, _, _, _, _, _, _, _, _, _, _, _, _] _
  refine g_op (v := v4) rfl rfl rfl ?_
  refine s_len (hs.rd hr1) rfl rfl rfl rfl rfl ?_
  show G _ _ _ _ [_, _, _, _, _, _, _, _, _, _, _, _, _, _, _, _, _, _, _, _, _, _, _, _, _, _, _] _
  refine g_op_b (B := (a1.length : Int) != (a3.length : Int)) rfl rfl rfl ?_ ?_
  ·
   intro hb
   rw [if_neg (b_bne_t hb)] at H
   show G _ _ _ _ [_, _, _, _, _, _, _, _, _, _, _, _, _, _, _, _, _, _, _, _, _, _, _, _, _, _, _] _
   refine g_ops_nil ?_
   refine g_cond_true rfl ?_
   refine g_seq ?_
   refine g_region ?_
   show G _ _ _ (.inRegion _ [0] :: _) _ _
   refine g_op (v := Value.bool false) rfl rfl rfl ?_
   show G _ _ _ _ [_, _, _, _, _, _, _, _, _, _, _, _, _, _, _, _, _, _, _, _, _, _, _, _, _, _, _] _
   refine g_ops_nil ?_
   obtain rfl := Option.some.inj H
   refine g_ret Try.func32 (v := Value.bool false) (res1 rfl rfl) ?_
   have hs : St _ [] _ := St.take (Γ' := []) hs
   exact ⟨_, rfl, rfl, hs⟩
  ·
   intro hb
   rw [if_pos (b_bne_f hb)] at H
   show G _ _ _ _ [_, _, _, _, _, _, _, _, _, _, _, _, _, _, _, _, _, _, _, _, _, _, _, _, _, _, _] _
   refine g_ops_nil ?_
   refine g_cond_false rfl ?_
   refine g_skip ?_
   refine g_seq ?_
   refine g_seq ?_
   refine g_region ?_
   show G _ _ _ (.inRegion _ [0] :: _) _ _
   refine g_op (v := Value.int .i64 0) rfl rfl rfl ?_
   show G _ _ _ _ [_, _, _, _, _, _, _, _, _, _, _, _, _, _, _, _, _, _, _, _, _, _, _, _, _, _, _] _
   refine g_ops_nil ?_
   obtain ⟨o1_, Ho, Hr1_⟩ := bind_get H
   refine g_block_join (J := fun t w => laws_eqAskS.a0 N = some r ∧ Fr t (fun O => ([O 0, O 1, O 2, O 3, O 4, O 5, O 6, O 7, O 8, O 9, O 10, O 11, O 12, O 13, O 14, O 15, O 16, O 17, O 18, O 19, O 20, O 21, O 22, O 23, O 24, O 25, O 26] : List Value)) ∧ St w0 [] w) ?_ ?_
   ·
    rintro t w ⟨H, hf, hs⟩
    obtain ⟨O, rfl⟩ := hf.open
    show G _ _ _ _ [_, _, _, _, _, _, _, _, _, _, _, _, _, _, _, _, _, _, _, _, _, _, _, _, _, _, _] _
    unfold laws_eqAskS.a0 at H
    refine g_seq ?_
    refine g_region ?_
    show G _ _ _ (.inRegion _ [0] :: _) _ _
    refine g_op (v := Value.bool true) rfl rfl rfl ?_
    show G _ _ _ _ [_, _, _, _, _, _, _, _, _, _, _, _, _, _, _, _, _, _, _, _, _, _, _, _, _, _, _] _
    refine g_ops_nil ?_
    obtain rfl := Option.some.inj H
    refine g_ret Try.func32 (v := Value.bool true) (res1 rfl rfl) ?_
    have hs : St _ [] _ := St.take (Γ' := []) hs
    exact ⟨_, rfl, rfl, hs⟩
   ·
    intro ha1_
    have hs : St _ [] _ := St.take (Γ' := []) hs
    refine g_loop_fuel (I := fun n_ t w => ∃ x5 : Int, rounds (fun s => laws_eqAskS.b0 N a1 a3 s) n_ x5 = some o1_ ∧ Fr t (fun O => ([v2, v4, O 2, O 3, O 4, Value.int .i64 x5, O 6, O 7, O 8, O 9, O 10, O 11, O 12, O 13, O 14, O 15, O 16, O 17, O 18, O 19, O 20, O 21, O 22, O 23, O 24, O 25, O 26] : List Value)) ∧ St w0 [] w) N ⟨0, Ho, rfl, hs⟩ ?_ ?_
    ·
     rintro _ _ ⟨x5, h, _⟩
     exact rounds_zero h
    ·
     intro n_ ih1_
     rintro t w ⟨x5, Ho, hf, hs⟩
     obtain ⟨O, rfl⟩ := hf.open
     show G _ _ _ _ [_, _, _, _, _, _, _, _, _, _, _, _, _, _, _, _, _, _, _, _, _, _, _, _, _, _, _] _
     obtain ⟨x9_, H, Hx1_⟩ := rounds_succ Ho
     have H : laws_eqAskS.b0 N a1 a3 x5 = some x9_ := H
     unfold laws_eqAskS.b0 at H
     refine g_seq ?_
     refine g_seq ?_
     refine g_region ?_
     show G _ _ _ (.inRegion _ [0, 1, 2, 3] :: _) _ _
     refine g_op (v := Value.int .i64 x5) rfl rfl rfl ?_
     refine g_op (v := v2) rfl rfl rfl ?_
     refine s_len (hs.rd hr0) rfl rfl rfl rfl rfl ?_
     show G _ _ _ _ [_, _, _, _, _, _, _, _, _, _, _, _, _, _, _, _, _, _, _, _, _, _, _, _, _, _, _] _
     refine g_op_b (B := decide (x5 < (a1.length : Int))) rfl rfl rfl ?_ ?_
     ·
      intro hb
      rw [if_pos (b_dec_t hb)] at H
      show G _ _ _ _ [_, _, _, _, _, _, _, _, _, _, _, _, _, _, _, _, _, _, _, _, _, _, _, _, _, _, _] _
      refine g_ops_nil ?_
      refine g_cond_true rfl ?_
      refine g_skip ?_
      refine g_seq ?_
      refine g_block ?_
      refine g_seq ?_
      refine g_lay (n := 10) rfl [0, 1, 2, 3, 4, 5, 6, 7, 8, 9] [0, 1, 2, 3, 4, 5, 6, 7, 8, 9] rfl rfl ?_
      intro rest w hh hbw hO
      have hs := hs.samew hh hbw
      show G _ _ _ _ [_, _, _, _, _, _, _, _, _, _, _, _, _, _, _, _, _, _, _, _, _, _, _, _, _, _, _] _
      obtain ⟨gd2, H⟩ := ite_get H
      obtain ⟨ad3_, ad3_N, ad3_C, had3_⟩ := sl_at (hs.rd hr0) gd2.1 gd2.2
      obtain ⟨gd4, H⟩ := ite_get H
      obtain ⟨ad5_, ad5_N, ad5_C, had5_⟩ := sl_at (hs.rd hr1) gd4.1 gd4.2
      refine g_name ?_
      intro T hT
      refine g_layer (m0 := 0) hO rfl 255 [0, 1, 2, 3, 4, 5, 6, 7] [0, 0, 3, 7, 0, 0, 48, 112, 255, 511] (by decide +kernel) (fun D t w => ∃ O : Nat → Value, t = [v2, v4, O 2, O 3, O 4, Value.int .i64 x5, O 6, O 7, O 8, O 9, O 10, Value.int .i64 x5, v2, Value.int .i64 (a1.length : Int), Value.bool true, O 15, O 16, cnd (D 0) v2 (O 17), cnd (D 1) (Value.int .i64 x5) (O 18), cnd (D 2) (Value.pointer (some (ad3_.add (x5.toNat * 2)))) (O 19), cnd (D 3) (Value.agg (enc_S_impl_Ask (rdL a1 x5 z_S_impl_Ask)).toArray) (O 20), cnd (D 4) v4 (O 21), cnd (D 5) (Value.int .i64 x5) (O 22), cnd (D 6) (Value.pointer (some (ad5_.add (x5.toNat * 2)))) (O 23), cnd (D 7) (Value.agg (enc_S_impl_Ask (rdL a3 x5 z_S_impl_Ask)).toArray) (O 24), O 25, O 26] ∧ St w0 [] w) ?_ ⟨?_, ⟨?_, ⟨?_, ⟨?_, ⟨?_, ⟨?_, ⟨?_, ⟨?_, trivial⟩⟩⟩⟩⟩⟩⟩⟩ ?_
      · exact ⟨fun i => T.getD i undef, (by subst hT; rfl), hs⟩
      ·
       intro D t w hD hp hcl hI rest hk
       obtain ⟨O, ht, hs⟩ := hI
       have hp : AllDone D [] := hp
       have q2_ : D 2 = false := not_yet (show D 2 = true → AllDone D [0, 1] from hcl 2 (by decide)) 0 0 rfl hD
       have q3_ : D 3 = false := not_yet (show D 3 = true → AllDone D [2] from hcl 3 (by decide)) 0 2 rfl q2_
       have u0_ : upd D 0 0 = true := rfl; have u1_ : upd D 0 1 = D 1 := rfl; have u2_ : upd D 0 2 = D 2 := rfl; have u3_ : upd D 0 3 = D 3 := rfl; have u4_ : upd D 0 4 = D 4 := rfl; have u5_ : upd D 0 5 = D 5 := rfl; have u6_ : upd D 0 6 = D 6 := rfl; have u7_ : upd D 0 7 = D 7 := rfl
       simp only [hD, q2_, q3_, cnd_t, cnd_f, Asc_t, Asc_f] at ht hs
       subst ht
       refine g_op (v := v2) rfl rfl rfl ?_
       show G _ _ _ _ [_, _, _, _, _, _, _, _, _, _, _, _, _, _, _, _, _, _, _, _, _, _, _, _, _, _, _] _
       exact hk _ _ ⟨O, (by simp only [u0_, u1_, u2_, u3_, u4_, u5_, u6_, u7_, q2_, q3_, cnd_t, cnd_f, Asc_t, Asc_f]), hs.cast (by first | rfl | simp only [List.take, List.drop, List.cons_append, List.nil_append, List.set_cons_zero, List.set_cons_succ, List.eraseIdx, u0_, u1_, u2_, u3_, u4_, u5_, u6_, u7_, q2_, q3_, cnd_t, cnd_f, Asc_t, Asc_f])⟩
      ·
       intro D t w hD hp hcl hI rest hk
       obtain ⟨O, ht, hs⟩ := hI
       have hp : AllDone D [] := hp
       have q2_ : D 2 = false := not_yet (show D 2 = true → AllDone D [0, 1] from hcl 2 (by decide)) 1 1 rfl hD
       have q3_ : D 3 = false := not_yet (show D 3 = true → AllDone D [2] from hcl 3 (by decide)) 0 2 rfl q2_
       have u0_ : upd D 1 0 = D 0 := rfl; have u1_ : upd D 1 1 = true := rfl; have u2_ : upd D 1 2 = D 2 := rfl; have u3_ : upd D 1 3 = D 3 := rfl; have u4_ : upd D 1 4 = D 4 := rfl; have u5_ : upd D 1 5 = D 5 := rfl; have u6_ : upd D 1 6 = D 6 := rfl; have u7_ : upd D 1 7 = D 7 := rfl
       simp only [hD, q2_, q3_, cnd_t, cnd_f, Asc_t, Asc_f] at ht hs
       subst ht
       refine g_op (v := Value.int .i64 x5) rfl rfl rfl ?_
       show G _ _ _ _ [_, _, _, _, _, _, _, _, _, _, _, _, _, _, _, _, _, _, _, _, _, _, _, _, _, _, _] _
       exact hk _ _ ⟨O, (by simp only [u0_, u1_, u2_, u3_, u4_, u5_, u6_, u7_, q2_, q3_, cnd_t, cnd_f, Asc_t, Asc_f]), hs.cast (by first | rfl | simp only [List.take, List.drop, List.cons_append, List.nil_append, List.set_cons_zero, List.set_cons_succ, List.eraseIdx, u0_, u1_, u2_, u3_, u4_, u5_, u6_, u7_, q2_, q3_, cnd_t, cnd_f, Asc_t, Asc_f])⟩
      ·
       intro D t w hD hp hcl hI rest hk
       obtain ⟨O, ht, hs⟩ := hI
       have hp : AllDone D [0, 1] := hp
       obtain ⟨p0_, p1_, _⟩ := hp
       have q3_ : D 3 = false := not_yet (show D 3 = true → AllDone D [2] from hcl 3 (by decide)) 0 2 rfl hD
       have u0_ : upd D 2 0 = D 0 := rfl; have u1_ : upd D 2 1 = D 1 := rfl; have u2_ : upd D 2 2 = true := rfl; have u3_ : upd D 2 3 = D 3 := rfl; have u4_ : upd D 2 4 = D 4 := rfl; have u5_ : upd D 2 5 = D 5 := rfl; have u6_ : upd D 2 6 = D 6 := rfl; have u7_ : upd D 2 7 = D 7 := rfl
       simp only [hD, p0_, p1_, q3_, cnd_t, cnd_f, Asc_t, Asc_f] at ht hs
       subst ht
       refine s_idxD (κ := k_S_impl_Ask) (m := 2) rfl (hs.rd hr0) rfl (fun _ => rfl) gd2.1 gd2.2 had3_ rfl rfl rfl rfl rfl ?_
       show G _ _ _ _ [_, _, _, _, _, _, _, _, _, _, _, _, _, _, _, _, _, _, _, _, _, _, _, _, _, _, _] _
       exact hk _ _ ⟨O, (by simp only [u0_, u1_, u2_, u3_, u4_, u5_, u6_, u7_, p0_, p1_, q3_, cnd_t, cnd_f, Asc_t, Asc_f]), hs.cast (by first | rfl | simp only [List.take, List.drop, List.cons_append, List.nil_append, List.set_cons_zero, List.set_cons_succ, List.eraseIdx, u0_, u1_, u2_, u3_, u4_, u5_, u6_, u7_, p0_, p1_, q3_, cnd_t, cnd_f, Asc_t, Asc_f])⟩
      ·
       intro D t w hD hp hcl hI rest hk
       obtain ⟨O, ht, hs⟩ := hI
       have hp : AllDone D [2] := hp
       obtain ⟨p2_, _⟩ := hp
       obtain ⟨p0_, p1_, _⟩ := (show D 2 = true → AllDone D [0, 1] from hcl 2 (by decide)) p2_
       have u0_ : upd D 3 0 = D 0 := rfl; have u1_ : upd D 3 1 = D 1 := rfl; have u2_ : upd D 3 2 = D 2 := rfl; have u3_ : upd D 3 3 = true := rfl; have u4_ : upd D 3 4 = D 4 := rfl; have u5_ : upd D 3 5 = D 5 := rfl; have u6_ : upd D 3 6 = D 6 := rfl; have u7_ : upd D 3 7 = D 7 := rfl
       simp only [hD, p0_, p1_, p2_, cnd_t, cnd_f, Asc_t, Asc_f] at ht hs
       subst ht
       refine s_loadA rfl rfl (es := (enc_S_impl_Ask (rdL a1 x5 z_S_impl_Ask))) rfl rfl (fun _ => rfl) (n := 2) (fun _ => rfl) (fk_S_impl_Ask.len _) (cellsAt_of fk_S_impl_Ask z_S_impl_Ask (hs.rd hr0) had3_ gd2.1 gd2.2) ?_
       show G _ _ _ _ [_, _, _, _, _, _, _, _, _, _, _, _, _, _, _, _, _, _, _, _, _, _, _, _, _, _, _] _
       exact hk _ _ ⟨O, (by simp only [u0_, u1_, u2_, u3_, u4_, u5_, u6_, u7_, p0_, p1_, p2_, cnd_t, cnd_f, Asc_t, Asc_f]), hs.cast (by first | rfl | simp only [List.take, List.drop, List.cons_append, List.nil_append, List.set_cons_zero, List.set_cons_succ, List.eraseIdx, u0_, u1_, u2_, u3_, u4_, u5_, u6_, u7_, p0_, p1_, p2_, cnd_t, cnd_f, Asc_t, Asc_f])⟩
      ·
       intro D t w hD hp hcl hI rest hk
       obtain ⟨O, ht, hs⟩ := hI
       have hp : AllDone D [] := hp
       have q6_ : D 6 = false := not_yet (show D 6 = true → AllDone D [4, 5] from hcl 6 (by decide)) 0 4 rfl hD
       have q7_ : D 7 = false := not_yet (show D 7 = true → AllDone D [6] from hcl 7 (by decide)) 0 6 rfl q6_
       have u0_ : upd D 4 0 = D 0 := rfl; have u1_ : upd D 4 1 = D 1 := rfl; have u2_ : upd D 4 2 = D 2 := rfl; have u3_ : upd D 4 3 = D 3 := rfl; have u4_ : upd D 4 4 = true := rfl; have u5_ : upd D 4 5 = D 5 := rfl; have u6_ : upd D 4 6 = D 6 := rfl; have u7_ : upd D 4 7 = D 7 := rfl
       simp only [hD, q6_, q7_, cnd_t, cnd_f, Asc_t, Asc_f] at ht hs
       subst ht
       refine g_op (v := v4) rfl rfl rfl ?_
       show G _ _ _ _ [_, _, _, _, _, _, _, _, _, _, _, _, _, _, _, _, _, _, _, _, _, _, _, _, _, _, _] _
       exact hk _ _ ⟨O, (by simp only [u0_, u1_, u2_, u3_, u4_, u5_, u6_, u7_, q6_, q7_, cnd_t, cnd_f, Asc_t, Asc_f]), hs.cast (by first | rfl | simp only [List.take, List.drop, List.cons_append, List.nil_append, List.set_cons_zero, List.set_cons_succ, List.eraseIdx, u0_, u1_, u2_, u3_, u4_, u5_, u6_, u7_, q6_, q7_, cnd_t, cnd_f, Asc_t, Asc_f])⟩
      ·
       intro D t w hD hp hcl hI rest hk
       obtain ⟨O, ht, hs⟩ := hI
       have hp : AllDone D [] := hp
       have q6_ : D 6 = false := not_yet (show D 6 = true → AllDone D [4, 5] from hcl 6 (by decide)) 1 5 rfl hD
       have q7_ : D 7 = false := not_yet (show D 7 = true → AllDone D [6] from hcl 7 (by decide)) 0 6 rfl q6_
       have u0_ : upd D 5 0 = D 0 := rfl; have u1_ : upd D 5 1 = D 1 := rfl; have u2_ : upd D 5 2 = D 2 := rfl; have u3_ : upd D 5 3 = D 3 := rfl; have u4_ : upd D 5 4 = D 4 := rfl; have u5_ : upd D 5 5 = true := rfl; have u6_ : upd D 5 6 = D 6 := rfl; have u7_ : upd D 5 7 = D 7 := rfl
       simp only [hD, q6_, q7_, cnd_t, cnd_f, Asc_t, Asc_f] at ht hs
       subst ht
       refine g_op (v := Value.int .i64 x5) rfl rfl rfl ?_
       show G _ _ _ _ [_, _, _, _, _, _, _, _, _, _, _, _, _, _, _, _, _, _, _, _, _, _, _, _, _, _, _] _
       exact hk _ _ ⟨O, (by simp only [u0_, u1_, u2_, u3_, u4_, u5_, u6_, u7_, q6_, q7_, cnd_t, cnd_f, Asc_t, Asc_f]), hs.cast (by first | rfl | simp only [List.take, List.drop, List.cons_append, List.nil_append, List.set_cons_zero, List.set_cons_succ, List.eraseIdx, u0_, u1_, u2_, u3_, u4_, u5_, u6_, u7_, q6_, q7_, cnd_t, cnd_f, Asc_t, Asc_f])⟩
      ·
       intro D t w hD hp hcl hI rest hk
       obtain ⟨O, ht, hs⟩ := hI
       have hp : AllDone D [4, 5] := hp
       obtain ⟨p4_, p5_, _⟩ := hp
       have q7_ : D 7 = false := not_yet (show D 7 = true → AllDone D [6] from hcl 7 (by decide)) 0 6 rfl hD
       have u0_ : upd D 6 0 = D 0 := rfl; have u1_ : upd D 6 1 = D 1 := rfl; have u2_ : upd D 6 2 = D 2 := rfl; have u3_ : upd D 6 3 = D 3 := rfl; have u4_ : upd D 6 4 = D 4 := rfl; have u5_ : upd D 6 5 = D 5 := rfl; have u6_ : upd D 6 6 = true := rfl; have u7_ : upd D 6 7 = D 7 := rfl
       simp only [hD, p4_, p5_, q7_, cnd_t, cnd_f, Asc_t, Asc_f] at ht hs
       subst ht
       refine s_idxD (κ := k_S_impl_Ask) (m := 2) rfl (hs.rd hr1) rfl (fun _ => rfl) gd4.1 gd4.2 had5_ rfl rfl rfl rfl rfl ?_
       show G _ _ _ _ [_, _, _, _, _, _, _, _, _, _, _, _, _, _, _, _, _, _, _, _, _, _, _, _, _, _, _] _
       exact hk _ _ ⟨O, (by simp only [u0_, u1_, u2_, u3_, u4_, u5_, u6_, u7_, p4_, p5_, q7_, cnd_t, cnd_f, Asc_t, Asc_f]), hs.cast (by first | rfl | simp only [List.take, List.drop, List.cons_append, List.nil_append, List.set_cons_zero, List.set_cons_succ, List.eraseIdx, u0_, u1_, u2_, u3_, u4_, u5_, u6_, u7_, p4_, p5_, q7_, cnd_t, cnd_f, Asc_t, Asc_f])⟩
      ·
       intro D t w hD hp hcl hI rest hk
       obtain ⟨O, ht, hs⟩ := hI
       have hp : AllDone D [6] := hp
       obtain ⟨p6_, _⟩ := hp
       obtain ⟨p4_, p5_, _⟩ := (show D 6 = true → AllDone D [4, 5] from hcl 6 (by decide)) p6_
       have u0_ : upd D 7 0 = D 0 := rfl; have u1_ : upd D 7 1 = D 1 := rfl; have u2_ : upd D 7 2 = D 2 := rfl; have u3_ : upd D 7 3 = D 3 := rfl; have u4_ : upd D 7 4 = D 4 := rfl; have u5_ : upd D 7 5 = D 5 := rfl; have u6_ : upd D 7 6 = D 6 := rfl; have u7_ : upd D 7 7 = true := rfl
       simp only [hD, p4_, p5_, p6_, cnd_t, cnd_f, Asc_t, Asc_f] at ht hs
       subst ht
       refine s_loadA rfl rfl (es := (enc_S_impl_Ask (rdL a3 x5 z_S_impl_Ask))) rfl rfl (fun _ => rfl) (n := 2) (fun _ => rfl) (fk_S_impl_Ask.len _) (cellsAt_of fk_S_impl_Ask z_S_impl_Ask (hs.rd hr1) had5_ gd4.1 gd4.2) ?_
       show G _ _ _ _ [_, _, _, _, _, _, _, _, _, _, _, _, _, _, _, _, _, _, _, _, _, _, _, _, _, _, _] _
       exact hk _ _ ⟨O, (by simp only [u0_, u1_, u2_, u3_, u4_, u5_, u6_, u7_, p4_, p5_, p6_, cnd_t, cnd_f, Asc_t, Asc_f]), hs.cast (by first | rfl | simp only [List.take, List.drop, List.cons_append, List.nil_append, List.set_cons_zero, List.set_cons_succ, List.eraseIdx, u0_, u1_, u2_, u3_, u4_, u5_, u6_, u7_, p4_, p5_, p6_, cnd_t, cnd_f, Asc_t, Asc_f])⟩
      ·
       intro D t w rest hall hO1_ hI
       obtain ⟨O, ht, hs⟩ := hI
       have p0_ : D 0 = true := hall 0 (by decide) rfl
       have p1_ : D 1 = true := hall 1 (by decide) rfl
       have p2_ : D 2 = true := hall 2 (by decide) rfl
       have p3_ : D 3 = true := hall 3 (by decide) rfl
       have p4_ : D 4 = true := hall 4 (by decide) rfl
       have p5_ : D 5 = true := hall 5 (by decide) rfl
       have p6_ : D 6 = true := hall 6 (by decide) rfl
       have p7_ : D 7 = true := hall 7 (by decide) rfl
       simp only [p0_, p1_, p2_, p3_, p4_, p5_, p6_, p7_, cnd_t, cnd_f, Asc_t, Asc_f] at ht hs
       subst ht
       obtain ⟨rest, rfl, hO6_⟩ := ord_one (m := 255) hO1_ rfl 8 (m' := 511) (by decide +kernel) rfl
       clear hO1_
       obtain ⟨r6, Hr6, H⟩ := bind_get H
       refine s_call (args := [Value.agg (enc_S_impl_Ask (rdL a1 x5 z_S_impl_Ask)).toArray, Value.agg (enc_S_impl_Ask (rdL a3 x5 z_S_impl_Ask)).toArray]) rfl rfl (x_call rfl (callFunc_enter Try.func53 rfl rfl) rfl) (laws_eqAsk.calls (a1 := rdL a1 x5 z_S_impl_Ask) (a2 := rdL a3 x5 z_S_impl_Ask) Hr6) ?_
       rintro _ w ⟨rfl, hs2⟩
       have hs : St _ [] _ := hs.call hs2
       cases r6 with
       | true =>
         rw [if_pos rfl] at H
         show G _ _ _ _ [_, _, _, _, _, _, _, _, _, _, _, _, _, _, _, _, _, _, _, _, _, _, _, _, _, _, _] _
         obtain ⟨rest, rfl, hO7_⟩ := ord_one (m := 511) hO6_ rfl 9 (m' := 1023) (by decide +kernel) rfl
         clear hO6_
         refine g_op (v := Value.bool false) rfl rfl rfl ?_
         show G _ _ _ _ [_, _, _, _, _, _, _, _, _, _, _, _, _, _, _, _, _, _, _, _, _, _, _, _, _, _, _] _
         obtain rfl := ord_end hO7_ rfl (by decide +kernel)
         refine g_ops_nil ?_
         refine g_cond_false rfl ?_
         refine g_skip ?_
         refine g_inBlock ?_
         refine g_region ?_
         show G _ _ _ (.inRegion _ [0, 1, 2] :: _) _ _
         refine g_op (v := Value.int .i64 x5) rfl rfl rfl ?_
         refine g_op (v := Value.int .i64 (i64w (x5 + 1))) rfl rfl rfl ?_
         show G _ _ _ _ [_, _, _, _, _, _, _, _, _, _, _, _, _, _, _, _, _, _, _, _, _, _, _, _, _, _, _] _
         refine g_op (v := Value.int .i64 (i64w (x5 + 1))) rfl rfl rfl ?_
         show G _ _ _ _ [_, _, _, _, _, _, _, _, _, _, _, _, _, _, _, _, _, _, _, _, _, _, _, _, _, _, _] _
         refine g_ops_nil ?_
         obtain rfl := Option.some.inj H
         have hs : St _ [] _ := St.take (Γ' := []) hs
         exact ih1_ _ _ ⟨i64w (x5 + 1), Hx1_, rfl, hs⟩
       | false =>
         rw [if_neg Bool.false_ne_true] at H
         show G _ _ _ _ [_, _, _, _, _, _, _, _, _, _, _, _, _, _, _, _, _, _, _, _, _, _, _, _, _, _, _] _
         obtain ⟨rest, rfl, hO8_⟩ := ord_one (m := 511) hO6_ rfl 9 (m' := 1023) (by decide +kernel) rfl
         clear hO6_
         refine g_op (v := Value.bool true) rfl rfl rfl ?_
         show G _ _ _ _ [_, _, _, _, _, _, _, _, _, _, _, _, _, _, _, _, _, _, _, _, _, _, _, _, _, _, _] _
         obtain rfl := ord_end hO8_ rfl (by decide +kernel)
         refine g_ops_nil ?_
         refine g_cond_true rfl ?_
         refine g_seq ?_
         refine g_region ?_
         show G _ _ _ (.inRegion _ [0] :: _) _ _
         refine g_op (v := Value.bool false) rfl rfl rfl ?_
         show G _ _ _ _ [_, _, _, _, _, _, _, _, _, _, _, _, _, _, _, _, _, _, _, _, _, _, _, _, _, _, _] _
         refine g_ops_nil ?_
         obtain rfl := Option.some.inj H
         subst Hx1_
         have H := Option.some.inj Hr1_
         subst H
         refine g_ret Try.func32 (v := Value.bool false) (res1 rfl rfl) ?_
         have hs : St _ [] _ := St.take (Γ' := []) hs
         exact ⟨_, rfl, rfl, hs⟩
     ·
      intro hb
      rw [if_neg (b_dec_f hb)] at H
      show G _ _ _ _ [_, _, _, _, _, _, _, _, _, _, _, _, _, _, _, _, _, _, _, _, _, _, _, _, _, _, _] _
      refine g_ops_nil ?_
      refine g_cond_false rfl ?_
      obtain rfl := Option.some.inj H
      subst Hx1_
      have hs : St _ [] _ := St.take (Γ' := []) hs
      refine g_exit rfl ?_
      exact ha1_ _ _ ⟨Hr1_, rfl, hs⟩

/- function 11 laws_eqGame -/
def laws_eqGame.post (w0 : World) (r : Bool) (v : Value) (w : World) : Prop := v = Value.bool r ∧ St w0 [] w
set_option maxHeartbeats 8000000 in
set_option maxRecDepth 100000 in
theorem laws_eqGame.calls {N : Nat} {a1 : S_impl_Game} {a4 : S_impl_Game} {v2 : Value} {v5 : Value} {w0 : World} {r : Bool} (hr3 : RdRow k_S_impl_Ask w0 v2 a1.f_Asked) (hr6 : RdRow k_S_impl_Ask w0 v5 a4.f_Asked) (H : laws_eqGame.f N a1 a4 = some r) :
    Calls Try.prog 11 #[Value.agg (([Value.int .i8 a1.f_Numbers, Value.int .i8 a1.f_Lies, v2] : List Value)).toArray, Value.agg (([Value.int .i8 a4.f_Numbers, Value.int .i8 a4.f_Lies, v5] : List Value)).toArray] w0 fun e w => ∃ v, e = .returned v ∧ laws_eqGame.post w0 r v w := by
  unfold laws_eqGame.f at H
  have hs : St w0 [] w0 := St.refl w0
  refine calls_of_g (n := 19) Try.func11 rfl rfl ?_
  show G _ _ _ _ [_, _, _, _, _, _, _, _, _, _, _, _, _, _, _, _, _, _, _, _, _] _
  refine g_seq ?_
  refine g_region ?_
  show G _ _ _ (.inRegion _ [0, 1, 2] :: _) _ _
  refine s_box hs rfl rfl (cs := (([Value.int .i8 a1.f_Numbers, Value.int .i8 a1.f_Lies, v2] : List Value))) rfl rfl ?_
  intro b7 w hs
  show G _ _ _ _ [_, _, _, _, _, _, _, _, _, _, _, _, _, _, _, _, _, _, _, _, _] _
  refine s_box hs rfl rfl (cs := (([Value.int .i8 a4.f_Numbers, Value.int .i8 a4.f_Lies, v5] : List Value))) rfl rfl ?_
  intro b9 w hs
  show G _ _ _ _ [_, _, _, _, _, _, _, _, _, _, _, _, _, _, _, _, _, _, _, _, _] _
  refine g_op (v := Value.bool false) rfl rfl rfl ?_
  show G _ _ _ _ [_, _, _, _, _, _, _, _, _, _, _, _, _, _, _, _, _, _, _, _, _] _
  refine g_ops_nil ?_
  refine g_seq ?_
  refine g_seq ?_
  refine g_region ?_
  show G _ _ _ (.inRegion _ [0, 1, 2, 3, 4] :: _) _ _
  refine g_op (v := Value.pointer (some ⟨b7, 0, none⟩)) rfl rfl rfl ?_
  show G _ _ _ _ [_, _, _, _, _, _, _, _, _, _, _, _, _, _, _, _, _, _, _, _, _] _
  refine s_load1 rfl rfl (v := Value.int .i8 a1.f_Numbers) rfl rfl (fun _ => rfl) (cells_load (hs.cells 1 rfl) 0 1 rfl) ?_
  show G _ _ _ _ [_, _, _, _, _, _, _, _, _, _, _, _, _, _, _, _, _, _, _, _, _] _
  refine g_op (v := Value.pointer (some ⟨b9, 0, none⟩)) rfl rfl rfl ?_
  show G _ _ _ _ [_, _, _, _, _, _, _, _, _, _, _, _, _, _, _, _, _, _, _, _, _] _
  refine s_load1 rfl rfl (v := Value.int .i8 a4.f_Numbers) rfl rfl (fun _ => rfl) (cells_load (hs.cells 0 rfl) 0 1 rfl) ?_
  show G _ _ _ _ [_, _, _, _, _, _, _, _, _, _, _, _, _, _, _, _, _, _, _, _, _] _
  refine g_op_b (B := a1.f_Numbers != a4.f_Numbers) rfl rfl rfl ?_ ?_
  ·
   intro hb
   rw [if_neg (b_bne_t hb)] at H
   show G _ _ _ _ [_, _, _, _, _, _, _, _, _, _, _, _, _, _, _, _, _, _, _, _, _] _
   refine g_ops_nil ?_
   refine g_cond_true rfl ?_
   refine g_seq ?_
   refine g_region ?_
   show G _ _ _ (.inRegion _ [0] :: _) _ _
   refine g_op (v := Value.bool false) rfl rfl rfl ?_
   show G _ _ _ _ [_, _, _, _, _, _, _, _, _, _, _, _, _, _, _, _, _, _, _, _, _] _
   refine g_ops_nil ?_
   obtain rfl := Option.some.inj H
   refine g_ret Try.func11 (v := Value.bool false) (res1 rfl rfl) ?_
   have hs : St _ [] _ := St.take (Γ' := [_, _]) hs
   exact ⟨_, rfl, rfl, hs⟩
  ·
   intro hb
   rw [if_pos (b_bne_f hb)] at H
   show G _ _ _ _ [_, _, _, _, _, _, _, _, _, _, _, _, _, _, _, _, _, _, _, _, _] _
   refine g_ops_nil ?_
   refine g_cond_false rfl ?_
   refine g_skip ?_
   refine g_seq ?_
   refine g_seq ?_
   refine g_region ?_
   show G _ _ _ (.inRegion _ [0, 1, 2, 3, 4] :: _) _ _
   refine g_op (v := Value.pointer (some ⟨b7, 1, none⟩)) rfl rfl rfl ?_
   show G _ _ _ _ [_, _, _, _, _, _, _, _, _, _, _, _, _, _, _, _, _, _, _, _, _] _
   refine s_load1 rfl rfl (v := Value.int .i8 a1.f_Lies) rfl rfl (fun _ => rfl) (cells_load (hs.cells 1 rfl) 1 1 rfl) ?_
   show G _ _ _ _ [_, _, _, _, _, _, _, _, _, _, _, _, _, _, _, _, _, _, _, _, _] _
   refine g_op (v := Value.pointer (some ⟨b9, 1, none⟩)) rfl rfl rfl ?_
   show G _ _ _ _ [_, _, _, _, _, _, _, _, _, _, _, _, _, _, _, _, _, _, _, _, _] _
   refine s_load1 rfl rfl (v := Value.int .i8 a4.f_Lies) rfl rfl (fun _ => rfl) (cells_load (hs.cells 0 rfl) 1 1 rfl) ?_
   show G _ _ _ _ [_, _, _, _, _, _, _, _, _, _, _, _, _, _, _, _, _, _, _, _, _] _
   refine g_op_b (B := a1.f_Lies != a4.f_Lies) rfl rfl rfl ?_ ?_
   ·
    intro hb
    rw [if_neg (b_bne_t hb)] at H
    show G _ _ _ _ [_, _, _, _, _, _, _, _, _, _, _, _, _, _, _, _, _, _, _, _, _] _
    refine g_ops_nil ?_
    refine g_cond_true rfl ?_
    refine g_seq ?_
    refine g_region ?_
    show G _ _ _ (.inRegion _ [0] :: _) _ _
    refine g_op (v := Value.bool false) rfl rfl rfl ?_
    show G _ _ _ _ [_, _, _, _, _, _, _, _, _, _, _, _, _, _, _, _, _, _, _, _, _] _
    refine g_ops_nil ?_
    obtain rfl := Option.some.inj H
    refine g_ret Try.func11 (v := Value.bool false) (res1 rfl rfl) ?_
    have hs : St _ [] _ := St.take (Γ' := [_, _]) hs
    exact ⟨_, rfl, rfl, hs⟩
   ·
    intro hb
    rw [if_pos (b_bne_f hb)] at H
    show G _ _ _ _ [_, _, _, _, _, _, _, _, _, _, _, _, _, _, _, _, _, _, _, _, _] _
    refine g_ops_nil ?_
    refine g_cond_false rfl ?_
    refine g_skip ?_
    refine g_seq ?_
    refine g_seq ?_
    refine g_region ?_
    show G _ _ _ (.inRegion _ [0, 1, 2, 3, 4, 5] :: _) _ _
    refine g_op (v := Value.pointer (some ⟨b7, 2, none⟩)) rfl rfl rfl ?_
    show G _ _ _ _ [_, _, _, _, _, _, _, _, _, _, _, _, _, _, _, _, _, _, _, _, _] _
    refine s_load1 rfl rfl (v := v2) rfl rfl (fun _ => rfl) (cells_load (hs.cells 1 rfl) 2 1 rfl) ?_
    show G _ _ _ _ [_, _, _, _, _, _, _, _, _, _, _, _, _, _, _, _, _, _, _, _, _] _
    refine g_op (v := Value.pointer (some ⟨b9, 2, none⟩)) rfl rfl rfl ?_
    show G _ _ _ _ [_, _, _, _, _, _, _, _, _, _, _, _, _, _, _, _, _, _, _, _, _] _
    refine s_load1 rfl rfl (v := v5) rfl rfl (fun _ => rfl) (cells_load (hs.cells 0 rfl) 2 1 rfl) ?_
    show G _ _ _ _ [_, _, _, _, _, _, _, _, _, _, _, _, _, _, _, _, _, _, _, _, _] _
    obtain ⟨r11, Hr11, H⟩ := bind_get H
    refine s_call (args := [v2, v5]) rfl rfl (x_call rfl (callFunc_enter Try.func32 rfl rfl) rfl) (laws_eqAskS.calls (a1 := a1.f_Asked) (a3 := a4.f_Asked) (hs.rd hr3) (hs.rd hr6) Hr11) ?_
    rintro _ w ⟨rfl, hs2⟩
    have hs : St _ [_, _] _ := hs.call hs2
    cases r11 with
    | true =>
      rw [if_pos rfl] at H
      show G _ _ _ _ [_, _, _, _, _, _, _, _, _, _, _, _, _, _, _, _, _, _, _, _, _] _
      refine g_op (v := Value.bool false) rfl rfl rfl ?_
      show G _ _ _ _ [_, _, _, _, _, _, _, _, _, _, _, _, _, _, _, _, _, _, _, _, _] _
      refine g_ops_nil ?_
      refine g_cond_false rfl ?_
      refine g_skip ?_
      refine g_seq ?_
      refine g_region ?_
      show G _ _ _ (.inRegion _ [0] :: _) _ _
      refine g_op (v := Value.bool true) rfl rfl rfl ?_
      show G _ _ _ _ [_, _, _, _, _, _, _, _, _, _, _, _, _, _, _, _, _, _, _, _, _] _
      refine g_ops_nil ?_
      obtain rfl := Option.some.inj H
      refine g_ret Try.func11 (v := Value.bool true) (res1 rfl rfl) ?_
      have hs : St _ [] _ := St.take (Γ' := [_, _]) hs
      exact ⟨_, rfl, rfl, hs⟩
    | false =>
      rw [if_neg Bool.false_ne_true] at H
      show G _ _ _ _ [_, _, _, _, _, _, _, _, _, _, _, _, _, _, _, _, _, _, _, _, _] _
      refine g_op (v := Value.bool true) rfl rfl rfl ?_
      show G _ _ _ _ [_, _, _, _, _, _, _, _, _, _, _, _, _, _, _, _, _, _, _, _, _] _
      refine g_ops_nil ?_
      refine g_cond_true rfl ?_
      refine g_seq ?_
      refine g_region ?_
      show G _ _ _ (.inRegion _ [0] :: _) _ _
      refine g_op (v := Value.bool false) rfl rfl rfl ?_
      show G _ _ _ _ [_, _, _, _, _, _, _, _, _, _, _, _, _, _, _, _, _, _, _, _, _] _
      refine g_ops_nil ?_
      obtain rfl := Option.some.inj H
      refine g_ret Try.func11 (v := Value.bool false) (res1 rfl rfl) ?_
      have hs : St _ [] _ := St.take (Γ' := [_, _]) hs
      exact ⟨_, rfl, rfl, hs⟩

end Go.Proofs.YtpbkenbmjgchkaaX
