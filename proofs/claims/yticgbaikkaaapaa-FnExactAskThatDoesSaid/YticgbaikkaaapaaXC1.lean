/- Contracts, printed by gen.py. -/
import Derived.Test.YticgbaikkaaapaaXC0
namespace Go.Proofs.YticgbaikkaaapaaX
open Go Go.RowKit Go.Proofs
set_option linter.unusedVariables false
set_option linter.unusedSimpArgs false
/- function 20 spec_l06Weight -/
def spec_l06Weight.post (w0 : World) (r : Int) (v : Value) (w : World) : Prop := v = Value.int .i64 r ∧ St w0 [] w
set_option maxHeartbeats 8000000 in
set_option maxRecDepth 100000 in
theorem spec_l06Weight.calls {N : Nat} {a1 : Int} {a2 : (Ar Int 4)} {a3 : Int} {w0 : World} {r : Int} (H : spec_l06Weight.f N a1 a2 a3 = some r) :
    Calls Try.prog 20 #[Value.int .i64 a1, Value.agg ((encA (encI .i64)) a2).toArray, Value.int .i64 a3] w0 fun e w => ∃ v, e = .returned v ∧ spec_l06Weight.post w0 r v w := by
  unfold spec_l06Weight.f at H
  have hs : St w0 [] w0 := St.refl w0
  refine calls_of_g (n := 23) Try.func20 rfl rfl ?_
  show G _ _ _ _ [_, _, _, _, _, _, _, _, _, _, _, _, _, _, _, _, _, _, _, _, _, _, _, _, _, _] _
  refine g_seq ?_
  refine g_region ?_
  show G _ _ _ (.inRegion _ [0, 1] :: _) _ _
  refine s_box hs rfl rfl (cs := ((encA (encI .i64)) a2)) rfl rfl ?_
  intro b4 w hs
  show G _ _ _ _ [_, _, _, _, _, _, _, _, _, _, _, _, _, _, _, _, _, _, _, _, _, _, _, _, _, _] _
  refine g_op (v := Value.int .i64 0) rfl rfl rfl ?_
  show G _ _ _ _ [_, _, _, _, _, _, _, _, _, _, _, _, _, _, _, _, _, _, _, _, _, _, _, _, _, _] _
  refine g_ops_nil ?_
  refine g_seq ?_
  refine g_region ?_
  show G _ _ _ (.inRegion _ [0] :: _) _ _
  refine g_op (v := Value.int .i64 0) rfl rfl rfl ?_
  show G _ _ _ _ [_, _, _, _, _, _, _, _, _, _, _, _, _, _, _, _, _, _, _, _, _, _, _, _, _, _] _
  refine g_ops_nil ?_
  refine g_seq ?_
  refine g_seq ?_
  refine g_region ?_
  show G _ _ _ (.inRegion _ [0] :: _) _ _
  refine g_op (v := Value.int .i64 0) rfl rfl rfl ?_
  show G _ _ _ _ [_, _, _, _, _, _, _, _, _, _, _, _, _, _, _, _, _, _, _, _, _, _, _, _, _, _] _
  refine g_ops_nil ?_
  obtain ⟨o1_, Ho, Hr1_⟩ := bind_get H
  refine g_block_join (J := fun t w => ∃ x9 : Int, spec_l06Weight.a0 N x9 = some r ∧ Fr t (fun O => ([O 0, O 1, O 2, O 3, O 4, O 5, O 6, Value.int .i64 x9, O 8, O 9, O 10, O 11, O 12, O 13, O 14, O 15, O 16, O 17, O 18, O 19, O 20, O 21, O 22, O 23, O 24, O 25] : List Value)) ∧ St w0 [] w) ?_ ?_
  ·
   rintro t w ⟨x9, H, hf, hs⟩
   obtain ⟨O, rfl⟩ := hf.open
   show G _ _ _ _ [_, _, _, _, _, _, _, _, _, _, _, _, _, _, _, _, _, _, _, _, _, _, _, _, _, _] _
   unfold spec_l06Weight.a0 at H
   refine g_seq ?_
   refine g_region ?_
   show G _ _ _ (.inRegion _ [0, 1] :: _) _ _
   refine g_op (v := Value.int .i64 x9) rfl rfl rfl ?_
   refine g_op (v := Value.int .i64 x9) rfl rfl rfl ?_
   show G _ _ _ _ [_, _, _, _, _, _, _, _, _, _, _, _, _, _, _, _, _, _, _, _, _, _, _, _, _, _] _
   refine g_ops_nil ?_
   obtain rfl := Option.some.inj H
   refine g_ret Try.func20 (v := Value.int .i64 x9) (res1 rfl rfl) ?_
   have hs : St _ [] _ := St.take (Γ' := []) hs
   exact ⟨_, rfl, rfl, hs⟩
  ·
   intro ha1_
   have hs := hs.pull 0 rfl
   have hs : St _ [_] _ := St.take (Γ' := []) hs
   refine g_loop_fuel (I := fun n_ t w => ∃ x6 : Int, ∃ x7 : Int, rounds (fun s => spec_l06Weight.b0 N a1 a3 a2 s.1 s.2) n_ (x6, x7) = some o1_ ∧ Fr t (fun O => ([Value.int .i64 a1, O 1, Value.int .i64 a3, O 3, Value.pointer (some ⟨b4, 0, none⟩), O 5, O 6, Value.int .i64 x6, Value.int .i64 x7, O 9, O 10, O 11, O 12, O 13, O 14, O 15, O 16, O 17, O 18, O 19, O 20, O 21, O 22, O 23, O 24, O 25] : List Value)) ∧ St w0 [Cells b4 ((encA (encI .i64)) a2) 25] w) N ⟨0, 0, Ho, rfl, hs⟩ ?_ ?_
   ·
    rintro _ _ ⟨x6, x7, h, _⟩
    exact rounds_zero h
   ·
    intro n_ ih1_
    rintro t w ⟨x6, x7, Ho, hf, hs⟩
    obtain ⟨O, rfl⟩ := hf.open
    show G _ _ _ _ [_, _, _, _, _, _, _, _, _, _, _, _, _, _, _, _, _, _, _, _, _, _, _, _, _, _] _
    obtain ⟨x2_, H, Hx1_⟩ := rounds_succ Ho
    have H : spec_l06Weight.b0 N a1 a3 a2 x6 x7 = some x2_ := H
    unfold spec_l06Weight.b0 at H
    refine g_seq ?_
    refine g_seq ?_
    refine g_region ?_
    show G _ _ _ (.inRegion _ [0, 1, 2] :: _) _ _
    refine g_op (v := Value.int .i64 x7) rfl rfl rfl ?_
    refine g_op (v := Value.int .i64 a1) rfl rfl rfl ?_
    refine g_op_b (B := decide (x7 ≤ a1)) rfl rfl rfl ?_ ?_
    ·
     intro hb
     rw [if_pos (b_dec_t hb)] at H
     show G _ _ _ _ [_, _, _, _, _, _, _, _, _, _, _, _, _, _, _, _, _, _, _, _, _, _, _, _, _, _] _
     refine g_ops_nil ?_
     refine g_cond_true rfl ?_
     refine g_skip ?_
     refine g_seq ?_
     refine g_block ?_
     obtain ⟨gd1, H⟩ := ite_get H
     obtain ⟨r8, Hr8, H⟩ := bind_get H
     refine g_name ?_
     intro T hT
     refine g_any (n := 12) rfl [0, 1, 2, 3, 4, 5, 6, 7, 8, 9, 10, 11] [0, 1, 2, 3, 4, 5, 6, 7, 8, 9, 10, 11] rfl rfl (Inv := fun D t w => ∃ O : Nat → Value, t = [Value.int .i64 a1, O 1, Value.int .i64 a3, O 3, Value.pointer (some ⟨b4, 0, none⟩), O 5, O 6, cnd (D 11) (Value.int .i64 (i64w (x6 + (i64w ((a2.get x7 0) * r8))))) (Value.int .i64 x6), Value.int .i64 x7, Value.int .i64 x7, Value.int .i64 a1, Value.bool true, O 12, O 13, cnd (D 0) (Value.int .i64 x6) (O 14), cnd (D 1) (Value.int .i64 x7) (O 15), cnd (D 2) (Value.pointer (some ⟨b4, 0 + x7.toNat * 1, none⟩)) (O 16), cnd (D 3) (Value.int .i64 (a2.get x7 0)) (O 17), cnd (D 4) (Value.int .i64 a3) (O 18), cnd (D 5) (Value.int .i64 a1) (O 19), cnd (D 6) (Value.int .i64 x7) (O 20), cnd (D 7) (Value.int .i64 (i64w (a1 - x7))) (O 21), cnd (D 8) (Value.int .i64 r8) (O 22), cnd (D 9) (Value.int .i64 (i64w ((a2.get x7 0) * r8))) (O 23), cnd (D 10) (Value.int .i64 (i64w (x6 + (i64w ((a2.get x7 0) * r8))))) (O 24), O 25] ∧ St w0 [Cells b4 ((encA (encI .i64)) a2) 25] w) ?_ ⟨⟨⟨⟨⟨⟨⟨⟨⟨⟨⟨⟨trivial, ?_⟩, ?_⟩, ?_⟩, ?_⟩, ?_⟩, ?_⟩, ?_⟩, ?_⟩, ?_⟩, ?_⟩, ?_⟩, ?_⟩ ?_
     ·
      intro w hh hbw
      have hs := hs.samew hh hbw
      exact ⟨fun i => T.getD i undef, (by subst hT; rfl), hs⟩
     ·
      intro D t w hD hp hcl hI rest hk
      obtain ⟨O, ht, hs⟩ := hI
      have q10_ : D 10 = false := not_yet (hcl.get 10 (by decide)) 0 0 rfl hD
      have q11_ : D 11 = false := not_yet (hcl.get 11 (by decide)) 0 10 rfl q10_
      have u0_ : upd D 0 0 = true := rfl; have u1_ : upd D 0 1 = D 1 := rfl; have u2_ : upd D 0 2 = D 2 := rfl; have u3_ : upd D 0 3 = D 3 := rfl; have u4_ : upd D 0 4 = D 4 := rfl; have u5_ : upd D 0 5 = D 5 := rfl; have u6_ : upd D 0 6 = D 6 := rfl; have u7_ : upd D 0 7 = D 7 := rfl; have u8_ : upd D 0 8 = D 8 := rfl; have u9_ : upd D 0 9 = D 9 := rfl; have u10_ : upd D 0 10 = D 10 := rfl; have u11_ : upd D 0 11 = D 11 := rfl
      simp only [hD, q10_, q11_, cnd_t, cnd_f, Asc_t, Asc_f] at ht hs
      subst ht
      refine g_op (v := Value.int .i64 x6) rfl rfl rfl ?_
      show G _ _ _ _ [_, _, _, _, _, _, _, _, _, _, _, _, _, _, _, _, _, _, _, _, _, _, _, _, _, _] _
      exact hk _ _ ⟨O, (by simp only [u0_, u1_, u2_, u3_, u4_, u5_, u6_, u7_, u8_, u9_, u10_, u11_, q10_, q11_, cnd_t, cnd_f, Asc_t, Asc_f]), hs.cast (by first | rfl | simp only [List.take, List.drop, List.cons_append, List.nil_append, List.set_cons_zero, List.set_cons_succ, List.eraseIdx, u0_, u1_, u2_, u3_, u4_, u5_, u6_, u7_, u8_, u9_, u10_, u11_, q10_, q11_, cnd_t, cnd_f, Asc_t, Asc_f])⟩
     ·
      intro D t w hD hp hcl hI rest hk
      obtain ⟨O, ht, hs⟩ := hI
      have q2_ : D 2 = false := not_yet (hcl.get 2 (by decide)) 0 1 rfl hD
      have q3_ : D 3 = false := not_yet (hcl.get 3 (by decide)) 0 2 rfl q2_
      have q9_ : D 9 = false := not_yet (hcl.get 9 (by decide)) 0 3 rfl q3_
      have q10_ : D 10 = false := not_yet (hcl.get 10 (by decide)) 1 9 rfl q9_
      have q11_ : D 11 = false := not_yet (hcl.get 11 (by decide)) 0 10 rfl q10_
      have u0_ : upd D 1 0 = D 0 := rfl; have u1_ : upd D 1 1 = true := rfl; have u2_ : upd D 1 2 = D 2 := rfl; have u3_ : upd D 1 3 = D 3 := rfl; have u4_ : upd D 1 4 = D 4 := rfl; have u5_ : upd D 1 5 = D 5 := rfl; have u6_ : upd D 1 6 = D 6 := rfl; have u7_ : upd D 1 7 = D 7 := rfl; have u8_ : upd D 1 8 = D 8 := rfl; have u9_ : upd D 1 9 = D 9 := rfl; have u10_ : upd D 1 10 = D 10 := rfl; have u11_ : upd D 1 11 = D 11 := rfl
      simp only [hD, q2_, q3_, q9_, q10_, q11_, cnd_t, cnd_f, Asc_t, Asc_f] at ht hs
      subst ht
      refine g_op (v := Value.int .i64 x7) rfl rfl rfl ?_
      show G _ _ _ _ [_, _, _, _, _, _, _, _, _, _, _, _, _, _, _, _, _, _, _, _, _, _, _, _, _, _] _
      exact hk _ _ ⟨O, (by simp only [u0_, u1_, u2_, u3_, u4_, u5_, u6_, u7_, u8_, u9_, u10_, u11_, q2_, q3_, q9_, q10_, q11_, cnd_t, cnd_f, Asc_t, Asc_f]), hs.cast (by first | rfl | simp only [List.take, List.drop, List.cons_append, List.nil_append, List.set_cons_zero, List.set_cons_succ, List.eraseIdx, u0_, u1_, u2_, u3_, u4_, u5_, u6_, u7_, u8_, u9_, u10_, u11_, q2_, q3_, q9_, q10_, q11_, cnd_t, cnd_f, Asc_t, Asc_f])⟩
     ·
      intro D t w hD hp hcl hI rest hk
      obtain ⟨O, ht, hs⟩ := hI
      obtain ⟨p1_, _⟩ := hp
      have q3_ : D 3 = false := not_yet (hcl.get 3 (by decide)) 0 2 rfl hD
      have q9_ : D 9 = false := not_yet (hcl.get 9 (by decide)) 0 3 rfl q3_
      have q10_ : D 10 = false := not_yet (hcl.get 10 (by decide)) 1 9 rfl q9_
      have q11_ : D 11 = false := not_yet (hcl.get 11 (by decide)) 0 10 rfl q10_
      have u0_ : upd D 2 0 = D 0 := rfl; have u1_ : upd D 2 1 = D 1 := rfl; have u2_ : upd D 2 2 = true := rfl; have u3_ : upd D 2 3 = D 3 := rfl; have u4_ : upd D 2 4 = D 4 := rfl; have u5_ : upd D 2 5 = D 5 := rfl; have u6_ : upd D 2 6 = D 6 := rfl; have u7_ : upd D 2 7 = D 7 := rfl; have u8_ : upd D 2 8 = D 8 := rfl; have u9_ : upd D 2 9 = D 9 := rfl; have u10_ : upd D 2 10 = D 10 := rfl; have u11_ : upd D 2 11 = D 11 := rfl
      simp only [hD, p1_, q3_, q9_, q10_, q11_, cnd_t, cnd_f, Asc_t, Asc_f] at ht hs
      subst ht
      refine s_idxA (n := x7) (m := 1) rfl (fun _ => rfl) gd1.1 gd1.2 rfl rfl rfl rfl rfl ?_
      show G _ _ _ _ [_, _, _, _, _, _, _, _, _, _, _, _, _, _, _, _, _, _, _, _, _, _, _, _, _, _] _
      exact hk _ _ ⟨O, (by simp only [u0_, u1_, u2_, u3_, u4_, u5_, u6_, u7_, u8_, u9_, u10_, u11_, p1_, q3_, q9_, q10_, q11_, cnd_t, cnd_f, Asc_t, Asc_f]), hs.cast (by first | rfl | simp only [List.take, List.drop, List.cons_append, List.nil_append, List.set_cons_zero, List.set_cons_succ, List.eraseIdx, u0_, u1_, u2_, u3_, u4_, u5_, u6_, u7_, u8_, u9_, u10_, u11_, p1_, q3_, q9_, q10_, q11_, cnd_t, cnd_f, Asc_t, Asc_f])⟩
     ·
      intro D t w hD hp hcl hI rest hk
      obtain ⟨O, ht, hs⟩ := hI
      obtain ⟨p2_, _⟩ := hp
      obtain ⟨p1_, _⟩ := (hcl.get 2 (by decide)) p2_
      have q9_ : D 9 = false := not_yet (hcl.get 9 (by decide)) 0 3 rfl hD
      have q10_ : D 10 = false := not_yet (hcl.get 10 (by decide)) 1 9 rfl q9_
      have q11_ : D 11 = false := not_yet (hcl.get 11 (by decide)) 0 10 rfl q10_
      have u0_ : upd D 3 0 = D 0 := rfl; have u1_ : upd D 3 1 = D 1 := rfl; have u2_ : upd D 3 2 = D 2 := rfl; have u3_ : upd D 3 3 = true := rfl; have u4_ : upd D 3 4 = D 4 := rfl; have u5_ : upd D 3 5 = D 5 := rfl; have u6_ : upd D 3 6 = D 6 := rfl; have u7_ : upd D 3 7 = D 7 := rfl; have u8_ : upd D 3 8 = D 8 := rfl; have u9_ : upd D 3 9 = D 9 := rfl; have u10_ : upd D 3 10 = D 10 := rfl; have u11_ : upd D 3 11 = D 11 := rfl
      simp only [hD, p1_, p2_, q9_, q10_, q11_, cnd_t, cnd_f, Asc_t, Asc_f] at ht hs
      subst ht
      refine s_load1 rfl rfl (v := Value.int .i64 (a2.get x7 0)) rfl rfl (fun _ => rfl) (by rw [Nat.zero_add]; exact cells_load (hs.cells 0 rfl) _ _ (encA_at (fkI .i64).len _ _ 0 gd1.1 gd1.2)) ?_
      show G _ _ _ _ [_, _, _, _, _, _, _, _, _, _, _, _, _, _, _, _, _, _, _, _, _, _, _, _, _, _] _
      exact hk _ _ ⟨O, (by simp only [u0_, u1_, u2_, u3_, u4_, u5_, u6_, u7_, u8_, u9_, u10_, u11_, p1_, p2_, q9_, q10_, q11_, cnd_t, cnd_f, Asc_t, Asc_f]), hs.cast (by first | rfl | simp only [List.take, List.drop, List.cons_append, List.nil_append, List.set_cons_zero, List.set_cons_succ, List.eraseIdx, u0_, u1_, u2_, u3_, u4_, u5_, u6_, u7_, u8_, u9_, u10_, u11_, p1_, p2_, q9_, q10_, q11_, cnd_t, cnd_f, Asc_t, Asc_f])⟩
     ·
      intro D t w hD hp hcl hI rest hk
      obtain ⟨O, ht, hs⟩ := hI
      have q8_ : D 8 = false := not_yet (hcl.get 8 (by decide)) 0 4 rfl hD
      have q9_ : D 9 = false := not_yet (hcl.get 9 (by decide)) 1 8 rfl q8_
      have q10_ : D 10 = false := not_yet (hcl.get 10 (by decide)) 1 9 rfl q9_
      have q11_ : D 11 = false := not_yet (hcl.get 11 (by decide)) 0 10 rfl q10_
      have u0_ : upd D 4 0 = D 0 := rfl; have u1_ : upd D 4 1 = D 1 := rfl; have u2_ : upd D 4 2 = D 2 := rfl; have u3_ : upd D 4 3 = D 3 := rfl; have u4_ : upd D 4 4 = true := rfl; have u5_ : upd D 4 5 = D 5 := rfl; have u6_ : upd D 4 6 = D 6 := rfl; have u7_ : upd D 4 7 = D 7 := rfl; have u8_ : upd D 4 8 = D 8 := rfl; have u9_ : upd D 4 9 = D 9 := rfl; have u10_ : upd D 4 10 = D 10 := rfl; have u11_ : upd D 4 11 = D 11 := rfl
      simp only [hD, q8_, q9_, q10_, q11_, cnd_t, cnd_f, Asc_t, Asc_f] at ht hs
      subst ht
      refine g_op (v := Value.int .i64 a3) rfl rfl rfl ?_
      show G _ _ _ _ [_, _, _, _, _, _, _, _, _, _, _, _, _, _, _, _, _, _, _, _, _, _, _, _, _, _] _
      exact hk _ _ ⟨O, (by simp only [u0_, u1_, u2_, u3_, u4_, u5_, u6_, u7_, u8_, u9_, u10_, u11_, q8_, q9_, q10_, q11_, cnd_t, cnd_f, Asc_t, Asc_f]), hs.cast (by first | rfl | simp only [List.take, List.drop, List.cons_append, List.nil_append, List.set_cons_zero, List.set_cons_succ, List.eraseIdx, u0_, u1_, u2_, u3_, u4_, u5_, u6_, u7_, u8_, u9_, u10_, u11_, q8_, q9_, q10_, q11_, cnd_t, cnd_f, Asc_t, Asc_f])⟩
     ·
      intro D t w hD hp hcl hI rest hk
      obtain ⟨O, ht, hs⟩ := hI
      have q7_ : D 7 = false := not_yet (hcl.get 7 (by decide)) 0 5 rfl hD
      have q8_ : D 8 = false := not_yet (hcl.get 8 (by decide)) 1 7 rfl q7_
      have q9_ : D 9 = false := not_yet (hcl.get 9 (by decide)) 1 8 rfl q8_
      have q10_ : D 10 = false := not_yet (hcl.get 10 (by decide)) 1 9 rfl q9_
      have q11_ : D 11 = false := not_yet (hcl.get 11 (by decide)) 0 10 rfl q10_
      have u0_ : upd D 5 0 = D 0 := rfl; have u1_ : upd D 5 1 = D 1 := rfl; have u2_ : upd D 5 2 = D 2 := rfl; have u3_ : upd D 5 3 = D 3 := rfl; have u4_ : upd D 5 4 = D 4 := rfl; have u5_ : upd D 5 5 = true := rfl; have u6_ : upd D 5 6 = D 6 := rfl; have u7_ : upd D 5 7 = D 7 := rfl; have u8_ : upd D 5 8 = D 8 := rfl; have u9_ : upd D 5 9 = D 9 := rfl; have u10_ : upd D 5 10 = D 10 := rfl; have u11_ : upd D 5 11 = D 11 := rfl
      simp only [hD, q7_, q8_, q9_, q10_, q11_, cnd_t, cnd_f, Asc_t, Asc_f] at ht hs
      subst ht
      refine g_op (v := Value.int .i64 a1) rfl rfl rfl ?_
      show G _ _ _ _ [_, _, _, _, _, _, _, _, _, _, _, _, _, _, _, _, _, _, _, _, _, _, _, _, _, _] _
      exact hk _ _ ⟨O, (by simp only [u0_, u1_, u2_, u3_, u4_, u5_, u6_, u7_, u8_, u9_, u10_, u11_, q7_, q8_, q9_, q10_, q11_, cnd_t, cnd_f, Asc_t, Asc_f]), hs.cast (by first | rfl | simp only [List.take, List.drop, List.cons_append, List.nil_append, List.set_cons_zero, List.set_cons_succ, List.eraseIdx, u0_, u1_, u2_, u3_, u4_, u5_, u6_, u7_, u8_, u9_, u10_, u11_, q7_, q8_, q9_, q10_, q11_, cnd_t, cnd_f, Asc_t, Asc_f])⟩
     ·
      intro D t w hD hp hcl hI rest hk
      obtain ⟨O, ht, hs⟩ := hI
      have q7_ : D 7 = false := not_yet (hcl.get 7 (by decide)) 1 6 rfl hD
      have q8_ : D 8 = false := not_yet (hcl.get 8 (by decide)) 1 7 rfl q7_
      have q9_ : D 9 = false := not_yet (hcl.get 9 (by decide)) 1 8 rfl q8_
      have q10_ : D 10 = false := not_yet (hcl.get 10 (by decide)) 1 9 rfl q9_
      have q11_ : D 11 = false := not_yet (hcl.get 11 (by decide)) 0 10 rfl q10_
      have u0_ : upd D 6 0 = D 0 := rfl; have u1_ : upd D 6 1 = D 1 := rfl; have u2_ : upd D 6 2 = D 2 := rfl; have u3_ : upd D 6 3 = D 3 := rfl; have u4_ : upd D 6 4 = D 4 := rfl; have u5_ : upd D 6 5 = D 5 := rfl; have u6_ : upd D 6 6 = true := rfl; have u7_ : upd D 6 7 = D 7 := rfl; have u8_ : upd D 6 8 = D 8 := rfl; have u9_ : upd D 6 9 = D 9 := rfl; have u10_ : upd D 6 10 = D 10 := rfl; have u11_ : upd D 6 11 = D 11 := rfl
      simp only [hD, q7_, q8_, q9_, q10_, q11_, cnd_t, cnd_f, Asc_t, Asc_f] at ht hs
      subst ht
      refine g_op (v := Value.int .i64 x7) rfl rfl rfl ?_
      show G _ _ _ _ [_, _, _, _, _, _, _, _, _, _, _, _, _, _, _, _, _, _, _, _, _, _, _, _, _, _] _
      exact hk _ _ ⟨O, (by simp only [u0_, u1_, u2_, u3_, u4_, u5_, u6_, u7_, u8_, u9_, u10_, u11_, q7_, q8_, q9_, q10_, q11_, cnd_t, cnd_f, Asc_t, Asc_f]), hs.cast (by first | rfl | simp only [List.take, List.drop, List.cons_append, List.nil_append, List.set_cons_zero, List.set_cons_succ, List.eraseIdx, u0_, u1_, u2_, u3_, u4_, u5_, u6_, u7_, u8_, u9_, u10_, u11_, q7_, q8_, q9_, q10_, q11_, cnd_t, cnd_f, Asc_t, Asc_f])⟩
     ·
      intro D t w hD hp hcl hI rest hk
      obtain ⟨O, ht, hs⟩ := hI
      obtain ⟨p5_, p6_, _⟩ := hp
      have q8_ : D 8 = false := not_yet (hcl.get 8 (by decide)) 1 7 rfl hD
      have q9_ : D 9 = false := not_yet (hcl.get 9 (by decide)) 1 8 rfl q8_
      have q10_ : D 10 = false := not_yet (hcl.get 10 (by decide)) 1 9 rfl q9_
      have q11_ : D 11 = false := not_yet (hcl.get 11 (by decide)) 0 10 rfl q10_
      have u0_ : upd D 7 0 = D 0 := rfl; have u1_ : upd D 7 1 = D 1 := rfl; have u2_ : upd D 7 2 = D 2 := rfl; have u3_ : upd D 7 3 = D 3 := rfl; have u4_ : upd D 7 4 = D 4 := rfl; have u5_ : upd D 7 5 = D 5 := rfl; have u6_ : upd D 7 6 = D 6 := rfl; have u7_ : upd D 7 7 = true := rfl; have u8_ : upd D 7 8 = D 8 := rfl; have u9_ : upd D 7 9 = D 9 := rfl; have u10_ : upd D 7 10 = D 10 := rfl; have u11_ : upd D 7 11 = D 11 := rfl
      simp only [hD, p5_, p6_, q8_, q9_, q10_, q11_, cnd_t, cnd_f, Asc_t, Asc_f] at ht hs
      subst ht
      refine g_op (v := Value.int .i64 (i64w (a1 - x7))) rfl rfl rfl ?_
      show G _ _ _ _ [_, _, _, _, _, _, _, _, _, _, _, _, _, _, _, _, _, _, _, _, _, _, _, _, _, _] _
      exact hk _ _ ⟨O, (by simp only [u0_, u1_, u2_, u3_, u4_, u5_, u6_, u7_, u8_, u9_, u10_, u11_, p5_, p6_, q8_, q9_, q10_, q11_, cnd_t, cnd_f, Asc_t, Asc_f]), hs.cast (by first | rfl | simp only [List.take, List.drop, List.cons_append, List.nil_append, List.set_cons_zero, List.set_cons_succ, List.eraseIdx, u0_, u1_, u2_, u3_, u4_, u5_, u6_, u7_, u8_, u9_, u10_, u11_, p5_, p6_, q8_, q9_, q10_, q11_, cnd_t, cnd_f, Asc_t, Asc_f])⟩
     ·
      intro D t w hD hp hcl hI rest hk
      obtain ⟨O, ht, hs⟩ := hI
      obtain ⟨p4_, p7_, _⟩ := hp
      obtain ⟨p5_, p6_, _⟩ := (hcl.get 7 (by decide)) p7_
      have q9_ : D 9 = false := not_yet (hcl.get 9 (by decide)) 1 8 rfl hD
      have q10_ : D 10 = false := not_yet (hcl.get 10 (by decide)) 1 9 rfl q9_
      have q11_ : D 11 = false := not_yet (hcl.get 11 (by decide)) 0 10 rfl q10_
      have u0_ : upd D 8 0 = D 0 := rfl; have u1_ : upd D 8 1 = D 1 := rfl; have u2_ : upd D 8 2 = D 2 := rfl; have u3_ : upd D 8 3 = D 3 := rfl; have u4_ : upd D 8 4 = D 4 := rfl; have u5_ : upd D 8 5 = D 5 := rfl; have u6_ : upd D 8 6 = D 6 := rfl; have u7_ : upd D 8 7 = D 7 := rfl; have u8_ : upd D 8 8 = true := rfl; have u9_ : upd D 8 9 = D 9 := rfl; have u10_ : upd D 8 10 = D 10 := rfl; have u11_ : upd D 8 11 = D 11 := rfl
      simp only [hD, p4_, p5_, p6_, p7_, q9_, q10_, q11_, cnd_t, cnd_f, Asc_t, Asc_f] at ht hs
      subst ht
      refine s_call (args := [Value.int .i64 a3, Value.int .i64 (i64w (a1 - x7))]) rfl rfl (x_call rfl (callFunc_enter Try.func28 rfl rfl) rfl) (spec_l06Choose.calls (a1 := a3) (a2 := i64w (a1 - x7)) Hr8) ?_
      rintro _ w ⟨rfl, hs2⟩
      have hs : St _ [_] _ := hs.call hs2
      show G _ _ _ _ [_, _, _, _, _, _, _, _, _, _, _, _, _, _, _, _, _, _, _, _, _, _, _, _, _, _] _
      exact hk _ _ ⟨O, (by simp only [u0_, u1_, u2_, u3_, u4_, u5_, u6_, u7_, u8_, u9_, u10_, u11_, p4_, p5_, p6_, p7_, q9_, q10_, q11_, cnd_t, cnd_f, Asc_t, Asc_f]), hs.cast (by first | rfl | simp only [List.take, List.drop, List.cons_append, List.nil_append, List.set_cons_zero, List.set_cons_succ, List.eraseIdx, u0_, u1_, u2_, u3_, u4_, u5_, u6_, u7_, u8_, u9_, u10_, u11_, p4_, p5_, p6_, p7_, q9_, q10_, q11_, cnd_t, cnd_f, Asc_t, Asc_f])⟩
     ·
      intro D t w hD hp hcl hI rest hk
      obtain ⟨O, ht, hs⟩ := hI
      obtain ⟨p3_, p8_, _⟩ := hp
      obtain ⟨p4_, p7_, _⟩ := (hcl.get 8 (by decide)) p8_
      obtain ⟨p5_, p6_, _⟩ := (hcl.get 7 (by decide)) p7_
      obtain ⟨p2_, _⟩ := (hcl.get 3 (by decide)) p3_
      obtain ⟨p1_, _⟩ := (hcl.get 2 (by decide)) p2_
      have q10_ : D 10 = false := not_yet (hcl.get 10 (by decide)) 1 9 rfl hD
      have q11_ : D 11 = false := not_yet (hcl.get 11 (by decide)) 0 10 rfl q10_
      have u0_ : upd D 9 0 = D 0 := rfl; have u1_ : upd D 9 1 = D 1 := rfl; have u2_ : upd D 9 2 = D 2 := rfl; have u3_ : upd D 9 3 = D 3 := rfl; have u4_ : upd D 9 4 = D 4 := rfl; have u5_ : upd D 9 5 = D 5 := rfl; have u6_ : upd D 9 6 = D 6 := rfl; have u7_ : upd D 9 7 = D 7 := rfl; have u8_ : upd D 9 8 = D 8 := rfl; have u9_ : upd D 9 9 = true := rfl; have u10_ : upd D 9 10 = D 10 := rfl; have u11_ : upd D 9 11 = D 11 := rfl
      simp only [hD, p1_, p2_, p3_, p4_, p5_, p6_, p7_, p8_, q10_, q11_, cnd_t, cnd_f, Asc_t, Asc_f] at ht hs
      subst ht
      refine g_op (v := Value.int .i64 (i64w ((a2.get x7 0) * r8))) rfl rfl rfl ?_
      show G _ _ _ _ [_, _, _, _, _, _, _, _, _, _, _, _, _, _, _, _, _, _, _, _, _, _, _, _, _, _] _
      exact hk _ _ ⟨O, (by simp only [u0_, u1_, u2_, u3_, u4_, u5_, u6_, u7_, u8_, u9_, u10_, u11_, p1_, p2_, p3_, p4_, p5_, p6_, p7_, p8_, q10_, q11_, cnd_t, cnd_f, Asc_t, Asc_f]), hs.cast (by first | rfl | simp only [List.take, List.drop, List.cons_append, List.nil_append, List.set_cons_zero, List.set_cons_succ, List.eraseIdx, u0_, u1_, u2_, u3_, u4_, u5_, u6_, u7_, u8_, u9_, u10_, u11_, p1_, p2_, p3_, p4_, p5_, p6_, p7_, p8_, q10_, q11_, cnd_t, cnd_f, Asc_t, Asc_f])⟩
     ·
      intro D t w hD hp hcl hI rest hk
      obtain ⟨O, ht, hs⟩ := hI
      obtain ⟨p0_, p9_, _⟩ := hp
      obtain ⟨p3_, p8_, _⟩ := (hcl.get 9 (by decide)) p9_
      obtain ⟨p4_, p7_, _⟩ := (hcl.get 8 (by decide)) p8_
      obtain ⟨p5_, p6_, _⟩ := (hcl.get 7 (by decide)) p7_
      obtain ⟨p2_, _⟩ := (hcl.get 3 (by decide)) p3_
      obtain ⟨p1_, _⟩ := (hcl.get 2 (by decide)) p2_
      have q11_ : D 11 = false := not_yet (hcl.get 11 (by decide)) 0 10 rfl hD
      have u0_ : upd D 10 0 = D 0 := rfl; have u1_ : upd D 10 1 = D 1 := rfl; have u2_ : upd D 10 2 = D 2 := rfl; have u3_ : upd D 10 3 = D 3 := rfl; have u4_ : upd D 10 4 = D 4 := rfl; have u5_ : upd D 10 5 = D 5 := rfl; have u6_ : upd D 10 6 = D 6 := rfl; have u7_ : upd D 10 7 = D 7 := rfl; have u8_ : upd D 10 8 = D 8 := rfl; have u9_ : upd D 10 9 = D 9 := rfl; have u10_ : upd D 10 10 = true := rfl; have u11_ : upd D 10 11 = D 11 := rfl
      simp only [hD, p0_, p1_, p2_, p3_, p4_, p5_, p6_, p7_, p8_, p9_, q11_, cnd_t, cnd_f, Asc_t, Asc_f] at ht hs
      subst ht
      refine g_op (v := Value.int .i64 (i64w (x6 + (i64w ((a2.get x7 0) * r8))))) rfl rfl rfl ?_
      show G _ _ _ _ [_, _, _, _, _, _, _, _, _, _, _, _, _, _, _, _, _, _, _, _, _, _, _, _, _, _] _
      exact hk _ _ ⟨O, (by simp only [u0_, u1_, u2_, u3_, u4_, u5_, u6_, u7_, u8_, u9_, u10_, u11_, p0_, p1_, p2_, p3_, p4_, p5_, p6_, p7_, p8_, p9_, q11_, cnd_t, cnd_f, Asc_t, Asc_f]), hs.cast (by first | rfl | simp only [List.take, List.drop, List.cons_append, List.nil_append, List.set_cons_zero, List.set_cons_succ, List.eraseIdx, u0_, u1_, u2_, u3_, u4_, u5_, u6_, u7_, u8_, u9_, u10_, u11_, p0_, p1_, p2_, p3_, p4_, p5_, p6_, p7_, p8_, p9_, q11_, cnd_t, cnd_f, Asc_t, Asc_f])⟩
     ·
      intro D t w hD hp hcl hI rest hk
      obtain ⟨O, ht, hs⟩ := hI
      obtain ⟨p10_, p8_, p0_, p1_, p2_, p3_, p4_, p5_, p6_, p7_, _, p9_, _, _⟩ := hp
      have u0_ : upd D 11 0 = D 0 := rfl; have u1_ : upd D 11 1 = D 1 := rfl; have u2_ : upd D 11 2 = D 2 := rfl; have u3_ : upd D 11 3 = D 3 := rfl; have u4_ : upd D 11 4 = D 4 := rfl; have u5_ : upd D 11 5 = D 5 := rfl; have u6_ : upd D 11 6 = D 6 := rfl; have u7_ : upd D 11 7 = D 7 := rfl; have u8_ : upd D 11 8 = D 8 := rfl; have u9_ : upd D 11 9 = D 9 := rfl; have u10_ : upd D 11 10 = D 10 := rfl; have u11_ : upd D 11 11 = true := rfl
      simp only [hD, p0_, p1_, p2_, p3_, p4_, p5_, p6_, p7_, p8_, p9_, p10_, cnd_t, cnd_f, Asc_t, Asc_f] at ht hs
      subst ht
      refine g_op (v := Value.int .i64 (i64w (x6 + (i64w ((a2.get x7 0) * r8))))) rfl rfl rfl ?_
      show G _ _ _ _ [_, _, _, _, _, _, _, _, _, _, _, _, _, _, _, _, _, _, _, _, _, _, _, _, _, _] _
      exact hk _ _ ⟨O, (by simp only [u0_, u1_, u2_, u3_, u4_, u5_, u6_, u7_, u8_, u9_, u10_, u11_, p0_, p1_, p2_, p3_, p4_, p5_, p6_, p7_, p8_, p9_, p10_, cnd_t, cnd_f, Asc_t, Asc_f]), hs.cast (by first | rfl | simp only [List.take, List.drop, List.cons_append, List.nil_append, List.set_cons_zero, List.set_cons_succ, List.eraseIdx, u0_, u1_, u2_, u3_, u4_, u5_, u6_, u7_, u8_, u9_, u10_, u11_, p0_, p1_, p2_, p3_, p4_, p5_, p6_, p7_, p8_, p9_, p10_, cnd_t, cnd_f, Asc_t, Asc_f])⟩
     ·
      intro D t w hall hI
      obtain ⟨O, ht, hs⟩ := hI
      have p0_ : D 0 = true := hall 0 (by decide)
      have p1_ : D 1 = true := hall 1 (by decide)
      have p2_ : D 2 = true := hall 2 (by decide)
      have p3_ : D 3 = true := hall 3 (by decide)
      have p4_ : D 4 = true := hall 4 (by decide)
      have p5_ : D 5 = true := hall 5 (by decide)
      have p6_ : D 6 = true := hall 6 (by decide)
      have p7_ : D 7 = true := hall 7 (by decide)
      have p8_ : D 8 = true := hall 8 (by decide)
      have p9_ : D 9 = true := hall 9 (by decide)
      have p10_ : D 10 = true := hall 10 (by decide)
      have p11_ : D 11 = true := hall 11 (by decide)
      simp only [p0_, p1_, p2_, p3_, p4_, p5_, p6_, p7_, p8_, p9_, p10_, p11_, cnd_t, cnd_f, Asc_t, Asc_f] at ht hs
      subst ht
      refine g_inBlock ?_
      refine g_region ?_
      show G _ _ _ (.inRegion _ [0, 1, 2] :: _) _ _
      refine g_op (v := Value.int .i64 x7) rfl rfl rfl ?_
      refine g_op (v := Value.int .i64 (i64w (x7 + 1))) rfl rfl rfl ?_
      show G _ _ _ _ [_, _, _, _, _, _, _, _, _, _, _, _, _, _, _, _, _, _, _, _, _, _, _, _, _, _] _
      refine g_op (v := Value.int .i64 (i64w (x7 + 1))) rfl rfl rfl ?_
      show G _ _ _ _ [_, _, _, _, _, _, _, _, _, _, _, _, _, _, _, _, _, _, _, _, _, _, _, _, _, _] _
      refine g_ops_nil ?_
      obtain rfl := Option.some.inj H
      have hs := hs.pull 0 rfl
      have hs : St _ [_] _ := St.take (Γ' := []) hs
      exact ih1_ _ _ ⟨i64w (x6 + (i64w ((a2.get x7 0) * r8))), i64w (x7 + 1), Hx1_, rfl, hs⟩
    ·
     intro hb
     rw [if_neg (b_dec_f hb)] at H
     show G _ _ _ _ [_, _, _, _, _, _, _, _, _, _, _, _, _, _, _, _, _, _, _, _, _, _, _, _, _, _] _
     refine g_ops_nil ?_
     refine g_cond_false rfl ?_
     obtain rfl := Option.some.inj H
     subst Hx1_
     have hs : St _ [] _ := St.take (Γ' := [_]) hs
     refine g_exit rfl ?_
     exact ha1_ _ _ ⟨x6, Hr1_, rfl, hs⟩

end Go.Proofs.YticgbaikkaaapaaX
