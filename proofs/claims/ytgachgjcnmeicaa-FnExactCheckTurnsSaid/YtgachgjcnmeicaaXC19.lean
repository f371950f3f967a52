/- Contracts, printed by gen.py. -/
import Derived.Test.YtgachgjcnmeicaaXC18
namespace Go.Proofs.YtgachgjcnmeicaaX
open Go Go.RowKit Go.Proofs
set_option linter.unusedVariables false
set_option linter.unusedSimpArgs false
/- function 11 laws_FnExactCheckTurns -/
def laws_FnExactCheckTurns.post (w0 : World) (r : Bool) (v : Value) (w : World) : Prop := v = Value.bool r ∧ St w0 [] w
set_option maxHeartbeats 400000 in
set_option maxRecDepth 100000 in
theorem laws_FnExactCheckTurns.calls {N : Nat} {a1 : (List Int)} {a3 : (Ar Int 4)} {a4 : (List Int)} {a6 : Int} {v2 : Value} {v5 : Value} {w0 : World} {r : Bool} (hr0 : RdRow (K.int .i16) w0 v2 a1) (hr2 : RdRow (K.int .u8) w0 v5 a4) (H : laws_FnExactCheckTurns.f N a1 a3 a4 a6 = some r) :
    Calls Try.prog 11 #[v2, Value.agg ((encA (encI .i16)) a3).toArray, v5, Value.int .i64 a6] w0 fun e w => ∃ v, e = .returned v ∧ laws_FnExactCheckTurns.post w0 r v w := by
  unfold laws_FnExactCheckTurns.f at H
  have hs : St w0 [] w0 := St.refl w0
  refine calls_of_g (n := 59) Try.func11 rfl rfl ?_
  show G _ _ _ _ [_, _, _, _, _, _, _, _, _, _, _, _, _, _, _, _, _, _, _, _, _, _, _, _, _, _, _, _, _, _, _, _, _, _, _, _, _, _, _, _, _, _, _, _, _, _, _, _, _, _, _, _, _, _, _, _, _, _, _, _, _, _, _] _
  refine g_seq ?_
  refine g_region ?_
  show G _ _ _ (.inRegion _ [0, 1] :: _) _ _
  refine s_box hs rfl rfl (cs := ((encA (encI .i16)) a3)) rfl rfl ?_
  intro b7 w hs
  show G _ _ _ _ [_, _, _, _, _, _, _, _, _, _, _, _, _, _, _, _, _, _, _, _, _, _, _, _, _, _, _, _, _, _, _, _, _, _, _, _, _, _, _, _, _, _, _, _, _, _, _, _, _, _, _, _, _, _, _, _, _, _, _, _, _, _, _] _
  refine g_op (v := Value.bool false) rfl rfl rfl ?_
  show G _ _ _ _ [_, _, _, _, _, _, _, _, _, _, _, _, _, _, _, _, _, _, _, _, _, _, _, _, _, _, _, _, _, _, _, _, _, _, _, _, _, _, _, _, _, _, _, _, _, _, _, _, _, _, _, _, _, _, _, _, _, _, _, _, _, _, _] _
  refine g_ops_nil ?_
  refine g_seq ?_
  refine g_seq ?_
  refine g_region ?_
  show G _ _ _ (.inRegion _ [0, 1, 2] :: _) _ _
  refine g_op (v := v2) rfl rfl rfl ?_
  show G _ _ _ _ [_, _, _, _, _, _, _, _, _, _, _, _, _, _, _, _, _, _, _, _, _, _, _, _, _, _, _, _, _, _, _, _, _, _, _, _, _, _, _, _, _, _, _, _, _, _, _, _, _, _, _, _, _, _, _, _, _, _, _, _, _, _, _] _
  refine s_len (hs.rd hr0) rfl rfl rfl rfl rfl ?_
  show G _ _ _ _ [_, _, _, _, _, _, _, _, _, _, _, _, _, _, _, _, _, _, _, _, _, _, _, _, _, _, _, _, _, _, _, _, _, _, _, _, _, _, _, _, _, _, _, _, _, _, _, _, _, _, _, _, _, _, _, _, _, _, _, _, _, _, _] _
  refine g_op_b (B := decide ((a1.length : Int) > 1048576)) rfl rfl rfl ?_ ?_
  · intro hb
    rw [if_pos (b_dec_t hb)] at H
    show G _ _ _ _ [_, _, _, _, _, _, _, _, _, _, _, _, _, _, _, _, _, _, _, _, _, _, _, _, _, _, _, _, _, _, _, _, _, _, _, _, _, _, _, _, _, _, _, _, _, _, _, _, _, _, _, _, _, _, _, _, _, _, _, _, _, _, _] _
    refine g_ops_nil ?_
    refine g_cond_true rfl ?_
    refine g_seq ?_
    refine g_region ?_
    show G _ _ _ (.inRegion _ [0] :: _) _ _
    refine g_op (v := Value.bool true) rfl rfl rfl ?_
    show G _ _ _ _ [_, _, _, _, _, _, _, _, _, _, _, _, _, _, _, _, _, _, _, _, _, _, _, _, _, _, _, _, _, _, _, _, _, _, _, _, _, _, _, _, _, _, _, _, _, _, _, _, _, _, _, _, _, _, _, _, _, _, _, _, _, _, _] _
    refine g_ops_nil ?_
    obtain rfl := Option.some.inj H
    refine g_ret Try.func11 (v := Value.bool true) (res1 rfl rfl) ?_
    have hs : St _ [] _ := St.take (Γ' := [_]) hs
    exact ⟨_, rfl, rfl, hs⟩
  · intro hb
    rw [if_neg (b_dec_f hb)] at H
    show G _ _ _ _ [_, _, _, _, _, _, _, _, _, _, _, _, _, _, _, _, _, _, _, _, _, _, _, _, _, _, _, _, _, _, _, _, _, _, _, _, _, _, _, _, _, _, _, _, _, _, _, _, _, _, _, _, _, _, _, _, _, _, _, _, _, _, _] _
    refine g_ops_nil ?_
    refine g_cond_false rfl ?_
    refine g_skip ?_
    refine g_seq ?_
    refine g_seq ?_
    refine g_region ?_
    show G _ _ _ (.inRegion _ [0, 1, 2] :: _) _ _
    refine g_op (v := v5) rfl rfl rfl ?_
    show G _ _ _ _ [_, _, _, _, _, _, _, _, _, _, _, _, _, _, _, _, _, _, _, _, _, _, _, _, _, _, _, _, _, _, _, _, _, _, _, _, _, _, _, _, _, _, _, _, _, _, _, _, _, _, _, _, _, _, _, _, _, _, _, _, _, _, _] _
    refine s_len (hs.rd hr2) rfl rfl rfl rfl rfl ?_
    show G _ _ _ _ [_, _, _, _, _, _, _, _, _, _, _, _, _, _, _, _, _, _, _, _, _, _, _, _, _, _, _, _, _, _, _, _, _, _, _, _, _, _, _, _, _, _, _, _, _, _, _, _, _, _, _, _, _, _, _, _, _, _, _, _, _, _, _] _
    refine g_op_b (B := decide ((a4.length : Int) > 1048576)) rfl rfl rfl ?_ ?_
    · intro hb
      rw [if_pos (b_dec_t hb)] at H
      show G _ _ _ _ [_, _, _, _, _, _, _, _, _, _, _, _, _, _, _, _, _, _, _, _, _, _, _, _, _, _, _, _, _, _, _, _, _, _, _, _, _, _, _, _, _, _, _, _, _, _, _, _, _, _, _, _, _, _, _, _, _, _, _, _, _, _, _] _
      refine g_ops_nil ?_
      refine g_cond_true rfl ?_
      refine g_seq ?_
      refine g_region ?_
      show G _ _ _ (.inRegion _ [0] :: _) _ _
      refine g_op (v := Value.bool true) rfl rfl rfl ?_
      show G _ _ _ _ [_, _, _, _, _, _, _, _, _, _, _, _, _, _, _, _, _, _, _, _, _, _, _, _, _, _, _, _, _, _, _, _, _, _, _, _, _, _, _, _, _, _, _, _, _, _, _, _, _, _, _, _, _, _, _, _, _, _, _, _, _, _, _] _
      refine g_ops_nil ?_
      obtain rfl := Option.some.inj H
      refine g_ret Try.func11 (v := Value.bool true) (res1 rfl rfl) ?_
      have hs : St _ [] _ := St.take (Γ' := [_]) hs
      exact ⟨_, rfl, rfl, hs⟩
    · intro hb
      rw [if_neg (b_dec_f hb)] at H
      show G _ _ _ _ [_, _, _, _, _, _, _, _, _, _, _, _, _, _, _, _, _, _, _, _, _, _, _, _, _, _, _, _, _, _, _, _, _, _, _, _, _, _, _, _, _, _, _, _, _, _, _, _, _, _, _, _, _, _, _, _, _, _, _, _, _, _, _] _
      refine g_ops_nil ?_
      refine g_cond_false rfl ?_
      refine g_skip ?_
      refine g_seq ?_
      obtain ⟨r9, Hr9, H⟩ := bind_get H
      obtain ⟨r12, Hr12, H⟩ := bind_get H
      obtain ⟨r13, Hr13, H⟩ := bind_get H
      obtain ⟨r16, Hr16, H⟩ := bind_get H
      refine g_name ?_
      intro T hT
      refine g_any (n := 13) rfl [0, 1, 2, 3, 4, 5, 6, 7, 8, 9, 10, 11, 12] [0, 1, 2, 3, 4, 5, 6, 7, 8, 9, 11, 10, 12] rfl rfl (Inv := fun D t w => ∃ v10 : Value, ∃ v14 : Value, ∃ O : Nat → Value, t = [v2, Value.agg ((encA (encI .i16)) a3).toArray, v5, Value.int .i64 a6, O 4, Value.pointer (some ⟨b7, 0, none⟩), O 6, O 7, Value.bool false, cnd (D 11) (Value.bool r16.1) (O 9), cnd (D 12) (Value.int .i64 r16.2) (O 10), O 11, O 12, O 13, O 14, v2, Value.int .i64 (a1.length : Int), Value.bool false, v5, Value.int .i64 (a4.length : Int), Value.bool false, cnd (D 8) (Value.tuple #[Value.bool r16.1, Value.int .i64 r16.2]) (O 21), cnd (D 0) v2 (O 22), cnd (D 1) v10 (O 23), cnd (D 2) (Value.agg ((encA (encI .i16)) a3).toArray) (O 24), cnd (D 3) (Value.agg ((encA (encI .i16)) r12).toArray) (O 25), cnd (D 4) v5 (O 26), cnd (D 5) v14 (O 27), cnd (D 6) (Value.int .i64 a6) (O 28), cnd (D 7) (Value.tuple #[Value.bool r16.1, Value.int .i64 r16.2]) (O 29), cnd (D 9) (Value.bool r16.1) (O 30), cnd (D 10) (Value.int .i64 r16.2) (O 31), O 32, O 33, O 34, O 35, O 36, O 37, O 38, O 39, O 40, O 41, O 42, O 43, O 44, O 45, O 46, O 47, O 48, O 49, O 50, O 51, O 52, O 53, O 54, O 55, O 56, O 57, O 58, O 59, O 60, O 61, O 62] ∧ St w0 [Asc (D 1) (Row 34 (K.int .i16) v10 r9), Asc (D 5) (Row 5 (K.int .u8) v14 r13), Cells b7 ((encA (encI .i16)) a3) 35] w) ?_ ⟨⟨⟨⟨⟨⟨⟨⟨⟨⟨⟨⟨⟨trivial, ?_⟩, ?_⟩, ?_⟩, ?_⟩, ?_⟩, ?_⟩, ?_⟩, ?_⟩, ?_⟩, ?_⟩, ?_⟩, ?_⟩, ?_⟩ ?_
      · intro w hh hbw
        have hs := hs.samew hh hbw
        have hs := hs.emp
        have hs := hs.emp
        exact ⟨undef, undef, fun i => T.getD i undef, (by subst hT; rfl), hs⟩
      · intro D t w hD hp hcl hI rest hk
        obtain ⟨v10, v14, O, ht, hs⟩ := hI
        have q1_ : D 1 = false := not_yet (hcl.get 1 (by decide)) 0 0 rfl hD
        have q3_ : D 3 = false := not_yet (hcl.get 3 (by decide)) 1 1 rfl q1_
        have q5_ : D 5 = false := not_yet (hcl.get 5 (by decide)) 1 3 rfl q3_
        have q7_ : D 7 = false := not_yet (hcl.get 7 (by decide)) 0 1 rfl q1_
        have q8_ : D 8 = false := not_yet (hcl.get 8 (by decide)) 0 7 rfl q7_
        have q9_ : D 9 = false := not_yet (hcl.get 9 (by decide)) 0 8 rfl q8_
        have q10_ : D 10 = false := not_yet (hcl.get 10 (by decide)) 0 8 rfl q8_
        have q11_ : D 11 = false := not_yet (hcl.get 11 (by decide)) 0 9 rfl q9_
        have q12_ : D 12 = false := not_yet (hcl.get 12 (by decide)) 0 10 rfl q10_
        have u0_ : upd D 0 0 = true := rfl
        have u1_ : upd D 0 1 = D 1 := rfl
        have u2_ : upd D 0 2 = D 2 := rfl
        have u3_ : upd D 0 3 = D 3 := rfl
        have u4_ : upd D 0 4 = D 4 := rfl
        have u5_ : upd D 0 5 = D 5 := rfl
        have u6_ : upd D 0 6 = D 6 := rfl
        have u7_ : upd D 0 7 = D 7 := rfl
        have u8_ : upd D 0 8 = D 8 := rfl
        have u9_ : upd D 0 9 = D 9 := rfl
        have u10_ : upd D 0 10 = D 10 := rfl
        have u11_ : upd D 0 11 = D 11 := rfl
        have u12_ : upd D 0 12 = D 12 := rfl
        simp only [hD, q1_, q3_, q5_, q7_, q8_, q9_, q10_, q11_, q12_, cnd_t, cnd_f, Asc_t, Asc_f] at ht hs
        subst ht
        refine g_op (v := v2) rfl rfl rfl ?_
        show G _ _ _ _ [_, _, _, _, _, _, _, _, _, _, _, _, _, _, _, _, _, _, _, _, _, _, _, _, _, _, _, _, _, _, _, _, _, _, _, _, _, _, _, _, _, _, _, _, _, _, _, _, _, _, _, _, _, _, _, _, _, _, _, _, _, _, _] _
        exact hk _ _ ⟨v10, v14, O, (by simp only [u0_, u1_, u2_, u3_, u4_, u5_, u6_, u7_, u8_, u9_, u10_, u11_, u12_, q1_, q3_, q5_, q7_, q8_, q9_, q10_, q11_, q12_, cnd_t, cnd_f, Asc_t, Asc_f]), hs.cast (by first | rfl | simp only [List.take, List.drop, List.cons_append, List.nil_append, List.set_cons_zero, List.set_cons_succ, List.eraseIdx, u0_, u1_, u2_, u3_, u4_, u5_, u6_, u7_, u8_, u9_, u10_, u11_, u12_, q1_, q3_, q5_, q7_, q8_, q9_, q10_, q11_, q12_, cnd_t, cnd_f, Asc_t, Asc_f])⟩
      · intro D t w hD hp hcl hI rest hk
        obtain ⟨v10, v14, O, ht, hs⟩ := hI
        obtain ⟨p0_, _⟩ := hp
        have q3_ : D 3 = false := not_yet (hcl.get 3 (by decide)) 1 1 rfl hD
        have q5_ : D 5 = false := not_yet (hcl.get 5 (by decide)) 1 3 rfl q3_
        have q7_ : D 7 = false := not_yet (hcl.get 7 (by decide)) 0 1 rfl hD
        have q8_ : D 8 = false := not_yet (hcl.get 8 (by decide)) 0 7 rfl q7_
        have q9_ : D 9 = false := not_yet (hcl.get 9 (by decide)) 0 8 rfl q8_
        have q10_ : D 10 = false := not_yet (hcl.get 10 (by decide)) 0 8 rfl q8_
        have q11_ : D 11 = false := not_yet (hcl.get 11 (by decide)) 0 9 rfl q9_
        have q12_ : D 12 = false := not_yet (hcl.get 12 (by decide)) 0 10 rfl q10_
        have u0_ : upd D 1 0 = D 0 := rfl
        have u1_ : upd D 1 1 = true := rfl
        have u2_ : upd D 1 2 = D 2 := rfl
        have u3_ : upd D 1 3 = D 3 := rfl
        have u4_ : upd D 1 4 = D 4 := rfl
        have u5_ : upd D 1 5 = D 5 := rfl
        have u6_ : upd D 1 6 = D 6 := rfl
        have u7_ : upd D 1 7 = D 7 := rfl
        have u8_ : upd D 1 8 = D 8 := rfl
        have u9_ : upd D 1 9 = D 9 := rfl
        have u10_ : upd D 1 10 = D 10 := rfl
        have u11_ : upd D 1 11 = D 11 := rfl
        have u12_ : upd D 1 12 = D 12 := rfl
        simp only [hD, p0_, q3_, q5_, q7_, q8_, q9_, q10_, q11_, q12_, cnd_t, cnd_f, Asc_t, Asc_f] at ht hs
        subst ht
        refine s_call (args := [v2]) rfl rfl (x_call rfl (callFunc_enter Try.func14 rfl rfl) rfl) (laws_toGlasses.calls (a1 := a1) (hs.rd hr0) Hr9) ?_
        intro v10 w hs2
        have hs : St _ [_, _, _, _] _ := hs.call hs2
        show G _ _ _ _ [_, _, _, _, _, _, _, _, _, _, _, _, _, _, _, _, _, _, _, _, _, _, _, _, _, _, _, _, _, _, _, _, _, _, _, _, _, _, _, _, _, _, _, _, _, _, _, _, _, _, _, _, _, _, _, _, _, _, _, _, _, _, _] _
        have hs := hs.fill 0 rfl
        exact hk _ _ ⟨v10, v14, O, (by simp only [u0_, u1_, u2_, u3_, u4_, u5_, u6_, u7_, u8_, u9_, u10_, u11_, u12_, p0_, q3_, q5_, q7_, q8_, q9_, q10_, q11_, q12_, cnd_t, cnd_f, Asc_t, Asc_f]), hs.cast (by first | rfl | simp only [List.take, List.drop, List.cons_append, List.nil_append, List.set_cons_zero, List.set_cons_succ, List.eraseIdx, u0_, u1_, u2_, u3_, u4_, u5_, u6_, u7_, u8_, u9_, u10_, u11_, u12_, p0_, q3_, q5_, q7_, q8_, q9_, q10_, q11_, q12_, cnd_t, cnd_f, Asc_t, Asc_f])⟩
      · intro D t w hD hp hcl hI rest hk
        obtain ⟨v10, v14, O, ht, hs⟩ := hI
        have q3_ : D 3 = false := not_yet (hcl.get 3 (by decide)) 0 2 rfl hD
        have q5_ : D 5 = false := not_yet (hcl.get 5 (by decide)) 1 3 rfl q3_
        have q7_ : D 7 = false := not_yet (hcl.get 7 (by decide)) 1 3 rfl q3_
        have q8_ : D 8 = false := not_yet (hcl.get 8 (by decide)) 0 7 rfl q7_
        have q9_ : D 9 = false := not_yet (hcl.get 9 (by decide)) 0 8 rfl q8_
        have q10_ : D 10 = false := not_yet (hcl.get 10 (by decide)) 0 8 rfl q8_
        have q11_ : D 11 = false := not_yet (hcl.get 11 (by decide)) 0 9 rfl q9_
        have q12_ : D 12 = false := not_yet (hcl.get 12 (by decide)) 0 10 rfl q10_
        have u0_ : upd D 2 0 = D 0 := rfl
        have u1_ : upd D 2 1 = D 1 := rfl
        have u2_ : upd D 2 2 = true := rfl
        have u3_ : upd D 2 3 = D 3 := rfl
        have u4_ : upd D 2 4 = D 4 := rfl
        have u5_ : upd D 2 5 = D 5 := rfl
        have u6_ : upd D 2 6 = D 6 := rfl
        have u7_ : upd D 2 7 = D 7 := rfl
        have u8_ : upd D 2 8 = D 8 := rfl
        have u9_ : upd D 2 9 = D 9 := rfl
        have u10_ : upd D 2 10 = D 10 := rfl
        have u11_ : upd D 2 11 = D 11 := rfl
        have u12_ : upd D 2 12 = D 12 := rfl
        simp only [hD, q3_, q5_, q7_, q8_, q9_, q10_, q11_, q12_, cnd_t, cnd_f, Asc_t, Asc_f] at ht hs
        subst ht
        refine s_loadA rfl rfl (es := ((encA (encI .i16)) a3)) rfl rfl (fun _ => rfl) (n := 4) (fun _ => rfl) ((fkA (n := 4) (he := (fkI .i16).len) (h1 := (fkI .i16).one)).len _) (cells_all (hs.cells 2 rfl)) ?_
        show G _ _ _ _ [_, _, _, _, _, _, _, _, _, _, _, _, _, _, _, _, _, _, _, _, _, _, _, _, _, _, _, _, _, _, _, _, _, _, _, _, _, _, _, _, _, _, _, _, _, _, _, _, _, _, _, _, _, _, _, _, _, _, _, _, _, _, _] _
        exact hk _ _ ⟨v10, v14, O, (by simp only [u0_, u1_, u2_, u3_, u4_, u5_, u6_, u7_, u8_, u9_, u10_, u11_, u12_, q3_, q5_, q7_, q8_, q9_, q10_, q11_, q12_, cnd_t, cnd_f, Asc_t, Asc_f]), hs.cast (by first | rfl | simp only [List.take, List.drop, List.cons_append, List.nil_append, List.set_cons_zero, List.set_cons_succ, List.eraseIdx, u0_, u1_, u2_, u3_, u4_, u5_, u6_, u7_, u8_, u9_, u10_, u11_, u12_, q3_, q5_, q7_, q8_, q9_, q10_, q11_, q12_, cnd_t, cnd_f, Asc_t, Asc_f])⟩
      · intro D t w hD hp hcl hI rest hk
        obtain ⟨v10, v14, O, ht, hs⟩ := hI
        obtain ⟨p2_, p1_, _⟩ := hp
        obtain ⟨p0_, _⟩ := hcl.get 1 (by decide) p1_
        have q5_ : D 5 = false := not_yet (hcl.get 5 (by decide)) 1 3 rfl hD
        have q7_ : D 7 = false := not_yet (hcl.get 7 (by decide)) 1 3 rfl hD
        have q8_ : D 8 = false := not_yet (hcl.get 8 (by decide)) 0 7 rfl q7_
        have q9_ : D 9 = false := not_yet (hcl.get 9 (by decide)) 0 8 rfl q8_
        have q10_ : D 10 = false := not_yet (hcl.get 10 (by decide)) 0 8 rfl q8_
        have q11_ : D 11 = false := not_yet (hcl.get 11 (by decide)) 0 9 rfl q9_
        have q12_ : D 12 = false := not_yet (hcl.get 12 (by decide)) 0 10 rfl q10_
        have u0_ : upd D 3 0 = D 0 := rfl
        have u1_ : upd D 3 1 = D 1 := rfl
        have u2_ : upd D 3 2 = D 2 := rfl
        have u3_ : upd D 3 3 = true := rfl
        have u4_ : upd D 3 4 = D 4 := rfl
        have u5_ : upd D 3 5 = D 5 := rfl
        have u6_ : upd D 3 6 = D 6 := rfl
        have u7_ : upd D 3 7 = D 7 := rfl
        have u8_ : upd D 3 8 = D 8 := rfl
        have u9_ : upd D 3 9 = D 9 := rfl
        have u10_ : upd D 3 10 = D 10 := rfl
        have u11_ : upd D 3 11 = D 11 := rfl
        have u12_ : upd D 3 12 = D 12 := rfl
        simp only [hD, p0_, p1_, p2_, q5_, q7_, q8_, q9_, q10_, q11_, q12_, cnd_t, cnd_f, Asc_t, Asc_f] at ht hs
        subst ht
        refine s_call (args := [Value.agg ((encA (encI .i16)) a3).toArray]) rfl rfl (x_call rfl (callFunc_enter Try.func22 rfl rfl) rfl) (laws_toTops.calls (a1 := a3) Hr12) ?_
        rintro _ w ⟨rfl, hs2⟩
        have hs : St _ [_, _, _] _ := hs.call hs2
        show G _ _ _ _ [_, _, _, _, _, _, _, _, _, _, _, _, _, _, _, _, _, _, _, _, _, _, _, _, _, _, _, _, _, _, _, _, _, _, _, _, _, _, _, _, _, _, _, _, _, _, _, _, _, _, _, _, _, _, _, _, _, _, _, _, _, _, _] _
        exact hk _ _ ⟨v10, v14, O, (by simp only [u0_, u1_, u2_, u3_, u4_, u5_, u6_, u7_, u8_, u9_, u10_, u11_, u12_, p0_, p1_, p2_, q5_, q7_, q8_, q9_, q10_, q11_, q12_, cnd_t, cnd_f, Asc_t, Asc_f]), hs.cast (by first | rfl | simp only [List.take, List.drop, List.cons_append, List.nil_append, List.set_cons_zero, List.set_cons_succ, List.eraseIdx, u0_, u1_, u2_, u3_, u4_, u5_, u6_, u7_, u8_, u9_, u10_, u11_, u12_, p0_, p1_, p2_, q5_, q7_, q8_, q9_, q10_, q11_, q12_, cnd_t, cnd_f, Asc_t, Asc_f])⟩
      · intro D t w hD hp hcl hI rest hk
        obtain ⟨v10, v14, O, ht, hs⟩ := hI
        have q5_ : D 5 = false := not_yet (hcl.get 5 (by decide)) 0 4 rfl hD
        have q7_ : D 7 = false := not_yet (hcl.get 7 (by decide)) 2 5 rfl q5_
        have q8_ : D 8 = false := not_yet (hcl.get 8 (by decide)) 0 7 rfl q7_
        have q9_ : D 9 = false := not_yet (hcl.get 9 (by decide)) 0 8 rfl q8_
        have q10_ : D 10 = false := not_yet (hcl.get 10 (by decide)) 0 8 rfl q8_
        have q11_ : D 11 = false := not_yet (hcl.get 11 (by decide)) 0 9 rfl q9_
        have q12_ : D 12 = false := not_yet (hcl.get 12 (by decide)) 0 10 rfl q10_
        have u0_ : upd D 4 0 = D 0 := rfl
        have u1_ : upd D 4 1 = D 1 := rfl
        have u2_ : upd D 4 2 = D 2 := rfl
        have u3_ : upd D 4 3 = D 3 := rfl
        have u4_ : upd D 4 4 = true := rfl
        have u5_ : upd D 4 5 = D 5 := rfl
        have u6_ : upd D 4 6 = D 6 := rfl
        have u7_ : upd D 4 7 = D 7 := rfl
        have u8_ : upd D 4 8 = D 8 := rfl
        have u9_ : upd D 4 9 = D 9 := rfl
        have u10_ : upd D 4 10 = D 10 := rfl
        have u11_ : upd D 4 11 = D 11 := rfl
        have u12_ : upd D 4 12 = D 12 := rfl
        simp only [hD, q5_, q7_, q8_, q9_, q10_, q11_, q12_, cnd_t, cnd_f, Asc_t, Asc_f] at ht hs
        subst ht
        refine g_op (v := v5) rfl rfl rfl ?_
        show G _ _ _ _ [_, _, _, _, _, _, _, _, _, _, _, _, _, _, _, _, _, _, _, _, _, _, _, _, _, _, _, _, _, _, _, _, _, _, _, _, _, _, _, _, _, _, _, _, _, _, _, _, _, _, _, _, _, _, _, _, _, _, _, _, _, _, _] _
        exact hk _ _ ⟨v10, v14, O, (by simp only [u0_, u1_, u2_, u3_, u4_, u5_, u6_, u7_, u8_, u9_, u10_, u11_, u12_, q5_, q7_, q8_, q9_, q10_, q11_, q12_, cnd_t, cnd_f, Asc_t, Asc_f]), hs.cast (by first | rfl | simp only [List.take, List.drop, List.cons_append, List.nil_append, List.set_cons_zero, List.set_cons_succ, List.eraseIdx, u0_, u1_, u2_, u3_, u4_, u5_, u6_, u7_, u8_, u9_, u10_, u11_, u12_, q5_, q7_, q8_, q9_, q10_, q11_, q12_, cnd_t, cnd_f, Asc_t, Asc_f])⟩
      · intro D t w hD hp hcl hI rest hk
        obtain ⟨v10, v14, O, ht, hs⟩ := hI
        obtain ⟨p4_, p3_, _⟩ := hp
        obtain ⟨p2_, p1_, _⟩ := hcl.get 3 (by decide) p3_
        obtain ⟨p0_, _⟩ := hcl.get 1 (by decide) p1_
        have q7_ : D 7 = false := not_yet (hcl.get 7 (by decide)) 2 5 rfl hD
        have q8_ : D 8 = false := not_yet (hcl.get 8 (by decide)) 0 7 rfl q7_
        have q9_ : D 9 = false := not_yet (hcl.get 9 (by decide)) 0 8 rfl q8_
        have q10_ : D 10 = false := not_yet (hcl.get 10 (by decide)) 0 8 rfl q8_
        have q11_ : D 11 = false := not_yet (hcl.get 11 (by decide)) 0 9 rfl q9_
        have q12_ : D 12 = false := not_yet (hcl.get 12 (by decide)) 0 10 rfl q10_
        have u0_ : upd D 5 0 = D 0 := rfl
        have u1_ : upd D 5 1 = D 1 := rfl
        have u2_ : upd D 5 2 = D 2 := rfl
        have u3_ : upd D 5 3 = D 3 := rfl
        have u4_ : upd D 5 4 = D 4 := rfl
        have u5_ : upd D 5 5 = true := rfl
        have u6_ : upd D 5 6 = D 6 := rfl
        have u7_ : upd D 5 7 = D 7 := rfl
        have u8_ : upd D 5 8 = D 8 := rfl
        have u9_ : upd D 5 9 = D 9 := rfl
        have u10_ : upd D 5 10 = D 10 := rfl
        have u11_ : upd D 5 11 = D 11 := rfl
        have u12_ : upd D 5 12 = D 12 := rfl
        simp only [hD, p0_, p1_, p2_, p3_, p4_, q7_, q8_, q9_, q10_, q11_, q12_, cnd_t, cnd_f, Asc_t, Asc_f] at ht hs
        subst ht
        refine s_call (args := [v5]) rfl rfl (x_call rfl (callFunc_enter Try.func18 rfl rfl) rfl) (laws_toByteS.calls (a1 := a4) (hs.rd hr2) Hr13) ?_
        intro v14 w hs2
        have hs : St _ [_, _, _, _] _ := hs.call hs2
        show G _ _ _ _ [_, _, _, _, _, _, _, _, _, _, _, _, _, _, _, _, _, _, _, _, _, _, _, _, _, _, _, _, _, _, _, _, _, _, _, _, _, _, _, _, _, _, _, _, _, _, _, _, _, _, _, _, _, _, _, _, _, _, _, _, _, _, _] _
        have hs := hs.fill 1 rfl
        exact hk _ _ ⟨v10, v14, O, (by simp only [u0_, u1_, u2_, u3_, u4_, u5_, u6_, u7_, u8_, u9_, u10_, u11_, u12_, p0_, p1_, p2_, p3_, p4_, q7_, q8_, q9_, q10_, q11_, q12_, cnd_t, cnd_f, Asc_t, Asc_f]), hs.cast (by first | rfl | simp only [List.take, List.drop, List.cons_append, List.nil_append, List.set_cons_zero, List.set_cons_succ, List.eraseIdx, u0_, u1_, u2_, u3_, u4_, u5_, u6_, u7_, u8_, u9_, u10_, u11_, u12_, p0_, p1_, p2_, p3_, p4_, q7_, q8_, q9_, q10_, q11_, q12_, cnd_t, cnd_f, Asc_t, Asc_f])⟩
      · intro D t w hD hp hcl hI rest hk
        obtain ⟨v10, v14, O, ht, hs⟩ := hI
        have q7_ : D 7 = false := not_yet (hcl.get 7 (by decide)) 3 6 rfl hD
        have q8_ : D 8 = false := not_yet (hcl.get 8 (by decide)) 0 7 rfl q7_
        have q9_ : D 9 = false := not_yet (hcl.get 9 (by decide)) 0 8 rfl q8_
        have q10_ : D 10 = false := not_yet (hcl.get 10 (by decide)) 0 8 rfl q8_
        have q11_ : D 11 = false := not_yet (hcl.get 11 (by decide)) 0 9 rfl q9_
        have q12_ : D 12 = false := not_yet (hcl.get 12 (by decide)) 0 10 rfl q10_
        have u0_ : upd D 6 0 = D 0 := rfl
        have u1_ : upd D 6 1 = D 1 := rfl
        have u2_ : upd D 6 2 = D 2 := rfl
        have u3_ : upd D 6 3 = D 3 := rfl
        have u4_ : upd D 6 4 = D 4 := rfl
        have u5_ : upd D 6 5 = D 5 := rfl
        have u6_ : upd D 6 6 = true := rfl
        have u7_ : upd D 6 7 = D 7 := rfl
        have u8_ : upd D 6 8 = D 8 := rfl
        have u9_ : upd D 6 9 = D 9 := rfl
        have u10_ : upd D 6 10 = D 10 := rfl
        have u11_ : upd D 6 11 = D 11 := rfl
        have u12_ : upd D 6 12 = D 12 := rfl
        simp only [hD, q7_, q8_, q9_, q10_, q11_, q12_, cnd_t, cnd_f, Asc_t, Asc_f] at ht hs
        subst ht
        refine g_op (v := Value.int .i64 a6) rfl rfl rfl ?_
        show G _ _ _ _ [_, _, _, _, _, _, _, _, _, _, _, _, _, _, _, _, _, _, _, _, _, _, _, _, _, _, _, _, _, _, _, _, _, _, _, _, _, _, _, _, _, _, _, _, _, _, _, _, _, _, _, _, _, _, _, _, _, _, _, _, _, _, _] _
        exact hk _ _ ⟨v10, v14, O, (by simp only [u0_, u1_, u2_, u3_, u4_, u5_, u6_, u7_, u8_, u9_, u10_, u11_, u12_, q7_, q8_, q9_, q10_, q11_, q12_, cnd_t, cnd_f, Asc_t, Asc_f]), hs.cast (by first | rfl | simp only [List.take, List.drop, List.cons_append, List.nil_append, List.set_cons_zero, List.set_cons_succ, List.eraseIdx, u0_, u1_, u2_, u3_, u4_, u5_, u6_, u7_, u8_, u9_, u10_, u11_, u12_, q7_, q8_, q9_, q10_, q11_, q12_, cnd_t, cnd_f, Asc_t, Asc_f])⟩
      · intro D t w hD hp hcl hI rest hk
        obtain ⟨v10, v14, O, ht, hs⟩ := hI
        obtain ⟨p1_, p3_, p5_, p6_, _, _⟩ := hp
        obtain ⟨p4_, _, _⟩ := hcl.get 5 (by decide) p5_
        obtain ⟨p2_, _, _⟩ := hcl.get 3 (by decide) p3_
        obtain ⟨p0_, _⟩ := hcl.get 1 (by decide) p1_
        have q8_ : D 8 = false := not_yet (hcl.get 8 (by decide)) 0 7 rfl hD
        have q9_ : D 9 = false := not_yet (hcl.get 9 (by decide)) 0 8 rfl q8_
        have q10_ : D 10 = false := not_yet (hcl.get 10 (by decide)) 0 8 rfl q8_
        have q11_ : D 11 = false := not_yet (hcl.get 11 (by decide)) 0 9 rfl q9_
        have q12_ : D 12 = false := not_yet (hcl.get 12 (by decide)) 0 10 rfl q10_
        have u0_ : upd D 7 0 = D 0 := rfl
        have u1_ : upd D 7 1 = D 1 := rfl
        have u2_ : upd D 7 2 = D 2 := rfl
        have u3_ : upd D 7 3 = D 3 := rfl
        have u4_ : upd D 7 4 = D 4 := rfl
        have u5_ : upd D 7 5 = D 5 := rfl
        have u6_ : upd D 7 6 = D 6 := rfl
        have u7_ : upd D 7 7 = true := rfl
        have u8_ : upd D 7 8 = D 8 := rfl
        have u9_ : upd D 7 9 = D 9 := rfl
        have u10_ : upd D 7 10 = D 10 := rfl
        have u11_ : upd D 7 11 = D 11 := rfl
        have u12_ : upd D 7 12 = D 12 := rfl
        simp only [hD, p0_, p1_, p2_, p3_, p4_, p5_, p6_, q8_, q9_, q10_, q11_, q12_, cnd_t, cnd_f, Asc_t, Asc_f] at ht hs
        subst ht
        refine s_call (args := [v10, Value.agg ((encA (encI .i16)) r12).toArray, v14, Value.int .i64 a6]) rfl rfl (x_call rfl (callFunc_enter Try.func35 rfl rfl) rfl) (spec_CheckTurns.calls (a1 := r9) (a3 := r12) (a4 := r13) (a6 := a6) (hs.row 0 rfl) (hs.row 1 rfl) Hr16) ?_
        rintro _ w ⟨rfl, hs2⟩
        have hs : St _ [_, _, _] _ := hs.call hs2
        show G _ _ _ _ [_, _, _, _, _, _, _, _, _, _, _, _, _, _, _, _, _, _, _, _, _, _, _, _, _, _, _, _, _, _, _, _, _, _, _, _, _, _, _, _, _, _, _, _, _, _, _, _, _, _, _, _, _, _, _, _, _, _, _, _, _, _, _] _
        exact hk _ _ ⟨v10, v14, O, (by simp only [u0_, u1_, u2_, u3_, u4_, u5_, u6_, u7_, u8_, u9_, u10_, u11_, u12_, p0_, p1_, p2_, p3_, p4_, p5_, p6_, q8_, q9_, q10_, q11_, q12_, cnd_t, cnd_f, Asc_t, Asc_f]), hs.cast (by first | rfl | simp only [List.take, List.drop, List.cons_append, List.nil_append, List.set_cons_zero, List.set_cons_succ, List.eraseIdx, u0_, u1_, u2_, u3_, u4_, u5_, u6_, u7_, u8_, u9_, u10_, u11_, u12_, p0_, p1_, p2_, p3_, p4_, p5_, p6_, q8_, q9_, q10_, q11_, q12_, cnd_t, cnd_f, Asc_t, Asc_f])⟩
      · intro D t w hD hp hcl hI rest hk
        obtain ⟨v10, v14, O, ht, hs⟩ := hI
        obtain ⟨p7_, _⟩ := hp
        obtain ⟨p1_, p3_, p5_, p6_, _, _⟩ := hcl.get 7 (by decide) p7_
        obtain ⟨p4_, _, _⟩ := hcl.get 5 (by decide) p5_
        obtain ⟨p2_, _, _⟩ := hcl.get 3 (by decide) p3_
        obtain ⟨p0_, _⟩ := hcl.get 1 (by decide) p1_
        have q9_ : D 9 = false := not_yet (hcl.get 9 (by decide)) 0 8 rfl hD
        have q10_ : D 10 = false := not_yet (hcl.get 10 (by decide)) 0 8 rfl hD
        have q11_ : D 11 = false := not_yet (hcl.get 11 (by decide)) 0 9 rfl q9_
        have q12_ : D 12 = false := not_yet (hcl.get 12 (by decide)) 0 10 rfl q10_
        have u0_ : upd D 8 0 = D 0 := rfl
        have u1_ : upd D 8 1 = D 1 := rfl
        have u2_ : upd D 8 2 = D 2 := rfl
        have u3_ : upd D 8 3 = D 3 := rfl
        have u4_ : upd D 8 4 = D 4 := rfl
        have u5_ : upd D 8 5 = D 5 := rfl
        have u6_ : upd D 8 6 = D 6 := rfl
        have u7_ : upd D 8 7 = D 7 := rfl
        have u8_ : upd D 8 8 = true := rfl
        have u9_ : upd D 8 9 = D 9 := rfl
        have u10_ : upd D 8 10 = D 10 := rfl
        have u11_ : upd D 8 11 = D 11 := rfl
        have u12_ : upd D 8 12 = D 12 := rfl
        simp only [hD, p0_, p1_, p2_, p3_, p4_, p5_, p6_, p7_, q9_, q10_, q11_, q12_, cnd_t, cnd_f, Asc_t, Asc_f] at ht hs
        subst ht
        refine g_op (v := Value.tuple #[Value.bool r16.1, Value.int .i64 r16.2]) rfl rfl rfl ?_
        show G _ _ _ _ [_, _, _, _, _, _, _, _, _, _, _, _, _, _, _, _, _, _, _, _, _, _, _, _, _, _, _, _, _, _, _, _, _, _, _, _, _, _, _, _, _, _, _, _, _, _, _, _, _, _, _, _, _, _, _, _, _, _, _, _, _, _, _] _
        exact hk _ _ ⟨v10, v14, O, (by simp only [u0_, u1_, u2_, u3_, u4_, u5_, u6_, u7_, u8_, u9_, u10_, u11_, u12_, p0_, p1_, p2_, p3_, p4_, p5_, p6_, p7_, q9_, q10_, q11_, q12_, cnd_t, cnd_f, Asc_t, Asc_f]), hs.cast (by first | rfl | simp only [List.take, List.drop, List.cons_append, List.nil_append, List.set_cons_zero, List.set_cons_succ, List.eraseIdx, u0_, u1_, u2_, u3_, u4_, u5_, u6_, u7_, u8_, u9_, u10_, u11_, u12_, p0_, p1_, p2_, p3_, p4_, p5_, p6_, p7_, q9_, q10_, q11_, q12_, cnd_t, cnd_f, Asc_t, Asc_f])⟩
      · intro D t w hD hp hcl hI rest hk
        obtain ⟨v10, v14, O, ht, hs⟩ := hI
        obtain ⟨p8_, _⟩ := hp
        obtain ⟨p7_, _⟩ := hcl.get 8 (by decide) p8_
        obtain ⟨p1_, p3_, p5_, p6_, _, _⟩ := hcl.get 7 (by decide) p7_
        obtain ⟨p4_, _, _⟩ := hcl.get 5 (by decide) p5_
        obtain ⟨p2_, _, _⟩ := hcl.get 3 (by decide) p3_
        obtain ⟨p0_, _⟩ := hcl.get 1 (by decide) p1_
        have q11_ : D 11 = false := not_yet (hcl.get 11 (by decide)) 0 9 rfl hD
        have q12_ : D 12 = false := not_yet (hcl.get 12 (by decide)) 1 11 rfl q11_
        have u0_ : upd D 9 0 = D 0 := rfl
        have u1_ : upd D 9 1 = D 1 := rfl
        have u2_ : upd D 9 2 = D 2 := rfl
        have u3_ : upd D 9 3 = D 3 := rfl
        have u4_ : upd D 9 4 = D 4 := rfl
        have u5_ : upd D 9 5 = D 5 := rfl
        have u6_ : upd D 9 6 = D 6 := rfl
        have u7_ : upd D 9 7 = D 7 := rfl
        have u8_ : upd D 9 8 = D 8 := rfl
        have u9_ : upd D 9 9 = true := rfl
        have u10_ : upd D 9 10 = D 10 := rfl
        have u11_ : upd D 9 11 = D 11 := rfl
        have u12_ : upd D 9 12 = D 12 := rfl
        simp only [hD, p0_, p1_, p2_, p3_, p4_, p5_, p6_, p7_, p8_, q11_, q12_, cnd_t, cnd_f, Asc_t, Asc_f] at ht hs
        subst ht
        refine g_op (v := Value.bool r16.1) rfl rfl rfl ?_
        show G _ _ _ _ [_, _, _, _, _, _, _, _, _, _, _, _, _, _, _, _, _, _, _, _, _, _, _, _, _, _, _, _, _, _, _, _, _, _, _, _, _, _, _, _, _, _, _, _, _, _, _, _, _, _, _, _, _, _, _, _, _, _, _, _, _, _, _] _
        exact hk _ _ ⟨v10, v14, O, (by simp only [u0_, u1_, u2_, u3_, u4_, u5_, u6_, u7_, u8_, u9_, u10_, u11_, u12_, p0_, p1_, p2_, p3_, p4_, p5_, p6_, p7_, p8_, q11_, q12_, cnd_t, cnd_f, Asc_t, Asc_f]), hs.cast (by first | rfl | simp only [List.take, List.drop, List.cons_append, List.nil_append, List.set_cons_zero, List.set_cons_succ, List.eraseIdx, u0_, u1_, u2_, u3_, u4_, u5_, u6_, u7_, u8_, u9_, u10_, u11_, u12_, p0_, p1_, p2_, p3_, p4_, p5_, p6_, p7_, p8_, q11_, q12_, cnd_t, cnd_f, Asc_t, Asc_f])⟩
      · intro D t w hD hp hcl hI rest hk
        obtain ⟨v10, v14, O, ht, hs⟩ := hI
        obtain ⟨p8_, _⟩ := hp
        obtain ⟨p7_, _⟩ := hcl.get 8 (by decide) p8_
        obtain ⟨p1_, p3_, p5_, p6_, _, _⟩ := hcl.get 7 (by decide) p7_
        obtain ⟨p4_, _, _⟩ := hcl.get 5 (by decide) p5_
        obtain ⟨p2_, _, _⟩ := hcl.get 3 (by decide) p3_
        obtain ⟨p0_, _⟩ := hcl.get 1 (by decide) p1_
        have q12_ : D 12 = false := not_yet (hcl.get 12 (by decide)) 0 10 rfl hD
        have u0_ : upd D 10 0 = D 0 := rfl
        have u1_ : upd D 10 1 = D 1 := rfl
        have u2_ : upd D 10 2 = D 2 := rfl
        have u3_ : upd D 10 3 = D 3 := rfl
        have u4_ : upd D 10 4 = D 4 := rfl
        have u5_ : upd D 10 5 = D 5 := rfl
        have u6_ : upd D 10 6 = D 6 := rfl
        have u7_ : upd D 10 7 = D 7 := rfl
        have u8_ : upd D 10 8 = D 8 := rfl
        have u9_ : upd D 10 9 = D 9 := rfl
        have u10_ : upd D 10 10 = true := rfl
        have u11_ : upd D 10 11 = D 11 := rfl
        have u12_ : upd D 10 12 = D 12 := rfl
        simp only [hD, p0_, p1_, p2_, p3_, p4_, p5_, p6_, p7_, p8_, q12_, cnd_t, cnd_f, Asc_t, Asc_f] at ht hs
        subst ht
        refine g_op (v := Value.int .i64 r16.2) rfl rfl rfl ?_
        show G _ _ _ _ [_, _, _, _, _, _, _, _, _, _, _, _, _, _, _, _, _, _, _, _, _, _, _, _, _, _, _, _, _, _, _, _, _, _, _, _, _, _, _, _, _, _, _, _, _, _, _, _, _, _, _, _, _, _, _, _, _, _, _, _, _, _, _] _
        exact hk _ _ ⟨v10, v14, O, (by simp only [u0_, u1_, u2_, u3_, u4_, u5_, u6_, u7_, u8_, u9_, u10_, u11_, u12_, p0_, p1_, p2_, p3_, p4_, p5_, p6_, p7_, p8_, q12_, cnd_t, cnd_f, Asc_t, Asc_f]), hs.cast (by first | rfl | simp only [List.take, List.drop, List.cons_append, List.nil_append, List.set_cons_zero, List.set_cons_succ, List.eraseIdx, u0_, u1_, u2_, u3_, u4_, u5_, u6_, u7_, u8_, u9_, u10_, u11_, u12_, p0_, p1_, p2_, p3_, p4_, p5_, p6_, p7_, p8_, q12_, cnd_t, cnd_f, Asc_t, Asc_f])⟩
      · intro D t w hD hp hcl hI rest hk
        obtain ⟨v10, v14, O, ht, hs⟩ := hI
        obtain ⟨p9_, p7_, p0_, p1_, p2_, p3_, p4_, p5_, p6_, _, p8_, _, _⟩ := hp
        have q12_ : D 12 = false := not_yet (hcl.get 12 (by decide)) 1 11 rfl hD
        have u0_ : upd D 11 0 = D 0 := rfl
        have u1_ : upd D 11 1 = D 1 := rfl
        have u2_ : upd D 11 2 = D 2 := rfl
        have u3_ : upd D 11 3 = D 3 := rfl
        have u4_ : upd D 11 4 = D 4 := rfl
        have u5_ : upd D 11 5 = D 5 := rfl
        have u6_ : upd D 11 6 = D 6 := rfl
        have u7_ : upd D 11 7 = D 7 := rfl
        have u8_ : upd D 11 8 = D 8 := rfl
        have u9_ : upd D 11 9 = D 9 := rfl
        have u10_ : upd D 11 10 = D 10 := rfl
        have u11_ : upd D 11 11 = true := rfl
        have u12_ : upd D 11 12 = D 12 := rfl
        simp only [hD, p0_, p1_, p2_, p3_, p4_, p5_, p6_, p7_, p8_, p9_, q12_, cnd_t, cnd_f, Asc_t, Asc_f] at ht hs
        subst ht
        refine g_op (v := Value.bool r16.1) rfl rfl rfl ?_
        show G _ _ _ _ [_, _, _, _, _, _, _, _, _, _, _, _, _, _, _, _, _, _, _, _, _, _, _, _, _, _, _, _, _, _, _, _, _, _, _, _, _, _, _, _, _, _, _, _, _, _, _, _, _, _, _, _, _, _, _, _, _, _, _, _, _, _, _] _
        exact hk _ _ ⟨v10, v14, O, (by simp only [u0_, u1_, u2_, u3_, u4_, u5_, u6_, u7_, u8_, u9_, u10_, u11_, u12_, p0_, p1_, p2_, p3_, p4_, p5_, p6_, p7_, p8_, p9_, q12_, cnd_t, cnd_f, Asc_t, Asc_f]), hs.cast (by first | rfl | simp only [List.take, List.drop, List.cons_append, List.nil_append, List.set_cons_zero, List.set_cons_succ, List.eraseIdx, u0_, u1_, u2_, u3_, u4_, u5_, u6_, u7_, u8_, u9_, u10_, u11_, u12_, p0_, p1_, p2_, p3_, p4_, p5_, p6_, p7_, p8_, p9_, q12_, cnd_t, cnd_f, Asc_t, Asc_f])⟩
      · intro D t w hD hp hcl hI rest hk
        obtain ⟨v10, v14, O, ht, hs⟩ := hI
        obtain ⟨p10_, p11_, p0_, p1_, p2_, p3_, p4_, p5_, p6_, p7_, p8_, p9_, _, _, _⟩ := hp
        have u0_ : upd D 12 0 = D 0 := rfl
        have u1_ : upd D 12 1 = D 1 := rfl
        have u2_ : upd D 12 2 = D 2 := rfl
        have u3_ : upd D 12 3 = D 3 := rfl
        have u4_ : upd D 12 4 = D 4 := rfl
        have u5_ : upd D 12 5 = D 5 := rfl
        have u6_ : upd D 12 6 = D 6 := rfl
        have u7_ : upd D 12 7 = D 7 := rfl
        have u8_ : upd D 12 8 = D 8 := rfl
        have u9_ : upd D 12 9 = D 9 := rfl
        have u10_ : upd D 12 10 = D 10 := rfl
        have u11_ : upd D 12 11 = D 11 := rfl
        have u12_ : upd D 12 12 = true := rfl
        simp only [hD, p0_, p1_, p2_, p3_, p4_, p5_, p6_, p7_, p8_, p9_, p10_, p11_, cnd_t, cnd_f, Asc_t, Asc_f] at ht hs
        subst ht
        refine g_op (v := Value.int .i64 r16.2) rfl rfl rfl ?_
        show G _ _ _ _ [_, _, _, _, _, _, _, _, _, _, _, _, _, _, _, _, _, _, _, _, _, _, _, _, _, _, _, _, _, _, _, _, _, _, _, _, _, _, _, _, _, _, _, _, _, _, _, _, _, _, _, _, _, _, _, _, _, _, _, _, _, _, _] _
        exact hk _ _ ⟨v10, v14, O, (by simp only [u0_, u1_, u2_, u3_, u4_, u5_, u6_, u7_, u8_, u9_, u10_, u11_, u12_, p0_, p1_, p2_, p3_, p4_, p5_, p6_, p7_, p8_, p9_, p10_, p11_, cnd_t, cnd_f, Asc_t, Asc_f]), hs.cast (by first | rfl | simp only [List.take, List.drop, List.cons_append, List.nil_append, List.set_cons_zero, List.set_cons_succ, List.eraseIdx, u0_, u1_, u2_, u3_, u4_, u5_, u6_, u7_, u8_, u9_, u10_, u11_, u12_, p0_, p1_, p2_, p3_, p4_, p5_, p6_, p7_, p8_, p9_, p10_, p11_, cnd_t, cnd_f, Asc_t, Asc_f])⟩
      · intro D t w hall hI
        obtain ⟨v10, v14, O, ht, hs⟩ := hI
        have p0_ := hall 0 (by decide)
        have p1_ := hall 1 (by decide)
        have p2_ := hall 2 (by decide)
        have p3_ := hall 3 (by decide)
        have p4_ := hall 4 (by decide)
        have p5_ := hall 5 (by decide)
        have p6_ := hall 6 (by decide)
        have p7_ := hall 7 (by decide)
        have p8_ := hall 8 (by decide)
        have p9_ := hall 9 (by decide)
        have p10_ := hall 10 (by decide)
        have p11_ := hall 11 (by decide)
        have p12_ := hall 12 (by decide)
        simp only [p0_, p1_, p2_, p3_, p4_, p5_, p6_, p7_, p8_, p9_, p10_, p11_, p12_, cnd_t, cnd_f, Asc_t, Asc_f] at ht hs
        subst ht
        refine g_seq ?_
        refine g_region ?_
        show G _ _ _ (.inRegion _ [0, 1, 2] :: _) _ _
        refine g_op (v := v2) rfl rfl rfl ?_
        show G _ _ _ _ [_, _, _, _, _, _, _, _, _, _, _, _, _, _, _, _, _, _, _, _, _, _, _, _, _, _, _, _, _, _, _, _, _, _, _, _, _, _, _, _, _, _, _, _, _, _, _, _, _, _, _, _, _, _, _, _, _, _, _, _, _, _, _] _
        obtain ⟨r19, Hr19, H⟩ := bind_get H
        refine s_call (args := [v2]) rfl rfl (x_call rfl (callFunc_enter Try.func14 rfl rfl) rfl) (laws_toGlasses.calls (a1 := a1) (hs.rd hr0) Hr19) ?_
        intro v20 w hs2
        have hs : St _ [_, _, _, _] _ := hs.call hs2
        show G _ _ _ _ [_, _, _, _, _, _, _, _, _, _, _, _, _, _, _, _, _, _, _, _, _, _, _, _, _, _, _, _, _, _, _, _, _, _, _, _, _, _, _, _, _, _, _, _, _, _, _, _, _, _, _, _, _, _, _, _, _, _, _, _, _, _, _] _
        refine g_op (v := v20) rfl rfl rfl ?_
        show G _ _ _ _ [_, _, _, _, _, _, _, _, _, _, _, _, _, _, _, _, _, _, _, _, _, _, _, _, _, _, _, _, _, _, _, _, _, _, _, _, _, _, _, _, _, _, _, _, _, _, _, _, _, _, _, _, _, _, _, _, _, _, _, _, _, _, _] _
        refine g_ops_nil ?_
        refine g_seq ?_
        refine g_region ?_
        show G _ _ _ (.inRegion _ [0, 1, 2] :: _) _ _
        refine g_op (v := v5) rfl rfl rfl ?_
        show G _ _ _ _ [_, _, _, _, _, _, _, _, _, _, _, _, _, _, _, _, _, _, _, _, _, _, _, _, _, _, _, _, _, _, _, _, _, _, _, _, _, _, _, _, _, _, _, _, _, _, _, _, _, _, _, _, _, _, _, _, _, _, _, _, _, _, _] _
        obtain ⟨r22, Hr22, H⟩ := bind_get H
        refine s_call (args := [v5]) rfl rfl (x_call rfl (callFunc_enter Try.func18 rfl rfl) rfl) (laws_toByteS.calls (a1 := a4) (hs.rd hr2) Hr22) ?_
        intro v23 w hs2
        have hs : St _ [_, _, _, _, _] _ := hs.call hs2
        show G _ _ _ _ [_, _, _, _, _, _, _, _, _, _, _, _, _, _, _, _, _, _, _, _, _, _, _, _, _, _, _, _, _, _, _, _, _, _, _, _, _, _, _, _, _, _, _, _, _, _, _, _, _, _, _, _, _, _, _, _, _, _, _, _, _, _, _] _
        refine g_op (v := v23) rfl rfl rfl ?_
        show G _ _ _ _ [_, _, _, _, _, _, _, _, _, _, _, _, _, _, _, _, _, _, _, _, _, _, _, _, _, _, _, _, _, _, _, _, _, _, _, _, _, _, _, _, _, _, _, _, _, _, _, _, _, _, _, _, _, _, _, _, _, _, _, _, _, _, _] _
        refine g_ops_nil ?_
        refine g_seq ?_
        refine g_region ?_
        show G _ _ _ (.inRegion _ [0, 1, 2, 3, 4, 5, 6, 7, 8, 9, 10] :: _) _ _
        refine g_op (v := v20) rfl rfl rfl ?_
        show G _ _ _ _ [_, _, _, _, _, _, _, _, _, _, _, _, _, _, _, _, _, _, _, _, _, _, _, _, _, _, _, _, _, _, _, _, _, _, _, _, _, _, _, _, _, _, _, _, _, _, _, _, _, _, _, _, _, _, _, _, _, _, _, _, _, _, _] _
        refine s_loadA rfl rfl (es := ((encA (encI .i16)) a3)) rfl rfl (fun _ => rfl) (n := 4) (fun _ => rfl) ((fkA (n := 4) (he := (fkI .i16).len) (h1 := (fkI .i16).one)).len _) (cells_all (hs.cells 4 rfl)) ?_
        show G _ _ _ _ [_, _, _, _, _, _, _, _, _, _, _, _, _, _, _, _, _, _, _, _, _, _, _, _, _, _, _, _, _, _, _, _, _, _, _, _, _, _, _, _, _, _, _, _, _, _, _, _, _, _, _, _, _, _, _, _, _, _, _, _, _, _, _] _
        obtain ⟨r25, Hr25, H⟩ := bind_get H
        refine s_call (args := [Value.agg ((encA (encI .i16)) a3).toArray]) rfl rfl (x_call rfl (callFunc_enter Try.func22 rfl rfl) rfl) (laws_toTops.calls (a1 := a3) Hr25) ?_
        rintro _ w ⟨rfl, hs2⟩
        have hs : St _ [_, _, _, _, _] _ := hs.call hs2
        show G _ _ _ _ [_, _, _, _, _, _, _, _, _, _, _, _, _, _, _, _, _, _, _, _, _, _, _, _, _, _, _, _, _, _, _, _, _, _, _, _, _, _, _, _, _, _, _, _, _, _, _, _, _, _, _, _, _, _, _, _, _, _, _, _, _, _, _] _
        refine g_op (v := v23) rfl rfl rfl ?_
        show G _ _ _ _ [_, _, _, _, _, _, _, _, _, _, _, _, _, _, _, _, _, _, _, _, _, _, _, _, _, _, _, _, _, _, _, _, _, _, _, _, _, _, _, _, _, _, _, _, _, _, _, _, _, _, _, _, _, _, _, _, _, _, _, _, _, _, _] _
        refine g_op (v := Value.int .i64 a6) rfl rfl rfl ?_
        show G _ _ _ _ [_, _, _, _, _, _, _, _, _, _, _, _, _, _, _, _, _, _, _, _, _, _, _, _, _, _, _, _, _, _, _, _, _, _, _, _, _, _, _, _, _, _, _, _, _, _, _, _, _, _, _, _, _, _, _, _, _, _, _, _, _, _, _] _
        obtain ⟨r26, Hr26, H⟩ := bind_get H
        refine s_call (args := [v20, Value.agg ((encA (encI .i16)) r25).toArray, v23, Value.int .i64 a6]) rfl rfl (x_call rfl (callFunc_enter Try.func36 rfl rfl) rfl) (impl_CheckTurns.calls (a1 := r19) (a3 := r25) (a4 := r22) (a6 := a6) (hs.row 1 rfl) (hs.row 0 rfl) Hr26) ?_
        rintro _ w ⟨rfl, hs2⟩
        have hs : St _ [_, _, _, _, _] _ := hs.call hs2
        show G _ _ _ _ [_, _, _, _, _, _, _, _, _, _, _, _, _, _, _, _, _, _, _, _, _, _, _, _, _, _, _, _, _, _, _, _, _, _, _, _, _, _, _, _, _, _, _, _, _, _, _, _, _, _, _, _, _, _, _, _, _, _, _, _, _, _, _] _
        refine g_op (v := Value.tuple #[Value.bool r26.1, Value.int .i64 r26.2]) rfl rfl rfl ?_
        show G _ _ _ _ [_, _, _, _, _, _, _, _, _, _, _, _, _, _, _, _, _, _, _, _, _, _, _, _, _, _, _, _, _, _, _, _, _, _, _, _, _, _, _, _, _, _, _, _, _, _, _, _, _, _, _, _, _, _, _, _, _, _, _, _, _, _, _] _
        refine g_op (v := Value.bool r26.1) rfl rfl rfl ?_
        show G _ _ _ _ [_, _, _, _, _, _, _, _, _, _, _, _, _, _, _, _, _, _, _, _, _, _, _, _, _, _, _, _, _, _, _, _, _, _, _, _, _, _, _, _, _, _, _, _, _, _, _, _, _, _, _, _, _, _, _, _, _, _, _, _, _, _, _] _
        refine g_op (v := Value.int .i64 r26.2) rfl rfl rfl ?_
        show G _ _ _ _ [_, _, _, _, _, _, _, _, _, _, _, _, _, _, _, _, _, _, _, _, _, _, _, _, _, _, _, _, _, _, _, _, _, _, _, _, _, _, _, _, _, _, _, _, _, _, _, _, _, _, _, _, _, _, _, _, _, _, _, _, _, _, _] _
        refine g_op (v := Value.bool r26.1) rfl rfl rfl ?_
        show G _ _ _ _ [_, _, _, _, _, _, _, _, _, _, _, _, _, _, _, _, _, _, _, _, _, _, _, _, _, _, _, _, _, _, _, _, _, _, _, _, _, _, _, _, _, _, _, _, _, _, _, _, _, _, _, _, _, _, _, _, _, _, _, _, _, _, _] _
        refine g_op (v := Value.int .i64 r26.2) rfl rfl rfl ?_
        show G _ _ _ _ [_, _, _, _, _, _, _, _, _, _, _, _, _, _, _, _, _, _, _, _, _, _, _, _, _, _, _, _, _, _, _, _, _, _, _, _, _, _, _, _, _, _, _, _, _, _, _, _, _, _, _, _, _, _, _, _, _, _, _, _, _, _, _] _
        refine g_ops_nil ?_
        refine g_seq ?_
        refine g_seq ?_
        refine g_region ?_
        show G _ _ _ (.inRegion _ [0, 1, 2, 3, 4, 5, 6, 7] :: _) _ _
        refine g_op (v := Value.bool r26.1) rfl rfl rfl ?_
        show G _ _ _ _ [_, _, _, _, _, _, _, _, _, _, _, _, _, _, _, _, _, _, _, _, _, _, _, _, _, _, _, _, _, _, _, _, _, _, _, _, _, _, _, _, _, _, _, _, _, _, _, _, _, _, _, _, _, _, _, _, _, _, _, _, _, _, _] _
        refine g_op (v := Value.bool r16.1) rfl rfl rfl ?_
        show G _ _ _ _ [_, _, _, _, _, _, _, _, _, _, _, _, _, _, _, _, _, _, _, _, _, _, _, _, _, _, _, _, _, _, _, _, _, _, _, _, _, _, _, _, _, _, _, _, _, _, _, _, _, _, _, _, _, _, _, _, _, _, _, _, _, _, _] _
        refine g_op_b (B := r26.1 != r16.1) rfl rfl rfl ?_ ?_
        · intro hb
          rw [if_neg (b_bne_t hb)] at H
          show G _ _ _ _ [_, _, _, _, _, _, _, _, _, _, _, _, _, _, _, _, _, _, _, _, _, _, _, _, _, _, _, _, _, _, _, _, _, _, _, _, _, _, _, _, _, _, _, _, _, _, _, _, _, _, _, _, _, _, _, _, _, _, _, _, _, _, _] _
          refine g_op (v := Value.bool true) rfl rfl rfl ?_
          show G _ _ _ _ [_, _, _, _, _, _, _, _, _, _, _, _, _, _, _, _, _, _, _, _, _, _, _, _, _, _, _, _, _, _, _, _, _, _, _, _, _, _, _, _, _, _, _, _, _, _, _, _, _, _, _, _, _, _, _, _, _, _, _, _, _, _, _] _
          refine g_op_not rfl rfl ?_
          show G _ _ _ _ [_, _, _, _, _, _, _, _, _, _, _, _, _, _, _, _, _, _, _, _, _, _, _, _, _, _, _, _, _, _, _, _, _, _, _, _, _, _, _, _, _, _, _, _, _, _, _, _, _, _, _, _, _, _, _, _, _, _, _, _, _, _, _] _
          refine g_op_not rfl rfl ?_
          show G _ _ _ _ [_, _, _, _, _, _, _, _, _, _, _, _, _, _, _, _, _, _, _, _, _, _, _, _, _, _, _, _, _, _, _, _, _, _, _, _, _, _, _, _, _, _, _, _, _, _, _, _, _, _, _, _, _, _, _, _, _, _, _, _, _, _, _] _
          refine g_op_not rfl rfl ?_
          show G _ _ _ _ [_, _, _, _, _, _, _, _, _, _, _, _, _, _, _, _, _, _, _, _, _, _, _, _, _, _, _, _, _, _, _, _, _, _, _, _, _, _, _, _, _, _, _, _, _, _, _, _, _, _, _, _, _, _, _, _, _, _, _, _, _, _, _] _
          refine g_op (v := Value.bool true) rfl rfl rfl ?_
          show G _ _ _ _ [_, _, _, _, _, _, _, _, _, _, _, _, _, _, _, _, _, _, _, _, _, _, _, _, _, _, _, _, _, _, _, _, _, _, _, _, _, _, _, _, _, _, _, _, _, _, _, _, _, _, _, _, _, _, _, _, _, _, _, _, _, _, _] _
          refine g_ops_nil ?_
          refine g_cond_true rfl ?_
          refine g_seq ?_
          refine g_region ?_
          show G _ _ _ (.inRegion _ [0] :: _) _ _
          refine g_op (v := Value.bool false) rfl rfl rfl ?_
          show G _ _ _ _ [_, _, _, _, _, _, _, _, _, _, _, _, _, _, _, _, _, _, _, _, _, _, _, _, _, _, _, _, _, _, _, _, _, _, _, _, _, _, _, _, _, _, _, _, _, _, _, _, _, _, _, _, _, _, _, _, _, _, _, _, _, _, _] _
          refine g_ops_nil ?_
          obtain rfl := Option.some.inj H
          refine g_ret Try.func11 (v := Value.bool false) (res1 rfl rfl) ?_
          have hs : St _ [] _ := St.take (Γ' := [_, _, _, _, _]) hs
          exact ⟨_, rfl, rfl, hs⟩
        · intro hb
          rw [if_pos (b_bne_f hb)] at H
          show G _ _ _ _ [_, _, _, _, _, _, _, _, _, _, _, _, _, _, _, _, _, _, _, _, _, _, _, _, _, _, _, _, _, _, _, _, _, _, _, _, _, _, _, _, _, _, _, _, _, _, _, _, _, _, _, _, _, _, _, _, _, _, _, _, _, _, _] _
          refine g_op (v := Value.bool false) rfl rfl rfl ?_
          show G _ _ _ _ [_, _, _, _, _, _, _, _, _, _, _, _, _, _, _, _, _, _, _, _, _, _, _, _, _, _, _, _, _, _, _, _, _, _, _, _, _, _, _, _, _, _, _, _, _, _, _, _, _, _, _, _, _, _, _, _, _, _, _, _, _, _, _] _
          refine g_op (v := Value.int .i64 r26.2) rfl rfl rfl ?_
          show G _ _ _ _ [_, _, _, _, _, _, _, _, _, _, _, _, _, _, _, _, _, _, _, _, _, _, _, _, _, _, _, _, _, _, _, _, _, _, _, _, _, _, _, _, _, _, _, _, _, _, _, _, _, _, _, _, _, _, _, _, _, _, _, _, _, _, _] _
          refine g_op (v := Value.int .i64 r16.2) rfl rfl rfl ?_
          show G _ _ _ _ [_, _, _, _, _, _, _, _, _, _, _, _, _, _, _, _, _, _, _, _, _, _, _, _, _, _, _, _, _, _, _, _, _, _, _, _, _, _, _, _, _, _, _, _, _, _, _, _, _, _, _, _, _, _, _, _, _, _, _, _, _, _, _] _
          refine g_op_b (B := r26.2 != r16.2) rfl rfl rfl ?_ ?_
          · intro hb
            rw [if_neg (b_bne_t hb)] at H
            show G _ _ _ _ [_, _, _, _, _, _, _, _, _, _, _, _, _, _, _, _, _, _, _, _, _, _, _, _, _, _, _, _, _, _, _, _, _, _, _, _, _, _, _, _, _, _, _, _, _, _, _, _, _, _, _, _, _, _, _, _, _, _, _, _, _, _, _] _
            refine g_op (v := Value.bool true) rfl rfl rfl ?_
            show G _ _ _ _ [_, _, _, _, _, _, _, _, _, _, _, _, _, _, _, _, _, _, _, _, _, _, _, _, _, _, _, _, _, _, _, _, _, _, _, _, _, _, _, _, _, _, _, _, _, _, _, _, _, _, _, _, _, _, _, _, _, _, _, _, _, _, _] _
            refine g_ops_nil ?_
            refine g_cond_true rfl ?_
            refine g_seq ?_
            refine g_region ?_
            show G _ _ _ (.inRegion _ [0] :: _) _ _
            refine g_op (v := Value.bool false) rfl rfl rfl ?_
            show G _ _ _ _ [_, _, _, _, _, _, _, _, _, _, _, _, _, _, _, _, _, _, _, _, _, _, _, _, _, _, _, _, _, _, _, _, _, _, _, _, _, _, _, _, _, _, _, _, _, _, _, _, _, _, _, _, _, _, _, _, _, _, _, _, _, _, _] _
            refine g_ops_nil ?_
            obtain rfl := Option.some.inj H
            refine g_ret Try.func11 (v := Value.bool false) (res1 rfl rfl) ?_
            have hs : St _ [] _ := St.take (Γ' := [_, _, _, _, _]) hs
            exact ⟨_, rfl, rfl, hs⟩
          · intro hb
            rw [if_pos (b_bne_f hb)] at H
            show G _ _ _ _ [_, _, _, _, _, _, _, _, _, _, _, _, _, _, _, _, _, _, _, _, _, _, _, _, _, _, _, _, _, _, _, _, _, _, _, _, _, _, _, _, _, _, _, _, _, _, _, _, _, _, _, _, _, _, _, _, _, _, _, _, _, _, _] _
            refine g_op (v := Value.bool false) rfl rfl rfl ?_
            show G _ _ _ _ [_, _, _, _, _, _, _, _, _, _, _, _, _, _, _, _, _, _, _, _, _, _, _, _, _, _, _, _, _, _, _, _, _, _, _, _, _, _, _, _, _, _, _, _, _, _, _, _, _, _, _, _, _, _, _, _, _, _, _, _, _, _, _] _
            refine g_ops_nil ?_
            refine g_cond_false rfl ?_
            refine g_skip ?_
            refine g_seq ?_
            refine g_seq ?_
            refine g_region ?_
            show G _ _ _ (.inRegion _ [0, 1, 2, 3, 4] :: _) _ _
            refine g_op (v := v20) rfl rfl rfl ?_
            show G _ _ _ _ [_, _, _, _, _, _, _, _, _, _, _, _, _, _, _, _, _, _, _, _, _, _, _, _, _, _, _, _, _, _, _, _, _, _, _, _, _, _, _, _, _, _, _, _, _, _, _, _, _, _, _, _, _, _, _, _, _, _, _, _, _, _, _] _
            refine g_op (v := v2) rfl rfl rfl ?_
            show G _ _ _ _ [_, _, _, _, _, _, _, _, _, _, _, _, _, _, _, _, _, _, _, _, _, _, _, _, _, _, _, _, _, _, _, _, _, _, _, _, _, _, _, _, _, _, _, _, _, _, _, _, _, _, _, _, _, _, _, _, _, _, _, _, _, _, _] _
            obtain ⟨r27, Hr27, H⟩ := bind_get H
            refine s_call (args := [v2]) rfl rfl (x_call rfl (callFunc_enter Try.func14 rfl rfl) rfl) (laws_toGlasses.calls (a1 := a1) (hs.rd hr0) Hr27) ?_
            intro v28 w hs2
            have hs : St _ [_, _, _, _, _, _] _ := hs.call hs2
            show G _ _ _ _ [_, _, _, _, _, _, _, _, _, _, _, _, _, _, _, _, _, _, _, _, _, _, _, _, _, _, _, _, _, _, _, _, _, _, _, _, _, _, _, _, _, _, _, _, _, _, _, _, _, _, _, _, _, _, _, _, _, _, _, _, _, _, _] _
            obtain ⟨r30, Hr30, H⟩ := bind_get H
            refine s_call (args := [v20, v28]) rfl rfl (x_call rfl (callFunc_enter Try.func16 rfl rfl) rfl) (laws_eqGlasses.calls (a1 := r19) (a3 := r27) (hs.row 2 rfl) (hs.row 0 rfl) Hr30) ?_
            rintro _ w ⟨rfl, hs2⟩
            have hs : St _ [_, _, _, _, _, _] _ := hs.call hs2
            cases r30 with
            | true =>
              rw [if_pos rfl] at H
              show G _ _ _ _ [_, _, _, _, _, _, _, _, _, _, _, _, _, _, _, _, _, _, _, _, _, _, _, _, _, _, _, _, _, _, _, _, _, _, _, _, _, _, _, _, _, _, _, _, _, _, _, _, _, _, _, _, _, _, _, _, _, _, _, _, _, _, _] _
              refine g_op (v := Value.bool false) rfl rfl rfl ?_
              show G _ _ _ _ [_, _, _, _, _, _, _, _, _, _, _, _, _, _, _, _, _, _, _, _, _, _, _, _, _, _, _, _, _, _, _, _, _, _, _, _, _, _, _, _, _, _, _, _, _, _, _, _, _, _, _, _, _, _, _, _, _, _, _, _, _, _, _] _
              refine g_ops_nil ?_
              refine g_cond_false rfl ?_
              refine g_skip ?_
              refine g_seq ?_
              refine g_seq ?_
              refine g_region ?_
              show G _ _ _ (.inRegion _ [0, 1, 2, 3, 4] :: _) _ _
              refine g_op (v := v23) rfl rfl rfl ?_
              show G _ _ _ _ [_, _, _, _, _, _, _, _, _, _, _, _, _, _, _, _, _, _, _, _, _, _, _, _, _, _, _, _, _, _, _, _, _, _, _, _, _, _, _, _, _, _, _, _, _, _, _, _, _, _, _, _, _, _, _, _, _, _, _, _, _, _, _] _
              refine g_op (v := v5) rfl rfl rfl ?_
              show G _ _ _ _ [_, _, _, _, _, _, _, _, _, _, _, _, _, _, _, _, _, _, _, _, _, _, _, _, _, _, _, _, _, _, _, _, _, _, _, _, _, _, _, _, _, _, _, _, _, _, _, _, _, _, _, _, _, _, _, _, _, _, _, _, _, _, _] _
              obtain ⟨r31, Hr31, H⟩ := bind_get H
              refine s_call (args := [v5]) rfl rfl (x_call rfl (callFunc_enter Try.func18 rfl rfl) rfl) (laws_toByteS.calls (a1 := a4) (hs.rd hr2) Hr31) ?_
              intro v32 w hs2
              have hs : St _ [_, _, _, _, _, _, _] _ := hs.call hs2
              show G _ _ _ _ [_, _, _, _, _, _, _, _, _, _, _, _, _, _, _, _, _, _, _, _, _, _, _, _, _, _, _, _, _, _, _, _, _, _, _, _, _, _, _, _, _, _, _, _, _, _, _, _, _, _, _, _, _, _, _, _, _, _, _, _, _, _, _] _
              obtain ⟨r34, Hr34, H⟩ := bind_get H
              refine s_call (args := [v23, v32]) rfl rfl (x_call rfl (callFunc_enter Try.func20 rfl rfl) rfl) (laws_eqByteS.calls (a1 := r22) (a3 := r31) (hs.row 2 rfl) (hs.row 0 rfl) Hr34) ?_
              rintro _ w ⟨rfl, hs2⟩
              have hs : St _ [_, _, _, _, _, _, _] _ := hs.call hs2
              cases r34 with
              | true =>
                rw [if_pos rfl] at H
                show G _ _ _ _ [_, _, _, _, _, _, _, _, _, _, _, _, _, _, _, _, _, _, _, _, _, _, _, _, _, _, _, _, _, _, _, _, _, _, _, _, _, _, _, _, _, _, _, _, _, _, _, _, _, _, _, _, _, _, _, _, _, _, _, _, _, _, _] _
                refine g_op (v := Value.bool false) rfl rfl rfl ?_
                show G _ _ _ _ [_, _, _, _, _, _, _, _, _, _, _, _, _, _, _, _, _, _, _, _, _, _, _, _, _, _, _, _, _, _, _, _, _, _, _, _, _, _, _, _, _, _, _, _, _, _, _, _, _, _, _, _, _, _, _, _, _, _, _, _, _, _, _] _
                refine g_ops_nil ?_
                refine g_cond_false rfl ?_
                refine g_skip ?_
                refine g_seq ?_
                refine g_region ?_
                show G _ _ _ (.inRegion _ [0] :: _) _ _
                refine g_op (v := Value.bool true) rfl rfl rfl ?_
                show G _ _ _ _ [_, _, _, _, _, _, _, _, _, _, _, _, _, _, _, _, _, _, _, _, _, _, _, _, _, _, _, _, _, _, _, _, _, _, _, _, _, _, _, _, _, _, _, _, _, _, _, _, _, _, _, _, _, _, _, _, _, _, _, _, _, _, _] _
                refine g_ops_nil ?_
                obtain rfl := Option.some.inj H
                refine g_ret Try.func11 (v := Value.bool true) (res1 rfl rfl) ?_
                have hs : St _ [] _ := St.take (Γ' := [_, _, _, _, _, _, _]) hs
                exact ⟨_, rfl, rfl, hs⟩
              | false =>
                rw [if_neg Bool.false_ne_true] at H
                show G _ _ _ _ [_, _, _, _, _, _, _, _, _, _, _, _, _, _, _, _, _, _, _, _, _, _, _, _, _, _, _, _, _, _, _, _, _, _, _, _, _, _, _, _, _, _, _, _, _, _, _, _, _, _, _, _, _, _, _, _, _, _, _, _, _, _, _] _
                refine g_op (v := Value.bool true) rfl rfl rfl ?_
                show G _ _ _ _ [_, _, _, _, _, _, _, _, _, _, _, _, _, _, _, _, _, _, _, _, _, _, _, _, _, _, _, _, _, _, _, _, _, _, _, _, _, _, _, _, _, _, _, _, _, _, _, _, _, _, _, _, _, _, _, _, _, _, _, _, _, _, _] _
                refine g_ops_nil ?_
                refine g_cond_true rfl ?_
                refine g_seq ?_
                refine g_region ?_
                show G _ _ _ (.inRegion _ [0] :: _) _ _
                refine g_op (v := Value.bool false) rfl rfl rfl ?_
                show G _ _ _ _ [_, _, _, _, _, _, _, _, _, _, _, _, _, _, _, _, _, _, _, _, _, _, _, _, _, _, _, _, _, _, _, _, _, _, _, _, _, _, _, _, _, _, _, _, _, _, _, _, _, _, _, _, _, _, _, _, _, _, _, _, _, _, _] _
                refine g_ops_nil ?_
                obtain rfl := Option.some.inj H
                refine g_ret Try.func11 (v := Value.bool false) (res1 rfl rfl) ?_
                have hs : St _ [] _ := St.take (Γ' := [_, _, _, _, _, _, _]) hs
                exact ⟨_, rfl, rfl, hs⟩
            | false =>
              rw [if_neg Bool.false_ne_true] at H
              show G _ _ _ _ [_, _, _, _, _, _, _, _, _, _, _, _, _, _, _, _, _, _, _, _, _, _, _, _, _, _, _, _, _, _, _, _, _, _, _, _, _, _, _, _, _, _, _, _, _, _, _, _, _, _, _, _, _, _, _, _, _, _, _, _, _, _, _] _
              refine g_op (v := Value.bool true) rfl rfl rfl ?_
              show G _ _ _ _ [_, _, _, _, _, _, _, _, _, _, _, _, _, _, _, _, _, _, _, _, _, _, _, _, _, _, _, _, _, _, _, _, _, _, _, _, _, _, _, _, _, _, _, _, _, _, _, _, _, _, _, _, _, _, _, _, _, _, _, _, _, _, _] _
              refine g_ops_nil ?_
              refine g_cond_true rfl ?_
              refine g_seq ?_
              refine g_region ?_
              show G _ _ _ (.inRegion _ [0] :: _) _ _
              refine g_op (v := Value.bool false) rfl rfl rfl ?_
              show G _ _ _ _ [_, _, _, _, _, _, _, _, _, _, _, _, _, _, _, _, _, _, _, _, _, _, _, _, _, _, _, _, _, _, _, _, _, _, _, _, _, _, _, _, _, _, _, _, _, _, _, _, _, _, _, _, _, _, _, _, _, _, _, _, _, _, _] _
              refine g_ops_nil ?_
              obtain rfl := Option.some.inj H
              refine g_ret Try.func11 (v := Value.bool false) (res1 rfl rfl) ?_
              have hs : St _ [] _ := St.take (Γ' := [_, _, _, _, _, _]) hs
              exact ⟨_, rfl, rfl, hs⟩

end Go.Proofs.YtgachgjcnmeicaaX
