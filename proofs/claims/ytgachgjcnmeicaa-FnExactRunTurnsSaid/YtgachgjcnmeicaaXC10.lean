/- Contracts, printed by gen.py. -/
import Derived.Test.YtgachgjcnmeicaaXC9
namespace Go.Proofs.YtgachgjcnmeicaaX
open Go Go.RowKit Go.Proofs
set_option linter.unusedVariables false
set_option linter.unusedSimpArgs false
/- function 12 laws_FnExactRunTurns -/
def laws_FnExactRunTurns.post (w0 : World) (r : Bool) (v : Value) (w : World) : Prop := v = Value.bool r ∧ St w0 [] w
set_option maxHeartbeats 400000 in
set_option maxRecDepth 100000 in
theorem laws_FnExactRunTurns.calls {N : Nat} {a1 : (List Int)} {a3 : (Ar Int 4)} {a4 : (List Int)} {v2 : Value} {v5 : Value} {w0 : World} {r : Bool} (hr0 : RdRow (K.int .i16) w0 v2 a1) (hr2 : RdRow (K.int .u8) w0 v5 a4) (H : laws_FnExactRunTurns.f N a1 a3 a4 = some r) :
    Calls Try.prog 12 #[v2, Value.agg ((encA (encI .i16)) a3).toArray, v5] w0 fun e w => ∃ v, e = .returned v ∧ laws_FnExactRunTurns.post w0 r v w := by
  unfold laws_FnExactRunTurns.f at H
  have hs : St w0 [] w0 := St.refl w0
  refine calls_of_g (n := 143) Try.func12 rfl rfl ?_
  show G _ _ _ _ [_, _, _, _, _, _, _, _, _, _, _, _, _, _, _, _, _, _, _, _, _, _, _, _, _, _, _, _, _, _, _, _, _, _, _, _, _, _, _, _, _, _, _, _, _, _, _, _, _, _, _, _, _, _, _, _, _, _, _, _, _, _, _, _, _, _, _, _, _, _, _, _, _, _, _, _, _, _, _, _, _, _, _, _, _, _, _, _, _, _, _, _, _, _, _, _, _, _, _, _, _, _, _, _, _, _, _, _, _, _, _, _, _, _, _, _, _, _, _, _, _, _, _, _, _, _, _, _, _, _, _, _, _, _, _, _, _, _, _, _, _, _, _, _, _, _] _
  refine g_seq ?_
  refine g_region ?_
  show G _ _ _ (.inRegion _ [0, 1] :: _) _ _
  refine s_box hs rfl rfl (cs := ((encA (encI .i16)) a3)) rfl rfl ?_
  intro b6 w hs
  show G _ _ _ _ [_, _, _, _, _, _, _, _, _, _, _, _, _, _, _, _, _, _, _, _, _, _, _, _, _, _, _, _, _, _, _, _, _, _, _, _, _, _, _, _, _, _, _, _, _, _, _, _, _, _, _, _, _, _, _, _, _, _, _, _, _, _, _, _, _, _, _, _, _, _, _, _, _, _, _, _, _, _, _, _, _, _, _, _, _, _, _, _, _, _, _, _, _, _, _, _, _, _, _, _, _, _, _, _, _, _, _, _, _, _, _, _, _, _, _, _, _, _, _, _, _, _, _, _, _, _, _, _, _, _, _, _, _, _, _, _, _, _, _, _, _, _, _, _, _, _] _
  refine g_op (v := Value.bool false) rfl rfl rfl ?_
  show G _ _ _ _ [_, _, _, _, _, _, _, _, _, _, _, _, _, _, _, _, _, _, _, _, _, _, _, _, _, _, _, _, _, _, _, _, _, _, _, _, _, _, _, _, _, _, _, _, _, _, _, _, _, _, _, _, _, _, _, _, _, _, _, _, _, _, _, _, _, _, _, _, _, _, _, _, _, _, _, _, _, _, _, _, _, _, _, _, _, _, _, _, _, _, _, _, _, _, _, _, _, _, _, _, _, _, _, _, _, _, _, _, _, _, _, _, _, _, _, _, _, _, _, _, _, _, _, _, _, _, _, _, _, _, _, _, _, _, _, _, _, _, _, _, _, _, _, _, _, _] _
  refine g_ops_nil ?_
  refine g_seq ?_
  refine g_seq ?_
  refine g_region ?_
  show G _ _ _ (.inRegion _ [0, 1, 2] :: _) _ _
  refine g_op (v := v2) rfl rfl rfl ?_
  show G _ _ _ _ [_, _, _, _, _, _, _, _, _, _, _, _, _, _, _, _, _, _, _, _, _, _, _, _, _, _, _, _, _, _, _, _, _, _, _, _, _, _, _, _, _, _, _, _, _, _, _, _, _, _, _, _, _, _, _, _, _, _, _, _, _, _, _, _, _, _, _, _, _, _, _, _, _, _, _, _, _, _, _, _, _, _, _, _, _, _, _, _, _, _, _, _, _, _, _, _, _, _, _, _, _, _, _, _, _, _, _, _, _, _, _, _, _, _, _, _, _, _, _, _, _, _, _, _, _, _, _, _, _, _, _, _, _, _, _, _, _, _, _, _, _, _, _, _, _, _] _
  refine s_len (hs.rd hr0) rfl rfl rfl rfl rfl ?_
  show G _ _ _ _ [_, _, _, _, _, _, _, _, _, _, _, _, _, _, _, _, _, _, _, _, _, _, _, _, _, _, _, _, _, _, _, _, _, _, _, _, _, _, _, _, _, _, _, _, _, _, _, _, _, _, _, _, _, _, _, _, _, _, _, _, _, _, _, _, _, _, _, _, _, _, _, _, _, _, _, _, _, _, _, _, _, _, _, _, _, _, _, _, _, _, _, _, _, _, _, _, _, _, _, _, _, _, _, _, _, _, _, _, _, _, _, _, _, _, _, _, _, _, _, _, _, _, _, _, _, _, _, _, _, _, _, _, _, _, _, _, _, _, _, _, _, _, _, _, _, _] _
  refine g_op_b (B := decide ((a1.length : Int) > 1048576)) rfl rfl rfl ?_ ?_
  · intro hb
    rw [if_pos (b_dec_t hb)] at H
    show G _ _ _ _ [_, _, _, _, _, _, _, _, _, _, _, _, _, _, _, _, _, _, _, _, _, _, _, _, _, _, _, _, _, _, _, _, _, _, _, _, _, _, _, _, _, _, _, _, _, _, _, _, _, _, _, _, _, _, _, _, _, _, _, _, _, _, _, _, _, _, _, _, _, _, _, _, _, _, _, _, _, _, _, _, _, _, _, _, _, _, _, _, _, _, _, _, _, _, _, _, _, _, _, _, _, _, _, _, _, _, _, _, _, _, _, _, _, _, _, _, _, _, _, _, _, _, _, _, _, _, _, _, _, _, _, _, _, _, _, _, _, _, _, _, _, _, _, _, _, _] _
    refine g_ops_nil ?_
    refine g_cond_true rfl ?_
    refine g_seq ?_
    refine g_region ?_
    show G _ _ _ (.inRegion _ [0] :: _) _ _
    refine g_op (v := Value.bool true) rfl rfl rfl ?_
    show G _ _ _ _ [_, _, _, _, _, _, _, _, _, _, _, _, _, _, _, _, _, _, _, _, _, _, _, _, _, _, _, _, _, _, _, _, _, _, _, _, _, _, _, _, _, _, _, _, _, _, _, _, _, _, _, _, _, _, _, _, _, _, _, _, _, _, _, _, _, _, _, _, _, _, _, _, _, _, _, _, _, _, _, _, _, _, _, _, _, _, _, _, _, _, _, _, _, _, _, _, _, _, _, _, _, _, _, _, _, _, _, _, _, _, _, _, _, _, _, _, _, _, _, _, _, _, _, _, _, _, _, _, _, _, _, _, _, _, _, _, _, _, _, _, _, _, _, _, _, _] _
    refine g_ops_nil ?_
    obtain rfl := Option.some.inj H
    refine g_ret Try.func12 (v := Value.bool true) (res1 rfl rfl) ?_
    have hs : St _ [] _ := St.take (Γ' := [_]) hs
    exact ⟨_, rfl, rfl, hs⟩
  · intro hb
    rw [if_neg (b_dec_f hb)] at H
    show G _ _ _ _ [_, _, _, _, _, _, _, _, _, _, _, _, _, _, _, _, _, _, _, _, _, _, _, _, _, _, _, _, _, _, _, _, _, _, _, _, _, _, _, _, _, _, _, _, _, _, _, _, _, _, _, _, _, _, _, _, _, _, _, _, _, _, _, _, _, _, _, _, _, _, _, _, _, _, _, _, _, _, _, _, _, _, _, _, _, _, _, _, _, _, _, _, _, _, _, _, _, _, _, _, _, _, _, _, _, _, _, _, _, _, _, _, _, _, _, _, _, _, _, _, _, _, _, _, _, _, _, _, _, _, _, _, _, _, _, _, _, _, _, _, _, _, _, _, _, _] _
    refine g_ops_nil ?_
    refine g_cond_false rfl ?_
    refine g_skip ?_
    refine g_seq ?_
    refine g_seq ?_
    refine g_region ?_
    show G _ _ _ (.inRegion _ [0, 1, 2] :: _) _ _
    refine g_op (v := v5) rfl rfl rfl ?_
    show G _ _ _ _ [_, _, _, _, _, _, _, _, _, _, _, _, _, _, _, _, _, _, _, _, _, _, _, _, _, _, _, _, _, _, _, _, _, _, _, _, _, _, _, _, _, _, _, _, _, _, _, _, _, _, _, _, _, _, _, _, _, _, _, _, _, _, _, _, _, _, _, _, _, _, _, _, _, _, _, _, _, _, _, _, _, _, _, _, _, _, _, _, _, _, _, _, _, _, _, _, _, _, _, _, _, _, _, _, _, _, _, _, _, _, _, _, _, _, _, _, _, _, _, _, _, _, _, _, _, _, _, _, _, _, _, _, _, _, _, _, _, _, _, _, _, _, _, _, _, _] _
    refine s_len (hs.rd hr2) rfl rfl rfl rfl rfl ?_
    show G _ _ _ _ [_, _, _, _, _, _, _, _, _, _, _, _, _, _, _, _, _, _, _, _, _, _, _, _, _, _, _, _, _, _, _, _, _, _, _, _, _, _, _, _, _, _, _, _, _, _, _, _, _, _, _, _, _, _, _, _, _, _, _, _, _, _, _, _, _, _, _, _, _, _, _, _, _, _, _, _, _, _, _, _, _, _, _, _, _, _, _, _, _, _, _, _, _, _, _, _, _, _, _, _, _, _, _, _, _, _, _, _, _, _, _, _, _, _, _, _, _, _, _, _, _, _, _, _, _, _, _, _, _, _, _, _, _, _, _, _, _, _, _, _, _, _, _, _, _, _] _
    refine g_op_b (B := decide ((a4.length : Int) > 1048576)) rfl rfl rfl ?_ ?_
    · intro hb
      rw [if_pos (b_dec_t hb)] at H
      show G _ _ _ _ [_, _, _, _, _, _, _, _, _, _, _, _, _, _, _, _, _, _, _, _, _, _, _, _, _, _, _, _, _, _, _, _, _, _, _, _, _, _, _, _, _, _, _, _, _, _, _, _, _, _, _, _, _, _, _, _, _, _, _, _, _, _, _, _, _, _, _, _, _, _, _, _, _, _, _, _, _, _, _, _, _, _, _, _, _, _, _, _, _, _, _, _, _, _, _, _, _, _, _, _, _, _, _, _, _, _, _, _, _, _, _, _, _, _, _, _, _, _, _, _, _, _, _, _, _, _, _, _, _, _, _, _, _, _, _, _, _, _, _, _, _, _, _, _, _, _] _
      refine g_ops_nil ?_
      refine g_cond_true rfl ?_
      refine g_seq ?_
      refine g_region ?_
      show G _ _ _ (.inRegion _ [0] :: _) _ _
      refine g_op (v := Value.bool true) rfl rfl rfl ?_
      show G _ _ _ _ [_, _, _, _, _, _, _, _, _, _, _, _, _, _, _, _, _, _, _, _, _, _, _, _, _, _, _, _, _, _, _, _, _, _, _, _, _, _, _, _, _, _, _, _, _, _, _, _, _, _, _, _, _, _, _, _, _, _, _, _, _, _, _, _, _, _, _, _, _, _, _, _, _, _, _, _, _, _, _, _, _, _, _, _, _, _, _, _, _, _, _, _, _, _, _, _, _, _, _, _, _, _, _, _, _, _, _, _, _, _, _, _, _, _, _, _, _, _, _, _, _, _, _, _, _, _, _, _, _, _, _, _, _, _, _, _, _, _, _, _, _, _, _, _, _, _] _
      refine g_ops_nil ?_
      obtain rfl := Option.some.inj H
      refine g_ret Try.func12 (v := Value.bool true) (res1 rfl rfl) ?_
      have hs : St _ [] _ := St.take (Γ' := [_]) hs
      exact ⟨_, rfl, rfl, hs⟩
    · intro hb
      rw [if_neg (b_dec_f hb)] at H
      show G _ _ _ _ [_, _, _, _, _, _, _, _, _, _, _, _, _, _, _, _, _, _, _, _, _, _, _, _, _, _, _, _, _, _, _, _, _, _, _, _, _, _, _, _, _, _, _, _, _, _, _, _, _, _, _, _, _, _, _, _, _, _, _, _, _, _, _, _, _, _, _, _, _, _, _, _, _, _, _, _, _, _, _, _, _, _, _, _, _, _, _, _, _, _, _, _, _, _, _, _, _, _, _, _, _, _, _, _, _, _, _, _, _, _, _, _, _, _, _, _, _, _, _, _, _, _, _, _, _, _, _, _, _, _, _, _, _, _, _, _, _, _, _, _, _, _, _, _, _, _] _
      refine g_ops_nil ?_
      refine g_cond_false rfl ?_
      refine g_skip ?_
      refine g_seq ?_
      obtain ⟨r8, Hr8, H⟩ := bind_get H
      obtain ⟨r11, Hr11, H⟩ := bind_get H
      obtain ⟨r12, Hr12, H⟩ := bind_get H
      obtain ⟨r15, Hr15, H⟩ := bind_get H
      refine g_name ?_
      intro T hT
      refine g_any (n := 15) rfl [0, 1, 2, 3, 4, 5, 6, 7, 8, 9, 10, 11, 12, 13, 14] [0, 1, 2, 3, 4, 5, 6, 7, 8, 11, 13, 9, 10, 12, 14] rfl rfl (Inv := fun D t w => ∃ v9 : Value, ∃ v13 : Value, ∃ v16 : Value, ∃ b18 : Nat, ∃ O : Nat → Value, t = [v2, Value.agg ((encA (encI .i16)) a3).toArray, v5, O 3, Value.pointer (some ⟨b6, 0, none⟩), O 5, Value.bool false, cnd (D 12) v16 (O 7), cnd (D 11) (Value.pointer (some ⟨b18, 0, none⟩)) (O 8), cnd (D 14) (Value.int .i64 r15.2.2) (O 9), O 10, O 11, O 12, O 13, O 14, O 15, O 16, O 17, O 18, O 19, O 20, v2, Value.int .i64 (a1.length : Int), Value.bool false, v5, Value.int .i64 (a4.length : Int), Value.bool false, cnd (D 7) (Value.tuple #[v16, Value.agg ((encA (encI .i16)) r15.2.1).toArray, Value.int .i64 r15.2.2]) (O 27), cnd (D 0) v2 (O 28), cnd (D 1) v9 (O 29), cnd (D 2) (Value.agg ((encA (encI .i16)) a3).toArray) (O 30), cnd (D 3) (Value.agg ((encA (encI .i16)) r11).toArray) (O 31), cnd (D 4) v5 (O 32), cnd (D 5) v13 (O 33), cnd (D 6) (Value.tuple #[v16, Value.agg ((encA (encI .i16)) r15.2.1).toArray, Value.int .i64 r15.2.2]) (O 34), cnd (D 8) v16 (O 35), cnd (D 9) (Value.agg ((encA (encI .i16)) r15.2.1).toArray) (O 36), cnd (D 10) (Value.int .i64 r15.2.2) (O 37), O 38, O 39, O 40, O 41, O 42, O 43, O 44, O 45, O 46, O 47, O 48, O 49, O 50, O 51, O 52, O 53, O 54, O 55, O 56, O 57, O 58, O 59, O 60, O 61, O 62, O 63, O 64, O 65, O 66, O 67, O 68, O 69, O 70, O 71, O 72, O 73, O 74, O 75, O 76, O 77, O 78, O 79, O 80, O 81, O 82, O 83, O 84, O 85, O 86, O 87, O 88, O 89, O 90, O 91, O 92, O 93, O 94, O 95, O 96, O 97, O 98, O 99, O 100, O 101, O 102, O 103, O 104, O 105, O 106, O 107, O 108, O 109, O 110, O 111, O 112, O 113, O 114, O 115, O 116, O 117, O 118, O 119, O 120, O 121, O 122, O 123, O 124, O 125, O 126, O 127, O 128, O 129, O 130, O 131, O 132, O 133, O 134, O 135, O 136, O 137, O 138, O 139, O 140, O 141, O 142, O 143, O 144, O 145] ∧ St w0 [Asc (D 1) (Row 34 (K.int .i16) v9 r8), Asc (D 5) (Row 5 (K.int .u8) v13 r12), Asc (D 6) (Row 2 (K.int .i64) v16 r15.1), Asc (D 11) (Cells b18 (cnd (D 13) ((encA (encI .i16)) r15.2.1) ((encA (encI .i16)) (Ar.rep 4 0))) 37), Cells b6 ((encA (encI .i16)) a3) 35] w) ?_ ⟨⟨⟨⟨⟨⟨⟨⟨⟨⟨⟨⟨⟨⟨⟨trivial, ?_⟩, ?_⟩, ?_⟩, ?_⟩, ?_⟩, ?_⟩, ?_⟩, ?_⟩, ?_⟩, ?_⟩, ?_⟩, ?_⟩, ?_⟩, ?_⟩, ?_⟩ ?_
      · intro w hh hbw
        have hs := hs.samew hh hbw
        have hs := hs.emp
        have hs := hs.emp
        have hs := hs.emp
        have hs := hs.emp
        exact ⟨undef, undef, undef, 0, fun i => T.getD i undef, (by subst hT; rfl), hs⟩
      · intro D t w hD hp hcl hI rest hk
        obtain ⟨v9, v13, v16, b18, O, ht, hs⟩ := hI
        have q1_ : D 1 = false := not_yet (hcl.get 1 (by decide)) 0 0 rfl hD
        have q3_ : D 3 = false := not_yet (hcl.get 3 (by decide)) 1 1 rfl q1_
        have q5_ : D 5 = false := not_yet (hcl.get 5 (by decide)) 1 3 rfl q3_
        have q6_ : D 6 = false := not_yet (hcl.get 6 (by decide)) 0 1 rfl q1_
        have q7_ : D 7 = false := not_yet (hcl.get 7 (by decide)) 0 6 rfl q6_
        have q8_ : D 8 = false := not_yet (hcl.get 8 (by decide)) 0 7 rfl q7_
        have q9_ : D 9 = false := not_yet (hcl.get 9 (by decide)) 0 7 rfl q7_
        have q10_ : D 10 = false := not_yet (hcl.get 10 (by decide)) 0 7 rfl q7_
        have q12_ : D 12 = false := not_yet (hcl.get 12 (by decide)) 0 8 rfl q8_
        have q13_ : D 13 = false := not_yet (hcl.get 13 (by decide)) 1 9 rfl q9_
        have q14_ : D 14 = false := not_yet (hcl.get 14 (by decide)) 0 10 rfl q10_
        have u0_ : upd D 0 0 = true := rfl
        have u1_ : upd D 0 1 = D 1 := rfl
        have u2_ : upd D 0 2 = D 2 := rfl
        have u3_ : upd D 0 3 = D 3 := rfl
        have u4_ : upd D 0 4 = D 4 := rfl
        have u5_ : upd D 0 5 = D 5 := rfl
        have u6_ : upd D 0 6 = D 6 := rfl
        have u7_ : upd D 0 7 = D 7 := rfl
        have u8_ : upd D 0 8 = D 8 := rfl
        have u9_ : upd D 0 9 = D 9 := rfl
        have u10_ : upd D 0 10 = D 10 := rfl
        have u11_ : upd D 0 11 = D 11 := rfl
        have u12_ : upd D 0 12 = D 12 := rfl
        have u13_ : upd D 0 13 = D 13 := rfl
        have u14_ : upd D 0 14 = D 14 := rfl
        simp only [hD, q1_, q3_, q5_, q6_, q7_, q8_, q9_, q10_, q12_, q13_, q14_, cnd_t, cnd_f, Asc_t, Asc_f] at ht hs
        subst ht
        refine g_op (v := v2) rfl rfl rfl ?_
        show G _ _ _ _ [_, _, _, _, _, _, _, _, _, _, _, _, _, _, _, _, _, _, _, _, _, _, _, _, _, _, _, _, _, _, _, _, _, _, _, _, _, _, _, _, _, _, _, _, _, _, _, _, _, _, _, _, _, _, _, _, _, _, _, _, _, _, _, _, _, _, _, _, _, _, _, _, _, _, _, _, _, _, _, _, _, _, _, _, _, _, _, _, _, _, _, _, _, _, _, _, _, _, _, _, _, _, _, _, _, _, _, _, _, _, _, _, _, _, _, _, _, _, _, _, _, _, _, _, _, _, _, _, _, _, _, _, _, _, _, _, _, _, _, _, _, _, _, _, _, _] _
        exact hk _ _ ⟨v9, v13, v16, b18, O, (by simp only [u0_, u1_, u2_, u3_, u4_, u5_, u6_, u7_, u8_, u9_, u10_, u11_, u12_, u13_, u14_, q1_, q3_, q5_, q6_, q7_, q8_, q9_, q10_, q12_, q13_, q14_, cnd_t, cnd_f, Asc_t, Asc_f]), hs.cast (by first | rfl | simp only [List.take, List.drop, List.cons_append, List.nil_append, List.set_cons_zero, List.set_cons_succ, List.eraseIdx, u0_, u1_, u2_, u3_, u4_, u5_, u6_, u7_, u8_, u9_, u10_, u11_, u12_, u13_, u14_, q1_, q3_, q5_, q6_, q7_, q8_, q9_, q10_, q12_, q13_, q14_, cnd_t, cnd_f, Asc_t, Asc_f])⟩
      · intro D t w hD hp hcl hI rest hk
        obtain ⟨v9, v13, v16, b18, O, ht, hs⟩ := hI
        obtain ⟨p0_, _⟩ := hp
        have q3_ : D 3 = false := not_yet (hcl.get 3 (by decide)) 1 1 rfl hD
        have q5_ : D 5 = false := not_yet (hcl.get 5 (by decide)) 1 3 rfl q3_
        have q6_ : D 6 = false := not_yet (hcl.get 6 (by decide)) 0 1 rfl hD
        have q7_ : D 7 = false := not_yet (hcl.get 7 (by decide)) 0 6 rfl q6_
        have q8_ : D 8 = false := not_yet (hcl.get 8 (by decide)) 0 7 rfl q7_
        have q9_ : D 9 = false := not_yet (hcl.get 9 (by decide)) 0 7 rfl q7_
        have q10_ : D 10 = false := not_yet (hcl.get 10 (by decide)) 0 7 rfl q7_
        have q12_ : D 12 = false := not_yet (hcl.get 12 (by decide)) 0 8 rfl q8_
        have q13_ : D 13 = false := not_yet (hcl.get 13 (by decide)) 1 9 rfl q9_
        have q14_ : D 14 = false := not_yet (hcl.get 14 (by decide)) 0 10 rfl q10_
        have u0_ : upd D 1 0 = D 0 := rfl
        have u1_ : upd D 1 1 = true := rfl
        have u2_ : upd D 1 2 = D 2 := rfl
        have u3_ : upd D 1 3 = D 3 := rfl
        have u4_ : upd D 1 4 = D 4 := rfl
        have u5_ : upd D 1 5 = D 5 := rfl
        have u6_ : upd D 1 6 = D 6 := rfl
        have u7_ : upd D 1 7 = D 7 := rfl
        have u8_ : upd D 1 8 = D 8 := rfl
        have u9_ : upd D 1 9 = D 9 := rfl
        have u10_ : upd D 1 10 = D 10 := rfl
        have u11_ : upd D 1 11 = D 11 := rfl
        have u12_ : upd D 1 12 = D 12 := rfl
        have u13_ : upd D 1 13 = D 13 := rfl
        have u14_ : upd D 1 14 = D 14 := rfl
        simp only [hD, p0_, q3_, q5_, q6_, q7_, q8_, q9_, q10_, q12_, q13_, q14_, cnd_t, cnd_f, Asc_t, Asc_f] at ht hs
        subst ht
        refine s_call (args := [v2]) rfl rfl (x_call rfl (callFunc_enter Try.func14 rfl rfl) rfl) (laws_toGlasses.calls (a1 := a1) (hs.rd hr0) Hr8) ?_
        intro v9 w hs2
        have hs : St _ [_, _, _, _, _, _] _ := hs.call hs2
        show G _ _ _ _ [_, _, _, _, _, _, _, _, _, _, _, _, _, _, _, _, _, _, _, _, _, _, _, _, _, _, _, _, _, _, _, _, _, _, _, _, _, _, _, _, _, _, _, _, _, _, _, _, _, _, _, _, _, _, _, _, _, _, _, _, _, _, _, _, _, _, _, _, _, _, _, _, _, _, _, _, _, _, _, _, _, _, _, _, _, _, _, _, _, _, _, _, _, _, _, _, _, _, _, _, _, _, _, _, _, _, _, _, _, _, _, _, _, _, _, _, _, _, _, _, _, _, _, _, _, _, _, _, _, _, _, _, _, _, _, _, _, _, _, _, _, _, _, _, _, _] _
        have hs := hs.fill 0 rfl
        exact hk _ _ ⟨v9, v13, v16, b18, O, (by simp only [u0_, u1_, u2_, u3_, u4_, u5_, u6_, u7_, u8_, u9_, u10_, u11_, u12_, u13_, u14_, p0_, q3_, q5_, q6_, q7_, q8_, q9_, q10_, q12_, q13_, q14_, cnd_t, cnd_f, Asc_t, Asc_f]), hs.cast (by first | rfl | simp only [List.take, List.drop, List.cons_append, List.nil_append, List.set_cons_zero, List.set_cons_succ, List.eraseIdx, u0_, u1_, u2_, u3_, u4_, u5_, u6_, u7_, u8_, u9_, u10_, u11_, u12_, u13_, u14_, p0_, q3_, q5_, q6_, q7_, q8_, q9_, q10_, q12_, q13_, q14_, cnd_t, cnd_f, Asc_t, Asc_f])⟩
      · intro D t w hD hp hcl hI rest hk
        obtain ⟨v9, v13, v16, b18, O, ht, hs⟩ := hI
        have q3_ : D 3 = false := not_yet (hcl.get 3 (by decide)) 0 2 rfl hD
        have q5_ : D 5 = false := not_yet (hcl.get 5 (by decide)) 1 3 rfl q3_
        have q6_ : D 6 = false := not_yet (hcl.get 6 (by decide)) 1 3 rfl q3_
        have q7_ : D 7 = false := not_yet (hcl.get 7 (by decide)) 0 6 rfl q6_
        have q8_ : D 8 = false := not_yet (hcl.get 8 (by decide)) 0 7 rfl q7_
        have q9_ : D 9 = false := not_yet (hcl.get 9 (by decide)) 0 7 rfl q7_
        have q10_ : D 10 = false := not_yet (hcl.get 10 (by decide)) 0 7 rfl q7_
        have q12_ : D 12 = false := not_yet (hcl.get 12 (by decide)) 0 8 rfl q8_
        have q13_ : D 13 = false := not_yet (hcl.get 13 (by decide)) 1 9 rfl q9_
        have q14_ : D 14 = false := not_yet (hcl.get 14 (by decide)) 0 10 rfl q10_
        have u0_ : upd D 2 0 = D 0 := rfl
        have u1_ : upd D 2 1 = D 1 := rfl
        have u2_ : upd D 2 2 = true := rfl
        have u3_ : upd D 2 3 = D 3 := rfl
        have u4_ : upd D 2 4 = D 4 := rfl
        have u5_ : upd D 2 5 = D 5 := rfl
        have u6_ : upd D 2 6 = D 6 := rfl
        have u7_ : upd D 2 7 = D 7 := rfl
        have u8_ : upd D 2 8 = D 8 := rfl
        have u9_ : upd D 2 9 = D 9 := rfl
        have u10_ : upd D 2 10 = D 10 := rfl
        have u11_ : upd D 2 11 = D 11 := rfl
        have u12_ : upd D 2 12 = D 12 := rfl
        have u13_ : upd D 2 13 = D 13 := rfl
        have u14_ : upd D 2 14 = D 14 := rfl
        simp only [hD, q3_, q5_, q6_, q7_, q8_, q9_, q10_, q12_, q13_, q14_, cnd_t, cnd_f, Asc_t, Asc_f] at ht hs
        subst ht
        refine s_loadA rfl rfl (es := ((encA (encI .i16)) a3)) rfl rfl (fun _ => rfl) (n := 4) (fun _ => rfl) ((fkA (n := 4) (he := (fkI .i16).len) (h1 := (fkI .i16).one)).len _) (cells_all (hs.cells 4 rfl)) ?_
        show G _ _ _ _ [_, _, _, _, _, _, _, _, _, _, _, _, _, _, _, _, _, _, _, _, _, _, _, _, _, _, _, _, _, _, _, _, _, _, _, _, _, _, _, _, _, _, _, _, _, _, _, _, _, _, _, _, _, _, _, _, _, _, _, _, _, _, _, _, _, _, _, _, _, _, _, _, _, _, _, _, _, _, _, _, _, _, _, _, _, _, _, _, _, _, _, _, _, _, _, _, _, _, _, _, _, _, _, _, _, _, _, _, _, _, _, _, _, _, _, _, _, _, _, _, _, _, _, _, _, _, _, _, _, _, _, _, _, _, _, _, _, _, _, _, _, _, _, _, _, _] _
        exact hk _ _ ⟨v9, v13, v16, b18, O, (by simp only [u0_, u1_, u2_, u3_, u4_, u5_, u6_, u7_, u8_, u9_, u10_, u11_, u12_, u13_, u14_, q3_, q5_, q6_, q7_, q8_, q9_, q10_, q12_, q13_, q14_, cnd_t, cnd_f, Asc_t, Asc_f]), hs.cast (by first | rfl | simp only [List.take, List.drop, List.cons_append, List.nil_append, List.set_cons_zero, List.set_cons_succ, List.eraseIdx, u0_, u1_, u2_, u3_, u4_, u5_, u6_, u7_, u8_, u9_, u10_, u11_, u12_, u13_, u14_, q3_, q5_, q6_, q7_, q8_, q9_, q10_, q12_, q13_, q14_, cnd_t, cnd_f, Asc_t, Asc_f])⟩
      · intro D t w hD hp hcl hI rest hk
        obtain ⟨v9, v13, v16, b18, O, ht, hs⟩ := hI
        obtain ⟨p2_, p1_, _⟩ := hp
        obtain ⟨p0_, _⟩ := hcl.get 1 (by decide) p1_
        have q5_ : D 5 = false := not_yet (hcl.get 5 (by decide)) 1 3 rfl hD
        have q6_ : D 6 = false := not_yet (hcl.get 6 (by decide)) 1 3 rfl hD
        have q7_ : D 7 = false := not_yet (hcl.get 7 (by decide)) 0 6 rfl q6_
        have q8_ : D 8 = false := not_yet (hcl.get 8 (by decide)) 0 7 rfl q7_
        have q9_ : D 9 = false := not_yet (hcl.get 9 (by decide)) 0 7 rfl q7_
        have q10_ : D 10 = false := not_yet (hcl.get 10 (by decide)) 0 7 rfl q7_
        have q12_ : D 12 = false := not_yet (hcl.get 12 (by decide)) 0 8 rfl q8_
        have q13_ : D 13 = false := not_yet (hcl.get 13 (by decide)) 1 9 rfl q9_
        have q14_ : D 14 = false := not_yet (hcl.get 14 (by decide)) 0 10 rfl q10_
        have u0_ : upd D 3 0 = D 0 := rfl
        have u1_ : upd D 3 1 = D 1 := rfl
        have u2_ : upd D 3 2 = D 2 := rfl
        have u3_ : upd D 3 3 = true := rfl
        have u4_ : upd D 3 4 = D 4 := rfl
        have u5_ : upd D 3 5 = D 5 := rfl
        have u6_ : upd D 3 6 = D 6 := rfl
        have u7_ : upd D 3 7 = D 7 := rfl
        have u8_ : upd D 3 8 = D 8 := rfl
        have u9_ : upd D 3 9 = D 9 := rfl
        have u10_ : upd D 3 10 = D 10 := rfl
        have u11_ : upd D 3 11 = D 11 := rfl
        have u12_ : upd D 3 12 = D 12 := rfl
        have u13_ : upd D 3 13 = D 13 := rfl
        have u14_ : upd D 3 14 = D 14 := rfl
        simp only [hD, p0_, p1_, p2_, q5_, q6_, q7_, q8_, q9_, q10_, q12_, q13_, q14_, cnd_t, cnd_f, Asc_t, Asc_f] at ht hs
        subst ht
        refine s_call (args := [Value.agg ((encA (encI .i16)) a3).toArray]) rfl rfl (x_call rfl (callFunc_enter Try.func22 rfl rfl) rfl) (laws_toTops.calls (a1 := a3) Hr11) ?_
        rintro _ w ⟨rfl, hs2⟩
        have hs : St _ [_, _, _, _, _] _ := hs.call hs2
        show G _ _ _ _ [_, _, _, _, _, _, _, _, _, _, _, _, _, _, _, _, _, _, _, _, _, _, _, _, _, _, _, _, _, _, _, _, _, _, _, _, _, _, _, _, _, _, _, _, _, _, _, _, _, _, _, _, _, _, _, _, _, _, _, _, _, _, _, _, _, _, _, _, _, _, _, _, _, _, _, _, _, _, _, _, _, _, _, _, _, _, _, _, _, _, _, _, _, _, _, _, _, _, _, _, _, _, _, _, _, _, _, _, _, _, _, _, _, _, _, _, _, _, _, _, _, _, _, _, _, _, _, _, _, _, _, _, _, _, _, _, _, _, _, _, _, _, _, _, _, _] _
        exact hk _ _ ⟨v9, v13, v16, b18, O, (by simp only [u0_, u1_, u2_, u3_, u4_, u5_, u6_, u7_, u8_, u9_, u10_, u11_, u12_, u13_, u14_, p0_, p1_, p2_, q5_, q6_, q7_, q8_, q9_, q10_, q12_, q13_, q14_, cnd_t, cnd_f, Asc_t, Asc_f]), hs.cast (by first | rfl | simp only [List.take, List.drop, List.cons_append, List.nil_append, List.set_cons_zero, List.set_cons_succ, List.eraseIdx, u0_, u1_, u2_, u3_, u4_, u5_, u6_, u7_, u8_, u9_, u10_, u11_, u12_, u13_, u14_, p0_, p1_, p2_, q5_, q6_, q7_, q8_, q9_, q10_, q12_, q13_, q14_, cnd_t, cnd_f, Asc_t, Asc_f])⟩
      · intro D t w hD hp hcl hI rest hk
        obtain ⟨v9, v13, v16, b18, O, ht, hs⟩ := hI
        have q5_ : D 5 = false := not_yet (hcl.get 5 (by decide)) 0 4 rfl hD
        have q6_ : D 6 = false := not_yet (hcl.get 6 (by decide)) 2 5 rfl q5_
        have q7_ : D 7 = false := not_yet (hcl.get 7 (by decide)) 0 6 rfl q6_
        have q8_ : D 8 = false := not_yet (hcl.get 8 (by decide)) 0 7 rfl q7_
        have q9_ : D 9 = false := not_yet (hcl.get 9 (by decide)) 0 7 rfl q7_
        have q10_ : D 10 = false := not_yet (hcl.get 10 (by decide)) 0 7 rfl q7_
        have q12_ : D 12 = false := not_yet (hcl.get 12 (by decide)) 0 8 rfl q8_
        have q13_ : D 13 = false := not_yet (hcl.get 13 (by decide)) 1 9 rfl q9_
        have q14_ : D 14 = false := not_yet (hcl.get 14 (by decide)) 0 10 rfl q10_
        have u0_ : upd D 4 0 = D 0 := rfl
        have u1_ : upd D 4 1 = D 1 := rfl
        have u2_ : upd D 4 2 = D 2 := rfl
        have u3_ : upd D 4 3 = D 3 := rfl
        have u4_ : upd D 4 4 = true := rfl
        have u5_ : upd D 4 5 = D 5 := rfl
        have u6_ : upd D 4 6 = D 6 := rfl
        have u7_ : upd D 4 7 = D 7 := rfl
        have u8_ : upd D 4 8 = D 8 := rfl
        have u9_ : upd D 4 9 = D 9 := rfl
        have u10_ : upd D 4 10 = D 10 := rfl
        have u11_ : upd D 4 11 = D 11 := rfl
        have u12_ : upd D 4 12 = D 12 := rfl
        have u13_ : upd D 4 13 = D 13 := rfl
        have u14_ : upd D 4 14 = D 14 := rfl
        simp only [hD, q5_, q6_, q7_, q8_, q9_, q10_, q12_, q13_, q14_, cnd_t, cnd_f, Asc_t, Asc_f] at ht hs
        subst ht
        refine g_op (v := v5) rfl rfl rfl ?_
        show G _ _ _ _ [_, _, _, _, _, _, _, _, _, _, _, _, _, _, _, _, _, _, _, _, _, _, _, _, _, _, _, _, _, _, _, _, _, _, _, _, _, _, _, _, _, _, _, _, _, _, _, _, _, _, _, _, _, _, _, _, _, _, _, _, _, _, _, _, _, _, _, _, _, _, _, _, _, _, _, _, _, _, _, _, _, _, _, _, _, _, _, _, _, _, _, _, _, _, _, _, _, _, _, _, _, _, _, _, _, _, _, _, _, _, _, _, _, _, _, _, _, _, _, _, _, _, _, _, _, _, _, _, _, _, _, _, _, _, _, _, _, _, _, _, _, _, _, _, _, _] _
        exact hk _ _ ⟨v9, v13, v16, b18, O, (by simp only [u0_, u1_, u2_, u3_, u4_, u5_, u6_, u7_, u8_, u9_, u10_, u11_, u12_, u13_, u14_, q5_, q6_, q7_, q8_, q9_, q10_, q12_, q13_, q14_, cnd_t, cnd_f, Asc_t, Asc_f]), hs.cast (by first | rfl | simp only [List.take, List.drop, List.cons_append, List.nil_append, List.set_cons_zero, List.set_cons_succ, List.eraseIdx, u0_, u1_, u2_, u3_, u4_, u5_, u6_, u7_, u8_, u9_, u10_, u11_, u12_, u13_, u14_, q5_, q6_, q7_, q8_, q9_, q10_, q12_, q13_, q14_, cnd_t, cnd_f, Asc_t, Asc_f])⟩
      · intro D t w hD hp hcl hI rest hk
        obtain ⟨v9, v13, v16, b18, O, ht, hs⟩ := hI
        obtain ⟨p4_, p3_, _⟩ := hp
        obtain ⟨p2_, p1_, _⟩ := hcl.get 3 (by decide) p3_
        obtain ⟨p0_, _⟩ := hcl.get 1 (by decide) p1_
        have q6_ : D 6 = false := not_yet (hcl.get 6 (by decide)) 2 5 rfl hD
        have q7_ : D 7 = false := not_yet (hcl.get 7 (by decide)) 0 6 rfl q6_
        have q8_ : D 8 = false := not_yet (hcl.get 8 (by decide)) 0 7 rfl q7_
        have q9_ : D 9 = false := not_yet (hcl.get 9 (by decide)) 0 7 rfl q7_
        have q10_ : D 10 = false := not_yet (hcl.get 10 (by decide)) 0 7 rfl q7_
        have q12_ : D 12 = false := not_yet (hcl.get 12 (by decide)) 0 8 rfl q8_
        have q13_ : D 13 = false := not_yet (hcl.get 13 (by decide)) 1 9 rfl q9_
        have q14_ : D 14 = false := not_yet (hcl.get 14 (by decide)) 0 10 rfl q10_
        have u0_ : upd D 5 0 = D 0 := rfl
        have u1_ : upd D 5 1 = D 1 := rfl
        have u2_ : upd D 5 2 = D 2 := rfl
        have u3_ : upd D 5 3 = D 3 := rfl
        have u4_ : upd D 5 4 = D 4 := rfl
        have u5_ : upd D 5 5 = true := rfl
        have u6_ : upd D 5 6 = D 6 := rfl
        have u7_ : upd D 5 7 = D 7 := rfl
        have u8_ : upd D 5 8 = D 8 := rfl
        have u9_ : upd D 5 9 = D 9 := rfl
        have u10_ : upd D 5 10 = D 10 := rfl
        have u11_ : upd D 5 11 = D 11 := rfl
        have u12_ : upd D 5 12 = D 12 := rfl
        have u13_ : upd D 5 13 = D 13 := rfl
        have u14_ : upd D 5 14 = D 14 := rfl
        simp only [hD, p0_, p1_, p2_, p3_, p4_, q6_, q7_, q8_, q9_, q10_, q12_, q13_, q14_, cnd_t, cnd_f, Asc_t, Asc_f] at ht hs
        subst ht
        refine s_call (args := [v5]) rfl rfl (x_call rfl (callFunc_enter Try.func18 rfl rfl) rfl) (laws_toByteS.calls (a1 := a4) (hs.rd hr2) Hr12) ?_
        intro v13 w hs2
        have hs : St _ [_, _, _, _, _, _] _ := hs.call hs2
        show G _ _ _ _ [_, _, _, _, _, _, _, _, _, _, _, _, _, _, _, _, _, _, _, _, _, _, _, _, _, _, _, _, _, _, _, _, _, _, _, _, _, _, _, _, _, _, _, _, _, _, _, _, _, _, _, _, _, _, _, _, _, _, _, _, _, _, _, _, _, _, _, _, _, _, _, _, _, _, _, _, _, _, _, _, _, _, _, _, _, _, _, _, _, _, _, _, _, _, _, _, _, _, _, _, _, _, _, _, _, _, _, _, _, _, _, _, _, _, _, _, _, _, _, _, _, _, _, _, _, _, _, _, _, _, _, _, _, _, _, _, _, _, _, _, _, _, _, _, _, _] _
        have hs := hs.fill 1 rfl
        exact hk _ _ ⟨v9, v13, v16, b18, O, (by simp only [u0_, u1_, u2_, u3_, u4_, u5_, u6_, u7_, u8_, u9_, u10_, u11_, u12_, u13_, u14_, p0_, p1_, p2_, p3_, p4_, q6_, q7_, q8_, q9_, q10_, q12_, q13_, q14_, cnd_t, cnd_f, Asc_t, Asc_f]), hs.cast (by first | rfl | simp only [List.take, List.drop, List.cons_append, List.nil_append, List.set_cons_zero, List.set_cons_succ, List.eraseIdx, u0_, u1_, u2_, u3_, u4_, u5_, u6_, u7_, u8_, u9_, u10_, u11_, u12_, u13_, u14_, p0_, p1_, p2_, p3_, p4_, q6_, q7_, q8_, q9_, q10_, q12_, q13_, q14_, cnd_t, cnd_f, Asc_t, Asc_f])⟩
      · intro D t w hD hp hcl hI rest hk
        obtain ⟨v9, v13, v16, b18, O, ht, hs⟩ := hI
        obtain ⟨p1_, p3_, p5_, _, _⟩ := hp
        obtain ⟨p4_, _, _⟩ := hcl.get 5 (by decide) p5_
        obtain ⟨p2_, _, _⟩ := hcl.get 3 (by decide) p3_
        obtain ⟨p0_, _⟩ := hcl.get 1 (by decide) p1_
        have q7_ : D 7 = false := not_yet (hcl.get 7 (by decide)) 0 6 rfl hD
        have q8_ : D 8 = false := not_yet (hcl.get 8 (by decide)) 0 7 rfl q7_
        have q9_ : D 9 = false := not_yet (hcl.get 9 (by decide)) 0 7 rfl q7_
        have q10_ : D 10 = false := not_yet (hcl.get 10 (by decide)) 0 7 rfl q7_
        have q12_ : D 12 = false := not_yet (hcl.get 12 (by decide)) 0 8 rfl q8_
        have q13_ : D 13 = false := not_yet (hcl.get 13 (by decide)) 1 9 rfl q9_
        have q14_ : D 14 = false := not_yet (hcl.get 14 (by decide)) 0 10 rfl q10_
        have u0_ : upd D 6 0 = D 0 := rfl
        have u1_ : upd D 6 1 = D 1 := rfl
        have u2_ : upd D 6 2 = D 2 := rfl
        have u3_ : upd D 6 3 = D 3 := rfl
        have u4_ : upd D 6 4 = D 4 := rfl
        have u5_ : upd D 6 5 = D 5 := rfl
        have u6_ : upd D 6 6 = true := rfl
        have u7_ : upd D 6 7 = D 7 := rfl
        have u8_ : upd D 6 8 = D 8 := rfl
        have u9_ : upd D 6 9 = D 9 := rfl
        have u10_ : upd D 6 10 = D 10 := rfl
        have u11_ : upd D 6 11 = D 11 := rfl
        have u12_ : upd D 6 12 = D 12 := rfl
        have u13_ : upd D 6 13 = D 13 := rfl
        have u14_ : upd D 6 14 = D 14 := rfl
        simp only [hD, p0_, p1_, p2_, p3_, p4_, p5_, q7_, q8_, q9_, q10_, q12_, q13_, q14_, cnd_t, cnd_f, Asc_t, Asc_f] at ht hs
        subst ht
        refine s_call (args := [v9, Value.agg ((encA (encI .i16)) r11).toArray, v13]) rfl rfl (x_call rfl (callFunc_enter Try.func37 rfl rfl) rfl) (spec_RunTurns.calls (a1 := r8) (a3 := r11) (a4 := r12) (hs.row 0 rfl) (hs.row 1 rfl) Hr15) ?_
        rintro _ w ⟨v16, rfl, hs2⟩
        have hs : St _ [_, _, _, _, _, _] _ := hs.call hs2
        show G _ _ _ _ [_, _, _, _, _, _, _, _, _, _, _, _, _, _, _, _, _, _, _, _, _, _, _, _, _, _, _, _, _, _, _, _, _, _, _, _, _, _, _, _, _, _, _, _, _, _, _, _, _, _, _, _, _, _, _, _, _, _, _, _, _, _, _, _, _, _, _, _, _, _, _, _, _, _, _, _, _, _, _, _, _, _, _, _, _, _, _, _, _, _, _, _, _, _, _, _, _, _, _, _, _, _, _, _, _, _, _, _, _, _, _, _, _, _, _, _, _, _, _, _, _, _, _, _, _, _, _, _, _, _, _, _, _, _, _, _, _, _, _, _, _, _, _, _, _, _] _
        have hs := hs.fill 2 rfl
        exact hk _ _ ⟨v9, v13, v16, b18, O, (by simp only [u0_, u1_, u2_, u3_, u4_, u5_, u6_, u7_, u8_, u9_, u10_, u11_, u12_, u13_, u14_, p0_, p1_, p2_, p3_, p4_, p5_, q7_, q8_, q9_, q10_, q12_, q13_, q14_, cnd_t, cnd_f, Asc_t, Asc_f]), hs.cast (by first | rfl | simp only [List.take, List.drop, List.cons_append, List.nil_append, List.set_cons_zero, List.set_cons_succ, List.eraseIdx, u0_, u1_, u2_, u3_, u4_, u5_, u6_, u7_, u8_, u9_, u10_, u11_, u12_, u13_, u14_, p0_, p1_, p2_, p3_, p4_, p5_, q7_, q8_, q9_, q10_, q12_, q13_, q14_, cnd_t, cnd_f, Asc_t, Asc_f])⟩
      · intro D t w hD hp hcl hI rest hk
        obtain ⟨v9, v13, v16, b18, O, ht, hs⟩ := hI
        obtain ⟨p6_, _⟩ := hp
        obtain ⟨p1_, p3_, p5_, _, _⟩ := hcl.get 6 (by decide) p6_
        obtain ⟨p4_, _, _⟩ := hcl.get 5 (by decide) p5_
        obtain ⟨p2_, _, _⟩ := hcl.get 3 (by decide) p3_
        obtain ⟨p0_, _⟩ := hcl.get 1 (by decide) p1_
        have q8_ : D 8 = false := not_yet (hcl.get 8 (by decide)) 0 7 rfl hD
        have q9_ : D 9 = false := not_yet (hcl.get 9 (by decide)) 0 7 rfl hD
        have q10_ : D 10 = false := not_yet (hcl.get 10 (by decide)) 0 7 rfl hD
        have q12_ : D 12 = false := not_yet (hcl.get 12 (by decide)) 0 8 rfl q8_
        have q13_ : D 13 = false := not_yet (hcl.get 13 (by decide)) 1 9 rfl q9_
        have q14_ : D 14 = false := not_yet (hcl.get 14 (by decide)) 0 10 rfl q10_
        have u0_ : upd D 7 0 = D 0 := rfl
        have u1_ : upd D 7 1 = D 1 := rfl
        have u2_ : upd D 7 2 = D 2 := rfl
        have u3_ : upd D 7 3 = D 3 := rfl
        have u4_ : upd D 7 4 = D 4 := rfl
        have u5_ : upd D 7 5 = D 5 := rfl
        have u6_ : upd D 7 6 = D 6 := rfl
        have u7_ : upd D 7 7 = true := rfl
        have u8_ : upd D 7 8 = D 8 := rfl
        have u9_ : upd D 7 9 = D 9 := rfl
        have u10_ : upd D 7 10 = D 10 := rfl
        have u11_ : upd D 7 11 = D 11 := rfl
        have u12_ : upd D 7 12 = D 12 := rfl
        have u13_ : upd D 7 13 = D 13 := rfl
        have u14_ : upd D 7 14 = D 14 := rfl
        simp only [hD, p0_, p1_, p2_, p3_, p4_, p5_, p6_, q8_, q9_, q10_, q12_, q13_, q14_, cnd_t, cnd_f, Asc_t, Asc_f] at ht hs
        subst ht
        refine g_op (v := Value.tuple #[v16, Value.agg ((encA (encI .i16)) r15.2.1).toArray, Value.int .i64 r15.2.2]) rfl rfl rfl ?_
        show G _ _ _ _ [_, _, _, _, _, _, _, _, _, _, _, _, _, _, _, _, _, _, _, _, _, _, _, _, _, _, _, _, _, _, _, _, _, _, _, _, _, _, _, _, _, _, _, _, _, _, _, _, _, _, _, _, _, _, _, _, _, _, _, _, _, _, _, _, _, _, _, _, _, _, _, _, _, _, _, _, _, _, _, _, _, _, _, _, _, _, _, _, _, _, _, _, _, _, _, _, _, _, _, _, _, _, _, _, _, _, _, _, _, _, _, _, _, _, _, _, _, _, _, _, _, _, _, _, _, _, _, _, _, _, _, _, _, _, _, _, _, _, _, _, _, _, _, _, _, _] _
        exact hk _ _ ⟨v9, v13, v16, b18, O, (by simp only [u0_, u1_, u2_, u3_, u4_, u5_, u6_, u7_, u8_, u9_, u10_, u11_, u12_, u13_, u14_, p0_, p1_, p2_, p3_, p4_, p5_, p6_, q8_, q9_, q10_, q12_, q13_, q14_, cnd_t, cnd_f, Asc_t, Asc_f]), hs.cast (by first | rfl | simp only [List.take, List.drop, List.cons_append, List.nil_append, List.set_cons_zero, List.set_cons_succ, List.eraseIdx, u0_, u1_, u2_, u3_, u4_, u5_, u6_, u7_, u8_, u9_, u10_, u11_, u12_, u13_, u14_, p0_, p1_, p2_, p3_, p4_, p5_, p6_, q8_, q9_, q10_, q12_, q13_, q14_, cnd_t, cnd_f, Asc_t, Asc_f])⟩
      · intro D t w hD hp hcl hI rest hk
        obtain ⟨v9, v13, v16, b18, O, ht, hs⟩ := hI
        obtain ⟨p7_, _⟩ := hp
        obtain ⟨p6_, _⟩ := hcl.get 7 (by decide) p7_
        obtain ⟨p1_, p3_, p5_, _, _⟩ := hcl.get 6 (by decide) p6_
        obtain ⟨p4_, _, _⟩ := hcl.get 5 (by decide) p5_
        obtain ⟨p2_, _, _⟩ := hcl.get 3 (by decide) p3_
        obtain ⟨p0_, _⟩ := hcl.get 1 (by decide) p1_
        have q12_ : D 12 = false := not_yet (hcl.get 12 (by decide)) 0 8 rfl hD
        have q13_ : D 13 = false := not_yet (hcl.get 13 (by decide)) 2 12 rfl q12_
        have q14_ : D 14 = false := not_yet (hcl.get 14 (by decide)) 1 13 rfl q13_
        have u0_ : upd D 8 0 = D 0 := rfl
        have u1_ : upd D 8 1 = D 1 := rfl
        have u2_ : upd D 8 2 = D 2 := rfl
        have u3_ : upd D 8 3 = D 3 := rfl
        have u4_ : upd D 8 4 = D 4 := rfl
        have u5_ : upd D 8 5 = D 5 := rfl
        have u6_ : upd D 8 6 = D 6 := rfl
        have u7_ : upd D 8 7 = D 7 := rfl
        have u8_ : upd D 8 8 = true := rfl
        have u9_ : upd D 8 9 = D 9 := rfl
        have u10_ : upd D 8 10 = D 10 := rfl
        have u11_ : upd D 8 11 = D 11 := rfl
        have u12_ : upd D 8 12 = D 12 := rfl
        have u13_ : upd D 8 13 = D 13 := rfl
        have u14_ : upd D 8 14 = D 14 := rfl
        simp only [hD, p0_, p1_, p2_, p3_, p4_, p5_, p6_, p7_, q12_, q13_, q14_, cnd_t, cnd_f, Asc_t, Asc_f] at ht hs
        subst ht
        refine g_op (v := v16) rfl rfl rfl ?_
        show G _ _ _ _ [_, _, _, _, _, _, _, _, _, _, _, _, _, _, _, _, _, _, _, _, _, _, _, _, _, _, _, _, _, _, _, _, _, _, _, _, _, _, _, _, _, _, _, _, _, _, _, _, _, _, _, _, _, _, _, _, _, _, _, _, _, _, _, _, _, _, _, _, _, _, _, _, _, _, _, _, _, _, _, _, _, _, _, _, _, _, _, _, _, _, _, _, _, _, _, _, _, _, _, _, _, _, _, _, _, _, _, _, _, _, _, _, _, _, _, _, _, _, _, _, _, _, _, _, _, _, _, _, _, _, _, _, _, _, _, _, _, _, _, _, _, _, _, _, _, _] _
        exact hk _ _ ⟨v9, v13, v16, b18, O, (by simp only [u0_, u1_, u2_, u3_, u4_, u5_, u6_, u7_, u8_, u9_, u10_, u11_, u12_, u13_, u14_, p0_, p1_, p2_, p3_, p4_, p5_, p6_, p7_, q12_, q13_, q14_, cnd_t, cnd_f, Asc_t, Asc_f]), hs.cast (by first | rfl | simp only [List.take, List.drop, List.cons_append, List.nil_append, List.set_cons_zero, List.set_cons_succ, List.eraseIdx, u0_, u1_, u2_, u3_, u4_, u5_, u6_, u7_, u8_, u9_, u10_, u11_, u12_, u13_, u14_, p0_, p1_, p2_, p3_, p4_, p5_, p6_, p7_, q12_, q13_, q14_, cnd_t, cnd_f, Asc_t, Asc_f])⟩
      · intro D t w hD hp hcl hI rest hk
        obtain ⟨v9, v13, v16, b18, O, ht, hs⟩ := hI
        obtain ⟨p7_, _⟩ := hp
        obtain ⟨p6_, _⟩ := hcl.get 7 (by decide) p7_
        obtain ⟨p1_, p3_, p5_, _, _⟩ := hcl.get 6 (by decide) p6_
        obtain ⟨p4_, _, _⟩ := hcl.get 5 (by decide) p5_
        obtain ⟨p2_, _, _⟩ := hcl.get 3 (by decide) p3_
        obtain ⟨p0_, _⟩ := hcl.get 1 (by decide) p1_
        have q13_ : D 13 = false := not_yet (hcl.get 13 (by decide)) 1 9 rfl hD
        have q14_ : D 14 = false := not_yet (hcl.get 14 (by decide)) 1 13 rfl q13_
        have u0_ : upd D 9 0 = D 0 := rfl
        have u1_ : upd D 9 1 = D 1 := rfl
        have u2_ : upd D 9 2 = D 2 := rfl
        have u3_ : upd D 9 3 = D 3 := rfl
        have u4_ : upd D 9 4 = D 4 := rfl
        have u5_ : upd D 9 5 = D 5 := rfl
        have u6_ : upd D 9 6 = D 6 := rfl
        have u7_ : upd D 9 7 = D 7 := rfl
        have u8_ : upd D 9 8 = D 8 := rfl
        have u9_ : upd D 9 9 = true := rfl
        have u10_ : upd D 9 10 = D 10 := rfl
        have u11_ : upd D 9 11 = D 11 := rfl
        have u12_ : upd D 9 12 = D 12 := rfl
        have u13_ : upd D 9 13 = D 13 := rfl
        have u14_ : upd D 9 14 = D 14 := rfl
        simp only [hD, p0_, p1_, p2_, p3_, p4_, p5_, p6_, p7_, q13_, q14_, cnd_t, cnd_f, Asc_t, Asc_f] at ht hs
        subst ht
        refine g_op (v := Value.agg ((encA (encI .i16)) r15.2.1).toArray) rfl rfl rfl ?_
        show G _ _ _ _ [_, _, _, _, _, _, _, _, _, _, _, _, _, _, _, _, _, _, _, _, _, _, _, _, _, _, _, _, _, _, _, _, _, _, _, _, _, _, _, _, _, _, _, _, _, _, _, _, _, _, _, _, _, _, _, _, _, _, _, _, _, _, _, _, _, _, _, _, _, _, _, _, _, _, _, _, _, _, _, _, _, _, _, _, _, _, _, _, _, _, _, _, _, _, _, _, _, _, _, _, _, _, _, _, _, _, _, _, _, _, _, _, _, _, _, _, _, _, _, _, _, _, _, _, _, _, _, _, _, _, _, _, _, _, _, _, _, _, _, _, _, _, _, _, _, _] _
        exact hk _ _ ⟨v9, v13, v16, b18, O, (by simp only [u0_, u1_, u2_, u3_, u4_, u5_, u6_, u7_, u8_, u9_, u10_, u11_, u12_, u13_, u14_, p0_, p1_, p2_, p3_, p4_, p5_, p6_, p7_, q13_, q14_, cnd_t, cnd_f, Asc_t, Asc_f]), hs.cast (by first | rfl | simp only [List.take, List.drop, List.cons_append, List.nil_append, List.set_cons_zero, List.set_cons_succ, List.eraseIdx, u0_, u1_, u2_, u3_, u4_, u5_, u6_, u7_, u8_, u9_, u10_, u11_, u12_, u13_, u14_, p0_, p1_, p2_, p3_, p4_, p5_, p6_, p7_, q13_, q14_, cnd_t, cnd_f, Asc_t, Asc_f])⟩
      · intro D t w hD hp hcl hI rest hk
        obtain ⟨v9, v13, v16, b18, O, ht, hs⟩ := hI
        obtain ⟨p7_, _⟩ := hp
        obtain ⟨p6_, _⟩ := hcl.get 7 (by decide) p7_
        obtain ⟨p1_, p3_, p5_, _, _⟩ := hcl.get 6 (by decide) p6_
        obtain ⟨p4_, _, _⟩ := hcl.get 5 (by decide) p5_
        obtain ⟨p2_, _, _⟩ := hcl.get 3 (by decide) p3_
        obtain ⟨p0_, _⟩ := hcl.get 1 (by decide) p1_
        have q14_ : D 14 = false := not_yet (hcl.get 14 (by decide)) 0 10 rfl hD
        have u0_ : upd D 10 0 = D 0 := rfl
        have u1_ : upd D 10 1 = D 1 := rfl
        have u2_ : upd D 10 2 = D 2 := rfl
        have u3_ : upd D 10 3 = D 3 := rfl
        have u4_ : upd D 10 4 = D 4 := rfl
        have u5_ : upd D 10 5 = D 5 := rfl
        have u6_ : upd D 10 6 = D 6 := rfl
        have u7_ : upd D 10 7 = D 7 := rfl
        have u8_ : upd D 10 8 = D 8 := rfl
        have u9_ : upd D 10 9 = D 9 := rfl
        have u10_ : upd D 10 10 = true := rfl
        have u11_ : upd D 10 11 = D 11 := rfl
        have u12_ : upd D 10 12 = D 12 := rfl
        have u13_ : upd D 10 13 = D 13 := rfl
        have u14_ : upd D 10 14 = D 14 := rfl
        simp only [hD, p0_, p1_, p2_, p3_, p4_, p5_, p6_, p7_, q14_, cnd_t, cnd_f, Asc_t, Asc_f] at ht hs
        subst ht
        refine g_op (v := Value.int .i64 r15.2.2) rfl rfl rfl ?_
        show G _ _ _ _ [_, _, _, _, _, _, _, _, _, _, _, _, _, _, _, _, _, _, _, _, _, _, _, _, _, _, _, _, _, _, _, _, _, _, _, _, _, _, _, _, _, _, _, _, _, _, _, _, _, _, _, _, _, _, _, _, _, _, _, _, _, _, _, _, _, _, _, _, _, _, _, _, _, _, _, _, _, _, _, _, _, _, _, _, _, _, _, _, _, _, _, _, _, _, _, _, _, _, _, _, _, _, _, _, _, _, _, _, _, _, _, _, _, _, _, _, _, _, _, _, _, _, _, _, _, _, _, _, _, _, _, _, _, _, _, _, _, _, _, _, _, _, _, _, _, _] _
        exact hk _ _ ⟨v9, v13, v16, b18, O, (by simp only [u0_, u1_, u2_, u3_, u4_, u5_, u6_, u7_, u8_, u9_, u10_, u11_, u12_, u13_, u14_, p0_, p1_, p2_, p3_, p4_, p5_, p6_, p7_, q14_, cnd_t, cnd_f, Asc_t, Asc_f]), hs.cast (by first | rfl | simp only [List.take, List.drop, List.cons_append, List.nil_append, List.set_cons_zero, List.set_cons_succ, List.eraseIdx, u0_, u1_, u2_, u3_, u4_, u5_, u6_, u7_, u8_, u9_, u10_, u11_, u12_, u13_, u14_, p0_, p1_, p2_, p3_, p4_, p5_, p6_, p7_, q14_, cnd_t, cnd_f, Asc_t, Asc_f])⟩
      · intro D t w hD hp hcl hI rest hk
        obtain ⟨v9, v13, v16, b18, O, ht, hs⟩ := hI
        have q12_ : D 12 = false := not_yet (hcl.get 12 (by decide)) 11 11 rfl hD
        have q13_ : D 13 = false := not_yet (hcl.get 13 (by decide)) 0 11 rfl hD
        have q14_ : D 14 = false := not_yet (hcl.get 14 (by decide)) 1 13 rfl q13_
        have u0_ : upd D 11 0 = D 0 := rfl
        have u1_ : upd D 11 1 = D 1 := rfl
        have u2_ : upd D 11 2 = D 2 := rfl
        have u3_ : upd D 11 3 = D 3 := rfl
        have u4_ : upd D 11 4 = D 4 := rfl
        have u5_ : upd D 11 5 = D 5 := rfl
        have u6_ : upd D 11 6 = D 6 := rfl
        have u7_ : upd D 11 7 = D 7 := rfl
        have u8_ : upd D 11 8 = D 8 := rfl
        have u9_ : upd D 11 9 = D 9 := rfl
        have u10_ : upd D 11 10 = D 10 := rfl
        have u11_ : upd D 11 11 = true := rfl
        have u12_ : upd D 11 12 = D 12 := rfl
        have u13_ : upd D 11 13 = D 13 := rfl
        have u14_ : upd D 11 14 = D 14 := rfl
        simp only [hD, q12_, q13_, q14_, cnd_t, cnd_f, Asc_t, Asc_f] at ht hs
        subst ht
        refine s_alloc hs rfl rfl (z := (Value.agg #[Value.int .i16 0, Value.int .i16 0, Value.int .i16 0, Value.int .i16 0])) (cs := ((encA (encI .i16)) (Ar.rep 4 0))) rfl (fun _ => rfl) rfl ?_
        intro b18 w hs
        show G _ _ _ _ [_, _, _, _, _, _, _, _, _, _, _, _, _, _, _, _, _, _, _, _, _, _, _, _, _, _, _, _, _, _, _, _, _, _, _, _, _, _, _, _, _, _, _, _, _, _, _, _, _, _, _, _, _, _, _, _, _, _, _, _, _, _, _, _, _, _, _, _, _, _, _, _, _, _, _, _, _, _, _, _, _, _, _, _, _, _, _, _, _, _, _, _, _, _, _, _, _, _, _, _, _, _, _, _, _, _, _, _, _, _, _, _, _, _, _, _, _, _, _, _, _, _, _, _, _, _, _, _, _, _, _, _, _, _, _, _, _, _, _, _, _, _, _, _, _, _] _
        have hs := hs.fill 3 rfl
        exact hk _ _ ⟨v9, v13, v16, b18, O, (by simp only [u0_, u1_, u2_, u3_, u4_, u5_, u6_, u7_, u8_, u9_, u10_, u11_, u12_, u13_, u14_, q12_, q13_, q14_, cnd_t, cnd_f, Asc_t, Asc_f]), hs.cast (by first | rfl | simp only [List.take, List.drop, List.cons_append, List.nil_append, List.set_cons_zero, List.set_cons_succ, List.eraseIdx, u0_, u1_, u2_, u3_, u4_, u5_, u6_, u7_, u8_, u9_, u10_, u11_, u12_, u13_, u14_, q12_, q13_, q14_, cnd_t, cnd_f, Asc_t, Asc_f])⟩
      · intro D t w hD hp hcl hI rest hk
        obtain ⟨v9, v13, v16, b18, O, ht, hs⟩ := hI
        obtain ⟨p8_, p6_, p0_, p1_, p2_, p3_, p4_, p5_, _, p7_, _, p11_, _⟩ := hp
        have q13_ : D 13 = false := not_yet (hcl.get 13 (by decide)) 2 12 rfl hD
        have q14_ : D 14 = false := not_yet (hcl.get 14 (by decide)) 1 13 rfl q13_
        have u0_ : upd D 12 0 = D 0 := rfl
        have u1_ : upd D 12 1 = D 1 := rfl
        have u2_ : upd D 12 2 = D 2 := rfl
        have u3_ : upd D 12 3 = D 3 := rfl
        have u4_ : upd D 12 4 = D 4 := rfl
        have u5_ : upd D 12 5 = D 5 := rfl
        have u6_ : upd D 12 6 = D 6 := rfl
        have u7_ : upd D 12 7 = D 7 := rfl
        have u8_ : upd D 12 8 = D 8 := rfl
        have u9_ : upd D 12 9 = D 9 := rfl
        have u10_ : upd D 12 10 = D 10 := rfl
        have u11_ : upd D 12 11 = D 11 := rfl
        have u12_ : upd D 12 12 = true := rfl
        have u13_ : upd D 12 13 = D 13 := rfl
        have u14_ : upd D 12 14 = D 14 := rfl
        simp only [hD, p0_, p1_, p2_, p3_, p4_, p5_, p6_, p7_, p8_, p11_, q13_, q14_, cnd_t, cnd_f, Asc_t, Asc_f] at ht hs
        subst ht
        refine g_op (v := v16) rfl rfl rfl ?_
        show G _ _ _ _ [_, _, _, _, _, _, _, _, _, _, _, _, _, _, _, _, _, _, _, _, _, _, _, _, _, _, _, _, _, _, _, _, _, _, _, _, _, _, _, _, _, _, _, _, _, _, _, _, _, _, _, _, _, _, _, _, _, _, _, _, _, _, _, _, _, _, _, _, _, _, _, _, _, _, _, _, _, _, _, _, _, _, _, _, _, _, _, _, _, _, _, _, _, _, _, _, _, _, _, _, _, _, _, _, _, _, _, _, _, _, _, _, _, _, _, _, _, _, _, _, _, _, _, _, _, _, _, _, _, _, _, _, _, _, _, _, _, _, _, _, _, _, _, _, _, _] _
        exact hk _ _ ⟨v9, v13, v16, b18, O, (by simp only [u0_, u1_, u2_, u3_, u4_, u5_, u6_, u7_, u8_, u9_, u10_, u11_, u12_, u13_, u14_, p0_, p1_, p2_, p3_, p4_, p5_, p6_, p7_, p8_, p11_, q13_, q14_, cnd_t, cnd_f, Asc_t, Asc_f]), hs.cast (by first | rfl | simp only [List.take, List.drop, List.cons_append, List.nil_append, List.set_cons_zero, List.set_cons_succ, List.eraseIdx, u0_, u1_, u2_, u3_, u4_, u5_, u6_, u7_, u8_, u9_, u10_, u11_, u12_, u13_, u14_, p0_, p1_, p2_, p3_, p4_, p5_, p6_, p7_, p8_, p11_, q13_, q14_, cnd_t, cnd_f, Asc_t, Asc_f])⟩
      · intro D t w hD hp hcl hI rest hk
        obtain ⟨v9, v13, v16, b18, O, ht, hs⟩ := hI
        obtain ⟨p11_, p9_, p12_, p0_, p1_, p2_, p3_, p4_, p5_, p6_, p7_, p8_, _, _, _, _⟩ := hp
        have q14_ : D 14 = false := not_yet (hcl.get 14 (by decide)) 1 13 rfl hD
        have u0_ : upd D 13 0 = D 0 := rfl
        have u1_ : upd D 13 1 = D 1 := rfl
        have u2_ : upd D 13 2 = D 2 := rfl
        have u3_ : upd D 13 3 = D 3 := rfl
        have u4_ : upd D 13 4 = D 4 := rfl
        have u5_ : upd D 13 5 = D 5 := rfl
        have u6_ : upd D 13 6 = D 6 := rfl
        have u7_ : upd D 13 7 = D 7 := rfl
        have u8_ : upd D 13 8 = D 8 := rfl
        have u9_ : upd D 13 9 = D 9 := rfl
        have u10_ : upd D 13 10 = D 10 := rfl
        have u11_ : upd D 13 11 = D 11 := rfl
        have u12_ : upd D 13 12 = D 12 := rfl
        have u13_ : upd D 13 13 = true := rfl
        have u14_ : upd D 13 14 = D 14 := rfl
        simp only [hD, p0_, p1_, p2_, p3_, p4_, p5_, p6_, p7_, p8_, p9_, p11_, p12_, q14_, cnd_t, cnd_f, Asc_t, Asc_f] at ht hs
        subst ht
        have hs := hs.pull 3 rfl
        have hs : St _ [_, _, _, _, _] _ := hs
        refine s_storeAll (n := 4) hs ((fkA (n := 4) (he := (fkI .i16).len) (h1 := (fkI .i16).one)).len _) rfl rfl (vs := ((encA (encI .i16)) r15.2.1)) rfl rfl rfl (fun _ => rfl) ((fkA (n := 4) (he := (fkI .i16).len) (h1 := (fkI .i16).one)).len _) ((fkA (n := 4) (he := (fkI .i16).len) (h1 := (fkI .i16).one)).one _) ?_
        intro w hs
        show G _ _ _ _ [_, _, _, _, _, _, _, _, _, _, _, _, _, _, _, _, _, _, _, _, _, _, _, _, _, _, _, _, _, _, _, _, _, _, _, _, _, _, _, _, _, _, _, _, _, _, _, _, _, _, _, _, _, _, _, _, _, _, _, _, _, _, _, _, _, _, _, _, _, _, _, _, _, _, _, _, _, _, _, _, _, _, _, _, _, _, _, _, _, _, _, _, _, _, _, _, _, _, _, _, _, _, _, _, _, _, _, _, _, _, _, _, _, _, _, _, _, _, _, _, _, _, _, _, _, _, _, _, _, _, _, _, _, _, _, _, _, _, _, _, _, _, _, _, _, _] _
        have hs := hs.push 3 (by simp)
        exact hk _ _ ⟨v9, v13, v16, b18, O, (by simp only [u0_, u1_, u2_, u3_, u4_, u5_, u6_, u7_, u8_, u9_, u10_, u11_, u12_, u13_, u14_, p0_, p1_, p2_, p3_, p4_, p5_, p6_, p7_, p8_, p9_, p11_, p12_, q14_, cnd_t, cnd_f, Asc_t, Asc_f]), hs.cast (by first | rfl | simp only [List.take, List.drop, List.cons_append, List.nil_append, List.set_cons_zero, List.set_cons_succ, List.eraseIdx, u0_, u1_, u2_, u3_, u4_, u5_, u6_, u7_, u8_, u9_, u10_, u11_, u12_, u13_, u14_, p0_, p1_, p2_, p3_, p4_, p5_, p6_, p7_, p8_, p9_, p11_, p12_, q14_, cnd_t, cnd_f, Asc_t, Asc_f])⟩
      · intro D t w hD hp hcl hI rest hk
        obtain ⟨v9, v13, v16, b18, O, ht, hs⟩ := hI
        obtain ⟨p10_, p13_, p0_, p1_, p2_, p3_, p4_, p5_, p6_, p7_, p8_, p9_, _, p11_, p12_, _, _⟩ := hp
        have u0_ : upd D 14 0 = D 0 := rfl
        have u1_ : upd D 14 1 = D 1 := rfl
        have u2_ : upd D 14 2 = D 2 := rfl
        have u3_ : upd D 14 3 = D 3 := rfl
        have u4_ : upd D 14 4 = D 4 := rfl
        have u5_ : upd D 14 5 = D 5 := rfl
        have u6_ : upd D 14 6 = D 6 := rfl
        have u7_ : upd D 14 7 = D 7 := rfl
        have u8_ : upd D 14 8 = D 8 := rfl
        have u9_ : upd D 14 9 = D 9 := rfl
        have u10_ : upd D 14 10 = D 10 := rfl
        have u11_ : upd D 14 11 = D 11 := rfl
        have u12_ : upd D 14 12 = D 12 := rfl
        have u13_ : upd D 14 13 = D 13 := rfl
        have u14_ : upd D 14 14 = true := rfl
        simp only [hD, p0_, p1_, p2_, p3_, p4_, p5_, p6_, p7_, p8_, p9_, p10_, p11_, p12_, p13_, cnd_t, cnd_f, Asc_t, Asc_f] at ht hs
        subst ht
        refine g_op (v := Value.int .i64 r15.2.2) rfl rfl rfl ?_
        show G _ _ _ _ [_, _, _, _, _, _, _, _, _, _, _, _, _, _, _, _, _, _, _, _, _, _, _, _, _, _, _, _, _, _, _, _, _, _, _, _, _, _, _, _, _, _, _, _, _, _, _, _, _, _, _, _, _, _, _, _, _, _, _, _, _, _, _, _, _, _, _, _, _, _, _, _, _, _, _, _, _, _, _, _, _, _, _, _, _, _, _, _, _, _, _, _, _, _, _, _, _, _, _, _, _, _, _, _, _, _, _, _, _, _, _, _, _, _, _, _, _, _, _, _, _, _, _, _, _, _, _, _, _, _, _, _, _, _, _, _, _, _, _, _, _, _, _, _, _, _] _
        exact hk _ _ ⟨v9, v13, v16, b18, O, (by simp only [u0_, u1_, u2_, u3_, u4_, u5_, u6_, u7_, u8_, u9_, u10_, u11_, u12_, u13_, u14_, p0_, p1_, p2_, p3_, p4_, p5_, p6_, p7_, p8_, p9_, p10_, p11_, p12_, p13_, cnd_t, cnd_f, Asc_t, Asc_f]), hs.cast (by first | rfl | simp only [List.take, List.drop, List.cons_append, List.nil_append, List.set_cons_zero, List.set_cons_succ, List.eraseIdx, u0_, u1_, u2_, u3_, u4_, u5_, u6_, u7_, u8_, u9_, u10_, u11_, u12_, u13_, u14_, p0_, p1_, p2_, p3_, p4_, p5_, p6_, p7_, p8_, p9_, p10_, p11_, p12_, p13_, cnd_t, cnd_f, Asc_t, Asc_f])⟩
      · intro D t w hall hI
        obtain ⟨v9, v13, v16, b18, O, ht, hs⟩ := hI
        have p0_ := hall 0 (by decide)
        have p1_ := hall 1 (by decide)
        have p2_ := hall 2 (by decide)
        have p3_ := hall 3 (by decide)
        have p4_ := hall 4 (by decide)
        have p5_ := hall 5 (by decide)
        have p6_ := hall 6 (by decide)
        have p7_ := hall 7 (by decide)
        have p8_ := hall 8 (by decide)
        have p9_ := hall 9 (by decide)
        have p10_ := hall 10 (by decide)
        have p11_ := hall 11 (by decide)
        have p12_ := hall 12 (by decide)
        have p13_ := hall 13 (by decide)
        have p14_ := hall 14 (by decide)
        simp only [p0_, p1_, p2_, p3_, p4_, p5_, p6_, p7_, p8_, p9_, p10_, p11_, p12_, p13_, p14_, cnd_t, cnd_f, Asc_t, Asc_f] at ht hs
        subst ht
        refine g_seq ?_
        refine g_region ?_
        show G _ _ _ (.inRegion _ [0, 1, 2] :: _) _ _
        refine g_op (v := v2) rfl rfl rfl ?_
        show G _ _ _ _ [_, _, _, _, _, _, _, _, _, _, _, _, _, _, _, _, _, _, _, _, _, _, _, _, _, _, _, _, _, _, _, _, _, _, _, _, _, _, _, _, _, _, _, _, _, _, _, _, _, _, _, _, _, _, _, _, _, _, _, _, _, _, _, _, _, _, _, _, _, _, _, _, _, _, _, _, _, _, _, _, _, _, _, _, _, _, _, _, _, _, _, _, _, _, _, _, _, _, _, _, _, _, _, _, _, _, _, _, _, _, _, _, _, _, _, _, _, _, _, _, _, _, _, _, _, _, _, _, _, _, _, _, _, _, _, _, _, _, _, _, _, _, _, _, _, _] _
        obtain ⟨r24, Hr24, H⟩ := bind_get H
        refine s_call (args := [v2]) rfl rfl (x_call rfl (callFunc_enter Try.func14 rfl rfl) rfl) (laws_toGlasses.calls (a1 := a1) (hs.rd hr0) Hr24) ?_
        intro v25 w hs2
        have hs : St _ [_, _, _, _, _, _] _ := hs.call hs2
        show G _ _ _ _ [_, _, _, _, _, _, _, _, _, _, _, _, _, _, _, _, _, _, _, _, _, _, _, _, _, _, _, _, _, _, _, _, _, _, _, _, _, _, _, _, _, _, _, _, _, _, _, _, _, _, _, _, _, _, _, _, _, _, _, _, _, _, _, _, _, _, _, _, _, _, _, _, _, _, _, _, _, _, _, _, _, _, _, _, _, _, _, _, _, _, _, _, _, _, _, _, _, _, _, _, _, _, _, _, _, _, _, _, _, _, _, _, _, _, _, _, _, _, _, _, _, _, _, _, _, _, _, _, _, _, _, _, _, _, _, _, _, _, _, _, _, _, _, _, _, _] _
        refine g_op (v := v25) rfl rfl rfl ?_
        show G _ _ _ _ [_, _, _, _, _, _, _, _, _, _, _, _, _, _, _, _, _, _, _, _, _, _, _, _, _, _, _, _, _, _, _, _, _, _, _, _, _, _, _, _, _, _, _, _, _, _, _, _, _, _, _, _, _, _, _, _, _, _, _, _, _, _, _, _, _, _, _, _, _, _, _, _, _, _, _, _, _, _, _, _, _, _, _, _, _, _, _, _, _, _, _, _, _, _, _, _, _, _, _, _, _, _, _, _, _, _, _, _, _, _, _, _, _, _, _, _, _, _, _, _, _, _, _, _, _, _, _, _, _, _, _, _, _, _, _, _, _, _, _, _, _, _, _, _, _, _] _
        refine g_ops_nil ?_
        refine g_seq ?_
        refine g_region ?_
        show G _ _ _ (.inRegion _ [0, 1, 2] :: _) _ _
        refine g_op (v := v5) rfl rfl rfl ?_
        show G _ _ _ _ [_, _, _, _, _, _, _, _, _, _, _, _, _, _, _, _, _, _, _, _, _, _, _, _, _, _, _, _, _, _, _, _, _, _, _, _, _, _, _, _, _, _, _, _, _, _, _, _, _, _, _, _, _, _, _, _, _, _, _, _, _, _, _, _, _, _, _, _, _, _, _, _, _, _, _, _, _, _, _, _, _, _, _, _, _, _, _, _, _, _, _, _, _, _, _, _, _, _, _, _, _, _, _, _, _, _, _, _, _, _, _, _, _, _, _, _, _, _, _, _, _, _, _, _, _, _, _, _, _, _, _, _, _, _, _, _, _, _, _, _, _, _, _, _, _, _] _
        obtain ⟨r27, Hr27, H⟩ := bind_get H
        refine s_call (args := [v5]) rfl rfl (x_call rfl (callFunc_enter Try.func18 rfl rfl) rfl) (laws_toByteS.calls (a1 := a4) (hs.rd hr2) Hr27) ?_
        intro v28 w hs2
        have hs : St _ [_, _, _, _, _, _, _] _ := hs.call hs2
        show G _ _ _ _ [_, _, _, _, _, _, _, _, _, _, _, _, _, _, _, _, _, _, _, _, _, _, _, _, _, _, _, _, _, _, _, _, _, _, _, _, _, _, _, _, _, _, _, _, _, _, _, _, _, _, _, _, _, _, _, _, _, _, _, _, _, _, _, _, _, _, _, _, _, _, _, _, _, _, _, _, _, _, _, _, _, _, _, _, _, _, _, _, _, _, _, _, _, _, _, _, _, _, _, _, _, _, _, _, _, _, _, _, _, _, _, _, _, _, _, _, _, _, _, _, _, _, _, _, _, _, _, _, _, _, _, _, _, _, _, _, _, _, _, _, _, _, _, _, _, _] _
        refine g_op (v := v28) rfl rfl rfl ?_
        show G _ _ _ _ [_, _, _, _, _, _, _, _, _, _, _, _, _, _, _, _, _, _, _, _, _, _, _, _, _, _, _, _, _, _, _, _, _, _, _, _, _, _, _, _, _, _, _, _, _, _, _, _, _, _, _, _, _, _, _, _, _, _, _, _, _, _, _, _, _, _, _, _, _, _, _, _, _, _, _, _, _, _, _, _, _, _, _, _, _, _, _, _, _, _, _, _, _, _, _, _, _, _, _, _, _, _, _, _, _, _, _, _, _, _, _, _, _, _, _, _, _, _, _, _, _, _, _, _, _, _, _, _, _, _, _, _, _, _, _, _, _, _, _, _, _, _, _, _, _, _] _
        refine g_ops_nil ?_
        refine g_seq ?_
        refine g_region ?_
        show G _ _ _ (.inRegion _ [0, 1, 2, 3, 4, 5, 6, 7, 8, 9, 10, 11, 12] :: _) _ _
        refine g_op (v := v25) rfl rfl rfl ?_
        show G _ _ _ _ [_, _, _, _, _, _, _, _, _, _, _, _, _, _, _, _, _, _, _, _, _, _, _, _, _, _, _, _, _, _, _, _, _, _, _, _, _, _, _, _, _, _, _, _, _, _, _, _, _, _, _, _, _, _, _, _, _, _, _, _, _, _, _, _, _, _, _, _, _, _, _, _, _, _, _, _, _, _, _, _, _, _, _, _, _, _, _, _, _, _, _, _, _, _, _, _, _, _, _, _, _, _, _, _, _, _, _, _, _, _, _, _, _, _, _, _, _, _, _, _, _, _, _, _, _, _, _, _, _, _, _, _, _, _, _, _, _, _, _, _, _, _, _, _, _, _] _
        refine s_loadA rfl rfl (es := ((encA (encI .i16)) a3)) rfl rfl (fun _ => rfl) (n := 4) (fun _ => rfl) ((fkA (n := 4) (he := (fkI .i16).len) (h1 := (fkI .i16).one)).len _) (cells_all (hs.cells 6 rfl)) ?_
        show G _ _ _ _ [_, _, _, _, _, _, _, _, _, _, _, _, _, _, _, _, _, _, _, _, _, _, _, _, _, _, _, _, _, _, _, _, _, _, _, _, _, _, _, _, _, _, _, _, _, _, _, _, _, _, _, _, _, _, _, _, _, _, _, _, _, _, _, _, _, _, _, _, _, _, _, _, _, _, _, _, _, _, _, _, _, _, _, _, _, _, _, _, _, _, _, _, _, _, _, _, _, _, _, _, _, _, _, _, _, _, _, _, _, _, _, _, _, _, _, _, _, _, _, _, _, _, _, _, _, _, _, _, _, _, _, _, _, _, _, _, _, _, _, _, _, _, _, _, _, _] _
        obtain ⟨r30, Hr30, H⟩ := bind_get H
        refine s_call (args := [Value.agg ((encA (encI .i16)) a3).toArray]) rfl rfl (x_call rfl (callFunc_enter Try.func22 rfl rfl) rfl) (laws_toTops.calls (a1 := a3) Hr30) ?_
        rintro _ w ⟨rfl, hs2⟩
        have hs : St _ [_, _, _, _, _, _, _] _ := hs.call hs2
        show G _ _ _ _ [_, _, _, _, _, _, _, _, _, _, _, _, _, _, _, _, _, _, _, _, _, _, _, _, _, _, _, _, _, _, _, _, _, _, _, _, _, _, _, _, _, _, _, _, _, _, _, _, _, _, _, _, _, _, _, _, _, _, _, _, _, _, _, _, _, _, _, _, _, _, _, _, _, _, _, _, _, _, _, _, _, _, _, _, _, _, _, _, _, _, _, _, _, _, _, _, _, _, _, _, _, _, _, _, _, _, _, _, _, _, _, _, _, _, _, _, _, _, _, _, _, _, _, _, _, _, _, _, _, _, _, _, _, _, _, _, _, _, _, _, _, _, _, _, _, _] _
        refine g_op (v := v28) rfl rfl rfl ?_
        show G _ _ _ _ [_, _, _, _, _, _, _, _, _, _, _, _, _, _, _, _, _, _, _, _, _, _, _, _, _, _, _, _, _, _, _, _, _, _, _, _, _, _, _, _, _, _, _, _, _, _, _, _, _, _, _, _, _, _, _, _, _, _, _, _, _, _, _, _, _, _, _, _, _, _, _, _, _, _, _, _, _, _, _, _, _, _, _, _, _, _, _, _, _, _, _, _, _, _, _, _, _, _, _, _, _, _, _, _, _, _, _, _, _, _, _, _, _, _, _, _, _, _, _, _, _, _, _, _, _, _, _, _, _, _, _, _, _, _, _, _, _, _, _, _, _, _, _, _, _, _] _
        obtain ⟨r31, Hr31, H⟩ := bind_get H
        refine s_call (args := [v25, Value.agg ((encA (encI .i16)) r30).toArray, v28]) rfl rfl (x_call rfl (callFunc_enter Try.func38 rfl rfl) rfl) (impl_RunTurns.calls (a1 := r24) (a3 := r30) (a4 := r27) (hs.row 1 rfl) (hs.row 0 rfl) Hr31) ?_
        rintro _ w ⟨v32, rfl, hs2⟩
        have hs : St _ [_, _, _, _, _, _, _, _] _ := hs.call hs2
        show G _ _ _ _ [_, _, _, _, _, _, _, _, _, _, _, _, _, _, _, _, _, _, _, _, _, _, _, _, _, _, _, _, _, _, _, _, _, _, _, _, _, _, _, _, _, _, _, _, _, _, _, _, _, _, _, _, _, _, _, _, _, _, _, _, _, _, _, _, _, _, _, _, _, _, _, _, _, _, _, _, _, _, _, _, _, _, _, _, _, _, _, _, _, _, _, _, _, _, _, _, _, _, _, _, _, _, _, _, _, _, _, _, _, _, _, _, _, _, _, _, _, _, _, _, _, _, _, _, _, _, _, _, _, _, _, _, _, _, _, _, _, _, _, _, _, _, _, _, _, _] _
        refine g_op (v := Value.tuple #[v32, Value.agg ((encA (encI .i16)) r31.2.1).toArray, Value.int .i64 r31.2.2]) rfl rfl rfl ?_
        show G _ _ _ _ [_, _, _, _, _, _, _, _, _, _, _, _, _, _, _, _, _, _, _, _, _, _, _, _, _, _, _, _, _, _, _, _, _, _, _, _, _, _, _, _, _, _, _, _, _, _, _, _, _, _, _, _, _, _, _, _, _, _, _, _, _, _, _, _, _, _, _, _, _, _, _, _, _, _, _, _, _, _, _, _, _, _, _, _, _, _, _, _, _, _, _, _, _, _, _, _, _, _, _, _, _, _, _, _, _, _, _, _, _, _, _, _, _, _, _, _, _, _, _, _, _, _, _, _, _, _, _, _, _, _, _, _, _, _, _, _, _, _, _, _, _, _, _, _, _, _] _
        refine g_op (v := v32) rfl rfl rfl ?_
        show G _ _ _ _ [_, _, _, _, _, _, _, _, _, _, _, _, _, _, _, _, _, _, _, _, _, _, _, _, _, _, _, _, _, _, _, _, _, _, _, _, _, _, _, _, _, _, _, _, _, _, _, _, _, _, _, _, _, _, _, _, _, _, _, _, _, _, _, _, _, _, _, _, _, _, _, _, _, _, _, _, _, _, _, _, _, _, _, _, _, _, _, _, _, _, _, _, _, _, _, _, _, _, _, _, _, _, _, _, _, _, _, _, _, _, _, _, _, _, _, _, _, _, _, _, _, _, _, _, _, _, _, _, _, _, _, _, _, _, _, _, _, _, _, _, _, _, _, _, _, _] _
        refine g_op (v := Value.agg ((encA (encI .i16)) r31.2.1).toArray) rfl rfl rfl ?_
        show G _ _ _ _ [_, _, _, _, _, _, _, _, _, _, _, _, _, _, _, _, _, _, _, _, _, _, _, _, _, _, _, _, _, _, _, _, _, _, _, _, _, _, _, _, _, _, _, _, _, _, _, _, _, _, _, _, _, _, _, _, _, _, _, _, _, _, _, _, _, _, _, _, _, _, _, _, _, _, _, _, _, _, _, _, _, _, _, _, _, _, _, _, _, _, _, _, _, _, _, _, _, _, _, _, _, _, _, _, _, _, _, _, _, _, _, _, _, _, _, _, _, _, _, _, _, _, _, _, _, _, _, _, _, _, _, _, _, _, _, _, _, _, _, _, _, _, _, _, _, _] _
        refine g_op (v := Value.int .i64 r31.2.2) rfl rfl rfl ?_
        show G _ _ _ _ [_, _, _, _, _, _, _, _, _, _, _, _, _, _, _, _, _, _, _, _, _, _, _, _, _, _, _, _, _, _, _, _, _, _, _, _, _, _, _, _, _, _, _, _, _, _, _, _, _, _, _, _, _, _, _, _, _, _, _, _, _, _, _, _, _, _, _, _, _, _, _, _, _, _, _, _, _, _, _, _, _, _, _, _, _, _, _, _, _, _, _, _, _, _, _, _, _, _, _, _, _, _, _, _, _, _, _, _, _, _, _, _, _, _, _, _, _, _, _, _, _, _, _, _, _, _, _, _, _, _, _, _, _, _, _, _, _, _, _, _, _, _, _, _, _, _] _
        refine s_alloc hs rfl rfl (z := (Value.agg #[Value.int .i16 0, Value.int .i16 0, Value.int .i16 0, Value.int .i16 0])) (cs := ((encA (encI .i16)) (Ar.rep 4 0))) rfl (fun _ => rfl) rfl ?_
        intro b34 w hs
        show G _ _ _ _ [_, _, _, _, _, _, _, _, _, _, _, _, _, _, _, _, _, _, _, _, _, _, _, _, _, _, _, _, _, _, _, _, _, _, _, _, _, _, _, _, _, _, _, _, _, _, _, _, _, _, _, _, _, _, _, _, _, _, _, _, _, _, _, _, _, _, _, _, _, _, _, _, _, _, _, _, _, _, _, _, _, _, _, _, _, _, _, _, _, _, _, _, _, _, _, _, _, _, _, _, _, _, _, _, _, _, _, _, _, _, _, _, _, _, _, _, _, _, _, _, _, _, _, _, _, _, _, _, _, _, _, _, _, _, _, _, _, _, _, _, _, _, _, _, _, _] _
        refine g_op (v := v32) rfl rfl rfl ?_
        show G _ _ _ _ [_, _, _, _, _, _, _, _, _, _, _, _, _, _, _, _, _, _, _, _, _, _, _, _, _, _, _, _, _, _, _, _, _, _, _, _, _, _, _, _, _, _, _, _, _, _, _, _, _, _, _, _, _, _, _, _, _, _, _, _, _, _, _, _, _, _, _, _, _, _, _, _, _, _, _, _, _, _, _, _, _, _, _, _, _, _, _, _, _, _, _, _, _, _, _, _, _, _, _, _, _, _, _, _, _, _, _, _, _, _, _, _, _, _, _, _, _, _, _, _, _, _, _, _, _, _, _, _, _, _, _, _, _, _, _, _, _, _, _, _, _, _, _, _, _, _] _
        refine s_storeAll (n := 4) hs ((fkA (n := 4) (he := (fkI .i16).len) (h1 := (fkI .i16).one)).len _) rfl rfl (vs := ((encA (encI .i16)) r31.2.1)) rfl rfl rfl (fun _ => rfl) ((fkA (n := 4) (he := (fkI .i16).len) (h1 := (fkI .i16).one)).len _) ((fkA (n := 4) (he := (fkI .i16).len) (h1 := (fkI .i16).one)).one _) ?_
        intro w hs
        refine g_op (v := Value.int .i64 r31.2.2) rfl rfl rfl ?_
        show G _ _ _ _ [_, _, _, _, _, _, _, _, _, _, _, _, _, _, _, _, _, _, _, _, _, _, _, _, _, _, _, _, _, _, _, _, _, _, _, _, _, _, _, _, _, _, _, _, _, _, _, _, _, _, _, _, _, _, _, _, _, _, _, _, _, _, _, _, _, _, _, _, _, _, _, _, _, _, _, _, _, _, _, _, _, _, _, _, _, _, _, _, _, _, _, _, _, _, _, _, _, _, _, _, _, _, _, _, _, _, _, _, _, _, _, _, _, _, _, _, _, _, _, _, _, _, _, _, _, _, _, _, _, _, _, _, _, _, _, _, _, _, _, _, _, _, _, _, _, _] _
        refine g_ops_nil ?_
        refine g_seq ?_
        refine g_seq ?_
        refine g_region ?_
        show G _ _ _ (.inRegion _ [0, 1, 2, 3, 4, 5, 6, 7, 8, 9, 10, 11, 12, 13, 14] :: _) _ _
        refine g_op (v := v32) rfl rfl rfl ?_
        show G _ _ _ _ [_, _, _, _, _, _, _, _, _, _, _, _, _, _, _, _, _, _, _, _, _, _, _, _, _, _, _, _, _, _, _, _, _, _, _, _, _, _, _, _, _, _, _, _, _, _, _, _, _, _, _, _, _, _, _, _, _, _, _, _, _, _, _, _, _, _, _, _, _, _, _, _, _, _, _, _, _, _, _, _, _, _, _, _, _, _, _, _, _, _, _, _, _, _, _, _, _, _, _, _, _, _, _, _, _, _, _, _, _, _, _, _, _, _, _, _, _, _, _, _, _, _, _, _, _, _, _, _, _, _, _, _, _, _, _, _, _, _, _, _, _, _, _, _, _, _] _
        refine g_op (v := v16) rfl rfl rfl ?_
        show G _ _ _ _ [_, _, _, _, _, _, _, _, _, _, _, _, _, _, _, _, _, _, _, _, _, _, _, _, _, _, _, _, _, _, _, _, _, _, _, _, _, _, _, _, _, _, _, _, _, _, _, _, _, _, _, _, _, _, _, _, _, _, _, _, _, _, _, _, _, _, _, _, _, _, _, _, _, _, _, _, _, _, _, _, _, _, _, _, _, _, _, _, _, _, _, _, _, _, _, _, _, _, _, _, _, _, _, _, _, _, _, _, _, _, _, _, _, _, _, _, _, _, _, _, _, _, _, _, _, _, _, _, _, _, _, _, _, _, _, _, _, _, _, _, _, _, _, _, _, _] _
        obtain ⟨r36, Hr36, H⟩ := bind_get H
        refine s_call (args := [v32, v16]) rfl rfl (x_call rfl (callFunc_enter Try.func39 rfl rfl) rfl) (laws_eqInt64S.calls (a1 := r31.1) (a3 := r15.1) (hs.row 1 rfl) (hs.row 6 rfl) Hr36) ?_
        rintro _ w ⟨rfl, hs2⟩
        have hs : St _ [_, _, _, _, _, _, _, _, _] _ := hs.call hs2
        cases r36 with
        | true =>
          rw [if_pos rfl] at H
          show G _ _ _ _ [_, _, _, _, _, _, _, _, _, _, _, _, _, _, _, _, _, _, _, _, _, _, _, _, _, _, _, _, _, _, _, _, _, _, _, _, _, _, _, _, _, _, _, _, _, _, _, _, _, _, _, _, _, _, _, _, _, _, _, _, _, _, _, _, _, _, _, _, _, _, _, _, _, _, _, _, _, _, _, _, _, _, _, _, _, _, _, _, _, _, _, _, _, _, _, _, _, _, _, _, _, _, _, _, _, _, _, _, _, _, _, _, _, _, _, _, _, _, _, _, _, _, _, _, _, _, _, _, _, _, _, _, _, _, _, _, _, _, _, _, _, _, _, _, _, _] _
          refine g_op (v := Value.bool false) rfl rfl rfl ?_
          show G _ _ _ _ [_, _, _, _, _, _, _, _, _, _, _, _, _, _, _, _, _, _, _, _, _, _, _, _, _, _, _, _, _, _, _, _, _, _, _, _, _, _, _, _, _, _, _, _, _, _, _, _, _, _, _, _, _, _, _, _, _, _, _, _, _, _, _, _, _, _, _, _, _, _, _, _, _, _, _, _, _, _, _, _, _, _, _, _, _, _, _, _, _, _, _, _, _, _, _, _, _, _, _, _, _, _, _, _, _, _, _, _, _, _, _, _, _, _, _, _, _, _, _, _, _, _, _, _, _, _, _, _, _, _, _, _, _, _, _, _, _, _, _, _, _, _, _, _, _, _] _
          refine g_op (v := Value.bool false) rfl rfl rfl ?_
          show G _ _ _ _ [_, _, _, _, _, _, _, _, _, _, _, _, _, _, _, _, _, _, _, _, _, _, _, _, _, _, _, _, _, _, _, _, _, _, _, _, _, _, _, _, _, _, _, _, _, _, _, _, _, _, _, _, _, _, _, _, _, _, _, _, _, _, _, _, _, _, _, _, _, _, _, _, _, _, _, _, _, _, _, _, _, _, _, _, _, _, _, _, _, _, _, _, _, _, _, _, _, _, _, _, _, _, _, _, _, _, _, _, _, _, _, _, _, _, _, _, _, _, _, _, _, _, _, _, _, _, _, _, _, _, _, _, _, _, _, _, _, _, _, _, _, _, _, _, _, _] _
          refine s_loadA rfl rfl (es := ((encA (encI .i16)) r31.2.1)) rfl rfl (fun _ => rfl) (n := 4) (fun _ => rfl) ((fkA (n := 4) (he := (fkI .i16).len) (h1 := (fkI .i16).one)).len _) (cells_all (hs.cells 0 rfl)) ?_
          show G _ _ _ _ [_, _, _, _, _, _, _, _, _, _, _, _, _, _, _, _, _, _, _, _, _, _, _, _, _, _, _, _, _, _, _, _, _, _, _, _, _, _, _, _, _, _, _, _, _, _, _, _, _, _, _, _, _, _, _, _, _, _, _, _, _, _, _, _, _, _, _, _, _, _, _, _, _, _, _, _, _, _, _, _, _, _, _, _, _, _, _, _, _, _, _, _, _, _, _, _, _, _, _, _, _, _, _, _, _, _, _, _, _, _, _, _, _, _, _, _, _, _, _, _, _, _, _, _, _, _, _, _, _, _, _, _, _, _, _, _, _, _, _, _, _, _, _, _, _, _] _
          refine s_loadA rfl rfl (es := ((encA (encI .i16)) r15.2.1)) rfl rfl (fun _ => rfl) (n := 4) (fun _ => rfl) ((fkA (n := 4) (he := (fkI .i16).len) (h1 := (fkI .i16).one)).len _) (cells_all (hs.cells 7 rfl)) ?_
          show G _ _ _ _ [_, _, _, _, _, _, _, _, _, _, _, _, _, _, _, _, _, _, _, _, _, _, _, _, _, _, _, _, _, _, _, _, _, _, _, _, _, _, _, _, _, _, _, _, _, _, _, _, _, _, _, _, _, _, _, _, _, _, _, _, _, _, _, _, _, _, _, _, _, _, _, _, _, _, _, _, _, _, _, _, _, _, _, _, _, _, _, _, _, _, _, _, _, _, _, _, _, _, _, _, _, _, _, _, _, _, _, _, _, _, _, _, _, _, _, _, _, _, _, _, _, _, _, _, _, _, _, _, _, _, _, _, _, _, _, _, _, _, _, _, _, _, _, _, _, _] _
          obtain ⟨r37, Hr37, H⟩ := bind_get H
          refine s_call (args := [Value.agg ((encA (encI .i16)) r31.2.1).toArray, Value.agg ((encA (encI .i16)) r15.2.1).toArray]) rfl rfl (x_call rfl (callFunc_enter Try.func30 rfl rfl) rfl) (laws_eqTops.calls (a1 := r31.2.1) (a2 := r15.2.1) Hr37) ?_
          rintro _ w ⟨rfl, hs2⟩
          have hs : St _ [_, _, _, _, _, _, _, _, _] _ := hs.call hs2
          show G _ _ _ _ [_, _, _, _, _, _, _, _, _, _, _, _, _, _, _, _, _, _, _, _, _, _, _, _, _, _, _, _, _, _, _, _, _, _, _, _, _, _, _, _, _, _, _, _, _, _, _, _, _, _, _, _, _, _, _, _, _, _, _, _, _, _, _, _, _, _, _, _, _, _, _, _, _, _, _, _, _, _, _, _, _, _, _, _, _, _, _, _, _, _, _, _, _, _, _, _, _, _, _, _, _, _, _, _, _, _, _, _, _, _, _, _, _, _, _, _, _, _, _, _, _, _, _, _, _, _, _, _, _, _, _, _, _, _, _, _, _, _, _, _, _, _, _, _, _, _] _
          refine g_op (v := Value.bool (!r37)) rfl rfl rfl ?_
          show G _ _ _ _ [_, _, _, _, _, _, _, _, _, _, _, _, _, _, _, _, _, _, _, _, _, _, _, _, _, _, _, _, _, _, _, _, _, _, _, _, _, _, _, _, _, _, _, _, _, _, _, _, _, _, _, _, _, _, _, _, _, _, _, _, _, _, _, _, _, _, _, _, _, _, _, _, _, _, _, _, _, _, _, _, _, _, _, _, _, _, _, _, _, _, _, _, _, _, _, _, _, _, _, _, _, _, _, _, _, _, _, _, _, _, _, _, _, _, _, _, _, _, _, _, _, _, _, _, _, _, _, _, _, _, _, _, _, _, _, _, _, _, _, _, _, _, _, _, _, _] _
          refine g_op_b (B := !r37) rfl rfl rfl ?_ ?_
          · intro hb
            rw [if_neg (b_not_t hb)] at H
            show G _ _ _ _ [_, _, _, _, _, _, _, _, _, _, _, _, _, _, _, _, _, _, _, _, _, _, _, _, _, _, _, _, _, _, _, _, _, _, _, _, _, _, _, _, _, _, _, _, _, _, _, _, _, _, _, _, _, _, _, _, _, _, _, _, _, _, _, _, _, _, _, _, _, _, _, _, _, _, _, _, _, _, _, _, _, _, _, _, _, _, _, _, _, _, _, _, _, _, _, _, _, _, _, _, _, _, _, _, _, _, _, _, _, _, _, _, _, _, _, _, _, _, _, _, _, _, _, _, _, _, _, _, _, _, _, _, _, _, _, _, _, _, _, _, _, _, _, _, _, _] _
            refine g_op (v := Value.bool true) rfl rfl rfl ?_
            show G _ _ _ _ [_, _, _, _, _, _, _, _, _, _, _, _, _, _, _, _, _, _, _, _, _, _, _, _, _, _, _, _, _, _, _, _, _, _, _, _, _, _, _, _, _, _, _, _, _, _, _, _, _, _, _, _, _, _, _, _, _, _, _, _, _, _, _, _, _, _, _, _, _, _, _, _, _, _, _, _, _, _, _, _, _, _, _, _, _, _, _, _, _, _, _, _, _, _, _, _, _, _, _, _, _, _, _, _, _, _, _, _, _, _, _, _, _, _, _, _, _, _, _, _, _, _, _, _, _, _, _, _, _, _, _, _, _, _, _, _, _, _, _, _, _, _, _, _, _, _] _
            refine g_op_not rfl rfl ?_
            show G _ _ _ _ [_, _, _, _, _, _, _, _, _, _, _, _, _, _, _, _, _, _, _, _, _, _, _, _, _, _, _, _, _, _, _, _, _, _, _, _, _, _, _, _, _, _, _, _, _, _, _, _, _, _, _, _, _, _, _, _, _, _, _, _, _, _, _, _, _, _, _, _, _, _, _, _, _, _, _, _, _, _, _, _, _, _, _, _, _, _, _, _, _, _, _, _, _, _, _, _, _, _, _, _, _, _, _, _, _, _, _, _, _, _, _, _, _, _, _, _, _, _, _, _, _, _, _, _, _, _, _, _, _, _, _, _, _, _, _, _, _, _, _, _, _, _, _, _, _, _] _
            refine g_op_not rfl rfl ?_
            show G _ _ _ _ [_, _, _, _, _, _, _, _, _, _, _, _, _, _, _, _, _, _, _, _, _, _, _, _, _, _, _, _, _, _, _, _, _, _, _, _, _, _, _, _, _, _, _, _, _, _, _, _, _, _, _, _, _, _, _, _, _, _, _, _, _, _, _, _, _, _, _, _, _, _, _, _, _, _, _, _, _, _, _, _, _, _, _, _, _, _, _, _, _, _, _, _, _, _, _, _, _, _, _, _, _, _, _, _, _, _, _, _, _, _, _, _, _, _, _, _, _, _, _, _, _, _, _, _, _, _, _, _, _, _, _, _, _, _, _, _, _, _, _, _, _, _, _, _, _, _] _
            refine g_op_not rfl rfl ?_
            show G _ _ _ _ [_, _, _, _, _, _, _, _, _, _, _, _, _, _, _, _, _, _, _, _, _, _, _, _, _, _, _, _, _, _, _, _, _, _, _, _, _, _, _, _, _, _, _, _, _, _, _, _, _, _, _, _, _, _, _, _, _, _, _, _, _, _, _, _, _, _, _, _, _, _, _, _, _, _, _, _, _, _, _, _, _, _, _, _, _, _, _, _, _, _, _, _, _, _, _, _, _, _, _, _, _, _, _, _, _, _, _, _, _, _, _, _, _, _, _, _, _, _, _, _, _, _, _, _, _, _, _, _, _, _, _, _, _, _, _, _, _, _, _, _, _, _, _, _, _, _] _
            refine g_op (v := Value.bool true) rfl rfl rfl ?_
            show G _ _ _ _ [_, _, _, _, _, _, _, _, _, _, _, _, _, _, _, _, _, _, _, _, _, _, _, _, _, _, _, _, _, _, _, _, _, _, _, _, _, _, _, _, _, _, _, _, _, _, _, _, _, _, _, _, _, _, _, _, _, _, _, _, _, _, _, _, _, _, _, _, _, _, _, _, _, _, _, _, _, _, _, _, _, _, _, _, _, _, _, _, _, _, _, _, _, _, _, _, _, _, _, _, _, _, _, _, _, _, _, _, _, _, _, _, _, _, _, _, _, _, _, _, _, _, _, _, _, _, _, _, _, _, _, _, _, _, _, _, _, _, _, _, _, _, _, _, _, _] _
            refine g_ops_nil ?_
            refine g_cond_true rfl ?_
            refine g_seq ?_
            refine g_region ?_
            show G _ _ _ (.inRegion _ [0] :: _) _ _
            refine g_op (v := Value.bool false) rfl rfl rfl ?_
            show G _ _ _ _ [_, _, _, _, _, _, _, _, _, _, _, _, _, _, _, _, _, _, _, _, _, _, _, _, _, _, _, _, _, _, _, _, _, _, _, _, _, _, _, _, _, _, _, _, _, _, _, _, _, _, _, _, _, _, _, _, _, _, _, _, _, _, _, _, _, _, _, _, _, _, _, _, _, _, _, _, _, _, _, _, _, _, _, _, _, _, _, _, _, _, _, _, _, _, _, _, _, _, _, _, _, _, _, _, _, _, _, _, _, _, _, _, _, _, _, _, _, _, _, _, _, _, _, _, _, _, _, _, _, _, _, _, _, _, _, _, _, _, _, _, _, _, _, _, _, _] _
            refine g_ops_nil ?_
            obtain rfl := Option.some.inj H
            refine g_ret Try.func12 (v := Value.bool false) (res1 rfl rfl) ?_
            have hs : St _ [] _ := St.take (Γ' := [_, _, _, _, _, _, _, _, _]) hs
            exact ⟨_, rfl, rfl, hs⟩
          · intro hb
            rw [if_pos (b_not_f hb)] at H
            show G _ _ _ _ [_, _, _, _, _, _, _, _, _, _, _, _, _, _, _, _, _, _, _, _, _, _, _, _, _, _, _, _, _, _, _, _, _, _, _, _, _, _, _, _, _, _, _, _, _, _, _, _, _, _, _, _, _, _, _, _, _, _, _, _, _, _, _, _, _, _, _, _, _, _, _, _, _, _, _, _, _, _, _, _, _, _, _, _, _, _, _, _, _, _, _, _, _, _, _, _, _, _, _, _, _, _, _, _, _, _, _, _, _, _, _, _, _, _, _, _, _, _, _, _, _, _, _, _, _, _, _, _, _, _, _, _, _, _, _, _, _, _, _, _, _, _, _, _, _, _] _
            refine g_op (v := Value.bool false) rfl rfl rfl ?_
            show G _ _ _ _ [_, _, _, _, _, _, _, _, _, _, _, _, _, _, _, _, _, _, _, _, _, _, _, _, _, _, _, _, _, _, _, _, _, _, _, _, _, _, _, _, _, _, _, _, _, _, _, _, _, _, _, _, _, _, _, _, _, _, _, _, _, _, _, _, _, _, _, _, _, _, _, _, _, _, _, _, _, _, _, _, _, _, _, _, _, _, _, _, _, _, _, _, _, _, _, _, _, _, _, _, _, _, _, _, _, _, _, _, _, _, _, _, _, _, _, _, _, _, _, _, _, _, _, _, _, _, _, _, _, _, _, _, _, _, _, _, _, _, _, _, _, _, _, _, _, _] _
            refine g_op (v := Value.int .i64 r31.2.2) rfl rfl rfl ?_
            show G _ _ _ _ [_, _, _, _, _, _, _, _, _, _, _, _, _, _, _, _, _, _, _, _, _, _, _, _, _, _, _, _, _, _, _, _, _, _, _, _, _, _, _, _, _, _, _, _, _, _, _, _, _, _, _, _, _, _, _, _, _, _, _, _, _, _, _, _, _, _, _, _, _, _, _, _, _, _, _, _, _, _, _, _, _, _, _, _, _, _, _, _, _, _, _, _, _, _, _, _, _, _, _, _, _, _, _, _, _, _, _, _, _, _, _, _, _, _, _, _, _, _, _, _, _, _, _, _, _, _, _, _, _, _, _, _, _, _, _, _, _, _, _, _, _, _, _, _, _, _] _
            refine g_op (v := Value.int .i64 r15.2.2) rfl rfl rfl ?_
            show G _ _ _ _ [_, _, _, _, _, _, _, _, _, _, _, _, _, _, _, _, _, _, _, _, _, _, _, _, _, _, _, _, _, _, _, _, _, _, _, _, _, _, _, _, _, _, _, _, _, _, _, _, _, _, _, _, _, _, _, _, _, _, _, _, _, _, _, _, _, _, _, _, _, _, _, _, _, _, _, _, _, _, _, _, _, _, _, _, _, _, _, _, _, _, _, _, _, _, _, _, _, _, _, _, _, _, _, _, _, _, _, _, _, _, _, _, _, _, _, _, _, _, _, _, _, _, _, _, _, _, _, _, _, _, _, _, _, _, _, _, _, _, _, _, _, _, _, _, _, _] _
            refine g_op_b (B := r31.2.2 != r15.2.2) rfl rfl rfl ?_ ?_
            · intro hb
              rw [if_neg (b_bne_t hb)] at H
              show G _ _ _ _ [_, _, _, _, _, _, _, _, _, _, _, _, _, _, _, _, _, _, _, _, _, _, _, _, _, _, _, _, _, _, _, _, _, _, _, _, _, _, _, _, _, _, _, _, _, _, _, _, _, _, _, _, _, _, _, _, _, _, _, _, _, _, _, _, _, _, _, _, _, _, _, _, _, _, _, _, _, _, _, _, _, _, _, _, _, _, _, _, _, _, _, _, _, _, _, _, _, _, _, _, _, _, _, _, _, _, _, _, _, _, _, _, _, _, _, _, _, _, _, _, _, _, _, _, _, _, _, _, _, _, _, _, _, _, _, _, _, _, _, _, _, _, _, _, _, _] _
              refine g_op (v := Value.bool true) rfl rfl rfl ?_
              show G _ _ _ _ [_, _, _, _, _, _, _, _, _, _, _, _, _, _, _, _, _, _, _, _, _, _, _, _, _, _, _, _, _, _, _, _, _, _, _, _, _, _, _, _, _, _, _, _, _, _, _, _, _, _, _, _, _, _, _, _, _, _, _, _, _, _, _, _, _, _, _, _, _, _, _, _, _, _, _, _, _, _, _, _, _, _, _, _, _, _, _, _, _, _, _, _, _, _, _, _, _, _, _, _, _, _, _, _, _, _, _, _, _, _, _, _, _, _, _, _, _, _, _, _, _, _, _, _, _, _, _, _, _, _, _, _, _, _, _, _, _, _, _, _, _, _, _, _, _, _] _
              refine g_ops_nil ?_
              refine g_cond_true rfl ?_
              refine g_seq ?_
              refine g_region ?_
              show G _ _ _ (.inRegion _ [0] :: _) _ _
              refine g_op (v := Value.bool false) rfl rfl rfl ?_
              show G _ _ _ _ [_, _, _, _, _, _, _, _, _, _, _, _, _, _, _, _, _, _, _, _, _, _, _, _, _, _, _, _, _, _, _, _, _, _, _, _, _, _, _, _, _, _, _, _, _, _, _, _, _, _, _, _, _, _, _, _, _, _, _, _, _, _, _, _, _, _, _, _, _, _, _, _, _, _, _, _, _, _, _, _, _, _, _, _, _, _, _, _, _, _, _, _, _, _, _, _, _, _, _, _, _, _, _, _, _, _, _, _, _, _, _, _, _, _, _, _, _, _, _, _, _, _, _, _, _, _, _, _, _, _, _, _, _, _, _, _, _, _, _, _, _, _, _, _, _, _] _
              refine g_ops_nil ?_
              obtain rfl := Option.some.inj H
              refine g_ret Try.func12 (v := Value.bool false) (res1 rfl rfl) ?_
              have hs : St _ [] _ := St.take (Γ' := [_, _, _, _, _, _, _, _, _]) hs
              exact ⟨_, rfl, rfl, hs⟩
            · intro hb
              rw [if_pos (b_bne_f hb)] at H
              show G _ _ _ _ [_, _, _, _, _, _, _, _, _, _, _, _, _, _, _, _, _, _, _, _, _, _, _, _, _, _, _, _, _, _, _, _, _, _, _, _, _, _, _, _, _, _, _, _, _, _, _, _, _, _, _, _, _, _, _, _, _, _, _, _, _, _, _, _, _, _, _, _, _, _, _, _, _, _, _, _, _, _, _, _, _, _, _, _, _, _, _, _, _, _, _, _, _, _, _, _, _, _, _, _, _, _, _, _, _, _, _, _, _, _, _, _, _, _, _, _, _, _, _, _, _, _, _, _, _, _, _, _, _, _, _, _, _, _, _, _, _, _, _, _, _, _, _, _, _, _] _
              refine g_op (v := Value.bool false) rfl rfl rfl ?_
              show G _ _ _ _ [_, _, _, _, _, _, _, _, _, _, _, _, _, _, _, _, _, _, _, _, _, _, _, _, _, _, _, _, _, _, _, _, _, _, _, _, _, _, _, _, _, _, _, _, _, _, _, _, _, _, _, _, _, _, _, _, _, _, _, _, _, _, _, _, _, _, _, _, _, _, _, _, _, _, _, _, _, _, _, _, _, _, _, _, _, _, _, _, _, _, _, _, _, _, _, _, _, _, _, _, _, _, _, _, _, _, _, _, _, _, _, _, _, _, _, _, _, _, _, _, _, _, _, _, _, _, _, _, _, _, _, _, _, _, _, _, _, _, _, _, _, _, _, _, _, _] _
              refine g_ops_nil ?_
              refine g_cond_false rfl ?_
              refine g_skip ?_
              refine g_seq ?_
              refine g_seq ?_
              refine g_region ?_
              show G _ _ _ (.inRegion _ [0, 1, 2, 3, 4] :: _) _ _
              refine g_op (v := v25) rfl rfl rfl ?_
              show G _ _ _ _ [_, _, _, _, _, _, _, _, _, _, _, _, _, _, _, _, _, _, _, _, _, _, _, _, _, _, _, _, _, _, _, _, _, _, _, _, _, _, _, _, _, _, _, _, _, _, _, _, _, _, _, _, _, _, _, _, _, _, _, _, _, _, _, _, _, _, _, _, _, _, _, _, _, _, _, _, _, _, _, _, _, _, _, _, _, _, _, _, _, _, _, _, _, _, _, _, _, _, _, _, _, _, _, _, _, _, _, _, _, _, _, _, _, _, _, _, _, _, _, _, _, _, _, _, _, _, _, _, _, _, _, _, _, _, _, _, _, _, _, _, _, _, _, _, _, _] _
              refine g_op (v := v2) rfl rfl rfl ?_
              show G _ _ _ _ [_, _, _, _, _, _, _, _, _, _, _, _, _, _, _, _, _, _, _, _, _, _, _, _, _, _, _, _, _, _, _, _, _, _, _, _, _, _, _, _, _, _, _, _, _, _, _, _, _, _, _, _, _, _, _, _, _, _, _, _, _, _, _, _, _, _, _, _, _, _, _, _, _, _, _, _, _, _, _, _, _, _, _, _, _, _, _, _, _, _, _, _, _, _, _, _, _, _, _, _, _, _, _, _, _, _, _, _, _, _, _, _, _, _, _, _, _, _, _, _, _, _, _, _, _, _, _, _, _, _, _, _, _, _, _, _, _, _, _, _, _, _, _, _, _, _] _
              obtain ⟨r38, Hr38, H⟩ := bind_get H
              refine s_call (args := [v2]) rfl rfl (x_call rfl (callFunc_enter Try.func14 rfl rfl) rfl) (laws_toGlasses.calls (a1 := a1) (hs.rd hr0) Hr38) ?_
              intro v39 w hs2
              have hs : St _ [_, _, _, _, _, _, _, _, _, _] _ := hs.call hs2
              show G _ _ _ _ [_, _, _, _, _, _, _, _, _, _, _, _, _, _, _, _, _, _, _, _, _, _, _, _, _, _, _, _, _, _, _, _, _, _, _, _, _, _, _, _, _, _, _, _, _, _, _, _, _, _, _, _, _, _, _, _, _, _, _, _, _, _, _, _, _, _, _, _, _, _, _, _, _, _, _, _, _, _, _, _, _, _, _, _, _, _, _, _, _, _, _, _, _, _, _, _, _, _, _, _, _, _, _, _, _, _, _, _, _, _, _, _, _, _, _, _, _, _, _, _, _, _, _, _, _, _, _, _, _, _, _, _, _, _, _, _, _, _, _, _, _, _, _, _, _, _] _
              obtain ⟨r41, Hr41, H⟩ := bind_get H
              refine s_call (args := [v25, v39]) rfl rfl (x_call rfl (callFunc_enter Try.func16 rfl rfl) rfl) (laws_eqGlasses.calls (a1 := r24) (a3 := r38) (hs.row 4 rfl) (hs.row 0 rfl) Hr41) ?_
              rintro _ w ⟨rfl, hs2⟩
              have hs : St _ [_, _, _, _, _, _, _, _, _, _] _ := hs.call hs2
              cases r41 with
              | true =>
                rw [if_pos rfl] at H
                show G _ _ _ _ [_, _, _, _, _, _, _, _, _, _, _, _, _, _, _, _, _, _, _, _, _, _, _, _, _, _, _, _, _, _, _, _, _, _, _, _, _, _, _, _, _, _, _, _, _, _, _, _, _, _, _, _, _, _, _, _, _, _, _, _, _, _, _, _, _, _, _, _, _, _, _, _, _, _, _, _, _, _, _, _, _, _, _, _, _, _, _, _, _, _, _, _, _, _, _, _, _, _, _, _, _, _, _, _, _, _, _, _, _, _, _, _, _, _, _, _, _, _, _, _, _, _, _, _, _, _, _, _, _, _, _, _, _, _, _, _, _, _, _, _, _, _, _, _, _, _] _
                refine g_op (v := Value.bool false) rfl rfl rfl ?_
                show G _ _ _ _ [_, _, _, _, _, _, _, _, _, _, _, _, _, _, _, _, _, _, _, _, _, _, _, _, _, _, _, _, _, _, _, _, _, _, _, _, _, _, _, _, _, _, _, _, _, _, _, _, _, _, _, _, _, _, _, _, _, _, _, _, _, _, _, _, _, _, _, _, _, _, _, _, _, _, _, _, _, _, _, _, _, _, _, _, _, _, _, _, _, _, _, _, _, _, _, _, _, _, _, _, _, _, _, _, _, _, _, _, _, _, _, _, _, _, _, _, _, _, _, _, _, _, _, _, _, _, _, _, _, _, _, _, _, _, _, _, _, _, _, _, _, _, _, _, _, _] _
                refine g_ops_nil ?_
                refine g_cond_false rfl ?_
                refine g_skip ?_
                refine g_seq ?_
                refine g_seq ?_
                refine g_region ?_
                show G _ _ _ (.inRegion _ [0, 1, 2, 3, 4] :: _) _ _
                refine g_op (v := v28) rfl rfl rfl ?_
                show G _ _ _ _ [_, _, _, _, _, _, _, _, _, _, _, _, _, _, _, _, _, _, _, _, _, _, _, _, _, _, _, _, _, _, _, _, _, _, _, _, _, _, _, _, _, _, _, _, _, _, _, _, _, _, _, _, _, _, _, _, _, _, _, _, _, _, _, _, _, _, _, _, _, _, _, _, _, _, _, _, _, _, _, _, _, _, _, _, _, _, _, _, _, _, _, _, _, _, _, _, _, _, _, _, _, _, _, _, _, _, _, _, _, _, _, _, _, _, _, _, _, _, _, _, _, _, _, _, _, _, _, _, _, _, _, _, _, _, _, _, _, _, _, _, _, _, _, _, _, _] _
                refine g_op (v := v5) rfl rfl rfl ?_
                show G _ _ _ _ [_, _, _, _, _, _, _, _, _, _, _, _, _, _, _, _, _, _, _, _, _, _, _, _, _, _, _, _, _, _, _, _, _, _, _, _, _, _, _, _, _, _, _, _, _, _, _, _, _, _, _, _, _, _, _, _, _, _, _, _, _, _, _, _, _, _, _, _, _, _, _, _, _, _, _, _, _, _, _, _, _, _, _, _, _, _, _, _, _, _, _, _, _, _, _, _, _, _, _, _, _, _, _, _, _, _, _, _, _, _, _, _, _, _, _, _, _, _, _, _, _, _, _, _, _, _, _, _, _, _, _, _, _, _, _, _, _, _, _, _, _, _, _, _, _, _] _
                obtain ⟨r42, Hr42, H⟩ := bind_get H
                refine s_call (args := [v5]) rfl rfl (x_call rfl (callFunc_enter Try.func18 rfl rfl) rfl) (laws_toByteS.calls (a1 := a4) (hs.rd hr2) Hr42) ?_
                intro v43 w hs2
                have hs : St _ [_, _, _, _, _, _, _, _, _, _, _] _ := hs.call hs2
                show G _ _ _ _ [_, _, _, _, _, _, _, _, _, _, _, _, _, _, _, _, _, _, _, _, _, _, _, _, _, _, _, _, _, _, _, _, _, _, _, _, _, _, _, _, _, _, _, _, _, _, _, _, _, _, _, _, _, _, _, _, _, _, _, _, _, _, _, _, _, _, _, _, _, _, _, _, _, _, _, _, _, _, _, _, _, _, _, _, _, _, _, _, _, _, _, _, _, _, _, _, _, _, _, _, _, _, _, _, _, _, _, _, _, _, _, _, _, _, _, _, _, _, _, _, _, _, _, _, _, _, _, _, _, _, _, _, _, _, _, _, _, _, _, _, _, _, _, _, _, _] _
                obtain ⟨r45, Hr45, H⟩ := bind_get H
                refine s_call (args := [v28, v43]) rfl rfl (x_call rfl (callFunc_enter Try.func20 rfl rfl) rfl) (laws_eqByteS.calls (a1 := r27) (a3 := r42) (hs.row 4 rfl) (hs.row 0 rfl) Hr45) ?_
                rintro _ w ⟨rfl, hs2⟩
                have hs : St _ [_, _, _, _, _, _, _, _, _, _, _] _ := hs.call hs2
                cases r45 with
                | true =>
                  rw [if_pos rfl] at H
                  show G _ _ _ _ [_, _, _, _, _, _, _, _, _, _, _, _, _, _, _, _, _, _, _, _, _, _, _, _, _, _, _, _, _, _, _, _, _, _, _, _, _, _, _, _, _, _, _, _, _, _, _, _, _, _, _, _, _, _, _, _, _, _, _, _, _, _, _, _, _, _, _, _, _, _, _, _, _, _, _, _, _, _, _, _, _, _, _, _, _, _, _, _, _, _, _, _, _, _, _, _, _, _, _, _, _, _, _, _, _, _, _, _, _, _, _, _, _, _, _, _, _, _, _, _, _, _, _, _, _, _, _, _, _, _, _, _, _, _, _, _, _, _, _, _, _, _, _, _, _, _] _
                  refine g_op (v := Value.bool false) rfl rfl rfl ?_
                  show G _ _ _ _ [_, _, _, _, _, _, _, _, _, _, _, _, _, _, _, _, _, _, _, _, _, _, _, _, _, _, _, _, _, _, _, _, _, _, _, _, _, _, _, _, _, _, _, _, _, _, _, _, _, _, _, _, _, _, _, _, _, _, _, _, _, _, _, _, _, _, _, _, _, _, _, _, _, _, _, _, _, _, _, _, _, _, _, _, _, _, _, _, _, _, _, _, _, _, _, _, _, _, _, _, _, _, _, _, _, _, _, _, _, _, _, _, _, _, _, _, _, _, _, _, _, _, _, _, _, _, _, _, _, _, _, _, _, _, _, _, _, _, _, _, _, _, _, _, _, _] _
                  refine g_ops_nil ?_
                  refine g_cond_false rfl ?_
                  refine g_skip ?_
                  refine g_seq ?_
                  refine g_region ?_
                  show G _ _ _ (.inRegion _ [0] :: _) _ _
                  refine g_op (v := Value.int .i64 1) rfl rfl rfl ?_
                  show G _ _ _ _ [_, _, _, _, _, _, _, _, _, _, _, _, _, _, _, _, _, _, _, _, _, _, _, _, _, _, _, _, _, _, _, _, _, _, _, _, _, _, _, _, _, _, _, _, _, _, _, _, _, _, _, _, _, _, _, _, _, _, _, _, _, _, _, _, _, _, _, _, _, _, _, _, _, _, _, _, _, _, _, _, _, _, _, _, _, _, _, _, _, _, _, _, _, _, _, _, _, _, _, _, _, _, _, _, _, _, _, _, _, _, _, _, _, _, _, _, _, _, _, _, _, _, _, _, _, _, _, _, _, _, _, _, _, _, _, _, _, _, _, _, _, _, _, _, _, _] _
                  refine g_ops_nil ?_
                  refine g_seq ?_
                  refine g_region ?_
                  show G _ _ _ (.inRegion _ [0, 1, 2, 3] :: _) _ _
                  refine g_op (v := v25) rfl rfl rfl ?_
                  show G _ _ _ _ [_, _, _, _, _, _, _, _, _, _, _, _, _, _, _, _, _, _, _, _, _, _, _, _, _, _, _, _, _, _, _, _, _, _, _, _, _, _, _, _, _, _, _, _, _, _, _, _, _, _, _, _, _, _, _, _, _, _, _, _, _, _, _, _, _, _, _, _, _, _, _, _, _, _, _, _, _, _, _, _, _, _, _, _, _, _, _, _, _, _, _, _, _, _, _, _, _, _, _, _, _, _, _, _, _, _, _, _, _, _, _, _, _, _, _, _, _, _, _, _, _, _, _, _, _, _, _, _, _, _, _, _, _, _, _, _, _, _, _, _, _, _, _, _, _, _] _
                  refine g_op (v := Value.int .i64 1) rfl rfl rfl ?_
                  show G _ _ _ _ [_, _, _, _, _, _, _, _, _, _, _, _, _, _, _, _, _, _, _, _, _, _, _, _, _, _, _, _, _, _, _, _, _, _, _, _, _, _, _, _, _, _, _, _, _, _, _, _, _, _, _, _, _, _, _, _, _, _, _, _, _, _, _, _, _, _, _, _, _, _, _, _, _, _, _, _, _, _, _, _, _, _, _, _, _, _, _, _, _, _, _, _, _, _, _, _, _, _, _, _, _, _, _, _, _, _, _, _, _, _, _, _, _, _, _, _, _, _, _, _, _, _, _, _, _, _, _, _, _, _, _, _, _, _, _, _, _, _, _, _, _, _, _, _, _, _] _
                  obtain ⟨r46, Hr46, H⟩ := bind_get H
                  have hs := hs.pull 5 rfl
                  have hs : St _ [_, _, _, _, _, _, _, _, _, _, _] _ := hs
                  have hs := hs.pack 1
                  refine s_call (args := [v25, Value.int .i64 1]) rfl rfl (x_call rfl (callFunc_enter Try.func40 rfl rfl) rfl) (laws_markGlasses.calls (a1 := r24) (a4 := 1) hs Hr46) ?_
                  rintro _ w ⟨rfl, hs⟩
                  have hs := St.unpack (Γ := [_]) hs
                  have hs : St _ [_, _, _, _, _, _, _, _, _, _, _] _ := hs
                  show G _ _ _ _ [_, _, _, _, _, _, _, _, _, _, _, _, _, _, _, _, _, _, _, _, _, _, _, _, _, _, _, _, _, _, _, _, _, _, _, _, _, _, _, _, _, _, _, _, _, _, _, _, _, _, _, _, _, _, _, _, _, _, _, _, _, _, _, _, _, _, _, _, _, _, _, _, _, _, _, _, _, _, _, _, _, _, _, _, _, _, _, _, _, _, _, _, _, _, _, _, _, _, _, _, _, _, _, _, _, _, _, _, _, _, _, _, _, _, _, _, _, _, _, _, _, _, _, _, _, _, _, _, _, _, _, _, _, _, _, _, _, _, _, _, _, _, _, _, _, _] _
                  refine g_op (v := Value.int .i64 r46.1) rfl rfl rfl ?_
                  show G _ _ _ _ [_, _, _, _, _, _, _, _, _, _, _, _, _, _, _, _, _, _, _, _, _, _, _, _, _, _, _, _, _, _, _, _, _, _, _, _, _, _, _, _, _, _, _, _, _, _, _, _, _, _, _, _, _, _, _, _, _, _, _, _, _, _, _, _, _, _, _, _, _, _, _, _, _, _, _, _, _, _, _, _, _, _, _, _, _, _, _, _, _, _, _, _, _, _, _, _, _, _, _, _, _, _, _, _, _, _, _, _, _, _, _, _, _, _, _, _, _, _, _, _, _, _, _, _, _, _, _, _, _, _, _, _, _, _, _, _, _, _, _, _, _, _, _, _, _, _] _
                  refine g_ops_nil ?_
                  refine g_seq ?_
                  refine g_region ?_
                  show G _ _ _ (.inRegion _ [0, 1, 2, 3] :: _) _ _
                  refine g_op (v := v28) rfl rfl rfl ?_
                  show G _ _ _ _ [_, _, _, _, _, _, _, _, _, _, _, _, _, _, _, _, _, _, _, _, _, _, _, _, _, _, _, _, _, _, _, _, _, _, _, _, _, _, _, _, _, _, _, _, _, _, _, _, _, _, _, _, _, _, _, _, _, _, _, _, _, _, _, _, _, _, _, _, _, _, _, _, _, _, _, _, _, _, _, _, _, _, _, _, _, _, _, _, _, _, _, _, _, _, _, _, _, _, _, _, _, _, _, _, _, _, _, _, _, _, _, _, _, _, _, _, _, _, _, _, _, _, _, _, _, _, _, _, _, _, _, _, _, _, _, _, _, _, _, _, _, _, _, _, _, _] _
                  refine g_op (v := Value.int .i64 r46.1) rfl rfl rfl ?_
                  show G _ _ _ _ [_, _, _, _, _, _, _, _, _, _, _, _, _, _, _, _, _, _, _, _, _, _, _, _, _, _, _, _, _, _, _, _, _, _, _, _, _, _, _, _, _, _, _, _, _, _, _, _, _, _, _, _, _, _, _, _, _, _, _, _, _, _, _, _, _, _, _, _, _, _, _, _, _, _, _, _, _, _, _, _, _, _, _, _, _, _, _, _, _, _, _, _, _, _, _, _, _, _, _, _, _, _, _, _, _, _, _, _, _, _, _, _, _, _, _, _, _, _, _, _, _, _, _, _, _, _, _, _, _, _, _, _, _, _, _, _, _, _, _, _, _, _, _, _, _, _] _
                  obtain ⟨r47, Hr47, H⟩ := bind_get H
                  have hs := hs.pull 5 rfl
                  have hs : St _ [_, _, _, _, _, _, _, _, _, _, _] _ := hs
                  have hs := hs.pack 1
                  refine s_call (args := [v28, Value.int .i64 r46.1]) rfl rfl (x_call rfl (callFunc_enter Try.func41 rfl rfl) rfl) (laws_markByteS.calls (a1 := r27) (a4 := r46.1) hs Hr47) ?_
                  rintro _ w ⟨rfl, hs⟩
                  have hs := St.unpack (Γ := [_]) hs
                  have hs : St _ [_, _, _, _, _, _, _, _, _, _, _] _ := hs
                  show G _ _ _ _ [_, _, _, _, _, _, _, _, _, _, _, _, _, _, _, _, _, _, _, _, _, _, _, _, _, _, _, _, _, _, _, _, _, _, _, _, _, _, _, _, _, _, _, _, _, _, _, _, _, _, _, _, _, _, _, _, _, _, _, _, _, _, _, _, _, _, _, _, _, _, _, _, _, _, _, _, _, _, _, _, _, _, _, _, _, _, _, _, _, _, _, _, _, _, _, _, _, _, _, _, _, _, _, _, _, _, _, _, _, _, _, _, _, _, _, _, _, _, _, _, _, _, _, _, _, _, _, _, _, _, _, _, _, _, _, _, _, _, _, _, _, _, _, _, _, _] _
                  refine g_op (v := Value.int .i64 r47.1) rfl rfl rfl ?_
                  show G _ _ _ _ [_, _, _, _, _, _, _, _, _, _, _, _, _, _, _, _, _, _, _, _, _, _, _, _, _, _, _, _, _, _, _, _, _, _, _, _, _, _, _, _, _, _, _, _, _, _, _, _, _, _, _, _, _, _, _, _, _, _, _, _, _, _, _, _, _, _, _, _, _, _, _, _, _, _, _, _, _, _, _, _, _, _, _, _, _, _, _, _, _, _, _, _, _, _, _, _, _, _, _, _, _, _, _, _, _, _, _, _, _, _, _, _, _, _, _, _, _, _, _, _, _, _, _, _, _, _, _, _, _, _, _, _, _, _, _, _, _, _, _, _, _, _, _, _, _, _] _
                  refine g_ops_nil ?_
                  refine g_seq ?_
                  refine g_seq ?_
                  refine g_region ?_
                  show G _ _ _ (.inRegion _ [0, 1, 2, 3, 4, 5, 6, 7, 8, 9, 10, 11, 12, 13, 14, 15, 16, 17, 18] :: _) _ _
                  refine g_op (v := Value.int .i64 r47.1) rfl rfl rfl ?_
                  show G _ _ _ _ [_, _, _, _, _, _, _, _, _, _, _, _, _, _, _, _, _, _, _, _, _, _, _, _, _, _, _, _, _, _, _, _, _, _, _, _, _, _, _, _, _, _, _, _, _, _, _, _, _, _, _, _, _, _, _, _, _, _, _, _, _, _, _, _, _, _, _, _, _, _, _, _, _, _, _, _, _, _, _, _, _, _, _, _, _, _, _, _, _, _, _, _, _, _, _, _, _, _, _, _, _, _, _, _, _, _, _, _, _, _, _, _, _, _, _, _, _, _, _, _, _, _, _, _, _, _, _, _, _, _, _, _, _, _, _, _, _, _, _, _, _, _, _, _, _, _] _
                  refine g_op_b (B := decide (r47.1 < 0)) rfl rfl rfl ?_ ?_
                  · intro hb
                    rw [if_pos (b_dec_t hb)] at H
                    show G _ _ _ _ [_, _, _, _, _, _, _, _, _, _, _, _, _, _, _, _, _, _, _, _, _, _, _, _, _, _, _, _, _, _, _, _, _, _, _, _, _, _, _, _, _, _, _, _, _, _, _, _, _, _, _, _, _, _, _, _, _, _, _, _, _, _, _, _, _, _, _, _, _, _, _, _, _, _, _, _, _, _, _, _, _, _, _, _, _, _, _, _, _, _, _, _, _, _, _, _, _, _, _, _, _, _, _, _, _, _, _, _, _, _, _, _, _, _, _, _, _, _, _, _, _, _, _, _, _, _, _, _, _, _, _, _, _, _, _, _, _, _, _, _, _, _, _, _, _, _] _
                    refine g_op (v := Value.bool true) rfl rfl rfl ?_
                    show G _ _ _ _ [_, _, _, _, _, _, _, _, _, _, _, _, _, _, _, _, _, _, _, _, _, _, _, _, _, _, _, _, _, _, _, _, _, _, _, _, _, _, _, _, _, _, _, _, _, _, _, _, _, _, _, _, _, _, _, _, _, _, _, _, _, _, _, _, _, _, _, _, _, _, _, _, _, _, _, _, _, _, _, _, _, _, _, _, _, _, _, _, _, _, _, _, _, _, _, _, _, _, _, _, _, _, _, _, _, _, _, _, _, _, _, _, _, _, _, _, _, _, _, _, _, _, _, _, _, _, _, _, _, _, _, _, _, _, _, _, _, _, _, _, _, _, _, _, _, _] _
                    refine g_op_not rfl rfl ?_
                    show G _ _ _ _ [_, _, _, _, _, _, _, _, _, _, _, _, _, _, _, _, _, _, _, _, _, _, _, _, _, _, _, _, _, _, _, _, _, _, _, _, _, _, _, _, _, _, _, _, _, _, _, _, _, _, _, _, _, _, _, _, _, _, _, _, _, _, _, _, _, _, _, _, _, _, _, _, _, _, _, _, _, _, _, _, _, _, _, _, _, _, _, _, _, _, _, _, _, _, _, _, _, _, _, _, _, _, _, _, _, _, _, _, _, _, _, _, _, _, _, _, _, _, _, _, _, _, _, _, _, _, _, _, _, _, _, _, _, _, _, _, _, _, _, _, _, _, _, _, _, _] _
                    refine g_op_not rfl rfl ?_
                    show G _ _ _ _ [_, _, _, _, _, _, _, _, _, _, _, _, _, _, _, _, _, _, _, _, _, _, _, _, _, _, _, _, _, _, _, _, _, _, _, _, _, _, _, _, _, _, _, _, _, _, _, _, _, _, _, _, _, _, _, _, _, _, _, _, _, _, _, _, _, _, _, _, _, _, _, _, _, _, _, _, _, _, _, _, _, _, _, _, _, _, _, _, _, _, _, _, _, _, _, _, _, _, _, _, _, _, _, _, _, _, _, _, _, _, _, _, _, _, _, _, _, _, _, _, _, _, _, _, _, _, _, _, _, _, _, _, _, _, _, _, _, _, _, _, _, _, _, _, _, _] _
                    refine g_op_not rfl rfl ?_
                    show G _ _ _ _ [_, _, _, _, _, _, _, _, _, _, _, _, _, _, _, _, _, _, _, _, _, _, _, _, _, _, _, _, _, _, _, _, _, _, _, _, _, _, _, _, _, _, _, _, _, _, _, _, _, _, _, _, _, _, _, _, _, _, _, _, _, _, _, _, _, _, _, _, _, _, _, _, _, _, _, _, _, _, _, _, _, _, _, _, _, _, _, _, _, _, _, _, _, _, _, _, _, _, _, _, _, _, _, _, _, _, _, _, _, _, _, _, _, _, _, _, _, _, _, _, _, _, _, _, _, _, _, _, _, _, _, _, _, _, _, _, _, _, _, _, _, _, _, _, _, _] _
                    refine g_op_not rfl rfl ?_
                    show G _ _ _ _ [_, _, _, _, _, _, _, _, _, _, _, _, _, _, _, _, _, _, _, _, _, _, _, _, _, _, _, _, _, _, _, _, _, _, _, _, _, _, _, _, _, _, _, _, _, _, _, _, _, _, _, _, _, _, _, _, _, _, _, _, _, _, _, _, _, _, _, _, _, _, _, _, _, _, _, _, _, _, _, _, _, _, _, _, _, _, _, _, _, _, _, _, _, _, _, _, _, _, _, _, _, _, _, _, _, _, _, _, _, _, _, _, _, _, _, _, _, _, _, _, _, _, _, _, _, _, _, _, _, _, _, _, _, _, _, _, _, _, _, _, _, _, _, _, _, _] _
                    refine g_op (v := Value.bool true) rfl rfl rfl ?_
                    show G _ _ _ _ [_, _, _, _, _, _, _, _, _, _, _, _, _, _, _, _, _, _, _, _, _, _, _, _, _, _, _, _, _, _, _, _, _, _, _, _, _, _, _, _, _, _, _, _, _, _, _, _, _, _, _, _, _, _, _, _, _, _, _, _, _, _, _, _, _, _, _, _, _, _, _, _, _, _, _, _, _, _, _, _, _, _, _, _, _, _, _, _, _, _, _, _, _, _, _, _, _, _, _, _, _, _, _, _, _, _, _, _, _, _, _, _, _, _, _, _, _, _, _, _, _, _, _, _, _, _, _, _, _, _, _, _, _, _, _, _, _, _, _, _, _, _, _, _, _, _] _
                    refine g_op (v := Value.bool true) rfl rfl rfl ?_
                    show G _ _ _ _ [_, _, _, _, _, _, _, _, _, _, _, _, _, _, _, _, _, _, _, _, _, _, _, _, _, _, _, _, _, _, _, _, _, _, _, _, _, _, _, _, _, _, _, _, _, _, _, _, _, _, _, _, _, _, _, _, _, _, _, _, _, _, _, _, _, _, _, _, _, _, _, _, _, _, _, _, _, _, _, _, _, _, _, _, _, _, _, _, _, _, _, _, _, _, _, _, _, _, _, _, _, _, _, _, _, _, _, _, _, _, _, _, _, _, _, _, _, _, _, _, _, _, _, _, _, _, _, _, _, _, _, _, _, _, _, _, _, _, _, _, _, _, _, _, _, _] _
                    refine g_op_not rfl rfl ?_
                    show G _ _ _ _ [_, _, _, _, _, _, _, _, _, _, _, _, _, _, _, _, _, _, _, _, _, _, _, _, _, _, _, _, _, _, _, _, _, _, _, _, _, _, _, _, _, _, _, _, _, _, _, _, _, _, _, _, _, _, _, _, _, _, _, _, _, _, _, _, _, _, _, _, _, _, _, _, _, _, _, _, _, _, _, _, _, _, _, _, _, _, _, _, _, _, _, _, _, _, _, _, _, _, _, _, _, _, _, _, _, _, _, _, _, _, _, _, _, _, _, _, _, _, _, _, _, _, _, _, _, _, _, _, _, _, _, _, _, _, _, _, _, _, _, _, _, _, _, _, _, _] _
                    refine g_op_not rfl rfl ?_
                    show G _ _ _ _ [_, _, _, _, _, _, _, _, _, _, _, _, _, _, _, _, _, _, _, _, _, _, _, _, _, _, _, _, _, _, _, _, _, _, _, _, _, _, _, _, _, _, _, _, _, _, _, _, _, _, _, _, _, _, _, _, _, _, _, _, _, _, _, _, _, _, _, _, _, _, _, _, _, _, _, _, _, _, _, _, _, _, _, _, _, _, _, _, _, _, _, _, _, _, _, _, _, _, _, _, _, _, _, _, _, _, _, _, _, _, _, _, _, _, _, _, _, _, _, _, _, _, _, _, _, _, _, _, _, _, _, _, _, _, _, _, _, _, _, _, _, _, _, _, _, _] _
                    refine g_op_not rfl rfl ?_
                    show G _ _ _ _ [_, _, _, _, _, _, _, _, _, _, _, _, _, _, _, _, _, _, _, _, _, _, _, _, _, _, _, _, _, _, _, _, _, _, _, _, _, _, _, _, _, _, _, _, _, _, _, _, _, _, _, _, _, _, _, _, _, _, _, _, _, _, _, _, _, _, _, _, _, _, _, _, _, _, _, _, _, _, _, _, _, _, _, _, _, _, _, _, _, _, _, _, _, _, _, _, _, _, _, _, _, _, _, _, _, _, _, _, _, _, _, _, _, _, _, _, _, _, _, _, _, _, _, _, _, _, _, _, _, _, _, _, _, _, _, _, _, _, _, _, _, _, _, _, _, _] _
                    refine g_op_not rfl rfl ?_
                    show G _ _ _ _ [_, _, _, _, _, _, _, _, _, _, _, _, _, _, _, _, _, _, _, _, _, _, _, _, _, _, _, _, _, _, _, _, _, _, _, _, _, _, _, _, _, _, _, _, _, _, _, _, _, _, _, _, _, _, _, _, _, _, _, _, _, _, _, _, _, _, _, _, _, _, _, _, _, _, _, _, _, _, _, _, _, _, _, _, _, _, _, _, _, _, _, _, _, _, _, _, _, _, _, _, _, _, _, _, _, _, _, _, _, _, _, _, _, _, _, _, _, _, _, _, _, _, _, _, _, _, _, _, _, _, _, _, _, _, _, _, _, _, _, _, _, _, _, _, _, _] _
                    refine g_op (v := Value.bool true) rfl rfl rfl ?_
                    show G _ _ _ _ [_, _, _, _, _, _, _, _, _, _, _, _, _, _, _, _, _, _, _, _, _, _, _, _, _, _, _, _, _, _, _, _, _, _, _, _, _, _, _, _, _, _, _, _, _, _, _, _, _, _, _, _, _, _, _, _, _, _, _, _, _, _, _, _, _, _, _, _, _, _, _, _, _, _, _, _, _, _, _, _, _, _, _, _, _, _, _, _, _, _, _, _, _, _, _, _, _, _, _, _, _, _, _, _, _, _, _, _, _, _, _, _, _, _, _, _, _, _, _, _, _, _, _, _, _, _, _, _, _, _, _, _, _, _, _, _, _, _, _, _, _, _, _, _, _, _] _
                    refine g_op (v := Value.bool true) rfl rfl rfl ?_
                    show G _ _ _ _ [_, _, _, _, _, _, _, _, _, _, _, _, _, _, _, _, _, _, _, _, _, _, _, _, _, _, _, _, _, _, _, _, _, _, _, _, _, _, _, _, _, _, _, _, _, _, _, _, _, _, _, _, _, _, _, _, _, _, _, _, _, _, _, _, _, _, _, _, _, _, _, _, _, _, _, _, _, _, _, _, _, _, _, _, _, _, _, _, _, _, _, _, _, _, _, _, _, _, _, _, _, _, _, _, _, _, _, _, _, _, _, _, _, _, _, _, _, _, _, _, _, _, _, _, _, _, _, _, _, _, _, _, _, _, _, _, _, _, _, _, _, _, _, _, _, _] _
                    refine g_op_not rfl rfl ?_
                    show G _ _ _ _ [_, _, _, _, _, _, _, _, _, _, _, _, _, _, _, _, _, _, _, _, _, _, _, _, _, _, _, _, _, _, _, _, _, _, _, _, _, _, _, _, _, _, _, _, _, _, _, _, _, _, _, _, _, _, _, _, _, _, _, _, _, _, _, _, _, _, _, _, _, _, _, _, _, _, _, _, _, _, _, _, _, _, _, _, _, _, _, _, _, _, _, _, _, _, _, _, _, _, _, _, _, _, _, _, _, _, _, _, _, _, _, _, _, _, _, _, _, _, _, _, _, _, _, _, _, _, _, _, _, _, _, _, _, _, _, _, _, _, _, _, _, _, _, _, _, _] _
                    refine g_op_not rfl rfl ?_
                    show G _ _ _ _ [_, _, _, _, _, _, _, _, _, _, _, _, _, _, _, _, _, _, _, _, _, _, _, _, _, _, _, _, _, _, _, _, _, _, _, _, _, _, _, _, _, _, _, _, _, _, _, _, _, _, _, _, _, _, _, _, _, _, _, _, _, _, _, _, _, _, _, _, _, _, _, _, _, _, _, _, _, _, _, _, _, _, _, _, _, _, _, _, _, _, _, _, _, _, _, _, _, _, _, _, _, _, _, _, _, _, _, _, _, _, _, _, _, _, _, _, _, _, _, _, _, _, _, _, _, _, _, _, _, _, _, _, _, _, _, _, _, _, _, _, _, _, _, _, _, _] _
                    refine g_op_not rfl rfl ?_
                    show G _ _ _ _ [_, _, _, _, _, _, _, _, _, _, _, _, _, _, _, _, _, _, _, _, _, _, _, _, _, _, _, _, _, _, _, _, _, _, _, _, _, _, _, _, _, _, _, _, _, _, _, _, _, _, _, _, _, _, _, _, _, _, _, _, _, _, _, _, _, _, _, _, _, _, _, _, _, _, _, _, _, _, _, _, _, _, _, _, _, _, _, _, _, _, _, _, _, _, _, _, _, _, _, _, _, _, _, _, _, _, _, _, _, _, _, _, _, _, _, _, _, _, _, _, _, _, _, _, _, _, _, _, _, _, _, _, _, _, _, _, _, _, _, _, _, _, _, _, _, _] _
                    refine g_op (v := Value.bool true) rfl rfl rfl ?_
                    show G _ _ _ _ [_, _, _, _, _, _, _, _, _, _, _, _, _, _, _, _, _, _, _, _, _, _, _, _, _, _, _, _, _, _, _, _, _, _, _, _, _, _, _, _, _, _, _, _, _, _, _, _, _, _, _, _, _, _, _, _, _, _, _, _, _, _, _, _, _, _, _, _, _, _, _, _, _, _, _, _, _, _, _, _, _, _, _, _, _, _, _, _, _, _, _, _, _, _, _, _, _, _, _, _, _, _, _, _, _, _, _, _, _, _, _, _, _, _, _, _, _, _, _, _, _, _, _, _, _, _, _, _, _, _, _, _, _, _, _, _, _, _, _, _, _, _, _, _, _, _] _
                    refine g_ops_nil ?_
                    refine g_cond_true rfl ?_
                    refine g_seq ?_
                    refine g_region ?_
                    show G _ _ _ (.inRegion _ [0] :: _) _ _
                    refine g_op (v := Value.bool false) rfl rfl rfl ?_
                    show G _ _ _ _ [_, _, _, _, _, _, _, _, _, _, _, _, _, _, _, _, _, _, _, _, _, _, _, _, _, _, _, _, _, _, _, _, _, _, _, _, _, _, _, _, _, _, _, _, _, _, _, _, _, _, _, _, _, _, _, _, _, _, _, _, _, _, _, _, _, _, _, _, _, _, _, _, _, _, _, _, _, _, _, _, _, _, _, _, _, _, _, _, _, _, _, _, _, _, _, _, _, _, _, _, _, _, _, _, _, _, _, _, _, _, _, _, _, _, _, _, _, _, _, _, _, _, _, _, _, _, _, _, _, _, _, _, _, _, _, _, _, _, _, _, _, _, _, _, _, _] _
                    refine g_ops_nil ?_
                    obtain rfl := Option.some.inj H
                    refine g_ret Try.func12 (v := Value.bool false) (res1 rfl rfl) ?_
                    have hs : St _ [] _ := St.take (Γ' := [_, _, _, _, _, _, _, _, _, _, _]) hs
                    exact ⟨_, rfl, rfl, hs⟩
                  · intro hb
                    rw [if_neg (b_dec_f hb)] at H
                    show G _ _ _ _ [_, _, _, _, _, _, _, _, _, _, _, _, _, _, _, _, _, _, _, _, _, _, _, _, _, _, _, _, _, _, _, _, _, _, _, _, _, _, _, _, _, _, _, _, _, _, _, _, _, _, _, _, _, _, _, _, _, _, _, _, _, _, _, _, _, _, _, _, _, _, _, _, _, _, _, _, _, _, _, _, _, _, _, _, _, _, _, _, _, _, _, _, _, _, _, _, _, _, _, _, _, _, _, _, _, _, _, _, _, _, _, _, _, _, _, _, _, _, _, _, _, _, _, _, _, _, _, _, _, _, _, _, _, _, _, _, _, _, _, _, _, _, _, _, _, _] _
                    refine g_op (v := Value.bool false) rfl rfl rfl ?_
                    show G _ _ _ _ [_, _, _, _, _, _, _, _, _, _, _, _, _, _, _, _, _, _, _, _, _, _, _, _, _, _, _, _, _, _, _, _, _, _, _, _, _, _, _, _, _, _, _, _, _, _, _, _, _, _, _, _, _, _, _, _, _, _, _, _, _, _, _, _, _, _, _, _, _, _, _, _, _, _, _, _, _, _, _, _, _, _, _, _, _, _, _, _, _, _, _, _, _, _, _, _, _, _, _, _, _, _, _, _, _, _, _, _, _, _, _, _, _, _, _, _, _, _, _, _, _, _, _, _, _, _, _, _, _, _, _, _, _, _, _, _, _, _, _, _, _, _, _, _, _, _] _
                    refine g_op (v := v32) rfl rfl rfl ?_
                    show G _ _ _ _ [_, _, _, _, _, _, _, _, _, _, _, _, _, _, _, _, _, _, _, _, _, _, _, _, _, _, _, _, _, _, _, _, _, _, _, _, _, _, _, _, _, _, _, _, _, _, _, _, _, _, _, _, _, _, _, _, _, _, _, _, _, _, _, _, _, _, _, _, _, _, _, _, _, _, _, _, _, _, _, _, _, _, _, _, _, _, _, _, _, _, _, _, _, _, _, _, _, _, _, _, _, _, _, _, _, _, _, _, _, _, _, _, _, _, _, _, _, _, _, _, _, _, _, _, _, _, _, _, _, _, _, _, _, _, _, _, _, _, _, _, _, _, _, _, _, _] _
                    refine g_op (v := v16) rfl rfl rfl ?_
                    show G _ _ _ _ [_, _, _, _, _, _, _, _, _, _, _, _, _, _, _, _, _, _, _, _, _, _, _, _, _, _, _, _, _, _, _, _, _, _, _, _, _, _, _, _, _, _, _, _, _, _, _, _, _, _, _, _, _, _, _, _, _, _, _, _, _, _, _, _, _, _, _, _, _, _, _, _, _, _, _, _, _, _, _, _, _, _, _, _, _, _, _, _, _, _, _, _, _, _, _, _, _, _, _, _, _, _, _, _, _, _, _, _, _, _, _, _, _, _, _, _, _, _, _, _, _, _, _, _, _, _, _, _, _, _, _, _, _, _, _, _, _, _, _, _, _, _, _, _, _, _] _
                    obtain ⟨r48, Hr48, H⟩ := bind_get H
                    refine s_call (args := [v32, v16]) rfl rfl (x_call rfl (callFunc_enter Try.func39 rfl rfl) rfl) (laws_eqInt64S.calls (a1 := r31.1) (a3 := r15.1) (hs.row 5 rfl) (hs.row 8 rfl) Hr48) ?_
                    rintro _ w ⟨rfl, hs2⟩
                    have hs : St _ [_, _, _, _, _, _, _, _, _, _, _] _ := hs.call hs2
                    show G _ _ _ _ [_, _, _, _, _, _, _, _, _, _, _, _, _, _, _, _, _, _, _, _, _, _, _, _, _, _, _, _, _, _, _, _, _, _, _, _, _, _, _, _, _, _, _, _, _, _, _, _, _, _, _, _, _, _, _, _, _, _, _, _, _, _, _, _, _, _, _, _, _, _, _, _, _, _, _, _, _, _, _, _, _, _, _, _, _, _, _, _, _, _, _, _, _, _, _, _, _, _, _, _, _, _, _, _, _, _, _, _, _, _, _, _, _, _, _, _, _, _, _, _, _, _, _, _, _, _, _, _, _, _, _, _, _, _, _, _, _, _, _, _, _, _, _, _, _, _] _
                    refine g_op (v := Value.bool (!r48)) rfl rfl rfl ?_
                    show G _ _ _ _ [_, _, _, _, _, _, _, _, _, _, _, _, _, _, _, _, _, _, _, _, _, _, _, _, _, _, _, _, _, _, _, _, _, _, _, _, _, _, _, _, _, _, _, _, _, _, _, _, _, _, _, _, _, _, _, _, _, _, _, _, _, _, _, _, _, _, _, _, _, _, _, _, _, _, _, _, _, _, _, _, _, _, _, _, _, _, _, _, _, _, _, _, _, _, _, _, _, _, _, _, _, _, _, _, _, _, _, _, _, _, _, _, _, _, _, _, _, _, _, _, _, _, _, _, _, _, _, _, _, _, _, _, _, _, _, _, _, _, _, _, _, _, _, _, _, _] _
                    refine g_op_b (B := !r48) rfl rfl rfl ?_ ?_
                    · intro hb
                      rw [if_neg (b_not_t hb)] at H
                      show G _ _ _ _ [_, _, _, _, _, _, _, _, _, _, _, _, _, _, _, _, _, _, _, _, _, _, _, _, _, _, _, _, _, _, _, _, _, _, _, _, _, _, _, _, _, _, _, _, _, _, _, _, _, _, _, _, _, _, _, _, _, _, _, _, _, _, _, _, _, _, _, _, _, _, _, _, _, _, _, _, _, _, _, _, _, _, _, _, _, _, _, _, _, _, _, _, _, _, _, _, _, _, _, _, _, _, _, _, _, _, _, _, _, _, _, _, _, _, _, _, _, _, _, _, _, _, _, _, _, _, _, _, _, _, _, _, _, _, _, _, _, _, _, _, _, _, _, _, _, _] _
                      refine g_op (v := Value.bool true) rfl rfl rfl ?_
                      show G _ _ _ _ [_, _, _, _, _, _, _, _, _, _, _, _, _, _, _, _, _, _, _, _, _, _, _, _, _, _, _, _, _, _, _, _, _, _, _, _, _, _, _, _, _, _, _, _, _, _, _, _, _, _, _, _, _, _, _, _, _, _, _, _, _, _, _, _, _, _, _, _, _, _, _, _, _, _, _, _, _, _, _, _, _, _, _, _, _, _, _, _, _, _, _, _, _, _, _, _, _, _, _, _, _, _, _, _, _, _, _, _, _, _, _, _, _, _, _, _, _, _, _, _, _, _, _, _, _, _, _, _, _, _, _, _, _, _, _, _, _, _, _, _, _, _, _, _, _, _] _
                      refine g_op_not rfl rfl ?_
                      show G _ _ _ _ [_, _, _, _, _, _, _, _, _, _, _, _, _, _, _, _, _, _, _, _, _, _, _, _, _, _, _, _, _, _, _, _, _, _, _, _, _, _, _, _, _, _, _, _, _, _, _, _, _, _, _, _, _, _, _, _, _, _, _, _, _, _, _, _, _, _, _, _, _, _, _, _, _, _, _, _, _, _, _, _, _, _, _, _, _, _, _, _, _, _, _, _, _, _, _, _, _, _, _, _, _, _, _, _, _, _, _, _, _, _, _, _, _, _, _, _, _, _, _, _, _, _, _, _, _, _, _, _, _, _, _, _, _, _, _, _, _, _, _, _, _, _, _, _, _, _] _
                      refine g_op_not rfl rfl ?_
                      show G _ _ _ _ [_, _, _, _, _, _, _, _, _, _, _, _, _, _, _, _, _, _, _, _, _, _, _, _, _, _, _, _, _, _, _, _, _, _, _, _, _, _, _, _, _, _, _, _, _, _, _, _, _, _, _, _, _, _, _, _, _, _, _, _, _, _, _, _, _, _, _, _, _, _, _, _, _, _, _, _, _, _, _, _, _, _, _, _, _, _, _, _, _, _, _, _, _, _, _, _, _, _, _, _, _, _, _, _, _, _, _, _, _, _, _, _, _, _, _, _, _, _, _, _, _, _, _, _, _, _, _, _, _, _, _, _, _, _, _, _, _, _, _, _, _, _, _, _, _, _] _
                      refine g_op_not rfl rfl ?_
                      show G _ _ _ _ [_, _, _, _, _, _, _, _, _, _, _, _, _, _, _, _, _, _, _, _, _, _, _, _, _, _, _, _, _, _, _, _, _, _, _, _, _, _, _, _, _, _, _, _, _, _, _, _, _, _, _, _, _, _, _, _, _, _, _, _, _, _, _, _, _, _, _, _, _, _, _, _, _, _, _, _, _, _, _, _, _, _, _, _, _, _, _, _, _, _, _, _, _, _, _, _, _, _, _, _, _, _, _, _, _, _, _, _, _, _, _, _, _, _, _, _, _, _, _, _, _, _, _, _, _, _, _, _, _, _, _, _, _, _, _, _, _, _, _, _, _, _, _, _, _, _] _
                      refine g_op_not rfl rfl ?_
                      show G _ _ _ _ [_, _, _, _, _, _, _, _, _, _, _, _, _, _, _, _, _, _, _, _, _, _, _, _, _, _, _, _, _, _, _, _, _, _, _, _, _, _, _, _, _, _, _, _, _, _, _, _, _, _, _, _, _, _, _, _, _, _, _, _, _, _, _, _, _, _, _, _, _, _, _, _, _, _, _, _, _, _, _, _, _, _, _, _, _, _, _, _, _, _, _, _, _, _, _, _, _, _, _, _, _, _, _, _, _, _, _, _, _, _, _, _, _, _, _, _, _, _, _, _, _, _, _, _, _, _, _, _, _, _, _, _, _, _, _, _, _, _, _, _, _, _, _, _, _, _] _
                      refine g_op (v := Value.bool true) rfl rfl rfl ?_
                      show G _ _ _ _ [_, _, _, _, _, _, _, _, _, _, _, _, _, _, _, _, _, _, _, _, _, _, _, _, _, _, _, _, _, _, _, _, _, _, _, _, _, _, _, _, _, _, _, _, _, _, _, _, _, _, _, _, _, _, _, _, _, _, _, _, _, _, _, _, _, _, _, _, _, _, _, _, _, _, _, _, _, _, _, _, _, _, _, _, _, _, _, _, _, _, _, _, _, _, _, _, _, _, _, _, _, _, _, _, _, _, _, _, _, _, _, _, _, _, _, _, _, _, _, _, _, _, _, _, _, _, _, _, _, _, _, _, _, _, _, _, _, _, _, _, _, _, _, _, _, _] _
                      refine g_op (v := Value.bool true) rfl rfl rfl ?_
                      show G _ _ _ _ [_, _, _, _, _, _, _, _, _, _, _, _, _, _, _, _, _, _, _, _, _, _, _, _, _, _, _, _, _, _, _, _, _, _, _, _, _, _, _, _, _, _, _, _, _, _, _, _, _, _, _, _, _, _, _, _, _, _, _, _, _, _, _, _, _, _, _, _, _, _, _, _, _, _, _, _, _, _, _, _, _, _, _, _, _, _, _, _, _, _, _, _, _, _, _, _, _, _, _, _, _, _, _, _, _, _, _, _, _, _, _, _, _, _, _, _, _, _, _, _, _, _, _, _, _, _, _, _, _, _, _, _, _, _, _, _, _, _, _, _, _, _, _, _, _, _] _
                      refine g_op_not rfl rfl ?_
                      show G _ _ _ _ [_, _, _, _, _, _, _, _, _, _, _, _, _, _, _, _, _, _, _, _, _, _, _, _, _, _, _, _, _, _, _, _, _, _, _, _, _, _, _, _, _, _, _, _, _, _, _, _, _, _, _, _, _, _, _, _, _, _, _, _, _, _, _, _, _, _, _, _, _, _, _, _, _, _, _, _, _, _, _, _, _, _, _, _, _, _, _, _, _, _, _, _, _, _, _, _, _, _, _, _, _, _, _, _, _, _, _, _, _, _, _, _, _, _, _, _, _, _, _, _, _, _, _, _, _, _, _, _, _, _, _, _, _, _, _, _, _, _, _, _, _, _, _, _, _, _] _
                      refine g_op_not rfl rfl ?_
                      show G _ _ _ _ [_, _, _, _, _, _, _, _, _, _, _, _, _, _, _, _, _, _, _, _, _, _, _, _, _, _, _, _, _, _, _, _, _, _, _, _, _, _, _, _, _, _, _, _, _, _, _, _, _, _, _, _, _, _, _, _, _, _, _, _, _, _, _, _, _, _, _, _, _, _, _, _, _, _, _, _, _, _, _, _, _, _, _, _, _, _, _, _, _, _, _, _, _, _, _, _, _, _, _, _, _, _, _, _, _, _, _, _, _, _, _, _, _, _, _, _, _, _, _, _, _, _, _, _, _, _, _, _, _, _, _, _, _, _, _, _, _, _, _, _, _, _, _, _, _, _] _
                      refine g_op_not rfl rfl ?_
                      show G _ _ _ _ [_, _, _, _, _, _, _, _, _, _, _, _, _, _, _, _, _, _, _, _, _, _, _, _, _, _, _, _, _, _, _, _, _, _, _, _, _, _, _, _, _, _, _, _, _, _, _, _, _, _, _, _, _, _, _, _, _, _, _, _, _, _, _, _, _, _, _, _, _, _, _, _, _, _, _, _, _, _, _, _, _, _, _, _, _, _, _, _, _, _, _, _, _, _, _, _, _, _, _, _, _, _, _, _, _, _, _, _, _, _, _, _, _, _, _, _, _, _, _, _, _, _, _, _, _, _, _, _, _, _, _, _, _, _, _, _, _, _, _, _, _, _, _, _, _, _] _
                      refine g_op (v := Value.bool true) rfl rfl rfl ?_
                      show G _ _ _ _ [_, _, _, _, _, _, _, _, _, _, _, _, _, _, _, _, _, _, _, _, _, _, _, _, _, _, _, _, _, _, _, _, _, _, _, _, _, _, _, _, _, _, _, _, _, _, _, _, _, _, _, _, _, _, _, _, _, _, _, _, _, _, _, _, _, _, _, _, _, _, _, _, _, _, _, _, _, _, _, _, _, _, _, _, _, _, _, _, _, _, _, _, _, _, _, _, _, _, _, _, _, _, _, _, _, _, _, _, _, _, _, _, _, _, _, _, _, _, _, _, _, _, _, _, _, _, _, _, _, _, _, _, _, _, _, _, _, _, _, _, _, _, _, _, _, _] _
                      refine g_ops_nil ?_
                      refine g_cond_true rfl ?_
                      refine g_seq ?_
                      refine g_region ?_
                      show G _ _ _ (.inRegion _ [0] :: _) _ _
                      refine g_op (v := Value.bool false) rfl rfl rfl ?_
                      show G _ _ _ _ [_, _, _, _, _, _, _, _, _, _, _, _, _, _, _, _, _, _, _, _, _, _, _, _, _, _, _, _, _, _, _, _, _, _, _, _, _, _, _, _, _, _, _, _, _, _, _, _, _, _, _, _, _, _, _, _, _, _, _, _, _, _, _, _, _, _, _, _, _, _, _, _, _, _, _, _, _, _, _, _, _, _, _, _, _, _, _, _, _, _, _, _, _, _, _, _, _, _, _, _, _, _, _, _, _, _, _, _, _, _, _, _, _, _, _, _, _, _, _, _, _, _, _, _, _, _, _, _, _, _, _, _, _, _, _, _, _, _, _, _, _, _, _, _, _, _] _
                      refine g_ops_nil ?_
                      obtain rfl := Option.some.inj H
                      refine g_ret Try.func12 (v := Value.bool false) (res1 rfl rfl) ?_
                      have hs : St _ [] _ := St.take (Γ' := [_, _, _, _, _, _, _, _, _, _, _]) hs
                      exact ⟨_, rfl, rfl, hs⟩
                    · intro hb
                      rw [if_pos (b_not_f hb)] at H
                      show G _ _ _ _ [_, _, _, _, _, _, _, _, _, _, _, _, _, _, _, _, _, _, _, _, _, _, _, _, _, _, _, _, _, _, _, _, _, _, _, _, _, _, _, _, _, _, _, _, _, _, _, _, _, _, _, _, _, _, _, _, _, _, _, _, _, _, _, _, _, _, _, _, _, _, _, _, _, _, _, _, _, _, _, _, _, _, _, _, _, _, _, _, _, _, _, _, _, _, _, _, _, _, _, _, _, _, _, _, _, _, _, _, _, _, _, _, _, _, _, _, _, _, _, _, _, _, _, _, _, _, _, _, _, _, _, _, _, _, _, _, _, _, _, _, _, _, _, _, _, _] _
                      refine g_op (v := Value.bool false) rfl rfl rfl ?_
                      show G _ _ _ _ [_, _, _, _, _, _, _, _, _, _, _, _, _, _, _, _, _, _, _, _, _, _, _, _, _, _, _, _, _, _, _, _, _, _, _, _, _, _, _, _, _, _, _, _, _, _, _, _, _, _, _, _, _, _, _, _, _, _, _, _, _, _, _, _, _, _, _, _, _, _, _, _, _, _, _, _, _, _, _, _, _, _, _, _, _, _, _, _, _, _, _, _, _, _, _, _, _, _, _, _, _, _, _, _, _, _, _, _, _, _, _, _, _, _, _, _, _, _, _, _, _, _, _, _, _, _, _, _, _, _, _, _, _, _, _, _, _, _, _, _, _, _, _, _, _, _] _
                      refine s_loadA rfl rfl (es := ((encA (encI .i16)) r31.2.1)) rfl rfl (fun _ => rfl) (n := 4) (fun _ => rfl) ((fkA (n := 4) (he := (fkI .i16).len) (h1 := (fkI .i16).one)).len _) (cells_all (hs.cells 4 rfl)) ?_
                      show G _ _ _ _ [_, _, _, _, _, _, _, _, _, _, _, _, _, _, _, _, _, _, _, _, _, _, _, _, _, _, _, _, _, _, _, _, _, _, _, _, _, _, _, _, _, _, _, _, _, _, _, _, _, _, _, _, _, _, _, _, _, _, _, _, _, _, _, _, _, _, _, _, _, _, _, _, _, _, _, _, _, _, _, _, _, _, _, _, _, _, _, _, _, _, _, _, _, _, _, _, _, _, _, _, _, _, _, _, _, _, _, _, _, _, _, _, _, _, _, _, _, _, _, _, _, _, _, _, _, _, _, _, _, _, _, _, _, _, _, _, _, _, _, _, _, _, _, _, _, _] _
                      refine s_loadA rfl rfl (es := ((encA (encI .i16)) r15.2.1)) rfl rfl (fun _ => rfl) (n := 4) (fun _ => rfl) ((fkA (n := 4) (he := (fkI .i16).len) (h1 := (fkI .i16).one)).len _) (cells_all (hs.cells 9 rfl)) ?_
                      show G _ _ _ _ [_, _, _, _, _, _, _, _, _, _, _, _, _, _, _, _, _, _, _, _, _, _, _, _, _, _, _, _, _, _, _, _, _, _, _, _, _, _, _, _, _, _, _, _, _, _, _, _, _, _, _, _, _, _, _, _, _, _, _, _, _, _, _, _, _, _, _, _, _, _, _, _, _, _, _, _, _, _, _, _, _, _, _, _, _, _, _, _, _, _, _, _, _, _, _, _, _, _, _, _, _, _, _, _, _, _, _, _, _, _, _, _, _, _, _, _, _, _, _, _, _, _, _, _, _, _, _, _, _, _, _, _, _, _, _, _, _, _, _, _, _, _, _, _, _, _] _
                      obtain ⟨r49, Hr49, H⟩ := bind_get H
                      refine s_call (args := [Value.agg ((encA (encI .i16)) r31.2.1).toArray, Value.agg ((encA (encI .i16)) r15.2.1).toArray]) rfl rfl (x_call rfl (callFunc_enter Try.func30 rfl rfl) rfl) (laws_eqTops.calls (a1 := r31.2.1) (a2 := r15.2.1) Hr49) ?_
                      rintro _ w ⟨rfl, hs2⟩
                      have hs : St _ [_, _, _, _, _, _, _, _, _, _, _] _ := hs.call hs2
                      show G _ _ _ _ [_, _, _, _, _, _, _, _, _, _, _, _, _, _, _, _, _, _, _, _, _, _, _, _, _, _, _, _, _, _, _, _, _, _, _, _, _, _, _, _, _, _, _, _, _, _, _, _, _, _, _, _, _, _, _, _, _, _, _, _, _, _, _, _, _, _, _, _, _, _, _, _, _, _, _, _, _, _, _, _, _, _, _, _, _, _, _, _, _, _, _, _, _, _, _, _, _, _, _, _, _, _, _, _, _, _, _, _, _, _, _, _, _, _, _, _, _, _, _, _, _, _, _, _, _, _, _, _, _, _, _, _, _, _, _, _, _, _, _, _, _, _, _, _, _, _] _
                      refine g_op (v := Value.bool (!r49)) rfl rfl rfl ?_
                      show G _ _ _ _ [_, _, _, _, _, _, _, _, _, _, _, _, _, _, _, _, _, _, _, _, _, _, _, _, _, _, _, _, _, _, _, _, _, _, _, _, _, _, _, _, _, _, _, _, _, _, _, _, _, _, _, _, _, _, _, _, _, _, _, _, _, _, _, _, _, _, _, _, _, _, _, _, _, _, _, _, _, _, _, _, _, _, _, _, _, _, _, _, _, _, _, _, _, _, _, _, _, _, _, _, _, _, _, _, _, _, _, _, _, _, _, _, _, _, _, _, _, _, _, _, _, _, _, _, _, _, _, _, _, _, _, _, _, _, _, _, _, _, _, _, _, _, _, _, _, _] _
                      refine g_op_b (B := !r49) rfl rfl rfl ?_ ?_
                      · intro hb
                        rw [if_neg (b_not_t hb)] at H
                        show G _ _ _ _ [_, _, _, _, _, _, _, _, _, _, _, _, _, _, _, _, _, _, _, _, _, _, _, _, _, _, _, _, _, _, _, _, _, _, _, _, _, _, _, _, _, _, _, _, _, _, _, _, _, _, _, _, _, _, _, _, _, _, _, _, _, _, _, _, _, _, _, _, _, _, _, _, _, _, _, _, _, _, _, _, _, _, _, _, _, _, _, _, _, _, _, _, _, _, _, _, _, _, _, _, _, _, _, _, _, _, _, _, _, _, _, _, _, _, _, _, _, _, _, _, _, _, _, _, _, _, _, _, _, _, _, _, _, _, _, _, _, _, _, _, _, _, _, _, _, _] _
                        refine g_op (v := Value.bool true) rfl rfl rfl ?_
                        show G _ _ _ _ [_, _, _, _, _, _, _, _, _, _, _, _, _, _, _, _, _, _, _, _, _, _, _, _, _, _, _, _, _, _, _, _, _, _, _, _, _, _, _, _, _, _, _, _, _, _, _, _, _, _, _, _, _, _, _, _, _, _, _, _, _, _, _, _, _, _, _, _, _, _, _, _, _, _, _, _, _, _, _, _, _, _, _, _, _, _, _, _, _, _, _, _, _, _, _, _, _, _, _, _, _, _, _, _, _, _, _, _, _, _, _, _, _, _, _, _, _, _, _, _, _, _, _, _, _, _, _, _, _, _, _, _, _, _, _, _, _, _, _, _, _, _, _, _, _, _] _
                        refine g_op_not rfl rfl ?_
                        show G _ _ _ _ [_, _, _, _, _, _, _, _, _, _, _, _, _, _, _, _, _, _, _, _, _, _, _, _, _, _, _, _, _, _, _, _, _, _, _, _, _, _, _, _, _, _, _, _, _, _, _, _, _, _, _, _, _, _, _, _, _, _, _, _, _, _, _, _, _, _, _, _, _, _, _, _, _, _, _, _, _, _, _, _, _, _, _, _, _, _, _, _, _, _, _, _, _, _, _, _, _, _, _, _, _, _, _, _, _, _, _, _, _, _, _, _, _, _, _, _, _, _, _, _, _, _, _, _, _, _, _, _, _, _, _, _, _, _, _, _, _, _, _, _, _, _, _, _, _, _] _
                        refine g_op_not rfl rfl ?_
                        show G _ _ _ _ [_, _, _, _, _, _, _, _, _, _, _, _, _, _, _, _, _, _, _, _, _, _, _, _, _, _, _, _, _, _, _, _, _, _, _, _, _, _, _, _, _, _, _, _, _, _, _, _, _, _, _, _, _, _, _, _, _, _, _, _, _, _, _, _, _, _, _, _, _, _, _, _, _, _, _, _, _, _, _, _, _, _, _, _, _, _, _, _, _, _, _, _, _, _, _, _, _, _, _, _, _, _, _, _, _, _, _, _, _, _, _, _, _, _, _, _, _, _, _, _, _, _, _, _, _, _, _, _, _, _, _, _, _, _, _, _, _, _, _, _, _, _, _, _, _, _] _
                        refine g_op_not rfl rfl ?_
                        show G _ _ _ _ [_, _, _, _, _, _, _, _, _, _, _, _, _, _, _, _, _, _, _, _, _, _, _, _, _, _, _, _, _, _, _, _, _, _, _, _, _, _, _, _, _, _, _, _, _, _, _, _, _, _, _, _, _, _, _, _, _, _, _, _, _, _, _, _, _, _, _, _, _, _, _, _, _, _, _, _, _, _, _, _, _, _, _, _, _, _, _, _, _, _, _, _, _, _, _, _, _, _, _, _, _, _, _, _, _, _, _, _, _, _, _, _, _, _, _, _, _, _, _, _, _, _, _, _, _, _, _, _, _, _, _, _, _, _, _, _, _, _, _, _, _, _, _, _, _, _] _
                        refine g_op (v := Value.bool true) rfl rfl rfl ?_
                        show G _ _ _ _ [_, _, _, _, _, _, _, _, _, _, _, _, _, _, _, _, _, _, _, _, _, _, _, _, _, _, _, _, _, _, _, _, _, _, _, _, _, _, _, _, _, _, _, _, _, _, _, _, _, _, _, _, _, _, _, _, _, _, _, _, _, _, _, _, _, _, _, _, _, _, _, _, _, _, _, _, _, _, _, _, _, _, _, _, _, _, _, _, _, _, _, _, _, _, _, _, _, _, _, _, _, _, _, _, _, _, _, _, _, _, _, _, _, _, _, _, _, _, _, _, _, _, _, _, _, _, _, _, _, _, _, _, _, _, _, _, _, _, _, _, _, _, _, _, _, _] _
                        refine g_ops_nil ?_
                        refine g_cond_true rfl ?_
                        refine g_seq ?_
                        refine g_region ?_
                        show G _ _ _ (.inRegion _ [0] :: _) _ _
                        refine g_op (v := Value.bool false) rfl rfl rfl ?_
                        show G _ _ _ _ [_, _, _, _, _, _, _, _, _, _, _, _, _, _, _, _, _, _, _, _, _, _, _, _, _, _, _, _, _, _, _, _, _, _, _, _, _, _, _, _, _, _, _, _, _, _, _, _, _, _, _, _, _, _, _, _, _, _, _, _, _, _, _, _, _, _, _, _, _, _, _, _, _, _, _, _, _, _, _, _, _, _, _, _, _, _, _, _, _, _, _, _, _, _, _, _, _, _, _, _, _, _, _, _, _, _, _, _, _, _, _, _, _, _, _, _, _, _, _, _, _, _, _, _, _, _, _, _, _, _, _, _, _, _, _, _, _, _, _, _, _, _, _, _, _, _] _
                        refine g_ops_nil ?_
                        obtain rfl := Option.some.inj H
                        refine g_ret Try.func12 (v := Value.bool false) (res1 rfl rfl) ?_
                        have hs : St _ [] _ := St.take (Γ' := [_, _, _, _, _, _, _, _, _, _, _]) hs
                        exact ⟨_, rfl, rfl, hs⟩
                      · intro hb
                        rw [if_pos (b_not_f hb)] at H
                        show G _ _ _ _ [_, _, _, _, _, _, _, _, _, _, _, _, _, _, _, _, _, _, _, _, _, _, _, _, _, _, _, _, _, _, _, _, _, _, _, _, _, _, _, _, _, _, _, _, _, _, _, _, _, _, _, _, _, _, _, _, _, _, _, _, _, _, _, _, _, _, _, _, _, _, _, _, _, _, _, _, _, _, _, _, _, _, _, _, _, _, _, _, _, _, _, _, _, _, _, _, _, _, _, _, _, _, _, _, _, _, _, _, _, _, _, _, _, _, _, _, _, _, _, _, _, _, _, _, _, _, _, _, _, _, _, _, _, _, _, _, _, _, _, _, _, _, _, _, _, _] _
                        refine g_op (v := Value.bool false) rfl rfl rfl ?_
                        show G _ _ _ _ [_, _, _, _, _, _, _, _, _, _, _, _, _, _, _, _, _, _, _, _, _, _, _, _, _, _, _, _, _, _, _, _, _, _, _, _, _, _, _, _, _, _, _, _, _, _, _, _, _, _, _, _, _, _, _, _, _, _, _, _, _, _, _, _, _, _, _, _, _, _, _, _, _, _, _, _, _, _, _, _, _, _, _, _, _, _, _, _, _, _, _, _, _, _, _, _, _, _, _, _, _, _, _, _, _, _, _, _, _, _, _, _, _, _, _, _, _, _, _, _, _, _, _, _, _, _, _, _, _, _, _, _, _, _, _, _, _, _, _, _, _, _, _, _, _, _] _
                        refine g_op (v := Value.int .i64 r31.2.2) rfl rfl rfl ?_
                        show G _ _ _ _ [_, _, _, _, _, _, _, _, _, _, _, _, _, _, _, _, _, _, _, _, _, _, _, _, _, _, _, _, _, _, _, _, _, _, _, _, _, _, _, _, _, _, _, _, _, _, _, _, _, _, _, _, _, _, _, _, _, _, _, _, _, _, _, _, _, _, _, _, _, _, _, _, _, _, _, _, _, _, _, _, _, _, _, _, _, _, _, _, _, _, _, _, _, _, _, _, _, _, _, _, _, _, _, _, _, _, _, _, _, _, _, _, _, _, _, _, _, _, _, _, _, _, _, _, _, _, _, _, _, _, _, _, _, _, _, _, _, _, _, _, _, _, _, _, _, _] _
                        refine g_op (v := Value.int .i64 r15.2.2) rfl rfl rfl ?_
                        show G _ _ _ _ [_, _, _, _, _, _, _, _, _, _, _, _, _, _, _, _, _, _, _, _, _, _, _, _, _, _, _, _, _, _, _, _, _, _, _, _, _, _, _, _, _, _, _, _, _, _, _, _, _, _, _, _, _, _, _, _, _, _, _, _, _, _, _, _, _, _, _, _, _, _, _, _, _, _, _, _, _, _, _, _, _, _, _, _, _, _, _, _, _, _, _, _, _, _, _, _, _, _, _, _, _, _, _, _, _, _, _, _, _, _, _, _, _, _, _, _, _, _, _, _, _, _, _, _, _, _, _, _, _, _, _, _, _, _, _, _, _, _, _, _, _, _, _, _, _, _] _
                        refine g_op_b (B := r31.2.2 != r15.2.2) rfl rfl rfl ?_ ?_
                        · intro hb
                          rw [if_neg (b_bne_t hb)] at H
                          show G _ _ _ _ [_, _, _, _, _, _, _, _, _, _, _, _, _, _, _, _, _, _, _, _, _, _, _, _, _, _, _, _, _, _, _, _, _, _, _, _, _, _, _, _, _, _, _, _, _, _, _, _, _, _, _, _, _, _, _, _, _, _, _, _, _, _, _, _, _, _, _, _, _, _, _, _, _, _, _, _, _, _, _, _, _, _, _, _, _, _, _, _, _, _, _, _, _, _, _, _, _, _, _, _, _, _, _, _, _, _, _, _, _, _, _, _, _, _, _, _, _, _, _, _, _, _, _, _, _, _, _, _, _, _, _, _, _, _, _, _, _, _, _, _, _, _, _, _, _, _] _
                          refine g_op (v := Value.bool true) rfl rfl rfl ?_
                          show G _ _ _ _ [_, _, _, _, _, _, _, _, _, _, _, _, _, _, _, _, _, _, _, _, _, _, _, _, _, _, _, _, _, _, _, _, _, _, _, _, _, _, _, _, _, _, _, _, _, _, _, _, _, _, _, _, _, _, _, _, _, _, _, _, _, _, _, _, _, _, _, _, _, _, _, _, _, _, _, _, _, _, _, _, _, _, _, _, _, _, _, _, _, _, _, _, _, _, _, _, _, _, _, _, _, _, _, _, _, _, _, _, _, _, _, _, _, _, _, _, _, _, _, _, _, _, _, _, _, _, _, _, _, _, _, _, _, _, _, _, _, _, _, _, _, _, _, _, _, _] _
                          refine g_ops_nil ?_
                          refine g_cond_true rfl ?_
                          refine g_seq ?_
                          refine g_region ?_
                          show G _ _ _ (.inRegion _ [0] :: _) _ _
                          refine g_op (v := Value.bool false) rfl rfl rfl ?_
                          show G _ _ _ _ [_, _, _, _, _, _, _, _, _, _, _, _, _, _, _, _, _, _, _, _, _, _, _, _, _, _, _, _, _, _, _, _, _, _, _, _, _, _, _, _, _, _, _, _, _, _, _, _, _, _, _, _, _, _, _, _, _, _, _, _, _, _, _, _, _, _, _, _, _, _, _, _, _, _, _, _, _, _, _, _, _, _, _, _, _, _, _, _, _, _, _, _, _, _, _, _, _, _, _, _, _, _, _, _, _, _, _, _, _, _, _, _, _, _, _, _, _, _, _, _, _, _, _, _, _, _, _, _, _, _, _, _, _, _, _, _, _, _, _, _, _, _, _, _, _, _] _
                          refine g_ops_nil ?_
                          obtain rfl := Option.some.inj H
                          refine g_ret Try.func12 (v := Value.bool false) (res1 rfl rfl) ?_
                          have hs : St _ [] _ := St.take (Γ' := [_, _, _, _, _, _, _, _, _, _, _]) hs
                          exact ⟨_, rfl, rfl, hs⟩
                        · intro hb
                          rw [if_pos (b_bne_f hb)] at H
                          show G _ _ _ _ [_, _, _, _, _, _, _, _, _, _, _, _, _, _, _, _, _, _, _, _, _, _, _, _, _, _, _, _, _, _, _, _, _, _, _, _, _, _, _, _, _, _, _, _, _, _, _, _, _, _, _, _, _, _, _, _, _, _, _, _, _, _, _, _, _, _, _, _, _, _, _, _, _, _, _, _, _, _, _, _, _, _, _, _, _, _, _, _, _, _, _, _, _, _, _, _, _, _, _, _, _, _, _, _, _, _, _, _, _, _, _, _, _, _, _, _, _, _, _, _, _, _, _, _, _, _, _, _, _, _, _, _, _, _, _, _, _, _, _, _, _, _, _, _, _, _] _
                          refine g_op (v := Value.bool false) rfl rfl rfl ?_
                          show G _ _ _ _ [_, _, _, _, _, _, _, _, _, _, _, _, _, _, _, _, _, _, _, _, _, _, _, _, _, _, _, _, _, _, _, _, _, _, _, _, _, _, _, _, _, _, _, _, _, _, _, _, _, _, _, _, _, _, _, _, _, _, _, _, _, _, _, _, _, _, _, _, _, _, _, _, _, _, _, _, _, _, _, _, _, _, _, _, _, _, _, _, _, _, _, _, _, _, _, _, _, _, _, _, _, _, _, _, _, _, _, _, _, _, _, _, _, _, _, _, _, _, _, _, _, _, _, _, _, _, _, _, _, _, _, _, _, _, _, _, _, _, _, _, _, _, _, _, _, _] _
                          refine g_ops_nil ?_
                          refine g_cond_false rfl ?_
                          refine g_skip ?_
                          refine g_seq ?_
                          refine g_region ?_
                          show G _ _ _ (.inRegion _ [0] :: _) _ _
                          refine g_op (v := Value.int .i64 1) rfl rfl rfl ?_
                          show G _ _ _ _ [_, _, _, _, _, _, _, _, _, _, _, _, _, _, _, _, _, _, _, _, _, _, _, _, _, _, _, _, _, _, _, _, _, _, _, _, _, _, _, _, _, _, _, _, _, _, _, _, _, _, _, _, _, _, _, _, _, _, _, _, _, _, _, _, _, _, _, _, _, _, _, _, _, _, _, _, _, _, _, _, _, _, _, _, _, _, _, _, _, _, _, _, _, _, _, _, _, _, _, _, _, _, _, _, _, _, _, _, _, _, _, _, _, _, _, _, _, _, _, _, _, _, _, _, _, _, _, _, _, _, _, _, _, _, _, _, _, _, _, _, _, _, _, _, _, _] _
                          refine g_ops_nil ?_
                          refine g_seq ?_
                          refine g_region ?_
                          show G _ _ _ (.inRegion _ [0, 1, 2, 3] :: _) _ _
                          refine g_op (v := v32) rfl rfl rfl ?_
                          show G _ _ _ _ [_, _, _, _, _, _, _, _, _, _, _, _, _, _, _, _, _, _, _, _, _, _, _, _, _, _, _, _, _, _, _, _, _, _, _, _, _, _, _, _, _, _, _, _, _, _, _, _, _, _, _, _, _, _, _, _, _, _, _, _, _, _, _, _, _, _, _, _, _, _, _, _, _, _, _, _, _, _, _, _, _, _, _, _, _, _, _, _, _, _, _, _, _, _, _, _, _, _, _, _, _, _, _, _, _, _, _, _, _, _, _, _, _, _, _, _, _, _, _, _, _, _, _, _, _, _, _, _, _, _, _, _, _, _, _, _, _, _, _, _, _, _, _, _, _, _] _
                          refine g_op (v := Value.int .i64 1) rfl rfl rfl ?_
                          show G _ _ _ _ [_, _, _, _, _, _, _, _, _, _, _, _, _, _, _, _, _, _, _, _, _, _, _, _, _, _, _, _, _, _, _, _, _, _, _, _, _, _, _, _, _, _, _, _, _, _, _, _, _, _, _, _, _, _, _, _, _, _, _, _, _, _, _, _, _, _, _, _, _, _, _, _, _, _, _, _, _, _, _, _, _, _, _, _, _, _, _, _, _, _, _, _, _, _, _, _, _, _, _, _, _, _, _, _, _, _, _, _, _, _, _, _, _, _, _, _, _, _, _, _, _, _, _, _, _, _, _, _, _, _, _, _, _, _, _, _, _, _, _, _, _, _, _, _, _, _] _
                          obtain ⟨r50, Hr50, H⟩ := bind_get H
                          have hs := hs.pull 5 rfl
                          have hs : St _ [_, _, _, _, _, _, _, _, _, _, _] _ := hs
                          have hs := hs.pack 1
                          refine s_call (args := [v32, Value.int .i64 1]) rfl rfl (x_call rfl (callFunc_enter Try.func42 rfl rfl) rfl) (laws_markInt64S.calls (a1 := r31.1) (a4 := 1) hs Hr50) ?_
                          rintro _ w ⟨rfl, hs⟩
                          have hs := St.unpack (Γ := [_]) hs
                          have hs : St _ [_, _, _, _, _, _, _, _, _, _, _] _ := hs
                          show G _ _ _ _ [_, _, _, _, _, _, _, _, _, _, _, _, _, _, _, _, _, _, _, _, _, _, _, _, _, _, _, _, _, _, _, _, _, _, _, _, _, _, _, _, _, _, _, _, _, _, _, _, _, _, _, _, _, _, _, _, _, _, _, _, _, _, _, _, _, _, _, _, _, _, _, _, _, _, _, _, _, _, _, _, _, _, _, _, _, _, _, _, _, _, _, _, _, _, _, _, _, _, _, _, _, _, _, _, _, _, _, _, _, _, _, _, _, _, _, _, _, _, _, _, _, _, _, _, _, _, _, _, _, _, _, _, _, _, _, _, _, _, _, _, _, _, _, _, _, _] _
                          refine g_op (v := Value.int .i64 r50.1) rfl rfl rfl ?_
                          show G _ _ _ _ [_, _, _, _, _, _, _, _, _, _, _, _, _, _, _, _, _, _, _, _, _, _, _, _, _, _, _, _, _, _, _, _, _, _, _, _, _, _, _, _, _, _, _, _, _, _, _, _, _, _, _, _, _, _, _, _, _, _, _, _, _, _, _, _, _, _, _, _, _, _, _, _, _, _, _, _, _, _, _, _, _, _, _, _, _, _, _, _, _, _, _, _, _, _, _, _, _, _, _, _, _, _, _, _, _, _, _, _, _, _, _, _, _, _, _, _, _, _, _, _, _, _, _, _, _, _, _, _, _, _, _, _, _, _, _, _, _, _, _, _, _, _, _, _, _, _] _
                          refine g_ops_nil ?_
                          refine g_seq ?_
                          refine g_region ?_
                          show G _ _ _ (.inRegion _ [0] :: _) _ _
                          refine g_op (v := Value.int .i64 1) rfl rfl rfl ?_
                          show G _ _ _ _ [_, _, _, _, _, _, _, _, _, _, _, _, _, _, _, _, _, _, _, _, _, _, _, _, _, _, _, _, _, _, _, _, _, _, _, _, _, _, _, _, _, _, _, _, _, _, _, _, _, _, _, _, _, _, _, _, _, _, _, _, _, _, _, _, _, _, _, _, _, _, _, _, _, _, _, _, _, _, _, _, _, _, _, _, _, _, _, _, _, _, _, _, _, _, _, _, _, _, _, _, _, _, _, _, _, _, _, _, _, _, _, _, _, _, _, _, _, _, _, _, _, _, _, _, _, _, _, _, _, _, _, _, _, _, _, _, _, _, _, _, _, _, _, _, _, _] _
                          refine g_ops_nil ?_
                          refine g_seq ?_
                          refine g_region ?_
                          show G _ _ _ (.inRegion _ [0, 1, 2, 3] :: _) _ _
                          refine g_op (v := v32) rfl rfl rfl ?_
                          show G _ _ _ _ [_, _, _, _, _, _, _, _, _, _, _, _, _, _, _, _, _, _, _, _, _, _, _, _, _, _, _, _, _, _, _, _, _, _, _, _, _, _, _, _, _, _, _, _, _, _, _, _, _, _, _, _, _, _, _, _, _, _, _, _, _, _, _, _, _, _, _, _, _, _, _, _, _, _, _, _, _, _, _, _, _, _, _, _, _, _, _, _, _, _, _, _, _, _, _, _, _, _, _, _, _, _, _, _, _, _, _, _, _, _, _, _, _, _, _, _, _, _, _, _, _, _, _, _, _, _, _, _, _, _, _, _, _, _, _, _, _, _, _, _, _, _, _, _, _, _] _
                          refine g_op (v := Value.int .i64 1) rfl rfl rfl ?_
                          show G _ _ _ _ [_, _, _, _, _, _, _, _, _, _, _, _, _, _, _, _, _, _, _, _, _, _, _, _, _, _, _, _, _, _, _, _, _, _, _, _, _, _, _, _, _, _, _, _, _, _, _, _, _, _, _, _, _, _, _, _, _, _, _, _, _, _, _, _, _, _, _, _, _, _, _, _, _, _, _, _, _, _, _, _, _, _, _, _, _, _, _, _, _, _, _, _, _, _, _, _, _, _, _, _, _, _, _, _, _, _, _, _, _, _, _, _, _, _, _, _, _, _, _, _, _, _, _, _, _, _, _, _, _, _, _, _, _, _, _, _, _, _, _, _, _, _, _, _, _, _] _
                          obtain ⟨r51, Hr51, H⟩ := bind_get H
                          refine s_call (args := [v32, Value.int .i64 1]) rfl rfl (x_call rfl (callFunc_enter Try.func43 rfl rfl) rfl) (laws_heldInt64S.calls (a1 := r50.2) (a3 := 1) (hs.row 0 rfl) Hr51) ?_
                          rintro _ w ⟨rfl, hs2⟩
                          have hs : St _ [_, _, _, _, _, _, _, _, _, _, _] _ := hs.call hs2
                          show G _ _ _ _ [_, _, _, _, _, _, _, _, _, _, _, _, _, _, _, _, _, _, _, _, _, _, _, _, _, _, _, _, _, _, _, _, _, _, _, _, _, _, _, _, _, _, _, _, _, _, _, _, _, _, _, _, _, _, _, _, _, _, _, _, _, _, _, _, _, _, _, _, _, _, _, _, _, _, _, _, _, _, _, _, _, _, _, _, _, _, _, _, _, _, _, _, _, _, _, _, _, _, _, _, _, _, _, _, _, _, _, _, _, _, _, _, _, _, _, _, _, _, _, _, _, _, _, _, _, _, _, _, _, _, _, _, _, _, _, _, _, _, _, _, _, _, _, _, _, _] _
                          refine g_op (v := Value.int .i64 r51) rfl rfl rfl ?_
                          show G _ _ _ _ [_, _, _, _, _, _, _, _, _, _, _, _, _, _, _, _, _, _, _, _, _, _, _, _, _, _, _, _, _, _, _, _, _, _, _, _, _, _, _, _, _, _, _, _, _, _, _, _, _, _, _, _, _, _, _, _, _, _, _, _, _, _, _, _, _, _, _, _, _, _, _, _, _, _, _, _, _, _, _, _, _, _, _, _, _, _, _, _, _, _, _, _, _, _, _, _, _, _, _, _, _, _, _, _, _, _, _, _, _, _, _, _, _, _, _, _, _, _, _, _, _, _, _, _, _, _, _, _, _, _, _, _, _, _, _, _, _, _, _, _, _, _, _, _, _, _] _
                          refine g_ops_nil ?_
                          refine g_seq ?_
                          refine g_seq ?_
                          refine g_region ?_
                          show G _ _ _ (.inRegion _ [0, 1] :: _) _ _
                          refine g_op (v := Value.int .i64 r51) rfl rfl rfl ?_
                          show G _ _ _ _ [_, _, _, _, _, _, _, _, _, _, _, _, _, _, _, _, _, _, _, _, _, _, _, _, _, _, _, _, _, _, _, _, _, _, _, _, _, _, _, _, _, _, _, _, _, _, _, _, _, _, _, _, _, _, _, _, _, _, _, _, _, _, _, _, _, _, _, _, _, _, _, _, _, _, _, _, _, _, _, _, _, _, _, _, _, _, _, _, _, _, _, _, _, _, _, _, _, _, _, _, _, _, _, _, _, _, _, _, _, _, _, _, _, _, _, _, _, _, _, _, _, _, _, _, _, _, _, _, _, _, _, _, _, _, _, _, _, _, _, _, _, _, _, _, _, _] _
                          refine g_op_b (B := decide (r51 < 0)) rfl rfl rfl ?_ ?_
                          · intro hb
                            rw [if_pos (b_dec_t hb)] at H
                            show G _ _ _ _ [_, _, _, _, _, _, _, _, _, _, _, _, _, _, _, _, _, _, _, _, _, _, _, _, _, _, _, _, _, _, _, _, _, _, _, _, _, _, _, _, _, _, _, _, _, _, _, _, _, _, _, _, _, _, _, _, _, _, _, _, _, _, _, _, _, _, _, _, _, _, _, _, _, _, _, _, _, _, _, _, _, _, _, _, _, _, _, _, _, _, _, _, _, _, _, _, _, _, _, _, _, _, _, _, _, _, _, _, _, _, _, _, _, _, _, _, _, _, _, _, _, _, _, _, _, _, _, _, _, _, _, _, _, _, _, _, _, _, _, _, _, _, _, _, _, _] _
                            refine g_ops_nil ?_
                            refine g_cond_true rfl ?_
                            refine g_seq ?_
                            refine g_region ?_
                            show G _ _ _ (.inRegion _ [0] :: _) _ _
                            refine g_op (v := Value.bool false) rfl rfl rfl ?_
                            show G _ _ _ _ [_, _, _, _, _, _, _, _, _, _, _, _, _, _, _, _, _, _, _, _, _, _, _, _, _, _, _, _, _, _, _, _, _, _, _, _, _, _, _, _, _, _, _, _, _, _, _, _, _, _, _, _, _, _, _, _, _, _, _, _, _, _, _, _, _, _, _, _, _, _, _, _, _, _, _, _, _, _, _, _, _, _, _, _, _, _, _, _, _, _, _, _, _, _, _, _, _, _, _, _, _, _, _, _, _, _, _, _, _, _, _, _, _, _, _, _, _, _, _, _, _, _, _, _, _, _, _, _, _, _, _, _, _, _, _, _, _, _, _, _, _, _, _, _, _, _] _
                            refine g_ops_nil ?_
                            obtain rfl := Option.some.inj H
                            refine g_ret Try.func12 (v := Value.bool false) (res1 rfl rfl) ?_
                            have hs : St _ [] _ := St.take (Γ' := [_, _, _, _, _, _, _, _, _, _, _]) hs
                            exact ⟨_, rfl, rfl, hs⟩
                          · intro hb
                            rw [if_neg (b_dec_f hb)] at H
                            show G _ _ _ _ [_, _, _, _, _, _, _, _, _, _, _, _, _, _, _, _, _, _, _, _, _, _, _, _, _, _, _, _, _, _, _, _, _, _, _, _, _, _, _, _, _, _, _, _, _, _, _, _, _, _, _, _, _, _, _, _, _, _, _, _, _, _, _, _, _, _, _, _, _, _, _, _, _, _, _, _, _, _, _, _, _, _, _, _, _, _, _, _, _, _, _, _, _, _, _, _, _, _, _, _, _, _, _, _, _, _, _, _, _, _, _, _, _, _, _, _, _, _, _, _, _, _, _, _, _, _, _, _, _, _, _, _, _, _, _, _, _, _, _, _, _, _, _, _, _, _] _
                            refine g_ops_nil ?_
                            refine g_cond_false rfl ?_
                            refine g_skip ?_
                            refine g_seq ?_
                            refine g_seq ?_
                            refine g_region ?_
                            show G _ _ _ (.inRegion _ [0, 1, 2] :: _) _ _
                            refine g_op (v := Value.int .i64 r51) rfl rfl rfl ?_
                            show G _ _ _ _ [_, _, _, _, _, _, _, _, _, _, _, _, _, _, _, _, _, _, _, _, _, _, _, _, _, _, _, _, _, _, _, _, _, _, _, _, _, _, _, _, _, _, _, _, _, _, _, _, _, _, _, _, _, _, _, _, _, _, _, _, _, _, _, _, _, _, _, _, _, _, _, _, _, _, _, _, _, _, _, _, _, _, _, _, _, _, _, _, _, _, _, _, _, _, _, _, _, _, _, _, _, _, _, _, _, _, _, _, _, _, _, _, _, _, _, _, _, _, _, _, _, _, _, _, _, _, _, _, _, _, _, _, _, _, _, _, _, _, _, _, _, _, _, _, _, _] _
                            refine g_op (v := Value.int .i64 r50.1) rfl rfl rfl ?_
                            show G _ _ _ _ [_, _, _, _, _, _, _, _, _, _, _, _, _, _, _, _, _, _, _, _, _, _, _, _, _, _, _, _, _, _, _, _, _, _, _, _, _, _, _, _, _, _, _, _, _, _, _, _, _, _, _, _, _, _, _, _, _, _, _, _, _, _, _, _, _, _, _, _, _, _, _, _, _, _, _, _, _, _, _, _, _, _, _, _, _, _, _, _, _, _, _, _, _, _, _, _, _, _, _, _, _, _, _, _, _, _, _, _, _, _, _, _, _, _, _, _, _, _, _, _, _, _, _, _, _, _, _, _, _, _, _, _, _, _, _, _, _, _, _, _, _, _, _, _, _, _] _
                            refine g_op_b (B := r51 != r50.1) rfl rfl rfl ?_ ?_
                            · intro hb
                              rw [if_neg (b_bne_t hb)] at H
                              show G _ _ _ _ [_, _, _, _, _, _, _, _, _, _, _, _, _, _, _, _, _, _, _, _, _, _, _, _, _, _, _, _, _, _, _, _, _, _, _, _, _, _, _, _, _, _, _, _, _, _, _, _, _, _, _, _, _, _, _, _, _, _, _, _, _, _, _, _, _, _, _, _, _, _, _, _, _, _, _, _, _, _, _, _, _, _, _, _, _, _, _, _, _, _, _, _, _, _, _, _, _, _, _, _, _, _, _, _, _, _, _, _, _, _, _, _, _, _, _, _, _, _, _, _, _, _, _, _, _, _, _, _, _, _, _, _, _, _, _, _, _, _, _, _, _, _, _, _, _, _] _
                              refine g_ops_nil ?_
                              refine g_cond_true rfl ?_
                              refine g_seq ?_
                              refine g_region ?_
                              show G _ _ _ (.inRegion _ [0] :: _) _ _
                              refine g_op (v := Value.bool false) rfl rfl rfl ?_
                              show G _ _ _ _ [_, _, _, _, _, _, _, _, _, _, _, _, _, _, _, _, _, _, _, _, _, _, _, _, _, _, _, _, _, _, _, _, _, _, _, _, _, _, _, _, _, _, _, _, _, _, _, _, _, _, _, _, _, _, _, _, _, _, _, _, _, _, _, _, _, _, _, _, _, _, _, _, _, _, _, _, _, _, _, _, _, _, _, _, _, _, _, _, _, _, _, _, _, _, _, _, _, _, _, _, _, _, _, _, _, _, _, _, _, _, _, _, _, _, _, _, _, _, _, _, _, _, _, _, _, _, _, _, _, _, _, _, _, _, _, _, _, _, _, _, _, _, _, _, _, _] _
                              refine g_ops_nil ?_
                              obtain rfl := Option.some.inj H
                              refine g_ret Try.func12 (v := Value.bool false) (res1 rfl rfl) ?_
                              have hs : St _ [] _ := St.take (Γ' := [_, _, _, _, _, _, _, _, _, _, _]) hs
                              exact ⟨_, rfl, rfl, hs⟩
                            · intro hb
                              rw [if_pos (b_bne_f hb)] at H
                              show G _ _ _ _ [_, _, _, _, _, _, _, _, _, _, _, _, _, _, _, _, _, _, _, _, _, _, _, _, _, _, _, _, _, _, _, _, _, _, _, _, _, _, _, _, _, _, _, _, _, _, _, _, _, _, _, _, _, _, _, _, _, _, _, _, _, _, _, _, _, _, _, _, _, _, _, _, _, _, _, _, _, _, _, _, _, _, _, _, _, _, _, _, _, _, _, _, _, _, _, _, _, _, _, _, _, _, _, _, _, _, _, _, _, _, _, _, _, _, _, _, _, _, _, _, _, _, _, _, _, _, _, _, _, _, _, _, _, _, _, _, _, _, _, _, _, _, _, _, _, _] _
                              refine g_ops_nil ?_
                              refine g_cond_false rfl ?_
                              refine g_skip ?_
                              refine g_seq ?_
                              obtain ⟨r52, Hr52, H⟩ := bind_get H
                              obtain ⟨r55, Hr55, H⟩ := bind_get H
                              obtain ⟨r56, Hr56, H⟩ := bind_get H
                              obtain ⟨r59, Hr59, H⟩ := bind_get H
                              refine g_name ?_
                              intro T hT
                              refine g_any (n := 15) rfl [0, 1, 2, 3, 4, 5, 6, 7, 8, 9, 10, 11, 12, 13, 14] [0, 1, 2, 3, 4, 5, 6, 7, 8, 11, 13, 9, 10, 12, 14] rfl rfl (Inv := fun D t w => ∃ v53 : Value, ∃ v57 : Value, ∃ v60 : Value, ∃ b62 : Nat, ∃ O : Nat → Value, t = [v2, Value.agg ((encA (encI .i16)) a3).toArray, v5, O 3, Value.pointer (some ⟨b6, 0, none⟩), O 5, Value.bool false, v16, Value.pointer (some ⟨b18, 0, none⟩), Value.int .i64 r15.2.2, v25, v28, v32, Value.pointer (some ⟨b34, 0, none⟩), Value.int .i64 r31.2.2, Value.int .i64 r47.1, Value.int .i64 r50.1, Value.int .i64 r51, cnd (D 12) v60 (O 18), cnd (D 11) (Value.pointer (some ⟨b62, 0, none⟩)) (O 19), cnd (D 14) (Value.int .i64 r59.2.2) (O 20), v2, Value.int .i64 (a1.length : Int), Value.bool false, v5, Value.int .i64 (a4.length : Int), Value.bool false, Value.tuple #[v16, Value.agg ((encA (encI .i16)) r15.2.1).toArray, Value.int .i64 r15.2.2], v2, v9, Value.agg ((encA (encI .i16)) a3).toArray, Value.agg ((encA (encI .i16)) r11).toArray, v5, v13, Value.tuple #[v16, Value.agg ((encA (encI .i16)) r15.2.1).toArray, Value.int .i64 r15.2.2], v16, Value.agg ((encA (encI .i16)) r15.2.1).toArray, Value.int .i64 r15.2.2, v2, v25, v5, v28, Value.tuple #[v32, Value.agg ((encA (encI .i16)) r31.2.1).toArray, Value.int .i64 r31.2.2], v25, Value.agg ((encA (encI .i16)) a3).toArray, Value.agg ((encA (encI .i16)) r30).toArray, v28, Value.tuple #[v32, Value.agg ((encA (encI .i16)) r31.2.1).toArray, Value.int .i64 r31.2.2], v32, Value.agg ((encA (encI .i16)) r31.2.1).toArray, Value.int .i64 r31.2.2, v32, v16, Value.bool true, Value.bool false, Value.bool false, Value.agg ((encA (encI .i16)) r31.2.1).toArray, Value.agg ((encA (encI .i16)) r15.2.1).toArray, Value.bool r37, Value.bool (!r37), Value.bool false, Value.bool false, Value.int .i64 r31.2.2, Value.int .i64 r15.2.2, Value.bool false, Value.bool false, v25, v2, v39, Value.bool true, Value.bool false, v28, v5, v43, Value.bool true, Value.bool false, v25, Value.int .i64 1, Value.int .i64 r46.1, v28, Value.int .i64 r46.1, Value.int .i64 r47.1, Value.int .i64 r47.1, Value.bool false, Value.bool false, v32, v16, Value.bool r48, Value.bool (!r48), Value.bool false, Value.bool false, Value.agg ((encA (encI .i16)) r31.2.1).toArray, Value.agg ((encA (encI .i16)) r15.2.1).toArray, Value.bool r49, Value.bool (!r49), Value.bool false, Value.bool false, Value.int .i64 r31.2.2, Value.int .i64 r15.2.2, Value.bool false, Value.bool false, v32, Value.int .i64 1, Value.int .i64 r50.1, v32, Value.int .i64 1, Value.int .i64 r51, Value.int .i64 r51, Value.bool false, Value.int .i64 r51, Value.int .i64 r50.1, Value.bool false, cnd (D 7) (Value.tuple #[v60, Value.agg ((encA (encI .i16)) r59.2.1).toArray, Value.int .i64 r59.2.2]) (O 112), cnd (D 0) v2 (O 113), cnd (D 1) v53 (O 114), cnd (D 2) (Value.agg ((encA (encI .i16)) a3).toArray) (O 115), cnd (D 3) (Value.agg ((encA (encI .i16)) r55).toArray) (O 116), cnd (D 4) v5 (O 117), cnd (D 5) v57 (O 118), cnd (D 6) (Value.tuple #[v60, Value.agg ((encA (encI .i16)) r59.2.1).toArray, Value.int .i64 r59.2.2]) (O 119), cnd (D 8) v60 (O 120), cnd (D 9) (Value.agg ((encA (encI .i16)) r59.2.1).toArray) (O 121), cnd (D 10) (Value.int .i64 r59.2.2) (O 122), O 123, O 124, O 125, O 126, O 127, O 128, O 129, O 130, O 131, O 132, O 133, O 134, O 135, O 136, O 137, O 138, O 139, O 140, O 141, O 142, O 143, O 144, O 145] ∧ St w0 [Asc (D 1) (Row 34 (K.int .i16) v53 r52), Asc (D 5) (Row 5 (K.int .u8) v57 r56), Asc (D 6) (Row 2 (K.int .i64) v60 r59.1), Asc (D 11) (Cells b62 (cnd (D 13) ((encA (encI .i16)) r59.2.1) ((encA (encI .i16)) (Ar.rep 4 0))) 37), Row 2 (K.int .i64) v32 r50.2, Row 5 (K.int .u8) v28 r47.2, Row 34 (K.int .i16) v25 r46.2, Row 5 (K.int .u8) v43 r42, Row 34 (K.int .i16) v39 r38, Cells b34 ((encA (encI .i16)) r31.2.1) 37, Row 34 (K.int .i16) v9 r8, Row 5 (K.int .u8) v13 r12, Row 2 (K.int .i64) v16 r15.1, Cells b18 ((encA (encI .i16)) r15.2.1) 37, Cells b6 ((encA (encI .i16)) a3) 35] w) ?_ ⟨⟨⟨⟨⟨⟨⟨⟨⟨⟨⟨⟨⟨⟨⟨trivial, ?_⟩, ?_⟩, ?_⟩, ?_⟩, ?_⟩, ?_⟩, ?_⟩, ?_⟩, ?_⟩, ?_⟩, ?_⟩, ?_⟩, ?_⟩, ?_⟩, ?_⟩ ?_
                              · intro w hh hbw
                                have hs := hs.samew hh hbw
                                have hs := hs.emp
                                have hs := hs.emp
                                have hs := hs.emp
                                have hs := hs.emp
                                exact ⟨undef, undef, undef, 0, fun i => T.getD i undef, (by subst hT; rfl), hs⟩
                              · intro D t w hD hp hcl hI rest hk
                                obtain ⟨v53, v57, v60, b62, O, ht, hs⟩ := hI
                                have q1_ : D 1 = false := not_yet (hcl.get 1 (by decide)) 0 0 rfl hD
                                have q3_ : D 3 = false := not_yet (hcl.get 3 (by decide)) 1 1 rfl q1_
                                have q5_ : D 5 = false := not_yet (hcl.get 5 (by decide)) 1 3 rfl q3_
                                have q6_ : D 6 = false := not_yet (hcl.get 6 (by decide)) 0 1 rfl q1_
                                have q7_ : D 7 = false := not_yet (hcl.get 7 (by decide)) 0 6 rfl q6_
                                have q8_ : D 8 = false := not_yet (hcl.get 8 (by decide)) 0 7 rfl q7_
                                have q9_ : D 9 = false := not_yet (hcl.get 9 (by decide)) 0 7 rfl q7_
                                have q10_ : D 10 = false := not_yet (hcl.get 10 (by decide)) 0 7 rfl q7_
                                have q12_ : D 12 = false := not_yet (hcl.get 12 (by decide)) 0 8 rfl q8_
                                have q13_ : D 13 = false := not_yet (hcl.get 13 (by decide)) 1 9 rfl q9_
                                have q14_ : D 14 = false := not_yet (hcl.get 14 (by decide)) 0 10 rfl q10_
                                have u0_ : upd D 0 0 = true := rfl
                                have u1_ : upd D 0 1 = D 1 := rfl
                                have u2_ : upd D 0 2 = D 2 := rfl
                                have u3_ : upd D 0 3 = D 3 := rfl
                                have u4_ : upd D 0 4 = D 4 := rfl
                                have u5_ : upd D 0 5 = D 5 := rfl
                                have u6_ : upd D 0 6 = D 6 := rfl
                                have u7_ : upd D 0 7 = D 7 := rfl
                                have u8_ : upd D 0 8 = D 8 := rfl
                                have u9_ : upd D 0 9 = D 9 := rfl
                                have u10_ : upd D 0 10 = D 10 := rfl
                                have u11_ : upd D 0 11 = D 11 := rfl
                                have u12_ : upd D 0 12 = D 12 := rfl
                                have u13_ : upd D 0 13 = D 13 := rfl
                                have u14_ : upd D 0 14 = D 14 := rfl
                                simp only [hD, q1_, q3_, q5_, q6_, q7_, q8_, q9_, q10_, q12_, q13_, q14_, cnd_t, cnd_f, Asc_t, Asc_f] at ht hs
                                subst ht
                                refine g_op (v := v2) rfl rfl rfl ?_
                                show G _ _ _ _ [_, _, _, _, _, _, _, _, _, _, _, _, _, _, _, _, _, _, _, _, _, _, _, _, _, _, _, _, _, _, _, _, _, _, _, _, _, _, _, _, _, _, _, _, _, _, _, _, _, _, _, _, _, _, _, _, _, _, _, _, _, _, _, _, _, _, _, _, _, _, _, _, _, _, _, _, _, _, _, _, _, _, _, _, _, _, _, _, _, _, _, _, _, _, _, _, _, _, _, _, _, _, _, _, _, _, _, _, _, _, _, _, _, _, _, _, _, _, _, _, _, _, _, _, _, _, _, _, _, _, _, _, _, _, _, _, _, _, _, _, _, _, _, _, _, _] _
                                exact hk _ _ ⟨v53, v57, v60, b62, O, (by simp only [u0_, u1_, u2_, u3_, u4_, u5_, u6_, u7_, u8_, u9_, u10_, u11_, u12_, u13_, u14_, q1_, q3_, q5_, q6_, q7_, q8_, q9_, q10_, q12_, q13_, q14_, cnd_t, cnd_f, Asc_t, Asc_f]), hs.cast (by first | rfl | simp only [List.take, List.drop, List.cons_append, List.nil_append, List.set_cons_zero, List.set_cons_succ, List.eraseIdx, u0_, u1_, u2_, u3_, u4_, u5_, u6_, u7_, u8_, u9_, u10_, u11_, u12_, u13_, u14_, q1_, q3_, q5_, q6_, q7_, q8_, q9_, q10_, q12_, q13_, q14_, cnd_t, cnd_f, Asc_t, Asc_f])⟩
                              · intro D t w hD hp hcl hI rest hk
                                obtain ⟨v53, v57, v60, b62, O, ht, hs⟩ := hI
                                obtain ⟨p0_, _⟩ := hp
                                have q3_ : D 3 = false := not_yet (hcl.get 3 (by decide)) 1 1 rfl hD
                                have q5_ : D 5 = false := not_yet (hcl.get 5 (by decide)) 1 3 rfl q3_
                                have q6_ : D 6 = false := not_yet (hcl.get 6 (by decide)) 0 1 rfl hD
                                have q7_ : D 7 = false := not_yet (hcl.get 7 (by decide)) 0 6 rfl q6_
                                have q8_ : D 8 = false := not_yet (hcl.get 8 (by decide)) 0 7 rfl q7_
                                have q9_ : D 9 = false := not_yet (hcl.get 9 (by decide)) 0 7 rfl q7_
                                have q10_ : D 10 = false := not_yet (hcl.get 10 (by decide)) 0 7 rfl q7_
                                have q12_ : D 12 = false := not_yet (hcl.get 12 (by decide)) 0 8 rfl q8_
                                have q13_ : D 13 = false := not_yet (hcl.get 13 (by decide)) 1 9 rfl q9_
                                have q14_ : D 14 = false := not_yet (hcl.get 14 (by decide)) 0 10 rfl q10_
                                have u0_ : upd D 1 0 = D 0 := rfl
                                have u1_ : upd D 1 1 = true := rfl
                                have u2_ : upd D 1 2 = D 2 := rfl
                                have u3_ : upd D 1 3 = D 3 := rfl
                                have u4_ : upd D 1 4 = D 4 := rfl
                                have u5_ : upd D 1 5 = D 5 := rfl
                                have u6_ : upd D 1 6 = D 6 := rfl
                                have u7_ : upd D 1 7 = D 7 := rfl
                                have u8_ : upd D 1 8 = D 8 := rfl
                                have u9_ : upd D 1 9 = D 9 := rfl
                                have u10_ : upd D 1 10 = D 10 := rfl
                                have u11_ : upd D 1 11 = D 11 := rfl
                                have u12_ : upd D 1 12 = D 12 := rfl
                                have u13_ : upd D 1 13 = D 13 := rfl
                                have u14_ : upd D 1 14 = D 14 := rfl
                                simp only [hD, p0_, q3_, q5_, q6_, q7_, q8_, q9_, q10_, q12_, q13_, q14_, cnd_t, cnd_f, Asc_t, Asc_f] at ht hs
                                subst ht
                                refine s_call (args := [v2]) rfl rfl (x_call rfl (callFunc_enter Try.func14 rfl rfl) rfl) (laws_toGlasses.calls (a1 := a1) (hs.rd hr0) Hr52) ?_
                                intro v53 w hs2
                                have hs : St _ [_, _, _, _, _, _, _, _, _, _, _, _, _, _, _, _] _ := hs.call hs2
                                show G _ _ _ _ [_, _, _, _, _, _, _, _, _, _, _, _, _, _, _, _, _, _, _, _, _, _, _, _, _, _, _, _, _, _, _, _, _, _, _, _, _, _, _, _, _, _, _, _, _, _, _, _, _, _, _, _, _, _, _, _, _, _, _, _, _, _, _, _, _, _, _, _, _, _, _, _, _, _, _, _, _, _, _, _, _, _, _, _, _, _, _, _, _, _, _, _, _, _, _, _, _, _, _, _, _, _, _, _, _, _, _, _, _, _, _, _, _, _, _, _, _, _, _, _, _, _, _, _, _, _, _, _, _, _, _, _, _, _, _, _, _, _, _, _, _, _, _, _, _, _] _
                                have hs := hs.fill 0 rfl
                                exact hk _ _ ⟨v53, v57, v60, b62, O, (by simp only [u0_, u1_, u2_, u3_, u4_, u5_, u6_, u7_, u8_, u9_, u10_, u11_, u12_, u13_, u14_, p0_, q3_, q5_, q6_, q7_, q8_, q9_, q10_, q12_, q13_, q14_, cnd_t, cnd_f, Asc_t, Asc_f]), hs.cast (by first | rfl | simp only [List.take, List.drop, List.cons_append, List.nil_append, List.set_cons_zero, List.set_cons_succ, List.eraseIdx, u0_, u1_, u2_, u3_, u4_, u5_, u6_, u7_, u8_, u9_, u10_, u11_, u12_, u13_, u14_, p0_, q3_, q5_, q6_, q7_, q8_, q9_, q10_, q12_, q13_, q14_, cnd_t, cnd_f, Asc_t, Asc_f])⟩
                              · intro D t w hD hp hcl hI rest hk
                                obtain ⟨v53, v57, v60, b62, O, ht, hs⟩ := hI
                                have q3_ : D 3 = false := not_yet (hcl.get 3 (by decide)) 0 2 rfl hD
                                have q5_ : D 5 = false := not_yet (hcl.get 5 (by decide)) 1 3 rfl q3_
                                have q6_ : D 6 = false := not_yet (hcl.get 6 (by decide)) 1 3 rfl q3_
                                have q7_ : D 7 = false := not_yet (hcl.get 7 (by decide)) 0 6 rfl q6_
                                have q8_ : D 8 = false := not_yet (hcl.get 8 (by decide)) 0 7 rfl q7_
                                have q9_ : D 9 = false := not_yet (hcl.get 9 (by decide)) 0 7 rfl q7_
                                have q10_ : D 10 = false := not_yet (hcl.get 10 (by decide)) 0 7 rfl q7_
                                have q12_ : D 12 = false := not_yet (hcl.get 12 (by decide)) 0 8 rfl q8_
                                have q13_ : D 13 = false := not_yet (hcl.get 13 (by decide)) 1 9 rfl q9_
                                have q14_ : D 14 = false := not_yet (hcl.get 14 (by decide)) 0 10 rfl q10_
                                have u0_ : upd D 2 0 = D 0 := rfl
                                have u1_ : upd D 2 1 = D 1 := rfl
                                have u2_ : upd D 2 2 = true := rfl
                                have u3_ : upd D 2 3 = D 3 := rfl
                                have u4_ : upd D 2 4 = D 4 := rfl
                                have u5_ : upd D 2 5 = D 5 := rfl
                                have u6_ : upd D 2 6 = D 6 := rfl
                                have u7_ : upd D 2 7 = D 7 := rfl
                                have u8_ : upd D 2 8 = D 8 := rfl
                                have u9_ : upd D 2 9 = D 9 := rfl
                                have u10_ : upd D 2 10 = D 10 := rfl
                                have u11_ : upd D 2 11 = D 11 := rfl
                                have u12_ : upd D 2 12 = D 12 := rfl
                                have u13_ : upd D 2 13 = D 13 := rfl
                                have u14_ : upd D 2 14 = D 14 := rfl
                                simp only [hD, q3_, q5_, q6_, q7_, q8_, q9_, q10_, q12_, q13_, q14_, cnd_t, cnd_f, Asc_t, Asc_f] at ht hs
                                subst ht
                                refine s_loadA rfl rfl (es := ((encA (encI .i16)) a3)) rfl rfl (fun _ => rfl) (n := 4) (fun _ => rfl) ((fkA (n := 4) (he := (fkI .i16).len) (h1 := (fkI .i16).one)).len _) (cells_all (hs.cells 14 rfl)) ?_
                                show G _ _ _ _ [_, _, _, _, _, _, _, _, _, _, _, _, _, _, _, _, _, _, _, _, _, _, _, _, _, _, _, _, _, _, _, _, _, _, _, _, _, _, _, _, _, _, _, _, _, _, _, _, _, _, _, _, _, _, _, _, _, _, _, _, _, _, _, _, _, _, _, _, _, _, _, _, _, _, _, _, _, _, _, _, _, _, _, _, _, _, _, _, _, _, _, _, _, _, _, _, _, _, _, _, _, _, _, _, _, _, _, _, _, _, _, _, _, _, _, _, _, _, _, _, _, _, _, _, _, _, _, _, _, _, _, _, _, _, _, _, _, _, _, _, _, _, _, _, _, _] _
                                exact hk _ _ ⟨v53, v57, v60, b62, O, (by simp only [u0_, u1_, u2_, u3_, u4_, u5_, u6_, u7_, u8_, u9_, u10_, u11_, u12_, u13_, u14_, q3_, q5_, q6_, q7_, q8_, q9_, q10_, q12_, q13_, q14_, cnd_t, cnd_f, Asc_t, Asc_f]), hs.cast (by first | rfl | simp only [List.take, List.drop, List.cons_append, List.nil_append, List.set_cons_zero, List.set_cons_succ, List.eraseIdx, u0_, u1_, u2_, u3_, u4_, u5_, u6_, u7_, u8_, u9_, u10_, u11_, u12_, u13_, u14_, q3_, q5_, q6_, q7_, q8_, q9_, q10_, q12_, q13_, q14_, cnd_t, cnd_f, Asc_t, Asc_f])⟩
                              · intro D t w hD hp hcl hI rest hk
                                obtain ⟨v53, v57, v60, b62, O, ht, hs⟩ := hI
                                obtain ⟨p2_, p1_, _⟩ := hp
                                obtain ⟨p0_, _⟩ := hcl.get 1 (by decide) p1_
                                have q5_ : D 5 = false := not_yet (hcl.get 5 (by decide)) 1 3 rfl hD
                                have q6_ : D 6 = false := not_yet (hcl.get 6 (by decide)) 1 3 rfl hD
                                have q7_ : D 7 = false := not_yet (hcl.get 7 (by decide)) 0 6 rfl q6_
                                have q8_ : D 8 = false := not_yet (hcl.get 8 (by decide)) 0 7 rfl q7_
                                have q9_ : D 9 = false := not_yet (hcl.get 9 (by decide)) 0 7 rfl q7_
                                have q10_ : D 10 = false := not_yet (hcl.get 10 (by decide)) 0 7 rfl q7_
                                have q12_ : D 12 = false := not_yet (hcl.get 12 (by decide)) 0 8 rfl q8_
                                have q13_ : D 13 = false := not_yet (hcl.get 13 (by decide)) 1 9 rfl q9_
                                have q14_ : D 14 = false := not_yet (hcl.get 14 (by decide)) 0 10 rfl q10_
                                have u0_ : upd D 3 0 = D 0 := rfl
                                have u1_ : upd D 3 1 = D 1 := rfl
                                have u2_ : upd D 3 2 = D 2 := rfl
                                have u3_ : upd D 3 3 = true := rfl
                                have u4_ : upd D 3 4 = D 4 := rfl
                                have u5_ : upd D 3 5 = D 5 := rfl
                                have u6_ : upd D 3 6 = D 6 := rfl
                                have u7_ : upd D 3 7 = D 7 := rfl
                                have u8_ : upd D 3 8 = D 8 := rfl
                                have u9_ : upd D 3 9 = D 9 := rfl
                                have u10_ : upd D 3 10 = D 10 := rfl
                                have u11_ : upd D 3 11 = D 11 := rfl
                                have u12_ : upd D 3 12 = D 12 := rfl
                                have u13_ : upd D 3 13 = D 13 := rfl
                                have u14_ : upd D 3 14 = D 14 := rfl
                                simp only [hD, p0_, p1_, p2_, q5_, q6_, q7_, q8_, q9_, q10_, q12_, q13_, q14_, cnd_t, cnd_f, Asc_t, Asc_f] at ht hs
                                subst ht
                                refine s_call (args := [Value.agg ((encA (encI .i16)) a3).toArray]) rfl rfl (x_call rfl (callFunc_enter Try.func22 rfl rfl) rfl) (laws_toTops.calls (a1 := a3) Hr55) ?_
                                rintro _ w ⟨rfl, hs2⟩
                                have hs : St _ [_, _, _, _, _, _, _, _, _, _, _, _, _, _, _] _ := hs.call hs2
                                show G _ _ _ _ [_, _, _, _, _, _, _, _, _, _, _, _, _, _, _, _, _, _, _, _, _, _, _, _, _, _, _, _, _, _, _, _, _, _, _, _, _, _, _, _, _, _, _, _, _, _, _, _, _, _, _, _, _, _, _, _, _, _, _, _, _, _, _, _, _, _, _, _, _, _, _, _, _, _, _, _, _, _, _, _, _, _, _, _, _, _, _, _, _, _, _, _, _, _, _, _, _, _, _, _, _, _, _, _, _, _, _, _, _, _, _, _, _, _, _, _, _, _, _, _, _, _, _, _, _, _, _, _, _, _, _, _, _, _, _, _, _, _, _, _, _, _, _, _, _, _] _
                                exact hk _ _ ⟨v53, v57, v60, b62, O, (by simp only [u0_, u1_, u2_, u3_, u4_, u5_, u6_, u7_, u8_, u9_, u10_, u11_, u12_, u13_, u14_, p0_, p1_, p2_, q5_, q6_, q7_, q8_, q9_, q10_, q12_, q13_, q14_, cnd_t, cnd_f, Asc_t, Asc_f]), hs.cast (by first | rfl | simp only [List.take, List.drop, List.cons_append, List.nil_append, List.set_cons_zero, List.set_cons_succ, List.eraseIdx, u0_, u1_, u2_, u3_, u4_, u5_, u6_, u7_, u8_, u9_, u10_, u11_, u12_, u13_, u14_, p0_, p1_, p2_, q5_, q6_, q7_, q8_, q9_, q10_, q12_, q13_, q14_, cnd_t, cnd_f, Asc_t, Asc_f])⟩
                              · intro D t w hD hp hcl hI rest hk
                                obtain ⟨v53, v57, v60, b62, O, ht, hs⟩ := hI
                                have q5_ : D 5 = false := not_yet (hcl.get 5 (by decide)) 0 4 rfl hD
                                have q6_ : D 6 = false := not_yet (hcl.get 6 (by decide)) 2 5 rfl q5_
                                have q7_ : D 7 = false := not_yet (hcl.get 7 (by decide)) 0 6 rfl q6_
                                have q8_ : D 8 = false := not_yet (hcl.get 8 (by decide)) 0 7 rfl q7_
                                have q9_ : D 9 = false := not_yet (hcl.get 9 (by decide)) 0 7 rfl q7_
                                have q10_ : D 10 = false := not_yet (hcl.get 10 (by decide)) 0 7 rfl q7_
                                have q12_ : D 12 = false := not_yet (hcl.get 12 (by decide)) 0 8 rfl q8_
                                have q13_ : D 13 = false := not_yet (hcl.get 13 (by decide)) 1 9 rfl q9_
                                have q14_ : D 14 = false := not_yet (hcl.get 14 (by decide)) 0 10 rfl q10_
                                have u0_ : upd D 4 0 = D 0 := rfl
                                have u1_ : upd D 4 1 = D 1 := rfl
                                have u2_ : upd D 4 2 = D 2 := rfl
                                have u3_ : upd D 4 3 = D 3 := rfl
                                have u4_ : upd D 4 4 = true := rfl
                                have u5_ : upd D 4 5 = D 5 := rfl
                                have u6_ : upd D 4 6 = D 6 := rfl
                                have u7_ : upd D 4 7 = D 7 := rfl
                                have u8_ : upd D 4 8 = D 8 := rfl
                                have u9_ : upd D 4 9 = D 9 := rfl
                                have u10_ : upd D 4 10 = D 10 := rfl
                                have u11_ : upd D 4 11 = D 11 := rfl
                                have u12_ : upd D 4 12 = D 12 := rfl
                                have u13_ : upd D 4 13 = D 13 := rfl
                                have u14_ : upd D 4 14 = D 14 := rfl
                                simp only [hD, q5_, q6_, q7_, q8_, q9_, q10_, q12_, q13_, q14_, cnd_t, cnd_f, Asc_t, Asc_f] at ht hs
                                subst ht
                                refine g_op (v := v5) rfl rfl rfl ?_
                                show G _ _ _ _ [_, _, _, _, _, _, _, _, _, _, _, _, _, _, _, _, _, _, _, _, _, _, _, _, _, _, _, _, _, _, _, _, _, _, _, _, _, _, _, _, _, _, _, _, _, _, _, _, _, _, _, _, _, _, _, _, _, _, _, _, _, _, _, _, _, _, _, _, _, _, _, _, _, _, _, _, _, _, _, _, _, _, _, _, _, _, _, _, _, _, _, _, _, _, _, _, _, _, _, _, _, _, _, _, _, _, _, _, _, _, _, _, _, _, _, _, _, _, _, _, _, _, _, _, _, _, _, _, _, _, _, _, _, _, _, _, _, _, _, _, _, _, _, _, _, _] _
                                exact hk _ _ ⟨v53, v57, v60, b62, O, (by simp only [u0_, u1_, u2_, u3_, u4_, u5_, u6_, u7_, u8_, u9_, u10_, u11_, u12_, u13_, u14_, q5_, q6_, q7_, q8_, q9_, q10_, q12_, q13_, q14_, cnd_t, cnd_f, Asc_t, Asc_f]), hs.cast (by first | rfl | simp only [List.take, List.drop, List.cons_append, List.nil_append, List.set_cons_zero, List.set_cons_succ, List.eraseIdx, u0_, u1_, u2_, u3_, u4_, u5_, u6_, u7_, u8_, u9_, u10_, u11_, u12_, u13_, u14_, q5_, q6_, q7_, q8_, q9_, q10_, q12_, q13_, q14_, cnd_t, cnd_f, Asc_t, Asc_f])⟩
                              · intro D t w hD hp hcl hI rest hk
                                obtain ⟨v53, v57, v60, b62, O, ht, hs⟩ := hI
                                obtain ⟨p4_, p3_, _⟩ := hp
                                obtain ⟨p2_, p1_, _⟩ := hcl.get 3 (by decide) p3_
                                obtain ⟨p0_, _⟩ := hcl.get 1 (by decide) p1_
                                have q6_ : D 6 = false := not_yet (hcl.get 6 (by decide)) 2 5 rfl hD
                                have q7_ : D 7 = false := not_yet (hcl.get 7 (by decide)) 0 6 rfl q6_
                                have q8_ : D 8 = false := not_yet (hcl.get 8 (by decide)) 0 7 rfl q7_
                                have q9_ : D 9 = false := not_yet (hcl.get 9 (by decide)) 0 7 rfl q7_
                                have q10_ : D 10 = false := not_yet (hcl.get 10 (by decide)) 0 7 rfl q7_
                                have q12_ : D 12 = false := not_yet (hcl.get 12 (by decide)) 0 8 rfl q8_
                                have q13_ : D 13 = false := not_yet (hcl.get 13 (by decide)) 1 9 rfl q9_
                                have q14_ : D 14 = false := not_yet (hcl.get 14 (by decide)) 0 10 rfl q10_
                                have u0_ : upd D 5 0 = D 0 := rfl
                                have u1_ : upd D 5 1 = D 1 := rfl
                                have u2_ : upd D 5 2 = D 2 := rfl
                                have u3_ : upd D 5 3 = D 3 := rfl
                                have u4_ : upd D 5 4 = D 4 := rfl
                                have u5_ : upd D 5 5 = true := rfl
                                have u6_ : upd D 5 6 = D 6 := rfl
                                have u7_ : upd D 5 7 = D 7 := rfl
                                have u8_ : upd D 5 8 = D 8 := rfl
                                have u9_ : upd D 5 9 = D 9 := rfl
                                have u10_ : upd D 5 10 = D 10 := rfl
                                have u11_ : upd D 5 11 = D 11 := rfl
                                have u12_ : upd D 5 12 = D 12 := rfl
                                have u13_ : upd D 5 13 = D 13 := rfl
                                have u14_ : upd D 5 14 = D 14 := rfl
                                simp only [hD, p0_, p1_, p2_, p3_, p4_, q6_, q7_, q8_, q9_, q10_, q12_, q13_, q14_, cnd_t, cnd_f, Asc_t, Asc_f] at ht hs
                                subst ht
                                refine s_call (args := [v5]) rfl rfl (x_call rfl (callFunc_enter Try.func18 rfl rfl) rfl) (laws_toByteS.calls (a1 := a4) (hs.rd hr2) Hr56) ?_
                                intro v57 w hs2
                                have hs : St _ [_, _, _, _, _, _, _, _, _, _, _, _, _, _, _, _] _ := hs.call hs2
                                show G _ _ _ _ [_, _, _, _, _, _, _, _, _, _, _, _, _, _, _, _, _, _, _, _, _, _, _, _, _, _, _, _, _, _, _, _, _, _, _, _, _, _, _, _, _, _, _, _, _, _, _, _, _, _, _, _, _, _, _, _, _, _, _, _, _, _, _, _, _, _, _, _, _, _, _, _, _, _, _, _, _, _, _, _, _, _, _, _, _, _, _, _, _, _, _, _, _, _, _, _, _, _, _, _, _, _, _, _, _, _, _, _, _, _, _, _, _, _, _, _, _, _, _, _, _, _, _, _, _, _, _, _, _, _, _, _, _, _, _, _, _, _, _, _, _, _, _, _, _, _] _
                                have hs := hs.fill 1 rfl
                                exact hk _ _ ⟨v53, v57, v60, b62, O, (by simp only [u0_, u1_, u2_, u3_, u4_, u5_, u6_, u7_, u8_, u9_, u10_, u11_, u12_, u13_, u14_, p0_, p1_, p2_, p3_, p4_, q6_, q7_, q8_, q9_, q10_, q12_, q13_, q14_, cnd_t, cnd_f, Asc_t, Asc_f]), hs.cast (by first | rfl | simp only [List.take, List.drop, List.cons_append, List.nil_append, List.set_cons_zero, List.set_cons_succ, List.eraseIdx, u0_, u1_, u2_, u3_, u4_, u5_, u6_, u7_, u8_, u9_, u10_, u11_, u12_, u13_, u14_, p0_, p1_, p2_, p3_, p4_, q6_, q7_, q8_, q9_, q10_, q12_, q13_, q14_, cnd_t, cnd_f, Asc_t, Asc_f])⟩
                              · intro D t w hD hp hcl hI rest hk
                                obtain ⟨v53, v57, v60, b62, O, ht, hs⟩ := hI
                                obtain ⟨p1_, p3_, p5_, _, _⟩ := hp
                                obtain ⟨p4_, _, _⟩ := hcl.get 5 (by decide) p5_
                                obtain ⟨p2_, _, _⟩ := hcl.get 3 (by decide) p3_
                                obtain ⟨p0_, _⟩ := hcl.get 1 (by decide) p1_
                                have q7_ : D 7 = false := not_yet (hcl.get 7 (by decide)) 0 6 rfl hD
                                have q8_ : D 8 = false := not_yet (hcl.get 8 (by decide)) 0 7 rfl q7_
                                have q9_ : D 9 = false := not_yet (hcl.get 9 (by decide)) 0 7 rfl q7_
                                have q10_ : D 10 = false := not_yet (hcl.get 10 (by decide)) 0 7 rfl q7_
                                have q12_ : D 12 = false := not_yet (hcl.get 12 (by decide)) 0 8 rfl q8_
                                have q13_ : D 13 = false := not_yet (hcl.get 13 (by decide)) 1 9 rfl q9_
                                have q14_ : D 14 = false := not_yet (hcl.get 14 (by decide)) 0 10 rfl q10_
                                have u0_ : upd D 6 0 = D 0 := rfl
                                have u1_ : upd D 6 1 = D 1 := rfl
                                have u2_ : upd D 6 2 = D 2 := rfl
                                have u3_ : upd D 6 3 = D 3 := rfl
                                have u4_ : upd D 6 4 = D 4 := rfl
                                have u5_ : upd D 6 5 = D 5 := rfl
                                have u6_ : upd D 6 6 = true := rfl
                                have u7_ : upd D 6 7 = D 7 := rfl
                                have u8_ : upd D 6 8 = D 8 := rfl
                                have u9_ : upd D 6 9 = D 9 := rfl
                                have u10_ : upd D 6 10 = D 10 := rfl
                                have u11_ : upd D 6 11 = D 11 := rfl
                                have u12_ : upd D 6 12 = D 12 := rfl
                                have u13_ : upd D 6 13 = D 13 := rfl
                                have u14_ : upd D 6 14 = D 14 := rfl
                                simp only [hD, p0_, p1_, p2_, p3_, p4_, p5_, q7_, q8_, q9_, q10_, q12_, q13_, q14_, cnd_t, cnd_f, Asc_t, Asc_f] at ht hs
                                subst ht
                                refine s_call (args := [v53, Value.agg ((encA (encI .i16)) r55).toArray, v57]) rfl rfl (x_call rfl (callFunc_enter Try.func38 rfl rfl) rfl) (impl_RunTurns.calls (a1 := r52) (a3 := r55) (a4 := r56) (hs.row 0 rfl) (hs.row 1 rfl) Hr59) ?_
                                rintro _ w ⟨v60, rfl, hs2⟩
                                have hs : St _ [_, _, _, _, _, _, _, _, _, _, _, _, _, _, _, _] _ := hs.call hs2
                                show G _ _ _ _ [_, _, _, _, _, _, _, _, _, _, _, _, _, _, _, _, _, _, _, _, _, _, _, _, _, _, _, _, _, _, _, _, _, _, _, _, _, _, _, _, _, _, _, _, _, _, _, _, _, _, _, _, _, _, _, _, _, _, _, _, _, _, _, _, _, _, _, _, _, _, _, _, _, _, _, _, _, _, _, _, _, _, _, _, _, _, _, _, _, _, _, _, _, _, _, _, _, _, _, _, _, _, _, _, _, _, _, _, _, _, _, _, _, _, _, _, _, _, _, _, _, _, _, _, _, _, _, _, _, _, _, _, _, _, _, _, _, _, _, _, _, _, _, _, _, _] _
                                have hs := hs.fill 2 rfl
                                exact hk _ _ ⟨v53, v57, v60, b62, O, (by simp only [u0_, u1_, u2_, u3_, u4_, u5_, u6_, u7_, u8_, u9_, u10_, u11_, u12_, u13_, u14_, p0_, p1_, p2_, p3_, p4_, p5_, q7_, q8_, q9_, q10_, q12_, q13_, q14_, cnd_t, cnd_f, Asc_t, Asc_f]), hs.cast (by first | rfl | simp only [List.take, List.drop, List.cons_append, List.nil_append, List.set_cons_zero, List.set_cons_succ, List.eraseIdx, u0_, u1_, u2_, u3_, u4_, u5_, u6_, u7_, u8_, u9_, u10_, u11_, u12_, u13_, u14_, p0_, p1_, p2_, p3_, p4_, p5_, q7_, q8_, q9_, q10_, q12_, q13_, q14_, cnd_t, cnd_f, Asc_t, Asc_f])⟩
                              · intro D t w hD hp hcl hI rest hk
                                obtain ⟨v53, v57, v60, b62, O, ht, hs⟩ := hI
                                obtain ⟨p6_, _⟩ := hp
                                obtain ⟨p1_, p3_, p5_, _, _⟩ := hcl.get 6 (by decide) p6_
                                obtain ⟨p4_, _, _⟩ := hcl.get 5 (by decide) p5_
                                obtain ⟨p2_, _, _⟩ := hcl.get 3 (by decide) p3_
                                obtain ⟨p0_, _⟩ := hcl.get 1 (by decide) p1_
                                have q8_ : D 8 = false := not_yet (hcl.get 8 (by decide)) 0 7 rfl hD
                                have q9_ : D 9 = false := not_yet (hcl.get 9 (by decide)) 0 7 rfl hD
                                have q10_ : D 10 = false := not_yet (hcl.get 10 (by decide)) 0 7 rfl hD
                                have q12_ : D 12 = false := not_yet (hcl.get 12 (by decide)) 0 8 rfl q8_
                                have q13_ : D 13 = false := not_yet (hcl.get 13 (by decide)) 1 9 rfl q9_
                                have q14_ : D 14 = false := not_yet (hcl.get 14 (by decide)) 0 10 rfl q10_
                                have u0_ : upd D 7 0 = D 0 := rfl
                                have u1_ : upd D 7 1 = D 1 := rfl
                                have u2_ : upd D 7 2 = D 2 := rfl
                                have u3_ : upd D 7 3 = D 3 := rfl
                                have u4_ : upd D 7 4 = D 4 := rfl
                                have u5_ : upd D 7 5 = D 5 := rfl
                                have u6_ : upd D 7 6 = D 6 := rfl
                                have u7_ : upd D 7 7 = true := rfl
                                have u8_ : upd D 7 8 = D 8 := rfl
                                have u9_ : upd D 7 9 = D 9 := rfl
                                have u10_ : upd D 7 10 = D 10 := rfl
                                have u11_ : upd D 7 11 = D 11 := rfl
                                have u12_ : upd D 7 12 = D 12 := rfl
                                have u13_ : upd D 7 13 = D 13 := rfl
                                have u14_ : upd D 7 14 = D 14 := rfl
                                simp only [hD, p0_, p1_, p2_, p3_, p4_, p5_, p6_, q8_, q9_, q10_, q12_, q13_, q14_, cnd_t, cnd_f, Asc_t, Asc_f] at ht hs
                                subst ht
                                refine g_op (v := Value.tuple #[v60, Value.agg ((encA (encI .i16)) r59.2.1).toArray, Value.int .i64 r59.2.2]) rfl rfl rfl ?_
                                show G _ _ _ _ [_, _, _, _, _, _, _, _, _, _, _, _, _, _, _, _, _, _, _, _, _, _, _, _, _, _, _, _, _, _, _, _, _, _, _, _, _, _, _, _, _, _, _, _, _, _, _, _, _, _, _, _, _, _, _, _, _, _, _, _, _, _, _, _, _, _, _, _, _, _, _, _, _, _, _, _, _, _, _, _, _, _, _, _, _, _, _, _, _, _, _, _, _, _, _, _, _, _, _, _, _, _, _, _, _, _, _, _, _, _, _, _, _, _, _, _, _, _, _, _, _, _, _, _, _, _, _, _, _, _, _, _, _, _, _, _, _, _, _, _, _, _, _, _, _, _] _
                                exact hk _ _ ⟨v53, v57, v60, b62, O, (by simp only [u0_, u1_, u2_, u3_, u4_, u5_, u6_, u7_, u8_, u9_, u10_, u11_, u12_, u13_, u14_, p0_, p1_, p2_, p3_, p4_, p5_, p6_, q8_, q9_, q10_, q12_, q13_, q14_, cnd_t, cnd_f, Asc_t, Asc_f]), hs.cast (by first | rfl | simp only [List.take, List.drop, List.cons_append, List.nil_append, List.set_cons_zero, List.set_cons_succ, List.eraseIdx, u0_, u1_, u2_, u3_, u4_, u5_, u6_, u7_, u8_, u9_, u10_, u11_, u12_, u13_, u14_, p0_, p1_, p2_, p3_, p4_, p5_, p6_, q8_, q9_, q10_, q12_, q13_, q14_, cnd_t, cnd_f, Asc_t, Asc_f])⟩
                              · intro D t w hD hp hcl hI rest hk
                                obtain ⟨v53, v57, v60, b62, O, ht, hs⟩ := hI
                                obtain ⟨p7_, _⟩ := hp
                                obtain ⟨p6_, _⟩ := hcl.get 7 (by decide) p7_
                                obtain ⟨p1_, p3_, p5_, _, _⟩ := hcl.get 6 (by decide) p6_
                                obtain ⟨p4_, _, _⟩ := hcl.get 5 (by decide) p5_
                                obtain ⟨p2_, _, _⟩ := hcl.get 3 (by decide) p3_
                                obtain ⟨p0_, _⟩ := hcl.get 1 (by decide) p1_
                                have q12_ : D 12 = false := not_yet (hcl.get 12 (by decide)) 0 8 rfl hD
                                have q13_ : D 13 = false := not_yet (hcl.get 13 (by decide)) 2 12 rfl q12_
                                have q14_ : D 14 = false := not_yet (hcl.get 14 (by decide)) 1 13 rfl q13_
                                have u0_ : upd D 8 0 = D 0 := rfl
                                have u1_ : upd D 8 1 = D 1 := rfl
                                have u2_ : upd D 8 2 = D 2 := rfl
                                have u3_ : upd D 8 3 = D 3 := rfl
                                have u4_ : upd D 8 4 = D 4 := rfl
                                have u5_ : upd D 8 5 = D 5 := rfl
                                have u6_ : upd D 8 6 = D 6 := rfl
                                have u7_ : upd D 8 7 = D 7 := rfl
                                have u8_ : upd D 8 8 = true := rfl
                                have u9_ : upd D 8 9 = D 9 := rfl
                                have u10_ : upd D 8 10 = D 10 := rfl
                                have u11_ : upd D 8 11 = D 11 := rfl
                                have u12_ : upd D 8 12 = D 12 := rfl
                                have u13_ : upd D 8 13 = D 13 := rfl
                                have u14_ : upd D 8 14 = D 14 := rfl
                                simp only [hD, p0_, p1_, p2_, p3_, p4_, p5_, p6_, p7_, q12_, q13_, q14_, cnd_t, cnd_f, Asc_t, Asc_f] at ht hs
                                subst ht
                                refine g_op (v := v60) rfl rfl rfl ?_
                                show G _ _ _ _ [_, _, _, _, _, _, _, _, _, _, _, _, _, _, _, _, _, _, _, _, _, _, _, _, _, _, _, _, _, _, _, _, _, _, _, _, _, _, _, _, _, _, _, _, _, _, _, _, _, _, _, _, _, _, _, _, _, _, _, _, _, _, _, _, _, _, _, _, _, _, _, _, _, _, _, _, _, _, _, _, _, _, _, _, _, _, _, _, _, _, _, _, _, _, _, _, _, _, _, _, _, _, _, _, _, _, _, _, _, _, _, _, _, _, _, _, _, _, _, _, _, _, _, _, _, _, _, _, _, _, _, _, _, _, _, _, _, _, _, _, _, _, _, _, _, _] _
                                exact hk _ _ ⟨v53, v57, v60, b62, O, (by simp only [u0_, u1_, u2_, u3_, u4_, u5_, u6_, u7_, u8_, u9_, u10_, u11_, u12_, u13_, u14_, p0_, p1_, p2_, p3_, p4_, p5_, p6_, p7_, q12_, q13_, q14_, cnd_t, cnd_f, Asc_t, Asc_f]), hs.cast (by first | rfl | simp only [List.take, List.drop, List.cons_append, List.nil_append, List.set_cons_zero, List.set_cons_succ, List.eraseIdx, u0_, u1_, u2_, u3_, u4_, u5_, u6_, u7_, u8_, u9_, u10_, u11_, u12_, u13_, u14_, p0_, p1_, p2_, p3_, p4_, p5_, p6_, p7_, q12_, q13_, q14_, cnd_t, cnd_f, Asc_t, Asc_f])⟩
                              · intro D t w hD hp hcl hI rest hk
                                obtain ⟨v53, v57, v60, b62, O, ht, hs⟩ := hI
                                obtain ⟨p7_, _⟩ := hp
                                obtain ⟨p6_, _⟩ := hcl.get 7 (by decide) p7_
                                obtain ⟨p1_, p3_, p5_, _, _⟩ := hcl.get 6 (by decide) p6_
                                obtain ⟨p4_, _, _⟩ := hcl.get 5 (by decide) p5_
                                obtain ⟨p2_, _, _⟩ := hcl.get 3 (by decide) p3_
                                obtain ⟨p0_, _⟩ := hcl.get 1 (by decide) p1_
                                have q13_ : D 13 = false := not_yet (hcl.get 13 (by decide)) 1 9 rfl hD
                                have q14_ : D 14 = false := not_yet (hcl.get 14 (by decide)) 1 13 rfl q13_
                                have u0_ : upd D 9 0 = D 0 := rfl
                                have u1_ : upd D 9 1 = D 1 := rfl
                                have u2_ : upd D 9 2 = D 2 := rfl
                                have u3_ : upd D 9 3 = D 3 := rfl
                                have u4_ : upd D 9 4 = D 4 := rfl
                                have u5_ : upd D 9 5 = D 5 := rfl
                                have u6_ : upd D 9 6 = D 6 := rfl
                                have u7_ : upd D 9 7 = D 7 := rfl
                                have u8_ : upd D 9 8 = D 8 := rfl
                                have u9_ : upd D 9 9 = true := rfl
                                have u10_ : upd D 9 10 = D 10 := rfl
                                have u11_ : upd D 9 11 = D 11 := rfl
                                have u12_ : upd D 9 12 = D 12 := rfl
                                have u13_ : upd D 9 13 = D 13 := rfl
                                have u14_ : upd D 9 14 = D 14 := rfl
                                simp only [hD, p0_, p1_, p2_, p3_, p4_, p5_, p6_, p7_, q13_, q14_, cnd_t, cnd_f, Asc_t, Asc_f] at ht hs
                                subst ht
                                refine g_op (v := Value.agg ((encA (encI .i16)) r59.2.1).toArray) rfl rfl rfl ?_
                                show G _ _ _ _ [_, _, _, _, _, _, _, _, _, _, _, _, _, _, _, _, _, _, _, _, _, _, _, _, _, _, _, _, _, _, _, _, _, _, _, _, _, _, _, _, _, _, _, _, _, _, _, _, _, _, _, _, _, _, _, _, _, _, _, _, _, _, _, _, _, _, _, _, _, _, _, _, _, _, _, _, _, _, _, _, _, _, _, _, _, _, _, _, _, _, _, _, _, _, _, _, _, _, _, _, _, _, _, _, _, _, _, _, _, _, _, _, _, _, _, _, _, _, _, _, _, _, _, _, _, _, _, _, _, _, _, _, _, _, _, _, _, _, _, _, _, _, _, _, _, _] _
                                exact hk _ _ ⟨v53, v57, v60, b62, O, (by simp only [u0_, u1_, u2_, u3_, u4_, u5_, u6_, u7_, u8_, u9_, u10_, u11_, u12_, u13_, u14_, p0_, p1_, p2_, p3_, p4_, p5_, p6_, p7_, q13_, q14_, cnd_t, cnd_f, Asc_t, Asc_f]), hs.cast (by first | rfl | simp only [List.take, List.drop, List.cons_append, List.nil_append, List.set_cons_zero, List.set_cons_succ, List.eraseIdx, u0_, u1_, u2_, u3_, u4_, u5_, u6_, u7_, u8_, u9_, u10_, u11_, u12_, u13_, u14_, p0_, p1_, p2_, p3_, p4_, p5_, p6_, p7_, q13_, q14_, cnd_t, cnd_f, Asc_t, Asc_f])⟩
                              · intro D t w hD hp hcl hI rest hk
                                obtain ⟨v53, v57, v60, b62, O, ht, hs⟩ := hI
                                obtain ⟨p7_, _⟩ := hp
                                obtain ⟨p6_, _⟩ := hcl.get 7 (by decide) p7_
                                obtain ⟨p1_, p3_, p5_, _, _⟩ := hcl.get 6 (by decide) p6_
                                obtain ⟨p4_, _, _⟩ := hcl.get 5 (by decide) p5_
                                obtain ⟨p2_, _, _⟩ := hcl.get 3 (by decide) p3_
                                obtain ⟨p0_, _⟩ := hcl.get 1 (by decide) p1_
                                have q14_ : D 14 = false := not_yet (hcl.get 14 (by decide)) 0 10 rfl hD
                                have u0_ : upd D 10 0 = D 0 := rfl
                                have u1_ : upd D 10 1 = D 1 := rfl
                                have u2_ : upd D 10 2 = D 2 := rfl
                                have u3_ : upd D 10 3 = D 3 := rfl
                                have u4_ : upd D 10 4 = D 4 := rfl
                                have u5_ : upd D 10 5 = D 5 := rfl
                                have u6_ : upd D 10 6 = D 6 := rfl
                                have u7_ : upd D 10 7 = D 7 := rfl
                                have u8_ : upd D 10 8 = D 8 := rfl
                                have u9_ : upd D 10 9 = D 9 := rfl
                                have u10_ : upd D 10 10 = true := rfl
                                have u11_ : upd D 10 11 = D 11 := rfl
                                have u12_ : upd D 10 12 = D 12 := rfl
                                have u13_ : upd D 10 13 = D 13 := rfl
                                have u14_ : upd D 10 14 = D 14 := rfl
                                simp only [hD, p0_, p1_, p2_, p3_, p4_, p5_, p6_, p7_, q14_, cnd_t, cnd_f, Asc_t, Asc_f] at ht hs
                                subst ht
                                refine g_op (v := Value.int .i64 r59.2.2) rfl rfl rfl ?_
                                show G _ _ _ _ [_, _, _, _, _, _, _, _, _, _, _, _, _, _, _, _, _, _, _, _, _, _, _, _, _, _, _, _, _, _, _, _, _, _, _, _, _, _, _, _, _, _, _, _, _, _, _, _, _, _, _, _, _, _, _, _, _, _, _, _, _, _, _, _, _, _, _, _, _, _, _, _, _, _, _, _, _, _, _, _, _, _, _, _, _, _, _, _, _, _, _, _, _, _, _, _, _, _, _, _, _, _, _, _, _, _, _, _, _, _, _, _, _, _, _, _, _, _, _, _, _, _, _, _, _, _, _, _, _, _, _, _, _, _, _, _, _, _, _, _, _, _, _, _, _, _] _
                                exact hk _ _ ⟨v53, v57, v60, b62, O, (by simp only [u0_, u1_, u2_, u3_, u4_, u5_, u6_, u7_, u8_, u9_, u10_, u11_, u12_, u13_, u14_, p0_, p1_, p2_, p3_, p4_, p5_, p6_, p7_, q14_, cnd_t, cnd_f, Asc_t, Asc_f]), hs.cast (by first | rfl | simp only [List.take, List.drop, List.cons_append, List.nil_append, List.set_cons_zero, List.set_cons_succ, List.eraseIdx, u0_, u1_, u2_, u3_, u4_, u5_, u6_, u7_, u8_, u9_, u10_, u11_, u12_, u13_, u14_, p0_, p1_, p2_, p3_, p4_, p5_, p6_, p7_, q14_, cnd_t, cnd_f, Asc_t, Asc_f])⟩
                              · intro D t w hD hp hcl hI rest hk
                                obtain ⟨v53, v57, v60, b62, O, ht, hs⟩ := hI
                                have q12_ : D 12 = false := not_yet (hcl.get 12 (by decide)) 11 11 rfl hD
                                have q13_ : D 13 = false := not_yet (hcl.get 13 (by decide)) 0 11 rfl hD
                                have q14_ : D 14 = false := not_yet (hcl.get 14 (by decide)) 1 13 rfl q13_
                                have u0_ : upd D 11 0 = D 0 := rfl
                                have u1_ : upd D 11 1 = D 1 := rfl
                                have u2_ : upd D 11 2 = D 2 := rfl
                                have u3_ : upd D 11 3 = D 3 := rfl
                                have u4_ : upd D 11 4 = D 4 := rfl
                                have u5_ : upd D 11 5 = D 5 := rfl
                                have u6_ : upd D 11 6 = D 6 := rfl
                                have u7_ : upd D 11 7 = D 7 := rfl
                                have u8_ : upd D 11 8 = D 8 := rfl
                                have u9_ : upd D 11 9 = D 9 := rfl
                                have u10_ : upd D 11 10 = D 10 := rfl
                                have u11_ : upd D 11 11 = true := rfl
                                have u12_ : upd D 11 12 = D 12 := rfl
                                have u13_ : upd D 11 13 = D 13 := rfl
                                have u14_ : upd D 11 14 = D 14 := rfl
                                simp only [hD, q12_, q13_, q14_, cnd_t, cnd_f, Asc_t, Asc_f] at ht hs
                                subst ht
                                refine s_alloc hs rfl rfl (z := (Value.agg #[Value.int .i16 0, Value.int .i16 0, Value.int .i16 0, Value.int .i16 0])) (cs := ((encA (encI .i16)) (Ar.rep 4 0))) rfl (fun _ => rfl) rfl ?_
                                intro b62 w hs
                                show G _ _ _ _ [_, _, _, _, _, _, _, _, _, _, _, _, _, _, _, _, _, _, _, _, _, _, _, _, _, _, _, _, _, _, _, _, _, _, _, _, _, _, _, _, _, _, _, _, _, _, _, _, _, _, _, _, _, _, _, _, _, _, _, _, _, _, _, _, _, _, _, _, _, _, _, _, _, _, _, _, _, _, _, _, _, _, _, _, _, _, _, _, _, _, _, _, _, _, _, _, _, _, _, _, _, _, _, _, _, _, _, _, _, _, _, _, _, _, _, _, _, _, _, _, _, _, _, _, _, _, _, _, _, _, _, _, _, _, _, _, _, _, _, _, _, _, _, _, _, _] _
                                have hs := hs.fill 3 rfl
                                exact hk _ _ ⟨v53, v57, v60, b62, O, (by simp only [u0_, u1_, u2_, u3_, u4_, u5_, u6_, u7_, u8_, u9_, u10_, u11_, u12_, u13_, u14_, q12_, q13_, q14_, cnd_t, cnd_f, Asc_t, Asc_f]), hs.cast (by first | rfl | simp only [List.take, List.drop, List.cons_append, List.nil_append, List.set_cons_zero, List.set_cons_succ, List.eraseIdx, u0_, u1_, u2_, u3_, u4_, u5_, u6_, u7_, u8_, u9_, u10_, u11_, u12_, u13_, u14_, q12_, q13_, q14_, cnd_t, cnd_f, Asc_t, Asc_f])⟩
                              · intro D t w hD hp hcl hI rest hk
                                obtain ⟨v53, v57, v60, b62, O, ht, hs⟩ := hI
                                obtain ⟨p8_, p6_, p0_, p1_, p2_, p3_, p4_, p5_, _, p7_, _, p11_, _⟩ := hp
                                have q13_ : D 13 = false := not_yet (hcl.get 13 (by decide)) 2 12 rfl hD
                                have q14_ : D 14 = false := not_yet (hcl.get 14 (by decide)) 1 13 rfl q13_
                                have u0_ : upd D 12 0 = D 0 := rfl
                                have u1_ : upd D 12 1 = D 1 := rfl
                                have u2_ : upd D 12 2 = D 2 := rfl
                                have u3_ : upd D 12 3 = D 3 := rfl
                                have u4_ : upd D 12 4 = D 4 := rfl
                                have u5_ : upd D 12 5 = D 5 := rfl
                                have u6_ : upd D 12 6 = D 6 := rfl
                                have u7_ : upd D 12 7 = D 7 := rfl
                                have u8_ : upd D 12 8 = D 8 := rfl
                                have u9_ : upd D 12 9 = D 9 := rfl
                                have u10_ : upd D 12 10 = D 10 := rfl
                                have u11_ : upd D 12 11 = D 11 := rfl
                                have u12_ : upd D 12 12 = true := rfl
                                have u13_ : upd D 12 13 = D 13 := rfl
                                have u14_ : upd D 12 14 = D 14 := rfl
                                simp only [hD, p0_, p1_, p2_, p3_, p4_, p5_, p6_, p7_, p8_, p11_, q13_, q14_, cnd_t, cnd_f, Asc_t, Asc_f] at ht hs
                                subst ht
                                refine g_op (v := v60) rfl rfl rfl ?_
                                show G _ _ _ _ [_, _, _, _, _, _, _, _, _, _, _, _, _, _, _, _, _, _, _, _, _, _, _, _, _, _, _, _, _, _, _, _, _, _, _, _, _, _, _, _, _, _, _, _, _, _, _, _, _, _, _, _, _, _, _, _, _, _, _, _, _, _, _, _, _, _, _, _, _, _, _, _, _, _, _, _, _, _, _, _, _, _, _, _, _, _, _, _, _, _, _, _, _, _, _, _, _, _, _, _, _, _, _, _, _, _, _, _, _, _, _, _, _, _, _, _, _, _, _, _, _, _, _, _, _, _, _, _, _, _, _, _, _, _, _, _, _, _, _, _, _, _, _, _, _, _] _
                                exact hk _ _ ⟨v53, v57, v60, b62, O, (by simp only [u0_, u1_, u2_, u3_, u4_, u5_, u6_, u7_, u8_, u9_, u10_, u11_, u12_, u13_, u14_, p0_, p1_, p2_, p3_, p4_, p5_, p6_, p7_, p8_, p11_, q13_, q14_, cnd_t, cnd_f, Asc_t, Asc_f]), hs.cast (by first | rfl | simp only [List.take, List.drop, List.cons_append, List.nil_append, List.set_cons_zero, List.set_cons_succ, List.eraseIdx, u0_, u1_, u2_, u3_, u4_, u5_, u6_, u7_, u8_, u9_, u10_, u11_, u12_, u13_, u14_, p0_, p1_, p2_, p3_, p4_, p5_, p6_, p7_, p8_, p11_, q13_, q14_, cnd_t, cnd_f, Asc_t, Asc_f])⟩
                              · intro D t w hD hp hcl hI rest hk
                                obtain ⟨v53, v57, v60, b62, O, ht, hs⟩ := hI
                                obtain ⟨p11_, p9_, p12_, p0_, p1_, p2_, p3_, p4_, p5_, p6_, p7_, p8_, _, _, _, _⟩ := hp
                                have q14_ : D 14 = false := not_yet (hcl.get 14 (by decide)) 1 13 rfl hD
                                have u0_ : upd D 13 0 = D 0 := rfl
                                have u1_ : upd D 13 1 = D 1 := rfl
                                have u2_ : upd D 13 2 = D 2 := rfl
                                have u3_ : upd D 13 3 = D 3 := rfl
                                have u4_ : upd D 13 4 = D 4 := rfl
                                have u5_ : upd D 13 5 = D 5 := rfl
                                have u6_ : upd D 13 6 = D 6 := rfl
                                have u7_ : upd D 13 7 = D 7 := rfl
                                have u8_ : upd D 13 8 = D 8 := rfl
                                have u9_ : upd D 13 9 = D 9 := rfl
                                have u10_ : upd D 13 10 = D 10 := rfl
                                have u11_ : upd D 13 11 = D 11 := rfl
                                have u12_ : upd D 13 12 = D 12 := rfl
                                have u13_ : upd D 13 13 = true := rfl
                                have u14_ : upd D 13 14 = D 14 := rfl
                                simp only [hD, p0_, p1_, p2_, p3_, p4_, p5_, p6_, p7_, p8_, p9_, p11_, p12_, q14_, cnd_t, cnd_f, Asc_t, Asc_f] at ht hs
                                subst ht
                                have hs := hs.pull 3 rfl
                                have hs : St _ [_, _, _, _, _, _, _, _, _, _, _, _, _, _, _] _ := hs
                                refine s_storeAll (n := 4) hs ((fkA (n := 4) (he := (fkI .i16).len) (h1 := (fkI .i16).one)).len _) rfl rfl (vs := ((encA (encI .i16)) r59.2.1)) rfl rfl rfl (fun _ => rfl) ((fkA (n := 4) (he := (fkI .i16).len) (h1 := (fkI .i16).one)).len _) ((fkA (n := 4) (he := (fkI .i16).len) (h1 := (fkI .i16).one)).one _) ?_
                                intro w hs
                                show G _ _ _ _ [_, _, _, _, _, _, _, _, _, _, _, _, _, _, _, _, _, _, _, _, _, _, _, _, _, _, _, _, _, _, _, _, _, _, _, _, _, _, _, _, _, _, _, _, _, _, _, _, _, _, _, _, _, _, _, _, _, _, _, _, _, _, _, _, _, _, _, _, _, _, _, _, _, _, _, _, _, _, _, _, _, _, _, _, _, _, _, _, _, _, _, _, _, _, _, _, _, _, _, _, _, _, _, _, _, _, _, _, _, _, _, _, _, _, _, _, _, _, _, _, _, _, _, _, _, _, _, _, _, _, _, _, _, _, _, _, _, _, _, _, _, _, _, _, _, _] _
                                have hs := hs.push 3 (by simp)
                                exact hk _ _ ⟨v53, v57, v60, b62, O, (by simp only [u0_, u1_, u2_, u3_, u4_, u5_, u6_, u7_, u8_, u9_, u10_, u11_, u12_, u13_, u14_, p0_, p1_, p2_, p3_, p4_, p5_, p6_, p7_, p8_, p9_, p11_, p12_, q14_, cnd_t, cnd_f, Asc_t, Asc_f]), hs.cast (by first | rfl | simp only [List.take, List.drop, List.cons_append, List.nil_append, List.set_cons_zero, List.set_cons_succ, List.eraseIdx, u0_, u1_, u2_, u3_, u4_, u5_, u6_, u7_, u8_, u9_, u10_, u11_, u12_, u13_, u14_, p0_, p1_, p2_, p3_, p4_, p5_, p6_, p7_, p8_, p9_, p11_, p12_, q14_, cnd_t, cnd_f, Asc_t, Asc_f])⟩
                              · intro D t w hD hp hcl hI rest hk
                                obtain ⟨v53, v57, v60, b62, O, ht, hs⟩ := hI
                                obtain ⟨p10_, p13_, p0_, p1_, p2_, p3_, p4_, p5_, p6_, p7_, p8_, p9_, _, p11_, p12_, _, _⟩ := hp
                                have u0_ : upd D 14 0 = D 0 := rfl
                                have u1_ : upd D 14 1 = D 1 := rfl
                                have u2_ : upd D 14 2 = D 2 := rfl
                                have u3_ : upd D 14 3 = D 3 := rfl
                                have u4_ : upd D 14 4 = D 4 := rfl
                                have u5_ : upd D 14 5 = D 5 := rfl
                                have u6_ : upd D 14 6 = D 6 := rfl
                                have u7_ : upd D 14 7 = D 7 := rfl
                                have u8_ : upd D 14 8 = D 8 := rfl
                                have u9_ : upd D 14 9 = D 9 := rfl
                                have u10_ : upd D 14 10 = D 10 := rfl
                                have u11_ : upd D 14 11 = D 11 := rfl
                                have u12_ : upd D 14 12 = D 12 := rfl
                                have u13_ : upd D 14 13 = D 13 := rfl
                                have u14_ : upd D 14 14 = true := rfl
                                simp only [hD, p0_, p1_, p2_, p3_, p4_, p5_, p6_, p7_, p8_, p9_, p10_, p11_, p12_, p13_, cnd_t, cnd_f, Asc_t, Asc_f] at ht hs
                                subst ht
                                refine g_op (v := Value.int .i64 r59.2.2) rfl rfl rfl ?_
                                show G _ _ _ _ [_, _, _, _, _, _, _, _, _, _, _, _, _, _, _, _, _, _, _, _, _, _, _, _, _, _, _, _, _, _, _, _, _, _, _, _, _, _, _, _, _, _, _, _, _, _, _, _, _, _, _, _, _, _, _, _, _, _, _, _, _, _, _, _, _, _, _, _, _, _, _, _, _, _, _, _, _, _, _, _, _, _, _, _, _, _, _, _, _, _, _, _, _, _, _, _, _, _, _, _, _, _, _, _, _, _, _, _, _, _, _, _, _, _, _, _, _, _, _, _, _, _, _, _, _, _, _, _, _, _, _, _, _, _, _, _, _, _, _, _, _, _, _, _, _, _] _
                                exact hk _ _ ⟨v53, v57, v60, b62, O, (by simp only [u0_, u1_, u2_, u3_, u4_, u5_, u6_, u7_, u8_, u9_, u10_, u11_, u12_, u13_, u14_, p0_, p1_, p2_, p3_, p4_, p5_, p6_, p7_, p8_, p9_, p10_, p11_, p12_, p13_, cnd_t, cnd_f, Asc_t, Asc_f]), hs.cast (by first | rfl | simp only [List.take, List.drop, List.cons_append, List.nil_append, List.set_cons_zero, List.set_cons_succ, List.eraseIdx, u0_, u1_, u2_, u3_, u4_, u5_, u6_, u7_, u8_, u9_, u10_, u11_, u12_, u13_, u14_, p0_, p1_, p2_, p3_, p4_, p5_, p6_, p7_, p8_, p9_, p10_, p11_, p12_, p13_, cnd_t, cnd_f, Asc_t, Asc_f])⟩
                              · intro D t w hall hI
                                obtain ⟨v53, v57, v60, b62, O, ht, hs⟩ := hI
                                have p0_ := hall 0 (by decide)
                                have p1_ := hall 1 (by decide)
                                have p2_ := hall 2 (by decide)
                                have p3_ := hall 3 (by decide)
                                have p4_ := hall 4 (by decide)
                                have p5_ := hall 5 (by decide)
                                have p6_ := hall 6 (by decide)
                                have p7_ := hall 7 (by decide)
                                have p8_ := hall 8 (by decide)
                                have p9_ := hall 9 (by decide)
                                have p10_ := hall 10 (by decide)
                                have p11_ := hall 11 (by decide)
                                have p12_ := hall 12 (by decide)
                                have p13_ := hall 13 (by decide)
                                have p14_ := hall 14 (by decide)
                                simp only [p0_, p1_, p2_, p3_, p4_, p5_, p6_, p7_, p8_, p9_, p10_, p11_, p12_, p13_, p14_, cnd_t, cnd_f, Asc_t, Asc_f] at ht hs
                                subst ht
                                refine g_seq ?_
                                refine g_seq ?_
                                refine g_region ?_
                                show G _ _ _ (.inRegion _ [0, 1, 2, 3, 4, 5, 6, 7, 8, 9, 10, 11, 12, 13, 14] :: _) _ _
                                refine g_op (v := v60) rfl rfl rfl ?_
                                show G _ _ _ _ [_, _, _, _, _, _, _, _, _, _, _, _, _, _, _, _, _, _, _, _, _, _, _, _, _, _, _, _, _, _, _, _, _, _, _, _, _, _, _, _, _, _, _, _, _, _, _, _, _, _, _, _, _, _, _, _, _, _, _, _, _, _, _, _, _, _, _, _, _, _, _, _, _, _, _, _, _, _, _, _, _, _, _, _, _, _, _, _, _, _, _, _, _, _, _, _, _, _, _, _, _, _, _, _, _, _, _, _, _, _, _, _, _, _, _, _, _, _, _, _, _, _, _, _, _, _, _, _, _, _, _, _, _, _, _, _, _, _, _, _, _, _, _, _, _, _] _
                                refine g_op (v := v16) rfl rfl rfl ?_
                                show G _ _ _ _ [_, _, _, _, _, _, _, _, _, _, _, _, _, _, _, _, _, _, _, _, _, _, _, _, _, _, _, _, _, _, _, _, _, _, _, _, _, _, _, _, _, _, _, _, _, _, _, _, _, _, _, _, _, _, _, _, _, _, _, _, _, _, _, _, _, _, _, _, _, _, _, _, _, _, _, _, _, _, _, _, _, _, _, _, _, _, _, _, _, _, _, _, _, _, _, _, _, _, _, _, _, _, _, _, _, _, _, _, _, _, _, _, _, _, _, _, _, _, _, _, _, _, _, _, _, _, _, _, _, _, _, _, _, _, _, _, _, _, _, _, _, _, _, _, _, _] _
                                obtain ⟨r68, Hr68, H⟩ := bind_get H
                                refine s_call (args := [v60, v16]) rfl rfl (x_call rfl (callFunc_enter Try.func39 rfl rfl) rfl) (laws_eqInt64S.calls (a1 := r59.1) (a3 := r15.1) (hs.row 2 rfl) (hs.row 12 rfl) Hr68) ?_
                                rintro _ w ⟨rfl, hs2⟩
                                have hs : St _ [_, _, _, _, _, _, _, _, _, _, _, _, _, _, _] _ := hs.call hs2
                                cases r68 with
                                | true =>
                                  rw [if_pos rfl] at H
                                  show G _ _ _ _ [_, _, _, _, _, _, _, _, _, _, _, _, _, _, _, _, _, _, _, _, _, _, _, _, _, _, _, _, _, _, _, _, _, _, _, _, _, _, _, _, _, _, _, _, _, _, _, _, _, _, _, _, _, _, _, _, _, _, _, _, _, _, _, _, _, _, _, _, _, _, _, _, _, _, _, _, _, _, _, _, _, _, _, _, _, _, _, _, _, _, _, _, _, _, _, _, _, _, _, _, _, _, _, _, _, _, _, _, _, _, _, _, _, _, _, _, _, _, _, _, _, _, _, _, _, _, _, _, _, _, _, _, _, _, _, _, _, _, _, _, _, _, _, _, _, _] _
                                  refine g_op (v := Value.bool false) rfl rfl rfl ?_
                                  show G _ _ _ _ [_, _, _, _, _, _, _, _, _, _, _, _, _, _, _, _, _, _, _, _, _, _, _, _, _, _, _, _, _, _, _, _, _, _, _, _, _, _, _, _, _, _, _, _, _, _, _, _, _, _, _, _, _, _, _, _, _, _, _, _, _, _, _, _, _, _, _, _, _, _, _, _, _, _, _, _, _, _, _, _, _, _, _, _, _, _, _, _, _, _, _, _, _, _, _, _, _, _, _, _, _, _, _, _, _, _, _, _, _, _, _, _, _, _, _, _, _, _, _, _, _, _, _, _, _, _, _, _, _, _, _, _, _, _, _, _, _, _, _, _, _, _, _, _, _, _] _
                                  refine g_op (v := Value.bool false) rfl rfl rfl ?_
                                  show G _ _ _ _ [_, _, _, _, _, _, _, _, _, _, _, _, _, _, _, _, _, _, _, _, _, _, _, _, _, _, _, _, _, _, _, _, _, _, _, _, _, _, _, _, _, _, _, _, _, _, _, _, _, _, _, _, _, _, _, _, _, _, _, _, _, _, _, _, _, _, _, _, _, _, _, _, _, _, _, _, _, _, _, _, _, _, _, _, _, _, _, _, _, _, _, _, _, _, _, _, _, _, _, _, _, _, _, _, _, _, _, _, _, _, _, _, _, _, _, _, _, _, _, _, _, _, _, _, _, _, _, _, _, _, _, _, _, _, _, _, _, _, _, _, _, _, _, _, _, _] _
                                  refine s_loadA rfl rfl (es := ((encA (encI .i16)) r59.2.1)) rfl rfl (fun _ => rfl) (n := 4) (fun _ => rfl) ((fkA (n := 4) (he := (fkI .i16).len) (h1 := (fkI .i16).one)).len _) (cells_all (hs.cells 3 rfl)) ?_
                                  show G _ _ _ _ [_, _, _, _, _, _, _, _, _, _, _, _, _, _, _, _, _, _, _, _, _, _, _, _, _, _, _, _, _, _, _, _, _, _, _, _, _, _, _, _, _, _, _, _, _, _, _, _, _, _, _, _, _, _, _, _, _, _, _, _, _, _, _, _, _, _, _, _, _, _, _, _, _, _, _, _, _, _, _, _, _, _, _, _, _, _, _, _, _, _, _, _, _, _, _, _, _, _, _, _, _, _, _, _, _, _, _, _, _, _, _, _, _, _, _, _, _, _, _, _, _, _, _, _, _, _, _, _, _, _, _, _, _, _, _, _, _, _, _, _, _, _, _, _, _, _] _
                                  refine s_loadA rfl rfl (es := ((encA (encI .i16)) r15.2.1)) rfl rfl (fun _ => rfl) (n := 4) (fun _ => rfl) ((fkA (n := 4) (he := (fkI .i16).len) (h1 := (fkI .i16).one)).len _) (cells_all (hs.cells 13 rfl)) ?_
                                  show G _ _ _ _ [_, _, _, _, _, _, _, _, _, _, _, _, _, _, _, _, _, _, _, _, _, _, _, _, _, _, _, _, _, _, _, _, _, _, _, _, _, _, _, _, _, _, _, _, _, _, _, _, _, _, _, _, _, _, _, _, _, _, _, _, _, _, _, _, _, _, _, _, _, _, _, _, _, _, _, _, _, _, _, _, _, _, _, _, _, _, _, _, _, _, _, _, _, _, _, _, _, _, _, _, _, _, _, _, _, _, _, _, _, _, _, _, _, _, _, _, _, _, _, _, _, _, _, _, _, _, _, _, _, _, _, _, _, _, _, _, _, _, _, _, _, _, _, _, _, _] _
                                  obtain ⟨r69, Hr69, H⟩ := bind_get H
                                  refine s_call (args := [Value.agg ((encA (encI .i16)) r59.2.1).toArray, Value.agg ((encA (encI .i16)) r15.2.1).toArray]) rfl rfl (x_call rfl (callFunc_enter Try.func30 rfl rfl) rfl) (laws_eqTops.calls (a1 := r59.2.1) (a2 := r15.2.1) Hr69) ?_
                                  rintro _ w ⟨rfl, hs2⟩
                                  have hs : St _ [_, _, _, _, _, _, _, _, _, _, _, _, _, _, _] _ := hs.call hs2
                                  show G _ _ _ _ [_, _, _, _, _, _, _, _, _, _, _, _, _, _, _, _, _, _, _, _, _, _, _, _, _, _, _, _, _, _, _, _, _, _, _, _, _, _, _, _, _, _, _, _, _, _, _, _, _, _, _, _, _, _, _, _, _, _, _, _, _, _, _, _, _, _, _, _, _, _, _, _, _, _, _, _, _, _, _, _, _, _, _, _, _, _, _, _, _, _, _, _, _, _, _, _, _, _, _, _, _, _, _, _, _, _, _, _, _, _, _, _, _, _, _, _, _, _, _, _, _, _, _, _, _, _, _, _, _, _, _, _, _, _, _, _, _, _, _, _, _, _, _, _, _, _] _
                                  refine g_op (v := Value.bool (!r69)) rfl rfl rfl ?_
                                  show G _ _ _ _ [_, _, _, _, _, _, _, _, _, _, _, _, _, _, _, _, _, _, _, _, _, _, _, _, _, _, _, _, _, _, _, _, _, _, _, _, _, _, _, _, _, _, _, _, _, _, _, _, _, _, _, _, _, _, _, _, _, _, _, _, _, _, _, _, _, _, _, _, _, _, _, _, _, _, _, _, _, _, _, _, _, _, _, _, _, _, _, _, _, _, _, _, _, _, _, _, _, _, _, _, _, _, _, _, _, _, _, _, _, _, _, _, _, _, _, _, _, _, _, _, _, _, _, _, _, _, _, _, _, _, _, _, _, _, _, _, _, _, _, _, _, _, _, _, _, _] _
                                  refine g_op_b (B := !r69) rfl rfl rfl ?_ ?_
                                  · intro hb
                                    rw [if_neg (b_not_t hb)] at H
                                    show G _ _ _ _ [_, _, _, _, _, _, _, _, _, _, _, _, _, _, _, _, _, _, _, _, _, _, _, _, _, _, _, _, _, _, _, _, _, _, _, _, _, _, _, _, _, _, _, _, _, _, _, _, _, _, _, _, _, _, _, _, _, _, _, _, _, _, _, _, _, _, _, _, _, _, _, _, _, _, _, _, _, _, _, _, _, _, _, _, _, _, _, _, _, _, _, _, _, _, _, _, _, _, _, _, _, _, _, _, _, _, _, _, _, _, _, _, _, _, _, _, _, _, _, _, _, _, _, _, _, _, _, _, _, _, _, _, _, _, _, _, _, _, _, _, _, _, _, _, _, _] _
                                    refine g_op (v := Value.bool true) rfl rfl rfl ?_
                                    show G _ _ _ _ [_, _, _, _, _, _, _, _, _, _, _, _, _, _, _, _, _, _, _, _, _, _, _, _, _, _, _, _, _, _, _, _, _, _, _, _, _, _, _, _, _, _, _, _, _, _, _, _, _, _, _, _, _, _, _, _, _, _, _, _, _, _, _, _, _, _, _, _, _, _, _, _, _, _, _, _, _, _, _, _, _, _, _, _, _, _, _, _, _, _, _, _, _, _, _, _, _, _, _, _, _, _, _, _, _, _, _, _, _, _, _, _, _, _, _, _, _, _, _, _, _, _, _, _, _, _, _, _, _, _, _, _, _, _, _, _, _, _, _, _, _, _, _, _, _, _] _
                                    refine g_op_not rfl rfl ?_
                                    show G _ _ _ _ [_, _, _, _, _, _, _, _, _, _, _, _, _, _, _, _, _, _, _, _, _, _, _, _, _, _, _, _, _, _, _, _, _, _, _, _, _, _, _, _, _, _, _, _, _, _, _, _, _, _, _, _, _, _, _, _, _, _, _, _, _, _, _, _, _, _, _, _, _, _, _, _, _, _, _, _, _, _, _, _, _, _, _, _, _, _, _, _, _, _, _, _, _, _, _, _, _, _, _, _, _, _, _, _, _, _, _, _, _, _, _, _, _, _, _, _, _, _, _, _, _, _, _, _, _, _, _, _, _, _, _, _, _, _, _, _, _, _, _, _, _, _, _, _, _, _] _
                                    refine g_op_not rfl rfl ?_
                                    show G _ _ _ _ [_, _, _, _, _, _, _, _, _, _, _, _, _, _, _, _, _, _, _, _, _, _, _, _, _, _, _, _, _, _, _, _, _, _, _, _, _, _, _, _, _, _, _, _, _, _, _, _, _, _, _, _, _, _, _, _, _, _, _, _, _, _, _, _, _, _, _, _, _, _, _, _, _, _, _, _, _, _, _, _, _, _, _, _, _, _, _, _, _, _, _, _, _, _, _, _, _, _, _, _, _, _, _, _, _, _, _, _, _, _, _, _, _, _, _, _, _, _, _, _, _, _, _, _, _, _, _, _, _, _, _, _, _, _, _, _, _, _, _, _, _, _, _, _, _, _] _
                                    refine g_op_not rfl rfl ?_
                                    show G _ _ _ _ [_, _, _, _, _, _, _, _, _, _, _, _, _, _, _, _, _, _, _, _, _, _, _, _, _, _, _, _, _, _, _, _, _, _, _, _, _, _, _, _, _, _, _, _, _, _, _, _, _, _, _, _, _, _, _, _, _, _, _, _, _, _, _, _, _, _, _, _, _, _, _, _, _, _, _, _, _, _, _, _, _, _, _, _, _, _, _, _, _, _, _, _, _, _, _, _, _, _, _, _, _, _, _, _, _, _, _, _, _, _, _, _, _, _, _, _, _, _, _, _, _, _, _, _, _, _, _, _, _, _, _, _, _, _, _, _, _, _, _, _, _, _, _, _, _, _] _
                                    refine g_op (v := Value.bool true) rfl rfl rfl ?_
                                    show G _ _ _ _ [_, _, _, _, _, _, _, _, _, _, _, _, _, _, _, _, _, _, _, _, _, _, _, _, _, _, _, _, _, _, _, _, _, _, _, _, _, _, _, _, _, _, _, _, _, _, _, _, _, _, _, _, _, _, _, _, _, _, _, _, _, _, _, _, _, _, _, _, _, _, _, _, _, _, _, _, _, _, _, _, _, _, _, _, _, _, _, _, _, _, _, _, _, _, _, _, _, _, _, _, _, _, _, _, _, _, _, _, _, _, _, _, _, _, _, _, _, _, _, _, _, _, _, _, _, _, _, _, _, _, _, _, _, _, _, _, _, _, _, _, _, _, _, _, _, _] _
                                    refine g_ops_nil ?_
                                    refine g_cond_true rfl ?_
                                    refine g_seq ?_
                                    refine g_region ?_
                                    show G _ _ _ (.inRegion _ [0] :: _) _ _
                                    refine g_op (v := Value.bool false) rfl rfl rfl ?_
                                    show G _ _ _ _ [_, _, _, _, _, _, _, _, _, _, _, _, _, _, _, _, _, _, _, _, _, _, _, _, _, _, _, _, _, _, _, _, _, _, _, _, _, _, _, _, _, _, _, _, _, _, _, _, _, _, _, _, _, _, _, _, _, _, _, _, _, _, _, _, _, _, _, _, _, _, _, _, _, _, _, _, _, _, _, _, _, _, _, _, _, _, _, _, _, _, _, _, _, _, _, _, _, _, _, _, _, _, _, _, _, _, _, _, _, _, _, _, _, _, _, _, _, _, _, _, _, _, _, _, _, _, _, _, _, _, _, _, _, _, _, _, _, _, _, _, _, _, _, _, _, _] _
                                    refine g_ops_nil ?_
                                    obtain rfl := Option.some.inj H
                                    refine g_ret Try.func12 (v := Value.bool false) (res1 rfl rfl) ?_
                                    have hs : St _ [] _ := St.take (Γ' := [_, _, _, _, _, _, _, _, _, _, _, _, _, _, _]) hs
                                    exact ⟨_, rfl, rfl, hs⟩
                                  · intro hb
                                    rw [if_pos (b_not_f hb)] at H
                                    show G _ _ _ _ [_, _, _, _, _, _, _, _, _, _, _, _, _, _, _, _, _, _, _, _, _, _, _, _, _, _, _, _, _, _, _, _, _, _, _, _, _, _, _, _, _, _, _, _, _, _, _, _, _, _, _, _, _, _, _, _, _, _, _, _, _, _, _, _, _, _, _, _, _, _, _, _, _, _, _, _, _, _, _, _, _, _, _, _, _, _, _, _, _, _, _, _, _, _, _, _, _, _, _, _, _, _, _, _, _, _, _, _, _, _, _, _, _, _, _, _, _, _, _, _, _, _, _, _, _, _, _, _, _, _, _, _, _, _, _, _, _, _, _, _, _, _, _, _, _, _] _
                                    refine g_op (v := Value.bool false) rfl rfl rfl ?_
                                    show G _ _ _ _ [_, _, _, _, _, _, _, _, _, _, _, _, _, _, _, _, _, _, _, _, _, _, _, _, _, _, _, _, _, _, _, _, _, _, _, _, _, _, _, _, _, _, _, _, _, _, _, _, _, _, _, _, _, _, _, _, _, _, _, _, _, _, _, _, _, _, _, _, _, _, _, _, _, _, _, _, _, _, _, _, _, _, _, _, _, _, _, _, _, _, _, _, _, _, _, _, _, _, _, _, _, _, _, _, _, _, _, _, _, _, _, _, _, _, _, _, _, _, _, _, _, _, _, _, _, _, _, _, _, _, _, _, _, _, _, _, _, _, _, _, _, _, _, _, _, _] _
                                    refine g_op (v := Value.int .i64 r59.2.2) rfl rfl rfl ?_
                                    show G _ _ _ _ [_, _, _, _, _, _, _, _, _, _, _, _, _, _, _, _, _, _, _, _, _, _, _, _, _, _, _, _, _, _, _, _, _, _, _, _, _, _, _, _, _, _, _, _, _, _, _, _, _, _, _, _, _, _, _, _, _, _, _, _, _, _, _, _, _, _, _, _, _, _, _, _, _, _, _, _, _, _, _, _, _, _, _, _, _, _, _, _, _, _, _, _, _, _, _, _, _, _, _, _, _, _, _, _, _, _, _, _, _, _, _, _, _, _, _, _, _, _, _, _, _, _, _, _, _, _, _, _, _, _, _, _, _, _, _, _, _, _, _, _, _, _, _, _, _, _] _
                                    refine g_op (v := Value.int .i64 r15.2.2) rfl rfl rfl ?_
                                    show G _ _ _ _ [_, _, _, _, _, _, _, _, _, _, _, _, _, _, _, _, _, _, _, _, _, _, _, _, _, _, _, _, _, _, _, _, _, _, _, _, _, _, _, _, _, _, _, _, _, _, _, _, _, _, _, _, _, _, _, _, _, _, _, _, _, _, _, _, _, _, _, _, _, _, _, _, _, _, _, _, _, _, _, _, _, _, _, _, _, _, _, _, _, _, _, _, _, _, _, _, _, _, _, _, _, _, _, _, _, _, _, _, _, _, _, _, _, _, _, _, _, _, _, _, _, _, _, _, _, _, _, _, _, _, _, _, _, _, _, _, _, _, _, _, _, _, _, _, _, _] _
                                    refine g_op_b (B := r59.2.2 != r15.2.2) rfl rfl rfl ?_ ?_
                                    · intro hb
                                      rw [if_neg (b_bne_t hb)] at H
                                      show G _ _ _ _ [_, _, _, _, _, _, _, _, _, _, _, _, _, _, _, _, _, _, _, _, _, _, _, _, _, _, _, _, _, _, _, _, _, _, _, _, _, _, _, _, _, _, _, _, _, _, _, _, _, _, _, _, _, _, _, _, _, _, _, _, _, _, _, _, _, _, _, _, _, _, _, _, _, _, _, _, _, _, _, _, _, _, _, _, _, _, _, _, _, _, _, _, _, _, _, _, _, _, _, _, _, _, _, _, _, _, _, _, _, _, _, _, _, _, _, _, _, _, _, _, _, _, _, _, _, _, _, _, _, _, _, _, _, _, _, _, _, _, _, _, _, _, _, _, _, _] _
                                      refine g_op (v := Value.bool true) rfl rfl rfl ?_
                                      show G _ _ _ _ [_, _, _, _, _, _, _, _, _, _, _, _, _, _, _, _, _, _, _, _, _, _, _, _, _, _, _, _, _, _, _, _, _, _, _, _, _, _, _, _, _, _, _, _, _, _, _, _, _, _, _, _, _, _, _, _, _, _, _, _, _, _, _, _, _, _, _, _, _, _, _, _, _, _, _, _, _, _, _, _, _, _, _, _, _, _, _, _, _, _, _, _, _, _, _, _, _, _, _, _, _, _, _, _, _, _, _, _, _, _, _, _, _, _, _, _, _, _, _, _, _, _, _, _, _, _, _, _, _, _, _, _, _, _, _, _, _, _, _, _, _, _, _, _, _, _] _
                                      refine g_ops_nil ?_
                                      refine g_cond_true rfl ?_
                                      refine g_seq ?_
                                      refine g_region ?_
                                      show G _ _ _ (.inRegion _ [0] :: _) _ _
                                      refine g_op (v := Value.bool false) rfl rfl rfl ?_
                                      show G _ _ _ _ [_, _, _, _, _, _, _, _, _, _, _, _, _, _, _, _, _, _, _, _, _, _, _, _, _, _, _, _, _, _, _, _, _, _, _, _, _, _, _, _, _, _, _, _, _, _, _, _, _, _, _, _, _, _, _, _, _, _, _, _, _, _, _, _, _, _, _, _, _, _, _, _, _, _, _, _, _, _, _, _, _, _, _, _, _, _, _, _, _, _, _, _, _, _, _, _, _, _, _, _, _, _, _, _, _, _, _, _, _, _, _, _, _, _, _, _, _, _, _, _, _, _, _, _, _, _, _, _, _, _, _, _, _, _, _, _, _, _, _, _, _, _, _, _, _, _] _
                                      refine g_ops_nil ?_
                                      obtain rfl := Option.some.inj H
                                      refine g_ret Try.func12 (v := Value.bool false) (res1 rfl rfl) ?_
                                      have hs : St _ [] _ := St.take (Γ' := [_, _, _, _, _, _, _, _, _, _, _, _, _, _, _]) hs
                                      exact ⟨_, rfl, rfl, hs⟩
                                    · intro hb
                                      rw [if_pos (b_bne_f hb)] at H
                                      show G _ _ _ _ [_, _, _, _, _, _, _, _, _, _, _, _, _, _, _, _, _, _, _, _, _, _, _, _, _, _, _, _, _, _, _, _, _, _, _, _, _, _, _, _, _, _, _, _, _, _, _, _, _, _, _, _, _, _, _, _, _, _, _, _, _, _, _, _, _, _, _, _, _, _, _, _, _, _, _, _, _, _, _, _, _, _, _, _, _, _, _, _, _, _, _, _, _, _, _, _, _, _, _, _, _, _, _, _, _, _, _, _, _, _, _, _, _, _, _, _, _, _, _, _, _, _, _, _, _, _, _, _, _, _, _, _, _, _, _, _, _, _, _, _, _, _, _, _, _, _] _
                                      refine g_op (v := Value.bool false) rfl rfl rfl ?_
                                      show G _ _ _ _ [_, _, _, _, _, _, _, _, _, _, _, _, _, _, _, _, _, _, _, _, _, _, _, _, _, _, _, _, _, _, _, _, _, _, _, _, _, _, _, _, _, _, _, _, _, _, _, _, _, _, _, _, _, _, _, _, _, _, _, _, _, _, _, _, _, _, _, _, _, _, _, _, _, _, _, _, _, _, _, _, _, _, _, _, _, _, _, _, _, _, _, _, _, _, _, _, _, _, _, _, _, _, _, _, _, _, _, _, _, _, _, _, _, _, _, _, _, _, _, _, _, _, _, _, _, _, _, _, _, _, _, _, _, _, _, _, _, _, _, _, _, _, _, _, _, _] _
                                      refine g_ops_nil ?_
                                      refine g_cond_false rfl ?_
                                      refine g_skip ?_
                                      refine g_seq ?_
                                      refine g_region ?_
                                      show G _ _ _ (.inRegion _ [0] :: _) _ _
                                      refine g_op (v := Value.int .i64 1) rfl rfl rfl ?_
                                      show G _ _ _ _ [_, _, _, _, _, _, _, _, _, _, _, _, _, _, _, _, _, _, _, _, _, _, _, _, _, _, _, _, _, _, _, _, _, _, _, _, _, _, _, _, _, _, _, _, _, _, _, _, _, _, _, _, _, _, _, _, _, _, _, _, _, _, _, _, _, _, _, _, _, _, _, _, _, _, _, _, _, _, _, _, _, _, _, _, _, _, _, _, _, _, _, _, _, _, _, _, _, _, _, _, _, _, _, _, _, _, _, _, _, _, _, _, _, _, _, _, _, _, _, _, _, _, _, _, _, _, _, _, _, _, _, _, _, _, _, _, _, _, _, _, _, _, _, _, _, _] _
                                      refine g_ops_nil ?_
                                      refine g_seq ?_
                                      refine g_region ?_
                                      show G _ _ _ (.inRegion _ [0, 1, 2, 3] :: _) _ _
                                      refine g_op (v := v32) rfl rfl rfl ?_
                                      show G _ _ _ _ [_, _, _, _, _, _, _, _, _, _, _, _, _, _, _, _, _, _, _, _, _, _, _, _, _, _, _, _, _, _, _, _, _, _, _, _, _, _, _, _, _, _, _, _, _, _, _, _, _, _, _, _, _, _, _, _, _, _, _, _, _, _, _, _, _, _, _, _, _, _, _, _, _, _, _, _, _, _, _, _, _, _, _, _, _, _, _, _, _, _, _, _, _, _, _, _, _, _, _, _, _, _, _, _, _, _, _, _, _, _, _, _, _, _, _, _, _, _, _, _, _, _, _, _, _, _, _, _, _, _, _, _, _, _, _, _, _, _, _, _, _, _, _, _, _, _] _
                                      refine g_op (v := Value.int .i64 1) rfl rfl rfl ?_
                                      show G _ _ _ _ [_, _, _, _, _, _, _, _, _, _, _, _, _, _, _, _, _, _, _, _, _, _, _, _, _, _, _, _, _, _, _, _, _, _, _, _, _, _, _, _, _, _, _, _, _, _, _, _, _, _, _, _, _, _, _, _, _, _, _, _, _, _, _, _, _, _, _, _, _, _, _, _, _, _, _, _, _, _, _, _, _, _, _, _, _, _, _, _, _, _, _, _, _, _, _, _, _, _, _, _, _, _, _, _, _, _, _, _, _, _, _, _, _, _, _, _, _, _, _, _, _, _, _, _, _, _, _, _, _, _, _, _, _, _, _, _, _, _, _, _, _, _, _, _, _, _] _
                                      obtain ⟨r70, Hr70, H⟩ := bind_get H
                                      refine s_call (args := [v32, Value.int .i64 1]) rfl rfl (x_call rfl (callFunc_enter Try.func43 rfl rfl) rfl) (laws_heldInt64S.calls (a1 := r50.2) (a3 := 1) (hs.row 4 rfl) Hr70) ?_
                                      rintro _ w ⟨rfl, hs2⟩
                                      have hs : St _ [_, _, _, _, _, _, _, _, _, _, _, _, _, _, _] _ := hs.call hs2
                                      show G _ _ _ _ [_, _, _, _, _, _, _, _, _, _, _, _, _, _, _, _, _, _, _, _, _, _, _, _, _, _, _, _, _, _, _, _, _, _, _, _, _, _, _, _, _, _, _, _, _, _, _, _, _, _, _, _, _, _, _, _, _, _, _, _, _, _, _, _, _, _, _, _, _, _, _, _, _, _, _, _, _, _, _, _, _, _, _, _, _, _, _, _, _, _, _, _, _, _, _, _, _, _, _, _, _, _, _, _, _, _, _, _, _, _, _, _, _, _, _, _, _, _, _, _, _, _, _, _, _, _, _, _, _, _, _, _, _, _, _, _, _, _, _, _, _, _, _, _, _, _] _
                                      refine g_op (v := Value.int .i64 r70) rfl rfl rfl ?_
                                      show G _ _ _ _ [_, _, _, _, _, _, _, _, _, _, _, _, _, _, _, _, _, _, _, _, _, _, _, _, _, _, _, _, _, _, _, _, _, _, _, _, _, _, _, _, _, _, _, _, _, _, _, _, _, _, _, _, _, _, _, _, _, _, _, _, _, _, _, _, _, _, _, _, _, _, _, _, _, _, _, _, _, _, _, _, _, _, _, _, _, _, _, _, _, _, _, _, _, _, _, _, _, _, _, _, _, _, _, _, _, _, _, _, _, _, _, _, _, _, _, _, _, _, _, _, _, _, _, _, _, _, _, _, _, _, _, _, _, _, _, _, _, _, _, _, _, _, _, _, _, _] _
                                      refine g_ops_nil ?_
                                      refine g_seq ?_
                                      refine g_seq ?_
                                      refine g_region ?_
                                      show G _ _ _ (.inRegion _ [0, 1] :: _) _ _
                                      refine g_op (v := Value.int .i64 r70) rfl rfl rfl ?_
                                      show G _ _ _ _ [_, _, _, _, _, _, _, _, _, _, _, _, _, _, _, _, _, _, _, _, _, _, _, _, _, _, _, _, _, _, _, _, _, _, _, _, _, _, _, _, _, _, _, _, _, _, _, _, _, _, _, _, _, _, _, _, _, _, _, _, _, _, _, _, _, _, _, _, _, _, _, _, _, _, _, _, _, _, _, _, _, _, _, _, _, _, _, _, _, _, _, _, _, _, _, _, _, _, _, _, _, _, _, _, _, _, _, _, _, _, _, _, _, _, _, _, _, _, _, _, _, _, _, _, _, _, _, _, _, _, _, _, _, _, _, _, _, _, _, _, _, _, _, _, _, _] _
                                      refine g_op_b (B := decide (r70 < 0)) rfl rfl rfl ?_ ?_
                                      · intro hb
                                        rw [if_pos (b_dec_t hb)] at H
                                        show G _ _ _ _ [_, _, _, _, _, _, _, _, _, _, _, _, _, _, _, _, _, _, _, _, _, _, _, _, _, _, _, _, _, _, _, _, _, _, _, _, _, _, _, _, _, _, _, _, _, _, _, _, _, _, _, _, _, _, _, _, _, _, _, _, _, _, _, _, _, _, _, _, _, _, _, _, _, _, _, _, _, _, _, _, _, _, _, _, _, _, _, _, _, _, _, _, _, _, _, _, _, _, _, _, _, _, _, _, _, _, _, _, _, _, _, _, _, _, _, _, _, _, _, _, _, _, _, _, _, _, _, _, _, _, _, _, _, _, _, _, _, _, _, _, _, _, _, _, _, _] _
                                        refine g_ops_nil ?_
                                        refine g_cond_true rfl ?_
                                        refine g_seq ?_
                                        refine g_region ?_
                                        show G _ _ _ (.inRegion _ [0] :: _) _ _
                                        refine g_op (v := Value.bool false) rfl rfl rfl ?_
                                        show G _ _ _ _ [_, _, _, _, _, _, _, _, _, _, _, _, _, _, _, _, _, _, _, _, _, _, _, _, _, _, _, _, _, _, _, _, _, _, _, _, _, _, _, _, _, _, _, _, _, _, _, _, _, _, _, _, _, _, _, _, _, _, _, _, _, _, _, _, _, _, _, _, _, _, _, _, _, _, _, _, _, _, _, _, _, _, _, _, _, _, _, _, _, _, _, _, _, _, _, _, _, _, _, _, _, _, _, _, _, _, _, _, _, _, _, _, _, _, _, _, _, _, _, _, _, _, _, _, _, _, _, _, _, _, _, _, _, _, _, _, _, _, _, _, _, _, _, _, _, _] _
                                        refine g_ops_nil ?_
                                        obtain rfl := Option.some.inj H
                                        refine g_ret Try.func12 (v := Value.bool false) (res1 rfl rfl) ?_
                                        have hs : St _ [] _ := St.take (Γ' := [_, _, _, _, _, _, _, _, _, _, _, _, _, _, _]) hs
                                        exact ⟨_, rfl, rfl, hs⟩
                                      · intro hb
                                        rw [if_neg (b_dec_f hb)] at H
                                        show G _ _ _ _ [_, _, _, _, _, _, _, _, _, _, _, _, _, _, _, _, _, _, _, _, _, _, _, _, _, _, _, _, _, _, _, _, _, _, _, _, _, _, _, _, _, _, _, _, _, _, _, _, _, _, _, _, _, _, _, _, _, _, _, _, _, _, _, _, _, _, _, _, _, _, _, _, _, _, _, _, _, _, _, _, _, _, _, _, _, _, _, _, _, _, _, _, _, _, _, _, _, _, _, _, _, _, _, _, _, _, _, _, _, _, _, _, _, _, _, _, _, _, _, _, _, _, _, _, _, _, _, _, _, _, _, _, _, _, _, _, _, _, _, _, _, _, _, _, _, _] _
                                        refine g_ops_nil ?_
                                        refine g_cond_false rfl ?_
                                        refine g_skip ?_
                                        refine g_seq ?_
                                        refine g_seq ?_
                                        refine g_region ?_
                                        show G _ _ _ (.inRegion _ [0, 1, 2] :: _) _ _
                                        refine g_op (v := Value.int .i64 r70) rfl rfl rfl ?_
                                        show G _ _ _ _ [_, _, _, _, _, _, _, _, _, _, _, _, _, _, _, _, _, _, _, _, _, _, _, _, _, _, _, _, _, _, _, _, _, _, _, _, _, _, _, _, _, _, _, _, _, _, _, _, _, _, _, _, _, _, _, _, _, _, _, _, _, _, _, _, _, _, _, _, _, _, _, _, _, _, _, _, _, _, _, _, _, _, _, _, _, _, _, _, _, _, _, _, _, _, _, _, _, _, _, _, _, _, _, _, _, _, _, _, _, _, _, _, _, _, _, _, _, _, _, _, _, _, _, _, _, _, _, _, _, _, _, _, _, _, _, _, _, _, _, _, _, _, _, _, _, _] _
                                        refine g_op (v := Value.int .i64 r50.1) rfl rfl rfl ?_
                                        show G _ _ _ _ [_, _, _, _, _, _, _, _, _, _, _, _, _, _, _, _, _, _, _, _, _, _, _, _, _, _, _, _, _, _, _, _, _, _, _, _, _, _, _, _, _, _, _, _, _, _, _, _, _, _, _, _, _, _, _, _, _, _, _, _, _, _, _, _, _, _, _, _, _, _, _, _, _, _, _, _, _, _, _, _, _, _, _, _, _, _, _, _, _, _, _, _, _, _, _, _, _, _, _, _, _, _, _, _, _, _, _, _, _, _, _, _, _, _, _, _, _, _, _, _, _, _, _, _, _, _, _, _, _, _, _, _, _, _, _, _, _, _, _, _, _, _, _, _, _, _] _
                                        refine g_op_b (B := r70 != r50.1) rfl rfl rfl ?_ ?_
                                        · intro hb
                                          rw [if_neg (b_bne_t hb)] at H
                                          show G _ _ _ _ [_, _, _, _, _, _, _, _, _, _, _, _, _, _, _, _, _, _, _, _, _, _, _, _, _, _, _, _, _, _, _, _, _, _, _, _, _, _, _, _, _, _, _, _, _, _, _, _, _, _, _, _, _, _, _, _, _, _, _, _, _, _, _, _, _, _, _, _, _, _, _, _, _, _, _, _, _, _, _, _, _, _, _, _, _, _, _, _, _, _, _, _, _, _, _, _, _, _, _, _, _, _, _, _, _, _, _, _, _, _, _, _, _, _, _, _, _, _, _, _, _, _, _, _, _, _, _, _, _, _, _, _, _, _, _, _, _, _, _, _, _, _, _, _, _, _] _
                                          refine g_ops_nil ?_
                                          refine g_cond_true rfl ?_
                                          refine g_seq ?_
                                          refine g_region ?_
                                          show G _ _ _ (.inRegion _ [0] :: _) _ _
                                          refine g_op (v := Value.bool false) rfl rfl rfl ?_
                                          show G _ _ _ _ [_, _, _, _, _, _, _, _, _, _, _, _, _, _, _, _, _, _, _, _, _, _, _, _, _, _, _, _, _, _, _, _, _, _, _, _, _, _, _, _, _, _, _, _, _, _, _, _, _, _, _, _, _, _, _, _, _, _, _, _, _, _, _, _, _, _, _, _, _, _, _, _, _, _, _, _, _, _, _, _, _, _, _, _, _, _, _, _, _, _, _, _, _, _, _, _, _, _, _, _, _, _, _, _, _, _, _, _, _, _, _, _, _, _, _, _, _, _, _, _, _, _, _, _, _, _, _, _, _, _, _, _, _, _, _, _, _, _, _, _, _, _, _, _, _, _] _
                                          refine g_ops_nil ?_
                                          obtain rfl := Option.some.inj H
                                          refine g_ret Try.func12 (v := Value.bool false) (res1 rfl rfl) ?_
                                          have hs : St _ [] _ := St.take (Γ' := [_, _, _, _, _, _, _, _, _, _, _, _, _, _, _]) hs
                                          exact ⟨_, rfl, rfl, hs⟩
                                        · intro hb
                                          rw [if_pos (b_bne_f hb)] at H
                                          show G _ _ _ _ [_, _, _, _, _, _, _, _, _, _, _, _, _, _, _, _, _, _, _, _, _, _, _, _, _, _, _, _, _, _, _, _, _, _, _, _, _, _, _, _, _, _, _, _, _, _, _, _, _, _, _, _, _, _, _, _, _, _, _, _, _, _, _, _, _, _, _, _, _, _, _, _, _, _, _, _, _, _, _, _, _, _, _, _, _, _, _, _, _, _, _, _, _, _, _, _, _, _, _, _, _, _, _, _, _, _, _, _, _, _, _, _, _, _, _, _, _, _, _, _, _, _, _, _, _, _, _, _, _, _, _, _, _, _, _, _, _, _, _, _, _, _, _, _, _, _] _
                                          refine g_ops_nil ?_
                                          refine g_cond_false rfl ?_
                                          refine g_skip ?_
                                          refine g_seq ?_
                                          refine g_region ?_
                                          show G _ _ _ (.inRegion _ [0] :: _) _ _
                                          refine g_op (v := Value.bool true) rfl rfl rfl ?_
                                          show G _ _ _ _ [_, _, _, _, _, _, _, _, _, _, _, _, _, _, _, _, _, _, _, _, _, _, _, _, _, _, _, _, _, _, _, _, _, _, _, _, _, _, _, _, _, _, _, _, _, _, _, _, _, _, _, _, _, _, _, _, _, _, _, _, _, _, _, _, _, _, _, _, _, _, _, _, _, _, _, _, _, _, _, _, _, _, _, _, _, _, _, _, _, _, _, _, _, _, _, _, _, _, _, _, _, _, _, _, _, _, _, _, _, _, _, _, _, _, _, _, _, _, _, _, _, _, _, _, _, _, _, _, _, _, _, _, _, _, _, _, _, _, _, _, _, _, _, _, _, _] _
                                          refine g_ops_nil ?_
                                          obtain rfl := Option.some.inj H
                                          refine g_ret Try.func12 (v := Value.bool true) (res1 rfl rfl) ?_
                                          have hs : St _ [] _ := St.take (Γ' := [_, _, _, _, _, _, _, _, _, _, _, _, _, _, _]) hs
                                          exact ⟨_, rfl, rfl, hs⟩
                                | false =>
                                  rw [if_neg Bool.false_ne_true] at H
                                  show G _ _ _ _ [_, _, _, _, _, _, _, _, _, _, _, _, _, _, _, _, _, _, _, _, _, _, _, _, _, _, _, _, _, _, _, _, _, _, _, _, _, _, _, _, _, _, _, _, _, _, _, _, _, _, _, _, _, _, _, _, _, _, _, _, _, _, _, _, _, _, _, _, _, _, _, _, _, _, _, _, _, _, _, _, _, _, _, _, _, _, _, _, _, _, _, _, _, _, _, _, _, _, _, _, _, _, _, _, _, _, _, _, _, _, _, _, _, _, _, _, _, _, _, _, _, _, _, _, _, _, _, _, _, _, _, _, _, _, _, _, _, _, _, _, _, _, _, _, _, _] _
                                  refine g_op (v := Value.bool true) rfl rfl rfl ?_
                                  show G _ _ _ _ [_, _, _, _, _, _, _, _, _, _, _, _, _, _, _, _, _, _, _, _, _, _, _, _, _, _, _, _, _, _, _, _, _, _, _, _, _, _, _, _, _, _, _, _, _, _, _, _, _, _, _, _, _, _, _, _, _, _, _, _, _, _, _, _, _, _, _, _, _, _, _, _, _, _, _, _, _, _, _, _, _, _, _, _, _, _, _, _, _, _, _, _, _, _, _, _, _, _, _, _, _, _, _, _, _, _, _, _, _, _, _, _, _, _, _, _, _, _, _, _, _, _, _, _, _, _, _, _, _, _, _, _, _, _, _, _, _, _, _, _, _, _, _, _, _, _] _
                                  refine g_op (v := Value.bool true) rfl rfl rfl ?_
                                  show G _ _ _ _ [_, _, _, _, _, _, _, _, _, _, _, _, _, _, _, _, _, _, _, _, _, _, _, _, _, _, _, _, _, _, _, _, _, _, _, _, _, _, _, _, _, _, _, _, _, _, _, _, _, _, _, _, _, _, _, _, _, _, _, _, _, _, _, _, _, _, _, _, _, _, _, _, _, _, _, _, _, _, _, _, _, _, _, _, _, _, _, _, _, _, _, _, _, _, _, _, _, _, _, _, _, _, _, _, _, _, _, _, _, _, _, _, _, _, _, _, _, _, _, _, _, _, _, _, _, _, _, _, _, _, _, _, _, _, _, _, _, _, _, _, _, _, _, _, _, _] _
                                  refine g_op_not rfl rfl ?_
                                  show G _ _ _ _ [_, _, _, _, _, _, _, _, _, _, _, _, _, _, _, _, _, _, _, _, _, _, _, _, _, _, _, _, _, _, _, _, _, _, _, _, _, _, _, _, _, _, _, _, _, _, _, _, _, _, _, _, _, _, _, _, _, _, _, _, _, _, _, _, _, _, _, _, _, _, _, _, _, _, _, _, _, _, _, _, _, _, _, _, _, _, _, _, _, _, _, _, _, _, _, _, _, _, _, _, _, _, _, _, _, _, _, _, _, _, _, _, _, _, _, _, _, _, _, _, _, _, _, _, _, _, _, _, _, _, _, _, _, _, _, _, _, _, _, _, _, _, _, _, _, _] _
                                  refine g_op_not rfl rfl ?_
                                  show G _ _ _ _ [_, _, _, _, _, _, _, _, _, _, _, _, _, _, _, _, _, _, _, _, _, _, _, _, _, _, _, _, _, _, _, _, _, _, _, _, _, _, _, _, _, _, _, _, _, _, _, _, _, _, _, _, _, _, _, _, _, _, _, _, _, _, _, _, _, _, _, _, _, _, _, _, _, _, _, _, _, _, _, _, _, _, _, _, _, _, _, _, _, _, _, _, _, _, _, _, _, _, _, _, _, _, _, _, _, _, _, _, _, _, _, _, _, _, _, _, _, _, _, _, _, _, _, _, _, _, _, _, _, _, _, _, _, _, _, _, _, _, _, _, _, _, _, _, _, _] _
                                  refine g_op_not rfl rfl ?_
                                  show G _ _ _ _ [_, _, _, _, _, _, _, _, _, _, _, _, _, _, _, _, _, _, _, _, _, _, _, _, _, _, _, _, _, _, _, _, _, _, _, _, _, _, _, _, _, _, _, _, _, _, _, _, _, _, _, _, _, _, _, _, _, _, _, _, _, _, _, _, _, _, _, _, _, _, _, _, _, _, _, _, _, _, _, _, _, _, _, _, _, _, _, _, _, _, _, _, _, _, _, _, _, _, _, _, _, _, _, _, _, _, _, _, _, _, _, _, _, _, _, _, _, _, _, _, _, _, _, _, _, _, _, _, _, _, _, _, _, _, _, _, _, _, _, _, _, _, _, _, _, _] _
                                  refine g_op_not rfl rfl ?_
                                  show G _ _ _ _ [_, _, _, _, _, _, _, _, _, _, _, _, _, _, _, _, _, _, _, _, _, _, _, _, _, _, _, _, _, _, _, _, _, _, _, _, _, _, _, _, _, _, _, _, _, _, _, _, _, _, _, _, _, _, _, _, _, _, _, _, _, _, _, _, _, _, _, _, _, _, _, _, _, _, _, _, _, _, _, _, _, _, _, _, _, _, _, _, _, _, _, _, _, _, _, _, _, _, _, _, _, _, _, _, _, _, _, _, _, _, _, _, _, _, _, _, _, _, _, _, _, _, _, _, _, _, _, _, _, _, _, _, _, _, _, _, _, _, _, _, _, _, _, _, _, _] _
                                  refine g_op (v := Value.bool true) rfl rfl rfl ?_
                                  show G _ _ _ _ [_, _, _, _, _, _, _, _, _, _, _, _, _, _, _, _, _, _, _, _, _, _, _, _, _, _, _, _, _, _, _, _, _, _, _, _, _, _, _, _, _, _, _, _, _, _, _, _, _, _, _, _, _, _, _, _, _, _, _, _, _, _, _, _, _, _, _, _, _, _, _, _, _, _, _, _, _, _, _, _, _, _, _, _, _, _, _, _, _, _, _, _, _, _, _, _, _, _, _, _, _, _, _, _, _, _, _, _, _, _, _, _, _, _, _, _, _, _, _, _, _, _, _, _, _, _, _, _, _, _, _, _, _, _, _, _, _, _, _, _, _, _, _, _, _, _] _
                                  refine g_op (v := Value.bool true) rfl rfl rfl ?_
                                  show G _ _ _ _ [_, _, _, _, _, _, _, _, _, _, _, _, _, _, _, _, _, _, _, _, _, _, _, _, _, _, _, _, _, _, _, _, _, _, _, _, _, _, _, _, _, _, _, _, _, _, _, _, _, _, _, _, _, _, _, _, _, _, _, _, _, _, _, _, _, _, _, _, _, _, _, _, _, _, _, _, _, _, _, _, _, _, _, _, _, _, _, _, _, _, _, _, _, _, _, _, _, _, _, _, _, _, _, _, _, _, _, _, _, _, _, _, _, _, _, _, _, _, _, _, _, _, _, _, _, _, _, _, _, _, _, _, _, _, _, _, _, _, _, _, _, _, _, _, _, _] _
                                  refine g_op_not rfl rfl ?_
                                  show G _ _ _ _ [_, _, _, _, _, _, _, _, _, _, _, _, _, _, _, _, _, _, _, _, _, _, _, _, _, _, _, _, _, _, _, _, _, _, _, _, _, _, _, _, _, _, _, _, _, _, _, _, _, _, _, _, _, _, _, _, _, _, _, _, _, _, _, _, _, _, _, _, _, _, _, _, _, _, _, _, _, _, _, _, _, _, _, _, _, _, _, _, _, _, _, _, _, _, _, _, _, _, _, _, _, _, _, _, _, _, _, _, _, _, _, _, _, _, _, _, _, _, _, _, _, _, _, _, _, _, _, _, _, _, _, _, _, _, _, _, _, _, _, _, _, _, _, _, _, _] _
                                  refine g_op_not rfl rfl ?_
                                  show G _ _ _ _ [_, _, _, _, _, _, _, _, _, _, _, _, _, _, _, _, _, _, _, _, _, _, _, _, _, _, _, _, _, _, _, _, _, _, _, _, _, _, _, _, _, _, _, _, _, _, _, _, _, _, _, _, _, _, _, _, _, _, _, _, _, _, _, _, _, _, _, _, _, _, _, _, _, _, _, _, _, _, _, _, _, _, _, _, _, _, _, _, _, _, _, _, _, _, _, _, _, _, _, _, _, _, _, _, _, _, _, _, _, _, _, _, _, _, _, _, _, _, _, _, _, _, _, _, _, _, _, _, _, _, _, _, _, _, _, _, _, _, _, _, _, _, _, _, _, _] _
                                  refine g_op_not rfl rfl ?_
                                  show G _ _ _ _ [_, _, _, _, _, _, _, _, _, _, _, _, _, _, _, _, _, _, _, _, _, _, _, _, _, _, _, _, _, _, _, _, _, _, _, _, _, _, _, _, _, _, _, _, _, _, _, _, _, _, _, _, _, _, _, _, _, _, _, _, _, _, _, _, _, _, _, _, _, _, _, _, _, _, _, _, _, _, _, _, _, _, _, _, _, _, _, _, _, _, _, _, _, _, _, _, _, _, _, _, _, _, _, _, _, _, _, _, _, _, _, _, _, _, _, _, _, _, _, _, _, _, _, _, _, _, _, _, _, _, _, _, _, _, _, _, _, _, _, _, _, _, _, _, _, _] _
                                  refine g_op (v := Value.bool true) rfl rfl rfl ?_
                                  show G _ _ _ _ [_, _, _, _, _, _, _, _, _, _, _, _, _, _, _, _, _, _, _, _, _, _, _, _, _, _, _, _, _, _, _, _, _, _, _, _, _, _, _, _, _, _, _, _, _, _, _, _, _, _, _, _, _, _, _, _, _, _, _, _, _, _, _, _, _, _, _, _, _, _, _, _, _, _, _, _, _, _, _, _, _, _, _, _, _, _, _, _, _, _, _, _, _, _, _, _, _, _, _, _, _, _, _, _, _, _, _, _, _, _, _, _, _, _, _, _, _, _, _, _, _, _, _, _, _, _, _, _, _, _, _, _, _, _, _, _, _, _, _, _, _, _, _, _, _, _] _
                                  refine g_ops_nil ?_
                                  refine g_cond_true rfl ?_
                                  refine g_seq ?_
                                  refine g_region ?_
                                  show G _ _ _ (.inRegion _ [0] :: _) _ _
                                  refine g_op (v := Value.bool false) rfl rfl rfl ?_
                                  show G _ _ _ _ [_, _, _, _, _, _, _, _, _, _, _, _, _, _, _, _, _, _, _, _, _, _, _, _, _, _, _, _, _, _, _, _, _, _, _, _, _, _, _, _, _, _, _, _, _, _, _, _, _, _, _, _, _, _, _, _, _, _, _, _, _, _, _, _, _, _, _, _, _, _, _, _, _, _, _, _, _, _, _, _, _, _, _, _, _, _, _, _, _, _, _, _, _, _, _, _, _, _, _, _, _, _, _, _, _, _, _, _, _, _, _, _, _, _, _, _, _, _, _, _, _, _, _, _, _, _, _, _, _, _, _, _, _, _, _, _, _, _, _, _, _, _, _, _, _, _] _
                                  refine g_ops_nil ?_
                                  obtain rfl := Option.some.inj H
                                  refine g_ret Try.func12 (v := Value.bool false) (res1 rfl rfl) ?_
                                  have hs : St _ [] _ := St.take (Γ' := [_, _, _, _, _, _, _, _, _, _, _, _, _, _, _]) hs
                                  exact ⟨_, rfl, rfl, hs⟩
                | false =>
                  rw [if_neg Bool.false_ne_true] at H
                  show G _ _ _ _ [_, _, _, _, _, _, _, _, _, _, _, _, _, _, _, _, _, _, _, _, _, _, _, _, _, _, _, _, _, _, _, _, _, _, _, _, _, _, _, _, _, _, _, _, _, _, _, _, _, _, _, _, _, _, _, _, _, _, _, _, _, _, _, _, _, _, _, _, _, _, _, _, _, _, _, _, _, _, _, _, _, _, _, _, _, _, _, _, _, _, _, _, _, _, _, _, _, _, _, _, _, _, _, _, _, _, _, _, _, _, _, _, _, _, _, _, _, _, _, _, _, _, _, _, _, _, _, _, _, _, _, _, _, _, _, _, _, _, _, _, _, _, _, _, _, _] _
                  refine g_op (v := Value.bool true) rfl rfl rfl ?_
                  show G _ _ _ _ [_, _, _, _, _, _, _, _, _, _, _, _, _, _, _, _, _, _, _, _, _, _, _, _, _, _, _, _, _, _, _, _, _, _, _, _, _, _, _, _, _, _, _, _, _, _, _, _, _, _, _, _, _, _, _, _, _, _, _, _, _, _, _, _, _, _, _, _, _, _, _, _, _, _, _, _, _, _, _, _, _, _, _, _, _, _, _, _, _, _, _, _, _, _, _, _, _, _, _, _, _, _, _, _, _, _, _, _, _, _, _, _, _, _, _, _, _, _, _, _, _, _, _, _, _, _, _, _, _, _, _, _, _, _, _, _, _, _, _, _, _, _, _, _, _, _] _
                  refine g_ops_nil ?_
                  refine g_cond_true rfl ?_
                  refine g_seq ?_
                  refine g_region ?_
                  show G _ _ _ (.inRegion _ [0] :: _) _ _
                  refine g_op (v := Value.bool false) rfl rfl rfl ?_
                  show G _ _ _ _ [_, _, _, _, _, _, _, _, _, _, _, _, _, _, _, _, _, _, _, _, _, _, _, _, _, _, _, _, _, _, _, _, _, _, _, _, _, _, _, _, _, _, _, _, _, _, _, _, _, _, _, _, _, _, _, _, _, _, _, _, _, _, _, _, _, _, _, _, _, _, _, _, _, _, _, _, _, _, _, _, _, _, _, _, _, _, _, _, _, _, _, _, _, _, _, _, _, _, _, _, _, _, _, _, _, _, _, _, _, _, _, _, _, _, _, _, _, _, _, _, _, _, _, _, _, _, _, _, _, _, _, _, _, _, _, _, _, _, _, _, _, _, _, _, _, _] _
                  refine g_ops_nil ?_
                  obtain rfl := Option.some.inj H
                  refine g_ret Try.func12 (v := Value.bool false) (res1 rfl rfl) ?_
                  have hs : St _ [] _ := St.take (Γ' := [_, _, _, _, _, _, _, _, _, _, _]) hs
                  exact ⟨_, rfl, rfl, hs⟩
              | false =>
                rw [if_neg Bool.false_ne_true] at H
                show G _ _ _ _ [_, _, _, _, _, _, _, _, _, _, _, _, _, _, _, _, _, _, _, _, _, _, _, _, _, _, _, _, _, _, _, _, _, _, _, _, _, _, _, _, _, _, _, _, _, _, _, _, _, _, _, _, _, _, _, _, _, _, _, _, _, _, _, _, _, _, _, _, _, _, _, _, _, _, _, _, _, _, _, _, _, _, _, _, _, _, _, _, _, _, _, _, _, _, _, _, _, _, _, _, _, _, _, _, _, _, _, _, _, _, _, _, _, _, _, _, _, _, _, _, _, _, _, _, _, _, _, _, _, _, _, _, _, _, _, _, _, _, _, _, _, _, _, _, _, _] _
                refine g_op (v := Value.bool true) rfl rfl rfl ?_
                show G _ _ _ _ [_, _, _, _, _, _, _, _, _, _, _, _, _, _, _, _, _, _, _, _, _, _, _, _, _, _, _, _, _, _, _, _, _, _, _, _, _, _, _, _, _, _, _, _, _, _, _, _, _, _, _, _, _, _, _, _, _, _, _, _, _, _, _, _, _, _, _, _, _, _, _, _, _, _, _, _, _, _, _, _, _, _, _, _, _, _, _, _, _, _, _, _, _, _, _, _, _, _, _, _, _, _, _, _, _, _, _, _, _, _, _, _, _, _, _, _, _, _, _, _, _, _, _, _, _, _, _, _, _, _, _, _, _, _, _, _, _, _, _, _, _, _, _, _, _, _] _
                refine g_ops_nil ?_
                refine g_cond_true rfl ?_
                refine g_seq ?_
                refine g_region ?_
                show G _ _ _ (.inRegion _ [0] :: _) _ _
                refine g_op (v := Value.bool false) rfl rfl rfl ?_
                show G _ _ _ _ [_, _, _, _, _, _, _, _, _, _, _, _, _, _, _, _, _, _, _, _, _, _, _, _, _, _, _, _, _, _, _, _, _, _, _, _, _, _, _, _, _, _, _, _, _, _, _, _, _, _, _, _, _, _, _, _, _, _, _, _, _, _, _, _, _, _, _, _, _, _, _, _, _, _, _, _, _, _, _, _, _, _, _, _, _, _, _, _, _, _, _, _, _, _, _, _, _, _, _, _, _, _, _, _, _, _, _, _, _, _, _, _, _, _, _, _, _, _, _, _, _, _, _, _, _, _, _, _, _, _, _, _, _, _, _, _, _, _, _, _, _, _, _, _, _, _] _
                refine g_ops_nil ?_
                obtain rfl := Option.some.inj H
                refine g_ret Try.func12 (v := Value.bool false) (res1 rfl rfl) ?_
                have hs : St _ [] _ := St.take (Γ' := [_, _, _, _, _, _, _, _, _, _]) hs
                exact ⟨_, rfl, rfl, hs⟩
        | false =>
          rw [if_neg Bool.false_ne_true] at H
          show G _ _ _ _ [_, _, _, _, _, _, _, _, _, _, _, _, _, _, _, _, _, _, _, _, _, _, _, _, _, _, _, _, _, _, _, _, _, _, _, _, _, _, _, _, _, _, _, _, _, _, _, _, _, _, _, _, _, _, _, _, _, _, _, _, _, _, _, _, _, _, _, _, _, _, _, _, _, _, _, _, _, _, _, _, _, _, _, _, _, _, _, _, _, _, _, _, _, _, _, _, _, _, _, _, _, _, _, _, _, _, _, _, _, _, _, _, _, _, _, _, _, _, _, _, _, _, _, _, _, _, _, _, _, _, _, _, _, _, _, _, _, _, _, _, _, _, _, _, _, _] _
          refine g_op (v := Value.bool true) rfl rfl rfl ?_
          show G _ _ _ _ [_, _, _, _, _, _, _, _, _, _, _, _, _, _, _, _, _, _, _, _, _, _, _, _, _, _, _, _, _, _, _, _, _, _, _, _, _, _, _, _, _, _, _, _, _, _, _, _, _, _, _, _, _, _, _, _, _, _, _, _, _, _, _, _, _, _, _, _, _, _, _, _, _, _, _, _, _, _, _, _, _, _, _, _, _, _, _, _, _, _, _, _, _, _, _, _, _, _, _, _, _, _, _, _, _, _, _, _, _, _, _, _, _, _, _, _, _, _, _, _, _, _, _, _, _, _, _, _, _, _, _, _, _, _, _, _, _, _, _, _, _, _, _, _, _, _] _
          refine g_op (v := Value.bool true) rfl rfl rfl ?_
          show G _ _ _ _ [_, _, _, _, _, _, _, _, _, _, _, _, _, _, _, _, _, _, _, _, _, _, _, _, _, _, _, _, _, _, _, _, _, _, _, _, _, _, _, _, _, _, _, _, _, _, _, _, _, _, _, _, _, _, _, _, _, _, _, _, _, _, _, _, _, _, _, _, _, _, _, _, _, _, _, _, _, _, _, _, _, _, _, _, _, _, _, _, _, _, _, _, _, _, _, _, _, _, _, _, _, _, _, _, _, _, _, _, _, _, _, _, _, _, _, _, _, _, _, _, _, _, _, _, _, _, _, _, _, _, _, _, _, _, _, _, _, _, _, _, _, _, _, _, _, _] _
          refine g_op_not rfl rfl ?_
          show G _ _ _ _ [_, _, _, _, _, _, _, _, _, _, _, _, _, _, _, _, _, _, _, _, _, _, _, _, _, _, _, _, _, _, _, _, _, _, _, _, _, _, _, _, _, _, _, _, _, _, _, _, _, _, _, _, _, _, _, _, _, _, _, _, _, _, _, _, _, _, _, _, _, _, _, _, _, _, _, _, _, _, _, _, _, _, _, _, _, _, _, _, _, _, _, _, _, _, _, _, _, _, _, _, _, _, _, _, _, _, _, _, _, _, _, _, _, _, _, _, _, _, _, _, _, _, _, _, _, _, _, _, _, _, _, _, _, _, _, _, _, _, _, _, _, _, _, _, _, _] _
          refine g_op_not rfl rfl ?_
          show G _ _ _ _ [_, _, _, _, _, _, _, _, _, _, _, _, _, _, _, _, _, _, _, _, _, _, _, _, _, _, _, _, _, _, _, _, _, _, _, _, _, _, _, _, _, _, _, _, _, _, _, _, _, _, _, _, _, _, _, _, _, _, _, _, _, _, _, _, _, _, _, _, _, _, _, _, _, _, _, _, _, _, _, _, _, _, _, _, _, _, _, _, _, _, _, _, _, _, _, _, _, _, _, _, _, _, _, _, _, _, _, _, _, _, _, _, _, _, _, _, _, _, _, _, _, _, _, _, _, _, _, _, _, _, _, _, _, _, _, _, _, _, _, _, _, _, _, _, _, _] _
          refine g_op_not rfl rfl ?_
          show G _ _ _ _ [_, _, _, _, _, _, _, _, _, _, _, _, _, _, _, _, _, _, _, _, _, _, _, _, _, _, _, _, _, _, _, _, _, _, _, _, _, _, _, _, _, _, _, _, _, _, _, _, _, _, _, _, _, _, _, _, _, _, _, _, _, _, _, _, _, _, _, _, _, _, _, _, _, _, _, _, _, _, _, _, _, _, _, _, _, _, _, _, _, _, _, _, _, _, _, _, _, _, _, _, _, _, _, _, _, _, _, _, _, _, _, _, _, _, _, _, _, _, _, _, _, _, _, _, _, _, _, _, _, _, _, _, _, _, _, _, _, _, _, _, _, _, _, _, _, _] _
          refine g_op_not rfl rfl ?_
          show G _ _ _ _ [_, _, _, _, _, _, _, _, _, _, _, _, _, _, _, _, _, _, _, _, _, _, _, _, _, _, _, _, _, _, _, _, _, _, _, _, _, _, _, _, _, _, _, _, _, _, _, _, _, _, _, _, _, _, _, _, _, _, _, _, _, _, _, _, _, _, _, _, _, _, _, _, _, _, _, _, _, _, _, _, _, _, _, _, _, _, _, _, _, _, _, _, _, _, _, _, _, _, _, _, _, _, _, _, _, _, _, _, _, _, _, _, _, _, _, _, _, _, _, _, _, _, _, _, _, _, _, _, _, _, _, _, _, _, _, _, _, _, _, _, _, _, _, _, _, _] _
          refine g_op (v := Value.bool true) rfl rfl rfl ?_
          show G _ _ _ _ [_, _, _, _, _, _, _, _, _, _, _, _, _, _, _, _, _, _, _, _, _, _, _, _, _, _, _, _, _, _, _, _, _, _, _, _, _, _, _, _, _, _, _, _, _, _, _, _, _, _, _, _, _, _, _, _, _, _, _, _, _, _, _, _, _, _, _, _, _, _, _, _, _, _, _, _, _, _, _, _, _, _, _, _, _, _, _, _, _, _, _, _, _, _, _, _, _, _, _, _, _, _, _, _, _, _, _, _, _, _, _, _, _, _, _, _, _, _, _, _, _, _, _, _, _, _, _, _, _, _, _, _, _, _, _, _, _, _, _, _, _, _, _, _, _, _] _
          refine g_op (v := Value.bool true) rfl rfl rfl ?_
          show G _ _ _ _ [_, _, _, _, _, _, _, _, _, _, _, _, _, _, _, _, _, _, _, _, _, _, _, _, _, _, _, _, _, _, _, _, _, _, _, _, _, _, _, _, _, _, _, _, _, _, _, _, _, _, _, _, _, _, _, _, _, _, _, _, _, _, _, _, _, _, _, _, _, _, _, _, _, _, _, _, _, _, _, _, _, _, _, _, _, _, _, _, _, _, _, _, _, _, _, _, _, _, _, _, _, _, _, _, _, _, _, _, _, _, _, _, _, _, _, _, _, _, _, _, _, _, _, _, _, _, _, _, _, _, _, _, _, _, _, _, _, _, _, _, _, _, _, _, _, _] _
          refine g_op_not rfl rfl ?_
          show G _ _ _ _ [_, _, _, _, _, _, _, _, _, _, _, _, _, _, _, _, _, _, _, _, _, _, _, _, _, _, _, _, _, _, _, _, _, _, _, _, _, _, _, _, _, _, _, _, _, _, _, _, _, _, _, _, _, _, _, _, _, _, _, _, _, _, _, _, _, _, _, _, _, _, _, _, _, _, _, _, _, _, _, _, _, _, _, _, _, _, _, _, _, _, _, _, _, _, _, _, _, _, _, _, _, _, _, _, _, _, _, _, _, _, _, _, _, _, _, _, _, _, _, _, _, _, _, _, _, _, _, _, _, _, _, _, _, _, _, _, _, _, _, _, _, _, _, _, _, _] _
          refine g_op_not rfl rfl ?_
          show G _ _ _ _ [_, _, _, _, _, _, _, _, _, _, _, _, _, _, _, _, _, _, _, _, _, _, _, _, _, _, _, _, _, _, _, _, _, _, _, _, _, _, _, _, _, _, _, _, _, _, _, _, _, _, _, _, _, _, _, _, _, _, _, _, _, _, _, _, _, _, _, _, _, _, _, _, _, _, _, _, _, _, _, _, _, _, _, _, _, _, _, _, _, _, _, _, _, _, _, _, _, _, _, _, _, _, _, _, _, _, _, _, _, _, _, _, _, _, _, _, _, _, _, _, _, _, _, _, _, _, _, _, _, _, _, _, _, _, _, _, _, _, _, _, _, _, _, _, _, _] _
          refine g_op_not rfl rfl ?_
          show G _ _ _ _ [_, _, _, _, _, _, _, _, _, _, _, _, _, _, _, _, _, _, _, _, _, _, _, _, _, _, _, _, _, _, _, _, _, _, _, _, _, _, _, _, _, _, _, _, _, _, _, _, _, _, _, _, _, _, _, _, _, _, _, _, _, _, _, _, _, _, _, _, _, _, _, _, _, _, _, _, _, _, _, _, _, _, _, _, _, _, _, _, _, _, _, _, _, _, _, _, _, _, _, _, _, _, _, _, _, _, _, _, _, _, _, _, _, _, _, _, _, _, _, _, _, _, _, _, _, _, _, _, _, _, _, _, _, _, _, _, _, _, _, _, _, _, _, _, _, _] _
          refine g_op (v := Value.bool true) rfl rfl rfl ?_
          show G _ _ _ _ [_, _, _, _, _, _, _, _, _, _, _, _, _, _, _, _, _, _, _, _, _, _, _, _, _, _, _, _, _, _, _, _, _, _, _, _, _, _, _, _, _, _, _, _, _, _, _, _, _, _, _, _, _, _, _, _, _, _, _, _, _, _, _, _, _, _, _, _, _, _, _, _, _, _, _, _, _, _, _, _, _, _, _, _, _, _, _, _, _, _, _, _, _, _, _, _, _, _, _, _, _, _, _, _, _, _, _, _, _, _, _, _, _, _, _, _, _, _, _, _, _, _, _, _, _, _, _, _, _, _, _, _, _, _, _, _, _, _, _, _, _, _, _, _, _, _] _
          refine g_ops_nil ?_
          refine g_cond_true rfl ?_
          refine g_seq ?_
          refine g_region ?_
          show G _ _ _ (.inRegion _ [0] :: _) _ _
          refine g_op (v := Value.bool false) rfl rfl rfl ?_
          show G _ _ _ _ [_, _, _, _, _, _, _, _, _, _, _, _, _, _, _, _, _, _, _, _, _, _, _, _, _, _, _, _, _, _, _, _, _, _, _, _, _, _, _, _, _, _, _, _, _, _, _, _, _, _, _, _, _, _, _, _, _, _, _, _, _, _, _, _, _, _, _, _, _, _, _, _, _, _, _, _, _, _, _, _, _, _, _, _, _, _, _, _, _, _, _, _, _, _, _, _, _, _, _, _, _, _, _, _, _, _, _, _, _, _, _, _, _, _, _, _, _, _, _, _, _, _, _, _, _, _, _, _, _, _, _, _, _, _, _, _, _, _, _, _, _, _, _, _, _, _] _
          refine g_ops_nil ?_
          obtain rfl := Option.some.inj H
          refine g_ret Try.func12 (v := Value.bool false) (res1 rfl rfl) ?_
          have hs : St _ [] _ := St.take (Γ' := [_, _, _, _, _, _, _, _, _]) hs
          exact ⟨_, rfl, rfl, hs⟩

end Go.Proofs.YtgachgjcnmeicaaX
