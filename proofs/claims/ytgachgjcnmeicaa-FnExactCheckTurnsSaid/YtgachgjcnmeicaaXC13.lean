/- Contracts, printed by gen.py. -/
import Derived.Test.YtgachgjcnmeicaaXC12
namespace Go.Proofs.YtgachgjcnmeicaaX
open Go Go.RowKit Go.Proofs
set_option linter.unusedVariables false
set_option linter.unusedSimpArgs false
/- function 9 laws_FnExactWaitFor -/
def laws_FnExactWaitFor.post (w0 : World) (r : Bool) (v : Value) (w : World) : Prop := v = Value.bool r ∧ St w0 [] w
set_option maxHeartbeats 400000 in
set_option maxRecDepth 100000 in
theorem laws_FnExactWaitFor.calls {N : Nat} {a1 : (List Int)} {a3 : (Ar Int 4)} {v2 : Value} {w0 : World} {r : Bool} (hr0 : RdRow (K.int .i16) w0 v2 a1) (H : laws_FnExactWaitFor.f N a1 a3 = some r) :
    Calls Try.prog 9 #[v2, Value.agg ((encA (encI .i16)) a3).toArray] w0 fun e w => ∃ v, e = .returned v ∧ laws_FnExactWaitFor.post w0 r v w := by
  unfold laws_FnExactWaitFor.f at H
  have hs : St w0 [] w0 := St.refl w0
  refine calls_of_g (n := 51) Try.func9 rfl rfl ?_
  show G _ _ _ _ [_, _, _, _, _, _, _, _, _, _, _, _, _, _, _, _, _, _, _, _, _, _, _, _, _, _, _, _, _, _, _, _, _, _, _, _, _, _, _, _, _, _, _, _, _, _, _, _, _, _, _, _, _] _
  refine g_seq ?_
  refine g_region ?_
  show G _ _ _ (.inRegion _ [0, 1] :: _) _ _
  refine s_box hs rfl rfl (cs := ((encA (encI .i16)) a3)) rfl rfl ?_
  intro b4 w hs
  show G _ _ _ _ [_, _, _, _, _, _, _, _, _, _, _, _, _, _, _, _, _, _, _, _, _, _, _, _, _, _, _, _, _, _, _, _, _, _, _, _, _, _, _, _, _, _, _, _, _, _, _, _, _, _, _, _, _] _
  refine g_op (v := Value.bool false) rfl rfl rfl ?_
  show G _ _ _ _ [_, _, _, _, _, _, _, _, _, _, _, _, _, _, _, _, _, _, _, _, _, _, _, _, _, _, _, _, _, _, _, _, _, _, _, _, _, _, _, _, _, _, _, _, _, _, _, _, _, _, _, _, _] _
  refine g_ops_nil ?_
  refine g_seq ?_
  refine g_seq ?_
  refine g_region ?_
  show G _ _ _ (.inRegion _ [0, 1, 2] :: _) _ _
  refine g_op (v := v2) rfl rfl rfl ?_
  show G _ _ _ _ [_, _, _, _, _, _, _, _, _, _, _, _, _, _, _, _, _, _, _, _, _, _, _, _, _, _, _, _, _, _, _, _, _, _, _, _, _, _, _, _, _, _, _, _, _, _, _, _, _, _, _, _, _] _
  refine s_len (hs.rd hr0) rfl rfl rfl rfl rfl ?_
  show G _ _ _ _ [_, _, _, _, _, _, _, _, _, _, _, _, _, _, _, _, _, _, _, _, _, _, _, _, _, _, _, _, _, _, _, _, _, _, _, _, _, _, _, _, _, _, _, _, _, _, _, _, _, _, _, _, _] _
  refine g_op_b (B := decide ((a1.length : Int) > 1048576)) rfl rfl rfl ?_ ?_
  · intro hb
    rw [if_pos (b_dec_t hb)] at H
    show G _ _ _ _ [_, _, _, _, _, _, _, _, _, _, _, _, _, _, _, _, _, _, _, _, _, _, _, _, _, _, _, _, _, _, _, _, _, _, _, _, _, _, _, _, _, _, _, _, _, _, _, _, _, _, _, _, _] _
    refine g_ops_nil ?_
    refine g_cond_true rfl ?_
    refine g_seq ?_
    refine g_region ?_
    show G _ _ _ (.inRegion _ [0] :: _) _ _
    refine g_op (v := Value.bool true) rfl rfl rfl ?_
    show G _ _ _ _ [_, _, _, _, _, _, _, _, _, _, _, _, _, _, _, _, _, _, _, _, _, _, _, _, _, _, _, _, _, _, _, _, _, _, _, _, _, _, _, _, _, _, _, _, _, _, _, _, _, _, _, _, _] _
    refine g_ops_nil ?_
    obtain rfl := Option.some.inj H
    refine g_ret Try.func9 (v := Value.bool true) (res1 rfl rfl) ?_
    have hs : St _ [] _ := St.take (Γ' := [_]) hs
    exact ⟨_, rfl, rfl, hs⟩
  · intro hb
    rw [if_neg (b_dec_f hb)] at H
    show G _ _ _ _ [_, _, _, _, _, _, _, _, _, _, _, _, _, _, _, _, _, _, _, _, _, _, _, _, _, _, _, _, _, _, _, _, _, _, _, _, _, _, _, _, _, _, _, _, _, _, _, _, _, _, _, _, _] _
    refine g_ops_nil ?_
    refine g_cond_false rfl ?_
    refine g_skip ?_
    refine g_seq ?_
    obtain ⟨r6, Hr6, H⟩ := bind_get H
    obtain ⟨r9, Hr9, H⟩ := bind_get H
    obtain ⟨r10, Hr10, H⟩ := bind_get H
    refine g_name ?_
    intro T hT
    refine g_any (n := 13) rfl [0, 1, 2, 3, 4, 5, 6, 7, 8, 9, 10, 11, 12] [0, 1, 2, 3, 4, 5, 6, 9, 11, 7, 8, 10, 12] rfl rfl (Inv := fun D t w => ∃ v7 : Value, ∃ b11 : Nat, ∃ O : Nat → Value, t = [v2, Value.agg ((encA (encI .i16)) a3).toArray, O 2, Value.pointer (some ⟨b4, 0, none⟩), Value.bool false, cnd (D 9) (Value.pointer (some ⟨b11, 0, none⟩)) (O 5), cnd (D 11) (Value.int .i64 r10.2.1) (O 6), cnd (D 12) (Value.int .i64 r10.2.2) (O 7), O 8, O 9, O 10, O 11, v2, Value.int .i64 (a1.length : Int), Value.bool false, cnd (D 5) (Value.tuple #[Value.agg ((encA (encI .i16)) r10.1).toArray, Value.int .i64 r10.2.1, Value.int .i64 r10.2.2]) (O 15), cnd (D 0) v2 (O 16), cnd (D 1) v7 (O 17), cnd (D 2) (Value.agg ((encA (encI .i16)) a3).toArray) (O 18), cnd (D 3) (Value.agg ((encA (encI .i16)) r9).toArray) (O 19), cnd (D 4) (Value.tuple #[Value.agg ((encA (encI .i16)) r10.1).toArray, Value.int .i64 r10.2.1, Value.int .i64 r10.2.2]) (O 20), cnd (D 6) (Value.agg ((encA (encI .i16)) r10.1).toArray) (O 21), cnd (D 7) (Value.int .i64 r10.2.1) (O 22), cnd (D 8) (Value.int .i64 r10.2.2) (O 23), O 24, O 25, O 26, O 27, O 28, O 29, O 30, O 31, O 32, O 33, O 34, O 35, O 36, O 37, O 38, O 39, O 40, O 41, O 42, O 43, O 44, O 45, O 46, O 47, O 48, O 49, O 50, O 51, O 52] ∧ St w0 [Asc (D 1) (Row 34 (K.int .i16) v7 r6), Asc (D 9) (Cells b11 (cnd (D 10) ((encA (encI .i16)) r10.1) ((encA (encI .i16)) (Ar.rep 4 0))) 37), Cells b4 ((encA (encI .i16)) a3) 35] w) ?_ ⟨⟨⟨⟨⟨⟨⟨⟨⟨⟨⟨⟨⟨trivial, ?_⟩, ?_⟩, ?_⟩, ?_⟩, ?_⟩, ?_⟩, ?_⟩, ?_⟩, ?_⟩, ?_⟩, ?_⟩, ?_⟩, ?_⟩ ?_
    · intro w hh hbw
      have hs := hs.samew hh hbw
      have hs := hs.emp
      have hs := hs.emp
      exact ⟨undef, 0, fun i => T.getD i undef, (by subst hT; rfl), hs⟩
    · intro D t w hD hp hcl hI rest hk
      obtain ⟨v7, b11, O, ht, hs⟩ := hI
      have q1_ : D 1 = false := not_yet (hcl.get 1 (by decide)) 0 0 rfl hD
      have q3_ : D 3 = false := not_yet (hcl.get 3 (by decide)) 1 1 rfl q1_
      have q4_ : D 4 = false := not_yet (hcl.get 4 (by decide)) 0 1 rfl q1_
      have q5_ : D 5 = false := not_yet (hcl.get 5 (by decide)) 0 4 rfl q4_
      have q6_ : D 6 = false := not_yet (hcl.get 6 (by decide)) 0 5 rfl q5_
      have q7_ : D 7 = false := not_yet (hcl.get 7 (by decide)) 0 5 rfl q5_
      have q8_ : D 8 = false := not_yet (hcl.get 8 (by decide)) 0 5 rfl q5_
      have q10_ : D 10 = false := not_yet (hcl.get 10 (by decide)) 1 6 rfl q6_
      have q11_ : D 11 = false := not_yet (hcl.get 11 (by decide)) 0 7 rfl q7_
      have q12_ : D 12 = false := not_yet (hcl.get 12 (by decide)) 0 8 rfl q8_
      have u0_ : upd D 0 0 = true := rfl
      have u1_ : upd D 0 1 = D 1 := rfl
      have u2_ : upd D 0 2 = D 2 := rfl
      have u3_ : upd D 0 3 = D 3 := rfl
      have u4_ : upd D 0 4 = D 4 := rfl
      have u5_ : upd D 0 5 = D 5 := rfl
      have u6_ : upd D 0 6 = D 6 := rfl
      have u7_ : upd D 0 7 = D 7 := rfl
      have u8_ : upd D 0 8 = D 8 := rfl
      have u9_ : upd D 0 9 = D 9 := rfl
      have u10_ : upd D 0 10 = D 10 := rfl
      have u11_ : upd D 0 11 = D 11 := rfl
      have u12_ : upd D 0 12 = D 12 := rfl
      simp only [hD, q1_, q3_, q4_, q5_, q6_, q7_, q8_, q10_, q11_, q12_, cnd_t, cnd_f, Asc_t, Asc_f] at ht hs
      subst ht
      refine g_op (v := v2) rfl rfl rfl ?_
      show G _ _ _ _ [_, _, _, _, _, _, _, _, _, _, _, _, _, _, _, _, _, _, _, _, _, _, _, _, _, _, _, _, _, _, _, _, _, _, _, _, _, _, _, _, _, _, _, _, _, _, _, _, _, _, _, _, _] _
      exact hk _ _ ⟨v7, b11, O, (by simp only [u0_, u1_, u2_, u3_, u4_, u5_, u6_, u7_, u8_, u9_, u10_, u11_, u12_, q1_, q3_, q4_, q5_, q6_, q7_, q8_, q10_, q11_, q12_, cnd_t, cnd_f, Asc_t, Asc_f]), hs.cast (by first | rfl | simp only [List.take, List.drop, List.cons_append, List.nil_append, List.set_cons_zero, List.set_cons_succ, List.eraseIdx, u0_, u1_, u2_, u3_, u4_, u5_, u6_, u7_, u8_, u9_, u10_, u11_, u12_, q1_, q3_, q4_, q5_, q6_, q7_, q8_, q10_, q11_, q12_, cnd_t, cnd_f, Asc_t, Asc_f])⟩
    · intro D t w hD hp hcl hI rest hk
      obtain ⟨v7, b11, O, ht, hs⟩ := hI
      obtain ⟨p0_, _⟩ := hp
      have q3_ : D 3 = false := not_yet (hcl.get 3 (by decide)) 1 1 rfl hD
      have q4_ : D 4 = false := not_yet (hcl.get 4 (by decide)) 0 1 rfl hD
      have q5_ : D 5 = false := not_yet (hcl.get 5 (by decide)) 0 4 rfl q4_
      have q6_ : D 6 = false := not_yet (hcl.get 6 (by decide)) 0 5 rfl q5_
      have q7_ : D 7 = false := not_yet (hcl.get 7 (by decide)) 0 5 rfl q5_
      have q8_ : D 8 = false := not_yet (hcl.get 8 (by decide)) 0 5 rfl q5_
      have q10_ : D 10 = false := not_yet (hcl.get 10 (by decide)) 1 6 rfl q6_
      have q11_ : D 11 = false := not_yet (hcl.get 11 (by decide)) 0 7 rfl q7_
      have q12_ : D 12 = false := not_yet (hcl.get 12 (by decide)) 0 8 rfl q8_
      have u0_ : upd D 1 0 = D 0 := rfl
      have u1_ : upd D 1 1 = true := rfl
      have u2_ : upd D 1 2 = D 2 := rfl
      have u3_ : upd D 1 3 = D 3 := rfl
      have u4_ : upd D 1 4 = D 4 := rfl
      have u5_ : upd D 1 5 = D 5 := rfl
      have u6_ : upd D 1 6 = D 6 := rfl
      have u7_ : upd D 1 7 = D 7 := rfl
      have u8_ : upd D 1 8 = D 8 := rfl
      have u9_ : upd D 1 9 = D 9 := rfl
      have u10_ : upd D 1 10 = D 10 := rfl
      have u11_ : upd D 1 11 = D 11 := rfl
      have u12_ : upd D 1 12 = D 12 := rfl
      simp only [hD, p0_, q3_, q4_, q5_, q6_, q7_, q8_, q10_, q11_, q12_, cnd_t, cnd_f, Asc_t, Asc_f] at ht hs
      subst ht
      refine s_call (args := [v2]) rfl rfl (x_call rfl (callFunc_enter Try.func14 rfl rfl) rfl) (laws_toGlasses.calls (a1 := a1) (hs.rd hr0) Hr6) ?_
      intro v7 w hs2
      have hs : St _ [_, _, _, _] _ := hs.call hs2
      show G _ _ _ _ [_, _, _, _, _, _, _, _, _, _, _, _, _, _, _, _, _, _, _, _, _, _, _, _, _, _, _, _, _, _, _, _, _, _, _, _, _, _, _, _, _, _, _, _, _, _, _, _, _, _, _, _, _] _
      have hs := hs.fill 0 rfl
      exact hk _ _ ⟨v7, b11, O, (by simp only [u0_, u1_, u2_, u3_, u4_, u5_, u6_, u7_, u8_, u9_, u10_, u11_, u12_, p0_, q3_, q4_, q5_, q6_, q7_, q8_, q10_, q11_, q12_, cnd_t, cnd_f, Asc_t, Asc_f]), hs.cast (by first | rfl | simp only [List.take, List.drop, List.cons_append, List.nil_append, List.set_cons_zero, List.set_cons_succ, List.eraseIdx, u0_, u1_, u2_, u3_, u4_, u5_, u6_, u7_, u8_, u9_, u10_, u11_, u12_, p0_, q3_, q4_, q5_, q6_, q7_, q8_, q10_, q11_, q12_, cnd_t, cnd_f, Asc_t, Asc_f])⟩
    · intro D t w hD hp hcl hI rest hk
      obtain ⟨v7, b11, O, ht, hs⟩ := hI
      have q3_ : D 3 = false := not_yet (hcl.get 3 (by decide)) 0 2 rfl hD
      have q4_ : D 4 = false := not_yet (hcl.get 4 (by decide)) 1 3 rfl q3_
      have q5_ : D 5 = false := not_yet (hcl.get 5 (by decide)) 0 4 rfl q4_
      have q6_ : D 6 = false := not_yet (hcl.get 6 (by decide)) 0 5 rfl q5_
      have q7_ : D 7 = false := not_yet (hcl.get 7 (by decide)) 0 5 rfl q5_
      have q8_ : D 8 = false := not_yet (hcl.get 8 (by decide)) 0 5 rfl q5_
      have q10_ : D 10 = false := not_yet (hcl.get 10 (by decide)) 1 6 rfl q6_
      have q11_ : D 11 = false := not_yet (hcl.get 11 (by decide)) 0 7 rfl q7_
      have q12_ : D 12 = false := not_yet (hcl.get 12 (by decide)) 0 8 rfl q8_
      have u0_ : upd D 2 0 = D 0 := rfl
      have u1_ : upd D 2 1 = D 1 := rfl
      have u2_ : upd D 2 2 = true := rfl
      have u3_ : upd D 2 3 = D 3 := rfl
      have u4_ : upd D 2 4 = D 4 := rfl
      have u5_ : upd D 2 5 = D 5 := rfl
      have u6_ : upd D 2 6 = D 6 := rfl
      have u7_ : upd D 2 7 = D 7 := rfl
      have u8_ : upd D 2 8 = D 8 := rfl
      have u9_ : upd D 2 9 = D 9 := rfl
      have u10_ : upd D 2 10 = D 10 := rfl
      have u11_ : upd D 2 11 = D 11 := rfl
      have u12_ : upd D 2 12 = D 12 := rfl
      simp only [hD, q3_, q4_, q5_, q6_, q7_, q8_, q10_, q11_, q12_, cnd_t, cnd_f, Asc_t, Asc_f] at ht hs
      subst ht
      refine s_loadA rfl rfl (es := ((encA (encI .i16)) a3)) rfl rfl (fun _ => rfl) (n := 4) (fun _ => rfl) ((fkA (n := 4) (he := (fkI .i16).len) (h1 := (fkI .i16).one)).len _) (cells_all (hs.cells 2 rfl)) ?_
      show G _ _ _ _ [_, _, _, _, _, _, _, _, _, _, _, _, _, _, _, _, _, _, _, _, _, _, _, _, _, _, _, _, _, _, _, _, _, _, _, _, _, _, _, _, _, _, _, _, _, _, _, _, _, _, _, _, _] _
      exact hk _ _ ⟨v7, b11, O, (by simp only [u0_, u1_, u2_, u3_, u4_, u5_, u6_, u7_, u8_, u9_, u10_, u11_, u12_, q3_, q4_, q5_, q6_, q7_, q8_, q10_, q11_, q12_, cnd_t, cnd_f, Asc_t, Asc_f]), hs.cast (by first | rfl | simp only [List.take, List.drop, List.cons_append, List.nil_append, List.set_cons_zero, List.set_cons_succ, List.eraseIdx, u0_, u1_, u2_, u3_, u4_, u5_, u6_, u7_, u8_, u9_, u10_, u11_, u12_, q3_, q4_, q5_, q6_, q7_, q8_, q10_, q11_, q12_, cnd_t, cnd_f, Asc_t, Asc_f])⟩
    · intro D t w hD hp hcl hI rest hk
      obtain ⟨v7, b11, O, ht, hs⟩ := hI
      obtain ⟨p2_, p1_, _⟩ := hp
      obtain ⟨p0_, _⟩ := hcl.get 1 (by decide) p1_
      have q4_ : D 4 = false := not_yet (hcl.get 4 (by decide)) 1 3 rfl hD
      have q5_ : D 5 = false := not_yet (hcl.get 5 (by decide)) 0 4 rfl q4_
      have q6_ : D 6 = false := not_yet (hcl.get 6 (by decide)) 0 5 rfl q5_
      have q7_ : D 7 = false := not_yet (hcl.get 7 (by decide)) 0 5 rfl q5_
      have q8_ : D 8 = false := not_yet (hcl.get 8 (by decide)) 0 5 rfl q5_
      have q10_ : D 10 = false := not_yet (hcl.get 10 (by decide)) 1 6 rfl q6_
      have q11_ : D 11 = false := not_yet (hcl.get 11 (by decide)) 0 7 rfl q7_
      have q12_ : D 12 = false := not_yet (hcl.get 12 (by decide)) 0 8 rfl q8_
      have u0_ : upd D 3 0 = D 0 := rfl
      have u1_ : upd D 3 1 = D 1 := rfl
      have u2_ : upd D 3 2 = D 2 := rfl
      have u3_ : upd D 3 3 = true := rfl
      have u4_ : upd D 3 4 = D 4 := rfl
      have u5_ : upd D 3 5 = D 5 := rfl
      have u6_ : upd D 3 6 = D 6 := rfl
      have u7_ : upd D 3 7 = D 7 := rfl
      have u8_ : upd D 3 8 = D 8 := rfl
      have u9_ : upd D 3 9 = D 9 := rfl
      have u10_ : upd D 3 10 = D 10 := rfl
      have u11_ : upd D 3 11 = D 11 := rfl
      have u12_ : upd D 3 12 = D 12 := rfl
      simp only [hD, p0_, p1_, p2_, q4_, q5_, q6_, q7_, q8_, q10_, q11_, q12_, cnd_t, cnd_f, Asc_t, Asc_f] at ht hs
      subst ht
      refine s_call (args := [Value.agg ((encA (encI .i16)) a3).toArray]) rfl rfl (x_call rfl (callFunc_enter Try.func22 rfl rfl) rfl) (laws_toTops.calls (a1 := a3) Hr9) ?_
      rintro _ w ⟨rfl, hs2⟩
      have hs : St _ [_, _, _] _ := hs.call hs2
      show G _ _ _ _ [_, _, _, _, _, _, _, _, _, _, _, _, _, _, _, _, _, _, _, _, _, _, _, _, _, _, _, _, _, _, _, _, _, _, _, _, _, _, _, _, _, _, _, _, _, _, _, _, _, _, _, _, _] _
      exact hk _ _ ⟨v7, b11, O, (by simp only [u0_, u1_, u2_, u3_, u4_, u5_, u6_, u7_, u8_, u9_, u10_, u11_, u12_, p0_, p1_, p2_, q4_, q5_, q6_, q7_, q8_, q10_, q11_, q12_, cnd_t, cnd_f, Asc_t, Asc_f]), hs.cast (by first | rfl | simp only [List.take, List.drop, List.cons_append, List.nil_append, List.set_cons_zero, List.set_cons_succ, List.eraseIdx, u0_, u1_, u2_, u3_, u4_, u5_, u6_, u7_, u8_, u9_, u10_, u11_, u12_, p0_, p1_, p2_, q4_, q5_, q6_, q7_, q8_, q10_, q11_, q12_, cnd_t, cnd_f, Asc_t, Asc_f])⟩
    · intro D t w hD hp hcl hI rest hk
      obtain ⟨v7, b11, O, ht, hs⟩ := hI
      obtain ⟨p1_, p3_, _, _⟩ := hp
      obtain ⟨p2_, _, _⟩ := hcl.get 3 (by decide) p3_
      obtain ⟨p0_, _⟩ := hcl.get 1 (by decide) p1_
      have q5_ : D 5 = false := not_yet (hcl.get 5 (by decide)) 0 4 rfl hD
      have q6_ : D 6 = false := not_yet (hcl.get 6 (by decide)) 0 5 rfl q5_
      have q7_ : D 7 = false := not_yet (hcl.get 7 (by decide)) 0 5 rfl q5_
      have q8_ : D 8 = false := not_yet (hcl.get 8 (by decide)) 0 5 rfl q5_
      have q10_ : D 10 = false := not_yet (hcl.get 10 (by decide)) 1 6 rfl q6_
      have q11_ : D 11 = false := not_yet (hcl.get 11 (by decide)) 0 7 rfl q7_
      have q12_ : D 12 = false := not_yet (hcl.get 12 (by decide)) 0 8 rfl q8_
      have u0_ : upd D 4 0 = D 0 := rfl
      have u1_ : upd D 4 1 = D 1 := rfl
      have u2_ : upd D 4 2 = D 2 := rfl
      have u3_ : upd D 4 3 = D 3 := rfl
      have u4_ : upd D 4 4 = true := rfl
      have u5_ : upd D 4 5 = D 5 := rfl
      have u6_ : upd D 4 6 = D 6 := rfl
      have u7_ : upd D 4 7 = D 7 := rfl
      have u8_ : upd D 4 8 = D 8 := rfl
      have u9_ : upd D 4 9 = D 9 := rfl
      have u10_ : upd D 4 10 = D 10 := rfl
      have u11_ : upd D 4 11 = D 11 := rfl
      have u12_ : upd D 4 12 = D 12 := rfl
      simp only [hD, p0_, p1_, p2_, p3_, q5_, q6_, q7_, q8_, q10_, q11_, q12_, cnd_t, cnd_f, Asc_t, Asc_f] at ht hs
      subst ht
      refine s_call (args := [v7, Value.agg ((encA (encI .i16)) r9).toArray]) rfl rfl (x_call rfl (callFunc_enter Try.func31 rfl rfl) rfl) (spec_WaitFor.calls (a1 := r6) (a3 := r9) (hs.row 0 rfl) Hr10) ?_
      rintro _ w ⟨rfl, hs2⟩
      have hs : St _ [_, _, _] _ := hs.call hs2
      show G _ _ _ _ [_, _, _, _, _, _, _, _, _, _, _, _, _, _, _, _, _, _, _, _, _, _, _, _, _, _, _, _, _, _, _, _, _, _, _, _, _, _, _, _, _, _, _, _, _, _, _, _, _, _, _, _, _] _
      exact hk _ _ ⟨v7, b11, O, (by simp only [u0_, u1_, u2_, u3_, u4_, u5_, u6_, u7_, u8_, u9_, u10_, u11_, u12_, p0_, p1_, p2_, p3_, q5_, q6_, q7_, q8_, q10_, q11_, q12_, cnd_t, cnd_f, Asc_t, Asc_f]), hs.cast (by first | rfl | simp only [List.take, List.drop, List.cons_append, List.nil_append, List.set_cons_zero, List.set_cons_succ, List.eraseIdx, u0_, u1_, u2_, u3_, u4_, u5_, u6_, u7_, u8_, u9_, u10_, u11_, u12_, p0_, p1_, p2_, p3_, q5_, q6_, q7_, q8_, q10_, q11_, q12_, cnd_t, cnd_f, Asc_t, Asc_f])⟩
    · intro D t w hD hp hcl hI rest hk
      obtain ⟨v7, b11, O, ht, hs⟩ := hI
      obtain ⟨p4_, _⟩ := hp
      obtain ⟨p1_, p3_, _, _⟩ := hcl.get 4 (by decide) p4_
      obtain ⟨p2_, _, _⟩ := hcl.get 3 (by decide) p3_
      obtain ⟨p0_, _⟩ := hcl.get 1 (by decide) p1_
      have q6_ : D 6 = false := not_yet (hcl.get 6 (by decide)) 0 5 rfl hD
      have q7_ : D 7 = false := not_yet (hcl.get 7 (by decide)) 0 5 rfl hD
      have q8_ : D 8 = false := not_yet (hcl.get 8 (by decide)) 0 5 rfl hD
      have q10_ : D 10 = false := not_yet (hcl.get 10 (by decide)) 1 6 rfl q6_
      have q11_ : D 11 = false := not_yet (hcl.get 11 (by decide)) 0 7 rfl q7_
      have q12_ : D 12 = false := not_yet (hcl.get 12 (by decide)) 0 8 rfl q8_
      have u0_ : upd D 5 0 = D 0 := rfl
      have u1_ : upd D 5 1 = D 1 := rfl
      have u2_ : upd D 5 2 = D 2 := rfl
      have u3_ : upd D 5 3 = D 3 := rfl
      have u4_ : upd D 5 4 = D 4 := rfl
      have u5_ : upd D 5 5 = true := rfl
      have u6_ : upd D 5 6 = D 6 := rfl
      have u7_ : upd D 5 7 = D 7 := rfl
      have u8_ : upd D 5 8 = D 8 := rfl
      have u9_ : upd D 5 9 = D 9 := rfl
      have u10_ : upd D 5 10 = D 10 := rfl
      have u11_ : upd D 5 11 = D 11 := rfl
      have u12_ : upd D 5 12 = D 12 := rfl
      simp only [hD, p0_, p1_, p2_, p3_, p4_, q6_, q7_, q8_, q10_, q11_, q12_, cnd_t, cnd_f, Asc_t, Asc_f] at ht hs
      subst ht
      refine g_op (v := Value.tuple #[Value.agg ((encA (encI .i16)) r10.1).toArray, Value.int .i64 r10.2.1, Value.int .i64 r10.2.2]) rfl rfl rfl ?_
      show G _ _ _ _ [_, _, _, _, _, _, _, _, _, _, _, _, _, _, _, _, _, _, _, _, _, _, _, _, _, _, _, _, _, _, _, _, _, _, _, _, _, _, _, _, _, _, _, _, _, _, _, _, _, _, _, _, _] _
      exact hk _ _ ⟨v7, b11, O, (by simp only [u0_, u1_, u2_, u3_, u4_, u5_, u6_, u7_, u8_, u9_, u10_, u11_, u12_, p0_, p1_, p2_, p3_, p4_, q6_, q7_, q8_, q10_, q11_, q12_, cnd_t, cnd_f, Asc_t, Asc_f]), hs.cast (by first | rfl | simp only [List.take, List.drop, List.cons_append, List.nil_append, List.set_cons_zero, List.set_cons_succ, List.eraseIdx, u0_, u1_, u2_, u3_, u4_, u5_, u6_, u7_, u8_, u9_, u10_, u11_, u12_, p0_, p1_, p2_, p3_, p4_, q6_, q7_, q8_, q10_, q11_, q12_, cnd_t, cnd_f, Asc_t, Asc_f])⟩
    · intro D t w hD hp hcl hI rest hk
      obtain ⟨v7, b11, O, ht, hs⟩ := hI
      obtain ⟨p5_, _⟩ := hp
      obtain ⟨p4_, _⟩ := hcl.get 5 (by decide) p5_
      obtain ⟨p1_, p3_, _, _⟩ := hcl.get 4 (by decide) p4_
      obtain ⟨p2_, _, _⟩ := hcl.get 3 (by decide) p3_
      obtain ⟨p0_, _⟩ := hcl.get 1 (by decide) p1_
      have q10_ : D 10 = false := not_yet (hcl.get 10 (by decide)) 1 6 rfl hD
      have q11_ : D 11 = false := not_yet (hcl.get 11 (by decide)) 1 10 rfl q10_
      have q12_ : D 12 = false := not_yet (hcl.get 12 (by decide)) 1 11 rfl q11_
      have u0_ : upd D 6 0 = D 0 := rfl
      have u1_ : upd D 6 1 = D 1 := rfl
      have u2_ : upd D 6 2 = D 2 := rfl
      have u3_ : upd D 6 3 = D 3 := rfl
      have u4_ : upd D 6 4 = D 4 := rfl
      have u5_ : upd D 6 5 = D 5 := rfl
      have u6_ : upd D 6 6 = true := rfl
      have u7_ : upd D 6 7 = D 7 := rfl
      have u8_ : upd D 6 8 = D 8 := rfl
      have u9_ : upd D 6 9 = D 9 := rfl
      have u10_ : upd D 6 10 = D 10 := rfl
      have u11_ : upd D 6 11 = D 11 := rfl
      have u12_ : upd D 6 12 = D 12 := rfl
      simp only [hD, p0_, p1_, p2_, p3_, p4_, p5_, q10_, q11_, q12_, cnd_t, cnd_f, Asc_t, Asc_f] at ht hs
      subst ht
      refine g_op (v := Value.agg ((encA (encI .i16)) r10.1).toArray) rfl rfl rfl ?_
      show G _ _ _ _ [_, _, _, _, _, _, _, _, _, _, _, _, _, _, _, _, _, _, _, _, _, _, _, _, _, _, _, _, _, _, _, _, _, _, _, _, _, _, _, _, _, _, _, _, _, _, _, _, _, _, _, _, _] _
      exact hk _ _ ⟨v7, b11, O, (by simp only [u0_, u1_, u2_, u3_, u4_, u5_, u6_, u7_, u8_, u9_, u10_, u11_, u12_, p0_, p1_, p2_, p3_, p4_, p5_, q10_, q11_, q12_, cnd_t, cnd_f, Asc_t, Asc_f]), hs.cast (by first | rfl | simp only [List.take, List.drop, List.cons_append, List.nil_append, List.set_cons_zero, List.set_cons_succ, List.eraseIdx, u0_, u1_, u2_, u3_, u4_, u5_, u6_, u7_, u8_, u9_, u10_, u11_, u12_, p0_, p1_, p2_, p3_, p4_, p5_, q10_, q11_, q12_, cnd_t, cnd_f, Asc_t, Asc_f])⟩
    · intro D t w hD hp hcl hI rest hk
      obtain ⟨v7, b11, O, ht, hs⟩ := hI
      obtain ⟨p5_, _⟩ := hp
      obtain ⟨p4_, _⟩ := hcl.get 5 (by decide) p5_
      obtain ⟨p1_, p3_, _, _⟩ := hcl.get 4 (by decide) p4_
      obtain ⟨p2_, _, _⟩ := hcl.get 3 (by decide) p3_
      obtain ⟨p0_, _⟩ := hcl.get 1 (by decide) p1_
      have q11_ : D 11 = false := not_yet (hcl.get 11 (by decide)) 0 7 rfl hD
      have q12_ : D 12 = false := not_yet (hcl.get 12 (by decide)) 1 11 rfl q11_
      have u0_ : upd D 7 0 = D 0 := rfl
      have u1_ : upd D 7 1 = D 1 := rfl
      have u2_ : upd D 7 2 = D 2 := rfl
      have u3_ : upd D 7 3 = D 3 := rfl
      have u4_ : upd D 7 4 = D 4 := rfl
      have u5_ : upd D 7 5 = D 5 := rfl
      have u6_ : upd D 7 6 = D 6 := rfl
      have u7_ : upd D 7 7 = true := rfl
      have u8_ : upd D 7 8 = D 8 := rfl
      have u9_ : upd D 7 9 = D 9 := rfl
      have u10_ : upd D 7 10 = D 10 := rfl
      have u11_ : upd D 7 11 = D 11 := rfl
      have u12_ : upd D 7 12 = D 12 := rfl
      simp only [hD, p0_, p1_, p2_, p3_, p4_, p5_, q11_, q12_, cnd_t, cnd_f, Asc_t, Asc_f] at ht hs
      subst ht
      refine g_op (v := Value.int .i64 r10.2.1) rfl rfl rfl ?_
      show G _ _ _ _ [_, _, _, _, _, _, _, _, _, _, _, _, _, _, _, _, _, _, _, _, _, _, _, _, _, _, _, _, _, _, _, _, _, _, _, _, _, _, _, _, _, _, _, _, _, _, _, _, _, _, _, _, _] _
      exact hk _ _ ⟨v7, b11, O, (by simp only [u0_, u1_, u2_, u3_, u4_, u5_, u6_, u7_, u8_, u9_, u10_, u11_, u12_, p0_, p1_, p2_, p3_, p4_, p5_, q11_, q12_, cnd_t, cnd_f, Asc_t, Asc_f]), hs.cast (by first | rfl | simp only [List.take, List.drop, List.cons_append, List.nil_append, List.set_cons_zero, List.set_cons_succ, List.eraseIdx, u0_, u1_, u2_, u3_, u4_, u5_, u6_, u7_, u8_, u9_, u10_, u11_, u12_, p0_, p1_, p2_, p3_, p4_, p5_, q11_, q12_, cnd_t, cnd_f, Asc_t, Asc_f])⟩
    · intro D t w hD hp hcl hI rest hk
      obtain ⟨v7, b11, O, ht, hs⟩ := hI
      obtain ⟨p5_, _⟩ := hp
      obtain ⟨p4_, _⟩ := hcl.get 5 (by decide) p5_
      obtain ⟨p1_, p3_, _, _⟩ := hcl.get 4 (by decide) p4_
      obtain ⟨p2_, _, _⟩ := hcl.get 3 (by decide) p3_
      obtain ⟨p0_, _⟩ := hcl.get 1 (by decide) p1_
      have q12_ : D 12 = false := not_yet (hcl.get 12 (by decide)) 0 8 rfl hD
      have u0_ : upd D 8 0 = D 0 := rfl
      have u1_ : upd D 8 1 = D 1 := rfl
      have u2_ : upd D 8 2 = D 2 := rfl
      have u3_ : upd D 8 3 = D 3 := rfl
      have u4_ : upd D 8 4 = D 4 := rfl
      have u5_ : upd D 8 5 = D 5 := rfl
      have u6_ : upd D 8 6 = D 6 := rfl
      have u7_ : upd D 8 7 = D 7 := rfl
      have u8_ : upd D 8 8 = true := rfl
      have u9_ : upd D 8 9 = D 9 := rfl
      have u10_ : upd D 8 10 = D 10 := rfl
      have u11_ : upd D 8 11 = D 11 := rfl
      have u12_ : upd D 8 12 = D 12 := rfl
      simp only [hD, p0_, p1_, p2_, p3_, p4_, p5_, q12_, cnd_t, cnd_f, Asc_t, Asc_f] at ht hs
      subst ht
      refine g_op (v := Value.int .i64 r10.2.2) rfl rfl rfl ?_
      show G _ _ _ _ [_, _, _, _, _, _, _, _, _, _, _, _, _, _, _, _, _, _, _, _, _, _, _, _, _, _, _, _, _, _, _, _, _, _, _, _, _, _, _, _, _, _, _, _, _, _, _, _, _, _, _, _, _] _
      exact hk _ _ ⟨v7, b11, O, (by simp only [u0_, u1_, u2_, u3_, u4_, u5_, u6_, u7_, u8_, u9_, u10_, u11_, u12_, p0_, p1_, p2_, p3_, p4_, p5_, q12_, cnd_t, cnd_f, Asc_t, Asc_f]), hs.cast (by first | rfl | simp only [List.take, List.drop, List.cons_append, List.nil_append, List.set_cons_zero, List.set_cons_succ, List.eraseIdx, u0_, u1_, u2_, u3_, u4_, u5_, u6_, u7_, u8_, u9_, u10_, u11_, u12_, p0_, p1_, p2_, p3_, p4_, p5_, q12_, cnd_t, cnd_f, Asc_t, Asc_f])⟩
    · intro D t w hD hp hcl hI rest hk
      obtain ⟨v7, b11, O, ht, hs⟩ := hI
      have q10_ : D 10 = false := not_yet (hcl.get 10 (by decide)) 0 9 rfl hD
      have q11_ : D 11 = false := not_yet (hcl.get 11 (by decide)) 1 10 rfl q10_
      have q12_ : D 12 = false := not_yet (hcl.get 12 (by decide)) 1 11 rfl q11_
      have u0_ : upd D 9 0 = D 0 := rfl
      have u1_ : upd D 9 1 = D 1 := rfl
      have u2_ : upd D 9 2 = D 2 := rfl
      have u3_ : upd D 9 3 = D 3 := rfl
      have u4_ : upd D 9 4 = D 4 := rfl
      have u5_ : upd D 9 5 = D 5 := rfl
      have u6_ : upd D 9 6 = D 6 := rfl
      have u7_ : upd D 9 7 = D 7 := rfl
      have u8_ : upd D 9 8 = D 8 := rfl
      have u9_ : upd D 9 9 = true := rfl
      have u10_ : upd D 9 10 = D 10 := rfl
      have u11_ : upd D 9 11 = D 11 := rfl
      have u12_ : upd D 9 12 = D 12 := rfl
      simp only [hD, q10_, q11_, q12_, cnd_t, cnd_f, Asc_t, Asc_f] at ht hs
      subst ht
      refine s_alloc hs rfl rfl (z := (Value.agg #[Value.int .i16 0, Value.int .i16 0, Value.int .i16 0, Value.int .i16 0])) (cs := ((encA (encI .i16)) (Ar.rep 4 0))) rfl (fun _ => rfl) rfl ?_
      intro b11 w hs
      show G _ _ _ _ [_, _, _, _, _, _, _, _, _, _, _, _, _, _, _, _, _, _, _, _, _, _, _, _, _, _, _, _, _, _, _, _, _, _, _, _, _, _, _, _, _, _, _, _, _, _, _, _, _, _, _, _, _] _
      have hs := hs.fill 1 rfl
      exact hk _ _ ⟨v7, b11, O, (by simp only [u0_, u1_, u2_, u3_, u4_, u5_, u6_, u7_, u8_, u9_, u10_, u11_, u12_, q10_, q11_, q12_, cnd_t, cnd_f, Asc_t, Asc_f]), hs.cast (by first | rfl | simp only [List.take, List.drop, List.cons_append, List.nil_append, List.set_cons_zero, List.set_cons_succ, List.eraseIdx, u0_, u1_, u2_, u3_, u4_, u5_, u6_, u7_, u8_, u9_, u10_, u11_, u12_, q10_, q11_, q12_, cnd_t, cnd_f, Asc_t, Asc_f])⟩
    · intro D t w hD hp hcl hI rest hk
      obtain ⟨v7, b11, O, ht, hs⟩ := hI
      obtain ⟨p9_, p6_, p4_, p0_, p1_, p2_, p3_, _, p5_, _, _, _⟩ := hp
      have q11_ : D 11 = false := not_yet (hcl.get 11 (by decide)) 1 10 rfl hD
      have q12_ : D 12 = false := not_yet (hcl.get 12 (by decide)) 1 11 rfl q11_
      have u0_ : upd D 10 0 = D 0 := rfl
      have u1_ : upd D 10 1 = D 1 := rfl
      have u2_ : upd D 10 2 = D 2 := rfl
      have u3_ : upd D 10 3 = D 3 := rfl
      have u4_ : upd D 10 4 = D 4 := rfl
      have u5_ : upd D 10 5 = D 5 := rfl
      have u6_ : upd D 10 6 = D 6 := rfl
      have u7_ : upd D 10 7 = D 7 := rfl
      have u8_ : upd D 10 8 = D 8 := rfl
      have u9_ : upd D 10 9 = D 9 := rfl
      have u10_ : upd D 10 10 = true := rfl
      have u11_ : upd D 10 11 = D 11 := rfl
      have u12_ : upd D 10 12 = D 12 := rfl
      simp only [hD, p0_, p1_, p2_, p3_, p4_, p5_, p6_, p9_, q11_, q12_, cnd_t, cnd_f, Asc_t, Asc_f] at ht hs
      subst ht
      have hs := hs.pull 1 rfl
      have hs : St _ [_, _, _] _ := hs
      refine s_storeAll (n := 4) hs ((fkA (n := 4) (he := (fkI .i16).len) (h1 := (fkI .i16).one)).len _) rfl rfl (vs := ((encA (encI .i16)) r10.1)) rfl rfl rfl (fun _ => rfl) ((fkA (n := 4) (he := (fkI .i16).len) (h1 := (fkI .i16).one)).len _) ((fkA (n := 4) (he := (fkI .i16).len) (h1 := (fkI .i16).one)).one _) ?_
      intro w hs
      show G _ _ _ _ [_, _, _, _, _, _, _, _, _, _, _, _, _, _, _, _, _, _, _, _, _, _, _, _, _, _, _, _, _, _, _, _, _, _, _, _, _, _, _, _, _, _, _, _, _, _, _, _, _, _, _, _, _] _
      have hs := hs.push 1 (by simp)
      exact hk _ _ ⟨v7, b11, O, (by simp only [u0_, u1_, u2_, u3_, u4_, u5_, u6_, u7_, u8_, u9_, u10_, u11_, u12_, p0_, p1_, p2_, p3_, p4_, p5_, p6_, p9_, q11_, q12_, cnd_t, cnd_f, Asc_t, Asc_f]), hs.cast (by first | rfl | simp only [List.take, List.drop, List.cons_append, List.nil_append, List.set_cons_zero, List.set_cons_succ, List.eraseIdx, u0_, u1_, u2_, u3_, u4_, u5_, u6_, u7_, u8_, u9_, u10_, u11_, u12_, p0_, p1_, p2_, p3_, p4_, p5_, p6_, p9_, q11_, q12_, cnd_t, cnd_f, Asc_t, Asc_f])⟩
    · intro D t w hD hp hcl hI rest hk
      obtain ⟨v7, b11, O, ht, hs⟩ := hI
      obtain ⟨p7_, p10_, p0_, p1_, p2_, p3_, p4_, p5_, p6_, _, p9_, _, _⟩ := hp
      have q12_ : D 12 = false := not_yet (hcl.get 12 (by decide)) 1 11 rfl hD
      have u0_ : upd D 11 0 = D 0 := rfl
      have u1_ : upd D 11 1 = D 1 := rfl
      have u2_ : upd D 11 2 = D 2 := rfl
      have u3_ : upd D 11 3 = D 3 := rfl
      have u4_ : upd D 11 4 = D 4 := rfl
      have u5_ : upd D 11 5 = D 5 := rfl
      have u6_ : upd D 11 6 = D 6 := rfl
      have u7_ : upd D 11 7 = D 7 := rfl
      have u8_ : upd D 11 8 = D 8 := rfl
      have u9_ : upd D 11 9 = D 9 := rfl
      have u10_ : upd D 11 10 = D 10 := rfl
      have u11_ : upd D 11 11 = true := rfl
      have u12_ : upd D 11 12 = D 12 := rfl
      simp only [hD, p0_, p1_, p2_, p3_, p4_, p5_, p6_, p7_, p9_, p10_, q12_, cnd_t, cnd_f, Asc_t, Asc_f] at ht hs
      subst ht
      refine g_op (v := Value.int .i64 r10.2.1) rfl rfl rfl ?_
      show G _ _ _ _ [_, _, _, _, _, _, _, _, _, _, _, _, _, _, _, _, _, _, _, _, _, _, _, _, _, _, _, _, _, _, _, _, _, _, _, _, _, _, _, _, _, _, _, _, _, _, _, _, _, _, _, _, _] _
      exact hk _ _ ⟨v7, b11, O, (by simp only [u0_, u1_, u2_, u3_, u4_, u5_, u6_, u7_, u8_, u9_, u10_, u11_, u12_, p0_, p1_, p2_, p3_, p4_, p5_, p6_, p7_, p9_, p10_, q12_, cnd_t, cnd_f, Asc_t, Asc_f]), hs.cast (by first | rfl | simp only [List.take, List.drop, List.cons_append, List.nil_append, List.set_cons_zero, List.set_cons_succ, List.eraseIdx, u0_, u1_, u2_, u3_, u4_, u5_, u6_, u7_, u8_, u9_, u10_, u11_, u12_, p0_, p1_, p2_, p3_, p4_, p5_, p6_, p7_, p9_, p10_, q12_, cnd_t, cnd_f, Asc_t, Asc_f])⟩
    · intro D t w hD hp hcl hI rest hk
      obtain ⟨v7, b11, O, ht, hs⟩ := hI
      obtain ⟨p8_, p11_, p0_, p1_, p2_, p3_, p4_, p5_, p6_, p7_, _, p9_, p10_, _, _⟩ := hp
      have u0_ : upd D 12 0 = D 0 := rfl
      have u1_ : upd D 12 1 = D 1 := rfl
      have u2_ : upd D 12 2 = D 2 := rfl
      have u3_ : upd D 12 3 = D 3 := rfl
      have u4_ : upd D 12 4 = D 4 := rfl
      have u5_ : upd D 12 5 = D 5 := rfl
      have u6_ : upd D 12 6 = D 6 := rfl
      have u7_ : upd D 12 7 = D 7 := rfl
      have u8_ : upd D 12 8 = D 8 := rfl
      have u9_ : upd D 12 9 = D 9 := rfl
      have u10_ : upd D 12 10 = D 10 := rfl
      have u11_ : upd D 12 11 = D 11 := rfl
      have u12_ : upd D 12 12 = true := rfl
      simp only [hD, p0_, p1_, p2_, p3_, p4_, p5_, p6_, p7_, p8_, p9_, p10_, p11_, cnd_t, cnd_f, Asc_t, Asc_f] at ht hs
      subst ht
      refine g_op (v := Value.int .i64 r10.2.2) rfl rfl rfl ?_
      show G _ _ _ _ [_, _, _, _, _, _, _, _, _, _, _, _, _, _, _, _, _, _, _, _, _, _, _, _, _, _, _, _, _, _, _, _, _, _, _, _, _, _, _, _, _, _, _, _, _, _, _, _, _, _, _, _, _] _
      exact hk _ _ ⟨v7, b11, O, (by simp only [u0_, u1_, u2_, u3_, u4_, u5_, u6_, u7_, u8_, u9_, u10_, u11_, u12_, p0_, p1_, p2_, p3_, p4_, p5_, p6_, p7_, p8_, p9_, p10_, p11_, cnd_t, cnd_f, Asc_t, Asc_f]), hs.cast (by first | rfl | simp only [List.take, List.drop, List.cons_append, List.nil_append, List.set_cons_zero, List.set_cons_succ, List.eraseIdx, u0_, u1_, u2_, u3_, u4_, u5_, u6_, u7_, u8_, u9_, u10_, u11_, u12_, p0_, p1_, p2_, p3_, p4_, p5_, p6_, p7_, p8_, p9_, p10_, p11_, cnd_t, cnd_f, Asc_t, Asc_f])⟩
    · intro D t w hall hI
      obtain ⟨v7, b11, O, ht, hs⟩ := hI
      have p0_ := hall 0 (by decide)
      have p1_ := hall 1 (by decide)
      have p2_ := hall 2 (by decide)
      have p3_ := hall 3 (by decide)
      have p4_ := hall 4 (by decide)
      have p5_ := hall 5 (by decide)
      have p6_ := hall 6 (by decide)
      have p7_ := hall 7 (by decide)
      have p8_ := hall 8 (by decide)
      have p9_ := hall 9 (by decide)
      have p10_ := hall 10 (by decide)
      have p11_ := hall 11 (by decide)
      have p12_ := hall 12 (by decide)
      simp only [p0_, p1_, p2_, p3_, p4_, p5_, p6_, p7_, p8_, p9_, p10_, p11_, p12_, cnd_t, cnd_f, Asc_t, Asc_f] at ht hs
      subst ht
      refine g_seq ?_
      refine g_region ?_
      show G _ _ _ (.inRegion _ [0, 1, 2] :: _) _ _
      refine g_op (v := v2) rfl rfl rfl ?_
      show G _ _ _ _ [_, _, _, _, _, _, _, _, _, _, _, _, _, _, _, _, _, _, _, _, _, _, _, _, _, _, _, _, _, _, _, _, _, _, _, _, _, _, _, _, _, _, _, _, _, _, _, _, _, _, _, _, _] _
      obtain ⟨r15, Hr15, H⟩ := bind_get H
      refine s_call (args := [v2]) rfl rfl (x_call rfl (callFunc_enter Try.func14 rfl rfl) rfl) (laws_toGlasses.calls (a1 := a1) (hs.rd hr0) Hr15) ?_
      intro v16 w hs2
      have hs : St _ [_, _, _, _] _ := hs.call hs2
      show G _ _ _ _ [_, _, _, _, _, _, _, _, _, _, _, _, _, _, _, _, _, _, _, _, _, _, _, _, _, _, _, _, _, _, _, _, _, _, _, _, _, _, _, _, _, _, _, _, _, _, _, _, _, _, _, _, _] _
      refine g_op (v := v16) rfl rfl rfl ?_
      show G _ _ _ _ [_, _, _, _, _, _, _, _, _, _, _, _, _, _, _, _, _, _, _, _, _, _, _, _, _, _, _, _, _, _, _, _, _, _, _, _, _, _, _, _, _, _, _, _, _, _, _, _, _, _, _, _, _] _
      refine g_ops_nil ?_
      refine g_seq ?_
      refine g_region ?_
      show G _ _ _ (.inRegion _ [0, 1, 2, 3, 4, 5, 6, 7, 8, 9, 10, 11] :: _) _ _
      refine g_op (v := v16) rfl rfl rfl ?_
      show G _ _ _ _ [_, _, _, _, _, _, _, _, _, _, _, _, _, _, _, _, _, _, _, _, _, _, _, _, _, _, _, _, _, _, _, _, _, _, _, _, _, _, _, _, _, _, _, _, _, _, _, _, _, _, _, _, _] _
      refine s_loadA rfl rfl (es := ((encA (encI .i16)) a3)) rfl rfl (fun _ => rfl) (n := 4) (fun _ => rfl) ((fkA (n := 4) (he := (fkI .i16).len) (h1 := (fkI .i16).one)).len _) (cells_all (hs.cells 3 rfl)) ?_
      show G _ _ _ _ [_, _, _, _, _, _, _, _, _, _, _, _, _, _, _, _, _, _, _, _, _, _, _, _, _, _, _, _, _, _, _, _, _, _, _, _, _, _, _, _, _, _, _, _, _, _, _, _, _, _, _, _, _] _
      obtain ⟨r18, Hr18, H⟩ := bind_get H
      refine s_call (args := [Value.agg ((encA (encI .i16)) a3).toArray]) rfl rfl (x_call rfl (callFunc_enter Try.func22 rfl rfl) rfl) (laws_toTops.calls (a1 := a3) Hr18) ?_
      rintro _ w ⟨rfl, hs2⟩
      have hs : St _ [_, _, _, _] _ := hs.call hs2
      show G _ _ _ _ [_, _, _, _, _, _, _, _, _, _, _, _, _, _, _, _, _, _, _, _, _, _, _, _, _, _, _, _, _, _, _, _, _, _, _, _, _, _, _, _, _, _, _, _, _, _, _, _, _, _, _, _, _] _
      obtain ⟨r19, Hr19, H⟩ := bind_get H
      refine s_call (args := [v16, Value.agg ((encA (encI .i16)) r18).toArray]) rfl rfl (x_call rfl (callFunc_enter Try.func32 rfl rfl) rfl) (impl_WaitFor.calls (a1 := r15) (a3 := r18) (hs.row 0 rfl) Hr19) ?_
      rintro _ w ⟨rfl, hs2⟩
      have hs : St _ [_, _, _, _] _ := hs.call hs2
      show G _ _ _ _ [_, _, _, _, _, _, _, _, _, _, _, _, _, _, _, _, _, _, _, _, _, _, _, _, _, _, _, _, _, _, _, _, _, _, _, _, _, _, _, _, _, _, _, _, _, _, _, _, _, _, _, _, _] _
      refine g_op (v := Value.tuple #[Value.agg ((encA (encI .i16)) r19.1).toArray, Value.int .i64 r19.2.1, Value.int .i64 r19.2.2]) rfl rfl rfl ?_
      show G _ _ _ _ [_, _, _, _, _, _, _, _, _, _, _, _, _, _, _, _, _, _, _, _, _, _, _, _, _, _, _, _, _, _, _, _, _, _, _, _, _, _, _, _, _, _, _, _, _, _, _, _, _, _, _, _, _] _
      refine g_op (v := Value.agg ((encA (encI .i16)) r19.1).toArray) rfl rfl rfl ?_
      show G _ _ _ _ [_, _, _, _, _, _, _, _, _, _, _, _, _, _, _, _, _, _, _, _, _, _, _, _, _, _, _, _, _, _, _, _, _, _, _, _, _, _, _, _, _, _, _, _, _, _, _, _, _, _, _, _, _] _
      refine g_op (v := Value.int .i64 r19.2.1) rfl rfl rfl ?_
      show G _ _ _ _ [_, _, _, _, _, _, _, _, _, _, _, _, _, _, _, _, _, _, _, _, _, _, _, _, _, _, _, _, _, _, _, _, _, _, _, _, _, _, _, _, _, _, _, _, _, _, _, _, _, _, _, _, _] _
      refine g_op (v := Value.int .i64 r19.2.2) rfl rfl rfl ?_
      show G _ _ _ _ [_, _, _, _, _, _, _, _, _, _, _, _, _, _, _, _, _, _, _, _, _, _, _, _, _, _, _, _, _, _, _, _, _, _, _, _, _, _, _, _, _, _, _, _, _, _, _, _, _, _, _, _, _] _
      refine s_alloc hs rfl rfl (z := (Value.agg #[Value.int .i16 0, Value.int .i16 0, Value.int .i16 0, Value.int .i16 0])) (cs := ((encA (encI .i16)) (Ar.rep 4 0))) rfl (fun _ => rfl) rfl ?_
      intro b20 w hs
      show G _ _ _ _ [_, _, _, _, _, _, _, _, _, _, _, _, _, _, _, _, _, _, _, _, _, _, _, _, _, _, _, _, _, _, _, _, _, _, _, _, _, _, _, _, _, _, _, _, _, _, _, _, _, _, _, _, _] _
      refine s_storeAll (n := 4) hs ((fkA (n := 4) (he := (fkI .i16).len) (h1 := (fkI .i16).one)).len _) rfl rfl (vs := ((encA (encI .i16)) r19.1)) rfl rfl rfl (fun _ => rfl) ((fkA (n := 4) (he := (fkI .i16).len) (h1 := (fkI .i16).one)).len _) ((fkA (n := 4) (he := (fkI .i16).len) (h1 := (fkI .i16).one)).one _) ?_
      intro w hs
      refine g_op (v := Value.int .i64 r19.2.1) rfl rfl rfl ?_
      show G _ _ _ _ [_, _, _, _, _, _, _, _, _, _, _, _, _, _, _, _, _, _, _, _, _, _, _, _, _, _, _, _, _, _, _, _, _, _, _, _, _, _, _, _, _, _, _, _, _, _, _, _, _, _, _, _, _] _
      refine g_op (v := Value.int .i64 r19.2.2) rfl rfl rfl ?_
      show G _ _ _ _ [_, _, _, _, _, _, _, _, _, _, _, _, _, _, _, _, _, _, _, _, _, _, _, _, _, _, _, _, _, _, _, _, _, _, _, _, _, _, _, _, _, _, _, _, _, _, _, _, _, _, _, _, _] _
      refine g_ops_nil ?_
      refine g_seq ?_
      refine g_seq ?_
      refine g_region ?_
      show G _ _ _ (.inRegion _ [0, 1, 2, 3, 4, 5, 6, 7, 8, 9, 10, 11, 12, 13] :: _) _ _
      refine s_loadA rfl rfl (es := ((encA (encI .i16)) r19.1)) rfl rfl (fun _ => rfl) (n := 4) (fun _ => rfl) ((fkA (n := 4) (he := (fkI .i16).len) (h1 := (fkI .i16).one)).len _) (cells_all (hs.cells 0 rfl)) ?_
      show G _ _ _ _ [_, _, _, _, _, _, _, _, _, _, _, _, _, _, _, _, _, _, _, _, _, _, _, _, _, _, _, _, _, _, _, _, _, _, _, _, _, _, _, _, _, _, _, _, _, _, _, _, _, _, _, _, _] _
      refine s_loadA rfl rfl (es := ((encA (encI .i16)) r10.1)) rfl rfl (fun _ => rfl) (n := 4) (fun _ => rfl) ((fkA (n := 4) (he := (fkI .i16).len) (h1 := (fkI .i16).one)).len _) (cells_all (hs.cells 3 rfl)) ?_
      show G _ _ _ _ [_, _, _, _, _, _, _, _, _, _, _, _, _, _, _, _, _, _, _, _, _, _, _, _, _, _, _, _, _, _, _, _, _, _, _, _, _, _, _, _, _, _, _, _, _, _, _, _, _, _, _, _, _] _
      obtain ⟨r22, Hr22, H⟩ := bind_get H
      refine s_call (args := [Value.agg ((encA (encI .i16)) r19.1).toArray, Value.agg ((encA (encI .i16)) r10.1).toArray]) rfl rfl (x_call rfl (callFunc_enter Try.func30 rfl rfl) rfl) (laws_eqTops.calls (a1 := r19.1) (a2 := r10.1) Hr22) ?_
      rintro _ w ⟨rfl, hs2⟩
      have hs : St _ [_, _, _, _, _] _ := hs.call hs2
      cases r22 with
      | true =>
        rw [if_pos rfl] at H
        show G _ _ _ _ [_, _, _, _, _, _, _, _, _, _, _, _, _, _, _, _, _, _, _, _, _, _, _, _, _, _, _, _, _, _, _, _, _, _, _, _, _, _, _, _, _, _, _, _, _, _, _, _, _, _, _, _, _] _
        refine g_op (v := Value.bool false) rfl rfl rfl ?_
        show G _ _ _ _ [_, _, _, _, _, _, _, _, _, _, _, _, _, _, _, _, _, _, _, _, _, _, _, _, _, _, _, _, _, _, _, _, _, _, _, _, _, _, _, _, _, _, _, _, _, _, _, _, _, _, _, _, _] _
        refine g_op (v := Value.bool false) rfl rfl rfl ?_
        show G _ _ _ _ [_, _, _, _, _, _, _, _, _, _, _, _, _, _, _, _, _, _, _, _, _, _, _, _, _, _, _, _, _, _, _, _, _, _, _, _, _, _, _, _, _, _, _, _, _, _, _, _, _, _, _, _, _] _
        refine g_op (v := Value.int .i64 r19.2.1) rfl rfl rfl ?_
        show G _ _ _ _ [_, _, _, _, _, _, _, _, _, _, _, _, _, _, _, _, _, _, _, _, _, _, _, _, _, _, _, _, _, _, _, _, _, _, _, _, _, _, _, _, _, _, _, _, _, _, _, _, _, _, _, _, _] _
        refine g_op (v := Value.int .i64 r10.2.1) rfl rfl rfl ?_
        show G _ _ _ _ [_, _, _, _, _, _, _, _, _, _, _, _, _, _, _, _, _, _, _, _, _, _, _, _, _, _, _, _, _, _, _, _, _, _, _, _, _, _, _, _, _, _, _, _, _, _, _, _, _, _, _, _, _] _
        refine g_op (v := Value.bool (r19.2.1 != r10.2.1)) rfl rfl rfl ?_
        show G _ _ _ _ [_, _, _, _, _, _, _, _, _, _, _, _, _, _, _, _, _, _, _, _, _, _, _, _, _, _, _, _, _, _, _, _, _, _, _, _, _, _, _, _, _, _, _, _, _, _, _, _, _, _, _, _, _] _
        refine g_op_b (B := r19.2.1 != r10.2.1) rfl rfl rfl ?_ ?_
        · intro hb
          rw [if_neg (b_bne_t hb)] at H
          show G _ _ _ _ [_, _, _, _, _, _, _, _, _, _, _, _, _, _, _, _, _, _, _, _, _, _, _, _, _, _, _, _, _, _, _, _, _, _, _, _, _, _, _, _, _, _, _, _, _, _, _, _, _, _, _, _, _] _
          refine g_op (v := Value.bool true) rfl rfl rfl ?_
          show G _ _ _ _ [_, _, _, _, _, _, _, _, _, _, _, _, _, _, _, _, _, _, _, _, _, _, _, _, _, _, _, _, _, _, _, _, _, _, _, _, _, _, _, _, _, _, _, _, _, _, _, _, _, _, _, _, _] _
          refine g_op_not rfl rfl ?_
          show G _ _ _ _ [_, _, _, _, _, _, _, _, _, _, _, _, _, _, _, _, _, _, _, _, _, _, _, _, _, _, _, _, _, _, _, _, _, _, _, _, _, _, _, _, _, _, _, _, _, _, _, _, _, _, _, _, _] _
          refine g_op_not rfl rfl ?_
          show G _ _ _ _ [_, _, _, _, _, _, _, _, _, _, _, _, _, _, _, _, _, _, _, _, _, _, _, _, _, _, _, _, _, _, _, _, _, _, _, _, _, _, _, _, _, _, _, _, _, _, _, _, _, _, _, _, _] _
          refine g_op_not rfl rfl ?_
          show G _ _ _ _ [_, _, _, _, _, _, _, _, _, _, _, _, _, _, _, _, _, _, _, _, _, _, _, _, _, _, _, _, _, _, _, _, _, _, _, _, _, _, _, _, _, _, _, _, _, _, _, _, _, _, _, _, _] _
          refine g_op (v := Value.bool true) rfl rfl rfl ?_
          show G _ _ _ _ [_, _, _, _, _, _, _, _, _, _, _, _, _, _, _, _, _, _, _, _, _, _, _, _, _, _, _, _, _, _, _, _, _, _, _, _, _, _, _, _, _, _, _, _, _, _, _, _, _, _, _, _, _] _
          refine g_ops_nil ?_
          refine g_cond_true rfl ?_
          refine g_seq ?_
          refine g_region ?_
          show G _ _ _ (.inRegion _ [0] :: _) _ _
          refine g_op (v := Value.bool false) rfl rfl rfl ?_
          show G _ _ _ _ [_, _, _, _, _, _, _, _, _, _, _, _, _, _, _, _, _, _, _, _, _, _, _, _, _, _, _, _, _, _, _, _, _, _, _, _, _, _, _, _, _, _, _, _, _, _, _, _, _, _, _, _, _] _
          refine g_ops_nil ?_
          obtain rfl := Option.some.inj H
          refine g_ret Try.func9 (v := Value.bool false) (res1 rfl rfl) ?_
          have hs : St _ [] _ := St.take (Γ' := [_, _, _, _, _]) hs
          exact ⟨_, rfl, rfl, hs⟩
        · intro hb
          rw [if_pos (b_bne_f hb)] at H
          show G _ _ _ _ [_, _, _, _, _, _, _, _, _, _, _, _, _, _, _, _, _, _, _, _, _, _, _, _, _, _, _, _, _, _, _, _, _, _, _, _, _, _, _, _, _, _, _, _, _, _, _, _, _, _, _, _, _] _
          refine g_op (v := Value.bool false) rfl rfl rfl ?_
          show G _ _ _ _ [_, _, _, _, _, _, _, _, _, _, _, _, _, _, _, _, _, _, _, _, _, _, _, _, _, _, _, _, _, _, _, _, _, _, _, _, _, _, _, _, _, _, _, _, _, _, _, _, _, _, _, _, _] _
          refine g_op (v := Value.int .i64 r19.2.2) rfl rfl rfl ?_
          show G _ _ _ _ [_, _, _, _, _, _, _, _, _, _, _, _, _, _, _, _, _, _, _, _, _, _, _, _, _, _, _, _, _, _, _, _, _, _, _, _, _, _, _, _, _, _, _, _, _, _, _, _, _, _, _, _, _] _
          refine g_op (v := Value.int .i64 r10.2.2) rfl rfl rfl ?_
          show G _ _ _ _ [_, _, _, _, _, _, _, _, _, _, _, _, _, _, _, _, _, _, _, _, _, _, _, _, _, _, _, _, _, _, _, _, _, _, _, _, _, _, _, _, _, _, _, _, _, _, _, _, _, _, _, _, _] _
          refine g_op_b (B := r19.2.2 != r10.2.2) rfl rfl rfl ?_ ?_
          · intro hb
            rw [if_neg (b_bne_t hb)] at H
            show G _ _ _ _ [_, _, _, _, _, _, _, _, _, _, _, _, _, _, _, _, _, _, _, _, _, _, _, _, _, _, _, _, _, _, _, _, _, _, _, _, _, _, _, _, _, _, _, _, _, _, _, _, _, _, _, _, _] _
            refine g_op (v := Value.bool true) rfl rfl rfl ?_
            show G _ _ _ _ [_, _, _, _, _, _, _, _, _, _, _, _, _, _, _, _, _, _, _, _, _, _, _, _, _, _, _, _, _, _, _, _, _, _, _, _, _, _, _, _, _, _, _, _, _, _, _, _, _, _, _, _, _] _
            refine g_ops_nil ?_
            refine g_cond_true rfl ?_
            refine g_seq ?_
            refine g_region ?_
            show G _ _ _ (.inRegion _ [0] :: _) _ _
            refine g_op (v := Value.bool false) rfl rfl rfl ?_
            show G _ _ _ _ [_, _, _, _, _, _, _, _, _, _, _, _, _, _, _, _, _, _, _, _, _, _, _, _, _, _, _, _, _, _, _, _, _, _, _, _, _, _, _, _, _, _, _, _, _, _, _, _, _, _, _, _, _] _
            refine g_ops_nil ?_
            obtain rfl := Option.some.inj H
            refine g_ret Try.func9 (v := Value.bool false) (res1 rfl rfl) ?_
            have hs : St _ [] _ := St.take (Γ' := [_, _, _, _, _]) hs
            exact ⟨_, rfl, rfl, hs⟩
          · intro hb
            rw [if_pos (b_bne_f hb)] at H
            show G _ _ _ _ [_, _, _, _, _, _, _, _, _, _, _, _, _, _, _, _, _, _, _, _, _, _, _, _, _, _, _, _, _, _, _, _, _, _, _, _, _, _, _, _, _, _, _, _, _, _, _, _, _, _, _, _, _] _
            refine g_op (v := Value.bool false) rfl rfl rfl ?_
            show G _ _ _ _ [_, _, _, _, _, _, _, _, _, _, _, _, _, _, _, _, _, _, _, _, _, _, _, _, _, _, _, _, _, _, _, _, _, _, _, _, _, _, _, _, _, _, _, _, _, _, _, _, _, _, _, _, _] _
            refine g_ops_nil ?_
            refine g_cond_false rfl ?_
            refine g_skip ?_
            refine g_seq ?_
            refine g_seq ?_
            refine g_region ?_
            show G _ _ _ (.inRegion _ [0, 1, 2, 3, 4] :: _) _ _
            refine g_op (v := v16) rfl rfl rfl ?_
            show G _ _ _ _ [_, _, _, _, _, _, _, _, _, _, _, _, _, _, _, _, _, _, _, _, _, _, _, _, _, _, _, _, _, _, _, _, _, _, _, _, _, _, _, _, _, _, _, _, _, _, _, _, _, _, _, _, _] _
            refine g_op (v := v2) rfl rfl rfl ?_
            show G _ _ _ _ [_, _, _, _, _, _, _, _, _, _, _, _, _, _, _, _, _, _, _, _, _, _, _, _, _, _, _, _, _, _, _, _, _, _, _, _, _, _, _, _, _, _, _, _, _, _, _, _, _, _, _, _, _] _
            obtain ⟨r23, Hr23, H⟩ := bind_get H
            refine s_call (args := [v2]) rfl rfl (x_call rfl (callFunc_enter Try.func14 rfl rfl) rfl) (laws_toGlasses.calls (a1 := a1) (hs.rd hr0) Hr23) ?_
            intro v24 w hs2
            have hs : St _ [_, _, _, _, _, _] _ := hs.call hs2
            show G _ _ _ _ [_, _, _, _, _, _, _, _, _, _, _, _, _, _, _, _, _, _, _, _, _, _, _, _, _, _, _, _, _, _, _, _, _, _, _, _, _, _, _, _, _, _, _, _, _, _, _, _, _, _, _, _, _] _
            obtain ⟨r26, Hr26, H⟩ := bind_get H
            refine s_call (args := [v16, v24]) rfl rfl (x_call rfl (callFunc_enter Try.func16 rfl rfl) rfl) (laws_eqGlasses.calls (a1 := r15) (a3 := r23) (hs.row 2 rfl) (hs.row 0 rfl) Hr26) ?_
            rintro _ w ⟨rfl, hs2⟩
            have hs : St _ [_, _, _, _, _, _] _ := hs.call hs2
            cases r26 with
            | true =>
              rw [if_pos rfl] at H
              show G _ _ _ _ [_, _, _, _, _, _, _, _, _, _, _, _, _, _, _, _, _, _, _, _, _, _, _, _, _, _, _, _, _, _, _, _, _, _, _, _, _, _, _, _, _, _, _, _, _, _, _, _, _, _, _, _, _] _
              refine g_op (v := Value.bool false) rfl rfl rfl ?_
              show G _ _ _ _ [_, _, _, _, _, _, _, _, _, _, _, _, _, _, _, _, _, _, _, _, _, _, _, _, _, _, _, _, _, _, _, _, _, _, _, _, _, _, _, _, _, _, _, _, _, _, _, _, _, _, _, _, _] _
              refine g_ops_nil ?_
              refine g_cond_false rfl ?_
              refine g_skip ?_
              refine g_seq ?_
              refine g_region ?_
              show G _ _ _ (.inRegion _ [0] :: _) _ _
              refine g_op (v := Value.bool true) rfl rfl rfl ?_
              show G _ _ _ _ [_, _, _, _, _, _, _, _, _, _, _, _, _, _, _, _, _, _, _, _, _, _, _, _, _, _, _, _, _, _, _, _, _, _, _, _, _, _, _, _, _, _, _, _, _, _, _, _, _, _, _, _, _] _
              refine g_ops_nil ?_
              obtain rfl := Option.some.inj H
              refine g_ret Try.func9 (v := Value.bool true) (res1 rfl rfl) ?_
              have hs : St _ [] _ := St.take (Γ' := [_, _, _, _, _, _]) hs
              exact ⟨_, rfl, rfl, hs⟩
            | false =>
              rw [if_neg Bool.false_ne_true] at H
              show G _ _ _ _ [_, _, _, _, _, _, _, _, _, _, _, _, _, _, _, _, _, _, _, _, _, _, _, _, _, _, _, _, _, _, _, _, _, _, _, _, _, _, _, _, _, _, _, _, _, _, _, _, _, _, _, _, _] _
              refine g_op (v := Value.bool true) rfl rfl rfl ?_
              show G _ _ _ _ [_, _, _, _, _, _, _, _, _, _, _, _, _, _, _, _, _, _, _, _, _, _, _, _, _, _, _, _, _, _, _, _, _, _, _, _, _, _, _, _, _, _, _, _, _, _, _, _, _, _, _, _, _] _
              refine g_ops_nil ?_
              refine g_cond_true rfl ?_
              refine g_seq ?_
              refine g_region ?_
              show G _ _ _ (.inRegion _ [0] :: _) _ _
              refine g_op (v := Value.bool false) rfl rfl rfl ?_
              show G _ _ _ _ [_, _, _, _, _, _, _, _, _, _, _, _, _, _, _, _, _, _, _, _, _, _, _, _, _, _, _, _, _, _, _, _, _, _, _, _, _, _, _, _, _, _, _, _, _, _, _, _, _, _, _, _, _] _
              refine g_ops_nil ?_
              obtain rfl := Option.some.inj H
              refine g_ret Try.func9 (v := Value.bool false) (res1 rfl rfl) ?_
              have hs : St _ [] _ := St.take (Γ' := [_, _, _, _, _, _]) hs
              exact ⟨_, rfl, rfl, hs⟩
      | false =>
        rw [if_neg Bool.false_ne_true] at H
        show G _ _ _ _ [_, _, _, _, _, _, _, _, _, _, _, _, _, _, _, _, _, _, _, _, _, _, _, _, _, _, _, _, _, _, _, _, _, _, _, _, _, _, _, _, _, _, _, _, _, _, _, _, _, _, _, _, _] _
        refine g_op (v := Value.bool true) rfl rfl rfl ?_
        show G _ _ _ _ [_, _, _, _, _, _, _, _, _, _, _, _, _, _, _, _, _, _, _, _, _, _, _, _, _, _, _, _, _, _, _, _, _, _, _, _, _, _, _, _, _, _, _, _, _, _, _, _, _, _, _, _, _] _
        refine g_op (v := Value.bool true) rfl rfl rfl ?_
        show G _ _ _ _ [_, _, _, _, _, _, _, _, _, _, _, _, _, _, _, _, _, _, _, _, _, _, _, _, _, _, _, _, _, _, _, _, _, _, _, _, _, _, _, _, _, _, _, _, _, _, _, _, _, _, _, _, _] _
        refine g_op_not rfl rfl ?_
        show G _ _ _ _ [_, _, _, _, _, _, _, _, _, _, _, _, _, _, _, _, _, _, _, _, _, _, _, _, _, _, _, _, _, _, _, _, _, _, _, _, _, _, _, _, _, _, _, _, _, _, _, _, _, _, _, _, _] _
        refine g_op_not rfl rfl ?_
        show G _ _ _ _ [_, _, _, _, _, _, _, _, _, _, _, _, _, _, _, _, _, _, _, _, _, _, _, _, _, _, _, _, _, _, _, _, _, _, _, _, _, _, _, _, _, _, _, _, _, _, _, _, _, _, _, _, _] _
        refine g_op_not rfl rfl ?_
        show G _ _ _ _ [_, _, _, _, _, _, _, _, _, _, _, _, _, _, _, _, _, _, _, _, _, _, _, _, _, _, _, _, _, _, _, _, _, _, _, _, _, _, _, _, _, _, _, _, _, _, _, _, _, _, _, _, _] _
        refine g_op (v := Value.bool true) rfl rfl rfl ?_
        show G _ _ _ _ [_, _, _, _, _, _, _, _, _, _, _, _, _, _, _, _, _, _, _, _, _, _, _, _, _, _, _, _, _, _, _, _, _, _, _, _, _, _, _, _, _, _, _, _, _, _, _, _, _, _, _, _, _] _
        refine g_op (v := Value.bool true) rfl rfl rfl ?_
        show G _ _ _ _ [_, _, _, _, _, _, _, _, _, _, _, _, _, _, _, _, _, _, _, _, _, _, _, _, _, _, _, _, _, _, _, _, _, _, _, _, _, _, _, _, _, _, _, _, _, _, _, _, _, _, _, _, _] _
        refine g_op_not rfl rfl ?_
        show G _ _ _ _ [_, _, _, _, _, _, _, _, _, _, _, _, _, _, _, _, _, _, _, _, _, _, _, _, _, _, _, _, _, _, _, _, _, _, _, _, _, _, _, _, _, _, _, _, _, _, _, _, _, _, _, _, _] _
        refine g_op_not rfl rfl ?_
        show G _ _ _ _ [_, _, _, _, _, _, _, _, _, _, _, _, _, _, _, _, _, _, _, _, _, _, _, _, _, _, _, _, _, _, _, _, _, _, _, _, _, _, _, _, _, _, _, _, _, _, _, _, _, _, _, _, _] _
        refine g_op_not rfl rfl ?_
        show G _ _ _ _ [_, _, _, _, _, _, _, _, _, _, _, _, _, _, _, _, _, _, _, _, _, _, _, _, _, _, _, _, _, _, _, _, _, _, _, _, _, _, _, _, _, _, _, _, _, _, _, _, _, _, _, _, _] _
        refine g_op (v := Value.bool true) rfl rfl rfl ?_
        show G _ _ _ _ [_, _, _, _, _, _, _, _, _, _, _, _, _, _, _, _, _, _, _, _, _, _, _, _, _, _, _, _, _, _, _, _, _, _, _, _, _, _, _, _, _, _, _, _, _, _, _, _, _, _, _, _, _] _
        refine g_ops_nil ?_
        refine g_cond_true rfl ?_
        refine g_seq ?_
        refine g_region ?_
        show G _ _ _ (.inRegion _ [0] :: _) _ _
        refine g_op (v := Value.bool false) rfl rfl rfl ?_
        show G _ _ _ _ [_, _, _, _, _, _, _, _, _, _, _, _, _, _, _, _, _, _, _, _, _, _, _, _, _, _, _, _, _, _, _, _, _, _, _, _, _, _, _, _, _, _, _, _, _, _, _, _, _, _, _, _, _] _
        refine g_ops_nil ?_
        obtain rfl := Option.some.inj H
        refine g_ret Try.func9 (v := Value.bool false) (res1 rfl rfl) ?_
        have hs : St _ [] _ := St.take (Γ' := [_, _, _, _, _]) hs
        exact ⟨_, rfl, rfl, hs⟩

end Go.Proofs.YtgachgjcnmeicaaX
