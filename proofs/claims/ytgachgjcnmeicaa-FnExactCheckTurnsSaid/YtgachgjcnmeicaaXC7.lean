/- Contracts, printed by gen.py. -/
import Derived.Test.YtgachgjcnmeicaaXC6
namespace Go.Proofs.YtgachgjcnmeicaaX
open Go Go.RowKit Go.Proofs
set_option linter.unusedVariables false
set_option linter.unusedSimpArgs false
/- function 7 laws_FnExactStepOfGlasses -/
def laws_FnExactStepOfGlasses.post (w0 : World) (r : Bool) (v : Value) (w : World) : Prop := v = Value.bool r ∧ St w0 [] w
set_option maxHeartbeats 400000 in
set_option maxRecDepth 100000 in
theorem laws_FnExactStepOfGlasses.calls {N : Nat} {a1 : (List Int)} {a3 : (Ar Int 4)} {v2 : Value} {w0 : World} {r : Bool} (hr0 : RdRow (K.int .i16) w0 v2 a1) (H : laws_FnExactStepOfGlasses.f N a1 a3 = some r) :
    Calls Try.prog 7 #[v2, Value.agg ((encA (encI .i16)) a3).toArray] w0 fun e w => ∃ v, e = .returned v ∧ laws_FnExactStepOfGlasses.post w0 r v w := by
  unfold laws_FnExactStepOfGlasses.f at H
  have hs : St w0 [] w0 := St.refl w0
  refine calls_of_g (n := 41) Try.func7 rfl rfl ?_
  show G _ _ _ _ [_, _, _, _, _, _, _, _, _, _, _, _, _, _, _, _, _, _, _, _, _, _, _, _, _, _, _, _, _, _, _, _, _, _, _, _, _, _, _, _, _, _, _] _
  refine g_seq ?_
  refine g_region ?_
  show G _ _ _ (.inRegion _ [0, 1] :: _) _ _
  refine s_box hs rfl rfl (cs := ((encA (encI .i16)) a3)) rfl rfl ?_
  intro b4 w hs
  show G _ _ _ _ [_, _, _, _, _, _, _, _, _, _, _, _, _, _, _, _, _, _, _, _, _, _, _, _, _, _, _, _, _, _, _, _, _, _, _, _, _, _, _, _, _, _, _] _
  refine g_op (v := Value.bool false) rfl rfl rfl ?_
  show G _ _ _ _ [_, _, _, _, _, _, _, _, _, _, _, _, _, _, _, _, _, _, _, _, _, _, _, _, _, _, _, _, _, _, _, _, _, _, _, _, _, _, _, _, _, _, _] _
  refine g_ops_nil ?_
  refine g_seq ?_
  refine g_seq ?_
  refine g_region ?_
  show G _ _ _ (.inRegion _ [0, 1, 2] :: _) _ _
  refine g_op (v := v2) rfl rfl rfl ?_
  show G _ _ _ _ [_, _, _, _, _, _, _, _, _, _, _, _, _, _, _, _, _, _, _, _, _, _, _, _, _, _, _, _, _, _, _, _, _, _, _, _, _, _, _, _, _, _, _] _
  refine s_len (hs.rd hr0) rfl rfl rfl rfl rfl ?_
  show G _ _ _ _ [_, _, _, _, _, _, _, _, _, _, _, _, _, _, _, _, _, _, _, _, _, _, _, _, _, _, _, _, _, _, _, _, _, _, _, _, _, _, _, _, _, _, _] _
  refine g_op_b (B := decide ((a1.length : Int) > 1048576)) rfl rfl rfl ?_ ?_
  · intro hb
    rw [if_pos (b_dec_t hb)] at H
    show G _ _ _ _ [_, _, _, _, _, _, _, _, _, _, _, _, _, _, _, _, _, _, _, _, _, _, _, _, _, _, _, _, _, _, _, _, _, _, _, _, _, _, _, _, _, _, _] _
    refine g_ops_nil ?_
    refine g_cond_true rfl ?_
    refine g_seq ?_
    refine g_region ?_
    show G _ _ _ (.inRegion _ [0] :: _) _ _
    refine g_op (v := Value.bool true) rfl rfl rfl ?_
    show G _ _ _ _ [_, _, _, _, _, _, _, _, _, _, _, _, _, _, _, _, _, _, _, _, _, _, _, _, _, _, _, _, _, _, _, _, _, _, _, _, _, _, _, _, _, _, _] _
    refine g_ops_nil ?_
    obtain rfl := Option.some.inj H
    refine g_ret Try.func7 (v := Value.bool true) (res1 rfl rfl) ?_
    have hs : St _ [] _ := St.take (Γ' := [_]) hs
    exact ⟨_, rfl, rfl, hs⟩
  · intro hb
    rw [if_neg (b_dec_f hb)] at H
    show G _ _ _ _ [_, _, _, _, _, _, _, _, _, _, _, _, _, _, _, _, _, _, _, _, _, _, _, _, _, _, _, _, _, _, _, _, _, _, _, _, _, _, _, _, _, _, _] _
    refine g_ops_nil ?_
    refine g_cond_false rfl ?_
    refine g_skip ?_
    refine g_seq ?_
    obtain ⟨r6, Hr6, H⟩ := bind_get H
    obtain ⟨r9, Hr9, H⟩ := bind_get H
    obtain ⟨r10, Hr10, H⟩ := bind_get H
    refine g_name ?_
    intro T hT
    refine g_any (n := 10) rfl [0, 1, 2, 3, 4, 5, 6, 7, 8, 9] [0, 1, 2, 3, 4, 5, 6, 8, 7, 9] rfl rfl (Inv := fun D t w => ∃ v7 : Value, ∃ O : Nat → Value, t = [v2, Value.agg ((encA (encI .i16)) a3).toArray, O 2, Value.pointer (some ⟨b4, 0, none⟩), Value.bool false, cnd (D 8) (Value.int .i64 r10.1) (O 5), cnd (D 9) (Value.int .i64 r10.2) (O 6), O 7, O 8, O 9, v2, Value.int .i64 (a1.length : Int), Value.bool false, cnd (D 5) (Value.tuple #[Value.int .i64 r10.1, Value.int .i64 r10.2]) (O 13), cnd (D 0) v2 (O 14), cnd (D 1) v7 (O 15), cnd (D 2) (Value.agg ((encA (encI .i16)) a3).toArray) (O 16), cnd (D 3) (Value.agg ((encA (encI .i16)) r9).toArray) (O 17), cnd (D 4) (Value.tuple #[Value.int .i64 r10.1, Value.int .i64 r10.2]) (O 18), cnd (D 6) (Value.int .i64 r10.1) (O 19), cnd (D 7) (Value.int .i64 r10.2) (O 20), O 21, O 22, O 23, O 24, O 25, O 26, O 27, O 28, O 29, O 30, O 31, O 32, O 33, O 34, O 35, O 36, O 37, O 38, O 39, O 40, O 41, O 42] ∧ St w0 [Asc (D 1) (Row 34 (K.int .i16) v7 r6), Cells b4 ((encA (encI .i16)) a3) 35] w) ?_ ⟨⟨⟨⟨⟨⟨⟨⟨⟨⟨trivial, ?_⟩, ?_⟩, ?_⟩, ?_⟩, ?_⟩, ?_⟩, ?_⟩, ?_⟩, ?_⟩, ?_⟩ ?_
    · intro w hh hbw
      have hs := hs.samew hh hbw
      have hs := hs.emp
      exact ⟨undef, fun i => T.getD i undef, (by subst hT; rfl), hs⟩
    · intro D t w hD hp hcl hI rest hk
      obtain ⟨v7, O, ht, hs⟩ := hI
      have q1_ : D 1 = false := not_yet (hcl.get 1 (by decide)) 0 0 rfl hD
      have q3_ : D 3 = false := not_yet (hcl.get 3 (by decide)) 1 1 rfl q1_
      have q4_ : D 4 = false := not_yet (hcl.get 4 (by decide)) 0 1 rfl q1_
      have q5_ : D 5 = false := not_yet (hcl.get 5 (by decide)) 0 4 rfl q4_
      have q6_ : D 6 = false := not_yet (hcl.get 6 (by decide)) 0 5 rfl q5_
      have q7_ : D 7 = false := not_yet (hcl.get 7 (by decide)) 0 5 rfl q5_
      have q8_ : D 8 = false := not_yet (hcl.get 8 (by decide)) 0 6 rfl q6_
      have q9_ : D 9 = false := not_yet (hcl.get 9 (by decide)) 0 7 rfl q7_
      have u0_ : upd D 0 0 = true := rfl
      have u1_ : upd D 0 1 = D 1 := rfl
      have u2_ : upd D 0 2 = D 2 := rfl
      have u3_ : upd D 0 3 = D 3 := rfl
      have u4_ : upd D 0 4 = D 4 := rfl
      have u5_ : upd D 0 5 = D 5 := rfl
      have u6_ : upd D 0 6 = D 6 := rfl
      have u7_ : upd D 0 7 = D 7 := rfl
      have u8_ : upd D 0 8 = D 8 := rfl
      have u9_ : upd D 0 9 = D 9 := rfl
      simp only [hD, q1_, q3_, q4_, q5_, q6_, q7_, q8_, q9_, cnd_t, cnd_f, Asc_t, Asc_f] at ht hs
      subst ht
      refine g_op (v := v2) rfl rfl rfl ?_
      show G _ _ _ _ [_, _, _, _, _, _, _, _, _, _, _, _, _, _, _, _, _, _, _, _, _, _, _, _, _, _, _, _, _, _, _, _, _, _, _, _, _, _, _, _, _, _, _] _
      exact hk _ _ ⟨v7, O, (by simp only [u0_, u1_, u2_, u3_, u4_, u5_, u6_, u7_, u8_, u9_, q1_, q3_, q4_, q5_, q6_, q7_, q8_, q9_, cnd_t, cnd_f, Asc_t, Asc_f]), hs.cast (by first | rfl | simp only [List.take, List.drop, List.cons_append, List.nil_append, List.set_cons_zero, List.set_cons_succ, List.eraseIdx, u0_, u1_, u2_, u3_, u4_, u5_, u6_, u7_, u8_, u9_, q1_, q3_, q4_, q5_, q6_, q7_, q8_, q9_, cnd_t, cnd_f, Asc_t, Asc_f])⟩
    · intro D t w hD hp hcl hI rest hk
      obtain ⟨v7, O, ht, hs⟩ := hI
      obtain ⟨p0_, _⟩ := hp
      have q3_ : D 3 = false := not_yet (hcl.get 3 (by decide)) 1 1 rfl hD
      have q4_ : D 4 = false := not_yet (hcl.get 4 (by decide)) 0 1 rfl hD
      have q5_ : D 5 = false := not_yet (hcl.get 5 (by decide)) 0 4 rfl q4_
      have q6_ : D 6 = false := not_yet (hcl.get 6 (by decide)) 0 5 rfl q5_
      have q7_ : D 7 = false := not_yet (hcl.get 7 (by decide)) 0 5 rfl q5_
      have q8_ : D 8 = false := not_yet (hcl.get 8 (by decide)) 0 6 rfl q6_
      have q9_ : D 9 = false := not_yet (hcl.get 9 (by decide)) 0 7 rfl q7_
      have u0_ : upd D 1 0 = D 0 := rfl
      have u1_ : upd D 1 1 = true := rfl
      have u2_ : upd D 1 2 = D 2 := rfl
      have u3_ : upd D 1 3 = D 3 := rfl
      have u4_ : upd D 1 4 = D 4 := rfl
      have u5_ : upd D 1 5 = D 5 := rfl
      have u6_ : upd D 1 6 = D 6 := rfl
      have u7_ : upd D 1 7 = D 7 := rfl
      have u8_ : upd D 1 8 = D 8 := rfl
      have u9_ : upd D 1 9 = D 9 := rfl
      simp only [hD, p0_, q3_, q4_, q5_, q6_, q7_, q8_, q9_, cnd_t, cnd_f, Asc_t, Asc_f] at ht hs
      subst ht
      refine s_call (args := [v2]) rfl rfl (x_call rfl (callFunc_enter Try.func14 rfl rfl) rfl) (laws_toGlasses.calls (a1 := a1) (hs.rd hr0) Hr6) ?_
      intro v7 w hs2
      have hs : St _ [_, _, _] _ := hs.call hs2
      show G _ _ _ _ [_, _, _, _, _, _, _, _, _, _, _, _, _, _, _, _, _, _, _, _, _, _, _, _, _, _, _, _, _, _, _, _, _, _, _, _, _, _, _, _, _, _, _] _
      have hs := hs.fill 0 rfl
      exact hk _ _ ⟨v7, O, (by simp only [u0_, u1_, u2_, u3_, u4_, u5_, u6_, u7_, u8_, u9_, p0_, q3_, q4_, q5_, q6_, q7_, q8_, q9_, cnd_t, cnd_f, Asc_t, Asc_f]), hs.cast (by first | rfl | simp only [List.take, List.drop, List.cons_append, List.nil_append, List.set_cons_zero, List.set_cons_succ, List.eraseIdx, u0_, u1_, u2_, u3_, u4_, u5_, u6_, u7_, u8_, u9_, p0_, q3_, q4_, q5_, q6_, q7_, q8_, q9_, cnd_t, cnd_f, Asc_t, Asc_f])⟩
    · intro D t w hD hp hcl hI rest hk
      obtain ⟨v7, O, ht, hs⟩ := hI
      have q3_ : D 3 = false := not_yet (hcl.get 3 (by decide)) 0 2 rfl hD
      have q4_ : D 4 = false := not_yet (hcl.get 4 (by decide)) 1 3 rfl q3_
      have q5_ : D 5 = false := not_yet (hcl.get 5 (by decide)) 0 4 rfl q4_
      have q6_ : D 6 = false := not_yet (hcl.get 6 (by decide)) 0 5 rfl q5_
      have q7_ : D 7 = false := not_yet (hcl.get 7 (by decide)) 0 5 rfl q5_
      have q8_ : D 8 = false := not_yet (hcl.get 8 (by decide)) 0 6 rfl q6_
      have q9_ : D 9 = false := not_yet (hcl.get 9 (by decide)) 0 7 rfl q7_
      have u0_ : upd D 2 0 = D 0 := rfl
      have u1_ : upd D 2 1 = D 1 := rfl
      have u2_ : upd D 2 2 = true := rfl
      have u3_ : upd D 2 3 = D 3 := rfl
      have u4_ : upd D 2 4 = D 4 := rfl
      have u5_ : upd D 2 5 = D 5 := rfl
      have u6_ : upd D 2 6 = D 6 := rfl
      have u7_ : upd D 2 7 = D 7 := rfl
      have u8_ : upd D 2 8 = D 8 := rfl
      have u9_ : upd D 2 9 = D 9 := rfl
      simp only [hD, q3_, q4_, q5_, q6_, q7_, q8_, q9_, cnd_t, cnd_f, Asc_t, Asc_f] at ht hs
      subst ht
      refine s_loadA rfl rfl (es := ((encA (encI .i16)) a3)) rfl rfl (fun _ => rfl) (n := 4) (fun _ => rfl) ((fkA (n := 4) (he := (fkI .i16).len) (h1 := (fkI .i16).one)).len _) (cells_all (hs.cells 1 rfl)) ?_
      show G _ _ _ _ [_, _, _, _, _, _, _, _, _, _, _, _, _, _, _, _, _, _, _, _, _, _, _, _, _, _, _, _, _, _, _, _, _, _, _, _, _, _, _, _, _, _, _] _
      exact hk _ _ ⟨v7, O, (by simp only [u0_, u1_, u2_, u3_, u4_, u5_, u6_, u7_, u8_, u9_, q3_, q4_, q5_, q6_, q7_, q8_, q9_, cnd_t, cnd_f, Asc_t, Asc_f]), hs.cast (by first | rfl | simp only [List.take, List.drop, List.cons_append, List.nil_append, List.set_cons_zero, List.set_cons_succ, List.eraseIdx, u0_, u1_, u2_, u3_, u4_, u5_, u6_, u7_, u8_, u9_, q3_, q4_, q5_, q6_, q7_, q8_, q9_, cnd_t, cnd_f, Asc_t, Asc_f])⟩
    · intro D t w hD hp hcl hI rest hk
      obtain ⟨v7, O, ht, hs⟩ := hI
      obtain ⟨p2_, p1_, _⟩ := hp
      obtain ⟨p0_, _⟩ := hcl.get 1 (by decide) p1_
      have q4_ : D 4 = false := not_yet (hcl.get 4 (by decide)) 1 3 rfl hD
      have q5_ : D 5 = false := not_yet (hcl.get 5 (by decide)) 0 4 rfl q4_
      have q6_ : D 6 = false := not_yet (hcl.get 6 (by decide)) 0 5 rfl q5_
      have q7_ : D 7 = false := not_yet (hcl.get 7 (by decide)) 0 5 rfl q5_
      have q8_ : D 8 = false := not_yet (hcl.get 8 (by decide)) 0 6 rfl q6_
      have q9_ : D 9 = false := not_yet (hcl.get 9 (by decide)) 0 7 rfl q7_
      have u0_ : upd D 3 0 = D 0 := rfl
      have u1_ : upd D 3 1 = D 1 := rfl
      have u2_ : upd D 3 2 = D 2 := rfl
      have u3_ : upd D 3 3 = true := rfl
      have u4_ : upd D 3 4 = D 4 := rfl
      have u5_ : upd D 3 5 = D 5 := rfl
      have u6_ : upd D 3 6 = D 6 := rfl
      have u7_ : upd D 3 7 = D 7 := rfl
      have u8_ : upd D 3 8 = D 8 := rfl
      have u9_ : upd D 3 9 = D 9 := rfl
      simp only [hD, p0_, p1_, p2_, q4_, q5_, q6_, q7_, q8_, q9_, cnd_t, cnd_f, Asc_t, Asc_f] at ht hs
      subst ht
      refine s_call (args := [Value.agg ((encA (encI .i16)) a3).toArray]) rfl rfl (x_call rfl (callFunc_enter Try.func22 rfl rfl) rfl) (laws_toTops.calls (a1 := a3) Hr9) ?_
      rintro _ w ⟨rfl, hs2⟩
      have hs : St _ [_, _] _ := hs.call hs2
      show G _ _ _ _ [_, _, _, _, _, _, _, _, _, _, _, _, _, _, _, _, _, _, _, _, _, _, _, _, _, _, _, _, _, _, _, _, _, _, _, _, _, _, _, _, _, _, _] _
      exact hk _ _ ⟨v7, O, (by simp only [u0_, u1_, u2_, u3_, u4_, u5_, u6_, u7_, u8_, u9_, p0_, p1_, p2_, q4_, q5_, q6_, q7_, q8_, q9_, cnd_t, cnd_f, Asc_t, Asc_f]), hs.cast (by first | rfl | simp only [List.take, List.drop, List.cons_append, List.nil_append, List.set_cons_zero, List.set_cons_succ, List.eraseIdx, u0_, u1_, u2_, u3_, u4_, u5_, u6_, u7_, u8_, u9_, p0_, p1_, p2_, q4_, q5_, q6_, q7_, q8_, q9_, cnd_t, cnd_f, Asc_t, Asc_f])⟩
    · intro D t w hD hp hcl hI rest hk
      obtain ⟨v7, O, ht, hs⟩ := hI
      obtain ⟨p1_, p3_, _, _⟩ := hp
      obtain ⟨p2_, _, _⟩ := hcl.get 3 (by decide) p3_
      obtain ⟨p0_, _⟩ := hcl.get 1 (by decide) p1_
      have q5_ : D 5 = false := not_yet (hcl.get 5 (by decide)) 0 4 rfl hD
      have q6_ : D 6 = false := not_yet (hcl.get 6 (by decide)) 0 5 rfl q5_
      have q7_ : D 7 = false := not_yet (hcl.get 7 (by decide)) 0 5 rfl q5_
      have q8_ : D 8 = false := not_yet (hcl.get 8 (by decide)) 0 6 rfl q6_
      have q9_ : D 9 = false := not_yet (hcl.get 9 (by decide)) 0 7 rfl q7_
      have u0_ : upd D 4 0 = D 0 := rfl
      have u1_ : upd D 4 1 = D 1 := rfl
      have u2_ : upd D 4 2 = D 2 := rfl
      have u3_ : upd D 4 3 = D 3 := rfl
      have u4_ : upd D 4 4 = true := rfl
      have u5_ : upd D 4 5 = D 5 := rfl
      have u6_ : upd D 4 6 = D 6 := rfl
      have u7_ : upd D 4 7 = D 7 := rfl
      have u8_ : upd D 4 8 = D 8 := rfl
      have u9_ : upd D 4 9 = D 9 := rfl
      simp only [hD, p0_, p1_, p2_, p3_, q5_, q6_, q7_, q8_, q9_, cnd_t, cnd_f, Asc_t, Asc_f] at ht hs
      subst ht
      refine s_call (args := [v7, Value.agg ((encA (encI .i16)) r9).toArray]) rfl rfl (x_call rfl (callFunc_enter Try.func26 rfl rfl) rfl) (spec_StepOfGlasses.calls (a1 := r6) (a3 := r9) (hs.row 0 rfl) Hr10) ?_
      rintro _ w ⟨rfl, hs2⟩
      have hs : St _ [_, _] _ := hs.call hs2
      show G _ _ _ _ [_, _, _, _, _, _, _, _, _, _, _, _, _, _, _, _, _, _, _, _, _, _, _, _, _, _, _, _, _, _, _, _, _, _, _, _, _, _, _, _, _, _, _] _
      exact hk _ _ ⟨v7, O, (by simp only [u0_, u1_, u2_, u3_, u4_, u5_, u6_, u7_, u8_, u9_, p0_, p1_, p2_, p3_, q5_, q6_, q7_, q8_, q9_, cnd_t, cnd_f, Asc_t, Asc_f]), hs.cast (by first | rfl | simp only [List.take, List.drop, List.cons_append, List.nil_append, List.set_cons_zero, List.set_cons_succ, List.eraseIdx, u0_, u1_, u2_, u3_, u4_, u5_, u6_, u7_, u8_, u9_, p0_, p1_, p2_, p3_, q5_, q6_, q7_, q8_, q9_, cnd_t, cnd_f, Asc_t, Asc_f])⟩
    · intro D t w hD hp hcl hI rest hk
      obtain ⟨v7, O, ht, hs⟩ := hI
      obtain ⟨p4_, _⟩ := hp
      obtain ⟨p1_, p3_, _, _⟩ := hcl.get 4 (by decide) p4_
      obtain ⟨p2_, _, _⟩ := hcl.get 3 (by decide) p3_
      obtain ⟨p0_, _⟩ := hcl.get 1 (by decide) p1_
      have q6_ : D 6 = false := not_yet (hcl.get 6 (by decide)) 0 5 rfl hD
      have q7_ : D 7 = false := not_yet (hcl.get 7 (by decide)) 0 5 rfl hD
      have q8_ : D 8 = false := not_yet (hcl.get 8 (by decide)) 0 6 rfl q6_
      have q9_ : D 9 = false := not_yet (hcl.get 9 (by decide)) 0 7 rfl q7_
      have u0_ : upd D 5 0 = D 0 := rfl
      have u1_ : upd D 5 1 = D 1 := rfl
      have u2_ : upd D 5 2 = D 2 := rfl
      have u3_ : upd D 5 3 = D 3 := rfl
      have u4_ : upd D 5 4 = D 4 := rfl
      have u5_ : upd D 5 5 = true := rfl
      have u6_ : upd D 5 6 = D 6 := rfl
      have u7_ : upd D 5 7 = D 7 := rfl
      have u8_ : upd D 5 8 = D 8 := rfl
      have u9_ : upd D 5 9 = D 9 := rfl
      simp only [hD, p0_, p1_, p2_, p3_, p4_, q6_, q7_, q8_, q9_, cnd_t, cnd_f, Asc_t, Asc_f] at ht hs
      subst ht
      refine g_op (v := Value.tuple #[Value.int .i64 r10.1, Value.int .i64 r10.2]) rfl rfl rfl ?_
      show G _ _ _ _ [_, _, _, _, _, _, _, _, _, _, _, _, _, _, _, _, _, _, _, _, _, _, _, _, _, _, _, _, _, _, _, _, _, _, _, _, _, _, _, _, _, _, _] _
      exact hk _ _ ⟨v7, O, (by simp only [u0_, u1_, u2_, u3_, u4_, u5_, u6_, u7_, u8_, u9_, p0_, p1_, p2_, p3_, p4_, q6_, q7_, q8_, q9_, cnd_t, cnd_f, Asc_t, Asc_f]), hs.cast (by first | rfl | simp only [List.take, List.drop, List.cons_append, List.nil_append, List.set_cons_zero, List.set_cons_succ, List.eraseIdx, u0_, u1_, u2_, u3_, u4_, u5_, u6_, u7_, u8_, u9_, p0_, p1_, p2_, p3_, p4_, q6_, q7_, q8_, q9_, cnd_t, cnd_f, Asc_t, Asc_f])⟩
    · intro D t w hD hp hcl hI rest hk
      obtain ⟨v7, O, ht, hs⟩ := hI
      obtain ⟨p5_, _⟩ := hp
      obtain ⟨p4_, _⟩ := hcl.get 5 (by decide) p5_
      obtain ⟨p1_, p3_, _, _⟩ := hcl.get 4 (by decide) p4_
      obtain ⟨p2_, _, _⟩ := hcl.get 3 (by decide) p3_
      obtain ⟨p0_, _⟩ := hcl.get 1 (by decide) p1_
      have q8_ : D 8 = false := not_yet (hcl.get 8 (by decide)) 0 6 rfl hD
      have q9_ : D 9 = false := not_yet (hcl.get 9 (by decide)) 1 8 rfl q8_
      have u0_ : upd D 6 0 = D 0 := rfl
      have u1_ : upd D 6 1 = D 1 := rfl
      have u2_ : upd D 6 2 = D 2 := rfl
      have u3_ : upd D 6 3 = D 3 := rfl
      have u4_ : upd D 6 4 = D 4 := rfl
      have u5_ : upd D 6 5 = D 5 := rfl
      have u6_ : upd D 6 6 = true := rfl
      have u7_ : upd D 6 7 = D 7 := rfl
      have u8_ : upd D 6 8 = D 8 := rfl
      have u9_ : upd D 6 9 = D 9 := rfl
      simp only [hD, p0_, p1_, p2_, p3_, p4_, p5_, q8_, q9_, cnd_t, cnd_f, Asc_t, Asc_f] at ht hs
      subst ht
      refine g_op (v := Value.int .i64 r10.1) rfl rfl rfl ?_
      show G _ _ _ _ [_, _, _, _, _, _, _, _, _, _, _, _, _, _, _, _, _, _, _, _, _, _, _, _, _, _, _, _, _, _, _, _, _, _, _, _, _, _, _, _, _, _, _] _
      exact hk _ _ ⟨v7, O, (by simp only [u0_, u1_, u2_, u3_, u4_, u5_, u6_, u7_, u8_, u9_, p0_, p1_, p2_, p3_, p4_, p5_, q8_, q9_, cnd_t, cnd_f, Asc_t, Asc_f]), hs.cast (by first | rfl | simp only [List.take, List.drop, List.cons_append, List.nil_append, List.set_cons_zero, List.set_cons_succ, List.eraseIdx, u0_, u1_, u2_, u3_, u4_, u5_, u6_, u7_, u8_, u9_, p0_, p1_, p2_, p3_, p4_, p5_, q8_, q9_, cnd_t, cnd_f, Asc_t, Asc_f])⟩
    · intro D t w hD hp hcl hI rest hk
      obtain ⟨v7, O, ht, hs⟩ := hI
      obtain ⟨p5_, _⟩ := hp
      obtain ⟨p4_, _⟩ := hcl.get 5 (by decide) p5_
      obtain ⟨p1_, p3_, _, _⟩ := hcl.get 4 (by decide) p4_
      obtain ⟨p2_, _, _⟩ := hcl.get 3 (by decide) p3_
      obtain ⟨p0_, _⟩ := hcl.get 1 (by decide) p1_
      have q9_ : D 9 = false := not_yet (hcl.get 9 (by decide)) 0 7 rfl hD
      have u0_ : upd D 7 0 = D 0 := rfl
      have u1_ : upd D 7 1 = D 1 := rfl
      have u2_ : upd D 7 2 = D 2 := rfl
      have u3_ : upd D 7 3 = D 3 := rfl
      have u4_ : upd D 7 4 = D 4 := rfl
      have u5_ : upd D 7 5 = D 5 := rfl
      have u6_ : upd D 7 6 = D 6 := rfl
      have u7_ : upd D 7 7 = true := rfl
      have u8_ : upd D 7 8 = D 8 := rfl
      have u9_ : upd D 7 9 = D 9 := rfl
      simp only [hD, p0_, p1_, p2_, p3_, p4_, p5_, q9_, cnd_t, cnd_f, Asc_t, Asc_f] at ht hs
      subst ht
      refine g_op (v := Value.int .i64 r10.2) rfl rfl rfl ?_
      show G _ _ _ _ [_, _, _, _, _, _, _, _, _, _, _, _, _, _, _, _, _, _, _, _, _, _, _, _, _, _, _, _, _, _, _, _, _, _, _, _, _, _, _, _, _, _, _] _
      exact hk _ _ ⟨v7, O, (by simp only [u0_, u1_, u2_, u3_, u4_, u5_, u6_, u7_, u8_, u9_, p0_, p1_, p2_, p3_, p4_, p5_, q9_, cnd_t, cnd_f, Asc_t, Asc_f]), hs.cast (by first | rfl | simp only [List.take, List.drop, List.cons_append, List.nil_append, List.set_cons_zero, List.set_cons_succ, List.eraseIdx, u0_, u1_, u2_, u3_, u4_, u5_, u6_, u7_, u8_, u9_, p0_, p1_, p2_, p3_, p4_, p5_, q9_, cnd_t, cnd_f, Asc_t, Asc_f])⟩
    · intro D t w hD hp hcl hI rest hk
      obtain ⟨v7, O, ht, hs⟩ := hI
      obtain ⟨p6_, p4_, p0_, p1_, p2_, p3_, _, p5_, _, _⟩ := hp
      have q9_ : D 9 = false := not_yet (hcl.get 9 (by decide)) 1 8 rfl hD
      have u0_ : upd D 8 0 = D 0 := rfl
      have u1_ : upd D 8 1 = D 1 := rfl
      have u2_ : upd D 8 2 = D 2 := rfl
      have u3_ : upd D 8 3 = D 3 := rfl
      have u4_ : upd D 8 4 = D 4 := rfl
      have u5_ : upd D 8 5 = D 5 := rfl
      have u6_ : upd D 8 6 = D 6 := rfl
      have u7_ : upd D 8 7 = D 7 := rfl
      have u8_ : upd D 8 8 = true := rfl
      have u9_ : upd D 8 9 = D 9 := rfl
      simp only [hD, p0_, p1_, p2_, p3_, p4_, p5_, p6_, q9_, cnd_t, cnd_f, Asc_t, Asc_f] at ht hs
      subst ht
      refine g_op (v := Value.int .i64 r10.1) rfl rfl rfl ?_
      show G _ _ _ _ [_, _, _, _, _, _, _, _, _, _, _, _, _, _, _, _, _, _, _, _, _, _, _, _, _, _, _, _, _, _, _, _, _, _, _, _, _, _, _, _, _, _, _] _
      exact hk _ _ ⟨v7, O, (by simp only [u0_, u1_, u2_, u3_, u4_, u5_, u6_, u7_, u8_, u9_, p0_, p1_, p2_, p3_, p4_, p5_, p6_, q9_, cnd_t, cnd_f, Asc_t, Asc_f]), hs.cast (by first | rfl | simp only [List.take, List.drop, List.cons_append, List.nil_append, List.set_cons_zero, List.set_cons_succ, List.eraseIdx, u0_, u1_, u2_, u3_, u4_, u5_, u6_, u7_, u8_, u9_, p0_, p1_, p2_, p3_, p4_, p5_, p6_, q9_, cnd_t, cnd_f, Asc_t, Asc_f])⟩
    · intro D t w hD hp hcl hI rest hk
      obtain ⟨v7, O, ht, hs⟩ := hI
      obtain ⟨p7_, p8_, p0_, p1_, p2_, p3_, p4_, p5_, p6_, _, _, _⟩ := hp
      have u0_ : upd D 9 0 = D 0 := rfl
      have u1_ : upd D 9 1 = D 1 := rfl
      have u2_ : upd D 9 2 = D 2 := rfl
      have u3_ : upd D 9 3 = D 3 := rfl
      have u4_ : upd D 9 4 = D 4 := rfl
      have u5_ : upd D 9 5 = D 5 := rfl
      have u6_ : upd D 9 6 = D 6 := rfl
      have u7_ : upd D 9 7 = D 7 := rfl
      have u8_ : upd D 9 8 = D 8 := rfl
      have u9_ : upd D 9 9 = true := rfl
      simp only [hD, p0_, p1_, p2_, p3_, p4_, p5_, p6_, p7_, p8_, cnd_t, cnd_f, Asc_t, Asc_f] at ht hs
      subst ht
      refine g_op (v := Value.int .i64 r10.2) rfl rfl rfl ?_
      show G _ _ _ _ [_, _, _, _, _, _, _, _, _, _, _, _, _, _, _, _, _, _, _, _, _, _, _, _, _, _, _, _, _, _, _, _, _, _, _, _, _, _, _, _, _, _, _] _
      exact hk _ _ ⟨v7, O, (by simp only [u0_, u1_, u2_, u3_, u4_, u5_, u6_, u7_, u8_, u9_, p0_, p1_, p2_, p3_, p4_, p5_, p6_, p7_, p8_, cnd_t, cnd_f, Asc_t, Asc_f]), hs.cast (by first | rfl | simp only [List.take, List.drop, List.cons_append, List.nil_append, List.set_cons_zero, List.set_cons_succ, List.eraseIdx, u0_, u1_, u2_, u3_, u4_, u5_, u6_, u7_, u8_, u9_, p0_, p1_, p2_, p3_, p4_, p5_, p6_, p7_, p8_, cnd_t, cnd_f, Asc_t, Asc_f])⟩
    · intro D t w hall hI
      obtain ⟨v7, O, ht, hs⟩ := hI
      have p0_ := hall 0 (by decide)
      have p1_ := hall 1 (by decide)
      have p2_ := hall 2 (by decide)
      have p3_ := hall 3 (by decide)
      have p4_ := hall 4 (by decide)
      have p5_ := hall 5 (by decide)
      have p6_ := hall 6 (by decide)
      have p7_ := hall 7 (by decide)
      have p8_ := hall 8 (by decide)
      have p9_ := hall 9 (by decide)
      simp only [p0_, p1_, p2_, p3_, p4_, p5_, p6_, p7_, p8_, p9_, cnd_t, cnd_f, Asc_t, Asc_f] at ht hs
      subst ht
      refine g_seq ?_
      refine g_region ?_
      show G _ _ _ (.inRegion _ [0, 1, 2] :: _) _ _
      refine g_op (v := v2) rfl rfl rfl ?_
      show G _ _ _ _ [_, _, _, _, _, _, _, _, _, _, _, _, _, _, _, _, _, _, _, _, _, _, _, _, _, _, _, _, _, _, _, _, _, _, _, _, _, _, _, _, _, _, _] _
      obtain ⟨r12, Hr12, H⟩ := bind_get H
      refine s_call (args := [v2]) rfl rfl (x_call rfl (callFunc_enter Try.func14 rfl rfl) rfl) (laws_toGlasses.calls (a1 := a1) (hs.rd hr0) Hr12) ?_
      intro v13 w hs2
      have hs : St _ [_, _, _] _ := hs.call hs2
      show G _ _ _ _ [_, _, _, _, _, _, _, _, _, _, _, _, _, _, _, _, _, _, _, _, _, _, _, _, _, _, _, _, _, _, _, _, _, _, _, _, _, _, _, _, _, _, _] _
      refine g_op (v := v13) rfl rfl rfl ?_
      show G _ _ _ _ [_, _, _, _, _, _, _, _, _, _, _, _, _, _, _, _, _, _, _, _, _, _, _, _, _, _, _, _, _, _, _, _, _, _, _, _, _, _, _, _, _, _, _] _
      refine g_ops_nil ?_
      refine g_seq ?_
      refine g_region ?_
      show G _ _ _ (.inRegion _ [0, 1, 2, 3, 4, 5, 6, 7, 8] :: _) _ _
      refine g_op (v := v13) rfl rfl rfl ?_
      show G _ _ _ _ [_, _, _, _, _, _, _, _, _, _, _, _, _, _, _, _, _, _, _, _, _, _, _, _, _, _, _, _, _, _, _, _, _, _, _, _, _, _, _, _, _, _, _] _
      refine s_loadA rfl rfl (es := ((encA (encI .i16)) a3)) rfl rfl (fun _ => rfl) (n := 4) (fun _ => rfl) ((fkA (n := 4) (he := (fkI .i16).len) (h1 := (fkI .i16).one)).len _) (cells_all (hs.cells 2 rfl)) ?_
      show G _ _ _ _ [_, _, _, _, _, _, _, _, _, _, _, _, _, _, _, _, _, _, _, _, _, _, _, _, _, _, _, _, _, _, _, _, _, _, _, _, _, _, _, _, _, _, _] _
      obtain ⟨r15, Hr15, H⟩ := bind_get H
      refine s_call (args := [Value.agg ((encA (encI .i16)) a3).toArray]) rfl rfl (x_call rfl (callFunc_enter Try.func22 rfl rfl) rfl) (laws_toTops.calls (a1 := a3) Hr15) ?_
      rintro _ w ⟨rfl, hs2⟩
      have hs : St _ [_, _, _] _ := hs.call hs2
      show G _ _ _ _ [_, _, _, _, _, _, _, _, _, _, _, _, _, _, _, _, _, _, _, _, _, _, _, _, _, _, _, _, _, _, _, _, _, _, _, _, _, _, _, _, _, _, _] _
      obtain ⟨r16, Hr16, H⟩ := bind_get H
      refine s_call (args := [v13, Value.agg ((encA (encI .i16)) r15).toArray]) rfl rfl (x_call rfl (callFunc_enter Try.func27 rfl rfl) rfl) (impl_StepOfGlasses.calls (a1 := r12) (a3 := r15) (hs.row 0 rfl) Hr16) ?_
      rintro _ w ⟨rfl, hs2⟩
      have hs : St _ [_, _, _] _ := hs.call hs2
      show G _ _ _ _ [_, _, _, _, _, _, _, _, _, _, _, _, _, _, _, _, _, _, _, _, _, _, _, _, _, _, _, _, _, _, _, _, _, _, _, _, _, _, _, _, _, _, _] _
      refine g_op (v := Value.tuple #[Value.int .i64 r16.1, Value.int .i64 r16.2]) rfl rfl rfl ?_
      show G _ _ _ _ [_, _, _, _, _, _, _, _, _, _, _, _, _, _, _, _, _, _, _, _, _, _, _, _, _, _, _, _, _, _, _, _, _, _, _, _, _, _, _, _, _, _, _] _
      refine g_op (v := Value.int .i64 r16.1) rfl rfl rfl ?_
      show G _ _ _ _ [_, _, _, _, _, _, _, _, _, _, _, _, _, _, _, _, _, _, _, _, _, _, _, _, _, _, _, _, _, _, _, _, _, _, _, _, _, _, _, _, _, _, _] _
      refine g_op (v := Value.int .i64 r16.2) rfl rfl rfl ?_
      show G _ _ _ _ [_, _, _, _, _, _, _, _, _, _, _, _, _, _, _, _, _, _, _, _, _, _, _, _, _, _, _, _, _, _, _, _, _, _, _, _, _, _, _, _, _, _, _] _
      refine g_op (v := Value.int .i64 r16.1) rfl rfl rfl ?_
      show G _ _ _ _ [_, _, _, _, _, _, _, _, _, _, _, _, _, _, _, _, _, _, _, _, _, _, _, _, _, _, _, _, _, _, _, _, _, _, _, _, _, _, _, _, _, _, _] _
      refine g_op (v := Value.int .i64 r16.2) rfl rfl rfl ?_
      show G _ _ _ _ [_, _, _, _, _, _, _, _, _, _, _, _, _, _, _, _, _, _, _, _, _, _, _, _, _, _, _, _, _, _, _, _, _, _, _, _, _, _, _, _, _, _, _] _
      refine g_ops_nil ?_
      refine g_seq ?_
      refine g_seq ?_
      refine g_region ?_
      show G _ _ _ (.inRegion _ [0, 1, 2, 3, 4, 5, 6, 7] :: _) _ _
      refine g_op (v := Value.int .i64 r16.1) rfl rfl rfl ?_
      show G _ _ _ _ [_, _, _, _, _, _, _, _, _, _, _, _, _, _, _, _, _, _, _, _, _, _, _, _, _, _, _, _, _, _, _, _, _, _, _, _, _, _, _, _, _, _, _] _
      refine g_op (v := Value.int .i64 r10.1) rfl rfl rfl ?_
      show G _ _ _ _ [_, _, _, _, _, _, _, _, _, _, _, _, _, _, _, _, _, _, _, _, _, _, _, _, _, _, _, _, _, _, _, _, _, _, _, _, _, _, _, _, _, _, _] _
      refine g_op_b (B := r16.1 != r10.1) rfl rfl rfl ?_ ?_
      · intro hb
        rw [if_neg (b_bne_t hb)] at H
        show G _ _ _ _ [_, _, _, _, _, _, _, _, _, _, _, _, _, _, _, _, _, _, _, _, _, _, _, _, _, _, _, _, _, _, _, _, _, _, _, _, _, _, _, _, _, _, _] _
        refine g_op (v := Value.bool true) rfl rfl rfl ?_
        show G _ _ _ _ [_, _, _, _, _, _, _, _, _, _, _, _, _, _, _, _, _, _, _, _, _, _, _, _, _, _, _, _, _, _, _, _, _, _, _, _, _, _, _, _, _, _, _] _
        refine g_op_not rfl rfl ?_
        show G _ _ _ _ [_, _, _, _, _, _, _, _, _, _, _, _, _, _, _, _, _, _, _, _, _, _, _, _, _, _, _, _, _, _, _, _, _, _, _, _, _, _, _, _, _, _, _] _
        refine g_op_not rfl rfl ?_
        show G _ _ _ _ [_, _, _, _, _, _, _, _, _, _, _, _, _, _, _, _, _, _, _, _, _, _, _, _, _, _, _, _, _, _, _, _, _, _, _, _, _, _, _, _, _, _, _] _
        refine g_op_not rfl rfl ?_
        show G _ _ _ _ [_, _, _, _, _, _, _, _, _, _, _, _, _, _, _, _, _, _, _, _, _, _, _, _, _, _, _, _, _, _, _, _, _, _, _, _, _, _, _, _, _, _, _] _
        refine g_op (v := Value.bool true) rfl rfl rfl ?_
        show G _ _ _ _ [_, _, _, _, _, _, _, _, _, _, _, _, _, _, _, _, _, _, _, _, _, _, _, _, _, _, _, _, _, _, _, _, _, _, _, _, _, _, _, _, _, _, _] _
        refine g_ops_nil ?_
        refine g_cond_true rfl ?_
        refine g_seq ?_
        refine g_region ?_
        show G _ _ _ (.inRegion _ [0] :: _) _ _
        refine g_op (v := Value.bool false) rfl rfl rfl ?_
        show G _ _ _ _ [_, _, _, _, _, _, _, _, _, _, _, _, _, _, _, _, _, _, _, _, _, _, _, _, _, _, _, _, _, _, _, _, _, _, _, _, _, _, _, _, _, _, _] _
        refine g_ops_nil ?_
        obtain rfl := Option.some.inj H
        refine g_ret Try.func7 (v := Value.bool false) (res1 rfl rfl) ?_
        have hs : St _ [] _ := St.take (Γ' := [_, _, _]) hs
        exact ⟨_, rfl, rfl, hs⟩
      · intro hb
        rw [if_pos (b_bne_f hb)] at H
        show G _ _ _ _ [_, _, _, _, _, _, _, _, _, _, _, _, _, _, _, _, _, _, _, _, _, _, _, _, _, _, _, _, _, _, _, _, _, _, _, _, _, _, _, _, _, _, _] _
        refine g_op (v := Value.bool false) rfl rfl rfl ?_
        show G _ _ _ _ [_, _, _, _, _, _, _, _, _, _, _, _, _, _, _, _, _, _, _, _, _, _, _, _, _, _, _, _, _, _, _, _, _, _, _, _, _, _, _, _, _, _, _] _
        refine g_op (v := Value.int .i64 r16.2) rfl rfl rfl ?_
        show G _ _ _ _ [_, _, _, _, _, _, _, _, _, _, _, _, _, _, _, _, _, _, _, _, _, _, _, _, _, _, _, _, _, _, _, _, _, _, _, _, _, _, _, _, _, _, _] _
        refine g_op (v := Value.int .i64 r10.2) rfl rfl rfl ?_
        show G _ _ _ _ [_, _, _, _, _, _, _, _, _, _, _, _, _, _, _, _, _, _, _, _, _, _, _, _, _, _, _, _, _, _, _, _, _, _, _, _, _, _, _, _, _, _, _] _
        refine g_op_b (B := r16.2 != r10.2) rfl rfl rfl ?_ ?_
        · intro hb
          rw [if_neg (b_bne_t hb)] at H
          show G _ _ _ _ [_, _, _, _, _, _, _, _, _, _, _, _, _, _, _, _, _, _, _, _, _, _, _, _, _, _, _, _, _, _, _, _, _, _, _, _, _, _, _, _, _, _, _] _
          refine g_op (v := Value.bool true) rfl rfl rfl ?_
          show G _ _ _ _ [_, _, _, _, _, _, _, _, _, _, _, _, _, _, _, _, _, _, _, _, _, _, _, _, _, _, _, _, _, _, _, _, _, _, _, _, _, _, _, _, _, _, _] _
          refine g_ops_nil ?_
          refine g_cond_true rfl ?_
          refine g_seq ?_
          refine g_region ?_
          show G _ _ _ (.inRegion _ [0] :: _) _ _
          refine g_op (v := Value.bool false) rfl rfl rfl ?_
          show G _ _ _ _ [_, _, _, _, _, _, _, _, _, _, _, _, _, _, _, _, _, _, _, _, _, _, _, _, _, _, _, _, _, _, _, _, _, _, _, _, _, _, _, _, _, _, _] _
          refine g_ops_nil ?_
          obtain rfl := Option.some.inj H
          refine g_ret Try.func7 (v := Value.bool false) (res1 rfl rfl) ?_
          have hs : St _ [] _ := St.take (Γ' := [_, _, _]) hs
          exact ⟨_, rfl, rfl, hs⟩
        · intro hb
          rw [if_pos (b_bne_f hb)] at H
          show G _ _ _ _ [_, _, _, _, _, _, _, _, _, _, _, _, _, _, _, _, _, _, _, _, _, _, _, _, _, _, _, _, _, _, _, _, _, _, _, _, _, _, _, _, _, _, _] _
          refine g_op (v := Value.bool false) rfl rfl rfl ?_
          show G _ _ _ _ [_, _, _, _, _, _, _, _, _, _, _, _, _, _, _, _, _, _, _, _, _, _, _, _, _, _, _, _, _, _, _, _, _, _, _, _, _, _, _, _, _, _, _] _
          refine g_ops_nil ?_
          refine g_cond_false rfl ?_
          refine g_skip ?_
          refine g_seq ?_
          refine g_seq ?_
          refine g_region ?_
          show G _ _ _ (.inRegion _ [0, 1, 2, 3, 4] :: _) _ _
          refine g_op (v := v13) rfl rfl rfl ?_
          show G _ _ _ _ [_, _, _, _, _, _, _, _, _, _, _, _, _, _, _, _, _, _, _, _, _, _, _, _, _, _, _, _, _, _, _, _, _, _, _, _, _, _, _, _, _, _, _] _
          refine g_op (v := v2) rfl rfl rfl ?_
          show G _ _ _ _ [_, _, _, _, _, _, _, _, _, _, _, _, _, _, _, _, _, _, _, _, _, _, _, _, _, _, _, _, _, _, _, _, _, _, _, _, _, _, _, _, _, _, _] _
          obtain ⟨r17, Hr17, H⟩ := bind_get H
          refine s_call (args := [v2]) rfl rfl (x_call rfl (callFunc_enter Try.func14 rfl rfl) rfl) (laws_toGlasses.calls (a1 := a1) (hs.rd hr0) Hr17) ?_
          intro v18 w hs2
          have hs : St _ [_, _, _, _] _ := hs.call hs2
          show G _ _ _ _ [_, _, _, _, _, _, _, _, _, _, _, _, _, _, _, _, _, _, _, _, _, _, _, _, _, _, _, _, _, _, _, _, _, _, _, _, _, _, _, _, _, _, _] _
          obtain ⟨r20, Hr20, H⟩ := bind_get H
          refine s_call (args := [v13, v18]) rfl rfl (x_call rfl (callFunc_enter Try.func16 rfl rfl) rfl) (laws_eqGlasses.calls (a1 := r12) (a3 := r17) (hs.row 1 rfl) (hs.row 0 rfl) Hr20) ?_
          rintro _ w ⟨rfl, hs2⟩
          have hs : St _ [_, _, _, _] _ := hs.call hs2
          cases r20 with
          | true =>
            rw [if_pos rfl] at H
            show G _ _ _ _ [_, _, _, _, _, _, _, _, _, _, _, _, _, _, _, _, _, _, _, _, _, _, _, _, _, _, _, _, _, _, _, _, _, _, _, _, _, _, _, _, _, _, _] _
            refine g_op (v := Value.bool false) rfl rfl rfl ?_
            show G _ _ _ _ [_, _, _, _, _, _, _, _, _, _, _, _, _, _, _, _, _, _, _, _, _, _, _, _, _, _, _, _, _, _, _, _, _, _, _, _, _, _, _, _, _, _, _] _
            refine g_ops_nil ?_
            refine g_cond_false rfl ?_
            refine g_skip ?_
            refine g_seq ?_
            refine g_region ?_
            show G _ _ _ (.inRegion _ [0] :: _) _ _
            refine g_op (v := Value.bool true) rfl rfl rfl ?_
            show G _ _ _ _ [_, _, _, _, _, _, _, _, _, _, _, _, _, _, _, _, _, _, _, _, _, _, _, _, _, _, _, _, _, _, _, _, _, _, _, _, _, _, _, _, _, _, _] _
            refine g_ops_nil ?_
            obtain rfl := Option.some.inj H
            refine g_ret Try.func7 (v := Value.bool true) (res1 rfl rfl) ?_
            have hs : St _ [] _ := St.take (Γ' := [_, _, _, _]) hs
            exact ⟨_, rfl, rfl, hs⟩
          | false =>
            rw [if_neg Bool.false_ne_true] at H
            show G _ _ _ _ [_, _, _, _, _, _, _, _, _, _, _, _, _, _, _, _, _, _, _, _, _, _, _, _, _, _, _, _, _, _, _, _, _, _, _, _, _, _, _, _, _, _, _] _
            refine g_op (v := Value.bool true) rfl rfl rfl ?_
            show G _ _ _ _ [_, _, _, _, _, _, _, _, _, _, _, _, _, _, _, _, _, _, _, _, _, _, _, _, _, _, _, _, _, _, _, _, _, _, _, _, _, _, _, _, _, _, _] _
            refine g_ops_nil ?_
            refine g_cond_true rfl ?_
            refine g_seq ?_
            refine g_region ?_
            show G _ _ _ (.inRegion _ [0] :: _) _ _
            refine g_op (v := Value.bool false) rfl rfl rfl ?_
            show G _ _ _ _ [_, _, _, _, _, _, _, _, _, _, _, _, _, _, _, _, _, _, _, _, _, _, _, _, _, _, _, _, _, _, _, _, _, _, _, _, _, _, _, _, _, _, _] _
            refine g_ops_nil ?_
            obtain rfl := Option.some.inj H
            refine g_ret Try.func7 (v := Value.bool false) (res1 rfl rfl) ?_
            have hs : St _ [] _ := St.take (Γ' := [_, _, _, _]) hs
            exact ⟨_, rfl, rfl, hs⟩

/- function 59 spec_l07Sets -/
def spec_l07Sets.post (w0 : World) (r : Int) (v : Value) (w : World) : Prop := v = Value.int .i64 r ∧ St w0 [] w
set_option maxHeartbeats 400000 in
set_option maxRecDepth 100000 in
theorem spec_l07Sets.calls {N : Nat} {a1 : (List Int)} {v2 : Value} {w0 : World} {r : Int} (hr0 : RdRow (K.int .i16) w0 v2 a1) (H : spec_l07Sets.f N a1 = some r) :
    Calls Try.prog 59 #[v2] w0 fun e w => ∃ v, e = .returned v ∧ spec_l07Sets.post w0 r v w := by
  unfold spec_l07Sets.f at H
  have hs : St w0 [] w0 := St.refl w0
  refine calls_of_g (n := 6) Try.func59 rfl rfl ?_
  show G _ _ _ _ [_, _, _, _, _, _, _] _
  refine g_seq ?_
  refine g_region ?_
  show G _ _ _ (.inRegion _ [0] :: _) _ _
  refine g_op (v := Value.int .i64 0) rfl rfl rfl ?_
  show G _ _ _ _ [_, _, _, _, _, _, _] _
  refine g_ops_nil ?_
  refine g_seq ?_
  refine g_region ?_
  show G _ _ _ (.inRegion _ [0, 1, 2, 3, 4] :: _) _ _
  refine g_op (v := v2) rfl rfl rfl ?_
  show G _ _ _ _ [_, _, _, _, _, _, _] _
  refine s_len (hs.rd hr0) rfl rfl rfl rfl rfl ?_
  show G _ _ _ _ [_, _, _, _, _, _, _] _
  refine g_op (v := Value.int .u64 (u64w (a1.length : Int))) rfl rfl rfl ?_
  show G _ _ _ _ [_, _, _, _, _, _, _] _
  obtain ⟨g1, H⟩ := ite_get H
  refine g_op (v := Value.int .i64 (shlI .i64 1 (u64w (a1.length : Int)))) rfl rfl (x_shl rfl rfl rfl g1) ?_
  show G _ _ _ _ [_, _, _, _, _, _, _] _
  refine g_op (v := Value.int .i64 (shlI .i64 1 (u64w (a1.length : Int)))) rfl rfl rfl ?_
  show G _ _ _ _ [_, _, _, _, _, _, _] _
  refine g_ops_nil ?_
  obtain rfl := Option.some.inj H
  refine g_ret Try.func59 (v := Value.int .i64 (shlI .i64 1 (u64w (a1.length : Int)))) (res1 rfl rfl) ?_
  have hs : St _ [] _ := St.take (Γ' := []) hs
  exact ⟨_, rfl, rfl, hs⟩

end Go.Proofs.YtgachgjcnmeicaaX
