/- Contracts, printed by gen.py. -/
import Derived.Test.YtgachgjcnmeicaaXC5
namespace Go.Proofs.YtgachgjcnmeicaaX
open Go Go.RowKit Go.Proofs
set_option linter.unusedVariables false
set_option linter.unusedSimpArgs false
/- function 58 impl_divisor -/
def impl_divisor.post (w0 : World) (r : Int) (v : Value) (w : World) : Prop := v = Value.int .i64 r ∧ St w0 [] w
set_option maxHeartbeats 400000 in
set_option maxRecDepth 100000 in
theorem impl_divisor.calls {N : Nat} {a1 : Int} {a2 : Int} {w0 : World} {r : Int} (H : impl_divisor.f N a1 a2 = some r) :
    Calls Try.prog 58 #[Value.int .i64 a1, Value.int .i64 a2] w0 fun e w => ∃ v, e = .returned v ∧ impl_divisor.post w0 r v w := by
  unfold impl_divisor.f at H
  have hs : St w0 [] w0 := St.refl w0
  refine calls_of_g (n := 10) Try.func58 rfl rfl ?_
  show G _ _ _ _ [_, _, _, _, _, _, _, _, _, _, _, _] _
  refine g_seq ?_
  refine g_region ?_
  show G _ _ _ (.inRegion _ [0] :: _) _ _
  refine g_op (v := Value.int .i64 0) rfl rfl rfl ?_
  show G _ _ _ _ [_, _, _, _, _, _, _, _, _, _, _, _] _
  refine g_ops_nil ?_
  refine g_seq ?_
  obtain ⟨o1_, Ho, Hr1_⟩ := bind_get H
  refine g_block_join (J := fun t w => ∃ x5 : Int, impl_divisor.a0 N x5 = some r ∧ Fr t (fun O => ([Value.int .i64 x5, O 1, O 2, O 3, O 4, O 5, O 6, O 7, O 8, O 9, O 10, O 11] : List Value)) ∧ St w0 [] w) ?_ ?_
  · rintro t w ⟨x5, H, hf, hs⟩
    obtain ⟨O, rfl⟩ := hf.open
    show G _ _ _ _ [_, _, _, _, _, _, _, _, _, _, _, _] _
    unfold impl_divisor.a0 at H
    refine g_seq ?_
    refine g_region ?_
    show G _ _ _ (.inRegion _ [0, 1] :: _) _ _
    refine g_op (v := Value.int .i64 x5) rfl rfl rfl ?_
    show G _ _ _ _ [_, _, _, _, _, _, _, _, _, _, _, _] _
    refine g_op (v := Value.int .i64 x5) rfl rfl rfl ?_
    show G _ _ _ _ [_, _, _, _, _, _, _, _, _, _, _, _] _
    refine g_ops_nil ?_
    obtain rfl := Option.some.inj H
    refine g_ret Try.func58 (v := Value.int .i64 x5) (res1 rfl rfl) ?_
    have hs : St _ [] _ := St.take (Γ' := []) hs
    exact ⟨_, rfl, rfl, hs⟩
  · intro ha1_
    have hs : St _ [] _ := St.take (Γ' := []) hs
    refine g_loop_fuel (I := fun n_ t w => ∃ x3 : Int, ∃ x4 : Int, rounds (fun s => impl_divisor.b0 N s.1 s.2) n_ (x3, x4) = some o1_ ∧ Fr t (fun O => ([Value.int .i64 x3, Value.int .i64 x4, O 2, O 3, O 4, O 5, O 6, O 7, O 8, O 9, O 10, O 11] : List Value)) ∧ St w0 [] w) N ⟨a1, a2, Ho, rfl, hs⟩ ?_ ?_
    · rintro _ _ ⟨x3, x4, h, _⟩
      exact rounds_zero h
    · intro n_ ih1_
      rintro t w ⟨x3, x4, Ho, hf, hs⟩
      obtain ⟨O, rfl⟩ := hf.open
      show G _ _ _ _ [_, _, _, _, _, _, _, _, _, _, _, _] _
      obtain ⟨x2_, H, Hx1_⟩ := rounds_succ Ho
      have H : impl_divisor.b0 N x3 x4 = some x2_ := H
      unfold impl_divisor.b0 at H
      refine g_seq ?_
      refine g_seq ?_
      refine g_region ?_
      show G _ _ _ (.inRegion _ [0, 1] :: _) _ _
      refine g_op (v := Value.int .i64 x4) rfl rfl rfl ?_
      show G _ _ _ _ [_, _, _, _, _, _, _, _, _, _, _, _] _
      refine g_op_b (B := x4 != 0) rfl rfl rfl ?_ ?_
      · intro hb
        rw [if_neg (b_bne_t hb)] at H
        show G _ _ _ _ [_, _, _, _, _, _, _, _, _, _, _, _] _
        refine g_ops_nil ?_
        refine g_cond_true rfl ?_
        refine g_skip ?_
        refine g_block ?_
        obtain ⟨gd1, H⟩ := ite_get H
        refine g_name ?_
        intro T hT
        refine g_any (n := 6) rfl [0, 1, 2, 3, 4, 5] [0, 1, 2, 3, 4, 5] rfl rfl (Inv := fun D t w => ∃ O : Nat → Value, t = [cnd (D 4) (Value.int .i64 x4) (Value.int .i64 x3), cnd (D 5) (Value.int .i64 (x3.tmod x4)) (Value.int .i64 x4), O 2, O 3, O 4, Value.int .i64 x4, Value.bool true, cnd (D 0) (Value.int .i64 x4) (O 7), cnd (D 1) (Value.int .i64 x3) (O 8), cnd (D 2) (Value.int .i64 x4) (O 9), cnd (D 3) (Value.int .i64 (x3.tmod x4)) (O 10), O 11] ∧ St w0 [] w) ?_ ⟨⟨⟨⟨⟨⟨trivial, ?_⟩, ?_⟩, ?_⟩, ?_⟩, ?_⟩, ?_⟩ ?_
        · intro w hh hbw
          have hs := hs.samew hh hbw
          exact ⟨fun i => T.getD i undef, (by subst hT; rfl), hs⟩
        · intro D t w hD hp hcl hI rest hk
          obtain ⟨O, ht, hs⟩ := hI
          have q4_ : D 4 = false := not_yet (hcl.get 4 (by decide)) 0 0 rfl hD
          have q5_ : D 5 = false := not_yet (hcl.get 5 (by decide)) 1 4 rfl q4_
          have u0_ : upd D 0 0 = true := rfl
          have u1_ : upd D 0 1 = D 1 := rfl
          have u2_ : upd D 0 2 = D 2 := rfl
          have u3_ : upd D 0 3 = D 3 := rfl
          have u4_ : upd D 0 4 = D 4 := rfl
          have u5_ : upd D 0 5 = D 5 := rfl
          simp only [hD, q4_, q5_, cnd_t, cnd_f, Asc_t, Asc_f] at ht hs
          subst ht
          refine g_op (v := Value.int .i64 x4) rfl rfl rfl ?_
          show G _ _ _ _ [_, _, _, _, _, _, _, _, _, _, _, _] _
          exact hk _ _ ⟨O, (by simp only [u0_, u1_, u2_, u3_, u4_, u5_, q4_, q5_, cnd_t, cnd_f, Asc_t, Asc_f]), hs.cast (by first | rfl | simp only [List.take, List.drop, List.cons_append, List.nil_append, List.set_cons_zero, List.set_cons_succ, List.eraseIdx, u0_, u1_, u2_, u3_, u4_, u5_, q4_, q5_, cnd_t, cnd_f, Asc_t, Asc_f])⟩
        · intro D t w hD hp hcl hI rest hk
          obtain ⟨O, ht, hs⟩ := hI
          have q3_ : D 3 = false := not_yet (hcl.get 3 (by decide)) 0 1 rfl hD
          have q4_ : D 4 = false := not_yet (hcl.get 4 (by decide)) 2 1 rfl hD
          have q5_ : D 5 = false := not_yet (hcl.get 5 (by decide)) 0 3 rfl q3_
          have u0_ : upd D 1 0 = D 0 := rfl
          have u1_ : upd D 1 1 = true := rfl
          have u2_ : upd D 1 2 = D 2 := rfl
          have u3_ : upd D 1 3 = D 3 := rfl
          have u4_ : upd D 1 4 = D 4 := rfl
          have u5_ : upd D 1 5 = D 5 := rfl
          simp only [hD, q3_, q4_, q5_, cnd_t, cnd_f, Asc_t, Asc_f] at ht hs
          subst ht
          refine g_op (v := Value.int .i64 x3) rfl rfl rfl ?_
          show G _ _ _ _ [_, _, _, _, _, _, _, _, _, _, _, _] _
          exact hk _ _ ⟨O, (by simp only [u0_, u1_, u2_, u3_, u4_, u5_, q3_, q4_, q5_, cnd_t, cnd_f, Asc_t, Asc_f]), hs.cast (by first | rfl | simp only [List.take, List.drop, List.cons_append, List.nil_append, List.set_cons_zero, List.set_cons_succ, List.eraseIdx, u0_, u1_, u2_, u3_, u4_, u5_, q3_, q4_, q5_, cnd_t, cnd_f, Asc_t, Asc_f])⟩
        · intro D t w hD hp hcl hI rest hk
          obtain ⟨O, ht, hs⟩ := hI
          have q3_ : D 3 = false := not_yet (hcl.get 3 (by decide)) 1 2 rfl hD
          have q5_ : D 5 = false := not_yet (hcl.get 5 (by decide)) 0 3 rfl q3_
          have u0_ : upd D 2 0 = D 0 := rfl
          have u1_ : upd D 2 1 = D 1 := rfl
          have u2_ : upd D 2 2 = true := rfl
          have u3_ : upd D 2 3 = D 3 := rfl
          have u4_ : upd D 2 4 = D 4 := rfl
          have u5_ : upd D 2 5 = D 5 := rfl
          simp only [hD, q3_, q5_, cnd_t, cnd_f, Asc_t, Asc_f] at ht hs
          subst ht
          refine g_op (v := Value.int .i64 x4) rfl rfl rfl ?_
          show G _ _ _ _ [_, _, _, _, _, _, _, _, _, _, _, _] _
          exact hk _ _ ⟨O, (by simp only [u0_, u1_, u2_, u3_, u4_, u5_, q3_, q5_, cnd_t, cnd_f, Asc_t, Asc_f]), hs.cast (by first | rfl | simp only [List.take, List.drop, List.cons_append, List.nil_append, List.set_cons_zero, List.set_cons_succ, List.eraseIdx, u0_, u1_, u2_, u3_, u4_, u5_, q3_, q5_, cnd_t, cnd_f, Asc_t, Asc_f])⟩
        · intro D t w hD hp hcl hI rest hk
          obtain ⟨O, ht, hs⟩ := hI
          obtain ⟨p1_, p2_, _⟩ := hp
          have q5_ : D 5 = false := not_yet (hcl.get 5 (by decide)) 0 3 rfl hD
          have u0_ : upd D 3 0 = D 0 := rfl
          have u1_ : upd D 3 1 = D 1 := rfl
          have u2_ : upd D 3 2 = D 2 := rfl
          have u3_ : upd D 3 3 = true := rfl
          have u4_ : upd D 3 4 = D 4 := rfl
          have u5_ : upd D 3 5 = D 5 := rfl
          simp only [hD, p1_, p2_, q5_, cnd_t, cnd_f, Asc_t, Asc_f] at ht hs
          subst ht
          refine g_op (v := Value.int .i64 (x3.tmod x4)) rfl rfl (x_divrem rfl rfl rfl gd1) ?_
          show G _ _ _ _ [_, _, _, _, _, _, _, _, _, _, _, _] _
          exact hk _ _ ⟨O, (by simp only [u0_, u1_, u2_, u3_, u4_, u5_, p1_, p2_, q5_, cnd_t, cnd_f, Asc_t, Asc_f]), hs.cast (by first | rfl | simp only [List.take, List.drop, List.cons_append, List.nil_append, List.set_cons_zero, List.set_cons_succ, List.eraseIdx, u0_, u1_, u2_, u3_, u4_, u5_, p1_, p2_, q5_, cnd_t, cnd_f, Asc_t, Asc_f])⟩
        · intro D t w hD hp hcl hI rest hk
          obtain ⟨O, ht, hs⟩ := hI
          obtain ⟨p0_, _, p1_, _⟩ := hp
          have q5_ : D 5 = false := not_yet (hcl.get 5 (by decide)) 1 4 rfl hD
          have u0_ : upd D 4 0 = D 0 := rfl
          have u1_ : upd D 4 1 = D 1 := rfl
          have u2_ : upd D 4 2 = D 2 := rfl
          have u3_ : upd D 4 3 = D 3 := rfl
          have u4_ : upd D 4 4 = true := rfl
          have u5_ : upd D 4 5 = D 5 := rfl
          simp only [hD, p0_, p1_, q5_, cnd_t, cnd_f, Asc_t, Asc_f] at ht hs
          subst ht
          refine g_op (v := Value.int .i64 x4) rfl rfl rfl ?_
          show G _ _ _ _ [_, _, _, _, _, _, _, _, _, _, _, _] _
          exact hk _ _ ⟨O, (by simp only [u0_, u1_, u2_, u3_, u4_, u5_, p0_, p1_, q5_, cnd_t, cnd_f, Asc_t, Asc_f]), hs.cast (by first | rfl | simp only [List.take, List.drop, List.cons_append, List.nil_append, List.set_cons_zero, List.set_cons_succ, List.eraseIdx, u0_, u1_, u2_, u3_, u4_, u5_, p0_, p1_, q5_, cnd_t, cnd_f, Asc_t, Asc_f])⟩
        · intro D t w hD hp hcl hI rest hk
          obtain ⟨O, ht, hs⟩ := hI
          obtain ⟨p3_, p4_, p0_, p1_, p2_, _, _, _⟩ := hp
          have u0_ : upd D 5 0 = D 0 := rfl
          have u1_ : upd D 5 1 = D 1 := rfl
          have u2_ : upd D 5 2 = D 2 := rfl
          have u3_ : upd D 5 3 = D 3 := rfl
          have u4_ : upd D 5 4 = D 4 := rfl
          have u5_ : upd D 5 5 = true := rfl
          simp only [hD, p0_, p1_, p2_, p3_, p4_, cnd_t, cnd_f, Asc_t, Asc_f] at ht hs
          subst ht
          refine g_op (v := Value.int .i64 (x3.tmod x4)) rfl rfl rfl ?_
          show G _ _ _ _ [_, _, _, _, _, _, _, _, _, _, _, _] _
          exact hk _ _ ⟨O, (by simp only [u0_, u1_, u2_, u3_, u4_, u5_, p0_, p1_, p2_, p3_, p4_, cnd_t, cnd_f, Asc_t, Asc_f]), hs.cast (by first | rfl | simp only [List.take, List.drop, List.cons_append, List.nil_append, List.set_cons_zero, List.set_cons_succ, List.eraseIdx, u0_, u1_, u2_, u3_, u4_, u5_, p0_, p1_, p2_, p3_, p4_, cnd_t, cnd_f, Asc_t, Asc_f])⟩
        · intro D t w hall hI
          obtain ⟨O, ht, hs⟩ := hI
          have p0_ := hall 0 (by decide)
          have p1_ := hall 1 (by decide)
          have p2_ := hall 2 (by decide)
          have p3_ := hall 3 (by decide)
          have p4_ := hall 4 (by decide)
          have p5_ := hall 5 (by decide)
          simp only [p0_, p1_, p2_, p3_, p4_, p5_, cnd_t, cnd_f, Asc_t, Asc_f] at ht hs
          subst ht
          refine g_inBlock ?_
          obtain rfl := Option.some.inj H
          have hs : St _ [] _ := St.take (Γ' := []) hs
          exact ih1_ _ _ ⟨x4, x3.tmod x4, Hx1_, rfl, hs⟩
      · intro hb
        rw [if_pos (b_bne_f hb)] at H
        show G _ _ _ _ [_, _, _, _, _, _, _, _, _, _, _, _] _
        refine g_ops_nil ?_
        refine g_cond_false rfl ?_
        obtain rfl := Option.some.inj H
        subst Hx1_
        have hs : St _ [] _ := St.take (Γ' := []) hs
        refine g_exit rfl ?_
        exact ha1_ _ _ ⟨x3, Hr1_, rfl, hs⟩

/- function 27 impl_StepOfGlasses -/
def impl_StepOfGlasses.post (w0 : World) (r : (Int × Int)) (v : Value) (w : World) : Prop := v = Value.tuple #[Value.int .i64 r.1, Value.int .i64 r.2] ∧ St w0 [] w
set_option maxHeartbeats 400000 in
set_option maxRecDepth 100000 in
theorem impl_StepOfGlasses.calls {N : Nat} {a1 : (List Int)} {a3 : (Ar Int 4)} {v2 : Value} {w0 : World} {r : (Int × Int)} (hr0 : RdRow (K.int .i16) w0 v2 a1) (H : impl_StepOfGlasses.f N a1 a3 = some r) :
    Calls Try.prog 27 #[v2, Value.agg ((encA (encI .i16)) a3).toArray] w0 fun e w => ∃ v, e = .returned v ∧ impl_StepOfGlasses.post w0 r v w := by
  unfold impl_StepOfGlasses.f at H
  have hs : St w0 [] w0 := St.refl w0
  refine calls_of_g (n := 29) Try.func27 rfl rfl ?_
  show G _ _ _ _ [_, _, _, _, _, _, _, _, _, _, _, _, _, _, _, _, _, _, _, _, _, _, _, _, _, _, _, _, _, _, _] _
  refine g_seq ?_
  refine g_region ?_
  show G _ _ _ (.inRegion _ [0, 1, 2] :: _) _ _
  refine s_box hs rfl rfl (cs := ((encA (encI .i16)) a3)) rfl rfl ?_
  intro b4 w hs
  show G _ _ _ _ [_, _, _, _, _, _, _, _, _, _, _, _, _, _, _, _, _, _, _, _, _, _, _, _, _, _, _, _, _, _, _] _
  refine g_op (v := Value.int .i64 0) rfl rfl rfl ?_
  show G _ _ _ _ [_, _, _, _, _, _, _, _, _, _, _, _, _, _, _, _, _, _, _, _, _, _, _, _, _, _, _, _, _, _, _] _
  refine g_op (v := Value.int .i64 0) rfl rfl rfl ?_
  show G _ _ _ _ [_, _, _, _, _, _, _, _, _, _, _, _, _, _, _, _, _, _, _, _, _, _, _, _, _, _, _, _, _, _, _] _
  refine g_ops_nil ?_
  refine g_seq ?_
  refine g_seq ?_
  refine g_region ?_
  show G _ _ _ (.inRegion _ [0, 1, 2, 3] :: _) _ _
  refine g_op (v := v2) rfl rfl rfl ?_
  show G _ _ _ _ [_, _, _, _, _, _, _, _, _, _, _, _, _, _, _, _, _, _, _, _, _, _, _, _, _, _, _, _, _, _, _] _
  refine s_loadA rfl rfl (es := ((encA (encI .i16)) a3)) rfl rfl (fun _ => rfl) (n := 4) (fun _ => rfl) ((fkA (n := 4) (he := (fkI .i16).len) (h1 := (fkI .i16).one)).len _) (cells_all (hs.cells 0 rfl)) ?_
  show G _ _ _ _ [_, _, _, _, _, _, _, _, _, _, _, _, _, _, _, _, _, _, _, _, _, _, _, _, _, _, _, _, _, _, _] _
  obtain ⟨r6, Hr6, H⟩ := bind_get H
  refine s_call (args := [v2, Value.agg ((encA (encI .i16)) a3).toArray]) rfl rfl (x_call rfl (callFunc_enter Try.func23 rfl rfl) rfl) (impl_ValidTops.calls (a1 := a1) (a3 := a3) (hs.rd hr0) Hr6) ?_
  rintro _ w ⟨rfl, hs2⟩
  have hs : St _ [_] _ := hs.call hs2
  cases r6 with
  | true =>
    rw [if_pos rfl] at H
    show G _ _ _ _ [_, _, _, _, _, _, _, _, _, _, _, _, _, _, _, _, _, _, _, _, _, _, _, _, _, _, _, _, _, _, _] _
    refine g_op (v := Value.bool false) rfl rfl rfl ?_
    show G _ _ _ _ [_, _, _, _, _, _, _, _, _, _, _, _, _, _, _, _, _, _, _, _, _, _, _, _, _, _, _, _, _, _, _] _
    refine g_ops_nil ?_
    refine g_cond_false rfl ?_
    refine g_skip ?_
    refine g_seq ?_
    refine g_region ?_
    show G _ _ _ (.inRegion _ [0] :: _) _ _
    refine g_op (v := Value.int .i64 0) rfl rfl rfl ?_
    show G _ _ _ _ [_, _, _, _, _, _, _, _, _, _, _, _, _, _, _, _, _, _, _, _, _, _, _, _, _, _, _, _, _, _, _] _
    refine g_ops_nil ?_
    refine g_seq ?_
    refine g_seq ?_
    refine g_region ?_
    show G _ _ _ (.inRegion _ [0, 1, 2] :: _) _ _
    refine g_op (v := v2) rfl rfl rfl ?_
    show G _ _ _ _ [_, _, _, _, _, _, _, _, _, _, _, _, _, _, _, _, _, _, _, _, _, _, _, _, _, _, _, _, _, _, _] _
    refine s_len (hs.rd hr0) rfl rfl rfl rfl rfl ?_
    show G _ _ _ _ [_, _, _, _, _, _, _, _, _, _, _, _, _, _, _, _, _, _, _, _, _, _, _, _, _, _, _, _, _, _, _] _
    refine g_op (v := Value.int .i64 0) rfl rfl rfl ?_
    show G _ _ _ _ [_, _, _, _, _, _, _, _, _, _, _, _, _, _, _, _, _, _, _, _, _, _, _, _, _, _, _, _, _, _, _] _
    refine g_ops_nil ?_
    obtain ⟨o1_, Ho, Hr1_⟩ := bind_get H
    refine g_block_join (J := fun t w => ∃ x12 : Int, impl_StepOfGlasses.a0 N x12 = some r ∧ Fr t (fun O => ([O 0, O 1, O 2, O 3, O 4, O 5, Value.int .i64 x12, O 7, O 8, O 9, O 10, O 11, O 12, O 13, O 14, O 15, O 16, O 17, O 18, O 19, O 20, O 21, O 22, O 23, O 24, O 25, O 26, O 27, O 28, O 29, O 30] : List Value)) ∧ St w0 [] w) ?_ ?_
    · rintro t w ⟨x12, H, hf, hs⟩
      obtain ⟨O, rfl⟩ := hf.open
      show G _ _ _ _ [_, _, _, _, _, _, _, _, _, _, _, _, _, _, _, _, _, _, _, _, _, _, _, _, _, _, _, _, _, _, _] _
      unfold impl_StepOfGlasses.a0 at H
      refine g_seq ?_
      refine g_region ?_
      show G _ _ _ (.inRegion _ [0, 1, 2] :: _) _ _
      refine g_op (v := Value.int .i64 x12) rfl rfl rfl ?_
      show G _ _ _ _ [_, _, _, _, _, _, _, _, _, _, _, _, _, _, _, _, _, _, _, _, _, _, _, _, _, _, _, _, _, _, _] _
      refine g_op (v := Value.int .i64 x12) rfl rfl rfl ?_
      show G _ _ _ _ [_, _, _, _, _, _, _, _, _, _, _, _, _, _, _, _, _, _, _, _, _, _, _, _, _, _, _, _, _, _, _] _
      refine g_op (v := Value.int .i64 0) rfl rfl rfl ?_
      show G _ _ _ _ [_, _, _, _, _, _, _, _, _, _, _, _, _, _, _, _, _, _, _, _, _, _, _, _, _, _, _, _, _, _, _] _
      refine g_ops_nil ?_
      obtain rfl := Option.some.inj H
      refine g_ret Try.func27 (v := Value.tuple #[Value.int .i64 x12, Value.int .i64 0]) (resN (l := Try.f27.results.toList) (vs := [Value.int .i64 x12, Value.int .i64 0]) rfl ⟨rfl, rfl, trivial⟩ (by simp)) ?_
      have hs : St _ [] _ := St.take (Γ' := []) hs
      exact ⟨_, rfl, rfl, hs⟩
    · intro ha1_
      have hs := hs.pull 0 rfl
      have hs : St _ [_] _ := St.take (Γ' := []) hs
      refine g_loop_fuel (I := fun n_ t w => ∃ x7 : Int, ∃ x8 : Int, rounds (fun s => impl_StepOfGlasses.b0 N a1 a3 s.1 s.2) n_ (x7, x8) = some o1_ ∧ Fr t (fun O => ([O 0, O 1, O 2, Value.pointer (some ⟨b4, 0, none⟩), O 4, O 5, Value.int .i64 x7, O 7, O 8, O 9, O 10, O 11, O 12, v2, Value.int .i64 (a1.length : Int), Value.int .i64 x8, O 16, O 17, O 18, O 19, O 20, O 21, O 22, O 23, O 24, O 25, O 26, O 27, O 28, O 29, O 30] : List Value)) ∧ St w0 [Cells b4 ((encA (encI .i16)) a3) 37] w) N ⟨0, 0, Ho, rfl, hs⟩ ?_ ?_
      · rintro _ _ ⟨x7, x8, h, _⟩
        exact rounds_zero h
      · intro n_ ih1_
        rintro t w ⟨x7, x8, Ho, hf, hs⟩
        obtain ⟨O, rfl⟩ := hf.open
        show G _ _ _ _ [_, _, _, _, _, _, _, _, _, _, _, _, _, _, _, _, _, _, _, _, _, _, _, _, _, _, _, _, _, _, _] _
        obtain ⟨x3_, H, Hx1_⟩ := rounds_succ Ho
        have H : impl_StepOfGlasses.b0 N a1 a3 x7 x8 = some x3_ := H
        unfold impl_StepOfGlasses.b0 at H
        refine g_seq ?_
        refine g_region ?_
        show G _ _ _ (.inRegion _ [0] :: _) _ _
        refine g_op_b (B := decide (x8 < (a1.length : Int))) rfl rfl rfl ?_ ?_
        · intro hb
          rw [if_pos (b_dec_t hb)] at H
          show G _ _ _ _ [_, _, _, _, _, _, _, _, _, _, _, _, _, _, _, _, _, _, _, _, _, _, _, _, _, _, _, _, _, _, _] _
          refine g_ops_nil ?_
          refine g_seq ?_
          refine g_cond_true rfl ?_
          refine g_skip ?_
          refine g_seq ?_
          refine g_block ?_
          refine g_seq ?_
          refine g_region ?_
          show G _ _ _ (.inRegion _ [0, 1, 2, 3, 4] :: _) _ _
          refine g_op (v := Value.int .i64 x8) rfl rfl rfl ?_
          show G _ _ _ _ [_, _, _, _, _, _, _, _, _, _, _, _, _, _, _, _, _, _, _, _, _, _, _, _, _, _, _, _, _, _, _] _
          obtain ⟨g1, H⟩ := ite_get H
          refine s_idx (fkI .i16) 0 (hs.rd hr0) rfl (fun _ => rfl) g1.1 g1.2 rfl rfl rfl rfl rfl ?_
          intro p9 hp9 lp9 op9
          show G _ _ _ _ [_, _, _, _, _, _, _, _, _, _, _, _, _, _, _, _, _, _, _, _, _, _, _, _, _, _, _, _, _, _, _] _
          refine s_load1 rfl rfl (v := Value.int .i16 (rdL a1 x8 0)) rfl rfl (fun _ => rfl) hp9 ?_
          show G _ _ _ _ [_, _, _, _, _, _, _, _, _, _, _, _, _, _, _, _, _, _, _, _, _, _, _, _, _, _, _, _, _, _, _] _
          refine g_op (v := Value.int .i64 x8) rfl rfl rfl ?_
          show G _ _ _ _ [_, _, _, _, _, _, _, _, _, _, _, _, _, _, _, _, _, _, _, _, _, _, _, _, _, _, _, _, _, _, _] _
          refine g_op (v := Value.int .i16 (rdL a1 x8 0)) rfl rfl rfl ?_
          show G _ _ _ _ [_, _, _, _, _, _, _, _, _, _, _, _, _, _, _, _, _, _, _, _, _, _, _, _, _, _, _, _, _, _, _] _
          refine g_ops_nil ?_
          obtain ⟨r10, Hr10, H⟩ := bind_get H
          obtain ⟨gd2, H⟩ := ite_get H
          obtain ⟨r11, Hr11, H⟩ := bind_get H
          refine g_name ?_
          intro T hT
          refine g_any (n := 10) rfl [0, 1, 2, 3, 4, 5, 6, 7, 8, 9] [0, 1, 2, 3, 4, 5, 6, 7, 8, 9] rfl rfl (Inv := fun D t w => ∃ O : Nat → Value, t = [O 0, O 1, O 2, Value.pointer (some ⟨b4, 0, none⟩), O 4, O 5, cnd (D 9) (Value.int .i64 r11) (Value.int .i64 x7), Value.int .i64 x8, Value.int .i16 (rdL a1 x8 0), O 9, O 10, O 11, O 12, v2, Value.int .i64 (a1.length : Int), Value.int .i64 x8, Value.bool true, Value.int .i64 x8, Value.pointer (some p9), Value.int .i16 (rdL a1 x8 0), cnd (D 0) (Value.int .i64 x7) (O 20), cnd (D 1) (Value.int .i16 (rdL a1 x8 0)) (O 21), cnd (D 2) (Value.int .i64 (i64w (rdL a1 x8 0))) (O 22), cnd (D 3) (Value.int .i64 r10) (O 23), cnd (D 4) (Value.int .i64 x8) (O 24), cnd (D 5) (Value.pointer (some ⟨b4, 0 + x8.toNat * 1, none⟩)) (O 25), cnd (D 6) (Value.int .i16 (a3.get x8 0)) (O 26), cnd (D 7) (Value.int .i64 (i64w (a3.get x8 0))) (O 27), cnd (D 8) (Value.int .i64 r11) (O 28), O 29, O 30] ∧ St w0 [Cells b4 ((encA (encI .i16)) a3) 37] w) ?_ ⟨⟨⟨⟨⟨⟨⟨⟨⟨⟨trivial, ?_⟩, ?_⟩, ?_⟩, ?_⟩, ?_⟩, ?_⟩, ?_⟩, ?_⟩, ?_⟩, ?_⟩ ?_
          · intro w hh hbw
            have hs := hs.samew hh hbw
            exact ⟨fun i => T.getD i undef, (by subst hT; rfl), hs⟩
          · intro D t w hD hp hcl hI rest hk
            obtain ⟨O, ht, hs⟩ := hI
            have q3_ : D 3 = false := not_yet (hcl.get 3 (by decide)) 0 0 rfl hD
            have q8_ : D 8 = false := not_yet (hcl.get 8 (by decide)) 0 3 rfl q3_
            have q9_ : D 9 = false := not_yet (hcl.get 9 (by decide)) 0 8 rfl q8_
            have u0_ : upd D 0 0 = true := rfl
            have u1_ : upd D 0 1 = D 1 := rfl
            have u2_ : upd D 0 2 = D 2 := rfl
            have u3_ : upd D 0 3 = D 3 := rfl
            have u4_ : upd D 0 4 = D 4 := rfl
            have u5_ : upd D 0 5 = D 5 := rfl
            have u6_ : upd D 0 6 = D 6 := rfl
            have u7_ : upd D 0 7 = D 7 := rfl
            have u8_ : upd D 0 8 = D 8 := rfl
            have u9_ : upd D 0 9 = D 9 := rfl
            simp only [hD, q3_, q8_, q9_, cnd_t, cnd_f, Asc_t, Asc_f] at ht hs
            subst ht
            refine g_op (v := Value.int .i64 x7) rfl rfl rfl ?_
            show G _ _ _ _ [_, _, _, _, _, _, _, _, _, _, _, _, _, _, _, _, _, _, _, _, _, _, _, _, _, _, _, _, _, _, _] _
            exact hk _ _ ⟨O, (by simp only [u0_, u1_, u2_, u3_, u4_, u5_, u6_, u7_, u8_, u9_, q3_, q8_, q9_, cnd_t, cnd_f, Asc_t, Asc_f]), hs.cast (by first | rfl | simp only [List.take, List.drop, List.cons_append, List.nil_append, List.set_cons_zero, List.set_cons_succ, List.eraseIdx, u0_, u1_, u2_, u3_, u4_, u5_, u6_, u7_, u8_, u9_, q3_, q8_, q9_, cnd_t, cnd_f, Asc_t, Asc_f])⟩
          · intro D t w hD hp hcl hI rest hk
            obtain ⟨O, ht, hs⟩ := hI
            have q2_ : D 2 = false := not_yet (hcl.get 2 (by decide)) 0 1 rfl hD
            have q3_ : D 3 = false := not_yet (hcl.get 3 (by decide)) 1 2 rfl q2_
            have q8_ : D 8 = false := not_yet (hcl.get 8 (by decide)) 0 3 rfl q3_
            have q9_ : D 9 = false := not_yet (hcl.get 9 (by decide)) 0 8 rfl q8_
            have u0_ : upd D 1 0 = D 0 := rfl
            have u1_ : upd D 1 1 = true := rfl
            have u2_ : upd D 1 2 = D 2 := rfl
            have u3_ : upd D 1 3 = D 3 := rfl
            have u4_ : upd D 1 4 = D 4 := rfl
            have u5_ : upd D 1 5 = D 5 := rfl
            have u6_ : upd D 1 6 = D 6 := rfl
            have u7_ : upd D 1 7 = D 7 := rfl
            have u8_ : upd D 1 8 = D 8 := rfl
            have u9_ : upd D 1 9 = D 9 := rfl
            simp only [hD, q2_, q3_, q8_, q9_, cnd_t, cnd_f, Asc_t, Asc_f] at ht hs
            subst ht
            refine g_op (v := Value.int .i16 (rdL a1 x8 0)) rfl rfl rfl ?_
            show G _ _ _ _ [_, _, _, _, _, _, _, _, _, _, _, _, _, _, _, _, _, _, _, _, _, _, _, _, _, _, _, _, _, _, _] _
            exact hk _ _ ⟨O, (by simp only [u0_, u1_, u2_, u3_, u4_, u5_, u6_, u7_, u8_, u9_, q2_, q3_, q8_, q9_, cnd_t, cnd_f, Asc_t, Asc_f]), hs.cast (by first | rfl | simp only [List.take, List.drop, List.cons_append, List.nil_append, List.set_cons_zero, List.set_cons_succ, List.eraseIdx, u0_, u1_, u2_, u3_, u4_, u5_, u6_, u7_, u8_, u9_, q2_, q3_, q8_, q9_, cnd_t, cnd_f, Asc_t, Asc_f])⟩
          · intro D t w hD hp hcl hI rest hk
            obtain ⟨O, ht, hs⟩ := hI
            obtain ⟨p1_, _⟩ := hp
            have q3_ : D 3 = false := not_yet (hcl.get 3 (by decide)) 1 2 rfl hD
            have q8_ : D 8 = false := not_yet (hcl.get 8 (by decide)) 0 3 rfl q3_
            have q9_ : D 9 = false := not_yet (hcl.get 9 (by decide)) 0 8 rfl q8_
            have u0_ : upd D 2 0 = D 0 := rfl
            have u1_ : upd D 2 1 = D 1 := rfl
            have u2_ : upd D 2 2 = true := rfl
            have u3_ : upd D 2 3 = D 3 := rfl
            have u4_ : upd D 2 4 = D 4 := rfl
            have u5_ : upd D 2 5 = D 5 := rfl
            have u6_ : upd D 2 6 = D 6 := rfl
            have u7_ : upd D 2 7 = D 7 := rfl
            have u8_ : upd D 2 8 = D 8 := rfl
            have u9_ : upd D 2 9 = D 9 := rfl
            simp only [hD, p1_, q3_, q8_, q9_, cnd_t, cnd_f, Asc_t, Asc_f] at ht hs
            subst ht
            refine g_op (v := Value.int .i64 (i64w (rdL a1 x8 0))) rfl rfl rfl ?_
            show G _ _ _ _ [_, _, _, _, _, _, _, _, _, _, _, _, _, _, _, _, _, _, _, _, _, _, _, _, _, _, _, _, _, _, _] _
            exact hk _ _ ⟨O, (by simp only [u0_, u1_, u2_, u3_, u4_, u5_, u6_, u7_, u8_, u9_, p1_, q3_, q8_, q9_, cnd_t, cnd_f, Asc_t, Asc_f]), hs.cast (by first | rfl | simp only [List.take, List.drop, List.cons_append, List.nil_append, List.set_cons_zero, List.set_cons_succ, List.eraseIdx, u0_, u1_, u2_, u3_, u4_, u5_, u6_, u7_, u8_, u9_, p1_, q3_, q8_, q9_, cnd_t, cnd_f, Asc_t, Asc_f])⟩
          · intro D t w hD hp hcl hI rest hk
            obtain ⟨O, ht, hs⟩ := hI
            obtain ⟨p0_, p2_, _⟩ := hp
            obtain ⟨p1_, _⟩ := hcl.get 2 (by decide) p2_
            have q8_ : D 8 = false := not_yet (hcl.get 8 (by decide)) 0 3 rfl hD
            have q9_ : D 9 = false := not_yet (hcl.get 9 (by decide)) 0 8 rfl q8_
            have u0_ : upd D 3 0 = D 0 := rfl
            have u1_ : upd D 3 1 = D 1 := rfl
            have u2_ : upd D 3 2 = D 2 := rfl
            have u3_ : upd D 3 3 = true := rfl
            have u4_ : upd D 3 4 = D 4 := rfl
            have u5_ : upd D 3 5 = D 5 := rfl
            have u6_ : upd D 3 6 = D 6 := rfl
            have u7_ : upd D 3 7 = D 7 := rfl
            have u8_ : upd D 3 8 = D 8 := rfl
            have u9_ : upd D 3 9 = D 9 := rfl
            simp only [hD, p0_, p1_, p2_, q8_, q9_, cnd_t, cnd_f, Asc_t, Asc_f] at ht hs
            subst ht
            refine s_call (args := [Value.int .i64 x7, Value.int .i64 (i64w (rdL a1 x8 0))]) rfl rfl (x_call rfl (callFunc_enter Try.func58 rfl rfl) rfl) (impl_divisor.calls (a1 := x7) (a2 := i64w (rdL a1 x8 0)) Hr10) ?_
            rintro _ w ⟨rfl, hs2⟩
            have hs : St _ [_] _ := hs.call hs2
            show G _ _ _ _ [_, _, _, _, _, _, _, _, _, _, _, _, _, _, _, _, _, _, _, _, _, _, _, _, _, _, _, _, _, _, _] _
            exact hk _ _ ⟨O, (by simp only [u0_, u1_, u2_, u3_, u4_, u5_, u6_, u7_, u8_, u9_, p0_, p1_, p2_, q8_, q9_, cnd_t, cnd_f, Asc_t, Asc_f]), hs.cast (by first | rfl | simp only [List.take, List.drop, List.cons_append, List.nil_append, List.set_cons_zero, List.set_cons_succ, List.eraseIdx, u0_, u1_, u2_, u3_, u4_, u5_, u6_, u7_, u8_, u9_, p0_, p1_, p2_, q8_, q9_, cnd_t, cnd_f, Asc_t, Asc_f])⟩
          · intro D t w hD hp hcl hI rest hk
            obtain ⟨O, ht, hs⟩ := hI
            have q5_ : D 5 = false := not_yet (hcl.get 5 (by decide)) 0 4 rfl hD
            have q6_ : D 6 = false := not_yet (hcl.get 6 (by decide)) 0 5 rfl q5_
            have q7_ : D 7 = false := not_yet (hcl.get 7 (by decide)) 0 6 rfl q6_
            have q8_ : D 8 = false := not_yet (hcl.get 8 (by decide)) 1 7 rfl q7_
            have q9_ : D 9 = false := not_yet (hcl.get 9 (by decide)) 0 8 rfl q8_
            have u0_ : upd D 4 0 = D 0 := rfl
            have u1_ : upd D 4 1 = D 1 := rfl
            have u2_ : upd D 4 2 = D 2 := rfl
            have u3_ : upd D 4 3 = D 3 := rfl
            have u4_ : upd D 4 4 = true := rfl
            have u5_ : upd D 4 5 = D 5 := rfl
            have u6_ : upd D 4 6 = D 6 := rfl
            have u7_ : upd D 4 7 = D 7 := rfl
            have u8_ : upd D 4 8 = D 8 := rfl
            have u9_ : upd D 4 9 = D 9 := rfl
            simp only [hD, q5_, q6_, q7_, q8_, q9_, cnd_t, cnd_f, Asc_t, Asc_f] at ht hs
            subst ht
            refine g_op (v := Value.int .i64 x8) rfl rfl rfl ?_
            show G _ _ _ _ [_, _, _, _, _, _, _, _, _, _, _, _, _, _, _, _, _, _, _, _, _, _, _, _, _, _, _, _, _, _, _] _
            exact hk _ _ ⟨O, (by simp only [u0_, u1_, u2_, u3_, u4_, u5_, u6_, u7_, u8_, u9_, q5_, q6_, q7_, q8_, q9_, cnd_t, cnd_f, Asc_t, Asc_f]), hs.cast (by first | rfl | simp only [List.take, List.drop, List.cons_append, List.nil_append, List.set_cons_zero, List.set_cons_succ, List.eraseIdx, u0_, u1_, u2_, u3_, u4_, u5_, u6_, u7_, u8_, u9_, q5_, q6_, q7_, q8_, q9_, cnd_t, cnd_f, Asc_t, Asc_f])⟩
          · intro D t w hD hp hcl hI rest hk
            obtain ⟨O, ht, hs⟩ := hI
            obtain ⟨p4_, _⟩ := hp
            have q6_ : D 6 = false := not_yet (hcl.get 6 (by decide)) 0 5 rfl hD
            have q7_ : D 7 = false := not_yet (hcl.get 7 (by decide)) 0 6 rfl q6_
            have q8_ : D 8 = false := not_yet (hcl.get 8 (by decide)) 1 7 rfl q7_
            have q9_ : D 9 = false := not_yet (hcl.get 9 (by decide)) 0 8 rfl q8_
            have u0_ : upd D 5 0 = D 0 := rfl
            have u1_ : upd D 5 1 = D 1 := rfl
            have u2_ : upd D 5 2 = D 2 := rfl
            have u3_ : upd D 5 3 = D 3 := rfl
            have u4_ : upd D 5 4 = D 4 := rfl
            have u5_ : upd D 5 5 = true := rfl
            have u6_ : upd D 5 6 = D 6 := rfl
            have u7_ : upd D 5 7 = D 7 := rfl
            have u8_ : upd D 5 8 = D 8 := rfl
            have u9_ : upd D 5 9 = D 9 := rfl
            simp only [hD, p4_, q6_, q7_, q8_, q9_, cnd_t, cnd_f, Asc_t, Asc_f] at ht hs
            subst ht
            refine s_idxA (n := x8) (m := 1) rfl (fun _ => rfl) gd2.1 gd2.2 rfl rfl rfl rfl rfl ?_
            show G _ _ _ _ [_, _, _, _, _, _, _, _, _, _, _, _, _, _, _, _, _, _, _, _, _, _, _, _, _, _, _, _, _, _, _] _
            exact hk _ _ ⟨O, (by simp only [u0_, u1_, u2_, u3_, u4_, u5_, u6_, u7_, u8_, u9_, p4_, q6_, q7_, q8_, q9_, cnd_t, cnd_f, Asc_t, Asc_f]), hs.cast (by first | rfl | simp only [List.take, List.drop, List.cons_append, List.nil_append, List.set_cons_zero, List.set_cons_succ, List.eraseIdx, u0_, u1_, u2_, u3_, u4_, u5_, u6_, u7_, u8_, u9_, p4_, q6_, q7_, q8_, q9_, cnd_t, cnd_f, Asc_t, Asc_f])⟩
          · intro D t w hD hp hcl hI rest hk
            obtain ⟨O, ht, hs⟩ := hI
            obtain ⟨p5_, _⟩ := hp
            obtain ⟨p4_, _⟩ := hcl.get 5 (by decide) p5_
            have q7_ : D 7 = false := not_yet (hcl.get 7 (by decide)) 0 6 rfl hD
            have q8_ : D 8 = false := not_yet (hcl.get 8 (by decide)) 1 7 rfl q7_
            have q9_ : D 9 = false := not_yet (hcl.get 9 (by decide)) 0 8 rfl q8_
            have u0_ : upd D 6 0 = D 0 := rfl
            have u1_ : upd D 6 1 = D 1 := rfl
            have u2_ : upd D 6 2 = D 2 := rfl
            have u3_ : upd D 6 3 = D 3 := rfl
            have u4_ : upd D 6 4 = D 4 := rfl
            have u5_ : upd D 6 5 = D 5 := rfl
            have u6_ : upd D 6 6 = true := rfl
            have u7_ : upd D 6 7 = D 7 := rfl
            have u8_ : upd D 6 8 = D 8 := rfl
            have u9_ : upd D 6 9 = D 9 := rfl
            simp only [hD, p4_, p5_, q7_, q8_, q9_, cnd_t, cnd_f, Asc_t, Asc_f] at ht hs
            subst ht
            refine s_load1 rfl rfl (v := Value.int .i16 (a3.get x8 0)) rfl rfl (fun _ => rfl) (by rw [Nat.zero_add]; exact cells_load (hs.cells 0 rfl) _ _ (encA_at (fkI .i16).len _ _ 0 gd2.1 gd2.2)) ?_
            show G _ _ _ _ [_, _, _, _, _, _, _, _, _, _, _, _, _, _, _, _, _, _, _, _, _, _, _, _, _, _, _, _, _, _, _] _
            exact hk _ _ ⟨O, (by simp only [u0_, u1_, u2_, u3_, u4_, u5_, u6_, u7_, u8_, u9_, p4_, p5_, q7_, q8_, q9_, cnd_t, cnd_f, Asc_t, Asc_f]), hs.cast (by first | rfl | simp only [List.take, List.drop, List.cons_append, List.nil_append, List.set_cons_zero, List.set_cons_succ, List.eraseIdx, u0_, u1_, u2_, u3_, u4_, u5_, u6_, u7_, u8_, u9_, p4_, p5_, q7_, q8_, q9_, cnd_t, cnd_f, Asc_t, Asc_f])⟩
          · intro D t w hD hp hcl hI rest hk
            obtain ⟨O, ht, hs⟩ := hI
            obtain ⟨p6_, _⟩ := hp
            obtain ⟨p5_, _⟩ := hcl.get 6 (by decide) p6_
            obtain ⟨p4_, _⟩ := hcl.get 5 (by decide) p5_
            have q8_ : D 8 = false := not_yet (hcl.get 8 (by decide)) 1 7 rfl hD
            have q9_ : D 9 = false := not_yet (hcl.get 9 (by decide)) 0 8 rfl q8_
            have u0_ : upd D 7 0 = D 0 := rfl
            have u1_ : upd D 7 1 = D 1 := rfl
            have u2_ : upd D 7 2 = D 2 := rfl
            have u3_ : upd D 7 3 = D 3 := rfl
            have u4_ : upd D 7 4 = D 4 := rfl
            have u5_ : upd D 7 5 = D 5 := rfl
            have u6_ : upd D 7 6 = D 6 := rfl
            have u7_ : upd D 7 7 = true := rfl
            have u8_ : upd D 7 8 = D 8 := rfl
            have u9_ : upd D 7 9 = D 9 := rfl
            simp only [hD, p4_, p5_, p6_, q8_, q9_, cnd_t, cnd_f, Asc_t, Asc_f] at ht hs
            subst ht
            refine g_op (v := Value.int .i64 (i64w (a3.get x8 0))) rfl rfl rfl ?_
            show G _ _ _ _ [_, _, _, _, _, _, _, _, _, _, _, _, _, _, _, _, _, _, _, _, _, _, _, _, _, _, _, _, _, _, _] _
            exact hk _ _ ⟨O, (by simp only [u0_, u1_, u2_, u3_, u4_, u5_, u6_, u7_, u8_, u9_, p4_, p5_, p6_, q8_, q9_, cnd_t, cnd_f, Asc_t, Asc_f]), hs.cast (by first | rfl | simp only [List.take, List.drop, List.cons_append, List.nil_append, List.set_cons_zero, List.set_cons_succ, List.eraseIdx, u0_, u1_, u2_, u3_, u4_, u5_, u6_, u7_, u8_, u9_, p4_, p5_, p6_, q8_, q9_, cnd_t, cnd_f, Asc_t, Asc_f])⟩
          · intro D t w hD hp hcl hI rest hk
            obtain ⟨O, ht, hs⟩ := hI
            obtain ⟨p3_, p7_, _, _⟩ := hp
            obtain ⟨p6_, _⟩ := hcl.get 7 (by decide) p7_
            obtain ⟨p5_, _⟩ := hcl.get 6 (by decide) p6_
            obtain ⟨p4_, _⟩ := hcl.get 5 (by decide) p5_
            obtain ⟨p0_, p2_, _⟩ := hcl.get 3 (by decide) p3_
            obtain ⟨p1_, _⟩ := hcl.get 2 (by decide) p2_
            have q9_ : D 9 = false := not_yet (hcl.get 9 (by decide)) 0 8 rfl hD
            have u0_ : upd D 8 0 = D 0 := rfl
            have u1_ : upd D 8 1 = D 1 := rfl
            have u2_ : upd D 8 2 = D 2 := rfl
            have u3_ : upd D 8 3 = D 3 := rfl
            have u4_ : upd D 8 4 = D 4 := rfl
            have u5_ : upd D 8 5 = D 5 := rfl
            have u6_ : upd D 8 6 = D 6 := rfl
            have u7_ : upd D 8 7 = D 7 := rfl
            have u8_ : upd D 8 8 = true := rfl
            have u9_ : upd D 8 9 = D 9 := rfl
            simp only [hD, p0_, p1_, p2_, p3_, p4_, p5_, p6_, p7_, q9_, cnd_t, cnd_f, Asc_t, Asc_f] at ht hs
            subst ht
            refine s_call (args := [Value.int .i64 r10, Value.int .i64 (i64w (a3.get x8 0))]) rfl rfl (x_call rfl (callFunc_enter Try.func58 rfl rfl) rfl) (impl_divisor.calls (a1 := r10) (a2 := i64w (a3.get x8 0)) Hr11) ?_
            rintro _ w ⟨rfl, hs2⟩
            have hs : St _ [_] _ := hs.call hs2
            show G _ _ _ _ [_, _, _, _, _, _, _, _, _, _, _, _, _, _, _, _, _, _, _, _, _, _, _, _, _, _, _, _, _, _, _] _
            exact hk _ _ ⟨O, (by simp only [u0_, u1_, u2_, u3_, u4_, u5_, u6_, u7_, u8_, u9_, p0_, p1_, p2_, p3_, p4_, p5_, p6_, p7_, q9_, cnd_t, cnd_f, Asc_t, Asc_f]), hs.cast (by first | rfl | simp only [List.take, List.drop, List.cons_append, List.nil_append, List.set_cons_zero, List.set_cons_succ, List.eraseIdx, u0_, u1_, u2_, u3_, u4_, u5_, u6_, u7_, u8_, u9_, p0_, p1_, p2_, p3_, p4_, p5_, p6_, p7_, q9_, cnd_t, cnd_f, Asc_t, Asc_f])⟩
          · intro D t w hD hp hcl hI rest hk
            obtain ⟨O, ht, hs⟩ := hI
            obtain ⟨p8_, _, p0_, p1_, p2_, p3_, p4_, p5_, p6_, p7_, _, _⟩ := hp
            have u0_ : upd D 9 0 = D 0 := rfl
            have u1_ : upd D 9 1 = D 1 := rfl
            have u2_ : upd D 9 2 = D 2 := rfl
            have u3_ : upd D 9 3 = D 3 := rfl
            have u4_ : upd D 9 4 = D 4 := rfl
            have u5_ : upd D 9 5 = D 5 := rfl
            have u6_ : upd D 9 6 = D 6 := rfl
            have u7_ : upd D 9 7 = D 7 := rfl
            have u8_ : upd D 9 8 = D 8 := rfl
            have u9_ : upd D 9 9 = true := rfl
            simp only [hD, p0_, p1_, p2_, p3_, p4_, p5_, p6_, p7_, p8_, cnd_t, cnd_f, Asc_t, Asc_f] at ht hs
            subst ht
            refine g_op (v := Value.int .i64 r11) rfl rfl rfl ?_
            show G _ _ _ _ [_, _, _, _, _, _, _, _, _, _, _, _, _, _, _, _, _, _, _, _, _, _, _, _, _, _, _, _, _, _, _] _
            exact hk _ _ ⟨O, (by simp only [u0_, u1_, u2_, u3_, u4_, u5_, u6_, u7_, u8_, u9_, p0_, p1_, p2_, p3_, p4_, p5_, p6_, p7_, p8_, cnd_t, cnd_f, Asc_t, Asc_f]), hs.cast (by first | rfl | simp only [List.take, List.drop, List.cons_append, List.nil_append, List.set_cons_zero, List.set_cons_succ, List.eraseIdx, u0_, u1_, u2_, u3_, u4_, u5_, u6_, u7_, u8_, u9_, p0_, p1_, p2_, p3_, p4_, p5_, p6_, p7_, p8_, cnd_t, cnd_f, Asc_t, Asc_f])⟩
          · intro D t w hall hI
            obtain ⟨O, ht, hs⟩ := hI
            have p0_ := hall 0 (by decide)
            have p1_ := hall 1 (by decide)
            have p2_ := hall 2 (by decide)
            have p3_ := hall 3 (by decide)
            have p4_ := hall 4 (by decide)
            have p5_ := hall 5 (by decide)
            have p6_ := hall 6 (by decide)
            have p7_ := hall 7 (by decide)
            have p8_ := hall 8 (by decide)
            have p9_ := hall 9 (by decide)
            simp only [p0_, p1_, p2_, p3_, p4_, p5_, p6_, p7_, p8_, p9_, cnd_t, cnd_f, Asc_t, Asc_f] at ht hs
            subst ht
            refine g_inBlock ?_
            refine g_region ?_
            show G _ _ _ (.inRegion _ [0, 1] :: _) _ _
            refine g_op (v := Value.int .i64 (i64w (x8 + 1))) rfl rfl rfl ?_
            show G _ _ _ _ [_, _, _, _, _, _, _, _, _, _, _, _, _, _, _, _, _, _, _, _, _, _, _, _, _, _, _, _, _, _, _] _
            refine g_op (v := Value.int .i64 (i64w (x8 + 1))) rfl rfl rfl ?_
            show G _ _ _ _ [_, _, _, _, _, _, _, _, _, _, _, _, _, _, _, _, _, _, _, _, _, _, _, _, _, _, _, _, _, _, _] _
            refine g_ops_nil ?_
            obtain rfl := Option.some.inj H
            have hs := hs.pull 0 rfl
            have hs : St _ [_] _ := St.take (Γ' := []) hs
            exact ih1_ _ _ ⟨r11, i64w (x8 + 1), Hx1_, rfl, hs⟩
        · intro hb
          rw [if_neg (b_dec_f hb)] at H
          show G _ _ _ _ [_, _, _, _, _, _, _, _, _, _, _, _, _, _, _, _, _, _, _, _, _, _, _, _, _, _, _, _, _, _, _] _
          refine g_ops_nil ?_
          refine g_seq ?_
          refine g_cond_false rfl ?_
          obtain rfl := Option.some.inj H
          subst Hx1_
          have hs : St _ [] _ := St.take (Γ' := [_]) hs
          refine g_exit rfl ?_
          exact ha1_ _ _ ⟨x7, Hr1_, rfl, hs⟩
  | false =>
    rw [if_neg Bool.false_ne_true] at H
    show G _ _ _ _ [_, _, _, _, _, _, _, _, _, _, _, _, _, _, _, _, _, _, _, _, _, _, _, _, _, _, _, _, _, _, _] _
    refine g_op (v := Value.bool true) rfl rfl rfl ?_
    show G _ _ _ _ [_, _, _, _, _, _, _, _, _, _, _, _, _, _, _, _, _, _, _, _, _, _, _, _, _, _, _, _, _, _, _] _
    refine g_ops_nil ?_
    refine g_cond_true rfl ?_
    refine g_seq ?_
    refine g_region ?_
    show G _ _ _ (.inRegion _ [0, 1] :: _) _ _
    refine g_op (v := Value.int .i64 0) rfl rfl rfl ?_
    show G _ _ _ _ [_, _, _, _, _, _, _, _, _, _, _, _, _, _, _, _, _, _, _, _, _, _, _, _, _, _, _, _, _, _, _] _
    refine g_op (v := Value.int .i64 1) rfl rfl rfl ?_
    show G _ _ _ _ [_, _, _, _, _, _, _, _, _, _, _, _, _, _, _, _, _, _, _, _, _, _, _, _, _, _, _, _, _, _, _] _
    refine g_ops_nil ?_
    obtain rfl := Option.some.inj H
    refine g_ret Try.func27 (v := Value.tuple #[Value.int .i64 0, Value.int .i64 1]) (resN (l := Try.f27.results.toList) (vs := [Value.int .i64 0, Value.int .i64 1]) rfl ⟨rfl, rfl, trivial⟩ (by simp)) ?_
    have hs : St _ [] _ := St.take (Γ' := [_]) hs
    exact ⟨_, rfl, rfl, hs⟩

end Go.Proofs.YtgachgjcnmeicaaX
