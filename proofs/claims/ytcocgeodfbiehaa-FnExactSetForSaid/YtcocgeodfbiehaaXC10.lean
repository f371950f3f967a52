/- Contracts, printed by gen.py. -/
import Derived.Test.YtcocgeodfbiehaaXC9
namespace Go.Proofs.YtcocgeodfbiehaaX
open Go Go.RowKit Go.Proofs
set_option linter.unusedVariables false
set_option linter.unusedSimpArgs false
/- function 43 impl_isAsk -/
def impl_isAsk.post (w0 : World) (r : Bool) (v : Value) (w : World) : Prop := v = Value.bool r ∧ St w0 [] w
set_option maxHeartbeats 400000 in
set_option maxRecDepth 100000 in
theorem impl_isAsk.calls {N : Nat} {a1 : (Ar Int 4)} {a2 : (Ar Int 4)} {w0 : World} {r : Bool} (H : impl_isAsk.f N a1 a2 = some r) :
    Calls Try.prog 43 #[Value.agg ((encA (encI .i64)) a1).toArray, Value.agg ((encA (encI .i64)) a2).toArray] w0 fun e w => ∃ v, e = .returned v ∧ impl_isAsk.post w0 r v w := by
  unfold impl_isAsk.f at H
  have hs : St w0 [] w0 := St.refl w0
  refine calls_of_g (n := 17) Try.func43 rfl rfl ?_
  show G _ _ _ _ [_, _, _, _, _, _, _, _, _, _, _, _, _, _, _, _, _, _, _] _
  refine g_seq ?_
  refine g_region ?_
  show G _ _ _ (.inRegion _ [0, 1, 2] :: _) _ _
  refine s_box hs rfl rfl (cs := ((encA (encI .i64)) a1)) rfl rfl ?_
  intro b3 w hs
  show G _ _ _ _ [_, _, _, _, _, _, _, _, _, _, _, _, _, _, _, _, _, _, _] _
  refine s_box hs rfl rfl (cs := ((encA (encI .i64)) a2)) rfl rfl ?_
  intro b5 w hs
  show G _ _ _ _ [_, _, _, _, _, _, _, _, _, _, _, _, _, _, _, _, _, _, _] _
  refine g_op (v := Value.bool false) rfl rfl rfl ?_
  show G _ _ _ _ [_, _, _, _, _, _, _, _, _, _, _, _, _, _, _, _, _, _, _] _
  refine g_ops_nil ?_
  refine g_seq ?_
  refine g_seq ?_
  refine g_region ?_
  show G _ _ _ (.inRegion _ [0, 1] :: _) _ _
  refine s_loadA rfl rfl (es := ((encA (encI .i64)) a2)) rfl rfl (fun _ => rfl) (n := 4) (fun _ => rfl) ((fkA (n := 4) (he := (fkI .i64).len) (h1 := (fkI .i64).one)).len _) (cells_all (hs.cells 0 rfl)) ?_
  show G _ _ _ _ [_, _, _, _, _, _, _, _, _, _, _, _, _, _, _, _, _, _, _] _
  refine g_op (v := Value.int .i64 0) rfl rfl rfl ?_
  show G _ _ _ _ [_, _, _, _, _, _, _, _, _, _, _, _, _, _, _, _, _, _, _] _
  refine g_ops_nil ?_
  obtain ⟨o1_, Ho, Hr1_⟩ := bind_get H
  refine g_block_join (J := fun t w => impl_isAsk.a0 N = some r ∧ Fr t (fun O => ([O 0, O 1, O 2, O 3, O 4, O 5, O 6, O 7, O 8, O 9, O 10, O 11, O 12, O 13, O 14, O 15, O 16, O 17, O 18] : List Value)) ∧ St w0 [] w) ?_ ?_
  · rintro t w ⟨H, hf, hs⟩
    obtain ⟨O, rfl⟩ := hf.open
    show G _ _ _ _ [_, _, _, _, _, _, _, _, _, _, _, _, _, _, _, _, _, _, _] _
    unfold impl_isAsk.a0 at H
    refine g_seq ?_
    refine g_region ?_
    show G _ _ _ (.inRegion _ [0] :: _) _ _
    refine g_op (v := Value.bool true) rfl rfl rfl ?_
    show G _ _ _ _ [_, _, _, _, _, _, _, _, _, _, _, _, _, _, _, _, _, _, _] _
    refine g_ops_nil ?_
    obtain rfl := Option.some.inj H
    refine g_ret Try.func43 (v := Value.bool true) (res1 rfl rfl) ?_
    have hs : St _ [] _ := St.take (Γ' := []) hs
    exact ⟨_, rfl, rfl, hs⟩
  · intro ha1_
    have hs := hs.pull 1 rfl
    have hs : St _ [_] _ := St.take (Γ' := [_]) hs
    refine g_loop_fuel (I := fun n_ t w => ∃ x7 : Int, rounds (fun s => impl_isAsk.b0 N a2 a1 s) n_ x7 = some o1_ ∧ Fr t (fun O => ([O 0, O 1, Value.pointer (some ⟨b3, 0, none⟩), O 3, O 4, O 5, O 6, Value.agg ((encA (encI .i64)) a2).toArray, Value.int .i64 x7, O 9, O 10, O 11, O 12, O 13, O 14, O 15, O 16, O 17, O 18] : List Value)) ∧ St w0 [Cells b3 ((encA (encI .i64)) a1) 38] w) N ⟨0, Ho, rfl, hs⟩ ?_ ?_
    · rintro _ _ ⟨x7, h, _⟩
      exact rounds_zero h
    · intro n_ ih1_
      rintro t w ⟨x7, Ho, hf, hs⟩
      obtain ⟨O, rfl⟩ := hf.open
      show G _ _ _ _ [_, _, _, _, _, _, _, _, _, _, _, _, _, _, _, _, _, _, _] _
      obtain ⟨x3_, H, Hx1_⟩ := rounds_succ Ho
      have H : impl_isAsk.b0 N a2 a1 x7 = some x3_ := H
      unfold impl_isAsk.b0 at H
      refine g_seq ?_
      refine g_region ?_
      show G _ _ _ (.inRegion _ [0] :: _) _ _
      refine g_op_b (B := decide (x7 < 4)) rfl rfl rfl ?_ ?_
      · intro hb
        rw [if_pos (b_dec_t hb)] at H
        show G _ _ _ _ [_, _, _, _, _, _, _, _, _, _, _, _, _, _, _, _, _, _, _] _
        refine g_ops_nil ?_
        refine g_seq ?_
        refine g_cond_true rfl ?_
        refine g_skip ?_
        refine g_seq ?_
        refine g_block ?_
        refine g_seq ?_
        refine g_region ?_
        show G _ _ _ (.inRegion _ [0, 1, 2, 3] :: _) _ _
        refine g_op (v := Value.int .i64 x7) rfl rfl rfl ?_
        show G _ _ _ _ [_, _, _, _, _, _, _, _, _, _, _, _, _, _, _, _, _, _, _] _
        obtain ⟨g1, H⟩ := ite_get H
        refine s_indexV (enc := (encI .i64)) (c := Value.int .i64) (fun _ => rfl) 0 rfl (fun _ => rfl) (fun _ => rfl) g1.1 g1.2 rfl rfl rfl rfl rfl ?_
        show G _ _ _ _ [_, _, _, _, _, _, _, _, _, _, _, _, _, _, _, _, _, _, _] _
        refine g_op (v := Value.int .i64 x7) rfl rfl rfl ?_
        show G _ _ _ _ [_, _, _, _, _, _, _, _, _, _, _, _, _, _, _, _, _, _, _] _
        refine g_op (v := Value.int .i64 (a2.get x7 0)) rfl rfl rfl ?_
        show G _ _ _ _ [_, _, _, _, _, _, _, _, _, _, _, _, _, _, _, _, _, _, _] _
        refine g_ops_nil ?_
        refine g_seq ?_
        refine g_region ?_
        show G _ _ _ (.inRegion _ [0, 1, 2, 3, 4, 5] :: _) _ _
        refine g_op (v := Value.int .i64 (a2.get x7 0)) rfl rfl rfl ?_
        show G _ _ _ _ [_, _, _, _, _, _, _, _, _, _, _, _, _, _, _, _, _, _, _] _
        refine g_op (v := Value.int .i64 x7) rfl rfl rfl ?_
        show G _ _ _ _ [_, _, _, _, _, _, _, _, _, _, _, _, _, _, _, _, _, _, _] _
        obtain ⟨g2, H⟩ := ite_get H
        refine s_idxA (n := x7) (m := 1) rfl (fun _ => rfl) g2.1 g2.2 rfl rfl rfl rfl rfl ?_
        show G _ _ _ _ [_, _, _, _, _, _, _, _, _, _, _, _, _, _, _, _, _, _, _] _
        refine s_load1 rfl rfl (v := Value.int .i64 (a1.get x7 0)) rfl rfl (fun _ => rfl) (by rw [Nat.zero_add]; exact cells_load (hs.cells 0 rfl) _ _ (encA_at (fkI .i64).len _ _ 0 g2.1 g2.2)) ?_
        show G _ _ _ _ [_, _, _, _, _, _, _, _, _, _, _, _, _, _, _, _, _, _, _] _
        obtain ⟨r8, Hr8, H⟩ := bind_get H
        refine s_call (args := [Value.int .i64 (a2.get x7 0), Value.int .i64 0, Value.int .i64 (a1.get x7 0)]) rfl rfl (x_call rfl (callFunc_enter Try.func57 rfl rfl) rfl) (impl_within.calls (a1 := a2.get x7 0) (a2 := 0) (a3 := a1.get x7 0) Hr8) ?_
        rintro _ w ⟨rfl, hs2⟩
        have hs : St _ [_] _ := hs.call hs2
        cases r8 with
        | true =>
          rw [if_pos rfl] at H
          show G _ _ _ _ [_, _, _, _, _, _, _, _, _, _, _, _, _, _, _, _, _, _, _] _
          refine g_op (v := Value.bool false) rfl rfl rfl ?_
          show G _ _ _ _ [_, _, _, _, _, _, _, _, _, _, _, _, _, _, _, _, _, _, _] _
          refine g_ops_nil ?_
          refine g_cond_false rfl ?_
          refine g_skip ?_
          refine g_inBlock ?_
          refine g_region ?_
          show G _ _ _ (.inRegion _ [0, 1] :: _) _ _
          refine g_op (v := Value.int .i64 (i64w (x7 + 1))) rfl rfl rfl ?_
          show G _ _ _ _ [_, _, _, _, _, _, _, _, _, _, _, _, _, _, _, _, _, _, _] _
          refine g_op (v := Value.int .i64 (i64w (x7 + 1))) rfl rfl rfl ?_
          show G _ _ _ _ [_, _, _, _, _, _, _, _, _, _, _, _, _, _, _, _, _, _, _] _
          refine g_ops_nil ?_
          obtain rfl := Option.some.inj H
          have hs := hs.pull 0 rfl
          have hs : St _ [_] _ := St.take (Γ' := []) hs
          exact ih1_ _ _ ⟨i64w (x7 + 1), Hx1_, rfl, hs⟩
        | false =>
          rw [if_neg Bool.false_ne_true] at H
          show G _ _ _ _ [_, _, _, _, _, _, _, _, _, _, _, _, _, _, _, _, _, _, _] _
          refine g_op (v := Value.bool true) rfl rfl rfl ?_
          show G _ _ _ _ [_, _, _, _, _, _, _, _, _, _, _, _, _, _, _, _, _, _, _] _
          refine g_ops_nil ?_
          refine g_cond_true rfl ?_
          refine g_seq ?_
          refine g_region ?_
          show G _ _ _ (.inRegion _ [0] :: _) _ _
          refine g_op (v := Value.bool false) rfl rfl rfl ?_
          show G _ _ _ _ [_, _, _, _, _, _, _, _, _, _, _, _, _, _, _, _, _, _, _] _
          refine g_ops_nil ?_
          obtain rfl := Option.some.inj H
          subst Hx1_
          have H := Option.some.inj Hr1_
          subst H
          refine g_ret Try.func43 (v := Value.bool false) (res1 rfl rfl) ?_
          have hs : St _ [] _ := St.take (Γ' := [_]) hs
          exact ⟨_, rfl, rfl, hs⟩
      · intro hb
        rw [if_neg (b_dec_f hb)] at H
        show G _ _ _ _ [_, _, _, _, _, _, _, _, _, _, _, _, _, _, _, _, _, _, _] _
        refine g_ops_nil ?_
        refine g_seq ?_
        refine g_cond_false rfl ?_
        obtain rfl := Option.some.inj H
        subst Hx1_
        have hs : St _ [] _ := St.take (Γ' := [_]) hs
        refine g_exit rfl ?_
        exact ha1_ _ _ ⟨Hr1_, rfl, hs⟩

/- function 14 impl_SetFor -/
def impl_SetFor.post (w0 : World) (r : (Int × Int)) (v : Value) (w : World) : Prop := v = Value.tuple #[Value.int .u64 r.1, Value.int .i64 r.2] ∧ St w0 [] w
set_option maxHeartbeats 400000 in
set_option maxRecDepth 100000 in
theorem impl_SetFor.calls {N : Nat} {a1 : S_impl_Game} {a4 : (Ar Int 4)} {v2 : Value} {w0 : World} {r : (Int × Int)} (hr3 : RdRow k_S_impl_Ask w0 v2 a1.f_Asked) (H : impl_SetFor.f N a1 a4 = some r) :
    Calls Try.prog 14 #[Value.agg (([Value.int .i8 a1.f_Numbers, Value.int .i8 a1.f_Lies, v2] : List Value)).toArray, Value.agg ((encA (encI .i64)) a4).toArray] w0 fun e w => ∃ v, e = .returned v ∧ impl_SetFor.post w0 r v w := by
  unfold impl_SetFor.f at H
  have hs : St w0 [] w0 := St.refl w0
  refine calls_of_g (n := 17) Try.func14 rfl rfl ?_
  show G _ _ _ _ [_, _, _, _, _, _, _, _, _, _, _, _, _, _, _, _, _, _, _] _
  refine g_seq ?_
  refine g_region ?_
  show G _ _ _ (.inRegion _ [0, 1, 2, 3] :: _) _ _
  refine s_box hs rfl rfl (cs := (([Value.int .i8 a1.f_Numbers, Value.int .i8 a1.f_Lies, v2] : List Value))) rfl rfl ?_
  intro b5 w hs
  show G _ _ _ _ [_, _, _, _, _, _, _, _, _, _, _, _, _, _, _, _, _, _, _] _
  refine s_box hs rfl rfl (cs := ((encA (encI .i64)) a4)) rfl rfl ?_
  intro b7 w hs
  show G _ _ _ _ [_, _, _, _, _, _, _, _, _, _, _, _, _, _, _, _, _, _, _] _
  refine g_op (v := Value.int .u64 0) rfl rfl rfl ?_
  show G _ _ _ _ [_, _, _, _, _, _, _, _, _, _, _, _, _, _, _, _, _, _, _] _
  refine g_op (v := Value.int .i64 0) rfl rfl rfl ?_
  show G _ _ _ _ [_, _, _, _, _, _, _, _, _, _, _, _, _, _, _, _, _, _, _] _
  refine g_ops_nil ?_
  refine g_seq ?_
  refine g_block ?_
  refine g_seq ?_
  refine g_region ?_
  show G _ _ _ (.inRegion _ [0, 1, 2, 3] :: _) _ _
  refine s_loadA rfl rfl (es := (([Value.int .i8 a1.f_Numbers, Value.int .i8 a1.f_Lies, v2] : List Value))) rfl rfl (fun _ => rfl) (n := 3) (fun _ => rfl) rfl (cells_all (hs.cells 1 rfl)) ?_
  show G _ _ _ _ [_, _, _, _, _, _, _, _, _, _, _, _, _, _, _, _, _, _, _] _
  obtain ⟨r9, Hr9, H⟩ := bind_get H
  refine s_call (args := [Value.agg (([Value.int .i8 a1.f_Numbers, Value.int .i8 a1.f_Lies, v2] : List Value)).toArray]) rfl rfl (x_call rfl (callFunc_enter Try.func37 rfl rfl) rfl) (impl_ValidGame.calls (a1 := (⟨a1.f_Numbers, a1.f_Lies, a1.f_Asked⟩ : S_impl_Game)) (hs.rd hr3) Hr9) ?_
  rintro _ w ⟨rfl, hs2⟩
  have hs : St _ [_, _] _ := hs.call hs2
  cases r9 with
  | true =>
    rw [if_pos rfl] at H
    show G _ _ _ _ [_, _, _, _, _, _, _, _, _, _, _, _, _, _, _, _, _, _, _] _
    refine g_op (v := Value.bool false) rfl rfl rfl ?_
    show G _ _ _ _ [_, _, _, _, _, _, _, _, _, _, _, _, _, _, _, _, _, _, _] _
    refine g_op (v := Value.bool false) rfl rfl rfl ?_
    show G _ _ _ _ [_, _, _, _, _, _, _, _, _, _, _, _, _, _, _, _, _, _, _] _
    refine g_ops_nil ?_
    refine g_cond_false rfl ?_
    refine g_seq ?_
    refine g_lay (n := 6) rfl [0, 1, 2, 3, 4, 5] [0, 1, 2, 3, 4, 5] rfl rfl ?_
    intro rest w hh hbw hO
    have hs := hs.samew hh hbw
    show G _ _ _ _ [_, _, _, _, _, _, _, _, _, _, _, _, _, _, _, _, _, _, _] _
    obtain ⟨r10, Hr10, H⟩ := bind_get H
    refine g_name ?_
    intro T hT
    refine g_layer (m0 := 0) hO rfl 7 [0, 1, 2] [0, 1, 0, 7, 15, 31] (by decide +kernel) (fun D t w => ∃ O : Nat → Value, t = [Value.agg (([Value.int .i8 a1.f_Numbers, Value.int .i8 a1.f_Lies, v2] : List Value)).toArray, Value.agg ((encA (encI .i64)) a4).toArray, Value.pointer (some ⟨b5, 0, none⟩), Value.pointer (some ⟨b7, 0, none⟩), Value.int .u64 0, Value.int .i64 0, Value.bool false, Value.agg (([Value.int .i8 a1.f_Numbers, Value.int .i8 a1.f_Lies, v2] : List Value)).toArray, Value.bool true, Value.bool false, O 10, cnd (D 0) (Value.agg (([Value.int .i8 a1.f_Numbers, Value.int .i8 a1.f_Lies, v2] : List Value)).toArray) (O 11), cnd (D 1) (Value.agg ((encA (encI .i64)) r10).toArray) (O 12), cnd (D 2) (Value.agg ((encA (encI .i64)) a4).toArray) (O 13), O 14, O 15, O 16, O 17, O 18] ∧ St w0 [Cells b7 ((encA (encI .i64)) a4) 38, Cells b5 (([Value.int .i8 a1.f_Numbers, Value.int .i8 a1.f_Lies, v2] : List Value)) 32] w) ?_ ⟨?_, ⟨?_, ⟨?_, trivial⟩⟩⟩ ?_
    · exact ⟨fun i => T.getD i undef, (by subst hT; rfl), hs⟩
    · intro D t w hD hp hcl hI rest hk
      obtain ⟨O, ht, hs⟩ := hI
      have hp : AllDone D [] := hp
      have q1_ : D 1 = false := not_yet (show D 1 = true → AllDone D [0] from hcl 1 (by decide)) 0 0 rfl hD
      have u0_ : upd D 0 0 = true := rfl
      have u1_ : upd D 0 1 = D 1 := rfl
      have u2_ : upd D 0 2 = D 2 := rfl
      simp only [hD, q1_, cnd_t, cnd_f, Asc_t, Asc_f] at ht hs
      subst ht
      refine s_loadA rfl rfl (es := (([Value.int .i8 a1.f_Numbers, Value.int .i8 a1.f_Lies, v2] : List Value))) rfl rfl (fun _ => rfl) (n := 3) (fun _ => rfl) rfl (cells_all (hs.cells 1 rfl)) ?_
      show G _ _ _ _ [_, _, _, _, _, _, _, _, _, _, _, _, _, _, _, _, _, _, _] _
      exact hk _ _ ⟨O, (by simp only [u0_, u1_, u2_, q1_, cnd_t, cnd_f, Asc_t, Asc_f]), hs.cast (by first | rfl | simp only [List.take, List.drop, List.cons_append, List.nil_append, List.set_cons_zero, List.set_cons_succ, List.eraseIdx, u0_, u1_, u2_, q1_, cnd_t, cnd_f, Asc_t, Asc_f])⟩
    · intro D t w hD hp hcl hI rest hk
      obtain ⟨O, ht, hs⟩ := hI
      have hp : AllDone D [0] := hp
      obtain ⟨p0_, _⟩ := hp
      have u0_ : upd D 1 0 = D 0 := rfl
      have u1_ : upd D 1 1 = true := rfl
      have u2_ : upd D 1 2 = D 2 := rfl
      simp only [hD, p0_, cnd_t, cnd_f, Asc_t, Asc_f] at ht hs
      subst ht
      refine s_call (args := [Value.agg (([Value.int .i8 a1.f_Numbers, Value.int .i8 a1.f_Lies, v2] : List Value)).toArray]) rfl rfl (x_call rfl (callFunc_enter Try.func39 rfl rfl) rfl) (_impl_Game_state.calls (a1 := (⟨a1.f_Numbers, a1.f_Lies, a1.f_Asked⟩ : S_impl_Game)) (hs.rd hr3) Hr10) ?_
      rintro _ w ⟨rfl, hs2⟩
      have hs : St _ [_, _] _ := hs.call hs2
      show G _ _ _ _ [_, _, _, _, _, _, _, _, _, _, _, _, _, _, _, _, _, _, _] _
      exact hk _ _ ⟨O, (by simp only [u0_, u1_, u2_, p0_, cnd_t, cnd_f, Asc_t, Asc_f]), hs.cast (by first | rfl | simp only [List.take, List.drop, List.cons_append, List.nil_append, List.set_cons_zero, List.set_cons_succ, List.eraseIdx, u0_, u1_, u2_, p0_, cnd_t, cnd_f, Asc_t, Asc_f])⟩
    · intro D t w hD hp hcl hI rest hk
      obtain ⟨O, ht, hs⟩ := hI
      have hp : AllDone D [] := hp
      have u0_ : upd D 2 0 = D 0 := rfl
      have u1_ : upd D 2 1 = D 1 := rfl
      have u2_ : upd D 2 2 = true := rfl
      simp only [hD, cnd_t, cnd_f, Asc_t, Asc_f] at ht hs
      subst ht
      refine s_loadA rfl rfl (es := ((encA (encI .i64)) a4)) rfl rfl (fun _ => rfl) (n := 4) (fun _ => rfl) ((fkA (n := 4) (he := (fkI .i64).len) (h1 := (fkI .i64).one)).len _) (cells_all (hs.cells 0 rfl)) ?_
      show G _ _ _ _ [_, _, _, _, _, _, _, _, _, _, _, _, _, _, _, _, _, _, _] _
      exact hk _ _ ⟨O, (by simp only [u0_, u1_, u2_, cnd_t, cnd_f, Asc_t, Asc_f]), hs.cast (by first | rfl | simp only [List.take, List.drop, List.cons_append, List.nil_append, List.set_cons_zero, List.set_cons_succ, List.eraseIdx, u0_, u1_, u2_, cnd_t, cnd_f, Asc_t, Asc_f])⟩
    · intro D t w rest hall hO1_ hI
      obtain ⟨O, ht, hs⟩ := hI
      have p0_ : D 0 = true := hall 0 (by decide) rfl
      have p1_ : D 1 = true := hall 1 (by decide) rfl
      have p2_ : D 2 = true := hall 2 (by decide) rfl
      simp only [p0_, p1_, p2_, cnd_t, cnd_f, Asc_t, Asc_f] at ht hs
      subst ht
      obtain ⟨rest, rfl, hO2_⟩ := ord_one (m := 7) hO1_ rfl 3 (m' := 15) (by decide +kernel) rfl
      clear hO1_
      obtain ⟨r11, Hr11, H⟩ := bind_get H
      refine s_call (args := [Value.agg ((encA (encI .i64)) r10).toArray, Value.agg ((encA (encI .i64)) a4).toArray]) rfl rfl (x_call rfl (callFunc_enter Try.func43 rfl rfl) rfl) (impl_isAsk.calls (a1 := r10) (a2 := a4) Hr11) ?_
      rintro _ w ⟨rfl, hs2⟩
      have hs : St _ [_, _] _ := hs.call hs2
      cases r11 with
      | true =>
        rw [if_pos rfl] at H
        show G _ _ _ _ [_, _, _, _, _, _, _, _, _, _, _, _, _, _, _, _, _, _, _] _
        obtain ⟨rest, rfl, hO3_⟩ := ord_one (m := 15) hO2_ rfl 4 (m' := 31) (by decide +kernel) rfl
        clear hO2_
        refine g_op (v := Value.bool false) rfl rfl rfl ?_
        show G _ _ _ _ [_, _, _, _, _, _, _, _, _, _, _, _, _, _, _, _, _, _, _] _
        obtain ⟨rest, rfl, hO4_⟩ := ord_one (m := 31) hO3_ rfl 5 (m' := 63) (by decide +kernel) rfl
        clear hO3_
        refine g_op (v := Value.bool false) rfl rfl rfl ?_
        show G _ _ _ _ [_, _, _, _, _, _, _, _, _, _, _, _, _, _, _, _, _, _, _] _
        obtain rfl := ord_end hO4_ rfl (by decide +kernel)
        refine g_ops_nil ?_
        refine g_cond_false rfl ?_
        refine g_skip ?_
        refine g_inBlock ?_
        refine g_seq ?_
        refine g_region ?_
        show G _ _ _ (.inRegion _ [0, 1, 2, 3, 4] :: _) _ _
        refine s_loadA rfl rfl (es := (([Value.int .i8 a1.f_Numbers, Value.int .i8 a1.f_Lies, v2] : List Value))) rfl rfl (fun _ => rfl) (n := 3) (fun _ => rfl) rfl (cells_all (hs.cells 1 rfl)) ?_
        show G _ _ _ _ [_, _, _, _, _, _, _, _, _, _, _, _, _, _, _, _, _, _, _] _
        refine s_loadA rfl rfl (es := ((encA (encI .i64)) a4)) rfl rfl (fun _ => rfl) (n := 4) (fun _ => rfl) ((fkA (n := 4) (he := (fkI .i64).len) (h1 := (fkI .i64).one)).len _) (cells_all (hs.cells 0 rfl)) ?_
        show G _ _ _ _ [_, _, _, _, _, _, _, _, _, _, _, _, _, _, _, _, _, _, _] _
        obtain ⟨r12, Hr12, H⟩ := bind_get H
        refine s_call (args := [Value.agg (([Value.int .i8 a1.f_Numbers, Value.int .i8 a1.f_Lies, v2] : List Value)).toArray, Value.agg ((encA (encI .i64)) a4).toArray]) rfl rfl (x_call rfl (callFunc_enter Try.func38 rfl rfl) rfl) (_impl_Game_setFor.calls (a1 := (⟨a1.f_Numbers, a1.f_Lies, a1.f_Asked⟩ : S_impl_Game)) (a4 := a4) (hs.rd hr3) Hr12) ?_
        rintro _ w ⟨rfl, hs2⟩
        have hs : St _ [_, _] _ := hs.call hs2
        show G _ _ _ _ [_, _, _, _, _, _, _, _, _, _, _, _, _, _, _, _, _, _, _] _
        refine g_op (v := Value.int .u64 r12) rfl rfl rfl ?_
        show G _ _ _ _ [_, _, _, _, _, _, _, _, _, _, _, _, _, _, _, _, _, _, _] _
        refine g_op (v := Value.int .i64 0) rfl rfl rfl ?_
        show G _ _ _ _ [_, _, _, _, _, _, _, _, _, _, _, _, _, _, _, _, _, _, _] _
        refine g_ops_nil ?_
        obtain rfl := Option.some.inj H
        refine g_ret Try.func14 (v := Value.tuple #[Value.int .u64 r12, Value.int .i64 0]) (resN (l := Try.f14.results.toList) (vs := [Value.int .u64 r12, Value.int .i64 0]) rfl ⟨rfl, rfl, trivial⟩ (by simp)) ?_
        have hs : St _ [] _ := St.take (Γ' := [_, _]) hs
        exact ⟨_, rfl, rfl, hs⟩
      | false =>
        rw [if_neg Bool.false_ne_true] at H
        show G _ _ _ _ [_, _, _, _, _, _, _, _, _, _, _, _, _, _, _, _, _, _, _] _
        obtain ⟨rest, rfl, hO5_⟩ := ord_one (m := 15) hO2_ rfl 4 (m' := 31) (by decide +kernel) rfl
        clear hO2_
        refine g_op (v := Value.bool true) rfl rfl rfl ?_
        show G _ _ _ _ [_, _, _, _, _, _, _, _, _, _, _, _, _, _, _, _, _, _, _] _
        obtain ⟨rest, rfl, hO6_⟩ := ord_one (m := 31) hO5_ rfl 5 (m' := 63) (by decide +kernel) rfl
        clear hO5_
        refine g_op (v := Value.bool true) rfl rfl rfl ?_
        show G _ _ _ _ [_, _, _, _, _, _, _, _, _, _, _, _, _, _, _, _, _, _, _] _
        obtain rfl := ord_end hO6_ rfl (by decide +kernel)
        refine g_ops_nil ?_
        refine g_cond_true rfl ?_
        refine g_seq ?_
        refine g_region ?_
        show G _ _ _ (.inRegion _ [0, 1] :: _) _ _
        refine g_op (v := Value.int .u64 0) rfl rfl rfl ?_
        show G _ _ _ _ [_, _, _, _, _, _, _, _, _, _, _, _, _, _, _, _, _, _, _] _
        refine g_op (v := Value.int .i64 2) rfl rfl rfl ?_
        show G _ _ _ _ [_, _, _, _, _, _, _, _, _, _, _, _, _, _, _, _, _, _, _] _
        refine g_ops_nil ?_
        obtain rfl := Option.some.inj H
        refine g_ret Try.func14 (v := Value.tuple #[Value.int .u64 0, Value.int .i64 2]) (resN (l := Try.f14.results.toList) (vs := [Value.int .u64 0, Value.int .i64 2]) rfl ⟨rfl, rfl, trivial⟩ (by simp)) ?_
        have hs : St _ [] _ := St.take (Γ' := [_, _]) hs
        exact ⟨_, rfl, rfl, hs⟩
  | false =>
    rw [if_neg Bool.false_ne_true] at H
    show G _ _ _ _ [_, _, _, _, _, _, _, _, _, _, _, _, _, _, _, _, _, _, _] _
    refine g_op (v := Value.bool true) rfl rfl rfl ?_
    show G _ _ _ _ [_, _, _, _, _, _, _, _, _, _, _, _, _, _, _, _, _, _, _] _
    refine g_op (v := Value.bool true) rfl rfl rfl ?_
    show G _ _ _ _ [_, _, _, _, _, _, _, _, _, _, _, _, _, _, _, _, _, _, _] _
    refine g_ops_nil ?_
    refine g_cond_true rfl ?_
    refine g_seq ?_
    refine g_region ?_
    show G _ _ _ (.inRegion _ [0, 1] :: _) _ _
    refine g_op (v := Value.int .u64 0) rfl rfl rfl ?_
    show G _ _ _ _ [_, _, _, _, _, _, _, _, _, _, _, _, _, _, _, _, _, _, _] _
    refine g_op (v := Value.int .i64 1) rfl rfl rfl ?_
    show G _ _ _ _ [_, _, _, _, _, _, _, _, _, _, _, _, _, _, _, _, _, _, _] _
    refine g_ops_nil ?_
    obtain rfl := Option.some.inj H
    refine g_ret Try.func14 (v := Value.tuple #[Value.int .u64 0, Value.int .i64 1]) (resN (l := Try.f14.results.toList) (vs := [Value.int .u64 0, Value.int .i64 1]) rfl ⟨rfl, rfl, trivial⟩ (by simp)) ?_
    have hs : St _ [] _ := St.take (Γ' := [_, _]) hs
    exact ⟨_, rfl, rfl, hs⟩

end Go.Proofs.YtcocgeodfbiehaaX
