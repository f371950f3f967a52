/- Contracts, printed by gen.py. -/
import Derived.Test.YtgachgjcnmeicaaXC8
namespace Go.Proofs.YtgachgjcnmeicaaX
open Go Go.RowKit Go.Proofs
set_option linter.unusedVariables false
set_option linter.unusedSimpArgs false
/- function 29 impl_TurnGlasses -/
def impl_TurnGlasses.post (w0 : World) (r : ((Ar Int 4) × Int)) (v : Value) (w : World) : Prop := v = Value.tuple #[Value.agg ((encA (encI .i16)) r.1).toArray, Value.int .i64 r.2] ∧ St w0 [] w
set_option maxHeartbeats 400000 in
set_option maxRecDepth 100000 in
theorem impl_TurnGlasses.calls {N : Nat} {a1 : (List Int)} {a3 : (Ar Int 4)} {a4 : Int} {v2 : Value} {w0 : World} {r : ((Ar Int 4) × Int)} (hr0 : RdRow (K.int .i16) w0 v2 a1) (H : impl_TurnGlasses.f N a1 a3 a4 = some r) :
    Calls Try.prog 29 #[v2, Value.agg ((encA (encI .i16)) a3).toArray, Value.int .u8 a4] w0 fun e w => ∃ v, e = .returned v ∧ impl_TurnGlasses.post w0 r v w := by
  unfold impl_TurnGlasses.f at H
  have hs : St w0 [] w0 := St.refl w0
  refine calls_of_g (n := 21) Try.func29 rfl rfl ?_
  show G _ _ _ _ [_, _, _, _, _, _, _, _, _, _, _, _, _, _, _, _, _, _, _, _, _, _, _, _] _
  refine g_seq ?_
  refine g_region ?_
  show G _ _ _ (.inRegion _ [0, 1, 2] :: _) _ _
  refine s_box hs rfl rfl (cs := ((encA (encI .i16)) a3)) rfl rfl ?_
  intro b5 w hs
  show G _ _ _ _ [_, _, _, _, _, _, _, _, _, _, _, _, _, _, _, _, _, _, _, _, _, _, _, _] _
  refine s_alloc hs rfl rfl (z := (Value.agg #[Value.int .i16 0, Value.int .i16 0, Value.int .i16 0, Value.int .i16 0])) (cs := ((encA (encI .i16)) (Ar.rep 4 0))) rfl (fun _ => rfl) rfl ?_
  intro b7 w hs
  show G _ _ _ _ [_, _, _, _, _, _, _, _, _, _, _, _, _, _, _, _, _, _, _, _, _, _, _, _] _
  refine g_op (v := Value.int .i64 0) rfl rfl rfl ?_
  show G _ _ _ _ [_, _, _, _, _, _, _, _, _, _, _, _, _, _, _, _, _, _, _, _, _, _, _, _] _
  refine g_ops_nil ?_
  refine g_seq ?_
  refine g_block ?_
  refine g_seq ?_
  refine g_region ?_
  show G _ _ _ (.inRegion _ [0, 1, 2, 3, 4] :: _) _ _
  refine g_op (v := v2) rfl rfl rfl ?_
  show G _ _ _ _ [_, _, _, _, _, _, _, _, _, _, _, _, _, _, _, _, _, _, _, _, _, _, _, _] _
  refine s_loadA rfl rfl (es := ((encA (encI .i16)) a3)) rfl rfl (fun _ => rfl) (n := 4) (fun _ => rfl) ((fkA (n := 4) (he := (fkI .i16).len) (h1 := (fkI .i16).one)).len _) (cells_all (hs.cells 1 rfl)) ?_
  show G _ _ _ _ [_, _, _, _, _, _, _, _, _, _, _, _, _, _, _, _, _, _, _, _, _, _, _, _] _
  obtain ⟨r9, Hr9, H⟩ := bind_get H
  refine s_call (args := [v2, Value.agg ((encA (encI .i16)) a3).toArray]) rfl rfl (x_call rfl (callFunc_enter Try.func23 rfl rfl) rfl) (impl_ValidTops.calls (a1 := a1) (a3 := a3) (hs.rd hr0) Hr9) ?_
  rintro _ w ⟨rfl, hs2⟩
  have hs : St _ [_, _] _ := hs.call hs2
  cases r9 with
  | true =>
    rw [if_pos rfl] at H
    show G _ _ _ _ [_, _, _, _, _, _, _, _, _, _, _, _, _, _, _, _, _, _, _, _, _, _, _, _] _
    refine g_op (v := Value.bool false) rfl rfl rfl ?_
    show G _ _ _ _ [_, _, _, _, _, _, _, _, _, _, _, _, _, _, _, _, _, _, _, _, _, _, _, _] _
    refine g_op (v := Value.bool false) rfl rfl rfl ?_
    show G _ _ _ _ [_, _, _, _, _, _, _, _, _, _, _, _, _, _, _, _, _, _, _, _, _, _, _, _] _
    refine g_ops_nil ?_
    refine g_cond_false rfl ?_
    refine g_seq ?_
    refine g_region ?_
    show G _ _ _ (.inRegion _ [0, 1, 2, 3, 4] :: _) _ _
    refine g_op (v := v2) rfl rfl rfl ?_
    show G _ _ _ _ [_, _, _, _, _, _, _, _, _, _, _, _, _, _, _, _, _, _, _, _, _, _, _, _] _
    refine g_op (v := Value.int .u8 a4) rfl rfl rfl ?_
    show G _ _ _ _ [_, _, _, _, _, _, _, _, _, _, _, _, _, _, _, _, _, _, _, _, _, _, _, _] _
    obtain ⟨r10, Hr10, H⟩ := bind_get H
    refine s_call (args := [v2, Value.int .u8 a4]) rfl rfl (x_call rfl (callFunc_enter Try.func61 rfl rfl) rfl) (_impl_Glasses_isSet.calls (a1 := a1) (a3 := a4) (hs.rd hr0) Hr10) ?_
    rintro _ w ⟨rfl, hs2⟩
    have hs : St _ [_, _] _ := hs.call hs2
    cases r10 with
    | true =>
      rw [if_pos rfl] at H
      show G _ _ _ _ [_, _, _, _, _, _, _, _, _, _, _, _, _, _, _, _, _, _, _, _, _, _, _, _] _
      refine g_op (v := Value.bool false) rfl rfl rfl ?_
      show G _ _ _ _ [_, _, _, _, _, _, _, _, _, _, _, _, _, _, _, _, _, _, _, _, _, _, _, _] _
      refine g_op (v := Value.bool false) rfl rfl rfl ?_
      show G _ _ _ _ [_, _, _, _, _, _, _, _, _, _, _, _, _, _, _, _, _, _, _, _, _, _, _, _] _
      refine g_ops_nil ?_
      refine g_cond_false rfl ?_
      refine g_skip ?_
      refine g_inBlock ?_
      refine g_seq ?_
      refine g_region ?_
      show G _ _ _ (.inRegion _ [0, 1, 2, 3, 4, 5] :: _) _ _
      refine g_op (v := v2) rfl rfl rfl ?_
      show G _ _ _ _ [_, _, _, _, _, _, _, _, _, _, _, _, _, _, _, _, _, _, _, _, _, _, _, _] _
      refine s_loadA rfl rfl (es := ((encA (encI .i16)) a3)) rfl rfl (fun _ => rfl) (n := 4) (fun _ => rfl) ((fkA (n := 4) (he := (fkI .i16).len) (h1 := (fkI .i16).one)).len _) (cells_all (hs.cells 1 rfl)) ?_
      show G _ _ _ _ [_, _, _, _, _, _, _, _, _, _, _, _, _, _, _, _, _, _, _, _, _, _, _, _] _
      refine g_op (v := Value.int .u8 a4) rfl rfl rfl ?_
      show G _ _ _ _ [_, _, _, _, _, _, _, _, _, _, _, _, _, _, _, _, _, _, _, _, _, _, _, _] _
      obtain ⟨r11, Hr11, H⟩ := bind_get H
      refine s_call (args := [v2, Value.agg ((encA (encI .i16)) a3).toArray, Value.int .u8 a4]) rfl rfl (x_call rfl (callFunc_enter Try.func62 rfl rfl) rfl) (_impl_Glasses_turned.calls (a1 := a1) (a3 := a3) (a4 := a4) (hs.rd hr0) Hr11) ?_
      rintro _ w ⟨rfl, hs2⟩
      have hs : St _ [_, _] _ := hs.call hs2
      show G _ _ _ _ [_, _, _, _, _, _, _, _, _, _, _, _, _, _, _, _, _, _, _, _, _, _, _, _] _
      refine s_storeAll (n := 4) hs ((fkA (n := 4) (he := (fkI .i16).len) (h1 := (fkI .i16).one)).len _) rfl rfl (vs := ((encA (encI .i16)) r11)) rfl rfl rfl (fun _ => rfl) ((fkA (n := 4) (he := (fkI .i16).len) (h1 := (fkI .i16).one)).len _) ((fkA (n := 4) (he := (fkI .i16).len) (h1 := (fkI .i16).one)).one _) ?_
      intro w hs
      refine g_op (v := Value.int .i64 0) rfl rfl rfl ?_
      show G _ _ _ _ [_, _, _, _, _, _, _, _, _, _, _, _, _, _, _, _, _, _, _, _, _, _, _, _] _
      refine g_ops_nil ?_
      obtain rfl := Option.some.inj H
      refine g_ret Try.func29 (v := Value.tuple #[Value.agg ((encA (encI .i16)) r11).toArray, Value.int .i64 0]) (resN (l := Try.f29.results.toList) (vs := [Value.agg ((encA (encI .i16)) r11).toArray, Value.int .i64 0]) rfl ⟨⟨_, rfl, (run_loadVar_agg (es := ((encA (encI .i16)) r11)) rfl (congrArg (Result.ok · _) ((fkA (n := 4) (he := (fkI .i16).len) (h1 := (fkI .i16).one)).len _).symm) (cells_all (hs.cells 0 rfl)))⟩, rfl, trivial⟩ (by simp)) ?_
      have hs : St _ [] _ := St.take (Γ' := [_, _]) hs
      exact ⟨_, rfl, rfl, hs⟩
    | false =>
      rw [if_neg Bool.false_ne_true] at H
      show G _ _ _ _ [_, _, _, _, _, _, _, _, _, _, _, _, _, _, _, _, _, _, _, _, _, _, _, _] _
      refine g_op (v := Value.bool true) rfl rfl rfl ?_
      show G _ _ _ _ [_, _, _, _, _, _, _, _, _, _, _, _, _, _, _, _, _, _, _, _, _, _, _, _] _
      refine g_op (v := Value.bool true) rfl rfl rfl ?_
      show G _ _ _ _ [_, _, _, _, _, _, _, _, _, _, _, _, _, _, _, _, _, _, _, _, _, _, _, _] _
      refine g_ops_nil ?_
      refine g_cond_true rfl ?_
      refine g_seq ?_
      refine g_region ?_
      show G _ _ _ (.inRegion _ [0, 1, 2] :: _) _ _
      refine g_op (v := Value.agg ((encA (encI .i16)) (Ar.rep 4 0)).toArray) rfl rfl (x_build rfl rfl) ?_
      show G _ _ _ _ [_, _, _, _, _, _, _, _, _, _, _, _, _, _, _, _, _, _, _, _, _, _, _, _] _
      refine s_storeAll (n := 4) hs ((fkA (n := 4) (he := (fkI .i16).len) (h1 := (fkI .i16).one)).len _) rfl rfl (vs := ((encA (encI .i16)) (Ar.rep 4 0))) rfl rfl rfl (fun _ => rfl) ((fkA (n := 4) (he := (fkI .i16).len) (h1 := (fkI .i16).one)).len _) ((fkA (n := 4) (he := (fkI .i16).len) (h1 := (fkI .i16).one)).one _) ?_
      intro w hs
      refine g_op (v := Value.int .i64 2) rfl rfl rfl ?_
      show G _ _ _ _ [_, _, _, _, _, _, _, _, _, _, _, _, _, _, _, _, _, _, _, _, _, _, _, _] _
      refine g_ops_nil ?_
      obtain rfl := Option.some.inj H
      refine g_ret Try.func29 (v := Value.tuple #[Value.agg ((encA (encI .i16)) (Ar.rep 4 0)).toArray, Value.int .i64 2]) (resN (l := Try.f29.results.toList) (vs := [Value.agg ((encA (encI .i16)) (Ar.rep 4 0)).toArray, Value.int .i64 2]) rfl ⟨⟨_, rfl, (run_loadVar_agg (es := ((encA (encI .i16)) (Ar.rep 4 0))) rfl (congrArg (Result.ok · _) ((fkA (n := 4) (he := (fkI .i16).len) (h1 := (fkI .i16).one)).len _).symm) (cells_all (hs.cells 0 rfl)))⟩, rfl, trivial⟩ (by simp)) ?_
      have hs : St _ [] _ := St.take (Γ' := [_, _]) hs
      exact ⟨_, rfl, rfl, hs⟩
  | false =>
    rw [if_neg Bool.false_ne_true] at H
    show G _ _ _ _ [_, _, _, _, _, _, _, _, _, _, _, _, _, _, _, _, _, _, _, _, _, _, _, _] _
    refine g_op (v := Value.bool true) rfl rfl rfl ?_
    show G _ _ _ _ [_, _, _, _, _, _, _, _, _, _, _, _, _, _, _, _, _, _, _, _, _, _, _, _] _
    refine g_op (v := Value.bool true) rfl rfl rfl ?_
    show G _ _ _ _ [_, _, _, _, _, _, _, _, _, _, _, _, _, _, _, _, _, _, _, _, _, _, _, _] _
    refine g_ops_nil ?_
    refine g_cond_true rfl ?_
    refine g_seq ?_
    refine g_region ?_
    show G _ _ _ (.inRegion _ [0, 1, 2] :: _) _ _
    refine g_op (v := Value.agg ((encA (encI .i16)) (Ar.rep 4 0)).toArray) rfl rfl (x_build rfl rfl) ?_
    show G _ _ _ _ [_, _, _, _, _, _, _, _, _, _, _, _, _, _, _, _, _, _, _, _, _, _, _, _] _
    refine s_storeAll (n := 4) hs ((fkA (n := 4) (he := (fkI .i16).len) (h1 := (fkI .i16).one)).len _) rfl rfl (vs := ((encA (encI .i16)) (Ar.rep 4 0))) rfl rfl rfl (fun _ => rfl) ((fkA (n := 4) (he := (fkI .i16).len) (h1 := (fkI .i16).one)).len _) ((fkA (n := 4) (he := (fkI .i16).len) (h1 := (fkI .i16).one)).one _) ?_
    intro w hs
    refine g_op (v := Value.int .i64 1) rfl rfl rfl ?_
    show G _ _ _ _ [_, _, _, _, _, _, _, _, _, _, _, _, _, _, _, _, _, _, _, _, _, _, _, _] _
    refine g_ops_nil ?_
    obtain rfl := Option.some.inj H
    refine g_ret Try.func29 (v := Value.tuple #[Value.agg ((encA (encI .i16)) (Ar.rep 4 0)).toArray, Value.int .i64 1]) (resN (l := Try.f29.results.toList) (vs := [Value.agg ((encA (encI .i16)) (Ar.rep 4 0)).toArray, Value.int .i64 1]) rfl ⟨⟨_, rfl, (run_loadVar_agg (es := ((encA (encI .i16)) (Ar.rep 4 0))) rfl (congrArg (Result.ok · _) ((fkA (n := 4) (he := (fkI .i16).len) (h1 := (fkI .i16).one)).len _).symm) (cells_all (hs.cells 0 rfl)))⟩, rfl, trivial⟩ (by simp)) ?_
    have hs : St _ [] _ := St.take (Γ' := [_, _]) hs
    exact ⟨_, rfl, rfl, hs⟩

/- function 30 laws_eqTops -/
def laws_eqTops.post (w0 : World) (r : Bool) (v : Value) (w : World) : Prop := v = Value.bool r ∧ St w0 [] w
set_option maxHeartbeats 400000 in
set_option maxRecDepth 100000 in
theorem laws_eqTops.calls {N : Nat} {a1 : (Ar Int 4)} {a2 : (Ar Int 4)} {w0 : World} {r : Bool} (H : laws_eqTops.f N a1 a2 = some r) :
    Calls Try.prog 30 #[Value.agg ((encA (encI .i16)) a1).toArray, Value.agg ((encA (encI .i16)) a2).toArray] w0 fun e w => ∃ v, e = .returned v ∧ laws_eqTops.post w0 r v w := by
  unfold laws_eqTops.f at H
  have hs : St w0 [] w0 := St.refl w0
  refine calls_of_g (n := 15) Try.func30 rfl rfl ?_
  show G _ _ _ _ [_, _, _, _, _, _, _, _, _, _, _, _, _, _, _, _, _] _
  refine g_seq ?_
  refine g_region ?_
  show G _ _ _ (.inRegion _ [0, 1, 2] :: _) _ _
  refine s_box hs rfl rfl (cs := ((encA (encI .i16)) a1)) rfl rfl ?_
  intro b3 w hs
  show G _ _ _ _ [_, _, _, _, _, _, _, _, _, _, _, _, _, _, _, _, _] _
  refine s_box hs rfl rfl (cs := ((encA (encI .i16)) a2)) rfl rfl ?_
  intro b5 w hs
  show G _ _ _ _ [_, _, _, _, _, _, _, _, _, _, _, _, _, _, _, _, _] _
  refine g_op (v := Value.bool false) rfl rfl rfl ?_
  show G _ _ _ _ [_, _, _, _, _, _, _, _, _, _, _, _, _, _, _, _, _] _
  refine g_ops_nil ?_
  refine g_seq ?_
  refine g_seq ?_
  refine g_region ?_
  show G _ _ _ (.inRegion _ [0] :: _) _ _
  refine g_op (v := Value.int .i64 0) rfl rfl rfl ?_
  show G _ _ _ _ [_, _, _, _, _, _, _, _, _, _, _, _, _, _, _, _, _] _
  refine g_ops_nil ?_
  obtain ⟨o1_, Ho, Hr1_⟩ := bind_get H
  refine g_block_join (J := fun t w => laws_eqTops.a0 N = some r ∧ Fr t (fun O => ([O 0, O 1, O 2, O 3, O 4, O 5, O 6, O 7, O 8, O 9, O 10, O 11, O 12, O 13, O 14, O 15, O 16] : List Value)) ∧ St w0 [] w) ?_ ?_
  · rintro t w ⟨H, hf, hs⟩
    obtain ⟨O, rfl⟩ := hf.open
    show G _ _ _ _ [_, _, _, _, _, _, _, _, _, _, _, _, _, _, _, _, _] _
    unfold laws_eqTops.a0 at H
    refine g_seq ?_
    refine g_region ?_
    show G _ _ _ (.inRegion _ [0] :: _) _ _
    refine g_op (v := Value.bool true) rfl rfl rfl ?_
    show G _ _ _ _ [_, _, _, _, _, _, _, _, _, _, _, _, _, _, _, _, _] _
    refine g_ops_nil ?_
    obtain rfl := Option.some.inj H
    refine g_ret Try.func30 (v := Value.bool true) (res1 rfl rfl) ?_
    have hs : St _ [] _ := St.take (Γ' := []) hs
    exact ⟨_, rfl, rfl, hs⟩
  · intro ha1_
    have hs := hs.pull 0 rfl
    have hs := hs.pull 1 rfl
    have hs : St _ [_, _] _ := St.take (Γ' := []) hs
    refine g_loop_fuel (I := fun n_ t w => ∃ x7 : Int, rounds (fun s => laws_eqTops.b0 N a1 a2 s) n_ x7 = some o1_ ∧ Fr t (fun O => ([O 0, O 1, Value.pointer (some ⟨b3, 0, none⟩), Value.pointer (some ⟨b5, 0, none⟩), O 4, Value.int .i64 x7, O 6, O 7, O 8, O 9, O 10, O 11, O 12, O 13, O 14, O 15, O 16] : List Value)) ∧ St w0 [Cells b3 ((encA (encI .i16)) a1) 37, Cells b5 ((encA (encI .i16)) a2) 37] w) N ⟨0, Ho, rfl, hs⟩ ?_ ?_
    · rintro _ _ ⟨x7, h, _⟩
      exact rounds_zero h
    · intro n_ ih1_
      rintro t w ⟨x7, Ho, hf, hs⟩
      obtain ⟨O, rfl⟩ := hf.open
      show G _ _ _ _ [_, _, _, _, _, _, _, _, _, _, _, _, _, _, _, _, _] _
      obtain ⟨x3_, H, Hx1_⟩ := rounds_succ Ho
      have H : laws_eqTops.b0 N a1 a2 x7 = some x3_ := H
      unfold laws_eqTops.b0 at H
      refine g_seq ?_
      refine g_seq ?_
      refine g_region ?_
      show G _ _ _ (.inRegion _ [0, 1] :: _) _ _
      refine g_op (v := Value.int .i64 x7) rfl rfl rfl ?_
      show G _ _ _ _ [_, _, _, _, _, _, _, _, _, _, _, _, _, _, _, _, _] _
      refine g_op_b (B := decide (x7 < 4)) rfl rfl rfl ?_ ?_
      · intro hb
        rw [if_pos (b_dec_t hb)] at H
        show G _ _ _ _ [_, _, _, _, _, _, _, _, _, _, _, _, _, _, _, _, _] _
        refine g_ops_nil ?_
        refine g_cond_true rfl ?_
        refine g_skip ?_
        refine g_seq ?_
        refine g_block ?_
        refine g_seq ?_
        obtain ⟨gd1, H⟩ := ite_get H
        obtain ⟨gd2, H⟩ := ite_get H
        refine g_name ?_
        intro T hT
        refine g_any (n := 7) rfl [0, 1, 2, 3, 4, 5, 6] [0, 1, 2, 3, 4, 5, 6] rfl rfl (Inv := fun D t w => ∃ O : Nat → Value, t = [O 0, O 1, Value.pointer (some ⟨b3, 0, none⟩), Value.pointer (some ⟨b5, 0, none⟩), O 4, Value.int .i64 x7, Value.int .i64 x7, Value.bool true, O 8, O 9, cnd (D 0) (Value.int .i64 x7) (O 10), cnd (D 1) (Value.pointer (some ⟨b3, 0 + x7.toNat * 1, none⟩)) (O 11), cnd (D 2) (Value.int .i16 (a1.get x7 0)) (O 12), cnd (D 3) (Value.int .i64 x7) (O 13), cnd (D 4) (Value.pointer (some ⟨b5, 0 + x7.toNat * 1, none⟩)) (O 14), cnd (D 5) (Value.int .i16 (a2.get x7 0)) (O 15), cnd (D 6) (Value.bool ((a1.get x7 0) != (a2.get x7 0))) (O 16)] ∧ St w0 [Cells b3 ((encA (encI .i16)) a1) 37, Cells b5 ((encA (encI .i16)) a2) 37] w) ?_ ⟨⟨⟨⟨⟨⟨⟨trivial, ?_⟩, ?_⟩, ?_⟩, ?_⟩, ?_⟩, ?_⟩, ?_⟩ ?_
        · intro w hh hbw
          have hs := hs.samew hh hbw
          exact ⟨fun i => T.getD i undef, (by subst hT; rfl), hs⟩
        · intro D t w hD hp hcl hI rest hk
          obtain ⟨O, ht, hs⟩ := hI
          have q1_ : D 1 = false := not_yet (hcl.get 1 (by decide)) 0 0 rfl hD
          have q2_ : D 2 = false := not_yet (hcl.get 2 (by decide)) 0 1 rfl q1_
          have q6_ : D 6 = false := not_yet (hcl.get 6 (by decide)) 0 2 rfl q2_
          have u0_ : upd D 0 0 = true := rfl
          have u1_ : upd D 0 1 = D 1 := rfl
          have u2_ : upd D 0 2 = D 2 := rfl
          have u3_ : upd D 0 3 = D 3 := rfl
          have u4_ : upd D 0 4 = D 4 := rfl
          have u5_ : upd D 0 5 = D 5 := rfl
          have u6_ : upd D 0 6 = D 6 := rfl
          simp only [hD, q1_, q2_, q6_, cnd_t, cnd_f, Asc_t, Asc_f] at ht hs
          subst ht
          refine g_op (v := Value.int .i64 x7) rfl rfl rfl ?_
          show G _ _ _ _ [_, _, _, _, _, _, _, _, _, _, _, _, _, _, _, _, _] _
          exact hk _ _ ⟨O, (by simp only [u0_, u1_, u2_, u3_, u4_, u5_, u6_, q1_, q2_, q6_, cnd_t, cnd_f, Asc_t, Asc_f]), hs.cast (by first | rfl | simp only [List.take, List.drop, List.cons_append, List.nil_append, List.set_cons_zero, List.set_cons_succ, List.eraseIdx, u0_, u1_, u2_, u3_, u4_, u5_, u6_, q1_, q2_, q6_, cnd_t, cnd_f, Asc_t, Asc_f])⟩
        · intro D t w hD hp hcl hI rest hk
          obtain ⟨O, ht, hs⟩ := hI
          obtain ⟨p0_, _⟩ := hp
          have q2_ : D 2 = false := not_yet (hcl.get 2 (by decide)) 0 1 rfl hD
          have q6_ : D 6 = false := not_yet (hcl.get 6 (by decide)) 0 2 rfl q2_
          have u0_ : upd D 1 0 = D 0 := rfl
          have u1_ : upd D 1 1 = true := rfl
          have u2_ : upd D 1 2 = D 2 := rfl
          have u3_ : upd D 1 3 = D 3 := rfl
          have u4_ : upd D 1 4 = D 4 := rfl
          have u5_ : upd D 1 5 = D 5 := rfl
          have u6_ : upd D 1 6 = D 6 := rfl
          simp only [hD, p0_, q2_, q6_, cnd_t, cnd_f, Asc_t, Asc_f] at ht hs
          subst ht
          refine s_idxA (n := x7) (m := 1) rfl (fun _ => rfl) gd1.1 gd1.2 rfl rfl rfl rfl rfl ?_
          show G _ _ _ _ [_, _, _, _, _, _, _, _, _, _, _, _, _, _, _, _, _] _
          exact hk _ _ ⟨O, (by simp only [u0_, u1_, u2_, u3_, u4_, u5_, u6_, p0_, q2_, q6_, cnd_t, cnd_f, Asc_t, Asc_f]), hs.cast (by first | rfl | simp only [List.take, List.drop, List.cons_append, List.nil_append, List.set_cons_zero, List.set_cons_succ, List.eraseIdx, u0_, u1_, u2_, u3_, u4_, u5_, u6_, p0_, q2_, q6_, cnd_t, cnd_f, Asc_t, Asc_f])⟩
        · intro D t w hD hp hcl hI rest hk
          obtain ⟨O, ht, hs⟩ := hI
          obtain ⟨p1_, _⟩ := hp
          obtain ⟨p0_, _⟩ := hcl.get 1 (by decide) p1_
          have q6_ : D 6 = false := not_yet (hcl.get 6 (by decide)) 0 2 rfl hD
          have u0_ : upd D 2 0 = D 0 := rfl
          have u1_ : upd D 2 1 = D 1 := rfl
          have u2_ : upd D 2 2 = true := rfl
          have u3_ : upd D 2 3 = D 3 := rfl
          have u4_ : upd D 2 4 = D 4 := rfl
          have u5_ : upd D 2 5 = D 5 := rfl
          have u6_ : upd D 2 6 = D 6 := rfl
          simp only [hD, p0_, p1_, q6_, cnd_t, cnd_f, Asc_t, Asc_f] at ht hs
          subst ht
          refine s_load1 rfl rfl (v := Value.int .i16 (a1.get x7 0)) rfl rfl (fun _ => rfl) (by rw [Nat.zero_add]; exact cells_load (hs.cells 0 rfl) _ _ (encA_at (fkI .i16).len _ _ 0 gd1.1 gd1.2)) ?_
          show G _ _ _ _ [_, _, _, _, _, _, _, _, _, _, _, _, _, _, _, _, _] _
          exact hk _ _ ⟨O, (by simp only [u0_, u1_, u2_, u3_, u4_, u5_, u6_, p0_, p1_, q6_, cnd_t, cnd_f, Asc_t, Asc_f]), hs.cast (by first | rfl | simp only [List.take, List.drop, List.cons_append, List.nil_append, List.set_cons_zero, List.set_cons_succ, List.eraseIdx, u0_, u1_, u2_, u3_, u4_, u5_, u6_, p0_, p1_, q6_, cnd_t, cnd_f, Asc_t, Asc_f])⟩
        · intro D t w hD hp hcl hI rest hk
          obtain ⟨O, ht, hs⟩ := hI
          have q4_ : D 4 = false := not_yet (hcl.get 4 (by decide)) 0 3 rfl hD
          have q5_ : D 5 = false := not_yet (hcl.get 5 (by decide)) 0 4 rfl q4_
          have q6_ : D 6 = false := not_yet (hcl.get 6 (by decide)) 1 5 rfl q5_
          have u0_ : upd D 3 0 = D 0 := rfl
          have u1_ : upd D 3 1 = D 1 := rfl
          have u2_ : upd D 3 2 = D 2 := rfl
          have u3_ : upd D 3 3 = true := rfl
          have u4_ : upd D 3 4 = D 4 := rfl
          have u5_ : upd D 3 5 = D 5 := rfl
          have u6_ : upd D 3 6 = D 6 := rfl
          simp only [hD, q4_, q5_, q6_, cnd_t, cnd_f, Asc_t, Asc_f] at ht hs
          subst ht
          refine g_op (v := Value.int .i64 x7) rfl rfl rfl ?_
          show G _ _ _ _ [_, _, _, _, _, _, _, _, _, _, _, _, _, _, _, _, _] _
          exact hk _ _ ⟨O, (by simp only [u0_, u1_, u2_, u3_, u4_, u5_, u6_, q4_, q5_, q6_, cnd_t, cnd_f, Asc_t, Asc_f]), hs.cast (by first | rfl | simp only [List.take, List.drop, List.cons_append, List.nil_append, List.set_cons_zero, List.set_cons_succ, List.eraseIdx, u0_, u1_, u2_, u3_, u4_, u5_, u6_, q4_, q5_, q6_, cnd_t, cnd_f, Asc_t, Asc_f])⟩
        · intro D t w hD hp hcl hI rest hk
          obtain ⟨O, ht, hs⟩ := hI
          obtain ⟨p3_, _⟩ := hp
          have q5_ : D 5 = false := not_yet (hcl.get 5 (by decide)) 0 4 rfl hD
          have q6_ : D 6 = false := not_yet (hcl.get 6 (by decide)) 1 5 rfl q5_
          have u0_ : upd D 4 0 = D 0 := rfl
          have u1_ : upd D 4 1 = D 1 := rfl
          have u2_ : upd D 4 2 = D 2 := rfl
          have u3_ : upd D 4 3 = D 3 := rfl
          have u4_ : upd D 4 4 = true := rfl
          have u5_ : upd D 4 5 = D 5 := rfl
          have u6_ : upd D 4 6 = D 6 := rfl
          simp only [hD, p3_, q5_, q6_, cnd_t, cnd_f, Asc_t, Asc_f] at ht hs
          subst ht
          refine s_idxA (n := x7) (m := 1) rfl (fun _ => rfl) gd2.1 gd2.2 rfl rfl rfl rfl rfl ?_
          show G _ _ _ _ [_, _, _, _, _, _, _, _, _, _, _, _, _, _, _, _, _] _
          exact hk _ _ ⟨O, (by simp only [u0_, u1_, u2_, u3_, u4_, u5_, u6_, p3_, q5_, q6_, cnd_t, cnd_f, Asc_t, Asc_f]), hs.cast (by first | rfl | simp only [List.take, List.drop, List.cons_append, List.nil_append, List.set_cons_zero, List.set_cons_succ, List.eraseIdx, u0_, u1_, u2_, u3_, u4_, u5_, u6_, p3_, q5_, q6_, cnd_t, cnd_f, Asc_t, Asc_f])⟩
        · intro D t w hD hp hcl hI rest hk
          obtain ⟨O, ht, hs⟩ := hI
          obtain ⟨p4_, _⟩ := hp
          obtain ⟨p3_, _⟩ := hcl.get 4 (by decide) p4_
          have q6_ : D 6 = false := not_yet (hcl.get 6 (by decide)) 1 5 rfl hD
          have u0_ : upd D 5 0 = D 0 := rfl
          have u1_ : upd D 5 1 = D 1 := rfl
          have u2_ : upd D 5 2 = D 2 := rfl
          have u3_ : upd D 5 3 = D 3 := rfl
          have u4_ : upd D 5 4 = D 4 := rfl
          have u5_ : upd D 5 5 = true := rfl
          have u6_ : upd D 5 6 = D 6 := rfl
          simp only [hD, p3_, p4_, q6_, cnd_t, cnd_f, Asc_t, Asc_f] at ht hs
          subst ht
          refine s_load1 rfl rfl (v := Value.int .i16 (a2.get x7 0)) rfl rfl (fun _ => rfl) (by rw [Nat.zero_add]; exact cells_load (hs.cells 1 rfl) _ _ (encA_at (fkI .i16).len _ _ 0 gd2.1 gd2.2)) ?_
          show G _ _ _ _ [_, _, _, _, _, _, _, _, _, _, _, _, _, _, _, _, _] _
          exact hk _ _ ⟨O, (by simp only [u0_, u1_, u2_, u3_, u4_, u5_, u6_, p3_, p4_, q6_, cnd_t, cnd_f, Asc_t, Asc_f]), hs.cast (by first | rfl | simp only [List.take, List.drop, List.cons_append, List.nil_append, List.set_cons_zero, List.set_cons_succ, List.eraseIdx, u0_, u1_, u2_, u3_, u4_, u5_, u6_, p3_, p4_, q6_, cnd_t, cnd_f, Asc_t, Asc_f])⟩
        · intro D t w hD hp hcl hI rest hk
          obtain ⟨O, ht, hs⟩ := hI
          obtain ⟨p2_, p5_, _⟩ := hp
          obtain ⟨p4_, _⟩ := hcl.get 5 (by decide) p5_
          obtain ⟨p3_, _⟩ := hcl.get 4 (by decide) p4_
          obtain ⟨p1_, _⟩ := hcl.get 2 (by decide) p2_
          obtain ⟨p0_, _⟩ := hcl.get 1 (by decide) p1_
          have u0_ : upd D 6 0 = D 0 := rfl
          have u1_ : upd D 6 1 = D 1 := rfl
          have u2_ : upd D 6 2 = D 2 := rfl
          have u3_ : upd D 6 3 = D 3 := rfl
          have u4_ : upd D 6 4 = D 4 := rfl
          have u5_ : upd D 6 5 = D 5 := rfl
          have u6_ : upd D 6 6 = true := rfl
          simp only [hD, p0_, p1_, p2_, p3_, p4_, p5_, cnd_t, cnd_f, Asc_t, Asc_f] at ht hs
          subst ht
          refine g_op (v := Value.bool ((a1.get x7 0) != (a2.get x7 0))) rfl rfl rfl ?_
          show G _ _ _ _ [_, _, _, _, _, _, _, _, _, _, _, _, _, _, _, _, _] _
          exact hk _ _ ⟨O, (by simp only [u0_, u1_, u2_, u3_, u4_, u5_, u6_, p0_, p1_, p2_, p3_, p4_, p5_, cnd_t, cnd_f, Asc_t, Asc_f]), hs.cast (by first | rfl | simp only [List.take, List.drop, List.cons_append, List.nil_append, List.set_cons_zero, List.set_cons_succ, List.eraseIdx, u0_, u1_, u2_, u3_, u4_, u5_, u6_, p0_, p1_, p2_, p3_, p4_, p5_, cnd_t, cnd_f, Asc_t, Asc_f])⟩
        · intro D t w hall hI
          obtain ⟨O, ht, hs⟩ := hI
          have p0_ := hall 0 (by decide)
          have p1_ := hall 1 (by decide)
          have p2_ := hall 2 (by decide)
          have p3_ := hall 3 (by decide)
          have p4_ := hall 4 (by decide)
          have p5_ := hall 5 (by decide)
          have p6_ := hall 6 (by decide)
          simp only [p0_, p1_, p2_, p3_, p4_, p5_, p6_, cnd_t, cnd_f, Asc_t, Asc_f] at ht hs
          subst ht
          refine g_cond_b (b := (a1.get x7 0) != (a2.get x7 0)) rfl ?_ ?_
          · intro hb
            rw [if_neg (b_bne_t hb)] at H
            refine g_seq ?_
            refine g_region ?_
            show G _ _ _ (.inRegion _ [0] :: _) _ _
            refine g_op (v := Value.bool false) rfl rfl rfl ?_
            show G _ _ _ _ [_, _, _, _, _, _, _, _, _, _, _, _, _, _, _, _, _] _
            refine g_ops_nil ?_
            obtain rfl := Option.some.inj H
            subst Hx1_
            have H := Option.some.inj Hr1_
            subst H
            refine g_ret Try.func30 (v := Value.bool false) (res1 rfl rfl) ?_
            have hs : St _ [] _ := St.take (Γ' := [_, _]) hs
            exact ⟨_, rfl, rfl, hs⟩
          · intro hb
            rw [if_pos (b_bne_f hb)] at H
            refine g_skip ?_
            refine g_inBlock ?_
            refine g_region ?_
            show G _ _ _ (.inRegion _ [0, 1, 2] :: _) _ _
            refine g_op (v := Value.int .i64 x7) rfl rfl rfl ?_
            show G _ _ _ _ [_, _, _, _, _, _, _, _, _, _, _, _, _, _, _, _, _] _
            refine g_op (v := Value.int .i64 (i64w (x7 + 1))) rfl rfl rfl ?_
            show G _ _ _ _ [_, _, _, _, _, _, _, _, _, _, _, _, _, _, _, _, _] _
            refine g_op (v := Value.int .i64 (i64w (x7 + 1))) rfl rfl rfl ?_
            show G _ _ _ _ [_, _, _, _, _, _, _, _, _, _, _, _, _, _, _, _, _] _
            refine g_ops_nil ?_
            obtain rfl := Option.some.inj H
            have hs := hs.pull 1 rfl
            have hs := hs.pull 1 rfl
            have hs : St _ [_, _] _ := St.take (Γ' := []) hs
            exact ih1_ _ _ ⟨i64w (x7 + 1), Hx1_, rfl, hs⟩
      · intro hb
        rw [if_neg (b_dec_f hb)] at H
        show G _ _ _ _ [_, _, _, _, _, _, _, _, _, _, _, _, _, _, _, _, _] _
        refine g_ops_nil ?_
        refine g_cond_false rfl ?_
        obtain rfl := Option.some.inj H
        subst Hx1_
        have hs : St _ [] _ := St.take (Γ' := [_, _]) hs
        refine g_exit rfl ?_
        exact ha1_ _ _ ⟨Hr1_, rfl, hs⟩

end Go.Proofs.YtgachgjcnmeicaaX
