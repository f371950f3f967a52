/- Contracts, printed by gen.py. -/
import Derived.Test.YtgachgjcnmeicaaXC2
namespace Go.Proofs.YtgachgjcnmeicaaX
open Go Go.RowKit Go.Proofs
set_option linter.unusedVariables false
set_option linter.unusedSimpArgs false
/- function 4 laws_FnExactTurnsIn -/
def laws_FnExactTurnsIn.post (w0 : World) (r : Bool) (v : Value) (w : World) : Prop := v = Value.bool r ∧ St w0 [] w
set_option maxHeartbeats 400000 in
set_option maxRecDepth 100000 in
theorem laws_FnExactTurnsIn.calls {N : Nat} {a1 : (List Int)} {v2 : Value} {w0 : World} {r : Bool} (hr0 : RdRow (K.int .u8) w0 v2 a1) (H : laws_FnExactTurnsIn.f N a1 = some r) :
    Calls Try.prog 4 #[v2] w0 fun e w => ∃ v, e = .returned v ∧ laws_FnExactTurnsIn.post w0 r v w := by
  unfold laws_FnExactTurnsIn.f at H
  have hs : St w0 [] w0 := St.refl w0
  refine calls_of_g (n := 36) Try.func4 rfl rfl ?_
  show G _ _ _ _ [_, _, _, _, _, _, _, _, _, _, _, _, _, _, _, _, _, _, _, _, _, _, _, _, _, _, _, _, _, _, _, _, _, _, _, _, _] _
  refine g_seq ?_
  refine g_region ?_
  show G _ _ _ (.inRegion _ [0] :: _) _ _
  refine g_op (v := Value.bool false) rfl rfl rfl ?_
  show G _ _ _ _ [_, _, _, _, _, _, _, _, _, _, _, _, _, _, _, _, _, _, _, _, _, _, _, _, _, _, _, _, _, _, _, _, _, _, _, _, _] _
  refine g_ops_nil ?_
  refine g_seq ?_
  refine g_seq ?_
  refine g_region ?_
  show G _ _ _ (.inRegion _ [0, 1, 2] :: _) _ _
  refine g_op (v := v2) rfl rfl rfl ?_
  show G _ _ _ _ [_, _, _, _, _, _, _, _, _, _, _, _, _, _, _, _, _, _, _, _, _, _, _, _, _, _, _, _, _, _, _, _, _, _, _, _, _] _
  refine s_len (hs.rd hr0) rfl rfl rfl rfl rfl ?_
  show G _ _ _ _ [_, _, _, _, _, _, _, _, _, _, _, _, _, _, _, _, _, _, _, _, _, _, _, _, _, _, _, _, _, _, _, _, _, _, _, _, _] _
  refine g_op_b (B := decide ((a1.length : Int) > 1048576)) rfl rfl rfl ?_ ?_
  · intro hb
    rw [if_pos (b_dec_t hb)] at H
    show G _ _ _ _ [_, _, _, _, _, _, _, _, _, _, _, _, _, _, _, _, _, _, _, _, _, _, _, _, _, _, _, _, _, _, _, _, _, _, _, _, _] _
    refine g_ops_nil ?_
    refine g_cond_true rfl ?_
    refine g_seq ?_
    refine g_region ?_
    show G _ _ _ (.inRegion _ [0] :: _) _ _
    refine g_op (v := Value.bool true) rfl rfl rfl ?_
    show G _ _ _ _ [_, _, _, _, _, _, _, _, _, _, _, _, _, _, _, _, _, _, _, _, _, _, _, _, _, _, _, _, _, _, _, _, _, _, _, _, _] _
    refine g_ops_nil ?_
    obtain rfl := Option.some.inj H
    refine g_ret Try.func4 (v := Value.bool true) (res1 rfl rfl) ?_
    have hs : St _ [] _ := St.take (Γ' := []) hs
    exact ⟨_, rfl, rfl, hs⟩
  · intro hb
    rw [if_neg (b_dec_f hb)] at H
    show G _ _ _ _ [_, _, _, _, _, _, _, _, _, _, _, _, _, _, _, _, _, _, _, _, _, _, _, _, _, _, _, _, _, _, _, _, _, _, _, _, _] _
    refine g_ops_nil ?_
    refine g_cond_false rfl ?_
    refine g_skip ?_
    refine g_seq ?_
    refine g_region ?_
    show G _ _ _ (.inRegion _ [0, 1, 2, 3, 4, 5, 6, 7] :: _) _ _
    refine g_op (v := v2) rfl rfl rfl ?_
    show G _ _ _ _ [_, _, _, _, _, _, _, _, _, _, _, _, _, _, _, _, _, _, _, _, _, _, _, _, _, _, _, _, _, _, _, _, _, _, _, _, _] _
    obtain ⟨r3, Hr3, H⟩ := bind_get H
    refine s_call (args := [v2]) rfl rfl (x_call rfl (callFunc_enter Try.func18 rfl rfl) rfl) (laws_toByteS.calls (a1 := a1) (hs.rd hr0) Hr3) ?_
    intro v4 w hs2
    have hs : St _ [_] _ := hs.call hs2
    show G _ _ _ _ [_, _, _, _, _, _, _, _, _, _, _, _, _, _, _, _, _, _, _, _, _, _, _, _, _, _, _, _, _, _, _, _, _, _, _, _, _] _
    obtain ⟨r6, Hr6, H⟩ := bind_get H
    refine s_call (args := [v4]) rfl rfl (x_call rfl (callFunc_enter Try.func17 rfl rfl) rfl) (spec_TurnsIn.calls (a1 := r3) (hs.row 0 rfl) Hr6) ?_
    rintro _ w ⟨rfl, hs2⟩
    have hs : St _ [_] _ := hs.call hs2
    show G _ _ _ _ [_, _, _, _, _, _, _, _, _, _, _, _, _, _, _, _, _, _, _, _, _, _, _, _, _, _, _, _, _, _, _, _, _, _, _, _, _] _
    refine g_op (v := Value.tuple #[Value.int .i64 r6.1, Value.int .i64 r6.2]) rfl rfl rfl ?_
    show G _ _ _ _ [_, _, _, _, _, _, _, _, _, _, _, _, _, _, _, _, _, _, _, _, _, _, _, _, _, _, _, _, _, _, _, _, _, _, _, _, _] _
    refine g_op (v := Value.int .i64 r6.1) rfl rfl rfl ?_
    show G _ _ _ _ [_, _, _, _, _, _, _, _, _, _, _, _, _, _, _, _, _, _, _, _, _, _, _, _, _, _, _, _, _, _, _, _, _, _, _, _, _] _
    refine g_op (v := Value.int .i64 r6.2) rfl rfl rfl ?_
    show G _ _ _ _ [_, _, _, _, _, _, _, _, _, _, _, _, _, _, _, _, _, _, _, _, _, _, _, _, _, _, _, _, _, _, _, _, _, _, _, _, _] _
    refine g_op (v := Value.int .i64 r6.1) rfl rfl rfl ?_
    show G _ _ _ _ [_, _, _, _, _, _, _, _, _, _, _, _, _, _, _, _, _, _, _, _, _, _, _, _, _, _, _, _, _, _, _, _, _, _, _, _, _] _
    refine g_op (v := Value.int .i64 r6.2) rfl rfl rfl ?_
    show G _ _ _ _ [_, _, _, _, _, _, _, _, _, _, _, _, _, _, _, _, _, _, _, _, _, _, _, _, _, _, _, _, _, _, _, _, _, _, _, _, _] _
    refine g_ops_nil ?_
    refine g_seq ?_
    refine g_region ?_
    show G _ _ _ (.inRegion _ [0, 1, 2] :: _) _ _
    refine g_op (v := v2) rfl rfl rfl ?_
    show G _ _ _ _ [_, _, _, _, _, _, _, _, _, _, _, _, _, _, _, _, _, _, _, _, _, _, _, _, _, _, _, _, _, _, _, _, _, _, _, _, _] _
    obtain ⟨r7, Hr7, H⟩ := bind_get H
    refine s_call (args := [v2]) rfl rfl (x_call rfl (callFunc_enter Try.func18 rfl rfl) rfl) (laws_toByteS.calls (a1 := a1) (hs.rd hr0) Hr7) ?_
    intro v8 w hs2
    have hs : St _ [_, _] _ := hs.call hs2
    show G _ _ _ _ [_, _, _, _, _, _, _, _, _, _, _, _, _, _, _, _, _, _, _, _, _, _, _, _, _, _, _, _, _, _, _, _, _, _, _, _, _] _
    refine g_op (v := v8) rfl rfl rfl ?_
    show G _ _ _ _ [_, _, _, _, _, _, _, _, _, _, _, _, _, _, _, _, _, _, _, _, _, _, _, _, _, _, _, _, _, _, _, _, _, _, _, _, _] _
    refine g_ops_nil ?_
    refine g_seq ?_
    refine g_region ?_
    show G _ _ _ (.inRegion _ [0, 1, 2, 3, 4, 5, 6] :: _) _ _
    refine g_op (v := v8) rfl rfl rfl ?_
    show G _ _ _ _ [_, _, _, _, _, _, _, _, _, _, _, _, _, _, _, _, _, _, _, _, _, _, _, _, _, _, _, _, _, _, _, _, _, _, _, _, _] _
    obtain ⟨r10, Hr10, H⟩ := bind_get H
    refine s_call (args := [v8]) rfl rfl (x_call rfl (callFunc_enter Try.func19 rfl rfl) rfl) (impl_TurnsIn.calls (a1 := r7) (hs.row 0 rfl) Hr10) ?_
    rintro _ w ⟨rfl, hs2⟩
    have hs : St _ [_, _] _ := hs.call hs2
    show G _ _ _ _ [_, _, _, _, _, _, _, _, _, _, _, _, _, _, _, _, _, _, _, _, _, _, _, _, _, _, _, _, _, _, _, _, _, _, _, _, _] _
    refine g_op (v := Value.tuple #[Value.int .i64 r10.1, Value.int .i64 r10.2]) rfl rfl rfl ?_
    show G _ _ _ _ [_, _, _, _, _, _, _, _, _, _, _, _, _, _, _, _, _, _, _, _, _, _, _, _, _, _, _, _, _, _, _, _, _, _, _, _, _] _
    refine g_op (v := Value.int .i64 r10.1) rfl rfl rfl ?_
    show G _ _ _ _ [_, _, _, _, _, _, _, _, _, _, _, _, _, _, _, _, _, _, _, _, _, _, _, _, _, _, _, _, _, _, _, _, _, _, _, _, _] _
    refine g_op (v := Value.int .i64 r10.2) rfl rfl rfl ?_
    show G _ _ _ _ [_, _, _, _, _, _, _, _, _, _, _, _, _, _, _, _, _, _, _, _, _, _, _, _, _, _, _, _, _, _, _, _, _, _, _, _, _] _
    refine g_op (v := Value.int .i64 r10.1) rfl rfl rfl ?_
    show G _ _ _ _ [_, _, _, _, _, _, _, _, _, _, _, _, _, _, _, _, _, _, _, _, _, _, _, _, _, _, _, _, _, _, _, _, _, _, _, _, _] _
    refine g_op (v := Value.int .i64 r10.2) rfl rfl rfl ?_
    show G _ _ _ _ [_, _, _, _, _, _, _, _, _, _, _, _, _, _, _, _, _, _, _, _, _, _, _, _, _, _, _, _, _, _, _, _, _, _, _, _, _] _
    refine g_ops_nil ?_
    refine g_seq ?_
    refine g_seq ?_
    refine g_region ?_
    show G _ _ _ (.inRegion _ [0, 1, 2, 3, 4, 5, 6, 7] :: _) _ _
    refine g_op (v := Value.int .i64 r10.1) rfl rfl rfl ?_
    show G _ _ _ _ [_, _, _, _, _, _, _, _, _, _, _, _, _, _, _, _, _, _, _, _, _, _, _, _, _, _, _, _, _, _, _, _, _, _, _, _, _] _
    refine g_op (v := Value.int .i64 r6.1) rfl rfl rfl ?_
    show G _ _ _ _ [_, _, _, _, _, _, _, _, _, _, _, _, _, _, _, _, _, _, _, _, _, _, _, _, _, _, _, _, _, _, _, _, _, _, _, _, _] _
    refine g_op_b (B := r10.1 != r6.1) rfl rfl rfl ?_ ?_
    · intro hb
      rw [if_neg (b_bne_t hb)] at H
      show G _ _ _ _ [_, _, _, _, _, _, _, _, _, _, _, _, _, _, _, _, _, _, _, _, _, _, _, _, _, _, _, _, _, _, _, _, _, _, _, _, _] _
      refine g_op (v := Value.bool true) rfl rfl rfl ?_
      show G _ _ _ _ [_, _, _, _, _, _, _, _, _, _, _, _, _, _, _, _, _, _, _, _, _, _, _, _, _, _, _, _, _, _, _, _, _, _, _, _, _] _
      refine g_op_not rfl rfl ?_
      show G _ _ _ _ [_, _, _, _, _, _, _, _, _, _, _, _, _, _, _, _, _, _, _, _, _, _, _, _, _, _, _, _, _, _, _, _, _, _, _, _, _] _
      refine g_op_not rfl rfl ?_
      show G _ _ _ _ [_, _, _, _, _, _, _, _, _, _, _, _, _, _, _, _, _, _, _, _, _, _, _, _, _, _, _, _, _, _, _, _, _, _, _, _, _] _
      refine g_op_not rfl rfl ?_
      show G _ _ _ _ [_, _, _, _, _, _, _, _, _, _, _, _, _, _, _, _, _, _, _, _, _, _, _, _, _, _, _, _, _, _, _, _, _, _, _, _, _] _
      refine g_op (v := Value.bool true) rfl rfl rfl ?_
      show G _ _ _ _ [_, _, _, _, _, _, _, _, _, _, _, _, _, _, _, _, _, _, _, _, _, _, _, _, _, _, _, _, _, _, _, _, _, _, _, _, _] _
      refine g_ops_nil ?_
      refine g_cond_true rfl ?_
      refine g_seq ?_
      refine g_region ?_
      show G _ _ _ (.inRegion _ [0] :: _) _ _
      refine g_op (v := Value.bool false) rfl rfl rfl ?_
      show G _ _ _ _ [_, _, _, _, _, _, _, _, _, _, _, _, _, _, _, _, _, _, _, _, _, _, _, _, _, _, _, _, _, _, _, _, _, _, _, _, _] _
      refine g_ops_nil ?_
      obtain rfl := Option.some.inj H
      refine g_ret Try.func4 (v := Value.bool false) (res1 rfl rfl) ?_
      have hs : St _ [] _ := St.take (Γ' := [_, _]) hs
      exact ⟨_, rfl, rfl, hs⟩
    · intro hb
      rw [if_pos (b_bne_f hb)] at H
      show G _ _ _ _ [_, _, _, _, _, _, _, _, _, _, _, _, _, _, _, _, _, _, _, _, _, _, _, _, _, _, _, _, _, _, _, _, _, _, _, _, _] _
      refine g_op (v := Value.bool false) rfl rfl rfl ?_
      show G _ _ _ _ [_, _, _, _, _, _, _, _, _, _, _, _, _, _, _, _, _, _, _, _, _, _, _, _, _, _, _, _, _, _, _, _, _, _, _, _, _] _
      refine g_op (v := Value.int .i64 r10.2) rfl rfl rfl ?_
      show G _ _ _ _ [_, _, _, _, _, _, _, _, _, _, _, _, _, _, _, _, _, _, _, _, _, _, _, _, _, _, _, _, _, _, _, _, _, _, _, _, _] _
      refine g_op (v := Value.int .i64 r6.2) rfl rfl rfl ?_
      show G _ _ _ _ [_, _, _, _, _, _, _, _, _, _, _, _, _, _, _, _, _, _, _, _, _, _, _, _, _, _, _, _, _, _, _, _, _, _, _, _, _] _
      refine g_op_b (B := r10.2 != r6.2) rfl rfl rfl ?_ ?_
      · intro hb
        rw [if_neg (b_bne_t hb)] at H
        show G _ _ _ _ [_, _, _, _, _, _, _, _, _, _, _, _, _, _, _, _, _, _, _, _, _, _, _, _, _, _, _, _, _, _, _, _, _, _, _, _, _] _
        refine g_op (v := Value.bool true) rfl rfl rfl ?_
        show G _ _ _ _ [_, _, _, _, _, _, _, _, _, _, _, _, _, _, _, _, _, _, _, _, _, _, _, _, _, _, _, _, _, _, _, _, _, _, _, _, _] _
        refine g_ops_nil ?_
        refine g_cond_true rfl ?_
        refine g_seq ?_
        refine g_region ?_
        show G _ _ _ (.inRegion _ [0] :: _) _ _
        refine g_op (v := Value.bool false) rfl rfl rfl ?_
        show G _ _ _ _ [_, _, _, _, _, _, _, _, _, _, _, _, _, _, _, _, _, _, _, _, _, _, _, _, _, _, _, _, _, _, _, _, _, _, _, _, _] _
        refine g_ops_nil ?_
        obtain rfl := Option.some.inj H
        refine g_ret Try.func4 (v := Value.bool false) (res1 rfl rfl) ?_
        have hs : St _ [] _ := St.take (Γ' := [_, _]) hs
        exact ⟨_, rfl, rfl, hs⟩
      · intro hb
        rw [if_pos (b_bne_f hb)] at H
        show G _ _ _ _ [_, _, _, _, _, _, _, _, _, _, _, _, _, _, _, _, _, _, _, _, _, _, _, _, _, _, _, _, _, _, _, _, _, _, _, _, _] _
        refine g_op (v := Value.bool false) rfl rfl rfl ?_
        show G _ _ _ _ [_, _, _, _, _, _, _, _, _, _, _, _, _, _, _, _, _, _, _, _, _, _, _, _, _, _, _, _, _, _, _, _, _, _, _, _, _] _
        refine g_ops_nil ?_
        refine g_cond_false rfl ?_
        refine g_skip ?_
        refine g_seq ?_
        refine g_seq ?_
        refine g_region ?_
        show G _ _ _ (.inRegion _ [0, 1, 2, 3, 4] :: _) _ _
        refine g_op (v := v8) rfl rfl rfl ?_
        show G _ _ _ _ [_, _, _, _, _, _, _, _, _, _, _, _, _, _, _, _, _, _, _, _, _, _, _, _, _, _, _, _, _, _, _, _, _, _, _, _, _] _
        refine g_op (v := v2) rfl rfl rfl ?_
        show G _ _ _ _ [_, _, _, _, _, _, _, _, _, _, _, _, _, _, _, _, _, _, _, _, _, _, _, _, _, _, _, _, _, _, _, _, _, _, _, _, _] _
        obtain ⟨r11, Hr11, H⟩ := bind_get H
        refine s_call (args := [v2]) rfl rfl (x_call rfl (callFunc_enter Try.func18 rfl rfl) rfl) (laws_toByteS.calls (a1 := a1) (hs.rd hr0) Hr11) ?_
        intro v12 w hs2
        have hs : St _ [_, _, _] _ := hs.call hs2
        show G _ _ _ _ [_, _, _, _, _, _, _, _, _, _, _, _, _, _, _, _, _, _, _, _, _, _, _, _, _, _, _, _, _, _, _, _, _, _, _, _, _] _
        obtain ⟨r14, Hr14, H⟩ := bind_get H
        refine s_call (args := [v8, v12]) rfl rfl (x_call rfl (callFunc_enter Try.func20 rfl rfl) rfl) (laws_eqByteS.calls (a1 := r7) (a3 := r11) (hs.row 1 rfl) (hs.row 0 rfl) Hr14) ?_
        rintro _ w ⟨rfl, hs2⟩
        have hs : St _ [_, _, _] _ := hs.call hs2
        cases r14 with
        | true =>
          rw [if_pos rfl] at H
          show G _ _ _ _ [_, _, _, _, _, _, _, _, _, _, _, _, _, _, _, _, _, _, _, _, _, _, _, _, _, _, _, _, _, _, _, _, _, _, _, _, _] _
          refine g_op (v := Value.bool false) rfl rfl rfl ?_
          show G _ _ _ _ [_, _, _, _, _, _, _, _, _, _, _, _, _, _, _, _, _, _, _, _, _, _, _, _, _, _, _, _, _, _, _, _, _, _, _, _, _] _
          refine g_ops_nil ?_
          refine g_cond_false rfl ?_
          refine g_skip ?_
          refine g_seq ?_
          refine g_region ?_
          show G _ _ _ (.inRegion _ [0] :: _) _ _
          refine g_op (v := Value.bool true) rfl rfl rfl ?_
          show G _ _ _ _ [_, _, _, _, _, _, _, _, _, _, _, _, _, _, _, _, _, _, _, _, _, _, _, _, _, _, _, _, _, _, _, _, _, _, _, _, _] _
          refine g_ops_nil ?_
          obtain rfl := Option.some.inj H
          refine g_ret Try.func4 (v := Value.bool true) (res1 rfl rfl) ?_
          have hs : St _ [] _ := St.take (Γ' := [_, _, _]) hs
          exact ⟨_, rfl, rfl, hs⟩
        | false =>
          rw [if_neg Bool.false_ne_true] at H
          show G _ _ _ _ [_, _, _, _, _, _, _, _, _, _, _, _, _, _, _, _, _, _, _, _, _, _, _, _, _, _, _, _, _, _, _, _, _, _, _, _, _] _
          refine g_op (v := Value.bool true) rfl rfl rfl ?_
          show G _ _ _ _ [_, _, _, _, _, _, _, _, _, _, _, _, _, _, _, _, _, _, _, _, _, _, _, _, _, _, _, _, _, _, _, _, _, _, _, _, _] _
          refine g_ops_nil ?_
          refine g_cond_true rfl ?_
          refine g_seq ?_
          refine g_region ?_
          show G _ _ _ (.inRegion _ [0] :: _) _ _
          refine g_op (v := Value.bool false) rfl rfl rfl ?_
          show G _ _ _ _ [_, _, _, _, _, _, _, _, _, _, _, _, _, _, _, _, _, _, _, _, _, _, _, _, _, _, _, _, _, _, _, _, _, _, _, _, _] _
          refine g_ops_nil ?_
          obtain rfl := Option.some.inj H
          refine g_ret Try.func4 (v := Value.bool false) (res1 rfl rfl) ?_
          have hs : St _ [] _ := St.take (Γ' := [_, _, _]) hs
          exact ⟨_, rfl, rfl, hs⟩

/- function 22 laws_toTops -/
def laws_toTops.post (w0 : World) (r : (Ar Int 4)) (v : Value) (w : World) : Prop := v = Value.agg ((encA (encI .i16)) r).toArray ∧ St w0 [] w
set_option maxHeartbeats 400000 in
set_option maxRecDepth 100000 in
theorem laws_toTops.calls {N : Nat} {a1 : (Ar Int 4)} {w0 : World} {r : (Ar Int 4)} (H : laws_toTops.f N a1 = some r) :
    Calls Try.prog 22 #[Value.agg ((encA (encI .i16)) a1).toArray] w0 fun e w => ∃ v, e = .returned v ∧ laws_toTops.post w0 r v w := by
  unfold laws_toTops.f at H
  have hs : St w0 [] w0 := St.refl w0
  refine calls_of_g (n := 14) Try.func22 rfl rfl ?_
  show G _ _ _ _ [_, _, _, _, _, _, _, _, _, _, _, _, _, _, _] _
  refine g_seq ?_
  refine g_region ?_
  show G _ _ _ (.inRegion _ [0, 1] :: _) _ _
  refine s_box hs rfl rfl (cs := ((encA (encI .i16)) a1)) rfl rfl ?_
  intro b2 w hs
  show G _ _ _ _ [_, _, _, _, _, _, _, _, _, _, _, _, _, _, _] _
  refine s_alloc hs rfl rfl (z := (Value.agg #[Value.int .i16 0, Value.int .i16 0, Value.int .i16 0, Value.int .i16 0])) (cs := ((encA (encI .i16)) (Ar.rep 4 0))) rfl (fun _ => rfl) rfl ?_
  intro b4 w hs
  show G _ _ _ _ [_, _, _, _, _, _, _, _, _, _, _, _, _, _, _] _
  refine g_ops_nil ?_
  refine g_seq ?_
  refine g_region ?_
  show G _ _ _ (.inRegion _ [0] :: _) _ _
  refine s_alloc hs rfl rfl (z := (Value.agg #[Value.int .i16 0, Value.int .i16 0, Value.int .i16 0, Value.int .i16 0])) (cs := ((encA (encI .i16)) (Ar.rep 4 0))) rfl (fun _ => rfl) rfl ?_
  intro b6 w hs
  show G _ _ _ _ [_, _, _, _, _, _, _, _, _, _, _, _, _, _, _] _
  refine g_ops_nil ?_
  refine g_seq ?_
  refine g_seq ?_
  refine g_region ?_
  show G _ _ _ (.inRegion _ [0] :: _) _ _
  refine g_op (v := Value.int .i64 0) rfl rfl rfl ?_
  show G _ _ _ _ [_, _, _, _, _, _, _, _, _, _, _, _, _, _, _] _
  refine g_ops_nil ?_
  obtain ⟨o1_, Ho, Hr1_⟩ := bind_get H
  refine g_block_join (J := fun t w => ∃ x11 : (Ar Int 4), laws_toTops.a0 N x11 = some r ∧ Fr t (fun O => ([O 0, O 1, Value.pointer (some ⟨b4, 0, none⟩), Value.pointer (some ⟨b6, 0, none⟩), O 4, O 5, O 6, O 7, O 8, O 9, O 10, O 11, O 12, O 13, O 14] : List Value)) ∧ St w0 [Cells b4 ((encA (encI .i16)) (Ar.rep 4 0)) 37, Cells b6 ((encA (encI .i16)) x11) 37] w) ?_ ?_
  · rintro t w ⟨x11, H, hf, hs⟩
    obtain ⟨O, rfl⟩ := hf.open
    show G _ _ _ _ [_, _, _, _, _, _, _, _, _, _, _, _, _, _, _] _
    unfold laws_toTops.a0 at H
    refine g_seq ?_
    refine g_region ?_
    show G _ _ _ (.inRegion _ [0, 1] :: _) _ _
    refine s_loadA rfl rfl (es := ((encA (encI .i16)) x11)) rfl rfl (fun _ => rfl) (n := 4) (fun _ => rfl) ((fkA (n := 4) (he := (fkI .i16).len) (h1 := (fkI .i16).one)).len _) (cells_all (hs.cells 1 rfl)) ?_
    show G _ _ _ _ [_, _, _, _, _, _, _, _, _, _, _, _, _, _, _] _
    refine s_storeAll (n := 4) hs ((fkA (n := 4) (he := (fkI .i16).len) (h1 := (fkI .i16).one)).len _) rfl rfl (vs := ((encA (encI .i16)) x11)) rfl rfl rfl (fun _ => rfl) ((fkA (n := 4) (he := (fkI .i16).len) (h1 := (fkI .i16).one)).len _) ((fkA (n := 4) (he := (fkI .i16).len) (h1 := (fkI .i16).one)).one _) ?_
    intro w hs
    refine g_ops_nil ?_
    obtain rfl := Option.some.inj H
    refine g_ret Try.func22 (v := Value.agg ((encA (encI .i16)) x11).toArray) (resC rfl ⟨⟨_, rfl, (run_loadVar_agg (es := ((encA (encI .i16)) x11)) rfl (congrArg (Result.ok · _) ((fkA (n := 4) (he := (fkI .i16).len) (h1 := (fkI .i16).one)).len _).symm) (cells_all (hs.cells 0 rfl)))⟩, trivial⟩) ?_
    have hs : St _ [] _ := St.take (Γ' := [_, _]) hs
    exact ⟨_, rfl, rfl, hs⟩
  · intro ha1_
    have hs := hs.pull 0 rfl
    have hs := hs.pull 1 rfl
    have hs := hs.pull 2 rfl
    have hs : St _ [_, _, _] _ := St.take (Γ' := []) hs
    refine g_loop_fuel (I := fun n_ t w => ∃ x9 : (Ar Int 4), ∃ x10 : Int, rounds (fun s => laws_toTops.b0 N a1 s.1 s.2) n_ (x9, x10) = some o1_ ∧ Fr t (fun O => ([O 0, Value.pointer (some ⟨b2, 0, none⟩), Value.pointer (some ⟨b4, 0, none⟩), Value.pointer (some ⟨b6, 0, none⟩), Value.int .i64 x10, O 5, O 6, O 7, O 8, O 9, O 10, O 11, O 12, O 13, O 14] : List Value)) ∧ St w0 [Cells b2 ((encA (encI .i16)) a1) 35, Cells b4 ((encA (encI .i16)) (Ar.rep 4 0)) 37, Cells b6 ((encA (encI .i16)) x9) 37] w) N ⟨(Ar.rep 4 0), 0, Ho, rfl, hs⟩ ?_ ?_
    · rintro _ _ ⟨x9, x10, h, _⟩
      exact rounds_zero h
    · intro n_ ih1_
      rintro t w ⟨x9, x10, Ho, hf, hs⟩
      obtain ⟨O, rfl⟩ := hf.open
      show G _ _ _ _ [_, _, _, _, _, _, _, _, _, _, _, _, _, _, _] _
      obtain ⟨x5_, H, Hx1_⟩ := rounds_succ Ho
      have H : laws_toTops.b0 N a1 x9 x10 = some x5_ := H
      unfold laws_toTops.b0 at H
      refine g_seq ?_
      refine g_seq ?_
      refine g_region ?_
      show G _ _ _ (.inRegion _ [0, 1] :: _) _ _
      refine g_op (v := Value.int .i64 x10) rfl rfl rfl ?_
      show G _ _ _ _ [_, _, _, _, _, _, _, _, _, _, _, _, _, _, _] _
      refine g_op_b (B := decide (x10 < 4)) rfl rfl rfl ?_ ?_
      · intro hb
        rw [if_pos (b_dec_t hb)] at H
        show G _ _ _ _ [_, _, _, _, _, _, _, _, _, _, _, _, _, _, _] _
        refine g_ops_nil ?_
        refine g_cond_true rfl ?_
        refine g_skip ?_
        refine g_seq ?_
        refine g_block ?_
        refine g_region ?_
        show G _ _ _ (.inRegion _ [0, 1, 2, 3, 4, 5] :: _) _ _
        refine g_op (v := Value.int .i64 x10) rfl rfl rfl ?_
        show G _ _ _ _ [_, _, _, _, _, _, _, _, _, _, _, _, _, _, _] _
        refine g_op (v := Value.int .i64 x10) rfl rfl rfl ?_
        show G _ _ _ _ [_, _, _, _, _, _, _, _, _, _, _, _, _, _, _] _
        obtain ⟨g3, H⟩ := ite_get H
        refine s_idxA (n := x10) (m := 1) rfl (fun _ => rfl) g3.1 g3.2 rfl rfl rfl rfl rfl ?_
        show G _ _ _ _ [_, _, _, _, _, _, _, _, _, _, _, _, _, _, _] _
        refine s_load1 rfl rfl (v := Value.int .i16 (a1.get x10 0)) rfl rfl (fun _ => rfl) (by rw [Nat.zero_add]; exact cells_load (hs.cells 0 rfl) _ _ (encA_at (fkI .i16).len _ _ 0 g3.1 g3.2)) ?_
        show G _ _ _ _ [_, _, _, _, _, _, _, _, _, _, _, _, _, _, _] _
        obtain ⟨g4, H⟩ := ite_get H
        refine s_idxA (n := x10) (m := 1) rfl (fun _ => rfl) g4.1 g4.2 rfl rfl rfl rfl rfl ?_
        show G _ _ _ _ [_, _, _, _, _, _, _, _, _, _, _, _, _, _, _] _
        have hs := hs.pull 2 rfl
        have hs : St _ [_, _, _] _ := hs
        refine s_storeA (y := a1.get x10 0) (fkI .i16).len (fkI .i16).one g4.1 g4.2 hs rfl rfl rfl rfl rfl (fun _ => rfl) ?_
        intro w hs
        refine g_ops_nil ?_
        refine g_inBlock ?_
        refine g_region ?_
        show G _ _ _ (.inRegion _ [0, 1, 2] :: _) _ _
        refine g_op (v := Value.int .i64 x10) rfl rfl rfl ?_
        show G _ _ _ _ [_, _, _, _, _, _, _, _, _, _, _, _, _, _, _] _
        refine g_op (v := Value.int .i64 (i64w (x10 + 1))) rfl rfl rfl ?_
        show G _ _ _ _ [_, _, _, _, _, _, _, _, _, _, _, _, _, _, _] _
        refine g_op (v := Value.int .i64 (i64w (x10 + 1))) rfl rfl rfl ?_
        show G _ _ _ _ [_, _, _, _, _, _, _, _, _, _, _, _, _, _, _] _
        refine g_ops_nil ?_
        obtain rfl := Option.some.inj H
        have hs := hs.pull 0 rfl
        have hs := hs.pull 2 rfl
        have hs := hs.pull 2 rfl
        have hs : St _ [_, _, _] _ := St.take (Γ' := []) hs
        exact ih1_ _ _ ⟨x9.set x10 (a1.get x10 0), i64w (x10 + 1), Hx1_, rfl, hs⟩
      · intro hb
        rw [if_neg (b_dec_f hb)] at H
        show G _ _ _ _ [_, _, _, _, _, _, _, _, _, _, _, _, _, _, _] _
        refine g_ops_nil ?_
        refine g_cond_false rfl ?_
        obtain rfl := Option.some.inj H
        subst Hx1_
        have hs := hs.pull 2 rfl
        have hs := hs.pull 2 rfl
        have hs : St _ [_, _] _ := St.take (Γ' := [_]) hs
        refine g_exit rfl ?_
        exact ha1_ _ _ ⟨x9, Hr1_, rfl, hs⟩

/- function 53 spec_l07Ok -/
def spec_l07Ok.post (w0 : World) (r : Bool) (v : Value) (w : World) : Prop := v = Value.bool r ∧ St w0 [] w
set_option maxHeartbeats 400000 in
set_option maxRecDepth 100000 in
theorem spec_l07Ok.calls {N : Nat} {a1 : (List Int)} {a3 : (Ar Int 4)} {v2 : Value} {w0 : World} {r : Bool} (hr0 : RdRow (K.int .i16) w0 v2 a1) (H : spec_l07Ok.f N a1 a3 = some r) :
    Calls Try.prog 53 #[v2, Value.agg ((encA (encI .i16)) a3).toArray] w0 fun e w => ∃ v, e = .returned v ∧ spec_l07Ok.post w0 r v w := by
  unfold spec_l07Ok.f at H
  have hs : St w0 [] w0 := St.refl w0
  refine calls_of_g (n := 31) Try.func53 rfl rfl ?_
  show G _ _ _ _ [_, _, _, _, _, _, _, _, _, _, _, _, _, _, _, _, _, _, _, _, _, _, _, _, _, _, _, _, _, _, _, _, _] _
  refine g_seq ?_
  refine g_region ?_
  show G _ _ _ (.inRegion _ [0, 1] :: _) _ _
  refine s_box hs rfl rfl (cs := ((encA (encI .i16)) a3)) rfl rfl ?_
  intro b4 w hs
  show G _ _ _ _ [_, _, _, _, _, _, _, _, _, _, _, _, _, _, _, _, _, _, _, _, _, _, _, _, _, _, _, _, _, _, _, _, _] _
  refine g_op (v := Value.bool false) rfl rfl rfl ?_
  show G _ _ _ _ [_, _, _, _, _, _, _, _, _, _, _, _, _, _, _, _, _, _, _, _, _, _, _, _, _, _, _, _, _, _, _, _, _] _
  refine g_ops_nil ?_
  refine g_seq ?_
  refine g_seq ?_
  refine g_region ?_
  show G _ _ _ (.inRegion _ [0, 1, 2] :: _) _ _
  refine g_op (v := v2) rfl rfl rfl ?_
  show G _ _ _ _ [_, _, _, _, _, _, _, _, _, _, _, _, _, _, _, _, _, _, _, _, _, _, _, _, _, _, _, _, _, _, _, _, _] _
  obtain ⟨r6, Hr6, H⟩ := bind_get H
  refine s_call (args := [v2]) rfl rfl (x_call rfl (callFunc_enter Try.func44 rfl rfl) rfl) (spec_l07States.calls (a1 := a1) (hs.rd hr0) Hr6) ?_
  rintro _ w ⟨rfl, hs2⟩
  have hs : St _ [_] _ := hs.call hs2
  show G _ _ _ _ [_, _, _, _, _, _, _, _, _, _, _, _, _, _, _, _, _, _, _, _, _, _, _, _, _, _, _, _, _, _, _, _, _] _
  refine g_op_b (B := r6 == 0) rfl rfl rfl ?_ ?_
  · intro hb
    rw [if_pos (b_beq_t hb)] at H
    show G _ _ _ _ [_, _, _, _, _, _, _, _, _, _, _, _, _, _, _, _, _, _, _, _, _, _, _, _, _, _, _, _, _, _, _, _, _] _
    refine g_ops_nil ?_
    refine g_cond_true rfl ?_
    refine g_seq ?_
    refine g_region ?_
    show G _ _ _ (.inRegion _ [0] :: _) _ _
    refine g_op (v := Value.bool false) rfl rfl rfl ?_
    show G _ _ _ _ [_, _, _, _, _, _, _, _, _, _, _, _, _, _, _, _, _, _, _, _, _, _, _, _, _, _, _, _, _, _, _, _, _] _
    refine g_ops_nil ?_
    obtain rfl := Option.some.inj H
    refine g_ret Try.func53 (v := Value.bool false) (res1 rfl rfl) ?_
    have hs : St _ [] _ := St.take (Γ' := [_]) hs
    exact ⟨_, rfl, rfl, hs⟩
  · intro hb
    rw [if_neg (b_beq_f hb)] at H
    show G _ _ _ _ [_, _, _, _, _, _, _, _, _, _, _, _, _, _, _, _, _, _, _, _, _, _, _, _, _, _, _, _, _, _, _, _, _] _
    refine g_ops_nil ?_
    refine g_cond_false rfl ?_
    refine g_skip ?_
    refine g_seq ?_
    refine g_seq ?_
    refine g_region ?_
    show G _ _ _ (.inRegion _ [0] :: _) _ _
    refine g_op (v := Value.int .i64 0) rfl rfl rfl ?_
    show G _ _ _ _ [_, _, _, _, _, _, _, _, _, _, _, _, _, _, _, _, _, _, _, _, _, _, _, _, _, _, _, _, _, _, _, _, _] _
    refine g_ops_nil ?_
    obtain ⟨o1_, Ho, Hr1_⟩ := bind_get H
    refine g_block_join (J := fun t w => spec_l07Ok.a0 N = some r ∧ Fr t (fun O => ([O 0, O 1, O 2, O 3, O 4, O 5, O 6, O 7, O 8, O 9, O 10, O 11, O 12, O 13, O 14, O 15, O 16, O 17, O 18, O 19, O 20, O 21, O 22, O 23, O 24, O 25, O 26, O 27, O 28, O 29, O 30, O 31, O 32] : List Value)) ∧ St w0 [] w) ?_ ?_
    · rintro t w ⟨H, hf, hs⟩
      obtain ⟨O, rfl⟩ := hf.open
      show G _ _ _ _ [_, _, _, _, _, _, _, _, _, _, _, _, _, _, _, _, _, _, _, _, _, _, _, _, _, _, _, _, _, _, _, _, _] _
      unfold spec_l07Ok.a0 at H
      refine g_seq ?_
      refine g_region ?_
      show G _ _ _ (.inRegion _ [0] :: _) _ _
      refine g_op (v := Value.bool true) rfl rfl rfl ?_
      show G _ _ _ _ [_, _, _, _, _, _, _, _, _, _, _, _, _, _, _, _, _, _, _, _, _, _, _, _, _, _, _, _, _, _, _, _, _] _
      refine g_ops_nil ?_
      obtain rfl := Option.some.inj H
      refine g_ret Try.func53 (v := Value.bool true) (res1 rfl rfl) ?_
      have hs : St _ [] _ := St.take (Γ' := []) hs
      exact ⟨_, rfl, rfl, hs⟩
    · intro ha1_
      have hs := hs.pull 0 rfl
      have hs : St _ [_] _ := St.take (Γ' := []) hs
      refine g_loop_fuel (I := fun n_ t w => ∃ x7 : Int, rounds (fun s => spec_l07Ok.b0 N a1 a3 s) n_ x7 = some o1_ ∧ Fr t (fun O => ([v2, O 1, O 2, Value.pointer (some ⟨b4, 0, none⟩), O 4, Value.int .i64 x7, O 6, O 7, O 8, O 9, O 10, O 11, O 12, O 13, O 14, O 15, O 16, O 17, O 18, O 19, O 20, O 21, O 22, O 23, O 24, O 25, O 26, O 27, O 28, O 29, O 30, O 31, O 32] : List Value)) ∧ St w0 [Cells b4 ((encA (encI .i16)) a3) 37] w) N ⟨0, Ho, rfl, hs⟩ ?_ ?_
      · rintro _ _ ⟨x7, h, _⟩
        exact rounds_zero h
      · intro n_ ih1_
        rintro t w ⟨x7, Ho, hf, hs⟩
        obtain ⟨O, rfl⟩ := hf.open
        show G _ _ _ _ [_, _, _, _, _, _, _, _, _, _, _, _, _, _, _, _, _, _, _, _, _, _, _, _, _, _, _, _, _, _, _, _, _] _
        obtain ⟨x4_, H, Hx1_⟩ := rounds_succ Ho
        have H : spec_l07Ok.b0 N a1 a3 x7 = some x4_ := H
        unfold spec_l07Ok.b0 at H
        refine g_seq ?_
        refine g_seq ?_
        refine g_region ?_
        show G _ _ _ (.inRegion _ [0, 1] :: _) _ _
        refine g_op (v := Value.int .i64 x7) rfl rfl rfl ?_
        show G _ _ _ _ [_, _, _, _, _, _, _, _, _, _, _, _, _, _, _, _, _, _, _, _, _, _, _, _, _, _, _, _, _, _, _, _, _] _
        refine g_op_b (B := decide (x7 < 4)) rfl rfl rfl ?_ ?_
        · intro hb
          rw [if_pos (b_dec_t hb)] at H
          show G _ _ _ _ [_, _, _, _, _, _, _, _, _, _, _, _, _, _, _, _, _, _, _, _, _, _, _, _, _, _, _, _, _, _, _, _, _] _
          refine g_ops_nil ?_
          refine g_cond_true rfl ?_
          refine g_skip ?_
          refine g_seq ?_
          refine g_block ?_
          refine g_seq ?_
          refine g_region ?_
          show G _ _ _ (.inRegion _ [0] :: _) _ _
          refine g_op (v := Value.int .i16 0) rfl rfl rfl ?_
          show G _ _ _ _ [_, _, _, _, _, _, _, _, _, _, _, _, _, _, _, _, _, _, _, _, _, _, _, _, _, _, _, _, _, _, _, _, _] _
          refine g_ops_nil ?_
          refine g_seq ?_
          refine g_seq ?_
          refine g_join2 (J := (fun t w => ∃ x9 : Int, spec_l07Ok.j2 N x7 a3 x9 = some x4_ ∧ Fr t (fun O => ([v2, O 1, O 2, Value.pointer (some ⟨b4, 0, none⟩), O 4, Value.int .i64 x7, Value.int .i16 x9, O 7, O 8, O 9, O 10, O 11, O 12, O 13, O 14, O 15, O 16, O 17, O 18, O 19, O 20, O 21, O 22, O 23, O 24, O 25, O 26, O 27, O 28, O 29, O 30, O 31, O 32] : List Value)) ∧ St w0 [Cells b4 ((encA (encI .i16)) a3) 37] w)) ?_ ?_
          · rintro t w ⟨x9, H, hf, hs⟩
            obtain ⟨O, rfl⟩ := hf.open
            show G _ _ _ _ [_, _, _, _, _, _, _, _, _, _, _, _, _, _, _, _, _, _, _, _, _, _, _, _, _, _, _, _, _, _, _, _, _] _
            unfold spec_l07Ok.j2 at H
            refine g_seq ?_
            refine g_region ?_
            show G _ _ _ (.inRegion _ [0, 1, 2, 3, 4, 5, 6, 7, 8, 9, 10] :: _) _ _
            refine g_op (v := Value.int .i64 x7) rfl rfl rfl ?_
            show G _ _ _ _ [_, _, _, _, _, _, _, _, _, _, _, _, _, _, _, _, _, _, _, _, _, _, _, _, _, _, _, _, _, _, _, _, _] _
            obtain ⟨g2, H⟩ := ite_get H
            refine s_idxA (n := x7) (m := 1) rfl (fun _ => rfl) g2.1 g2.2 rfl rfl rfl rfl rfl ?_
            show G _ _ _ _ [_, _, _, _, _, _, _, _, _, _, _, _, _, _, _, _, _, _, _, _, _, _, _, _, _, _, _, _, _, _, _, _, _] _
            refine s_load1 rfl rfl (v := Value.int .i16 (a3.get x7 0)) rfl rfl (fun _ => rfl) (by rw [Nat.zero_add]; exact cells_load (hs.cells 0 rfl) _ _ (encA_at (fkI .i16).len _ _ 0 g2.1 g2.2)) ?_
            show G _ _ _ _ [_, _, _, _, _, _, _, _, _, _, _, _, _, _, _, _, _, _, _, _, _, _, _, _, _, _, _, _, _, _, _, _, _] _
            refine g_op_b (B := decide ((a3.get x7 0) < 0)) rfl rfl rfl ?_ ?_
            · intro hb
              rw [if_pos (b_dec_t hb)] at H
              show G _ _ _ _ [_, _, _, _, _, _, _, _, _, _, _, _, _, _, _, _, _, _, _, _, _, _, _, _, _, _, _, _, _, _, _, _, _] _
              refine g_op (v := Value.bool true) rfl rfl rfl ?_
              show G _ _ _ _ [_, _, _, _, _, _, _, _, _, _, _, _, _, _, _, _, _, _, _, _, _, _, _, _, _, _, _, _, _, _, _, _, _] _
              refine g_op_not rfl rfl ?_
              show G _ _ _ _ [_, _, _, _, _, _, _, _, _, _, _, _, _, _, _, _, _, _, _, _, _, _, _, _, _, _, _, _, _, _, _, _, _] _
              refine g_op_not rfl rfl ?_
              show G _ _ _ _ [_, _, _, _, _, _, _, _, _, _, _, _, _, _, _, _, _, _, _, _, _, _, _, _, _, _, _, _, _, _, _, _, _] _
              refine g_op_not rfl rfl ?_
              show G _ _ _ _ [_, _, _, _, _, _, _, _, _, _, _, _, _, _, _, _, _, _, _, _, _, _, _, _, _, _, _, _, _, _, _, _, _] _
              refine g_op_not rfl rfl ?_
              show G _ _ _ _ [_, _, _, _, _, _, _, _, _, _, _, _, _, _, _, _, _, _, _, _, _, _, _, _, _, _, _, _, _, _, _, _, _] _
              refine g_op_not rfl rfl ?_
              show G _ _ _ _ [_, _, _, _, _, _, _, _, _, _, _, _, _, _, _, _, _, _, _, _, _, _, _, _, _, _, _, _, _, _, _, _, _] _
              refine g_op (v := Value.bool true) rfl rfl rfl ?_
              show G _ _ _ _ [_, _, _, _, _, _, _, _, _, _, _, _, _, _, _, _, _, _, _, _, _, _, _, _, _, _, _, _, _, _, _, _, _] _
              refine g_ops_nil ?_
              refine g_cond_true rfl ?_
              refine g_seq ?_
              refine g_region ?_
              show G _ _ _ (.inRegion _ [0] :: _) _ _
              refine g_op (v := Value.bool false) rfl rfl rfl ?_
              show G _ _ _ _ [_, _, _, _, _, _, _, _, _, _, _, _, _, _, _, _, _, _, _, _, _, _, _, _, _, _, _, _, _, _, _, _, _] _
              refine g_ops_nil ?_
              obtain rfl := Option.some.inj H
              subst Hx1_
              have H := Option.some.inj Hr1_
              subst H
              refine g_ret Try.func53 (v := Value.bool false) (res1 rfl rfl) ?_
              have hs : St _ [] _ := St.take (Γ' := [_]) hs
              exact ⟨_, rfl, rfl, hs⟩
            · intro hb
              rw [if_neg (b_dec_f hb)] at H
              show G _ _ _ _ [_, _, _, _, _, _, _, _, _, _, _, _, _, _, _, _, _, _, _, _, _, _, _, _, _, _, _, _, _, _, _, _, _] _
              refine g_op (v := Value.bool false) rfl rfl rfl ?_
              show G _ _ _ _ [_, _, _, _, _, _, _, _, _, _, _, _, _, _, _, _, _, _, _, _, _, _, _, _, _, _, _, _, _, _, _, _, _] _
              refine g_op (v := Value.int .i64 x7) rfl rfl rfl ?_
              show G _ _ _ _ [_, _, _, _, _, _, _, _, _, _, _, _, _, _, _, _, _, _, _, _, _, _, _, _, _, _, _, _, _, _, _, _, _] _
              obtain ⟨g3, H⟩ := ite_get H
              refine s_idxA (n := x7) (m := 1) rfl (fun _ => rfl) g3.1 g3.2 rfl rfl rfl rfl rfl ?_
              show G _ _ _ _ [_, _, _, _, _, _, _, _, _, _, _, _, _, _, _, _, _, _, _, _, _, _, _, _, _, _, _, _, _, _, _, _, _] _
              refine s_load1 rfl rfl (v := Value.int .i16 (a3.get x7 0)) rfl rfl (fun _ => rfl) (by rw [Nat.zero_add]; exact cells_load (hs.cells 0 rfl) _ _ (encA_at (fkI .i16).len _ _ 0 g3.1 g3.2)) ?_
              show G _ _ _ _ [_, _, _, _, _, _, _, _, _, _, _, _, _, _, _, _, _, _, _, _, _, _, _, _, _, _, _, _, _, _, _, _, _] _
              refine g_op (v := Value.int .i16 x9) rfl rfl rfl ?_
              show G _ _ _ _ [_, _, _, _, _, _, _, _, _, _, _, _, _, _, _, _, _, _, _, _, _, _, _, _, _, _, _, _, _, _, _, _, _] _
              refine g_op_b (B := decide ((a3.get x7 0) > x9)) rfl rfl rfl ?_ ?_
              · intro hb
                rw [if_pos (b_dec_t hb)] at H
                show G _ _ _ _ [_, _, _, _, _, _, _, _, _, _, _, _, _, _, _, _, _, _, _, _, _, _, _, _, _, _, _, _, _, _, _, _, _] _
                refine g_op (v := Value.bool true) rfl rfl rfl ?_
                show G _ _ _ _ [_, _, _, _, _, _, _, _, _, _, _, _, _, _, _, _, _, _, _, _, _, _, _, _, _, _, _, _, _, _, _, _, _] _
                refine g_ops_nil ?_
                refine g_cond_true rfl ?_
                refine g_seq ?_
                refine g_region ?_
                show G _ _ _ (.inRegion _ [0] :: _) _ _
                refine g_op (v := Value.bool false) rfl rfl rfl ?_
                show G _ _ _ _ [_, _, _, _, _, _, _, _, _, _, _, _, _, _, _, _, _, _, _, _, _, _, _, _, _, _, _, _, _, _, _, _, _] _
                refine g_ops_nil ?_
                obtain rfl := Option.some.inj H
                subst Hx1_
                have H := Option.some.inj Hr1_
                subst H
                refine g_ret Try.func53 (v := Value.bool false) (res1 rfl rfl) ?_
                have hs : St _ [] _ := St.take (Γ' := [_]) hs
                exact ⟨_, rfl, rfl, hs⟩
              · intro hb
                rw [if_neg (b_dec_f hb)] at H
                show G _ _ _ _ [_, _, _, _, _, _, _, _, _, _, _, _, _, _, _, _, _, _, _, _, _, _, _, _, _, _, _, _, _, _, _, _, _] _
                refine g_op (v := Value.bool false) rfl rfl rfl ?_
                show G _ _ _ _ [_, _, _, _, _, _, _, _, _, _, _, _, _, _, _, _, _, _, _, _, _, _, _, _, _, _, _, _, _, _, _, _, _] _
                refine g_ops_nil ?_
                refine g_cond_false rfl ?_
                refine g_skip ?_
                refine g_inBlock ?_
                refine g_region ?_
                show G _ _ _ (.inRegion _ [0, 1, 2] :: _) _ _
                refine g_op (v := Value.int .i64 x7) rfl rfl rfl ?_
                show G _ _ _ _ [_, _, _, _, _, _, _, _, _, _, _, _, _, _, _, _, _, _, _, _, _, _, _, _, _, _, _, _, _, _, _, _, _] _
                refine g_op (v := Value.int .i64 (i64w (x7 + 1))) rfl rfl rfl ?_
                show G _ _ _ _ [_, _, _, _, _, _, _, _, _, _, _, _, _, _, _, _, _, _, _, _, _, _, _, _, _, _, _, _, _, _, _, _, _] _
                refine g_op (v := Value.int .i64 (i64w (x7 + 1))) rfl rfl rfl ?_
                show G _ _ _ _ [_, _, _, _, _, _, _, _, _, _, _, _, _, _, _, _, _, _, _, _, _, _, _, _, _, _, _, _, _, _, _, _, _] _
                refine g_ops_nil ?_
                obtain rfl := Option.some.inj H
                have hs := hs.pull 0 rfl
                have hs : St _ [_] _ := St.take (Γ' := []) hs
                exact ih1_ _ _ ⟨i64w (x7 + 1), Hx1_, rfl, hs⟩
          · intro ha
            refine g_region ?_
            show G _ _ _ (.inRegion _ [0, 1, 2, 3] :: _) _ _
            refine g_op (v := Value.int .i64 x7) rfl rfl rfl ?_
            show G _ _ _ _ [_, _, _, _, _, _, _, _, _, _, _, _, _, _, _, _, _, _, _, _, _, _, _, _, _, _, _, _, _, _, _, _, _] _
            refine g_op (v := v2) rfl rfl rfl ?_
            show G _ _ _ _ [_, _, _, _, _, _, _, _, _, _, _, _, _, _, _, _, _, _, _, _, _, _, _, _, _, _, _, _, _, _, _, _, _] _
            refine s_len (hs.rd hr0) rfl rfl rfl rfl rfl ?_
            show G _ _ _ _ [_, _, _, _, _, _, _, _, _, _, _, _, _, _, _, _, _, _, _, _, _, _, _, _, _, _, _, _, _, _, _, _, _] _
            refine g_op_b (B := decide (x7 < (a1.length : Int))) rfl rfl rfl ?_ ?_
            · intro hb
              rw [if_pos (b_dec_t hb)] at H
              show G _ _ _ _ [_, _, _, _, _, _, _, _, _, _, _, _, _, _, _, _, _, _, _, _, _, _, _, _, _, _, _, _, _, _, _, _, _] _
              refine g_ops_nil ?_
              refine g_cond_true rfl ?_
              refine g_region ?_
              show G _ _ _ (.inRegion _ [0, 1, 2, 3, 4] :: _) _ _
              refine g_op (v := v2) rfl rfl rfl ?_
              show G _ _ _ _ [_, _, _, _, _, _, _, _, _, _, _, _, _, _, _, _, _, _, _, _, _, _, _, _, _, _, _, _, _, _, _, _, _] _
              refine g_op (v := Value.int .i64 x7) rfl rfl rfl ?_
              show G _ _ _ _ [_, _, _, _, _, _, _, _, _, _, _, _, _, _, _, _, _, _, _, _, _, _, _, _, _, _, _, _, _, _, _, _, _] _
              obtain ⟨g1, H⟩ := ite_get H
              refine s_idx (fkI .i16) 0 (hs.rd hr0) rfl (fun _ => rfl) g1.1 g1.2 rfl rfl rfl rfl rfl ?_
              intro p8 hp8 lp8 op8
              show G _ _ _ _ [_, _, _, _, _, _, _, _, _, _, _, _, _, _, _, _, _, _, _, _, _, _, _, _, _, _, _, _, _, _, _, _, _] _
              refine s_load1 rfl rfl (v := Value.int .i16 (rdL a1 x7 0)) rfl rfl (fun _ => rfl) hp8 ?_
              show G _ _ _ _ [_, _, _, _, _, _, _, _, _, _, _, _, _, _, _, _, _, _, _, _, _, _, _, _, _, _, _, _, _, _, _, _, _] _
              refine g_op (v := Value.int .i16 (rdL a1 x7 0)) rfl rfl rfl ?_
              show G _ _ _ _ [_, _, _, _, _, _, _, _, _, _, _, _, _, _, _, _, _, _, _, _, _, _, _, _, _, _, _, _, _, _, _, _, _] _
              refine g_ops_nil ?_
              have hs := hs.pull 0 rfl
              have hs : St _ [_] _ := St.take (Γ' := []) hs
              exact ha _ _ ⟨rdL a1 x7 0, H, rfl, hs⟩
            · intro hb
              rw [if_neg (b_dec_f hb)] at H
              show G _ _ _ _ [_, _, _, _, _, _, _, _, _, _, _, _, _, _, _, _, _, _, _, _, _, _, _, _, _, _, _, _, _, _, _, _, _] _
              refine g_ops_nil ?_
              refine g_cond_false rfl ?_
              refine g_skip ?_
              have hs := hs.pull 0 rfl
              have hs : St _ [_] _ := St.take (Γ' := []) hs
              exact ha _ _ ⟨0, H, rfl, hs⟩
        · intro hb
          rw [if_neg (b_dec_f hb)] at H
          show G _ _ _ _ [_, _, _, _, _, _, _, _, _, _, _, _, _, _, _, _, _, _, _, _, _, _, _, _, _, _, _, _, _, _, _, _, _] _
          refine g_ops_nil ?_
          refine g_cond_false rfl ?_
          obtain rfl := Option.some.inj H
          subst Hx1_
          have hs : St _ [] _ := St.take (Γ' := [_]) hs
          refine g_exit rfl ?_
          exact ha1_ _ _ ⟨Hr1_, rfl, hs⟩

/- function 21 spec_ValidTops -/
def spec_ValidTops.post (w0 : World) (r : Bool) (v : Value) (w : World) : Prop := v = Value.bool r ∧ St w0 [] w
set_option maxHeartbeats 400000 in
set_option maxRecDepth 100000 in
theorem spec_ValidTops.calls {N : Nat} {a1 : (List Int)} {a3 : (Ar Int 4)} {v2 : Value} {w0 : World} {r : Bool} (hr0 : RdRow (K.int .i16) w0 v2 a1) (H : spec_ValidTops.f N a1 a3 = some r) :
    Calls Try.prog 21 #[v2, Value.agg ((encA (encI .i16)) a3).toArray] w0 fun e w => ∃ v, e = .returned v ∧ spec_ValidTops.post w0 r v w := by
  unfold spec_ValidTops.f at H
  have hs : St w0 [] w0 := St.refl w0
  refine calls_of_g (n := 6) Try.func21 rfl rfl ?_
  show G _ _ _ _ [_, _, _, _, _, _, _, _] _
  refine g_seq ?_
  refine g_region ?_
  show G _ _ _ (.inRegion _ [0, 1] :: _) _ _
  refine s_box hs rfl rfl (cs := ((encA (encI .i16)) a3)) rfl rfl ?_
  intro b4 w hs
  show G _ _ _ _ [_, _, _, _, _, _, _, _] _
  refine g_op (v := Value.bool false) rfl rfl rfl ?_
  show G _ _ _ _ [_, _, _, _, _, _, _, _] _
  refine g_ops_nil ?_
  refine g_seq ?_
  refine g_region ?_
  show G _ _ _ (.inRegion _ [0, 1, 2, 3] :: _) _ _
  refine g_op (v := v2) rfl rfl rfl ?_
  show G _ _ _ _ [_, _, _, _, _, _, _, _] _
  refine s_loadA rfl rfl (es := ((encA (encI .i16)) a3)) rfl rfl (fun _ => rfl) (n := 4) (fun _ => rfl) ((fkA (n := 4) (he := (fkI .i16).len) (h1 := (fkI .i16).one)).len _) (cells_all (hs.cells 0 rfl)) ?_
  show G _ _ _ _ [_, _, _, _, _, _, _, _] _
  obtain ⟨r6, Hr6, H⟩ := bind_get H
  refine s_call (args := [v2, Value.agg ((encA (encI .i16)) a3).toArray]) rfl rfl (x_call rfl (callFunc_enter Try.func53 rfl rfl) rfl) (spec_l07Ok.calls (a1 := a1) (a3 := a3) (hs.rd hr0) Hr6) ?_
  rintro _ w ⟨rfl, hs2⟩
  have hs : St _ [_] _ := hs.call hs2
  show G _ _ _ _ [_, _, _, _, _, _, _, _] _
  refine g_op (v := Value.bool r6) rfl rfl rfl ?_
  show G _ _ _ _ [_, _, _, _, _, _, _, _] _
  refine g_ops_nil ?_
  obtain rfl := Option.some.inj H
  refine g_ret Try.func21 (v := Value.bool r6) (res1 rfl rfl) ?_
  have hs : St _ [] _ := St.take (Γ' := [_]) hs
  exact ⟨_, rfl, rfl, hs⟩

/- function 54 _impl_Puzzle_holds -/
def _impl_Puzzle_holds.post (w0 : World) (r : Bool) (v : Value) (w : World) : Prop := v = Value.bool r ∧ St w0 [] w
set_option maxHeartbeats 400000 in
set_option maxRecDepth 100000 in
theorem _impl_Puzzle_holds.calls {N : Nat} {a1 : S_impl_Puzzle} {a4 : (Ar Int 4)} {v2 : Value} {w0 : World} {r : Bool} (hr3 : RdRow (K.int .i16) w0 v2 a1.f_Jugs) (H : _impl_Puzzle_holds.f N a1 a4 = some r) :
    Calls Try.prog 54 #[Value.agg (([v2] : List Value) ++ ((encA (encI .i16)) a1.f_Start ++ (([Value.bool a1.f_Tap] : List Value)))).toArray, Value.agg ((encA (encI .i16)) a4).toArray] w0 fun e w => ∃ v, e = .returned v ∧ _impl_Puzzle_holds.post w0 r v w := by
  unfold _impl_Puzzle_holds.f at H
  have hs : St w0 [] w0 := St.refl w0
  refine calls_of_g (n := 29) Try.func54 rfl rfl ?_
  show G _ _ _ _ [_, _, _, _, _, _, _, _, _, _, _, _, _, _, _, _, _, _, _, _, _, _, _, _, _, _, _, _, _, _, _] _
  refine g_seq ?_
  refine g_region ?_
  show G _ _ _ (.inRegion _ [0, 1, 2] :: _) _ _
  refine s_box hs rfl rfl (cs := (([v2] : List Value) ++ ((encA (encI .i16)) a1.f_Start ++ (([Value.bool a1.f_Tap] : List Value))))) rfl rfl ?_
  intro b5 w hs
  show G _ _ _ _ [_, _, _, _, _, _, _, _, _, _, _, _, _, _, _, _, _, _, _, _, _, _, _, _, _, _, _, _, _, _, _] _
  refine s_box hs rfl rfl (cs := ((encA (encI .i16)) a4)) rfl rfl ?_
  intro b7 w hs
  show G _ _ _ _ [_, _, _, _, _, _, _, _, _, _, _, _, _, _, _, _, _, _, _, _, _, _, _, _, _, _, _, _, _, _, _] _
  refine g_op (v := Value.bool false) rfl rfl rfl ?_
  show G _ _ _ _ [_, _, _, _, _, _, _, _, _, _, _, _, _, _, _, _, _, _, _, _, _, _, _, _, _, _, _, _, _, _, _] _
  refine g_ops_nil ?_
  refine g_seq ?_
  refine g_seq ?_
  refine g_region ?_
  show G _ _ _ (.inRegion _ [0, 1] :: _) _ _
  refine s_loadA rfl rfl (es := ((encA (encI .i16)) a4)) rfl rfl (fun _ => rfl) (n := 4) (fun _ => rfl) ((fkA (n := 4) (he := (fkI .i16).len) (h1 := (fkI .i16).one)).len _) (cells_all (hs.cells 0 rfl)) ?_
  show G _ _ _ _ [_, _, _, _, _, _, _, _, _, _, _, _, _, _, _, _, _, _, _, _, _, _, _, _, _, _, _, _, _, _, _] _
  refine g_op (v := Value.int .i64 0) rfl rfl rfl ?_
  show G _ _ _ _ [_, _, _, _, _, _, _, _, _, _, _, _, _, _, _, _, _, _, _, _, _, _, _, _, _, _, _, _, _, _, _] _
  refine g_ops_nil ?_
  obtain ⟨o1_, Ho, Hr1_⟩ := bind_get H
  refine g_block_join (J := fun t w => _impl_Puzzle_holds.a0 N = some r ∧ Fr t (fun O => ([O 0, O 1, O 2, O 3, O 4, O 5, O 6, O 7, O 8, O 9, O 10, O 11, O 12, O 13, O 14, O 15, O 16, O 17, O 18, O 19, O 20, O 21, O 22, O 23, O 24, O 25, O 26, O 27, O 28, O 29, O 30] : List Value)) ∧ St w0 [] w) ?_ ?_
  · rintro t w ⟨H, hf, hs⟩
    obtain ⟨O, rfl⟩ := hf.open
    show G _ _ _ _ [_, _, _, _, _, _, _, _, _, _, _, _, _, _, _, _, _, _, _, _, _, _, _, _, _, _, _, _, _, _, _] _
    unfold _impl_Puzzle_holds.a0 at H
    refine g_seq ?_
    refine g_region ?_
    show G _ _ _ (.inRegion _ [0] :: _) _ _
    refine g_op (v := Value.bool true) rfl rfl rfl ?_
    show G _ _ _ _ [_, _, _, _, _, _, _, _, _, _, _, _, _, _, _, _, _, _, _, _, _, _, _, _, _, _, _, _, _, _, _] _
    refine g_ops_nil ?_
    obtain rfl := Option.some.inj H
    refine g_ret Try.func54 (v := Value.bool true) (res1 rfl rfl) ?_
    have hs : St _ [] _ := St.take (Γ' := []) hs
    exact ⟨_, rfl, rfl, hs⟩
  · intro ha1_
    have hs := hs.pull 1 rfl
    have hs : St _ [_] _ := St.take (Γ' := [_]) hs
    refine g_loop_fuel (I := fun n_ t w => ∃ x9 : Int, rounds (fun s => _impl_Puzzle_holds.b0 N a1 a4 s) n_ x9 = some o1_ ∧ Fr t (fun O => ([O 0, O 1, Value.pointer (some ⟨b5, 0, none⟩), O 3, O 4, O 5, O 6, O 7, Value.agg ((encA (encI .i16)) a4).toArray, Value.int .i64 x9, O 10, O 11, O 12, O 13, O 14, O 15, O 16, O 17, O 18, O 19, O 20, O 21, O 22, O 23, O 24, O 25, O 26, O 27, O 28, O 29, O 30] : List Value)) ∧ St w0 [Cells b5 (([v2] : List Value) ++ ((encA (encI .i16)) a1.f_Start ++ (([Value.bool a1.f_Tap] : List Value)))) 70] w) N ⟨0, Ho, rfl, hs⟩ ?_ ?_
    · rintro _ _ ⟨x9, h, _⟩
      exact rounds_zero h
    · intro n_ ih1_
      rintro t w ⟨x9, Ho, hf, hs⟩
      obtain ⟨O, rfl⟩ := hf.open
      show G _ _ _ _ [_, _, _, _, _, _, _, _, _, _, _, _, _, _, _, _, _, _, _, _, _, _, _, _, _, _, _, _, _, _, _] _
      obtain ⟨x3_, H, Hx1_⟩ := rounds_succ Ho
      have H : _impl_Puzzle_holds.b0 N a1 a4 x9 = some x3_ := H
      unfold _impl_Puzzle_holds.b0 at H
      refine g_seq ?_
      refine g_region ?_
      show G _ _ _ (.inRegion _ [0] :: _) _ _
      refine g_op_b (B := decide (x9 < 4)) rfl rfl rfl ?_ ?_
      · intro hb
        rw [if_pos (b_dec_t hb)] at H
        show G _ _ _ _ [_, _, _, _, _, _, _, _, _, _, _, _, _, _, _, _, _, _, _, _, _, _, _, _, _, _, _, _, _, _, _] _
        refine g_ops_nil ?_
        refine g_seq ?_
        refine g_cond_true rfl ?_
        refine g_skip ?_
        refine g_seq ?_
        refine g_block ?_
        refine g_seq ?_
        refine g_region ?_
        show G _ _ _ (.inRegion _ [0, 1, 2, 3] :: _) _ _
        refine g_op (v := Value.int .i64 x9) rfl rfl rfl ?_
        show G _ _ _ _ [_, _, _, _, _, _, _, _, _, _, _, _, _, _, _, _, _, _, _, _, _, _, _, _, _, _, _, _, _, _, _] _
        obtain ⟨g1, H⟩ := ite_get H
        refine s_indexV (enc := (encI .i16)) (c := Value.int .i16) (fun _ => rfl) 0 rfl (fun _ => rfl) (fun _ => rfl) g1.1 g1.2 rfl rfl rfl rfl rfl ?_
        show G _ _ _ _ [_, _, _, _, _, _, _, _, _, _, _, _, _, _, _, _, _, _, _, _, _, _, _, _, _, _, _, _, _, _, _] _
        refine g_op (v := Value.int .i64 x9) rfl rfl rfl ?_
        show G _ _ _ _ [_, _, _, _, _, _, _, _, _, _, _, _, _, _, _, _, _, _, _, _, _, _, _, _, _, _, _, _, _, _, _] _
        refine g_op (v := Value.int .i16 (a4.get x9 0)) rfl rfl rfl ?_
        show G _ _ _ _ [_, _, _, _, _, _, _, _, _, _, _, _, _, _, _, _, _, _, _, _, _, _, _, _, _, _, _, _, _, _, _] _
        refine g_ops_nil ?_
        refine g_seq ?_
        refine g_region ?_
        show G _ _ _ (.inRegion _ [0] :: _) _ _
        refine g_op (v := Value.int .i16 0) rfl rfl rfl ?_
        show G _ _ _ _ [_, _, _, _, _, _, _, _, _, _, _, _, _, _, _, _, _, _, _, _, _, _, _, _, _, _, _, _, _, _, _] _
        refine g_ops_nil ?_
        refine g_seq ?_
        refine g_seq ?_
        refine g_join2 (J := (fun t w => ∃ x11 : Int, _impl_Puzzle_holds.j2 N a4 x9 x11 = some x3_ ∧ Fr t (fun O => ([O 0, O 1, Value.pointer (some ⟨b5, 0, none⟩), O 3, O 4, O 5, Value.int .i16 (a4.get x9 0), Value.int .i16 x11, Value.agg ((encA (encI .i16)) a4).toArray, Value.int .i64 x9, O 10, O 11, O 12, O 13, O 14, O 15, O 16, O 17, O 18, O 19, O 20, O 21, O 22, O 23, O 24, O 25, O 26, O 27, O 28, O 29, O 30] : List Value)) ∧ St w0 [Cells b5 (([v2] : List Value) ++ ((encA (encI .i16)) a1.f_Start ++ (([Value.bool a1.f_Tap] : List Value)))) 70] w)) ?_ ?_
        · rintro t w ⟨x11, H, hf, hs⟩
          obtain ⟨O, rfl⟩ := hf.open
          show G _ _ _ _ [_, _, _, _, _, _, _, _, _, _, _, _, _, _, _, _, _, _, _, _, _, _, _, _, _, _, _, _, _, _, _] _
          unfold _impl_Puzzle_holds.j2 at H
          refine g_seq ?_
          refine g_region ?_
          show G _ _ _ (.inRegion _ [0, 1, 2, 3, 4, 5, 6] :: _) _ _
          refine g_op (v := Value.int .i16 (a4.get x9 0)) rfl rfl rfl ?_
          show G _ _ _ _ [_, _, _, _, _, _, _, _, _, _, _, _, _, _, _, _, _, _, _, _, _, _, _, _, _, _, _, _, _, _, _] _
          refine g_op_b (B := decide ((a4.get x9 0) < 0)) rfl rfl rfl ?_ ?_
          · intro hb
            rw [if_pos (b_dec_t hb)] at H
            show G _ _ _ _ [_, _, _, _, _, _, _, _, _, _, _, _, _, _, _, _, _, _, _, _, _, _, _, _, _, _, _, _, _, _, _] _
            refine g_op (v := Value.bool true) rfl rfl rfl ?_
            show G _ _ _ _ [_, _, _, _, _, _, _, _, _, _, _, _, _, _, _, _, _, _, _, _, _, _, _, _, _, _, _, _, _, _, _] _
            refine g_op_not rfl rfl ?_
            show G _ _ _ _ [_, _, _, _, _, _, _, _, _, _, _, _, _, _, _, _, _, _, _, _, _, _, _, _, _, _, _, _, _, _, _] _
            refine g_op_not rfl rfl ?_
            show G _ _ _ _ [_, _, _, _, _, _, _, _, _, _, _, _, _, _, _, _, _, _, _, _, _, _, _, _, _, _, _, _, _, _, _] _
            refine g_op_not rfl rfl ?_
            show G _ _ _ _ [_, _, _, _, _, _, _, _, _, _, _, _, _, _, _, _, _, _, _, _, _, _, _, _, _, _, _, _, _, _, _] _
            refine g_op (v := Value.bool true) rfl rfl rfl ?_
            show G _ _ _ _ [_, _, _, _, _, _, _, _, _, _, _, _, _, _, _, _, _, _, _, _, _, _, _, _, _, _, _, _, _, _, _] _
            refine g_ops_nil ?_
            refine g_cond_true rfl ?_
            refine g_seq ?_
            refine g_region ?_
            show G _ _ _ (.inRegion _ [0] :: _) _ _
            refine g_op (v := Value.bool false) rfl rfl rfl ?_
            show G _ _ _ _ [_, _, _, _, _, _, _, _, _, _, _, _, _, _, _, _, _, _, _, _, _, _, _, _, _, _, _, _, _, _, _] _
            refine g_ops_nil ?_
            obtain rfl := Option.some.inj H
            subst Hx1_
            have H := Option.some.inj Hr1_
            subst H
            refine g_ret Try.func54 (v := Value.bool false) (res1 rfl rfl) ?_
            have hs : St _ [] _ := St.take (Γ' := [_]) hs
            exact ⟨_, rfl, rfl, hs⟩
          · intro hb
            rw [if_neg (b_dec_f hb)] at H
            show G _ _ _ _ [_, _, _, _, _, _, _, _, _, _, _, _, _, _, _, _, _, _, _, _, _, _, _, _, _, _, _, _, _, _, _] _
            refine g_op (v := Value.bool false) rfl rfl rfl ?_
            show G _ _ _ _ [_, _, _, _, _, _, _, _, _, _, _, _, _, _, _, _, _, _, _, _, _, _, _, _, _, _, _, _, _, _, _] _
            refine g_op (v := Value.int .i16 (a4.get x9 0)) rfl rfl rfl ?_
            show G _ _ _ _ [_, _, _, _, _, _, _, _, _, _, _, _, _, _, _, _, _, _, _, _, _, _, _, _, _, _, _, _, _, _, _] _
            refine g_op (v := Value.int .i16 x11) rfl rfl rfl ?_
            show G _ _ _ _ [_, _, _, _, _, _, _, _, _, _, _, _, _, _, _, _, _, _, _, _, _, _, _, _, _, _, _, _, _, _, _] _
            refine g_op_b (B := decide ((a4.get x9 0) > x11)) rfl rfl rfl ?_ ?_
            · intro hb
              rw [if_pos (b_dec_t hb)] at H
              show G _ _ _ _ [_, _, _, _, _, _, _, _, _, _, _, _, _, _, _, _, _, _, _, _, _, _, _, _, _, _, _, _, _, _, _] _
              refine g_op (v := Value.bool true) rfl rfl rfl ?_
              show G _ _ _ _ [_, _, _, _, _, _, _, _, _, _, _, _, _, _, _, _, _, _, _, _, _, _, _, _, _, _, _, _, _, _, _] _
              refine g_ops_nil ?_
              refine g_cond_true rfl ?_
              refine g_seq ?_
              refine g_region ?_
              show G _ _ _ (.inRegion _ [0] :: _) _ _
              refine g_op (v := Value.bool false) rfl rfl rfl ?_
              show G _ _ _ _ [_, _, _, _, _, _, _, _, _, _, _, _, _, _, _, _, _, _, _, _, _, _, _, _, _, _, _, _, _, _, _] _
              refine g_ops_nil ?_
              obtain rfl := Option.some.inj H
              subst Hx1_
              have H := Option.some.inj Hr1_
              subst H
              refine g_ret Try.func54 (v := Value.bool false) (res1 rfl rfl) ?_
              have hs : St _ [] _ := St.take (Γ' := [_]) hs
              exact ⟨_, rfl, rfl, hs⟩
            · intro hb
              rw [if_neg (b_dec_f hb)] at H
              show G _ _ _ _ [_, _, _, _, _, _, _, _, _, _, _, _, _, _, _, _, _, _, _, _, _, _, _, _, _, _, _, _, _, _, _] _
              refine g_op (v := Value.bool false) rfl rfl rfl ?_
              show G _ _ _ _ [_, _, _, _, _, _, _, _, _, _, _, _, _, _, _, _, _, _, _, _, _, _, _, _, _, _, _, _, _, _, _] _
              refine g_ops_nil ?_
              refine g_cond_false rfl ?_
              refine g_skip ?_
              refine g_inBlock ?_
              refine g_region ?_
              show G _ _ _ (.inRegion _ [0, 1] :: _) _ _
              refine g_op (v := Value.int .i64 (i64w (x9 + 1))) rfl rfl rfl ?_
              show G _ _ _ _ [_, _, _, _, _, _, _, _, _, _, _, _, _, _, _, _, _, _, _, _, _, _, _, _, _, _, _, _, _, _, _] _
              refine g_op (v := Value.int .i64 (i64w (x9 + 1))) rfl rfl rfl ?_
              show G _ _ _ _ [_, _, _, _, _, _, _, _, _, _, _, _, _, _, _, _, _, _, _, _, _, _, _, _, _, _, _, _, _, _, _] _
              refine g_ops_nil ?_
              obtain rfl := Option.some.inj H
              have hs := hs.pull 0 rfl
              have hs : St _ [_] _ := St.take (Γ' := []) hs
              exact ih1_ _ _ ⟨i64w (x9 + 1), Hx1_, rfl, hs⟩
        · intro ha
          refine g_region ?_
          show G _ _ _ (.inRegion _ [0, 1, 2, 3, 4] :: _) _ _
          refine g_op (v := Value.int .i64 x9) rfl rfl rfl ?_
          show G _ _ _ _ [_, _, _, _, _, _, _, _, _, _, _, _, _, _, _, _, _, _, _, _, _, _, _, _, _, _, _, _, _, _, _] _
          refine g_op (v := Value.pointer (some ⟨b5, 0, none⟩)) rfl rfl rfl ?_
          show G _ _ _ _ [_, _, _, _, _, _, _, _, _, _, _, _, _, _, _, _, _, _, _, _, _, _, _, _, _, _, _, _, _, _, _] _
          refine s_load1 rfl rfl (v := v2) rfl rfl (fun _ => rfl) (cells_load (hs.cells 0 rfl) 0 1 rfl) ?_
          show G _ _ _ _ [_, _, _, _, _, _, _, _, _, _, _, _, _, _, _, _, _, _, _, _, _, _, _, _, _, _, _, _, _, _, _] _
          refine s_len (hs.rd hr3) rfl rfl rfl rfl rfl ?_
          show G _ _ _ _ [_, _, _, _, _, _, _, _, _, _, _, _, _, _, _, _, _, _, _, _, _, _, _, _, _, _, _, _, _, _, _] _
          refine g_op_b (B := decide (x9 < (a1.f_Jugs.length : Int))) rfl rfl rfl ?_ ?_
          · intro hb
            rw [if_pos (b_dec_t hb)] at H
            show G _ _ _ _ [_, _, _, _, _, _, _, _, _, _, _, _, _, _, _, _, _, _, _, _, _, _, _, _, _, _, _, _, _, _, _] _
            refine g_ops_nil ?_
            refine g_cond_true rfl ?_
            refine g_region ?_
            show G _ _ _ (.inRegion _ [0, 1, 2, 3, 4, 5] :: _) _ _
            refine g_op (v := Value.pointer (some ⟨b5, 0, none⟩)) rfl rfl rfl ?_
            show G _ _ _ _ [_, _, _, _, _, _, _, _, _, _, _, _, _, _, _, _, _, _, _, _, _, _, _, _, _, _, _, _, _, _, _] _
            refine s_load1 rfl rfl (v := v2) rfl rfl (fun _ => rfl) (cells_load (hs.cells 0 rfl) 0 1 rfl) ?_
            show G _ _ _ _ [_, _, _, _, _, _, _, _, _, _, _, _, _, _, _, _, _, _, _, _, _, _, _, _, _, _, _, _, _, _, _] _
            refine g_op (v := Value.int .i64 x9) rfl rfl rfl ?_
            show G _ _ _ _ [_, _, _, _, _, _, _, _, _, _, _, _, _, _, _, _, _, _, _, _, _, _, _, _, _, _, _, _, _, _, _] _
            obtain ⟨g2, H⟩ := ite_get H
            refine s_idx (fkI .i16) 0 (hs.rd hr3) rfl (fun _ => rfl) g2.1 g2.2 rfl rfl rfl rfl rfl ?_
            intro p10 hp10 lp10 op10
            show G _ _ _ _ [_, _, _, _, _, _, _, _, _, _, _, _, _, _, _, _, _, _, _, _, _, _, _, _, _, _, _, _, _, _, _] _
            refine s_load1 rfl rfl (v := Value.int .i16 (rdL a1.f_Jugs x9 0)) rfl rfl (fun _ => rfl) hp10 ?_
            show G _ _ _ _ [_, _, _, _, _, _, _, _, _, _, _, _, _, _, _, _, _, _, _, _, _, _, _, _, _, _, _, _, _, _, _] _
            refine g_op (v := Value.int .i16 (rdL a1.f_Jugs x9 0)) rfl rfl rfl ?_
            show G _ _ _ _ [_, _, _, _, _, _, _, _, _, _, _, _, _, _, _, _, _, _, _, _, _, _, _, _, _, _, _, _, _, _, _] _
            refine g_ops_nil ?_
            have hs := hs.pull 0 rfl
            have hs : St _ [_] _ := St.take (Γ' := []) hs
            exact ha _ _ ⟨rdL a1.f_Jugs x9 0, H, rfl, hs⟩
          · intro hb
            rw [if_neg (b_dec_f hb)] at H
            show G _ _ _ _ [_, _, _, _, _, _, _, _, _, _, _, _, _, _, _, _, _, _, _, _, _, _, _, _, _, _, _, _, _, _, _] _
            refine g_ops_nil ?_
            refine g_cond_false rfl ?_
            refine g_skip ?_
            have hs := hs.pull 0 rfl
            have hs : St _ [_] _ := St.take (Γ' := []) hs
            exact ha _ _ ⟨0, H, rfl, hs⟩
      · intro hb
        rw [if_neg (b_dec_f hb)] at H
        show G _ _ _ _ [_, _, _, _, _, _, _, _, _, _, _, _, _, _, _, _, _, _, _, _, _, _, _, _, _, _, _, _, _, _, _] _
        refine g_ops_nil ?_
        refine g_seq ?_
        refine g_cond_false rfl ?_
        obtain rfl := Option.some.inj H
        subst Hx1_
        have hs : St _ [] _ := St.take (Γ' := [_]) hs
        refine g_exit rfl ?_
        exact ha1_ _ _ ⟨Hr1_, rfl, hs⟩

end Go.Proofs.YtgachgjcnmeicaaX
