/- Contracts, printed by gen.py. -/
import Derived.Test.YtfnfoecocicigaaXT
import Derived.Test.YtfnfoecocicigaaProg
import Derived.Test.YtfnfoecocicigaaXRowR
import Derived.Test.YtfnfoecocicigaaXSeg
import Derived.Test.YtfnfoecocicigaaXKey
import Derived.Test.YtfnfoecocicigaaXC2
import Derived.Test.YtfnfoecocicigaaXC3
import Derived.Test.YtfnfoecocicigaaXC4
namespace Go.Proofs.YtfnfoecocicigaaX
open Go Go.RowKit Go.Proofs
set_option linter.unusedVariables false
set_option linter.unusedSimpArgs false
/- function 8 impl_SplitState -/
def impl_SplitState.post (w0 : World) (r : ((Ar Int 4) × (Ar Int 4) × Int)) (v : Value) (w : World) : Prop := v = Value.tuple #[Value.agg ((encA (encI .i64)) r.1).toArray, Value.agg ((encA (encI .i64)) r.2.1).toArray, Value.int .i64 r.2.2] ∧ St w0 [] w
set_option maxHeartbeats 8000000 in
set_option maxRecDepth 100000 in
theorem impl_SplitState.calls {N : Nat} {a1 : Int} {a2 : (Ar Int 4)} {a3 : (Ar Int 4)} {w0 : World} {r : ((Ar Int 4) × (Ar Int 4) × Int)} (H : impl_SplitState.f N a1 a2 a3 = some r) :
    Calls Try.prog 8 #[Value.int .i64 a1, Value.agg ((encA (encI .i64)) a2).toArray, Value.agg ((encA (encI .i64)) a3).toArray] w0 fun e w => ∃ v, e = .returned v ∧ impl_SplitState.post w0 r v w := by
  unfold impl_SplitState.f at H
  have hs : St w0 [] w0 := St.refl w0
  refine calls_of_g (n := 31) Try.func8 rfl rfl ?_
  show G _ _ _ _ [_,_,_,_,_,_,_,_,_,_,_,_,_,_,_,_,_,_,_,_,_,_,_,_,_,_,_,_,_,_,_,_,_,_] _
  refine g_seq ?_
  refine g_region ?_
  show G _ _ _ (.inRegion _ [0, 1, 2, 3, 4] :: _) _ _
  refine s_box hs rfl rfl (cs := ((encA (encI .i64)) a2)) rfl rfl ?_
  intro b4 w hs
  show G _ _ _ _ [_,_,_,_,_,_,_,_,_,_,_,_,_,_,_,_,_,_,_,_,_,_,_,_,_,_,_,_,_,_,_,_,_,_] _
  refine s_box hs rfl rfl (cs := ((encA (encI .i64)) a3)) rfl rfl ?_
  intro b6 w hs
  show G _ _ _ _ [_,_,_,_,_,_,_,_,_,_,_,_,_,_,_,_,_,_,_,_,_,_,_,_,_,_,_,_,_,_,_,_,_,_] _
  refine s_alloc hs rfl rfl (z := (Value.agg #[Value.int .i64 0, Value.int .i64 0, Value.int .i64 0, Value.int .i64 0])) (cs := ((encA (encI .i64)) (Ar.rep 4 0))) rfl (fun _ => rfl) rfl ?_
  intro b8 w hs
  show G _ _ _ _ [_,_,_,_,_,_,_,_,_,_,_,_,_,_,_,_,_,_,_,_,_,_,_,_,_,_,_,_,_,_,_,_,_,_] _
  refine s_alloc hs rfl rfl (z := (Value.agg #[Value.int .i64 0, Value.int .i64 0, Value.int .i64 0, Value.int .i64 0])) (cs := ((encA (encI .i64)) (Ar.rep 4 0))) rfl (fun _ => rfl) rfl ?_
  intro b10 w hs
  show G _ _ _ _ [_,_,_,_,_,_,_,_,_,_,_,_,_,_,_,_,_,_,_,_,_,_,_,_,_,_,_,_,_,_,_,_,_,_] _
  refine g_op (v := Value.int .i64 0) rfl rfl rfl ?_
  show G _ _ _ _ [_,_,_,_,_,_,_,_,_,_,_,_,_,_,_,_,_,_,_,_,_,_,_,_,_,_,_,_,_,_,_,_,_,_] _
  refine g_ops_nil ?_
  refine g_seq ?_
  refine g_block ?_
  refine g_seq ?_
  refine g_region ?_
  show G _ _ _ (.inRegion _ [0, 1, 2, 3, 4] :: _) _ _
  refine g_op (v := Value.int .i64 a1) rfl rfl rfl ?_
  refine s_loadA rfl rfl (es := ((encA (encI .i64)) a2)) rfl rfl (fun _ => rfl) (n := 4) (fun _ => rfl) ((fkA (n := 4) (he := (fkI .i64).len) (h1 := (fkI .i64).one)).len _) (cells_all (hs.cells 3 rfl)) ?_
  show G _ _ _ _ [_,_,_,_,_,_,_,_,_,_,_,_,_,_,_,_,_,_,_,_,_,_,_,_,_,_,_,_,_,_,_,_,_,_] _
  obtain ⟨r12, Hr12, H⟩ := bind_get H
  refine s_call (args := [Value.int .i64 a1, Value.agg ((encA (encI .i64)) a2).toArray]) rfl rfl (x_call rfl (callFunc_enter Try.func11 rfl rfl) rfl) (impl_ValidState.calls (a1 := a1) (a2 := a2) Hr12) ?_
  rintro _ w ⟨rfl, hs2⟩
  have hs : St _ [_,_,_,_] _ := hs.call hs2
  cases r12 with
  | true =>
    rw [if_pos rfl] at H
    show G _ _ _ _ [_,_,_,_,_,_,_,_,_,_,_,_,_,_,_,_,_,_,_,_,_,_,_,_,_,_,_,_,_,_,_,_,_,_] _
    refine g_op (v := Value.bool false) rfl rfl rfl ?_
    show G _ _ _ _ [_,_,_,_,_,_,_,_,_,_,_,_,_,_,_,_,_,_,_,_,_,_,_,_,_,_,_,_,_,_,_,_,_,_] _
    refine g_op (v := Value.bool false) rfl rfl rfl ?_
    show G _ _ _ _ [_,_,_,_,_,_,_,_,_,_,_,_,_,_,_,_,_,_,_,_,_,_,_,_,_,_,_,_,_,_,_,_,_,_] _
    refine g_ops_nil ?_
    refine g_cond_false rfl ?_
    refine g_seq ?_
    refine g_region ?_
    show G _ _ _ (.inRegion _ [0, 1, 2, 3, 4] :: _) _ _
    refine s_loadA rfl rfl (es := ((encA (encI .i64)) a2)) rfl rfl (fun _ => rfl) (n := 4) (fun _ => rfl) ((fkA (n := 4) (he := (fkI .i64).len) (h1 := (fkI .i64).one)).len _) (cells_all (hs.cells 3 rfl)) ?_
    show G _ _ _ _ [_,_,_,_,_,_,_,_,_,_,_,_,_,_,_,_,_,_,_,_,_,_,_,_,_,_,_,_,_,_,_,_,_,_] _
    refine s_loadA rfl rfl (es := ((encA (encI .i64)) a3)) rfl rfl (fun _ => rfl) (n := 4) (fun _ => rfl) ((fkA (n := 4) (he := (fkI .i64).len) (h1 := (fkI .i64).one)).len _) (cells_all (hs.cells 2 rfl)) ?_
    show G _ _ _ _ [_,_,_,_,_,_,_,_,_,_,_,_,_,_,_,_,_,_,_,_,_,_,_,_,_,_,_,_,_,_,_,_,_,_] _
    obtain ⟨r13, Hr13, H⟩ := bind_get H
    refine s_call (args := [Value.agg ((encA (encI .i64)) a2).toArray, Value.agg ((encA (encI .i64)) a3).toArray]) rfl rfl (x_call rfl (callFunc_enter Try.func22 rfl rfl) rfl) (impl_isAsk.calls (a1 := a2) (a2 := a3) Hr13) ?_
    rintro _ w ⟨rfl, hs2⟩
    have hs : St _ [_,_,_,_] _ := hs.call hs2
    cases r13 with
    | true =>
      rw [if_pos rfl] at H
      show G _ _ _ _ [_,_,_,_,_,_,_,_,_,_,_,_,_,_,_,_,_,_,_,_,_,_,_,_,_,_,_,_,_,_,_,_,_,_] _
      refine g_op (v := Value.bool false) rfl rfl rfl ?_
      show G _ _ _ _ [_,_,_,_,_,_,_,_,_,_,_,_,_,_,_,_,_,_,_,_,_,_,_,_,_,_,_,_,_,_,_,_,_,_] _
      refine g_op (v := Value.bool false) rfl rfl rfl ?_
      show G _ _ _ _ [_,_,_,_,_,_,_,_,_,_,_,_,_,_,_,_,_,_,_,_,_,_,_,_,_,_,_,_,_,_,_,_,_,_] _
      refine g_ops_nil ?_
      refine g_cond_false rfl ?_
      refine g_skip ?_
      refine g_inBlock ?_
      refine g_seq ?_
      refine g_region ?_
      show G _ _ _ (.inRegion _ [0, 1, 2, 3, 4, 5, 6, 7, 8, 9, 10] :: _) _ _
      refine s_loadA rfl rfl (es := ((encA (encI .i64)) a2)) rfl rfl (fun _ => rfl) (n := 4) (fun _ => rfl) ((fkA (n := 4) (he := (fkI .i64).len) (h1 := (fkI .i64).one)).len _) (cells_all (hs.cells 3 rfl)) ?_
      show G _ _ _ _ [_,_,_,_,_,_,_,_,_,_,_,_,_,_,_,_,_,_,_,_,_,_,_,_,_,_,_,_,_,_,_,_,_,_] _
      refine g_op (v := Value.int .i64 a1) rfl rfl rfl ?_
      refine s_loadA rfl rfl (es := ((encA (encI .i64)) a3)) rfl rfl (fun _ => rfl) (n := 4) (fun _ => rfl) ((fkA (n := 4) (he := (fkI .i64).len) (h1 := (fkI .i64).one)).len _) (cells_all (hs.cells 2 rfl)) ?_
      show G _ _ _ _ [_,_,_,_,_,_,_,_,_,_,_,_,_,_,_,_,_,_,_,_,_,_,_,_,_,_,_,_,_,_,_,_,_,_] _
      obtain ⟨r14, Hr14, H⟩ := bind_get H
      refine s_call (args := [Value.agg ((encA (encI .i64)) a2).toArray, Value.int .i64 a1, Value.agg ((encA (encI .i64)) a3).toArray]) rfl rfl (x_call rfl (callFunc_enter Try.func23 rfl rfl) rfl) (_impl_State_split.calls (a1 := a2) (a2 := a1) (a3 := a3) Hr14) ?_
      rintro _ w ⟨rfl, hs2⟩
      have hs : St _ [_,_,_,_] _ := hs.call hs2
      show G _ _ _ _ [_,_,_,_,_,_,_,_,_,_,_,_,_,_,_,_,_,_,_,_,_,_,_,_,_,_,_,_,_,_,_,_,_,_] _
      refine g_op (v := Value.tuple #[Value.agg ((encA (encI .i64)) r14.1).toArray, Value.agg ((encA (encI .i64)) r14.2).toArray]) rfl rfl rfl ?_
      refine g_op (v := Value.agg ((encA (encI .i64)) r14.1).toArray) rfl rfl rfl ?_
      refine g_op (v := Value.agg ((encA (encI .i64)) r14.2).toArray) rfl rfl rfl ?_
      refine s_alloc hs rfl rfl (z := (Value.agg #[Value.int .i64 0, Value.int .i64 0, Value.int .i64 0, Value.int .i64 0])) (cs := ((encA (encI .i64)) (Ar.rep 4 0))) rfl (fun _ => rfl) rfl ?_
      intro b15 w hs
      show G _ _ _ _ [_,_,_,_,_,_,_,_,_,_,_,_,_,_,_,_,_,_,_,_,_,_,_,_,_,_,_,_,_,_,_,_,_,_] _
      refine s_alloc hs rfl rfl (z := (Value.agg #[Value.int .i64 0, Value.int .i64 0, Value.int .i64 0, Value.int .i64 0])) (cs := ((encA (encI .i64)) (Ar.rep 4 0))) rfl (fun _ => rfl) rfl ?_
      intro b17 w hs
      show G _ _ _ _ [_,_,_,_,_,_,_,_,_,_,_,_,_,_,_,_,_,_,_,_,_,_,_,_,_,_,_,_,_,_,_,_,_,_] _
      have hs := hs.pull 1 rfl
      have hs : St _ [_,_,_,_,_,_] _ := hs
      refine s_storeAll (n := 4) hs ((fkA (n := 4) (he := (fkI .i64).len) (h1 := (fkI .i64).one)).len _) rfl rfl (vs := ((encA (encI .i64)) r14.1)) rfl rfl rfl (fun _ => rfl) ((fkA (n := 4) (he := (fkI .i64).len) (h1 := (fkI .i64).one)).len _) ((fkA (n := 4) (he := (fkI .i64).len) (h1 := (fkI .i64).one)).one _) ?_
      intro w hs
      have hs := hs.pull 1 rfl
      have hs : St _ [_,_,_,_,_,_] _ := hs
      refine s_storeAll (n := 4) hs ((fkA (n := 4) (he := (fkI .i64).len) (h1 := (fkI .i64).one)).len _) rfl rfl (vs := ((encA (encI .i64)) r14.2)) rfl rfl rfl (fun _ => rfl) ((fkA (n := 4) (he := (fkI .i64).len) (h1 := (fkI .i64).one)).len _) ((fkA (n := 4) (he := (fkI .i64).len) (h1 := (fkI .i64).one)).one _) ?_
      intro w hs
      refine g_ops_nil ?_
      refine g_seq ?_
      refine g_name ?_
      intro T hT
      refine g_any (n := 5) rfl [0, 1, 2, 3, 4] [0, 2, 1, 3, 4] rfl rfl (Inv := fun D t w => ∃ O : Nat → Value, t = [Value.int .i64 a1, Value.agg ((encA (encI .i64)) a2).toArray, Value.agg ((encA (encI .i64)) a3).toArray, O 3, Value.pointer (some ⟨b4, 0, none⟩), Value.pointer (some ⟨b6, 0, none⟩), Value.pointer (some ⟨b8, 0, none⟩), Value.pointer (some ⟨b10, 0, none⟩), cnd (D 4) (Value.int .i64 0) (Value.int .i64 0), Value.pointer (some ⟨b15, 0, none⟩), Value.pointer (some ⟨b17, 0, none⟩), Value.bool false, Value.int .i64 a1, Value.agg ((encA (encI .i64)) a2).toArray, Value.bool true, Value.bool false, O 16, O 17, Value.bool false, Value.agg ((encA (encI .i64)) a2).toArray, Value.agg ((encA (encI .i64)) a3).toArray, Value.bool true, Value.bool false, O 23, O 24, Value.tuple #[Value.agg ((encA (encI .i64)) r14.1).toArray, Value.agg ((encA (encI .i64)) r14.2).toArray], Value.agg ((encA (encI .i64)) a2).toArray, Value.int .i64 a1, Value.agg ((encA (encI .i64)) a3).toArray, Value.tuple #[Value.agg ((encA (encI .i64)) r14.1).toArray, Value.agg ((encA (encI .i64)) r14.2).toArray], Value.agg ((encA (encI .i64)) r14.1).toArray, Value.agg ((encA (encI .i64)) r14.2).toArray, cnd (D 0) (Value.agg ((encA (encI .i64)) r14.1).toArray) (O 32), cnd (D 1) (Value.agg ((encA (encI .i64)) r14.2).toArray) (O 33)] ∧ St w0 [Cells b17 ((encA (encI .i64)) r14.2) 25, Cells b15 ((encA (encI .i64)) r14.1) 25, Cells b10 (cnd (D 3) ((encA (encI .i64)) r14.2) ((encA (encI .i64)) (Ar.rep 4 0))) 25, Cells b8 (cnd (D 2) ((encA (encI .i64)) r14.1) ((encA (encI .i64)) (Ar.rep 4 0))) 25, Cells b6 ((encA (encI .i64)) a3) 25, Cells b4 ((encA (encI .i64)) a2) 25] w) ?_ ⟨⟨⟨⟨⟨trivial, ?_⟩, ?_⟩, ?_⟩, ?_⟩, ?_⟩ ?_
      ·
       intro w hh hbw
       have hs := hs.samew hh hbw
       exact ⟨fun i => T.getD i undef, (by subst hT; rfl), hs⟩
      ·
       intro D t w hD hp hcl hI rest hk
       obtain ⟨O, ht, hs⟩ := hI
       have q2_ : D 2 = false := not_yet (hcl.get 2 (by decide)) 0 0 rfl hD
       have q3_ : D 3 = false := not_yet (hcl.get 3 (by decide)) 1 2 rfl q2_
       have q4_ : D 4 = false := not_yet (hcl.get 4 (by decide)) 0 3 rfl q3_
       simp only [hD, q2_, q3_, q4_, cnd_t, cnd_f, Asc_t, Asc_f] at ht hs
       subst ht
       refine s_loadA rfl rfl (es := ((encA (encI .i64)) r14.1)) rfl rfl (fun _ => rfl) (n := 4) (fun _ => rfl) ((fkA (n := 4) (he := (fkI .i64).len) (h1 := (fkI .i64).one)).len _) (cells_all (hs.cells 1 rfl)) ?_
       show G _ _ _ _ [_,_,_,_,_,_,_,_,_,_,_,_,_,_,_,_,_,_,_,_,_,_,_,_,_,_,_,_,_,_,_,_,_,_] _
       exact hk _ _ ⟨O, (by simp only [upd, Nat.reduceBEq, Bool.true_or, Bool.false_or, q2_, q3_, q4_, cnd_t, cnd_f, Asc_t, Asc_f]), hs.cast (by first | rfl | simp only [List.take, List.drop, List.cons_append, List.nil_append, List.set_cons_zero, List.set_cons_succ, List.eraseIdx, upd, Nat.reduceBEq, Bool.true_or, Bool.false_or, q2_, q3_, q4_, cnd_t, cnd_f, Asc_t, Asc_f])⟩
      ·
       intro D t w hD hp hcl hI rest hk
       obtain ⟨O, ht, hs⟩ := hI
       have q3_ : D 3 = false := not_yet (hcl.get 3 (by decide)) 0 1 rfl hD
       have q4_ : D 4 = false := not_yet (hcl.get 4 (by decide)) 0 3 rfl q3_
       simp only [hD, q3_, q4_, cnd_t, cnd_f, Asc_t, Asc_f] at ht hs
       subst ht
       refine s_loadA rfl rfl (es := ((encA (encI .i64)) r14.2)) rfl rfl (fun _ => rfl) (n := 4) (fun _ => rfl) ((fkA (n := 4) (he := (fkI .i64).len) (h1 := (fkI .i64).one)).len _) (cells_all (hs.cells 0 rfl)) ?_
       show G _ _ _ _ [_,_,_,_,_,_,_,_,_,_,_,_,_,_,_,_,_,_,_,_,_,_,_,_,_,_,_,_,_,_,_,_,_,_] _
       exact hk _ _ ⟨O, (by simp only [upd, Nat.reduceBEq, Bool.true_or, Bool.false_or, q3_, q4_, cnd_t, cnd_f, Asc_t, Asc_f]), hs.cast (by first | rfl | simp only [List.take, List.drop, List.cons_append, List.nil_append, List.set_cons_zero, List.set_cons_succ, List.eraseIdx, upd, Nat.reduceBEq, Bool.true_or, Bool.false_or, q3_, q4_, cnd_t, cnd_f, Asc_t, Asc_f])⟩
      ·
       intro D t w hD hp hcl hI rest hk
       obtain ⟨O, ht, hs⟩ := hI
       obtain ⟨p0_, _, _⟩ := hp
       have q3_ : D 3 = false := not_yet (hcl.get 3 (by decide)) 1 2 rfl hD
       have q4_ : D 4 = false := not_yet (hcl.get 4 (by decide)) 0 3 rfl q3_
       simp only [hD, p0_, q3_, q4_, cnd_t, cnd_f, Asc_t, Asc_f] at ht hs
       subst ht
       have hs := hs.pull 3 rfl
       have hs : St _ [_,_,_,_,_,_] _ := hs
       refine s_storeAll (n := 4) hs ((fkA (n := 4) (he := (fkI .i64).len) (h1 := (fkI .i64).one)).len _) rfl rfl (vs := ((encA (encI .i64)) r14.1)) rfl rfl rfl (fun _ => rfl) ((fkA (n := 4) (he := (fkI .i64).len) (h1 := (fkI .i64).one)).len _) ((fkA (n := 4) (he := (fkI .i64).len) (h1 := (fkI .i64).one)).one _) ?_
       intro w hs
       show G _ _ _ _ [_,_,_,_,_,_,_,_,_,_,_,_,_,_,_,_,_,_,_,_,_,_,_,_,_,_,_,_,_,_,_,_,_,_] _
       have hs := hs.push 3 (by simp)
       exact hk _ _ ⟨O, (by simp only [upd, Nat.reduceBEq, Bool.true_or, Bool.false_or, p0_, q3_, q4_, cnd_t, cnd_f, Asc_t, Asc_f]), hs.cast (by first | rfl | simp only [List.take, List.drop, List.cons_append, List.nil_append, List.set_cons_zero, List.set_cons_succ, List.eraseIdx, upd, Nat.reduceBEq, Bool.true_or, Bool.false_or, p0_, q3_, q4_, cnd_t, cnd_f, Asc_t, Asc_f])⟩
      ·
       intro D t w hD hp hcl hI rest hk
       obtain ⟨O, ht, hs⟩ := hI
       obtain ⟨p1_, p2_, p0_, _, _, _⟩ := hp
       have q4_ : D 4 = false := not_yet (hcl.get 4 (by decide)) 0 3 rfl hD
       simp only [hD, p0_, p1_, p2_, q4_, cnd_t, cnd_f, Asc_t, Asc_f] at ht hs
       subst ht
       have hs := hs.pull 2 rfl
       have hs : St _ [_,_,_,_,_,_] _ := hs
       refine s_storeAll (n := 4) hs ((fkA (n := 4) (he := (fkI .i64).len) (h1 := (fkI .i64).one)).len _) rfl rfl (vs := ((encA (encI .i64)) r14.2)) rfl rfl rfl (fun _ => rfl) ((fkA (n := 4) (he := (fkI .i64).len) (h1 := (fkI .i64).one)).len _) ((fkA (n := 4) (he := (fkI .i64).len) (h1 := (fkI .i64).one)).one _) ?_
       intro w hs
       show G _ _ _ _ [_,_,_,_,_,_,_,_,_,_,_,_,_,_,_,_,_,_,_,_,_,_,_,_,_,_,_,_,_,_,_,_,_,_] _
       have hs := hs.push 2 (by simp)
       exact hk _ _ ⟨O, (by simp only [upd, Nat.reduceBEq, Bool.true_or, Bool.false_or, p0_, p1_, p2_, q4_, cnd_t, cnd_f, Asc_t, Asc_f]), hs.cast (by first | rfl | simp only [List.take, List.drop, List.cons_append, List.nil_append, List.set_cons_zero, List.set_cons_succ, List.eraseIdx, upd, Nat.reduceBEq, Bool.true_or, Bool.false_or, p0_, p1_, p2_, q4_, cnd_t, cnd_f, Asc_t, Asc_f])⟩
      ·
       intro D t w hD hp hcl hI rest hk
       obtain ⟨O, ht, hs⟩ := hI
       obtain ⟨p3_, p0_, p1_, p2_, _, _⟩ := hp
       simp only [hD, p0_, p1_, p2_, p3_, cnd_t, cnd_f, Asc_t, Asc_f] at ht hs
       subst ht
       refine g_op (v := Value.int .i64 0) rfl rfl rfl ?_
       show G _ _ _ _ [_,_,_,_,_,_,_,_,_,_,_,_,_,_,_,_,_,_,_,_,_,_,_,_,_,_,_,_,_,_,_,_,_,_] _
       exact hk _ _ ⟨O, (by simp only [upd, Nat.reduceBEq, Bool.true_or, Bool.false_or, p0_, p1_, p2_, p3_, cnd_t, cnd_f, Asc_t, Asc_f]), hs.cast (by first | rfl | simp only [List.take, List.drop, List.cons_append, List.nil_append, List.set_cons_zero, List.set_cons_succ, List.eraseIdx, upd, Nat.reduceBEq, Bool.true_or, Bool.false_or, p0_, p1_, p2_, p3_, cnd_t, cnd_f, Asc_t, Asc_f])⟩
      ·
       intro D t w hall hI
       obtain ⟨O, ht, hs⟩ := hI
       have p0_ : D 0 = true := hall 0 (by decide)
       have p1_ : D 1 = true := hall 1 (by decide)
       have p2_ : D 2 = true := hall 2 (by decide)
       have p3_ : D 3 = true := hall 3 (by decide)
       have p4_ : D 4 = true := hall 4 (by decide)
       simp only [p0_, p1_, p2_, p3_, p4_, cnd_t, cnd_f, Asc_t, Asc_f] at ht hs
       subst ht
       obtain rfl := Option.some.inj H
       refine g_ret Try.func8 (v := Value.tuple #[Value.agg ((encA (encI .i64)) r14.1).toArray, Value.agg ((encA (encI .i64)) r14.2).toArray, Value.int .i64 0]) (resN (l := Try.f8.results.toList) (vs := [Value.agg ((encA (encI .i64)) r14.1).toArray, Value.agg ((encA (encI .i64)) r14.2).toArray, Value.int .i64 0]) rfl ⟨⟨_, rfl, (run_loadVar_agg (es := ((encA (encI .i64)) r14.1)) rfl (congrArg (Result.ok · _) ((fkA (n := 4) (he := (fkI .i64).len) (h1 := (fkI .i64).one)).len _).symm) (cells_all (hs.cells 3 rfl)))⟩, ⟨_, rfl, (run_loadVar_agg (es := ((encA (encI .i64)) r14.2)) rfl (congrArg (Result.ok · _) ((fkA (n := 4) (he := (fkI .i64).len) (h1 := (fkI .i64).one)).len _).symm) (cells_all (hs.cells 2 rfl)))⟩, rfl, trivial⟩ (by simp)) ?_
       have hs : St _ [] _ := St.take (Γ' := [_,_,_,_,_,_]) hs
       exact ⟨_, rfl, rfl, hs⟩
    | false =>
      rw [if_neg Bool.false_ne_true] at H
      show G _ _ _ _ [_,_,_,_,_,_,_,_,_,_,_,_,_,_,_,_,_,_,_,_,_,_,_,_,_,_,_,_,_,_,_,_,_,_] _
      refine g_op (v := Value.bool true) rfl rfl rfl ?_
      show G _ _ _ _ [_,_,_,_,_,_,_,_,_,_,_,_,_,_,_,_,_,_,_,_,_,_,_,_,_,_,_,_,_,_,_,_,_,_] _
      refine g_op (v := Value.bool true) rfl rfl rfl ?_
      show G _ _ _ _ [_,_,_,_,_,_,_,_,_,_,_,_,_,_,_,_,_,_,_,_,_,_,_,_,_,_,_,_,_,_,_,_,_,_] _
      refine g_ops_nil ?_
      refine g_cond_true rfl ?_
      refine g_seq ?_
      refine g_region ?_
      show G _ _ _ (.inRegion _ [0, 1, 2, 3, 4] :: _) _ _
      refine g_op (v := Value.agg ((encA (encI .i64)) (Ar.rep 4 0)).toArray) rfl rfl (x_build rfl rfl) ?_
      show G _ _ _ _ [_,_,_,_,_,_,_,_,_,_,_,_,_,_,_,_,_,_,_,_,_,_,_,_,_,_,_,_,_,_,_,_,_,_] _
      refine g_op (v := Value.agg ((encA (encI .i64)) (Ar.rep 4 0)).toArray) rfl rfl (x_build rfl rfl) ?_
      show G _ _ _ _ [_,_,_,_,_,_,_,_,_,_,_,_,_,_,_,_,_,_,_,_,_,_,_,_,_,_,_,_,_,_,_,_,_,_] _
      have hs := hs.pull 1 rfl
      have hs : St _ [_,_,_,_] _ := hs
      refine s_storeAll (n := 4) hs ((fkA (n := 4) (he := (fkI .i64).len) (h1 := (fkI .i64).one)).len _) rfl rfl (vs := ((encA (encI .i64)) (Ar.rep 4 0))) rfl rfl rfl (fun _ => rfl) ((fkA (n := 4) (he := (fkI .i64).len) (h1 := (fkI .i64).one)).len _) ((fkA (n := 4) (he := (fkI .i64).len) (h1 := (fkI .i64).one)).one _) ?_
      intro w hs
      have hs := hs.pull 1 rfl
      have hs : St _ [_,_,_,_] _ := hs
      refine s_storeAll (n := 4) hs ((fkA (n := 4) (he := (fkI .i64).len) (h1 := (fkI .i64).one)).len _) rfl rfl (vs := ((encA (encI .i64)) (Ar.rep 4 0))) rfl rfl rfl (fun _ => rfl) ((fkA (n := 4) (he := (fkI .i64).len) (h1 := (fkI .i64).one)).len _) ((fkA (n := 4) (he := (fkI .i64).len) (h1 := (fkI .i64).one)).one _) ?_
      intro w hs
      refine g_op (v := Value.int .i64 2) rfl rfl rfl ?_
      show G _ _ _ _ [_,_,_,_,_,_,_,_,_,_,_,_,_,_,_,_,_,_,_,_,_,_,_,_,_,_,_,_,_,_,_,_,_,_] _
      refine g_ops_nil ?_
      obtain rfl := Option.some.inj H
      refine g_ret Try.func8 (v := Value.tuple #[Value.agg ((encA (encI .i64)) (Ar.rep 4 0)).toArray, Value.agg ((encA (encI .i64)) (Ar.rep 4 0)).toArray, Value.int .i64 2]) (resN (l := Try.f8.results.toList) (vs := [Value.agg ((encA (encI .i64)) (Ar.rep 4 0)).toArray, Value.agg ((encA (encI .i64)) (Ar.rep 4 0)).toArray, Value.int .i64 2]) rfl ⟨⟨_, rfl, (run_loadVar_agg (es := ((encA (encI .i64)) (Ar.rep 4 0))) rfl (congrArg (Result.ok · _) ((fkA (n := 4) (he := (fkI .i64).len) (h1 := (fkI .i64).one)).len _).symm) (cells_all (hs.cells 1 rfl)))⟩, ⟨_, rfl, (run_loadVar_agg (es := ((encA (encI .i64)) (Ar.rep 4 0))) rfl (congrArg (Result.ok · _) ((fkA (n := 4) (he := (fkI .i64).len) (h1 := (fkI .i64).one)).len _).symm) (cells_all (hs.cells 0 rfl)))⟩, rfl, trivial⟩ (by simp)) ?_
      have hs : St _ [] _ := St.take (Γ' := [_,_,_,_]) hs
      exact ⟨_, rfl, rfl, hs⟩
  | false =>
    rw [if_neg Bool.false_ne_true] at H
    show G _ _ _ _ [_,_,_,_,_,_,_,_,_,_,_,_,_,_,_,_,_,_,_,_,_,_,_,_,_,_,_,_,_,_,_,_,_,_] _
    refine g_op (v := Value.bool true) rfl rfl rfl ?_
    show G _ _ _ _ [_,_,_,_,_,_,_,_,_,_,_,_,_,_,_,_,_,_,_,_,_,_,_,_,_,_,_,_,_,_,_,_,_,_] _
    refine g_op (v := Value.bool true) rfl rfl rfl ?_
    show G _ _ _ _ [_,_,_,_,_,_,_,_,_,_,_,_,_,_,_,_,_,_,_,_,_,_,_,_,_,_,_,_,_,_,_,_,_,_] _
    refine g_ops_nil ?_
    refine g_cond_true rfl ?_
    refine g_seq ?_
    refine g_region ?_
    show G _ _ _ (.inRegion _ [0, 1, 2, 3, 4] :: _) _ _
    refine g_op (v := Value.agg ((encA (encI .i64)) (Ar.rep 4 0)).toArray) rfl rfl (x_build rfl rfl) ?_
    show G _ _ _ _ [_,_,_,_,_,_,_,_,_,_,_,_,_,_,_,_,_,_,_,_,_,_,_,_,_,_,_,_,_,_,_,_,_,_] _
    refine g_op (v := Value.agg ((encA (encI .i64)) (Ar.rep 4 0)).toArray) rfl rfl (x_build rfl rfl) ?_
    show G _ _ _ _ [_,_,_,_,_,_,_,_,_,_,_,_,_,_,_,_,_,_,_,_,_,_,_,_,_,_,_,_,_,_,_,_,_,_] _
    have hs := hs.pull 1 rfl
    have hs : St _ [_,_,_,_] _ := hs
    refine s_storeAll (n := 4) hs ((fkA (n := 4) (he := (fkI .i64).len) (h1 := (fkI .i64).one)).len _) rfl rfl (vs := ((encA (encI .i64)) (Ar.rep 4 0))) rfl rfl rfl (fun _ => rfl) ((fkA (n := 4) (he := (fkI .i64).len) (h1 := (fkI .i64).one)).len _) ((fkA (n := 4) (he := (fkI .i64).len) (h1 := (fkI .i64).one)).one _) ?_
    intro w hs
    have hs := hs.pull 1 rfl
    have hs : St _ [_,_,_,_] _ := hs
    refine s_storeAll (n := 4) hs ((fkA (n := 4) (he := (fkI .i64).len) (h1 := (fkI .i64).one)).len _) rfl rfl (vs := ((encA (encI .i64)) (Ar.rep 4 0))) rfl rfl rfl (fun _ => rfl) ((fkA (n := 4) (he := (fkI .i64).len) (h1 := (fkI .i64).one)).len _) ((fkA (n := 4) (he := (fkI .i64).len) (h1 := (fkI .i64).one)).one _) ?_
    intro w hs
    refine g_op (v := Value.int .i64 1) rfl rfl rfl ?_
    show G _ _ _ _ [_,_,_,_,_,_,_,_,_,_,_,_,_,_,_,_,_,_,_,_,_,_,_,_,_,_,_,_,_,_,_,_,_,_] _
    refine g_ops_nil ?_
    obtain rfl := Option.some.inj H
    refine g_ret Try.func8 (v := Value.tuple #[Value.agg ((encA (encI .i64)) (Ar.rep 4 0)).toArray, Value.agg ((encA (encI .i64)) (Ar.rep 4 0)).toArray, Value.int .i64 1]) (resN (l := Try.f8.results.toList) (vs := [Value.agg ((encA (encI .i64)) (Ar.rep 4 0)).toArray, Value.agg ((encA (encI .i64)) (Ar.rep 4 0)).toArray, Value.int .i64 1]) rfl ⟨⟨_, rfl, (run_loadVar_agg (es := ((encA (encI .i64)) (Ar.rep 4 0))) rfl (congrArg (Result.ok · _) ((fkA (n := 4) (he := (fkI .i64).len) (h1 := (fkI .i64).one)).len _).symm) (cells_all (hs.cells 1 rfl)))⟩, ⟨_, rfl, (run_loadVar_agg (es := ((encA (encI .i64)) (Ar.rep 4 0))) rfl (congrArg (Result.ok · _) ((fkA (n := 4) (he := (fkI .i64).len) (h1 := (fkI .i64).one)).len _).symm) (cells_all (hs.cells 0 rfl)))⟩, rfl, trivial⟩ (by simp)) ?_
    have hs : St _ [] _ := St.take (Γ' := [_,_,_,_]) hs
    exact ⟨_, rfl, rfl, hs⟩

/- function 39 spec_l00In -/
def spec_l00In.post (w0 : World) (r : Bool) (v : Value) (w : World) : Prop := v = Value.bool r ∧ St w0 [] w
set_option maxHeartbeats 8000000 in
set_option maxRecDepth 100000 in
theorem spec_l00In.calls {N : Nat} {a1 : Int} {a2 : Int} {a3 : Int} {w0 : World} {r : Bool} (H : spec_l00In.f N a1 a2 a3 = some r) :
    Calls Try.prog 39 #[Value.int .i64 a1, Value.int .i64 a2, Value.int .i64 a3] w0 fun e w => ∃ v, e = .returned v ∧ spec_l00In.post w0 r v w := by
  unfold spec_l00In.f at H
  have hs : St w0 [] w0 := St.refl w0
  refine calls_of_g (n := 12) Try.func39 rfl rfl ?_
  show G _ _ _ _ [_,_,_,_,_,_,_,_,_,_,_,_,_,_,_] _
  refine g_seq ?_
  refine g_region ?_
  show G _ _ _ (.inRegion _ [0] :: _) _ _
  refine g_op (v := Value.bool false) rfl rfl rfl ?_
  show G _ _ _ _ [_,_,_,_,_,_,_,_,_,_,_,_,_,_,_] _
  refine g_ops_nil ?_
  refine g_seq ?_
  refine g_region ?_
  show G _ _ _ (.inRegion _ [0, 1, 2, 3, 4, 5, 6, 7, 8] :: _) _ _
  refine g_op (v := Value.int .i64 a1) rfl rfl rfl ?_
  show G _ _ _ _ [_,_,_,_,_,_,_,_,_,_,_,_,_,_,_] _
  refine g_op (v := Value.int .i64 a2) rfl rfl rfl ?_
  show G _ _ _ _ [_,_,_,_,_,_,_,_,_,_,_,_,_,_,_] _
  refine g_op_b (B := decide (a1 ≥ a2)) rfl rfl rfl ?_ ?_
  ·
   intro hb
   rw [if_pos (b_dec_t hb)] at H
   show G _ _ _ _ [_,_,_,_,_,_,_,_,_,_,_,_,_,_,_] _
   refine g_op (v := Value.bool true) rfl rfl rfl ?_
   show G _ _ _ _ [_,_,_,_,_,_,_,_,_,_,_,_,_,_,_] _
   refine g_op (v := Value.int .i64 a1) rfl rfl rfl ?_
   show G _ _ _ _ [_,_,_,_,_,_,_,_,_,_,_,_,_,_,_] _
   refine g_op (v := Value.int .i64 a3) rfl rfl rfl ?_
   show G _ _ _ _ [_,_,_,_,_,_,_,_,_,_,_,_,_,_,_] _
   refine g_op (v := Value.bool (decide (a1 ≤ a3))) rfl rfl rfl ?_
   show G _ _ _ _ [_,_,_,_,_,_,_,_,_,_,_,_,_,_,_] _
   refine g_op (v := Value.bool (decide (a1 ≤ a3))) rfl rfl rfl ?_
   show G _ _ _ _ [_,_,_,_,_,_,_,_,_,_,_,_,_,_,_] _
   refine g_op (v := Value.bool (decide (a1 ≤ a3))) rfl rfl rfl ?_
   show G _ _ _ _ [_,_,_,_,_,_,_,_,_,_,_,_,_,_,_] _
   refine g_ops_nil ?_
   obtain rfl := Option.some.inj H
   refine g_ret Try.func39 (v := Value.bool (decide (a1 ≤ a3))) (res1 rfl rfl) ?_
   have hs : St _ [] _ := St.take (Γ' := []) hs
   exact ⟨_, rfl, rfl, hs⟩
  ·
   intro hb
   rw [if_neg (b_dec_f hb)] at H
   show G _ _ _ _ [_,_,_,_,_,_,_,_,_,_,_,_,_,_,_] _
   refine g_op (v := Value.bool false) rfl rfl rfl ?_
   show G _ _ _ _ [_,_,_,_,_,_,_,_,_,_,_,_,_,_,_] _
   refine g_op_not rfl rfl ?_
   show G _ _ _ _ [_,_,_,_,_,_,_,_,_,_,_,_,_,_,_] _
   refine g_op_not rfl rfl ?_
   show G _ _ _ _ [_,_,_,_,_,_,_,_,_,_,_,_,_,_,_] _
   refine g_op_not rfl rfl ?_
   show G _ _ _ _ [_,_,_,_,_,_,_,_,_,_,_,_,_,_,_] _
   refine g_op (v := Value.bool false) rfl rfl rfl ?_
   show G _ _ _ _ [_,_,_,_,_,_,_,_,_,_,_,_,_,_,_] _
   refine g_op (v := Value.bool false) rfl rfl rfl ?_
   show G _ _ _ _ [_,_,_,_,_,_,_,_,_,_,_,_,_,_,_] _
   refine g_ops_nil ?_
   obtain rfl := Option.some.inj H
   refine g_ret Try.func39 (v := Value.bool false) (res1 rfl rfl) ?_
   have hs : St _ [] _ := St.take (Γ' := []) hs
   exact ⟨_, rfl, rfl, hs⟩

/- function 40 spec_l06Total -/
def spec_l06Total.post (w0 : World) (r : Int) (v : Value) (w : World) : Prop := v = Value.int .i64 r ∧ St w0 [] w
set_option maxHeartbeats 8000000 in
set_option maxRecDepth 100000 in
theorem spec_l06Total.calls {N : Nat} {a1 : (Ar Int 4)} {w0 : World} {r : Int} (H : spec_l06Total.f N a1 = some r) :
    Calls Try.prog 40 #[Value.agg ((encA (encI .i64)) a1).toArray] w0 fun e w => ∃ v, e = .returned v ∧ spec_l06Total.post w0 r v w := by
  unfold spec_l06Total.f at H
  have hs : St w0 [] w0 := St.refl w0
  refine calls_of_g (n := 13) Try.func40 rfl rfl ?_
  show G _ _ _ _ [_,_,_,_,_,_,_,_,_,_,_,_,_,_] _
  refine g_seq ?_
  refine g_region ?_
  show G _ _ _ (.inRegion _ [0, 1] :: _) _ _
  refine s_box hs rfl rfl (cs := ((encA (encI .i64)) a1)) rfl rfl ?_
  intro b2 w hs
  show G _ _ _ _ [_,_,_,_,_,_,_,_,_,_,_,_,_,_] _
  refine g_op (v := Value.int .i64 0) rfl rfl rfl ?_
  show G _ _ _ _ [_,_,_,_,_,_,_,_,_,_,_,_,_,_] _
  refine g_ops_nil ?_
  refine g_seq ?_
  refine g_region ?_
  show G _ _ _ (.inRegion _ [0, 1, 2, 3, 4, 5, 6, 7, 8, 9, 10, 11] :: _) _ _
  obtain ⟨g1, H⟩ := ite_get H
  refine s_idxA (n := 0) (m := 1) rfl (fun _ => rfl) g1.1 g1.2 rfl rfl rfl rfl rfl ?_
  show G _ _ _ _ [_,_,_,_,_,_,_,_,_,_,_,_,_,_] _
  refine s_load1 rfl rfl (v := Value.int .i64 (a1.get 0 0)) rfl rfl (fun _ => rfl) (by rw [Nat.zero_add]; exact cells_load (hs.cells 0 rfl) _ _ (encA_at (fkI .i64).len _ _ 0 g1.1 g1.2)) ?_
  show G _ _ _ _ [_,_,_,_,_,_,_,_,_,_,_,_,_,_] _
  obtain ⟨g2, H⟩ := ite_get H
  refine s_idxA (n := 1) (m := 1) rfl (fun _ => rfl) g2.1 g2.2 rfl rfl rfl rfl rfl ?_
  show G _ _ _ _ [_,_,_,_,_,_,_,_,_,_,_,_,_,_] _
  refine s_load1 rfl rfl (v := Value.int .i64 (a1.get 1 0)) rfl rfl (fun _ => rfl) (by rw [Nat.zero_add]; exact cells_load (hs.cells 0 rfl) _ _ (encA_at (fkI .i64).len _ _ 0 g2.1 g2.2)) ?_
  show G _ _ _ _ [_,_,_,_,_,_,_,_,_,_,_,_,_,_] _
  refine g_op (v := Value.int .i64 (i64w ((a1.get 0 0) + (a1.get 1 0)))) rfl rfl rfl ?_
  show G _ _ _ _ [_,_,_,_,_,_,_,_,_,_,_,_,_,_] _
  obtain ⟨g3, H⟩ := ite_get H
  refine s_idxA (n := 2) (m := 1) rfl (fun _ => rfl) g3.1 g3.2 rfl rfl rfl rfl rfl ?_
  show G _ _ _ _ [_,_,_,_,_,_,_,_,_,_,_,_,_,_] _
  refine s_load1 rfl rfl (v := Value.int .i64 (a1.get 2 0)) rfl rfl (fun _ => rfl) (by rw [Nat.zero_add]; exact cells_load (hs.cells 0 rfl) _ _ (encA_at (fkI .i64).len _ _ 0 g3.1 g3.2)) ?_
  show G _ _ _ _ [_,_,_,_,_,_,_,_,_,_,_,_,_,_] _
  refine g_op (v := Value.int .i64 (i64w ((i64w ((a1.get 0 0) + (a1.get 1 0))) + (a1.get 2 0)))) rfl rfl rfl ?_
  show G _ _ _ _ [_,_,_,_,_,_,_,_,_,_,_,_,_,_] _
  obtain ⟨g4, H⟩ := ite_get H
  refine s_idxA (n := 3) (m := 1) rfl (fun _ => rfl) g4.1 g4.2 rfl rfl rfl rfl rfl ?_
  show G _ _ _ _ [_,_,_,_,_,_,_,_,_,_,_,_,_,_] _
  refine s_load1 rfl rfl (v := Value.int .i64 (a1.get 3 0)) rfl rfl (fun _ => rfl) (by rw [Nat.zero_add]; exact cells_load (hs.cells 0 rfl) _ _ (encA_at (fkI .i64).len _ _ 0 g4.1 g4.2)) ?_
  show G _ _ _ _ [_,_,_,_,_,_,_,_,_,_,_,_,_,_] _
  refine g_op (v := Value.int .i64 (i64w ((i64w ((i64w ((a1.get 0 0) + (a1.get 1 0))) + (a1.get 2 0))) + (a1.get 3 0)))) rfl rfl rfl ?_
  show G _ _ _ _ [_,_,_,_,_,_,_,_,_,_,_,_,_,_] _
  refine g_op (v := Value.int .i64 (i64w ((i64w ((i64w ((a1.get 0 0) + (a1.get 1 0))) + (a1.get 2 0))) + (a1.get 3 0)))) rfl rfl rfl ?_
  show G _ _ _ _ [_,_,_,_,_,_,_,_,_,_,_,_,_,_] _
  refine g_ops_nil ?_
  obtain rfl := Option.some.inj H
  refine g_ret Try.func40 (v := Value.int .i64 (i64w ((i64w ((i64w ((a1.get 0 0) + (a1.get 1 0))) + (a1.get 2 0))) + (a1.get 3 0)))) (res1 rfl rfl) ?_
  have hs : St _ [] _ := St.take (Γ' := [_]) hs
  exact ⟨_, rfl, rfl, hs⟩

/- function 24 spec_l06Valid -/
def spec_l06Valid.post (w0 : World) (r : Bool) (v : Value) (w : World) : Prop := v = Value.bool r ∧ St w0 [] w
set_option maxHeartbeats 8000000 in
set_option maxRecDepth 100000 in
theorem spec_l06Valid.calls {N : Nat} {a1 : Int} {a2 : (Ar Int 4)} {w0 : World} {r : Bool} (H : spec_l06Valid.f N a1 a2 = some r) :
    Calls Try.prog 24 #[Value.int .i64 a1, Value.agg ((encA (encI .i64)) a2).toArray] w0 fun e w => ∃ v, e = .returned v ∧ spec_l06Valid.post w0 r v w := by
  unfold spec_l06Valid.f at H
  have hs : St w0 [] w0 := St.refl w0
  refine calls_of_g (n := 30) Try.func24 rfl rfl ?_
  show G _ _ _ _ [_,_,_,_,_,_,_,_,_,_,_,_,_,_,_,_,_,_,_,_,_,_,_,_,_,_,_,_,_,_,_,_] _
  refine g_seq ?_
  refine g_region ?_
  show G _ _ _ (.inRegion _ [0, 1] :: _) _ _
  refine s_box hs rfl rfl (cs := ((encA (encI .i64)) a2)) rfl rfl ?_
  intro b3 w hs
  show G _ _ _ _ [_,_,_,_,_,_,_,_,_,_,_,_,_,_,_,_,_,_,_,_,_,_,_,_,_,_,_,_,_,_,_,_] _
  refine g_op (v := Value.bool false) rfl rfl rfl ?_
  show G _ _ _ _ [_,_,_,_,_,_,_,_,_,_,_,_,_,_,_,_,_,_,_,_,_,_,_,_,_,_,_,_,_,_,_,_] _
  refine g_ops_nil ?_
  refine g_seq ?_
  refine g_seq ?_
  refine g_region ?_
  show G _ _ _ (.inRegion _ [0, 1, 2] :: _) _ _
  refine g_op (v := Value.int .i64 a1) rfl rfl rfl ?_
  obtain ⟨r5, Hr5, H⟩ := bind_get H
  refine s_call (args := [Value.int .i64 a1, Value.int .i64 0, Value.int .i64 3]) rfl rfl (x_call rfl (callFunc_enter Try.func39 rfl rfl) rfl) (spec_l00In.calls (a1 := a1) (a2 := 0) (a3 := 3) Hr5) ?_
  rintro _ w ⟨rfl, hs2⟩
  have hs : St _ [_] _ := hs.call hs2
  cases r5 with
  | true =>
    rw [if_pos rfl] at H
    show G _ _ _ _ [_,_,_,_,_,_,_,_,_,_,_,_,_,_,_,_,_,_,_,_,_,_,_,_,_,_,_,_,_,_,_,_] _
    refine g_op (v := Value.bool false) rfl rfl rfl ?_
    show G _ _ _ _ [_,_,_,_,_,_,_,_,_,_,_,_,_,_,_,_,_,_,_,_,_,_,_,_,_,_,_,_,_,_,_,_] _
    refine g_ops_nil ?_
    refine g_cond_false rfl ?_
    refine g_skip ?_
    refine g_seq ?_
    refine g_seq ?_
    refine g_region ?_
    show G _ _ _ (.inRegion _ [0] :: _) _ _
    refine g_op (v := Value.int .i64 0) rfl rfl rfl ?_
    show G _ _ _ _ [_,_,_,_,_,_,_,_,_,_,_,_,_,_,_,_,_,_,_,_,_,_,_,_,_,_,_,_,_,_,_,_] _
    refine g_ops_nil ?_
    obtain ⟨o1_, Ho, Hr1_⟩ := bind_get H
    refine g_block_join (J := fun t w => spec_l06Valid.a0 N a2 = some r ∧ Fr t (fun O => ([O 0, O 1, O 2, Value.pointer (some ⟨b3, 0, none⟩), O 4, O 5, O 6, O 7, O 8, O 9, O 10, O 11, O 12, O 13, O 14, O 15, O 16, O 17, O 18, O 19, O 20, O 21, O 22, O 23, O 24, O 25, O 26, O 27, O 28, O 29, O 30, O 31] : List Value)) ∧ St w0 [Cells b3 ((encA (encI .i64)) a2) 25] w) ?_ ?_
    ·
     rintro t w ⟨H, hf, hs⟩
     obtain ⟨O, rfl⟩ := hf.open
     show G _ _ _ _ [_,_,_,_,_,_,_,_,_,_,_,_,_,_,_,_,_,_,_,_,_,_,_,_,_,_,_,_,_,_,_,_] _
     unfold spec_l06Valid.a0 at H
     refine g_seq ?_
     refine g_region ?_
     show G _ _ _ (.inRegion _ [0, 1, 2, 3] :: _) _ _
     refine s_loadA rfl rfl (es := ((encA (encI .i64)) a2)) rfl rfl (fun _ => rfl) (n := 4) (fun _ => rfl) ((fkA (n := 4) (he := (fkI .i64).len) (h1 := (fkI .i64).one)).len _) (cells_all (hs.cells 0 rfl)) ?_
     show G _ _ _ _ [_,_,_,_,_,_,_,_,_,_,_,_,_,_,_,_,_,_,_,_,_,_,_,_,_,_,_,_,_,_,_,_] _
     obtain ⟨r9, Hr9, H⟩ := bind_get H
     refine s_call (args := [Value.agg ((encA (encI .i64)) a2).toArray]) rfl rfl (x_call rfl (callFunc_enter Try.func40 rfl rfl) rfl) (spec_l06Total.calls (a1 := a2) Hr9) ?_
     rintro _ w ⟨rfl, hs2⟩
     have hs : St _ [_] _ := hs.call hs2
     show G _ _ _ _ [_,_,_,_,_,_,_,_,_,_,_,_,_,_,_,_,_,_,_,_,_,_,_,_,_,_,_,_,_,_,_,_] _
     refine g_op (v := Value.bool (decide (r9 ≤ 60))) rfl rfl rfl ?_
     show G _ _ _ _ [_,_,_,_,_,_,_,_,_,_,_,_,_,_,_,_,_,_,_,_,_,_,_,_,_,_,_,_,_,_,_,_] _
     refine g_op (v := Value.bool (decide (r9 ≤ 60))) rfl rfl rfl ?_
     show G _ _ _ _ [_,_,_,_,_,_,_,_,_,_,_,_,_,_,_,_,_,_,_,_,_,_,_,_,_,_,_,_,_,_,_,_] _
     refine g_ops_nil ?_
     obtain rfl := Option.some.inj H
     refine g_ret Try.func24 (v := Value.bool (decide (r9 ≤ 60))) (res1 rfl rfl) ?_
     have hs : St _ [] _ := St.take (Γ' := [_]) hs
     exact ⟨_, rfl, rfl, hs⟩
    ·
     intro ha1_
     have hs := hs.pull 0 rfl
     have hs : St _ [_] _ := St.take (Γ' := []) hs
     refine g_loop_fuel (I := fun n_ t w => ∃ x6 : Int, rounds (fun s => spec_l06Valid.b0 N a2 a1 s) n_ x6 = some o1_ ∧ Fr t (fun O => ([Value.int .i64 a1, O 1, O 2, Value.pointer (some ⟨b3, 0, none⟩), O 4, Value.int .i64 x6, O 6, O 7, O 8, O 9, O 10, O 11, O 12, O 13, O 14, O 15, O 16, O 17, O 18, O 19, O 20, O 21, O 22, O 23, O 24, O 25, O 26, O 27, O 28, O 29, O 30, O 31] : List Value)) ∧ St w0 [Cells b3 ((encA (encI .i64)) a2) 25] w) N ⟨0, Ho, rfl, hs⟩ ?_ ?_
     ·
      rintro _ _ ⟨x6, h, _⟩
      exact rounds_zero h
     ·
      intro n_ ih1_
      rintro t w ⟨x6, Ho, hf, hs⟩
      obtain ⟨O, rfl⟩ := hf.open
      show G _ _ _ _ [_,_,_,_,_,_,_,_,_,_,_,_,_,_,_,_,_,_,_,_,_,_,_,_,_,_,_,_,_,_,_,_] _
      obtain ⟨x3_, H, Hx1_⟩ := rounds_succ Ho
      have H : spec_l06Valid.b0 N a2 a1 x6 = some x3_ := H
      unfold spec_l06Valid.b0 at H
      refine g_seq ?_
      refine g_seq ?_
      refine g_region ?_
      show G _ _ _ (.inRegion _ [0, 1] :: _) _ _
      refine g_op (v := Value.int .i64 x6) rfl rfl rfl ?_
      refine g_op_b (B := decide (x6 < 4)) rfl rfl rfl ?_ ?_
      ·
       intro hb
       rw [if_pos (b_dec_t hb)] at H
       show G _ _ _ _ [_,_,_,_,_,_,_,_,_,_,_,_,_,_,_,_,_,_,_,_,_,_,_,_,_,_,_,_,_,_,_,_] _
       refine g_ops_nil ?_
       refine g_cond_true rfl ?_
       refine g_skip ?_
       refine g_seq ?_
       refine g_block_join (J := (fun t w => ∃ x8 : Bool, spec_l06Valid.j2 N x6 x8 = some x3_ ∧ Fr t (fun O => ([Value.int .i64 a1, O 1, O 2, Value.pointer (some ⟨b3, 0, none⟩), O 4, Value.int .i64 x6, O 6, O 7, O 8, O 9, O 10, O 11, O 12, O 13, O 14, O 15, O 16, O 17, O 18, Value.int .i64 x6, Value.int .i64 a1, Value.bool x8, Value.bool x8, O 23, O 24, O 25, O 26, Value.bool false, O 28, O 29, O 30, O 31] : List Value)) ∧ St w0 [Cells b3 ((encA (encI .i64)) a2) 25] w)) ?_ ?_
       ·
        rintro t w ⟨x8, H, hf, hs⟩
        obtain ⟨O, rfl⟩ := hf.open
        show G _ _ _ _ [_,_,_,_,_,_,_,_,_,_,_,_,_,_,_,_,_,_,_,_,_,_,_,_,_,_,_,_,_,_,_,_] _
        unfold spec_l06Valid.j2 at H
        refine g_region ?_
        show G _ _ _ (.inRegion _ [0, 1, 2] :: _) _ _
        refine g_op (v := Value.int .i64 x6) rfl rfl rfl ?_
        refine g_op (v := Value.int .i64 (i64w (x6 + 1))) rfl rfl rfl ?_
        show G _ _ _ _ [_,_,_,_,_,_,_,_,_,_,_,_,_,_,_,_,_,_,_,_,_,_,_,_,_,_,_,_,_,_,_,_] _
        refine g_op (v := Value.int .i64 (i64w (x6 + 1))) rfl rfl rfl ?_
        show G _ _ _ _ [_,_,_,_,_,_,_,_,_,_,_,_,_,_,_,_,_,_,_,_,_,_,_,_,_,_,_,_,_,_,_,_] _
        refine g_ops_nil ?_
        obtain rfl := Option.some.inj H
        have hs := hs.pull 0 rfl
        have hs : St _ [_] _ := St.take (Γ' := []) hs
        exact ih1_ _ _ ⟨i64w (x6 + 1), Hx1_, rfl, hs⟩
       ·
        intro ha
        refine g_seq ?_
        refine g_region ?_
        show G _ _ _ (.inRegion _ [0, 1, 2, 3, 4, 5, 6, 7, 8, 9, 10, 11, 12, 13, 14, 15] :: _) _ _
        refine g_op (v := Value.int .i64 x6) rfl rfl rfl ?_
        obtain ⟨g1, H⟩ := ite_get H
        refine s_idxA (n := x6) (m := 1) rfl (fun _ => rfl) g1.1 g1.2 rfl rfl rfl rfl rfl ?_
        show G _ _ _ _ [_,_,_,_,_,_,_,_,_,_,_,_,_,_,_,_,_,_,_,_,_,_,_,_,_,_,_,_,_,_,_,_] _
        refine s_load1 rfl rfl (v := Value.int .i64 (a2.get x6 0)) rfl rfl (fun _ => rfl) (by rw [Nat.zero_add]; exact cells_load (hs.cells 0 rfl) _ _ (encA_at (fkI .i64).len _ _ 0 g1.1 g1.2)) ?_
        show G _ _ _ _ [_,_,_,_,_,_,_,_,_,_,_,_,_,_,_,_,_,_,_,_,_,_,_,_,_,_,_,_,_,_,_,_] _
        obtain ⟨r7, Hr7, H⟩ := bind_get H
        refine s_call (args := [Value.int .i64 (a2.get x6 0), Value.int .i64 0, Value.int .i64 60]) rfl rfl (x_call rfl (callFunc_enter Try.func39 rfl rfl) rfl) (spec_l00In.calls (a1 := a2.get x6 0) (a2 := 0) (a3 := 60) Hr7) ?_
        rintro _ w ⟨rfl, hs2⟩
        have hs : St _ [_] _ := hs.call hs2
        cases r7 with
        | true =>
          rw [if_pos rfl] at H
          show G _ _ _ _ [_,_,_,_,_,_,_,_,_,_,_,_,_,_,_,_,_,_,_,_,_,_,_,_,_,_,_,_,_,_,_,_] _
          refine g_op (v := Value.bool false) rfl rfl rfl ?_
          show G _ _ _ _ [_,_,_,_,_,_,_,_,_,_,_,_,_,_,_,_,_,_,_,_,_,_,_,_,_,_,_,_,_,_,_,_] _
          refine g_op (v := Value.bool false) rfl rfl rfl ?_
          refine g_op (v := Value.int .i64 x6) rfl rfl rfl ?_
          refine g_op (v := Value.int .i64 a1) rfl rfl rfl ?_
          refine g_op_b (B := decide (x6 > a1)) rfl rfl rfl ?_ ?_
          ·
           intro hb
           rw [if_pos (b_dec_t hb)] at H
           show G _ _ _ _ [_,_,_,_,_,_,_,_,_,_,_,_,_,_,_,_,_,_,_,_,_,_,_,_,_,_,_,_,_,_,_,_] _
           refine g_op (v := Value.bool true) rfl rfl rfl ?_
           refine g_op (v := Value.int .i64 x6) rfl rfl rfl ?_
           obtain ⟨g2, H⟩ := ite_get H
           refine s_idxA (n := x6) (m := 1) rfl (fun _ => rfl) g2.1 g2.2 rfl rfl rfl rfl rfl ?_
           show G _ _ _ _ [_,_,_,_,_,_,_,_,_,_,_,_,_,_,_,_,_,_,_,_,_,_,_,_,_,_,_,_,_,_,_,_] _
           refine s_load1 rfl rfl (v := Value.int .i64 (a2.get x6 0)) rfl rfl (fun _ => rfl) (by rw [Nat.zero_add]; exact cells_load (hs.cells 0 rfl) _ _ (encA_at (fkI .i64).len _ _ 0 g2.1 g2.2)) ?_
           show G _ _ _ _ [_,_,_,_,_,_,_,_,_,_,_,_,_,_,_,_,_,_,_,_,_,_,_,_,_,_,_,_,_,_,_,_] _
           refine g_op (v := Value.bool ((a2.get x6 0) != 0)) rfl rfl rfl ?_
           show G _ _ _ _ [_,_,_,_,_,_,_,_,_,_,_,_,_,_,_,_,_,_,_,_,_,_,_,_,_,_,_,_,_,_,_,_] _
           refine g_op_b (B := (a2.get x6 0) != 0) rfl rfl rfl ?_ ?_
           ·
            intro hb
            rw [if_neg (b_bne_t hb)] at H
            show G _ _ _ _ [_,_,_,_,_,_,_,_,_,_,_,_,_,_,_,_,_,_,_,_,_,_,_,_,_,_,_,_,_,_,_,_] _
            refine g_op (v := Value.bool true) rfl rfl rfl ?_
            show G _ _ _ _ [_,_,_,_,_,_,_,_,_,_,_,_,_,_,_,_,_,_,_,_,_,_,_,_,_,_,_,_,_,_,_,_] _
            refine g_ops_nil ?_
            refine g_cond_true rfl ?_
            refine g_seq ?_
            refine g_region ?_
            show G _ _ _ (.inRegion _ [0] :: _) _ _
            refine g_op (v := Value.bool false) rfl rfl rfl ?_
            show G _ _ _ _ [_,_,_,_,_,_,_,_,_,_,_,_,_,_,_,_,_,_,_,_,_,_,_,_,_,_,_,_,_,_,_,_] _
            refine g_ops_nil ?_
            obtain rfl := Option.some.inj H
            subst Hx1_
            have H := Option.some.inj Hr1_
            subst H
            refine g_ret Try.func24 (v := Value.bool false) (res1 rfl rfl) ?_
            have hs : St _ [] _ := St.take (Γ' := [_]) hs
            exact ⟨_, rfl, rfl, hs⟩
           ·
            intro hb
            rw [if_pos (b_bne_f hb)] at H
            show G _ _ _ _ [_,_,_,_,_,_,_,_,_,_,_,_,_,_,_,_,_,_,_,_,_,_,_,_,_,_,_,_,_,_,_,_] _
            refine g_op (v := Value.bool false) rfl rfl rfl ?_
            show G _ _ _ _ [_,_,_,_,_,_,_,_,_,_,_,_,_,_,_,_,_,_,_,_,_,_,_,_,_,_,_,_,_,_,_,_] _
            refine g_ops_nil ?_
            refine g_cond_false rfl ?_
            refine g_skip ?_
            refine g_inBlock ?_
            have hs := hs.pull 0 rfl
            have hs : St _ [_] _ := St.take (Γ' := []) hs
            exact ha _ _ ⟨true, H, rfl, hs⟩
          ·
           intro hb
           rw [if_neg (b_dec_f hb)] at H
           show G _ _ _ _ [_,_,_,_,_,_,_,_,_,_,_,_,_,_,_,_,_,_,_,_,_,_,_,_,_,_,_,_,_,_,_,_] _
           refine g_op (v := Value.bool false) rfl rfl rfl ?_
           refine g_op_not rfl rfl ?_
           refine g_op_not rfl rfl ?_
           show G _ _ _ _ [_,_,_,_,_,_,_,_,_,_,_,_,_,_,_,_,_,_,_,_,_,_,_,_,_,_,_,_,_,_,_,_] _
           refine g_op_not rfl rfl ?_
           show G _ _ _ _ [_,_,_,_,_,_,_,_,_,_,_,_,_,_,_,_,_,_,_,_,_,_,_,_,_,_,_,_,_,_,_,_] _
           refine g_op_not rfl rfl ?_
           show G _ _ _ _ [_,_,_,_,_,_,_,_,_,_,_,_,_,_,_,_,_,_,_,_,_,_,_,_,_,_,_,_,_,_,_,_] _
           refine g_op (v := Value.bool false) rfl rfl rfl ?_
           show G _ _ _ _ [_,_,_,_,_,_,_,_,_,_,_,_,_,_,_,_,_,_,_,_,_,_,_,_,_,_,_,_,_,_,_,_] _
           refine g_op (v := Value.bool false) rfl rfl rfl ?_
           show G _ _ _ _ [_,_,_,_,_,_,_,_,_,_,_,_,_,_,_,_,_,_,_,_,_,_,_,_,_,_,_,_,_,_,_,_] _
           refine g_ops_nil ?_
           refine g_cond_false rfl ?_
           refine g_skip ?_
           refine g_inBlock ?_
           have hs := hs.pull 0 rfl
           have hs : St _ [_] _ := St.take (Γ' := []) hs
           exact ha _ _ ⟨false, H, rfl, hs⟩
        | false =>
          rw [if_neg Bool.false_ne_true] at H
          show G _ _ _ _ [_,_,_,_,_,_,_,_,_,_,_,_,_,_,_,_,_,_,_,_,_,_,_,_,_,_,_,_,_,_,_,_] _
          refine g_op (v := Value.bool true) rfl rfl rfl ?_
          show G _ _ _ _ [_,_,_,_,_,_,_,_,_,_,_,_,_,_,_,_,_,_,_,_,_,_,_,_,_,_,_,_,_,_,_,_] _
          refine g_op (v := Value.bool true) rfl rfl rfl ?_
          refine g_op_not rfl rfl ?_
          refine g_op_not rfl rfl ?_
          refine g_op_not rfl rfl ?_
          show G _ _ _ _ [_,_,_,_,_,_,_,_,_,_,_,_,_,_,_,_,_,_,_,_,_,_,_,_,_,_,_,_,_,_,_,_] _
          refine g_op_not rfl rfl ?_
          refine g_op_not rfl rfl ?_
          refine g_op_not rfl rfl ?_
          show G _ _ _ _ [_,_,_,_,_,_,_,_,_,_,_,_,_,_,_,_,_,_,_,_,_,_,_,_,_,_,_,_,_,_,_,_] _
          refine g_op_not rfl rfl ?_
          show G _ _ _ _ [_,_,_,_,_,_,_,_,_,_,_,_,_,_,_,_,_,_,_,_,_,_,_,_,_,_,_,_,_,_,_,_] _
          refine g_op_not rfl rfl ?_
          show G _ _ _ _ [_,_,_,_,_,_,_,_,_,_,_,_,_,_,_,_,_,_,_,_,_,_,_,_,_,_,_,_,_,_,_,_] _
          refine g_op_not rfl rfl ?_
          show G _ _ _ _ [_,_,_,_,_,_,_,_,_,_,_,_,_,_,_,_,_,_,_,_,_,_,_,_,_,_,_,_,_,_,_,_] _
          refine g_op (v := Value.bool true) rfl rfl rfl ?_
          show G _ _ _ _ [_,_,_,_,_,_,_,_,_,_,_,_,_,_,_,_,_,_,_,_,_,_,_,_,_,_,_,_,_,_,_,_] _
          refine g_ops_nil ?_
          refine g_cond_true rfl ?_
          refine g_seq ?_
          refine g_region ?_
          show G _ _ _ (.inRegion _ [0] :: _) _ _
          refine g_op (v := Value.bool false) rfl rfl rfl ?_
          show G _ _ _ _ [_,_,_,_,_,_,_,_,_,_,_,_,_,_,_,_,_,_,_,_,_,_,_,_,_,_,_,_,_,_,_,_] _
          refine g_ops_nil ?_
          obtain rfl := Option.some.inj H
          subst Hx1_
          have H := Option.some.inj Hr1_
          subst H
          refine g_ret Try.func24 (v := Value.bool false) (res1 rfl rfl) ?_
          have hs : St _ [] _ := St.take (Γ' := [_]) hs
          exact ⟨_, rfl, rfl, hs⟩
      ·
       intro hb
       rw [if_neg (b_dec_f hb)] at H
       show G _ _ _ _ [_,_,_,_,_,_,_,_,_,_,_,_,_,_,_,_,_,_,_,_,_,_,_,_,_,_,_,_,_,_,_,_] _
       refine g_ops_nil ?_
       refine g_cond_false rfl ?_
       obtain rfl := Option.some.inj H
       subst Hx1_
       have hs := hs.pull 0 rfl
       have hs : St _ [_] _ := St.take (Γ' := []) hs
       refine g_exit rfl ?_
       exact ha1_ _ _ ⟨Hr1_, rfl, hs⟩
  | false =>
    rw [if_neg Bool.false_ne_true] at H
    show G _ _ _ _ [_,_,_,_,_,_,_,_,_,_,_,_,_,_,_,_,_,_,_,_,_,_,_,_,_,_,_,_,_,_,_,_] _
    refine g_op (v := Value.bool true) rfl rfl rfl ?_
    show G _ _ _ _ [_,_,_,_,_,_,_,_,_,_,_,_,_,_,_,_,_,_,_,_,_,_,_,_,_,_,_,_,_,_,_,_] _
    refine g_ops_nil ?_
    refine g_cond_true rfl ?_
    refine g_seq ?_
    refine g_region ?_
    show G _ _ _ (.inRegion _ [0] :: _) _ _
    refine g_op (v := Value.bool false) rfl rfl rfl ?_
    show G _ _ _ _ [_,_,_,_,_,_,_,_,_,_,_,_,_,_,_,_,_,_,_,_,_,_,_,_,_,_,_,_,_,_,_,_] _
    refine g_ops_nil ?_
    obtain rfl := Option.some.inj H
    refine g_ret Try.func24 (v := Value.bool false) (res1 rfl rfl) ?_
    have hs : St _ [] _ := St.take (Γ' := [_]) hs
    exact ⟨_, rfl, rfl, hs⟩

/- function 25 spec_l06Within -/
def spec_l06Within.post (w0 : World) (r : Bool) (v : Value) (w : World) : Prop := v = Value.bool r ∧ St w0 [] w
set_option maxHeartbeats 8000000 in
set_option maxRecDepth 100000 in
theorem spec_l06Within.calls {N : Nat} {a1 : (Ar Int 4)} {a2 : (Ar Int 4)} {w0 : World} {r : Bool} (H : spec_l06Within.f N a1 a2 = some r) :
    Calls Try.prog 25 #[Value.agg ((encA (encI .i64)) a1).toArray, Value.agg ((encA (encI .i64)) a2).toArray] w0 fun e w => ∃ v, e = .returned v ∧ spec_l06Within.post w0 r v w := by
  unfold spec_l06Within.f at H
  have hs : St w0 [] w0 := St.refl w0
  refine calls_of_g (n := 16) Try.func25 rfl rfl ?_
  show G _ _ _ _ [_,_,_,_,_,_,_,_,_,_,_,_,_,_,_,_,_,_] _
  refine g_seq ?_
  refine g_region ?_
  show G _ _ _ (.inRegion _ [0, 1, 2] :: _) _ _
  refine s_box hs rfl rfl (cs := ((encA (encI .i64)) a1)) rfl rfl ?_
  intro b3 w hs
  show G _ _ _ _ [_,_,_,_,_,_,_,_,_,_,_,_,_,_,_,_,_,_] _
  refine s_box hs rfl rfl (cs := ((encA (encI .i64)) a2)) rfl rfl ?_
  intro b5 w hs
  show G _ _ _ _ [_,_,_,_,_,_,_,_,_,_,_,_,_,_,_,_,_,_] _
  refine g_op (v := Value.bool false) rfl rfl rfl ?_
  show G _ _ _ _ [_,_,_,_,_,_,_,_,_,_,_,_,_,_,_,_,_,_] _
  refine g_ops_nil ?_
  refine g_seq ?_
  refine g_seq ?_
  refine g_region ?_
  show G _ _ _ (.inRegion _ [0] :: _) _ _
  refine g_op (v := Value.int .i64 0) rfl rfl rfl ?_
  show G _ _ _ _ [_,_,_,_,_,_,_,_,_,_,_,_,_,_,_,_,_,_] _
  refine g_ops_nil ?_
  obtain ⟨o1_, Ho, Hr1_⟩ := bind_get H
  refine g_block_join (J := fun t w => spec_l06Within.a0 N = some r ∧ Fr t (fun O => ([O 0, O 1, O 2, O 3, O 4, O 5, O 6, O 7, O 8, O 9, O 10, O 11, O 12, O 13, O 14, O 15, O 16, O 17] : List Value)) ∧ St w0 [] w) ?_ ?_
  ·
   rintro t w ⟨H, hf, hs⟩
   obtain ⟨O, rfl⟩ := hf.open
   show G _ _ _ _ [_,_,_,_,_,_,_,_,_,_,_,_,_,_,_,_,_,_] _
   unfold spec_l06Within.a0 at H
   refine g_seq ?_
   refine g_region ?_
   show G _ _ _ (.inRegion _ [0] :: _) _ _
   refine g_op (v := Value.bool true) rfl rfl rfl ?_
   show G _ _ _ _ [_,_,_,_,_,_,_,_,_,_,_,_,_,_,_,_,_,_] _
   refine g_ops_nil ?_
   obtain rfl := Option.some.inj H
   refine g_ret Try.func25 (v := Value.bool true) (res1 rfl rfl) ?_
   have hs : St _ [] _ := St.take (Γ' := []) hs
   exact ⟨_, rfl, rfl, hs⟩
  ·
   intro ha1_
   have hs := hs.pull 0 rfl
   have hs := hs.pull 1 rfl
   have hs : St _ [_,_] _ := St.take (Γ' := []) hs
   refine g_loop_fuel (I := fun n_ t w => ∃ x7 : Int, rounds (fun s => spec_l06Within.b0 N a1 a2 s) n_ x7 = some o1_ ∧ Fr t (fun O => ([O 0, O 1, Value.pointer (some ⟨b3, 0, none⟩), Value.pointer (some ⟨b5, 0, none⟩), O 4, Value.int .i64 x7, O 6, O 7, O 8, O 9, O 10, O 11, O 12, O 13, O 14, O 15, O 16, O 17] : List Value)) ∧ St w0 [Cells b3 ((encA (encI .i64)) a1) 25, Cells b5 ((encA (encI .i64)) a2) 25] w) N ⟨0, Ho, rfl, hs⟩ ?_ ?_
   ·
    rintro _ _ ⟨x7, h, _⟩
    exact rounds_zero h
   ·
    intro n_ ih1_
    rintro t w ⟨x7, Ho, hf, hs⟩
    obtain ⟨O, rfl⟩ := hf.open
    show G _ _ _ _ [_,_,_,_,_,_,_,_,_,_,_,_,_,_,_,_,_,_] _
    obtain ⟨x7_, H, Hx1_⟩ := rounds_succ Ho
    have H : spec_l06Within.b0 N a1 a2 x7 = some x7_ := H
    unfold spec_l06Within.b0 at H
    refine g_seq ?_
    refine g_seq ?_
    refine g_region ?_
    show G _ _ _ (.inRegion _ [0, 1] :: _) _ _
    refine g_op (v := Value.int .i64 x7) rfl rfl rfl ?_
    show G _ _ _ _ [_,_,_,_,_,_,_,_,_,_,_,_,_,_,_,_,_,_] _
    refine g_op_b (B := decide (x7 < 4)) rfl rfl rfl ?_ ?_
    ·
     intro hb
     rw [if_pos (b_dec_t hb)] at H
     show G _ _ _ _ [_,_,_,_,_,_,_,_,_,_,_,_,_,_,_,_,_,_] _
     refine g_ops_nil ?_
     refine g_cond_true rfl ?_
     refine g_skip ?_
     refine g_seq ?_
     refine g_block ?_
     refine g_seq ?_
     refine g_lay (n := 8) rfl [0, 1, 2, 3, 4, 5, 6, 7] [0, 1, 2, 3, 4, 5, 6, 7] rfl rfl ?_
     intro rest w hh hbw hO
     have hs := hs.samew hh hbw
     show G _ _ _ _ [_,_,_,_,_,_,_,_,_,_,_,_,_,_,_,_,_,_] _
     obtain ⟨gd2, H⟩ := ite_get H
     obtain ⟨gd3, H⟩ := ite_get H
     refine g_name ?_
     intro T hT
     refine g_layer (m0 := 0) hO rfl 63 [0, 1, 2, 3, 4, 5] [0, 1, 3, 0, 8, 24, 63, 127] (by decide +kernel) (fun D t w => ∃ O : Nat → Value, t = [O 0, O 1, Value.pointer (some ⟨b3, 0, none⟩), Value.pointer (some ⟨b5, 0, none⟩), O 4, Value.int .i64 x7, Value.int .i64 x7, Value.bool true, O 8, O 9, cnd (D 0) (Value.int .i64 x7) (O 10), cnd (D 1) (Value.pointer (some ⟨b3, 0 + x7.toNat * 1, none⟩)) (O 11), cnd (D 2) (Value.int .i64 (a1.get x7 0)) (O 12), cnd (D 3) (Value.int .i64 x7) (O 13), cnd (D 4) (Value.pointer (some ⟨b5, 0 + x7.toNat * 1, none⟩)) (O 14), cnd (D 5) (Value.int .i64 (a2.get x7 0)) (O 15), O 16, O 17] ∧ St w0 [Cells b3 ((encA (encI .i64)) a1) 25, Cells b5 ((encA (encI .i64)) a2) 25] w) ?_ ⟨?_, ⟨?_, ⟨?_, ⟨?_, ⟨?_, ⟨?_, trivial⟩⟩⟩⟩⟩⟩ ?_
     · exact ⟨fun i => T.getD i undef, (by subst hT; rfl), hs⟩
     ·
      intro D t w hD hp hcl hI rest hk
      obtain ⟨O, ht, hs⟩ := hI
      have hp : AllDone D [] := hp
      have q1_ : D 1 = false := not_yet (show D 1 = true → AllDone D [0] from hcl 1 (by decide)) 0 0 rfl hD
      have q2_ : D 2 = false := not_yet (show D 2 = true → AllDone D [1] from hcl 2 (by decide)) 0 1 rfl q1_
      simp only [hD, q1_, q2_, cnd_t, cnd_f, Asc_t, Asc_f] at ht hs
      subst ht
      refine g_op (v := Value.int .i64 x7) rfl rfl rfl ?_
      show G _ _ _ _ [_,_,_,_,_,_,_,_,_,_,_,_,_,_,_,_,_,_] _
      exact hk _ _ ⟨O, (by simp only [upd, Nat.reduceBEq, Bool.true_or, Bool.false_or, q1_, q2_, cnd_t, cnd_f, Asc_t, Asc_f]), hs.cast (by first | rfl | simp only [List.take, List.drop, List.cons_append, List.nil_append, List.set_cons_zero, List.set_cons_succ, List.eraseIdx, upd, Nat.reduceBEq, Bool.true_or, Bool.false_or, q1_, q2_, cnd_t, cnd_f, Asc_t, Asc_f])⟩
     ·
      intro D t w hD hp hcl hI rest hk
      obtain ⟨O, ht, hs⟩ := hI
      have hp : AllDone D [0] := hp
      obtain ⟨p0_, _⟩ := hp
      have q2_ : D 2 = false := not_yet (show D 2 = true → AllDone D [1] from hcl 2 (by decide)) 0 1 rfl hD
      simp only [hD, p0_, q2_, cnd_t, cnd_f, Asc_t, Asc_f] at ht hs
      subst ht
      refine s_idxA (n := x7) (m := 1) rfl (fun _ => rfl) gd2.1 gd2.2 rfl rfl rfl rfl rfl ?_
      show G _ _ _ _ [_,_,_,_,_,_,_,_,_,_,_,_,_,_,_,_,_,_] _
      exact hk _ _ ⟨O, (by simp only [upd, Nat.reduceBEq, Bool.true_or, Bool.false_or, p0_, q2_, cnd_t, cnd_f, Asc_t, Asc_f]), hs.cast (by first | rfl | simp only [List.take, List.drop, List.cons_append, List.nil_append, List.set_cons_zero, List.set_cons_succ, List.eraseIdx, upd, Nat.reduceBEq, Bool.true_or, Bool.false_or, p0_, q2_, cnd_t, cnd_f, Asc_t, Asc_f])⟩
     ·
      intro D t w hD hp hcl hI rest hk
      obtain ⟨O, ht, hs⟩ := hI
      have hp : AllDone D [1] := hp
      obtain ⟨p1_, _⟩ := hp
      obtain ⟨p0_, _⟩ := (show D 1 = true → AllDone D [0] from hcl 1 (by decide)) p1_
      simp only [hD, p0_, p1_, cnd_t, cnd_f, Asc_t, Asc_f] at ht hs
      subst ht
      refine s_load1 rfl rfl (v := Value.int .i64 (a1.get x7 0)) rfl rfl (fun _ => rfl) (by rw [Nat.zero_add]; exact cells_load (hs.cells 0 rfl) _ _ (encA_at (fkI .i64).len _ _ 0 gd2.1 gd2.2)) ?_
      show G _ _ _ _ [_,_,_,_,_,_,_,_,_,_,_,_,_,_,_,_,_,_] _
      exact hk _ _ ⟨O, (by simp only [upd, Nat.reduceBEq, Bool.true_or, Bool.false_or, p0_, p1_, cnd_t, cnd_f, Asc_t, Asc_f]), hs.cast (by first | rfl | simp only [List.take, List.drop, List.cons_append, List.nil_append, List.set_cons_zero, List.set_cons_succ, List.eraseIdx, upd, Nat.reduceBEq, Bool.true_or, Bool.false_or, p0_, p1_, cnd_t, cnd_f, Asc_t, Asc_f])⟩
     ·
      intro D t w hD hp hcl hI rest hk
      obtain ⟨O, ht, hs⟩ := hI
      have hp : AllDone D [] := hp
      have q4_ : D 4 = false := not_yet (show D 4 = true → AllDone D [3] from hcl 4 (by decide)) 0 3 rfl hD
      have q5_ : D 5 = false := not_yet (show D 5 = true → AllDone D [4] from hcl 5 (by decide)) 0 4 rfl q4_
      simp only [hD, q4_, q5_, cnd_t, cnd_f, Asc_t, Asc_f] at ht hs
      subst ht
      refine g_op (v := Value.int .i64 x7) rfl rfl rfl ?_
      show G _ _ _ _ [_,_,_,_,_,_,_,_,_,_,_,_,_,_,_,_,_,_] _
      exact hk _ _ ⟨O, (by simp only [upd, Nat.reduceBEq, Bool.true_or, Bool.false_or, q4_, q5_, cnd_t, cnd_f, Asc_t, Asc_f]), hs.cast (by first | rfl | simp only [List.take, List.drop, List.cons_append, List.nil_append, List.set_cons_zero, List.set_cons_succ, List.eraseIdx, upd, Nat.reduceBEq, Bool.true_or, Bool.false_or, q4_, q5_, cnd_t, cnd_f, Asc_t, Asc_f])⟩
     ·
      intro D t w hD hp hcl hI rest hk
      obtain ⟨O, ht, hs⟩ := hI
      have hp : AllDone D [3] := hp
      obtain ⟨p3_, _⟩ := hp
      have q5_ : D 5 = false := not_yet (show D 5 = true → AllDone D [4] from hcl 5 (by decide)) 0 4 rfl hD
      simp only [hD, p3_, q5_, cnd_t, cnd_f, Asc_t, Asc_f] at ht hs
      subst ht
      refine s_idxA (n := x7) (m := 1) rfl (fun _ => rfl) gd3.1 gd3.2 rfl rfl rfl rfl rfl ?_
      show G _ _ _ _ [_,_,_,_,_,_,_,_,_,_,_,_,_,_,_,_,_,_] _
      exact hk _ _ ⟨O, (by simp only [upd, Nat.reduceBEq, Bool.true_or, Bool.false_or, p3_, q5_, cnd_t, cnd_f, Asc_t, Asc_f]), hs.cast (by first | rfl | simp only [List.take, List.drop, List.cons_append, List.nil_append, List.set_cons_zero, List.set_cons_succ, List.eraseIdx, upd, Nat.reduceBEq, Bool.true_or, Bool.false_or, p3_, q5_, cnd_t, cnd_f, Asc_t, Asc_f])⟩
     ·
      intro D t w hD hp hcl hI rest hk
      obtain ⟨O, ht, hs⟩ := hI
      have hp : AllDone D [4] := hp
      obtain ⟨p4_, _⟩ := hp
      obtain ⟨p3_, _⟩ := (show D 4 = true → AllDone D [3] from hcl 4 (by decide)) p4_
      simp only [hD, p3_, p4_, cnd_t, cnd_f, Asc_t, Asc_f] at ht hs
      subst ht
      refine s_load1 rfl rfl (v := Value.int .i64 (a2.get x7 0)) rfl rfl (fun _ => rfl) (by rw [Nat.zero_add]; exact cells_load (hs.cells 1 rfl) _ _ (encA_at (fkI .i64).len _ _ 0 gd3.1 gd3.2)) ?_
      show G _ _ _ _ [_,_,_,_,_,_,_,_,_,_,_,_,_,_,_,_,_,_] _
      exact hk _ _ ⟨O, (by simp only [upd, Nat.reduceBEq, Bool.true_or, Bool.false_or, p3_, p4_, cnd_t, cnd_f, Asc_t, Asc_f]), hs.cast (by first | rfl | simp only [List.take, List.drop, List.cons_append, List.nil_append, List.set_cons_zero, List.set_cons_succ, List.eraseIdx, upd, Nat.reduceBEq, Bool.true_or, Bool.false_or, p3_, p4_, cnd_t, cnd_f, Asc_t, Asc_f])⟩
     ·
      intro D t w rest hall hO1_ hI
      obtain ⟨O, ht, hs⟩ := hI
      have p0_ : D 0 = true := hall 0 (by decide) rfl
      have p1_ : D 1 = true := hall 1 (by decide) rfl
      have p2_ : D 2 = true := hall 2 (by decide) rfl
      have p3_ : D 3 = true := hall 3 (by decide) rfl
      have p4_ : D 4 = true := hall 4 (by decide) rfl
      have p5_ : D 5 = true := hall 5 (by decide) rfl
      simp only [p0_, p1_, p2_, p3_, p4_, p5_, cnd_t, cnd_f, Asc_t, Asc_f] at ht hs
      subst ht
      obtain ⟨rest, rfl, hO4_⟩ := ord_one (m := 63) hO1_ rfl 6 (m' := 127) (by decide +kernel) rfl
      clear hO1_
      obtain ⟨r8, Hr8, H⟩ := bind_get H
      refine s_call (args := [Value.int .i64 (a1.get x7 0), Value.int .i64 0, Value.int .i64 (a2.get x7 0)]) rfl rfl (x_call rfl (callFunc_enter Try.func39 rfl rfl) rfl) (spec_l00In.calls (a1 := a1.get x7 0) (a2 := 0) (a3 := a2.get x7 0) Hr8) ?_
      rintro _ w ⟨rfl, hs2⟩
      have hs : St _ [_,_] _ := hs.call hs2
      cases r8 with
      | true =>
        rw [if_pos rfl] at H
        show G _ _ _ _ [_,_,_,_,_,_,_,_,_,_,_,_,_,_,_,_,_,_] _
        obtain ⟨rest, rfl, hO5_⟩ := ord_one (m := 127) hO4_ rfl 7 (m' := 255) (by decide +kernel) rfl
        clear hO4_
        refine g_op (v := Value.bool false) rfl rfl rfl ?_
        show G _ _ _ _ [_,_,_,_,_,_,_,_,_,_,_,_,_,_,_,_,_,_] _
        obtain rfl := ord_end hO5_ rfl (by decide +kernel)
        refine g_ops_nil ?_
        refine g_cond_false rfl ?_
        refine g_skip ?_
        refine g_inBlock ?_
        refine g_region ?_
        show G _ _ _ (.inRegion _ [0, 1, 2] :: _) _ _
        refine g_op (v := Value.int .i64 x7) rfl rfl rfl ?_
        show G _ _ _ _ [_,_,_,_,_,_,_,_,_,_,_,_,_,_,_,_,_,_] _
        refine g_op (v := Value.int .i64 (i64w (x7 + 1))) rfl rfl rfl ?_
        show G _ _ _ _ [_,_,_,_,_,_,_,_,_,_,_,_,_,_,_,_,_,_] _
        refine g_op (v := Value.int .i64 (i64w (x7 + 1))) rfl rfl rfl ?_
        show G _ _ _ _ [_,_,_,_,_,_,_,_,_,_,_,_,_,_,_,_,_,_] _
        refine g_ops_nil ?_
        obtain rfl := Option.some.inj H
        have hs := hs.pull 1 rfl
        have hs := hs.pull 1 rfl
        have hs : St _ [_,_] _ := St.take (Γ' := []) hs
        exact ih1_ _ _ ⟨i64w (x7 + 1), Hx1_, rfl, hs⟩
      | false =>
        rw [if_neg Bool.false_ne_true] at H
        show G _ _ _ _ [_,_,_,_,_,_,_,_,_,_,_,_,_,_,_,_,_,_] _
        obtain ⟨rest, rfl, hO6_⟩ := ord_one (m := 127) hO4_ rfl 7 (m' := 255) (by decide +kernel) rfl
        clear hO4_
        refine g_op (v := Value.bool true) rfl rfl rfl ?_
        show G _ _ _ _ [_,_,_,_,_,_,_,_,_,_,_,_,_,_,_,_,_,_] _
        obtain rfl := ord_end hO6_ rfl (by decide +kernel)
        refine g_ops_nil ?_
        refine g_cond_true rfl ?_
        refine g_seq ?_
        refine g_region ?_
        show G _ _ _ (.inRegion _ [0] :: _) _ _
        refine g_op (v := Value.bool false) rfl rfl rfl ?_
        show G _ _ _ _ [_,_,_,_,_,_,_,_,_,_,_,_,_,_,_,_,_,_] _
        refine g_ops_nil ?_
        obtain rfl := Option.some.inj H
        subst Hx1_
        have H := Option.some.inj Hr1_
        subst H
        refine g_ret Try.func25 (v := Value.bool false) (res1 rfl rfl) ?_
        have hs : St _ [] _ := St.take (Γ' := [_,_]) hs
        exact ⟨_, rfl, rfl, hs⟩
    ·
     intro hb
     rw [if_neg (b_dec_f hb)] at H
     show G _ _ _ _ [_,_,_,_,_,_,_,_,_,_,_,_,_,_,_,_,_,_] _
     refine g_ops_nil ?_
     refine g_cond_false rfl ?_
     obtain rfl := Option.some.inj H
     subst Hx1_
     have hs : St _ [] _ := St.take (Γ' := [_,_]) hs
     refine g_exit rfl ?_
     exact ha1_ _ _ ⟨Hr1_, rfl, hs⟩

end Go.Proofs.YtfnfoecocicigaaX
