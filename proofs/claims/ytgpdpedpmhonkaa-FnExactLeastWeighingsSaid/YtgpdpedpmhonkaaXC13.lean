/- Contracts, printed by gen.py. -/
import Derived.Test.YtgpdpedpmhonkaaXT
import Derived.Test.YtgpdpedpmhonkaaProg
import Derived.Test.YtgpdpedpmhonkaaXRowR
import Derived.Test.YtgpdpedpmhonkaaXSq
import Derived.Test.YtgpdpedpmhonkaaXSeg
import Derived.Test.YtgpdpedpmhonkaaXKey
import Derived.Test.YtgpdpedpmhonkaaXPart
import Derived.Test.YtgpdpedpmhonkaaXC1
import Derived.Test.YtgpdpedpmhonkaaXC2
import Derived.Test.YtgpdpedpmhonkaaXC4
import Derived.Test.YtgpdpedpmhonkaaXC6
import Derived.Test.YtgpdpedpmhonkaaXC7
import Derived.Test.YtgpdpedpmhonkaaXC9
import Derived.Test.YtgpdpedpmhonkaaXC12
namespace Go.Proofs.YtgpdpedpmhonkaaX
open Go Go.RowKit Go.Proofs
set_option linter.unusedVariables false
set_option linter.unusedSimpArgs false
/- function 8 impl_CanFind -/
def impl_CanFind.post (w0 : World) (r : (Bool × Int)) (v : Value) (w : World) : Prop := v = Value.tuple #[Value.bool r.1, Value.int .i64 r.2] ∧ St w0 [] w
set_option maxHeartbeats 8000000 in
set_option maxRecDepth 100000 in
theorem impl_CanFind.calls {N : Nat} {a1 : S_laws_Task} {a2 : Int} {w0 : World} {r : (Bool × Int)} (H : impl_CanFind.f N a1 a2 = some r) :
    Calls Try.prog 8 #[Value.agg (enc_S_laws_Task a1).toArray, Value.int .i64 a2] w0 fun e w => ∃ v, e = .returned v ∧ impl_CanFind.post w0 r v w := by
  unfold impl_CanFind.f at H
  have hs : St w0 [] w0 := St.refl w0
  refine calls_of_g (n := 20) Try.func8 rfl rfl ?_
  show G _ _ _ _ [_,_,_,_,_,_,_,_,_,_,_,_,_,_,_,_,_,_,_,_,_,_] _
  refine g_seq (g_rg [0, 1, 2] rfl ?_)
  refine s_box hs rfl rfl (cs := (enc_S_laws_Task a1)) rfl rfl ?_
  intro b3 w hs
  refine g_op (v := Value.bool false) rfl rfl rfl ?_
  refine g_op (v := Value.int .i64 0) rfl rfl rfl ?_
  show G _ _ _ _ [_,_,_,_,_,_,_,_,_,_,_,_,_,_,_,_,_,_,_,_,_,_] _
  refine g_ops_nil (g_seq ?_)
  refine g_block (g_seq (g_rg [0, 1, 2, 3] rfl ?_))
  refine s_loadA rfl rfl (es := (enc_S_laws_Task a1)) rfl rfl (fun _ => rfl) (n := 4) (fun _ => rfl) (fk_S_laws_Task.len _) (cells_all (hs.cells 0 rfl)) ?_
  obtain ⟨r5, Hr5, H⟩ := bind_get H
  refine s_call (args := [Value.agg (enc_S_laws_Task a1).toArray]) rfl rfl (x_call rfl (callFunc_enter Try.func21 rfl rfl) rfl) (impl_ValidTask.calls (a1 := a1) Hr5) ?_
  rintro _ w ⟨rfl, hs2⟩
  have hs : St _ [_] _ := hs.call hs2
  cases r5 with
  | true =>
    rw [if_pos rfl] at H
    show G _ _ _ _ [_,_,_,_,_,_,_,_,_,_,_,_,_,_,_,_,_,_,_,_,_,_] _
    refine g_op (v := Value.bool false) rfl rfl rfl ?_
    refine g_op (v := Value.bool false) rfl rfl rfl (g_ops_nil (g_cond_false rfl (g_seq (g_rg [0, 1, 2, 3] rfl ?_))))
    refine g_op (v := Value.int .i64 a2) rfl rfl rfl ?_
    show G _ _ _ _ [_,_,_,_,_,_,_,_,_,_,_,_,_,_,_,_,_,_,_,_,_,_] _
    obtain ⟨r6, Hr6, H⟩ := bind_get H
    refine s_call (args := [Value.int .i64 a2, Value.int .i64 0, Value.int .i64 5]) rfl rfl (x_call rfl (callFunc_enter Try.func31 rfl rfl) rfl) (impl_within.calls (a1 := a2) (a2 := 0) (a3 := 5) Hr6) ?_
    rintro _ w ⟨rfl, hs2⟩
    have hs : St _ [_] _ := hs.call hs2
    cases r6 with
    | true =>
      rw [if_pos rfl] at H
      refine g_op (v := Value.bool false) rfl rfl rfl ?_
      show G _ _ _ _ [_,_,_,_,_,_,_,_,_,_,_,_,_,_,_,_,_,_,_,_,_,_] _
      refine g_op (v := Value.bool false) rfl rfl rfl (g_ops_nil (g_cond_false rfl (g_skip ?_)))
      refine g_inBlock (g_seq ?_)
      refine g_lay (n := 10) rfl [0, 1, 2, 3, 4, 5, 6, 7, 8, 9] [0, 1, 2, 3, 4, 5, 6, 7, 8, 9] rfl rfl ?_
      intro rest w hh hbw hO
      have hs := hs.samew hh hbw
      show G _ _ _ _ [_,_,_,_,_,_,_,_,_,_,_,_,_,_,_,_,_,_,_,_,_,_] _
      obtain ⟨r9, Hr9, H⟩ := bind_get H
      obtain ⟨r18, Hr18, H⟩ := bind_get H
      refine g_name ?_
      intro T hT
      refine g_layer (m0 := 0) hO rfl 127 [0, 1, 2, 3, 4, 5, 6] [0, 0, 2, 0, 8, 30, 0, 127, 255, 511] (by decide +kernel) (fun D t w => ∃ b7 : Nat, ∃ v10 : Value, ∃ v11 : Value, ∃ v12 : Value, ∃ v13 : Value, ∃ O : Nat → Value, t = [Value.agg (enc_S_laws_Task a1).toArray, Value.int .i64 a2, Value.pointer (some ⟨b3, 0, none⟩), O 3, Value.bool false, Value.int .i64 0, Value.bool false, Value.agg (enc_S_laws_Task a1).toArray, Value.bool true, Value.bool false, Value.bool false, Value.int .i64 a2, Value.bool true, Value.bool false, cnd (D 0) (Value.map (some b7)) (O 14), cnd (D 1) (Value.agg (enc_S_laws_Task a1).toArray) (O 15), cnd (D 2) (Value.agg (([v10, v11, v12, v13] : List Value)).toArray) (O 16), cnd (D 3) (Value.pointer (some ⟨b3, 2, none⟩)) (O 17), cnd (D 4) (Value.bool a1.f_None) (O 18), cnd (D 5) (Value.agg (enc_S_impl_knowledge r18).toArray) (O 19), cnd (D 6) (Value.int .i64 a2) (O 20), O 21] ∧ St w0 [Asc (D 0) (MapAs b7 ek_S_impl_knowledgeLeft Value.bool ([] : (List (S_impl_knowledgeLeft × Bool)))), Asc (D 2) (Row 22 (K.int .i8) v10 (r9.get 0 [])), Asc (D 2) (Row 22 (K.int .i8) v11 (r9.get 1 [])), Asc (D 2) (Row 22 (K.int .i8) v12 (r9.get 2 [])), Asc (D 2) (Row 22 (K.int .i8) v13 (r9.get 3 [])), Cells b3 (enc_S_laws_Task a1) 27] w) ?_ ⟨?_, ⟨?_, ⟨?_, ⟨?_, ⟨?_, ⟨?_, ⟨?_, trivial⟩⟩⟩⟩⟩⟩⟩ ?_
      ·
       have hs := hs.emp
       have hs := hs.emp
       have hs := hs.emp
       have hs := hs.emp
       have hs := hs.emp
       exact ⟨0, undef, undef, undef, undef, fun i => T.getD i undef, (by subst hT; rfl), hs⟩
      ·
       rintro D t w hD hp hcl ⟨b7, v10, v11, v12, v13, O, ht, hs⟩ rest hk
       have hp : AllDone D [] := hp
       simp only [hD, cq] at ht hs
       subst ht
       refine s_makeMap (ek := ek_S_impl_knowledgeLeft) (en := Value.bool) hs rfl rfl rfl ?_
       intro b7 w hs
       show G _ _ _ _ [_,_,_,_,_,_,_,_,_,_,_,_,_,_,_,_,_,_,_,_,_,_] _
       have hs := hs.fill 0 rfl
       refine hk _ _ ⟨b7, v10, v11, v12, v13, O, ?_, hs.cast ?_⟩ <;> simp only [lq, cq, Nat.reduceBEq]
      ·
       rintro D t w hD hp hcl ⟨b7, v10, v11, v12, v13, O, ht, hs⟩ rest hk
       have hp : AllDone D [] := hp
       have q2_ := ny hcl 2 0 hD
       have q5_ := ny hcl 5 0 q2_
       simp only [hD, q2_, q5_, cq] at ht hs
       subst ht
       refine s_loadA rfl rfl (es := (enc_S_laws_Task a1)) rfl rfl (fun _ => rfl) (n := 4) (fun _ => rfl) (fk_S_laws_Task.len _) (cells_all (hs.cells 5 rfl)) ?_
       show G _ _ _ _ [_,_,_,_,_,_,_,_,_,_,_,_,_,_,_,_,_,_,_,_,_,_] _
       refine hk _ _ ⟨b7, v10, v11, v12, v13, O, ?_, hs.cast ?_⟩ <;> simp only [lq, cq, Nat.reduceBEq, q2_, q5_]
      ·
       rintro D t w hD hp hcl ⟨b7, v10, v11, v12, v13, O, ht, hs⟩ rest hk
       have hp : AllDone D [1] := hp
       obtain ⟨p1_, _⟩ := hp
       have q5_ := ny hcl 5 0 hD
       simp only [hD, p1_, q5_, cq] at ht hs
       subst ht
       refine s_call (args := [Value.agg (enc_S_laws_Task a1).toArray]) rfl rfl (x_call rfl (callFunc_enter Try.func33 rfl rfl) rfl) (_impl_Task_known.calls (a1 := a1) Hr9) ?_
       rintro _ w ⟨v10, v11, v12, v13, rfl, hs2⟩
       have hs : St _ [_,_,_,_,_,_,_,_,_,_] _ := hs.call hs2
       show G _ _ _ _ [_,_,_,_,_,_,_,_,_,_,_,_,_,_,_,_,_,_,_,_,_,_] _
       have hs := hs.fill 4 rfl
       have hs := hs.fill 4 rfl
       have hs := hs.fill 4 rfl
       have hs := hs.fill 4 rfl
       refine hk _ _ ⟨b7, v10, v11, v12, v13, O, ?_, hs.cast ?_⟩ <;> simp only [lq, cq, Nat.reduceBEq, p1_, q5_]
      ·
       rintro D t w hD hp hcl ⟨b7, v10, v11, v12, v13, O, ht, hs⟩ rest hk
       have hp : AllDone D [] := hp
       have q4_ := ny hcl 4 0 hD
       have q5_ := ny hcl 5 1 q4_
       simp only [hD, q4_, q5_, cq] at ht hs
       subst ht
       refine g_op (v := Value.pointer (some ⟨b3, 2, none⟩)) rfl rfl rfl ?_
       show G _ _ _ _ [_,_,_,_,_,_,_,_,_,_,_,_,_,_,_,_,_,_,_,_,_,_] _
       refine hk _ _ ⟨b7, v10, v11, v12, v13, O, ?_, hs.cast ?_⟩ <;> simp only [lq, cq, Nat.reduceBEq, q4_, q5_]
      ·
       rintro D t w hD hp hcl ⟨b7, v10, v11, v12, v13, O, ht, hs⟩ rest hk
       have hp : AllDone D [3] := hp
       obtain ⟨p3_, _⟩ := hp
       have q5_ := ny hcl 5 1 hD
       simp only [hD, p3_, q5_, cq] at ht hs
       subst ht
       refine s_load1 rfl rfl (v := Value.bool a1.f_None) rfl rfl (fun _ => rfl) (cells_load (hs.cells 5 rfl) 2 1 rfl) ?_
       show G _ _ _ _ [_,_,_,_,_,_,_,_,_,_,_,_,_,_,_,_,_,_,_,_,_,_] _
       refine hk _ _ ⟨b7, v10, v11, v12, v13, O, ?_, hs.cast ?_⟩ <;> simp only [lq, cq, Nat.reduceBEq, p3_, q5_]
      ·
       rintro D t w hD hp hcl ⟨b7, v10, v11, v12, v13, O, ht, hs⟩ rest hk
       have hp : AllDone D [2, 4, 2] := hp
       obtain ⟨p2_, p4_, _, _⟩ := hp
       obtain ⟨p3_, _⟩ := (show D 4 = true → AllDone D [3] from hcl 4 (by decide)) p4_
       obtain ⟨p1_, _⟩ := (show D 2 = true → AllDone D [1] from hcl 2 (by decide)) p2_
       simp only [hD, p1_, p2_, p3_, p4_, cq] at ht hs
       subst ht
       refine s_call (args := [Value.agg (([v10, v11, v12, v13] : List Value)).toArray, Value.bool a1.f_None]) rfl rfl (x_call rfl (callFunc_enter Try.func34 rfl rfl) rfl) (_impl_sorts_of.calls (a1 := (⟨[(r9.get 0 []), (r9.get 1 []), (r9.get 2 []), (r9.get 3 [])], rfl⟩ : (Ar (List Int) 4))) (a10 := a1.f_None) (hs.row 1 rfl) (hs.row 2 rfl) (hs.row 3 rfl) (hs.row 4 rfl) Hr18) ?_
       rintro _ w ⟨rfl, hs2⟩
       have hs : St _ [_,_,_,_,_,_] _ := hs.call hs2
       show G _ _ _ _ [_,_,_,_,_,_,_,_,_,_,_,_,_,_,_,_,_,_,_,_,_,_] _
       refine hk _ _ ⟨b7, v10, v11, v12, v13, O, ?_, hs.cast ?_⟩ <;> simp only [lq, cq, Nat.reduceBEq, p1_, p2_, p3_, p4_]
      ·
       rintro D t w hD hp hcl ⟨b7, v10, v11, v12, v13, O, ht, hs⟩ rest hk
       have hp : AllDone D [] := hp
       simp only [hD, cq] at ht hs
       subst ht
       refine g_op (v := Value.int .i64 a2) rfl rfl rfl ?_
       show G _ _ _ _ [_,_,_,_,_,_,_,_,_,_,_,_,_,_,_,_,_,_,_,_,_,_] _
       refine hk _ _ ⟨b7, v10, v11, v12, v13, O, ?_, hs.cast ?_⟩ <;> simp only [lq, cq, Nat.reduceBEq]
      intro D t w rest hall hO1_ hI
      obtain ⟨b7, v10, v11, v12, v13, O, ht, hs⟩ := hI
      have p0_ := hall 0 (by decide) rfl
      have p1_ := hall 1 (by decide) rfl
      have p2_ := hall 2 (by decide) rfl
      have p3_ := hall 3 (by decide) rfl
      have p4_ := hall 4 (by decide) rfl
      have p5_ := hall 5 (by decide) rfl
      have p6_ := hall 6 (by decide) rfl
      simp only [p0_, p1_, p2_, p3_, p4_, p5_, p6_, cq] at ht hs
      subst ht
      obtain ⟨rest, rfl, hO2_⟩ := ord_one (m := 127) hO1_ rfl 7 (m' := 255) (by decide +kernel) rfl
      clear hO1_
      obtain ⟨r24, Hr24, H⟩ := bind_get H
      have hs := hs.pull 0 rfl
      have hs : St _ [_,_,_,_,_,_] _ := hs
      have hs := hs.pack 1
      refine s_call (args := [Value.map (some b7), Value.agg (enc_S_impl_knowledge r18).toArray, Value.int .i64 a2]) rfl rfl (x_call rfl (callFunc_enter Try.func32 rfl rfl) rfl) (_impl_finder_can.calls (a1 := ([] : (List (S_impl_knowledgeLeft × Bool)))) (a4 := r18) (a5 := a2) hs Hr24) ?_
      rintro _ w ⟨rfl, hs⟩
      have hs := St.unpack (Γ := [_]) hs
      have hs : St _ [_,_,_,_,_,_] _ := hs
      obtain ⟨rest, rfl, hO3_⟩ := ord_one (m := 255) hO2_ rfl 8 (m' := 511) (by decide +kernel) rfl
      clear hO2_
      refine g_op (v := Value.bool r24.1) rfl rfl rfl ?_
      show G _ _ _ _ [_,_,_,_,_,_,_,_,_,_,_,_,_,_,_,_,_,_,_,_,_,_] _
      obtain ⟨rest, rfl, hO4_⟩ := ord_one (m := 511) hO3_ rfl 9 (m' := 1023) (by decide +kernel) rfl
      clear hO3_
      refine g_op (v := Value.int .i64 0) rfl rfl rfl ?_
      obtain rfl := ord_end hO4_ rfl (by decide +kernel)
      refine g_ops_nil ?_
      obtain rfl := Option.some.inj H
      refine g_ret Try.func8 (v := Value.tuple #[Value.bool r24.1, Value.int .i64 0]) (resN (l := Try.f8.results.toList) (vs := [Value.bool r24.1, Value.int .i64 0]) rfl ⟨rfl, rfl, trivial⟩ (by simp)) ?_
      have hs : St _ [] _ := St.take (Γ' := [_,_,_,_,_,_]) hs
      exact ⟨_, rfl, rfl, hs⟩
    | false =>
      rw [if_neg Bool.false_ne_true] at H
      refine g_op (v := Value.bool true) rfl rfl rfl ?_
      refine g_op (v := Value.bool true) rfl rfl rfl ?_
      show G _ _ _ _ [_,_,_,_,_,_,_,_,_,_,_,_,_,_,_,_,_,_,_,_,_,_] _
      refine g_ops_nil (g_cond_true rfl (g_seq (g_rg [0, 1] rfl ?_)))
      refine g_op (v := Value.bool false) rfl rfl rfl ?_
      refine g_op (v := Value.int .i64 2) rfl rfl rfl (g_ops_nil ?_)
      obtain rfl := Option.some.inj H
      refine g_ret Try.func8 (v := Value.tuple #[Value.bool false, Value.int .i64 2]) (resN (l := Try.f8.results.toList) (vs := [Value.bool false, Value.int .i64 2]) rfl ⟨rfl, rfl, trivial⟩ (by simp)) ?_
      have hs : St _ [] _ := St.take (Γ' := [_]) hs
      exact ⟨_, rfl, rfl, hs⟩
  | false =>
    rw [if_neg Bool.false_ne_true] at H
    refine g_op (v := Value.bool true) rfl rfl rfl ?_
    show G _ _ _ _ [_,_,_,_,_,_,_,_,_,_,_,_,_,_,_,_,_,_,_,_,_,_] _
    refine g_op (v := Value.bool true) rfl rfl rfl (g_ops_nil (g_cond_true rfl (g_seq (g_rg [0, 1] rfl ?_))))
    refine g_op (v := Value.bool false) rfl rfl rfl ?_
    refine g_op (v := Value.int .i64 1) rfl rfl rfl ?_
    show G _ _ _ _ [_,_,_,_,_,_,_,_,_,_,_,_,_,_,_,_,_,_,_,_,_,_] _
    refine g_ops_nil ?_
    obtain rfl := Option.some.inj H
    refine g_ret Try.func8 (v := Value.tuple #[Value.bool false, Value.int .i64 1]) (resN (l := Try.f8.results.toList) (vs := [Value.bool false, Value.int .i64 1]) rfl ⟨rfl, rfl, trivial⟩ (by simp)) ?_
    have hs : St _ [] _ := St.take (Γ' := [_]) hs
    exact ⟨_, rfl, rfl, hs⟩

/- function 3 laws_FnExactCanFind -/
def laws_FnExactCanFind.post (w0 : World) (r : Bool) (v : Value) (w : World) : Prop := v = Value.bool r ∧ St w0 [] w
set_option maxHeartbeats 8000000 in
set_option maxRecDepth 100000 in
theorem laws_FnExactCanFind.calls {N : Nat} {a1 : S_laws_Task} {a2 : Int} {w0 : World} {r : Bool} (H : laws_FnExactCanFind.f N a1 a2 = some r) :
    Calls Try.prog 3 #[Value.agg (enc_S_laws_Task a1).toArray, Value.int .i64 a2] w0 fun e w => ∃ v, e = .returned v ∧ laws_FnExactCanFind.post w0 r v w := by
  unfold laws_FnExactCanFind.f at H
  have hs : St w0 [] w0 := St.refl w0
  refine calls_of_g (n := 29) Try.func3 rfl rfl ?_
  show G _ _ _ _ [_,_,_,_,_,_,_,_,_,_,_,_,_,_,_,_,_,_,_,_,_,_,_,_,_,_,_,_,_,_,_] _
  refine g_seq (g_rg [0, 1] rfl ?_)
  refine s_box hs rfl rfl (cs := (enc_S_laws_Task a1)) rfl rfl ?_
  intro b3 w hs
  show G _ _ _ _ [_,_,_,_,_,_,_,_,_,_,_,_,_,_,_,_,_,_,_,_,_,_,_,_,_,_,_,_,_,_,_] _
  refine g_op (v := Value.bool false) rfl rfl rfl (g_ops_nil (g_seq (g_rg [0, 1, 2, 3, 4, 5, 6, 7, 8] rfl ?_)))
  refine s_loadA rfl rfl (es := (enc_S_laws_Task a1)) rfl rfl (fun _ => rfl) (n := 4) (fun _ => rfl) (fk_S_laws_Task.len _) (cells_all (hs.cells 0 rfl)) ?_
  obtain ⟨r5, Hr5, H⟩ := bind_get H
  refine s_call (args := [Value.agg (enc_S_laws_Task a1).toArray]) rfl rfl (x_call rfl (callFunc_enter Try.func7 rfl rfl) rfl) (laws_toTask.calls (a1 := a1) Hr5) ?_
  rintro _ w ⟨rfl, hs2⟩
  have hs : St _ [_] _ := hs.call hs2
  show G _ _ _ _ [_,_,_,_,_,_,_,_,_,_,_,_,_,_,_,_,_,_,_,_,_,_,_,_,_,_,_,_,_,_,_] _
  refine g_op (v := Value.int .i64 a2) rfl rfl rfl ?_
  obtain ⟨r6, Hr6, H⟩ := bind_get H
  refine s_call (args := [Value.agg (enc_S_laws_Task r5).toArray, Value.int .i64 a2]) rfl rfl (x_call rfl (callFunc_enter Try.func6 rfl rfl) rfl) (spec_CanFind.calls (a1 := r5) (a2 := a2) Hr6) ?_
  rintro _ w ⟨rfl, hs2⟩
  have hs : St _ [_] _ := hs.call hs2
  refine g_op (v := Value.tuple #[Value.bool r6.1, Value.int .i64 r6.2]) rfl rfl rfl ?_
  refine g_op (v := Value.bool r6.1) rfl rfl rfl ?_
  refine g_op (v := Value.int .i64 r6.2) rfl rfl rfl ?_
  refine g_op (v := Value.bool r6.1) rfl rfl rfl ?_
  refine g_op (v := Value.int .i64 r6.2) rfl rfl rfl ?_
  show G _ _ _ _ [_,_,_,_,_,_,_,_,_,_,_,_,_,_,_,_,_,_,_,_,_,_,_,_,_,_,_,_,_,_,_] _
  refine g_ops_nil (g_seq (g_rg [0, 1, 2, 3, 4, 5, 6, 7, 8] rfl ?_))
  refine s_loadA rfl rfl (es := (enc_S_laws_Task a1)) rfl rfl (fun _ => rfl) (n := 4) (fun _ => rfl) (fk_S_laws_Task.len _) (cells_all (hs.cells 0 rfl)) ?_
  obtain ⟨r7, Hr7, H⟩ := bind_get H
  refine s_call (args := [Value.agg (enc_S_laws_Task a1).toArray]) rfl rfl (x_call rfl (callFunc_enter Try.func7 rfl rfl) rfl) (laws_toTask.calls (a1 := a1) Hr7) ?_
  rintro _ w ⟨rfl, hs2⟩
  have hs : St _ [_] _ := hs.call hs2
  refine g_op (v := Value.int .i64 a2) rfl rfl rfl ?_
  obtain ⟨r8, Hr8, H⟩ := bind_get H
  refine s_call (args := [Value.agg (enc_S_laws_Task r7).toArray, Value.int .i64 a2]) rfl rfl (x_call rfl (callFunc_enter Try.func8 rfl rfl) rfl) (impl_CanFind.calls (a1 := r7) (a2 := a2) Hr8) ?_
  rintro _ w ⟨rfl, hs2⟩
  have hs : St _ [_] _ := hs.call hs2
  show G _ _ _ _ [_,_,_,_,_,_,_,_,_,_,_,_,_,_,_,_,_,_,_,_,_,_,_,_,_,_,_,_,_,_,_] _
  refine g_op (v := Value.tuple #[Value.bool r8.1, Value.int .i64 r8.2]) rfl rfl rfl ?_
  refine g_op (v := Value.bool r8.1) rfl rfl rfl ?_
  refine g_op (v := Value.int .i64 r8.2) rfl rfl rfl ?_
  refine g_op (v := Value.bool r8.1) rfl rfl rfl ?_
  refine g_op (v := Value.int .i64 r8.2) rfl rfl rfl (g_ops_nil (g_seq (g_seq (g_rg [0, 1, 2, 3, 4, 5, 6, 7] rfl ?_))))
  refine g_op (v := Value.bool r8.1) rfl rfl rfl ?_
  refine g_op (v := Value.bool r6.1) rfl rfl rfl ?_
  refine g_op_b (B := r8.1 != r6.1) rfl rfl rfl ?_ ?_
  ·
   intro hb
   rw [if_neg (b_bne_t hb)] at H
   refine g_op (v := Value.bool true) rfl rfl rfl (g_op_not rfl rfl (g_op_not rfl rfl (g_op_not rfl rfl ?_)))
   show G _ _ _ _ [_,_,_,_,_,_,_,_,_,_,_,_,_,_,_,_,_,_,_,_,_,_,_,_,_,_,_,_,_,_,_] _
   refine g_op (v := Value.bool true) rfl rfl rfl (g_ops_nil (g_cond_true rfl (g_seq (g_rg [0] rfl ?_))))
   refine g_op (v := Value.bool false) rfl rfl rfl (g_ops_nil ?_)
   obtain rfl := Option.some.inj H
   refine g_ret Try.func3 (v := Value.bool false) (res1 rfl rfl) ?_
   have hs : St _ [] _ := St.take (Γ' := [_]) hs
   exact ⟨_, rfl, rfl, hs⟩
  intro hb
  rw [if_pos (b_bne_f hb)] at H
  show G _ _ _ _ [_,_,_,_,_,_,_,_,_,_,_,_,_,_,_,_,_,_,_,_,_,_,_,_,_,_,_,_,_,_,_] _
  refine g_op (v := Value.bool false) rfl rfl rfl ?_
  refine g_op (v := Value.int .i64 r8.2) rfl rfl rfl ?_
  refine g_op (v := Value.int .i64 r6.2) rfl rfl rfl ?_
  refine g_op_b (B := r8.2 != r6.2) rfl rfl rfl ?_ ?_
  ·
   intro hb
   rw [if_neg (b_bne_t hb)] at H
   refine g_op (v := Value.bool true) rfl rfl rfl ?_
   show G _ _ _ _ [_,_,_,_,_,_,_,_,_,_,_,_,_,_,_,_,_,_,_,_,_,_,_,_,_,_,_,_,_,_,_] _
   refine g_ops_nil (g_cond_true rfl (g_seq (g_rg [0] rfl ?_)))
   refine g_op (v := Value.bool false) rfl rfl rfl (g_ops_nil ?_)
   obtain rfl := Option.some.inj H
   refine g_ret Try.func3 (v := Value.bool false) (res1 rfl rfl) ?_
   have hs : St _ [] _ := St.take (Γ' := [_]) hs
   exact ⟨_, rfl, rfl, hs⟩
  intro hb
  rw [if_pos (b_bne_f hb)] at H
  refine g_op (v := Value.bool false) rfl rfl rfl (g_ops_nil (g_cond_false rfl (g_skip (g_seq (g_rg [0] rfl ?_)))))
  refine g_op (v := Value.bool true) rfl rfl rfl ?_
  show G _ _ _ _ [_,_,_,_,_,_,_,_,_,_,_,_,_,_,_,_,_,_,_,_,_,_,_,_,_,_,_,_,_,_,_] _
  refine g_ops_nil ?_
  obtain rfl := Option.some.inj H
  refine g_ret Try.func3 (v := Value.bool true) (res1 rfl rfl) ?_
  have hs : St _ [] _ := St.take (Γ' := [_]) hs
  exact ⟨_, rfl, rfl, hs⟩

/- function 9 spec_LeastWeighings -/
def spec_LeastWeighings.post (w0 : World) (r : (Int × Int)) (v : Value) (w : World) : Prop := v = Value.tuple #[Value.int .i64 r.1, Value.int .i64 r.2] ∧ St w0 [] w
set_option maxHeartbeats 8000000 in
set_option maxRecDepth 100000 in
theorem spec_LeastWeighings.calls {N : Nat} {a1 : S_laws_Task} {w0 : World} {r : (Int × Int)} (H : spec_LeastWeighings.f N a1 = some r) :
    Calls Try.prog 9 #[Value.agg (enc_S_laws_Task a1).toArray] w0 fun e w => ∃ v, e = .returned v ∧ spec_LeastWeighings.post w0 r v w := by
  unfold spec_LeastWeighings.f at H
  have hs : St w0 [] w0 := St.refl w0
  refine calls_of_g (n := 23) Try.func9 rfl rfl ?_
  show G _ _ _ _ [_,_,_,_,_,_,_,_,_,_,_,_,_,_,_,_,_,_,_,_,_,_,_,_] _
  refine g_seq (g_rg [0, 1, 2] rfl ?_)
  refine s_box hs rfl rfl (cs := (enc_S_laws_Task a1)) rfl rfl ?_
  intro b2 w hs
  show G _ _ _ _ [_,_,_,_,_,_,_,_,_,_,_,_,_,_,_,_,_,_,_,_,_,_,_,_] _
  refine g_op (v := Value.int .i64 0) rfl rfl rfl ?_
  refine g_op (v := Value.int .i64 0) rfl rfl rfl (g_ops_nil (g_seq (g_seq (g_rg [0, 1, 2] rfl ?_))))
  refine s_loadA rfl rfl (es := (enc_S_laws_Task a1)) rfl rfl (fun _ => rfl) (n := 4) (fun _ => rfl) (fk_S_laws_Task.len _) (cells_all (hs.cells 0 rfl)) ?_
  show G _ _ _ _ [_,_,_,_,_,_,_,_,_,_,_,_,_,_,_,_,_,_,_,_,_,_,_,_] _
  obtain ⟨r4, Hr4, H⟩ := bind_get H
  refine s_call (args := [Value.agg (enc_S_laws_Task a1).toArray]) rfl rfl (x_call rfl (callFunc_enter Try.func27 rfl rfl) rfl) (spec_l03Ok.calls (a1 := a1) Hr4) ?_
  rintro _ w ⟨rfl, hs2⟩
  have hs : St _ [_] _ := hs.call hs2
  cases r4 with
  | true =>
    rw [if_pos rfl] at H
    refine g_op (v := Value.bool false) rfl rfl rfl (g_ops_nil (g_cond_false rfl (g_skip (g_seq (g_rg [0, 1, 2, 3, 4, 5, 6, 7] rfl ?_)))))
    refine s_loadA rfl rfl (es := (enc_S_laws_Task a1)) rfl rfl (fun _ => rfl) (n := 4) (fun _ => rfl) (fk_S_laws_Task.len _) (cells_all (hs.cells 0 rfl)) ?_
    show G _ _ _ _ [_,_,_,_,_,_,_,_,_,_,_,_,_,_,_,_,_,_,_,_,_,_,_,_] _
    obtain ⟨r5, Hr5, H⟩ := bind_get H
    refine s_call (args := [Value.agg (enc_S_laws_Task a1).toArray]) rfl rfl (x_call rfl (callFunc_enter Try.func29 rfl rfl) rfl) (spec_l03Begin.calls (a1 := a1) Hr5) ?_
    rintro _ w ⟨b6, v7, rfl, hs2⟩
    have hs : St _ [_,_,_] _ := hs.call hs2
    refine g_op (v := Value.tuple #[Value.pointer (some ⟨b6, 0, none⟩), Value.agg (enc_S_spec_l03Known r5.2).toArray]) rfl rfl rfl ?_
    refine g_op (v := Value.pointer (some ⟨b6, 0, none⟩)) rfl rfl rfl ?_
    show G _ _ _ _ [_,_,_,_,_,_,_,_,_,_,_,_,_,_,_,_,_,_,_,_,_,_,_,_] _
    refine g_op (v := Value.agg (enc_S_spec_l03Known r5.2).toArray) rfl rfl rfl ?_
    refine s_alloc hs rfl rfl (z := (Value.agg #[Value.int .i64 0, Value.int .i64 0, Value.int .i64 0, Value.int .i64 0])) (cs := (enc_S_spec_l03Known z_S_spec_l03Known)) rfl (fun _ => rfl) rfl ?_
    intro b10 w hs
    refine g_op (v := Value.pointer (some ⟨b6, 0, none⟩)) rfl rfl rfl ?_
    show G _ _ _ _ [_,_,_,_,_,_,_,_,_,_,_,_,_,_,_,_,_,_,_,_,_,_,_,_] _
    refine s_storeAll (n := 4) hs (fk_S_spec_l03Known.len _) rfl rfl (vs := (enc_S_spec_l03Known r5.2)) rfl rfl rfl (fun _ => rfl) (fk_S_spec_l03Known.len _) (fk_S_spec_l03Known.one _) ?_
    intro w hs
    refine g_ops_nil (g_seq (g_seq (g_rg [0] rfl ?_)))
    refine g_op (v := Value.int .i64 0) rfl rfl rfl (g_ops_nil ?_)
    obtain ⟨o1_, Ho, Hr1_⟩ := bind_get H
    refine g_block_join (J := fun t w => spec_LeastWeighings.a0 N = some r ∧ Fr t (fun O => ([O 0, O 1, O 2, O 3, O 4, O 5, O 6, O 7, O 8, O 9, O 10, O 11, O 12, O 13, O 14, O 15, O 16, O 17, O 18, O 19, O 20, O 21, O 22, O 23] : List Value)) ∧ St w0 [] w) ?_ ?_
    ·
     rintro t w ⟨H, hf, hs⟩
     obtain ⟨O, rfl⟩ := hf.open
     show G _ _ _ _ [_,_,_,_,_,_,_,_,_,_,_,_,_,_,_,_,_,_,_,_,_,_,_,_] _
     unfold spec_LeastWeighings.a0 at H
     refine g_seq (g_rg [0, 1] rfl ?_)
     refine g_op (v := Value.int .i64 0) rfl rfl rfl ?_
     refine g_op (v := Value.int .i64 6) rfl rfl rfl (g_ops_nil ?_)
     obtain rfl := Option.some.inj H
     refine g_ret Try.func9 (v := Value.tuple #[Value.int .i64 0, Value.int .i64 6]) (resN (l := Try.f9.results.toList) (vs := [Value.int .i64 0, Value.int .i64 6]) rfl ⟨rfl, rfl, trivial⟩ (by simp)) ?_
     have hs : St _ [] _ := St.take (Γ' := []) hs
     exact ⟨_, rfl, rfl, hs⟩
    intro ha1_
    have hs := hs.pull 0 rfl
    have hs := hs.pull 1 rfl
    have hs := hs.pull 2 rfl
    have hs : St _ [_,_,_] _ := St.take (Γ' := [_]) hs
    refine g_loop_fuel (I := fun n_ t w => ∃ x14 : Int, ∃ x15 : (List Int), ∃ x16 : Int, rounds (fun s => spec_LeastWeighings.b0 N r5 s.1 s.2.1 s.2.2) n_ (x14, x15, x16) = some o1_ ∧ Fr t (fun O => ([O 0, O 1, O 2, O 3, Value.pointer (some ⟨b6, 0, none⟩), Value.pointer (some ⟨b10, 0, none⟩), Value.int .i64 x16, O 7, O 8, O 9, O 10, O 11, O 12, O 13, O 14, O 15, O 16, O 17, O 18, O 19, O 20, O 21, O 22, O 23] : List Value)) ∧ St w0 [Row 22 (K.int .i8) v7 x15, Cells b6 (([Value.int .i64 x14, v7] : List Value)) 99, Cells b10 (enc_S_spec_l03Known r5.2) 62] w) N ⟨r5.1.f_all, r5.1.f_seen, 0, Ho, rfl, hs⟩ ?_ ?_
    ·
     rintro _ _ ⟨x14, x15, x16, h, _⟩
     exact rounds_zero h
    intro n_ ih1_
    rintro t w ⟨x14, x15, x16, Ho, hf, hs⟩
    obtain ⟨O, rfl⟩ := hf.open
    show G _ _ _ _ [_,_,_,_,_,_,_,_,_,_,_,_,_,_,_,_,_,_,_,_,_,_,_,_] _
    obtain ⟨x3_, H, Hx1_⟩ := rounds_succ Ho
    have H : spec_LeastWeighings.b0 N r5 x14 x15 x16 = some x3_ := H
    unfold spec_LeastWeighings.b0 at H
    refine g_seq (g_seq (g_rg [0, 1] rfl ?_))
    refine g_op (v := Value.int .i64 x16) rfl rfl rfl ?_
    refine g_op_b (B := decide (x16 ≤ 5)) rfl rfl rfl ?_ ?_
    ·
     intro hb
     rw [if_pos (b_dec_t hb)] at H
     refine g_ops_nil (g_cond_true rfl (g_skip (g_seq ?_)))
     refine g_block (g_seq (g_rg [0, 1, 2, 3] rfl ?_))
     refine g_op (v := Value.pointer (some ⟨b6, 0, none⟩)) rfl rfl rfl ?_
     refine s_loadA rfl rfl (es := (enc_S_spec_l03Known r5.2)) rfl rfl (fun _ => rfl) (n := 4) (fun _ => rfl) (fk_S_spec_l03Known.len _) (cells_all (hs.cells 2 rfl)) ?_
     show G _ _ _ _ [_,_,_,_,_,_,_,_,_,_,_,_,_,_,_,_,_,_,_,_,_,_,_,_] _
     refine g_op (v := Value.int .i64 x16) rfl rfl rfl ?_
     obtain ⟨r17, Hr17, H⟩ := bind_get H
     have hs := hs.pull 1 rfl
     have hs := hs.pull 1 rfl
     have hs : St _ [_,_,_] _ := hs
     have hs := hs.pack 2
     refine s_call (args := [Value.pointer (some ⟨b6, 0, none⟩), Value.agg (enc_S_spec_l03Known r5.2).toArray, Value.int .i64 x16]) rfl rfl (x_call rfl (callFunc_enter Try.func30 rfl rfl) rfl) (_spec_l03Finder_can.calls (a1 := (⟨x14, x15⟩ : S_spec_l03Finder)) (a6 := r5.2) (a7 := x16) hs Hr17) ?_
     rintro _ w ⟨rfl, hs⟩
     have hs := St.unpack (Γ := [_,_]) hs
     have hs : St _ [_,_,_] _ := hs
     generalize hb2_ : r17.1 = b_ at H ⊢
     cases b_ with
     | true =>
       rw [if_pos rfl] at H
       show G _ _ _ _ [_,_,_,_,_,_,_,_,_,_,_,_,_,_,_,_,_,_,_,_,_,_,_,_] _
       refine g_ops_nil (g_cond_true rfl (g_seq (g_rg [0, 1, 2] rfl ?_)))
       refine g_op (v := Value.int .i64 x16) rfl rfl rfl ?_
       refine g_op (v := Value.int .i64 x16) rfl rfl rfl ?_
       refine g_op (v := Value.int .i64 0) rfl rfl rfl ?_
       show G _ _ _ _ [_,_,_,_,_,_,_,_,_,_,_,_,_,_,_,_,_,_,_,_,_,_,_,_] _
       refine g_ops_nil ?_
       obtain rfl := Option.some.inj H
       subst Hx1_
       have H := Option.some.inj Hr1_
       subst H
       refine g_ret Try.func9 (v := Value.tuple #[Value.int .i64 x16, Value.int .i64 0]) (resN (l := Try.f9.results.toList) (vs := [Value.int .i64 x16, Value.int .i64 0]) rfl ⟨rfl, rfl, trivial⟩ (by simp)) ?_
       have hs : St _ [] _ := St.take (Γ' := [_,_,_]) hs
       exact ⟨_, rfl, rfl, hs⟩
     | false =>
       rw [if_neg Bool.false_ne_true] at H
       refine g_ops_nil (g_cond_false rfl (g_skip ?_))
       refine g_inBlock (g_rg [0, 1, 2] rfl ?_)
       refine g_op (v := Value.int .i64 x16) rfl rfl rfl ?_
       show G _ _ _ _ [_,_,_,_,_,_,_,_,_,_,_,_,_,_,_,_,_,_,_,_,_,_,_,_] _
       refine g_op (v := Value.int .i64 (i64w (x16 + 1))) rfl rfl rfl ?_
       refine g_op (v := Value.int .i64 (i64w (x16 + 1))) rfl rfl rfl (g_ops_nil ?_)
       obtain rfl := Option.some.inj H
       have hs := hs.pull 2 rfl
       have hs := hs.pull 2 rfl
       have hs := hs.pull 2 rfl
       have hs : St _ [_,_,_] _ := St.take (Γ' := []) hs
       exact ih1_ _ _ ⟨r17.2.2.f_all, r17.2.1, i64w (x16 + 1), Hx1_, rfl, hs⟩
    intro hb
    rw [if_neg (b_dec_f hb)] at H
    show G _ _ _ _ [_,_,_,_,_,_,_,_,_,_,_,_,_,_,_,_,_,_,_,_,_,_,_,_] _
    refine g_ops_nil (g_cond_false rfl ?_)
    obtain rfl := Option.some.inj H
    subst Hx1_
    have hs : St _ [] _ := St.take (Γ' := [_,_,_]) hs
    refine g_exit rfl ?_
    exact ha1_ _ _ ⟨Hr1_, rfl, hs⟩
  | false =>
    rw [if_neg Bool.false_ne_true] at H
    refine g_op (v := Value.bool true) rfl rfl rfl (g_ops_nil (g_cond_true rfl (g_seq (g_rg [0, 1] rfl ?_))))
    refine g_op (v := Value.int .i64 0) rfl rfl rfl ?_
    show G _ _ _ _ [_,_,_,_,_,_,_,_,_,_,_,_,_,_,_,_,_,_,_,_,_,_,_,_] _
    refine g_op (v := Value.int .i64 1) rfl rfl rfl (g_ops_nil ?_)
    obtain rfl := Option.some.inj H
    refine g_ret Try.func9 (v := Value.tuple #[Value.int .i64 0, Value.int .i64 1]) (resN (l := Try.f9.results.toList) (vs := [Value.int .i64 0, Value.int .i64 1]) rfl ⟨rfl, rfl, trivial⟩ (by simp)) ?_
    have hs : St _ [] _ := St.take (Γ' := [_]) hs
    exact ⟨_, rfl, rfl, hs⟩

/- function 10 impl_LeastWeighings -/
def impl_LeastWeighings.post (w0 : World) (r : (Int × Int)) (v : Value) (w : World) : Prop := v = Value.tuple #[Value.int .i64 r.1, Value.int .i64 r.2] ∧ St w0 [] w
set_option maxHeartbeats 8000000 in
set_option maxRecDepth 100000 in
theorem impl_LeastWeighings.calls {N : Nat} {a1 : S_laws_Task} {w0 : World} {r : (Int × Int)} (H : impl_LeastWeighings.f N a1 = some r) :
    Calls Try.prog 10 #[Value.agg (enc_S_laws_Task a1).toArray] w0 fun e w => ∃ v, e = .returned v ∧ impl_LeastWeighings.post w0 r v w := by
  unfold impl_LeastWeighings.f at H
  have hs : St w0 [] w0 := St.refl w0
  refine calls_of_g (n := 20) Try.func10 rfl rfl ?_
  show G _ _ _ _ [_,_,_,_,_,_,_,_,_,_,_,_,_,_,_,_,_,_,_,_,_] _
  refine g_seq (g_rg [0, 1, 2] rfl ?_)
  refine s_box hs rfl rfl (cs := (enc_S_laws_Task a1)) rfl rfl ?_
  intro b2 w hs
  refine g_op (v := Value.int .i64 0) rfl rfl rfl ?_
  show G _ _ _ _ [_,_,_,_,_,_,_,_,_,_,_,_,_,_,_,_,_,_,_,_,_] _
  refine g_op (v := Value.int .i64 0) rfl rfl rfl (g_ops_nil (g_seq (g_seq (g_rg [0, 1, 2] rfl ?_))))
  refine s_loadA rfl rfl (es := (enc_S_laws_Task a1)) rfl rfl (fun _ => rfl) (n := 4) (fun _ => rfl) (fk_S_laws_Task.len _) (cells_all (hs.cells 0 rfl)) ?_
  obtain ⟨r4, Hr4, H⟩ := bind_get H
  refine s_call (args := [Value.agg (enc_S_laws_Task a1).toArray]) rfl rfl (x_call rfl (callFunc_enter Try.func21 rfl rfl) rfl) (impl_ValidTask.calls (a1 := a1) Hr4) ?_
  rintro _ w ⟨rfl, hs2⟩
  have hs : St _ [_] _ := hs.call hs2
  cases r4 with
  | true =>
    rw [if_pos rfl] at H
    show G _ _ _ _ [_,_,_,_,_,_,_,_,_,_,_,_,_,_,_,_,_,_,_,_,_] _
    refine g_op (v := Value.bool false) rfl rfl rfl (g_ops_nil (g_cond_false rfl (g_skip (g_seq (g_seq (g_rg [0] rfl ?_))))))
    refine g_op (v := Value.int .i64 0) rfl rfl rfl (g_ops_nil ?_)
    obtain ⟨o1_, Ho, Hr1_⟩ := bind_get H
    refine g_block_join (J := fun t w => impl_LeastWeighings.a0 N = some r ∧ Fr t (fun O => ([O 0, O 1, O 2, O 3, O 4, O 5, O 6, O 7, O 8, O 9, O 10, O 11, O 12, O 13, O 14, O 15, O 16, O 17, O 18, O 19, O 20] : List Value)) ∧ St w0 [] w) ?_ ?_
    ·
     rintro t w ⟨H, hf, hs⟩
     obtain ⟨O, rfl⟩ := hf.open
     show G _ _ _ _ [_,_,_,_,_,_,_,_,_,_,_,_,_,_,_,_,_,_,_,_,_] _
     unfold impl_LeastWeighings.a0 at H
     refine g_seq (g_rg [0, 1] rfl ?_)
     refine g_op (v := Value.int .i64 0) rfl rfl rfl ?_
     refine g_op (v := Value.int .i64 6) rfl rfl rfl ?_
     show G _ _ _ _ [_,_,_,_,_,_,_,_,_,_,_,_,_,_,_,_,_,_,_,_,_] _
     refine g_ops_nil ?_
     obtain rfl := Option.some.inj H
     refine g_ret Try.func10 (v := Value.tuple #[Value.int .i64 0, Value.int .i64 6]) (resN (l := Try.f10.results.toList) (vs := [Value.int .i64 0, Value.int .i64 6]) rfl ⟨rfl, rfl, trivial⟩ (by simp)) ?_
     have hs : St _ [] _ := St.take (Γ' := []) hs
     exact ⟨_, rfl, rfl, hs⟩
    intro ha1_
    have hs := hs.pull 0 rfl
    have hs : St _ [_] _ := St.take (Γ' := []) hs
    refine g_loop_fuel (I := fun n_ t w => ∃ x5 : Int, rounds (fun s => impl_LeastWeighings.b0 N a1 s) n_ x5 = some o1_ ∧ Fr t (fun O => ([O 0, Value.pointer (some ⟨b2, 0, none⟩), O 2, O 3, O 4, O 5, O 6, O 7, Value.int .i64 x5, O 9, O 10, O 11, O 12, O 13, O 14, O 15, O 16, O 17, O 18, O 19, O 20] : List Value)) ∧ St w0 [Cells b2 (enc_S_laws_Task a1) 27] w) N ⟨0, Ho, rfl, hs⟩ ?_ ?_
    ·
     rintro _ _ ⟨x5, h, _⟩
     exact rounds_zero h
    intro n_ ih1_
    rintro t w ⟨x5, Ho, hf, hs⟩
    obtain ⟨O, rfl⟩ := hf.open
    show G _ _ _ _ [_,_,_,_,_,_,_,_,_,_,_,_,_,_,_,_,_,_,_,_,_] _
    obtain ⟨x4_, H, Hx1_⟩ := rounds_succ Ho
    have H : impl_LeastWeighings.b0 N a1 x5 = some x4_ := H
    unfold impl_LeastWeighings.b0 at H
    refine g_seq (g_rg [0] rfl ?_)
    refine g_op_b (B := decide (x5 < 6)) rfl rfl rfl ?_ ?_
    ·
     intro hb
     rw [if_pos (b_dec_t hb)] at H
     refine g_ops_nil (g_seq (g_cond_true rfl (g_skip (g_seq ?_))))
     refine g_block (g_seq (g_rg [0, 1] rfl ?_))
     refine g_op (v := Value.int .i64 x5) rfl rfl rfl ?_
     refine g_op (v := Value.int .i64 x5) rfl rfl rfl ?_
     show G _ _ _ _ [_,_,_,_,_,_,_,_,_,_,_,_,_,_,_,_,_,_,_,_,_] _
     refine g_ops_nil (g_seq ?_)
     refine g_lay (n := 8) rfl [0, 1, 2, 3, 4, 5, 6, 7] [0, 1, 2, 3, 4, 5, 6, 7] rfl rfl ?_
     intro rest w hh hbw hO
     have hs := hs.samew hh hbw
     show G _ _ _ _ [_,_,_,_,_,_,_,_,_,_,_,_,_,_,_,_,_,_,_,_,_] _
     obtain ⟨r8, Hr8, H⟩ := bind_get H
     obtain ⟨r17, Hr17, H⟩ := bind_get H
     refine g_name ?_
     intro T hT
     refine g_layer (m0 := 0) hO rfl 127 [0, 1, 2, 3, 4, 5, 6] [0, 0, 2, 0, 8, 30, 0, 127] (by decide +kernel) (fun D t w => ∃ b6 : Nat, ∃ v9 : Value, ∃ v10 : Value, ∃ v11 : Value, ∃ v12 : Value, ∃ O : Nat → Value, t = [O 0, Value.pointer (some ⟨b2, 0, none⟩), O 2, O 3, Value.int .i64 x5, O 5, O 6, O 7, Value.int .i64 x5, Value.bool true, Value.int .i64 x5, cnd (D 0) (Value.map (some b6)) (O 11), cnd (D 1) (Value.agg (enc_S_laws_Task a1).toArray) (O 12), cnd (D 2) (Value.agg (([v9, v10, v11, v12] : List Value)).toArray) (O 13), cnd (D 3) (Value.pointer (some ⟨b2, 2, none⟩)) (O 14), cnd (D 4) (Value.bool a1.f_None) (O 15), cnd (D 5) (Value.agg (enc_S_impl_knowledge r17).toArray) (O 16), cnd (D 6) (Value.int .i64 x5) (O 17), O 18, O 19, O 20] ∧ St w0 [Asc (D 0) (MapAs b6 ek_S_impl_knowledgeLeft Value.bool ([] : (List (S_impl_knowledgeLeft × Bool)))), Asc (D 2) (Row 22 (K.int .i8) v9 (r8.get 0 [])), Asc (D 2) (Row 22 (K.int .i8) v10 (r8.get 1 [])), Asc (D 2) (Row 22 (K.int .i8) v11 (r8.get 2 [])), Asc (D 2) (Row 22 (K.int .i8) v12 (r8.get 3 [])), Cells b2 (enc_S_laws_Task a1) 27] w) ?_ ⟨?_, ⟨?_, ⟨?_, ⟨?_, ⟨?_, ⟨?_, ⟨?_, trivial⟩⟩⟩⟩⟩⟩⟩ ?_
     ·
      have hs := hs.emp
      have hs := hs.emp
      have hs := hs.emp
      have hs := hs.emp
      have hs := hs.emp
      exact ⟨0, undef, undef, undef, undef, fun i => T.getD i undef, (by subst hT; rfl), hs⟩
     ·
      rintro D t w hD hp hcl ⟨b6, v9, v10, v11, v12, O, ht, hs⟩ rest hk
      have hp : AllDone D [] := hp
      simp only [hD, cq] at ht hs
      subst ht
      refine s_makeMap (ek := ek_S_impl_knowledgeLeft) (en := Value.bool) hs rfl rfl rfl ?_
      intro b6 w hs
      show G _ _ _ _ [_,_,_,_,_,_,_,_,_,_,_,_,_,_,_,_,_,_,_,_,_] _
      have hs := hs.fill 0 rfl
      refine hk _ _ ⟨b6, v9, v10, v11, v12, O, ?_, hs.cast ?_⟩ <;> simp only [lq, cq, Nat.reduceBEq]
     ·
      rintro D t w hD hp hcl ⟨b6, v9, v10, v11, v12, O, ht, hs⟩ rest hk
      have hp : AllDone D [] := hp
      have q2_ := ny hcl 2 0 hD
      have q5_ := ny hcl 5 0 q2_
      simp only [hD, q2_, q5_, cq] at ht hs
      subst ht
      refine s_loadA rfl rfl (es := (enc_S_laws_Task a1)) rfl rfl (fun _ => rfl) (n := 4) (fun _ => rfl) (fk_S_laws_Task.len _) (cells_all (hs.cells 5 rfl)) ?_
      show G _ _ _ _ [_,_,_,_,_,_,_,_,_,_,_,_,_,_,_,_,_,_,_,_,_] _
      refine hk _ _ ⟨b6, v9, v10, v11, v12, O, ?_, hs.cast ?_⟩ <;> simp only [lq, cq, Nat.reduceBEq, q2_, q5_]
     ·
      rintro D t w hD hp hcl ⟨b6, v9, v10, v11, v12, O, ht, hs⟩ rest hk
      have hp : AllDone D [1] := hp
      obtain ⟨p1_, _⟩ := hp
      have q5_ := ny hcl 5 0 hD
      simp only [hD, p1_, q5_, cq] at ht hs
      subst ht
      refine s_call (args := [Value.agg (enc_S_laws_Task a1).toArray]) rfl rfl (x_call rfl (callFunc_enter Try.func33 rfl rfl) rfl) (_impl_Task_known.calls (a1 := a1) Hr8) ?_
      rintro _ w ⟨v9, v10, v11, v12, rfl, hs2⟩
      have hs : St _ [_,_,_,_,_,_,_,_,_,_] _ := hs.call hs2
      show G _ _ _ _ [_,_,_,_,_,_,_,_,_,_,_,_,_,_,_,_,_,_,_,_,_] _
      have hs := hs.fill 4 rfl
      have hs := hs.fill 4 rfl
      have hs := hs.fill 4 rfl
      have hs := hs.fill 4 rfl
      refine hk _ _ ⟨b6, v9, v10, v11, v12, O, ?_, hs.cast ?_⟩ <;> simp only [lq, cq, Nat.reduceBEq, p1_, q5_]
     ·
      rintro D t w hD hp hcl ⟨b6, v9, v10, v11, v12, O, ht, hs⟩ rest hk
      have hp : AllDone D [] := hp
      have q4_ := ny hcl 4 0 hD
      have q5_ := ny hcl 5 1 q4_
      simp only [hD, q4_, q5_, cq] at ht hs
      subst ht
      refine g_op (v := Value.pointer (some ⟨b2, 2, none⟩)) rfl rfl rfl ?_
      show G _ _ _ _ [_,_,_,_,_,_,_,_,_,_,_,_,_,_,_,_,_,_,_,_,_] _
      refine hk _ _ ⟨b6, v9, v10, v11, v12, O, ?_, hs.cast ?_⟩ <;> simp only [lq, cq, Nat.reduceBEq, q4_, q5_]
     ·
      rintro D t w hD hp hcl ⟨b6, v9, v10, v11, v12, O, ht, hs⟩ rest hk
      have hp : AllDone D [3] := hp
      obtain ⟨p3_, _⟩ := hp
      have q5_ := ny hcl 5 1 hD
      simp only [hD, p3_, q5_, cq] at ht hs
      subst ht
      refine s_load1 rfl rfl (v := Value.bool a1.f_None) rfl rfl (fun _ => rfl) (cells_load (hs.cells 5 rfl) 2 1 rfl) ?_
      show G _ _ _ _ [_,_,_,_,_,_,_,_,_,_,_,_,_,_,_,_,_,_,_,_,_] _
      refine hk _ _ ⟨b6, v9, v10, v11, v12, O, ?_, hs.cast ?_⟩ <;> simp only [lq, cq, Nat.reduceBEq, p3_, q5_]
     ·
      rintro D t w hD hp hcl ⟨b6, v9, v10, v11, v12, O, ht, hs⟩ rest hk
      have hp : AllDone D [2, 4, 2] := hp
      obtain ⟨p2_, p4_, _, _⟩ := hp
      obtain ⟨p3_, _⟩ := (show D 4 = true → AllDone D [3] from hcl 4 (by decide)) p4_
      obtain ⟨p1_, _⟩ := (show D 2 = true → AllDone D [1] from hcl 2 (by decide)) p2_
      simp only [hD, p1_, p2_, p3_, p4_, cq] at ht hs
      subst ht
      refine s_call (args := [Value.agg (([v9, v10, v11, v12] : List Value)).toArray, Value.bool a1.f_None]) rfl rfl (x_call rfl (callFunc_enter Try.func34 rfl rfl) rfl) (_impl_sorts_of.calls (a1 := (⟨[(r8.get 0 []), (r8.get 1 []), (r8.get 2 []), (r8.get 3 [])], rfl⟩ : (Ar (List Int) 4))) (a10 := a1.f_None) (hs.row 1 rfl) (hs.row 2 rfl) (hs.row 3 rfl) (hs.row 4 rfl) Hr17) ?_
      rintro _ w ⟨rfl, hs2⟩
      have hs : St _ [_,_,_,_,_,_] _ := hs.call hs2
      show G _ _ _ _ [_,_,_,_,_,_,_,_,_,_,_,_,_,_,_,_,_,_,_,_,_] _
      refine hk _ _ ⟨b6, v9, v10, v11, v12, O, ?_, hs.cast ?_⟩ <;> simp only [lq, cq, Nat.reduceBEq, p1_, p2_, p3_, p4_]
     ·
      rintro D t w hD hp hcl ⟨b6, v9, v10, v11, v12, O, ht, hs⟩ rest hk
      have hp : AllDone D [] := hp
      simp only [hD, cq] at ht hs
      subst ht
      refine g_op (v := Value.int .i64 x5) rfl rfl rfl ?_
      show G _ _ _ _ [_,_,_,_,_,_,_,_,_,_,_,_,_,_,_,_,_,_,_,_,_] _
      refine hk _ _ ⟨b6, v9, v10, v11, v12, O, ?_, hs.cast ?_⟩ <;> simp only [lq, cq, Nat.reduceBEq]
     intro D t w rest hall hO1_ hI
     obtain ⟨b6, v9, v10, v11, v12, O, ht, hs⟩ := hI
     have p0_ := hall 0 (by decide) rfl
     have p1_ := hall 1 (by decide) rfl
     have p2_ := hall 2 (by decide) rfl
     have p3_ := hall 3 (by decide) rfl
     have p4_ := hall 4 (by decide) rfl
     have p5_ := hall 5 (by decide) rfl
     have p6_ := hall 6 (by decide) rfl
     simp only [p0_, p1_, p2_, p3_, p4_, p5_, p6_, cq] at ht hs
     subst ht
     obtain ⟨rest, rfl, hO2_⟩ := ord_one (m := 127) hO1_ rfl 7 (m' := 255) (by decide +kernel) rfl
     clear hO1_
     obtain ⟨r23, Hr23, H⟩ := bind_get H
     have hs := hs.pull 0 rfl
     have hs : St _ [_,_,_,_,_,_] _ := hs
     have hs := hs.pack 1
     refine s_call (args := [Value.map (some b6), Value.agg (enc_S_impl_knowledge r17).toArray, Value.int .i64 x5]) rfl rfl (x_call rfl (callFunc_enter Try.func32 rfl rfl) rfl) (_impl_finder_can.calls (a1 := ([] : (List (S_impl_knowledgeLeft × Bool)))) (a4 := r17) (a5 := x5) hs Hr23) ?_
     rintro _ w ⟨rfl, hs⟩
     have hs := St.unpack (Γ := [_]) hs
     have hs : St _ [_,_,_,_,_,_] _ := hs
     generalize hb3_ : r23.1 = b_ at H ⊢
     cases b_ with
     | true =>
       rw [if_pos rfl] at H
       obtain rfl := ord_end hO2_ rfl (by decide +kernel)
       refine g_ops_nil (g_cond_true rfl (g_seq (g_rg [0, 1, 2] rfl ?_)))
       refine g_op (v := Value.int .i64 x5) rfl rfl rfl ?_
       refine g_op (v := Value.int .i64 x5) rfl rfl rfl ?_
       show G _ _ _ _ [_,_,_,_,_,_,_,_,_,_,_,_,_,_,_,_,_,_,_,_,_] _
       refine g_op (v := Value.int .i64 0) rfl rfl rfl (g_ops_nil ?_)
       obtain rfl := Option.some.inj H
       subst Hx1_
       have H := Option.some.inj Hr1_
       subst H
       refine g_ret Try.func10 (v := Value.tuple #[Value.int .i64 x5, Value.int .i64 0]) (resN (l := Try.f10.results.toList) (vs := [Value.int .i64 x5, Value.int .i64 0]) rfl ⟨rfl, rfl, trivial⟩ (by simp)) ?_
       have hs : St _ [] _ := St.take (Γ' := [_,_,_,_,_,_]) hs
       exact ⟨_, rfl, rfl, hs⟩
     | false =>
       rw [if_neg Bool.false_ne_true] at H
       obtain rfl := ord_end hO2_ rfl (by decide +kernel)
       refine g_ops_nil (g_cond_false rfl (g_skip ?_))
       refine g_inBlock (g_rg [0, 1] rfl ?_)
       refine g_op (v := Value.int .i64 (i64w (x5 + 1))) rfl rfl rfl ?_
       refine g_op (v := Value.int .i64 (i64w (x5 + 1))) rfl rfl rfl ?_
       show G _ _ _ _ [_,_,_,_,_,_,_,_,_,_,_,_,_,_,_,_,_,_,_,_,_] _
       refine g_ops_nil ?_
       obtain rfl := Option.some.inj H
       have hs := hs.pull 5 rfl
       have hs : St _ [_] _ := St.take (Γ' := [_,_,_,_,_]) hs
       exact ih1_ _ _ ⟨i64w (x5 + 1), Hx1_, rfl, hs⟩
    intro hb
    rw [if_neg (b_dec_f hb)] at H
    show G _ _ _ _ [_,_,_,_,_,_,_,_,_,_,_,_,_,_,_,_,_,_,_,_,_] _
    refine g_ops_nil (g_seq (g_cond_false rfl ?_))
    obtain rfl := Option.some.inj H
    subst Hx1_
    have hs : St _ [] _ := St.take (Γ' := [_]) hs
    refine g_exit rfl ?_
    exact ha1_ _ _ ⟨Hr1_, rfl, hs⟩
  | false =>
    rw [if_neg Bool.false_ne_true] at H
    show G _ _ _ _ [_,_,_,_,_,_,_,_,_,_,_,_,_,_,_,_,_,_,_,_,_] _
    refine g_op (v := Value.bool true) rfl rfl rfl (g_ops_nil (g_cond_true rfl (g_seq (g_rg [0, 1] rfl ?_))))
    refine g_op (v := Value.int .i64 0) rfl rfl rfl ?_
    refine g_op (v := Value.int .i64 1) rfl rfl rfl ?_
    show G _ _ _ _ [_,_,_,_,_,_,_,_,_,_,_,_,_,_,_,_,_,_,_,_,_] _
    refine g_ops_nil ?_
    obtain rfl := Option.some.inj H
    refine g_ret Try.func10 (v := Value.tuple #[Value.int .i64 0, Value.int .i64 1]) (resN (l := Try.f10.results.toList) (vs := [Value.int .i64 0, Value.int .i64 1]) rfl ⟨rfl, rfl, trivial⟩ (by simp)) ?_
    have hs : St _ [] _ := St.take (Γ' := [_]) hs
    exact ⟨_, rfl, rfl, hs⟩

/- function 4 laws_FnExactLeastWeighings -/
def laws_FnExactLeastWeighings.post (w0 : World) (r : Bool) (v : Value) (w : World) : Prop := v = Value.bool r ∧ St w0 [] w
set_option maxHeartbeats 8000000 in
set_option maxRecDepth 100000 in
theorem laws_FnExactLeastWeighings.calls {N : Nat} {a1 : S_laws_Task} {w0 : World} {r : Bool} (H : laws_FnExactLeastWeighings.f N a1 = some r) :
    Calls Try.prog 4 #[Value.agg (enc_S_laws_Task a1).toArray] w0 fun e w => ∃ v, e = .returned v ∧ laws_FnExactLeastWeighings.post w0 r v w := by
  unfold laws_FnExactLeastWeighings.f at H
  have hs : St w0 [] w0 := St.refl w0
  refine calls_of_g (n := 26) Try.func4 rfl rfl ?_
  show G _ _ _ _ [_,_,_,_,_,_,_,_,_,_,_,_,_,_,_,_,_,_,_,_,_,_,_,_,_,_,_] _
  refine g_seq (g_rg [0, 1] rfl ?_)
  refine s_box hs rfl rfl (cs := (enc_S_laws_Task a1)) rfl rfl ?_
  intro b2 w hs
  show G _ _ _ _ [_,_,_,_,_,_,_,_,_,_,_,_,_,_,_,_,_,_,_,_,_,_,_,_,_,_,_] _
  refine g_op (v := Value.bool false) rfl rfl rfl (g_ops_nil (g_seq (g_rg [0, 1, 2, 3, 4, 5, 6, 7] rfl ?_)))
  refine s_loadA rfl rfl (es := (enc_S_laws_Task a1)) rfl rfl (fun _ => rfl) (n := 4) (fun _ => rfl) (fk_S_laws_Task.len _) (cells_all (hs.cells 0 rfl)) ?_
  obtain ⟨r4, Hr4, H⟩ := bind_get H
  refine s_call (args := [Value.agg (enc_S_laws_Task a1).toArray]) rfl rfl (x_call rfl (callFunc_enter Try.func7 rfl rfl) rfl) (laws_toTask.calls (a1 := a1) Hr4) ?_
  rintro _ w ⟨rfl, hs2⟩
  have hs : St _ [_] _ := hs.call hs2
  show G _ _ _ _ [_,_,_,_,_,_,_,_,_,_,_,_,_,_,_,_,_,_,_,_,_,_,_,_,_,_,_] _
  obtain ⟨r5, Hr5, H⟩ := bind_get H
  refine s_call (args := [Value.agg (enc_S_laws_Task r4).toArray]) rfl rfl (x_call rfl (callFunc_enter Try.func9 rfl rfl) rfl) (spec_LeastWeighings.calls (a1 := r4) Hr5) ?_
  rintro _ w ⟨rfl, hs2⟩
  have hs : St _ [_] _ := hs.call hs2
  refine g_op (v := Value.tuple #[Value.int .i64 r5.1, Value.int .i64 r5.2]) rfl rfl rfl ?_
  refine g_op (v := Value.int .i64 r5.1) rfl rfl rfl ?_
  refine g_op (v := Value.int .i64 r5.2) rfl rfl rfl ?_
  refine g_op (v := Value.int .i64 r5.1) rfl rfl rfl ?_
  refine g_op (v := Value.int .i64 r5.2) rfl rfl rfl ?_
  show G _ _ _ _ [_,_,_,_,_,_,_,_,_,_,_,_,_,_,_,_,_,_,_,_,_,_,_,_,_,_,_] _
  refine g_ops_nil (g_seq (g_rg [0, 1, 2, 3, 4, 5, 6, 7] rfl ?_))
  refine s_loadA rfl rfl (es := (enc_S_laws_Task a1)) rfl rfl (fun _ => rfl) (n := 4) (fun _ => rfl) (fk_S_laws_Task.len _) (cells_all (hs.cells 0 rfl)) ?_
  obtain ⟨r6, Hr6, H⟩ := bind_get H
  refine s_call (args := [Value.agg (enc_S_laws_Task a1).toArray]) rfl rfl (x_call rfl (callFunc_enter Try.func7 rfl rfl) rfl) (laws_toTask.calls (a1 := a1) Hr6) ?_
  rintro _ w ⟨rfl, hs2⟩
  have hs : St _ [_] _ := hs.call hs2
  obtain ⟨r7, Hr7, H⟩ := bind_get H
  refine s_call (args := [Value.agg (enc_S_laws_Task r6).toArray]) rfl rfl (x_call rfl (callFunc_enter Try.func10 rfl rfl) rfl) (impl_LeastWeighings.calls (a1 := r6) Hr7) ?_
  rintro _ w ⟨rfl, hs2⟩
  have hs : St _ [_] _ := hs.call hs2
  show G _ _ _ _ [_,_,_,_,_,_,_,_,_,_,_,_,_,_,_,_,_,_,_,_,_,_,_,_,_,_,_] _
  refine g_op (v := Value.tuple #[Value.int .i64 r7.1, Value.int .i64 r7.2]) rfl rfl rfl ?_
  refine g_op (v := Value.int .i64 r7.1) rfl rfl rfl ?_
  refine g_op (v := Value.int .i64 r7.2) rfl rfl rfl ?_
  refine g_op (v := Value.int .i64 r7.1) rfl rfl rfl ?_
  refine g_op (v := Value.int .i64 r7.2) rfl rfl rfl (g_ops_nil (g_seq (g_seq (g_rg [0, 1, 2, 3, 4, 5, 6, 7] rfl ?_))))
  refine g_op (v := Value.int .i64 r7.1) rfl rfl rfl ?_
  refine g_op (v := Value.int .i64 r5.1) rfl rfl rfl ?_
  refine g_op_b (B := r7.1 != r5.1) rfl rfl rfl ?_ ?_
  ·
   intro hb
   rw [if_neg (b_bne_t hb)] at H
   refine g_op (v := Value.bool true) rfl rfl rfl (g_op_not rfl rfl (g_op_not rfl rfl (g_op_not rfl rfl ?_)))
   show G _ _ _ _ [_,_,_,_,_,_,_,_,_,_,_,_,_,_,_,_,_,_,_,_,_,_,_,_,_,_,_] _
   refine g_op (v := Value.bool true) rfl rfl rfl (g_ops_nil (g_cond_true rfl (g_seq (g_rg [0] rfl ?_))))
   refine g_op (v := Value.bool false) rfl rfl rfl (g_ops_nil ?_)
   obtain rfl := Option.some.inj H
   refine g_ret Try.func4 (v := Value.bool false) (res1 rfl rfl) ?_
   have hs : St _ [] _ := St.take (Γ' := [_]) hs
   exact ⟨_, rfl, rfl, hs⟩
  intro hb
  rw [if_pos (b_bne_f hb)] at H
  show G _ _ _ _ [_,_,_,_,_,_,_,_,_,_,_,_,_,_,_,_,_,_,_,_,_,_,_,_,_,_,_] _
  refine g_op (v := Value.bool false) rfl rfl rfl ?_
  refine g_op (v := Value.int .i64 r7.2) rfl rfl rfl ?_
  refine g_op (v := Value.int .i64 r5.2) rfl rfl rfl ?_
  refine g_op_b (B := r7.2 != r5.2) rfl rfl rfl ?_ ?_
  ·
   intro hb
   rw [if_neg (b_bne_t hb)] at H
   refine g_op (v := Value.bool true) rfl rfl rfl ?_
   show G _ _ _ _ [_,_,_,_,_,_,_,_,_,_,_,_,_,_,_,_,_,_,_,_,_,_,_,_,_,_,_] _
   refine g_ops_nil (g_cond_true rfl (g_seq (g_rg [0] rfl ?_)))
   refine g_op (v := Value.bool false) rfl rfl rfl (g_ops_nil ?_)
   obtain rfl := Option.some.inj H
   refine g_ret Try.func4 (v := Value.bool false) (res1 rfl rfl) ?_
   have hs : St _ [] _ := St.take (Γ' := [_]) hs
   exact ⟨_, rfl, rfl, hs⟩
  intro hb
  rw [if_pos (b_bne_f hb)] at H
  refine g_op (v := Value.bool false) rfl rfl rfl (g_ops_nil (g_cond_false rfl (g_skip (g_seq (g_rg [0] rfl ?_)))))
  refine g_op (v := Value.bool true) rfl rfl rfl ?_
  show G _ _ _ _ [_,_,_,_,_,_,_,_,_,_,_,_,_,_,_,_,_,_,_,_,_,_,_,_,_,_,_] _
  refine g_ops_nil ?_
  obtain rfl := Option.some.inj H
  refine g_ret Try.func4 (v := Value.bool true) (res1 rfl rfl) ?_
  have hs : St _ [] _ := St.take (Γ' := [_]) hs
  exact ⟨_, rfl, rfl, hs⟩

end Go.Proofs.YtgpdpedpmhonkaaX
