/- Contracts, printed by gen.py. -/
import Derived.Test.YtcocgeodfbiehaaXC10
namespace Go.Proofs.YtcocgeodfbiehaaX
open Go Go.RowKit Go.Proofs
set_option linter.unusedVariables false
set_option linter.unusedSimpArgs false
/- function 4 laws_FnExactSetFor -/
def laws_FnExactSetFor.post (w0 : World) (r : Bool) (v : Value) (w : World) : Prop := v = Value.bool r ∧ St w0 [] w
set_option maxHeartbeats 400000 in
set_option maxRecDepth 100000 in
theorem laws_FnExactSetFor.calls {N : Nat} {a1 : S_laws_Game} {a4 : (Ar Int 4)} {v2 : Value} {w0 : World} {r : Bool} (hr3 : RdRow k_S_impl_Ask w0 v2 a1.f_Asked) (H : laws_FnExactSetFor.f N a1 a4 = some r) :
    Calls Try.prog 4 #[Value.agg (([Value.int .i8 a1.f_Numbers, Value.int .i8 a1.f_Lies, v2] : List Value)).toArray, Value.agg ((encA (encI .i64)) a4).toArray] w0 fun e w => ∃ v, e = .returned v ∧ laws_FnExactSetFor.post w0 r v w := by
  unfold laws_FnExactSetFor.f at H
  have hs : St w0 [] w0 := St.refl w0
  refine calls_of_g (n := 44) Try.func4 rfl rfl ?_
  show G _ _ _ _ [_, _, _, _, _, _, _, _, _, _, _, _, _, _, _, _, _, _, _, _, _, _, _, _, _, _, _, _, _, _, _, _, _, _, _, _, _, _, _, _, _, _, _, _, _, _] _
  refine g_seq ?_
  refine g_region ?_
  show G _ _ _ (.inRegion _ [0, 1, 2] :: _) _ _
  refine s_box hs rfl rfl (cs := (([Value.int .i8 a1.f_Numbers, Value.int .i8 a1.f_Lies, v2] : List Value))) rfl rfl ?_
  intro b5 w hs
  show G _ _ _ _ [_, _, _, _, _, _, _, _, _, _, _, _, _, _, _, _, _, _, _, _, _, _, _, _, _, _, _, _, _, _, _, _, _, _, _, _, _, _, _, _, _, _, _, _, _, _] _
  refine s_box hs rfl rfl (cs := ((encA (encI .i64)) a4)) rfl rfl ?_
  intro b7 w hs
  show G _ _ _ _ [_, _, _, _, _, _, _, _, _, _, _, _, _, _, _, _, _, _, _, _, _, _, _, _, _, _, _, _, _, _, _, _, _, _, _, _, _, _, _, _, _, _, _, _, _, _] _
  refine g_op (v := Value.bool false) rfl rfl rfl ?_
  show G _ _ _ _ [_, _, _, _, _, _, _, _, _, _, _, _, _, _, _, _, _, _, _, _, _, _, _, _, _, _, _, _, _, _, _, _, _, _, _, _, _, _, _, _, _, _, _, _, _, _] _
  refine g_ops_nil ?_
  refine g_seq ?_
  refine g_region ?_
  show G _ _ _ (.inRegion _ [0] :: _) _ _
  refine g_op (v := Value.int .i64 1048576) rfl rfl rfl ?_
  show G _ _ _ _ [_, _, _, _, _, _, _, _, _, _, _, _, _, _, _, _, _, _, _, _, _, _, _, _, _, _, _, _, _, _, _, _, _, _, _, _, _, _, _, _, _, _, _, _, _, _] _
  refine g_ops_nil ?_
  refine g_seq ?_
  refine g_region ?_
  show G _ _ _ (.inRegion _ [0, 1, 2, 3] :: _) _ _
  refine s_loadA rfl rfl (es := (([Value.int .i8 a1.f_Numbers, Value.int .i8 a1.f_Lies, v2] : List Value))) rfl rfl (fun _ => rfl) (n := 3) (fun _ => rfl) rfl (cells_all (hs.cells 1 rfl)) ?_
  show G _ _ _ _ [_, _, _, _, _, _, _, _, _, _, _, _, _, _, _, _, _, _, _, _, _, _, _, _, _, _, _, _, _, _, _, _, _, _, _, _, _, _, _, _, _, _, _, _, _, _] _
  refine g_op (v := Value.int .i64 1048576) rfl rfl rfl ?_
  show G _ _ _ _ [_, _, _, _, _, _, _, _, _, _, _, _, _, _, _, _, _, _, _, _, _, _, _, _, _, _, _, _, _, _, _, _, _, _, _, _, _, _, _, _, _, _, _, _, _, _] _
  obtain ⟨r9, Hr9, H⟩ := bind_get H
  refine s_call (args := [Value.agg (([Value.int .i8 a1.f_Numbers, Value.int .i8 a1.f_Lies, v2] : List Value)).toArray, Value.int .i64 1048576]) rfl rfl (x_call rfl (callFunc_enter Try.func7 rfl rfl) rfl) (laws_szGame.calls (a1 := (⟨a1.f_Numbers, a1.f_Lies, a1.f_Asked⟩ : S_laws_Game)) (a4 := 1048576) (hs.rd hr3) Hr9) ?_
  rintro _ w ⟨rfl, hs2⟩
  have hs : St _ [_, _] _ := hs.call hs2
  show G _ _ _ _ [_, _, _, _, _, _, _, _, _, _, _, _, _, _, _, _, _, _, _, _, _, _, _, _, _, _, _, _, _, _, _, _, _, _, _, _, _, _, _, _, _, _, _, _, _, _] _
  refine g_op (v := Value.int .i64 r9) rfl rfl rfl ?_
  show G _ _ _ _ [_, _, _, _, _, _, _, _, _, _, _, _, _, _, _, _, _, _, _, _, _, _, _, _, _, _, _, _, _, _, _, _, _, _, _, _, _, _, _, _, _, _, _, _, _, _] _
  refine g_ops_nil ?_
  refine g_seq ?_
  refine g_seq ?_
  refine g_region ?_
  show G _ _ _ (.inRegion _ [0, 1] :: _) _ _
  refine g_op (v := Value.int .i64 r9) rfl rfl rfl ?_
  show G _ _ _ _ [_, _, _, _, _, _, _, _, _, _, _, _, _, _, _, _, _, _, _, _, _, _, _, _, _, _, _, _, _, _, _, _, _, _, _, _, _, _, _, _, _, _, _, _, _, _] _
  refine g_op_b (B := decide (r9 < 0)) rfl rfl rfl ?_ ?_
  · intro hb
    rw [if_pos (b_dec_t hb)] at H
    show G _ _ _ _ [_, _, _, _, _, _, _, _, _, _, _, _, _, _, _, _, _, _, _, _, _, _, _, _, _, _, _, _, _, _, _, _, _, _, _, _, _, _, _, _, _, _, _, _, _, _] _
    refine g_ops_nil ?_
    refine g_cond_true rfl ?_
    refine g_seq ?_
    refine g_region ?_
    show G _ _ _ (.inRegion _ [0] :: _) _ _
    refine g_op (v := Value.bool true) rfl rfl rfl ?_
    show G _ _ _ _ [_, _, _, _, _, _, _, _, _, _, _, _, _, _, _, _, _, _, _, _, _, _, _, _, _, _, _, _, _, _, _, _, _, _, _, _, _, _, _, _, _, _, _, _, _, _] _
    refine g_ops_nil ?_
    obtain rfl := Option.some.inj H
    refine g_ret Try.func4 (v := Value.bool true) (res1 rfl rfl) ?_
    have hs : St _ [] _ := St.take (Γ' := [_, _]) hs
    exact ⟨_, rfl, rfl, hs⟩
  · intro hb
    rw [if_neg (b_dec_f hb)] at H
    show G _ _ _ _ [_, _, _, _, _, _, _, _, _, _, _, _, _, _, _, _, _, _, _, _, _, _, _, _, _, _, _, _, _, _, _, _, _, _, _, _, _, _, _, _, _, _, _, _, _, _] _
    refine g_ops_nil ?_
    refine g_cond_false rfl ?_
    refine g_skip ?_
    refine g_seq ?_
    obtain ⟨r10, Hr10, H⟩ := bind_get H
    obtain ⟨r13, Hr13, H⟩ := bind_get H
    obtain ⟨r14, Hr14, H⟩ := bind_get H
    refine g_name ?_
    intro T hT
    refine g_any (n := 10) rfl [0, 1, 2, 3, 4, 5, 6, 7, 8, 9] [0, 1, 2, 3, 4, 5, 6, 8, 7, 9] rfl rfl (Inv := fun D t w => ∃ v11 : Value, ∃ O : Nat → Value, t = [Value.agg (([Value.int .i8 a1.f_Numbers, Value.int .i8 a1.f_Lies, v2] : List Value)).toArray, Value.agg ((encA (encI .i64)) a4).toArray, Value.pointer (some ⟨b5, 0, none⟩), Value.pointer (some ⟨b7, 0, none⟩), Value.bool false, Value.int .i64 r9, cnd (D 8) (Value.int .u64 r14.1) (O 6), cnd (D 9) (Value.int .i64 r14.2) (O 7), O 8, O 9, O 10, Value.agg (([Value.int .i8 a1.f_Numbers, Value.int .i8 a1.f_Lies, v2] : List Value)).toArray, Value.int .i64 1048576, Value.int .i64 r9, Value.int .i64 r9, Value.bool false, cnd (D 5) (Value.tuple #[Value.int .u64 r14.1, Value.int .i64 r14.2]) (O 16), cnd (D 0) (Value.agg (([Value.int .i8 a1.f_Numbers, Value.int .i8 a1.f_Lies, v2] : List Value)).toArray) (O 17), cnd (D 1) (Value.agg (([Value.int .i8 r10.f_Numbers, Value.int .i8 r10.f_Lies, v11] : List Value)).toArray) (O 18), cnd (D 2) (Value.agg ((encA (encI .i64)) a4).toArray) (O 19), cnd (D 3) (Value.agg ((encA (encI .i64)) r13).toArray) (O 20), cnd (D 4) (Value.tuple #[Value.int .u64 r14.1, Value.int .i64 r14.2]) (O 21), cnd (D 6) (Value.int .u64 r14.1) (O 22), cnd (D 7) (Value.int .i64 r14.2) (O 23), O 24, O 25, O 26, O 27, O 28, O 29, O 30, O 31, O 32, O 33, O 34, O 35, O 36, O 37, O 38, O 39, O 40, O 41, O 42, O 43, O 44, O 45] ∧ St w0 [Asc (D 1) (Row 98 k_S_impl_Ask v11 r10.f_Asked), Cells b7 ((encA (encI .i64)) a4) 36, Cells b5 (([Value.int .i8 a1.f_Numbers, Value.int .i8 a1.f_Lies, v2] : List Value)) 25] w) ?_ ⟨⟨⟨⟨⟨⟨⟨⟨⟨⟨trivial, ?_⟩, ?_⟩, ?_⟩, ?_⟩, ?_⟩, ?_⟩, ?_⟩, ?_⟩, ?_⟩, ?_⟩ ?_
    · intro w hh hbw
      have hs := hs.samew hh hbw
      have hs := hs.emp
      exact ⟨undef, fun i => T.getD i undef, (by subst hT; rfl), hs⟩
    · intro D t w hD hp hcl hI rest hk
      obtain ⟨v11, O, ht, hs⟩ := hI
      have q1_ : D 1 = false := not_yet (hcl.get 1 (by decide)) 0 0 rfl hD
      have q3_ : D 3 = false := not_yet (hcl.get 3 (by decide)) 1 1 rfl q1_
      have q4_ : D 4 = false := not_yet (hcl.get 4 (by decide)) 0 1 rfl q1_
      have q5_ : D 5 = false := not_yet (hcl.get 5 (by decide)) 0 4 rfl q4_
      have q6_ : D 6 = false := not_yet (hcl.get 6 (by decide)) 0 5 rfl q5_
      have q7_ : D 7 = false := not_yet (hcl.get 7 (by decide)) 0 5 rfl q5_
      have q8_ : D 8 = false := not_yet (hcl.get 8 (by decide)) 0 6 rfl q6_
      have q9_ : D 9 = false := not_yet (hcl.get 9 (by decide)) 0 7 rfl q7_
      have u0_ : upd D 0 0 = true := rfl
      have u1_ : upd D 0 1 = D 1 := rfl
      have u2_ : upd D 0 2 = D 2 := rfl
      have u3_ : upd D 0 3 = D 3 := rfl
      have u4_ : upd D 0 4 = D 4 := rfl
      have u5_ : upd D 0 5 = D 5 := rfl
      have u6_ : upd D 0 6 = D 6 := rfl
      have u7_ : upd D 0 7 = D 7 := rfl
      have u8_ : upd D 0 8 = D 8 := rfl
      have u9_ : upd D 0 9 = D 9 := rfl
      simp only [hD, q1_, q3_, q4_, q5_, q6_, q7_, q8_, q9_, cnd_t, cnd_f, Asc_t, Asc_f] at ht hs
      subst ht
      refine s_loadA rfl rfl (es := (([Value.int .i8 a1.f_Numbers, Value.int .i8 a1.f_Lies, v2] : List Value))) rfl rfl (fun _ => rfl) (n := 3) (fun _ => rfl) rfl (cells_all (hs.cells 2 rfl)) ?_
      show G _ _ _ _ [_, _, _, _, _, _, _, _, _, _, _, _, _, _, _, _, _, _, _, _, _, _, _, _, _, _, _, _, _, _, _, _, _, _, _, _, _, _, _, _, _, _, _, _, _, _] _
      exact hk _ _ ⟨v11, O, (by simp only [u0_, u1_, u2_, u3_, u4_, u5_, u6_, u7_, u8_, u9_, q1_, q3_, q4_, q5_, q6_, q7_, q8_, q9_, cnd_t, cnd_f, Asc_t, Asc_f]), hs.cast (by first | rfl | simp only [List.take, List.drop, List.cons_append, List.nil_append, List.set_cons_zero, List.set_cons_succ, List.eraseIdx, u0_, u1_, u2_, u3_, u4_, u5_, u6_, u7_, u8_, u9_, q1_, q3_, q4_, q5_, q6_, q7_, q8_, q9_, cnd_t, cnd_f, Asc_t, Asc_f])⟩
    · intro D t w hD hp hcl hI rest hk
      obtain ⟨v11, O, ht, hs⟩ := hI
      obtain ⟨p0_, _⟩ := hp
      have q3_ : D 3 = false := not_yet (hcl.get 3 (by decide)) 1 1 rfl hD
      have q4_ : D 4 = false := not_yet (hcl.get 4 (by decide)) 0 1 rfl hD
      have q5_ : D 5 = false := not_yet (hcl.get 5 (by decide)) 0 4 rfl q4_
      have q6_ : D 6 = false := not_yet (hcl.get 6 (by decide)) 0 5 rfl q5_
      have q7_ : D 7 = false := not_yet (hcl.get 7 (by decide)) 0 5 rfl q5_
      have q8_ : D 8 = false := not_yet (hcl.get 8 (by decide)) 0 6 rfl q6_
      have q9_ : D 9 = false := not_yet (hcl.get 9 (by decide)) 0 7 rfl q7_
      have u0_ : upd D 1 0 = D 0 := rfl
      have u1_ : upd D 1 1 = true := rfl
      have u2_ : upd D 1 2 = D 2 := rfl
      have u3_ : upd D 1 3 = D 3 := rfl
      have u4_ : upd D 1 4 = D 4 := rfl
      have u5_ : upd D 1 5 = D 5 := rfl
      have u6_ : upd D 1 6 = D 6 := rfl
      have u7_ : upd D 1 7 = D 7 := rfl
      have u8_ : upd D 1 8 = D 8 := rfl
      have u9_ : upd D 1 9 = D 9 := rfl
      simp only [hD, p0_, q3_, q4_, q5_, q6_, q7_, q8_, q9_, cnd_t, cnd_f, Asc_t, Asc_f] at ht hs
      subst ht
      refine s_call (args := [Value.agg (([Value.int .i8 a1.f_Numbers, Value.int .i8 a1.f_Lies, v2] : List Value)).toArray]) rfl rfl (x_call rfl (callFunc_enter Try.func9 rfl rfl) rfl) (laws_toGame.calls (a1 := (⟨a1.f_Numbers, a1.f_Lies, a1.f_Asked⟩ : S_laws_Game)) (hs.rd hr3) Hr10) ?_
      rintro _ w ⟨v11, rfl, hs2⟩
      have hs : St _ [_, _, _, _] _ := hs.call hs2
      show G _ _ _ _ [_, _, _, _, _, _, _, _, _, _, _, _, _, _, _, _, _, _, _, _, _, _, _, _, _, _, _, _, _, _, _, _, _, _, _, _, _, _, _, _, _, _, _, _, _, _] _
      have hs := hs.fill 0 rfl
      exact hk _ _ ⟨v11, O, (by simp only [u0_, u1_, u2_, u3_, u4_, u5_, u6_, u7_, u8_, u9_, p0_, q3_, q4_, q5_, q6_, q7_, q8_, q9_, cnd_t, cnd_f, Asc_t, Asc_f]), hs.cast (by first | rfl | simp only [List.take, List.drop, List.cons_append, List.nil_append, List.set_cons_zero, List.set_cons_succ, List.eraseIdx, u0_, u1_, u2_, u3_, u4_, u5_, u6_, u7_, u8_, u9_, p0_, q3_, q4_, q5_, q6_, q7_, q8_, q9_, cnd_t, cnd_f, Asc_t, Asc_f])⟩
    · intro D t w hD hp hcl hI rest hk
      obtain ⟨v11, O, ht, hs⟩ := hI
      have q3_ : D 3 = false := not_yet (hcl.get 3 (by decide)) 0 2 rfl hD
      have q4_ : D 4 = false := not_yet (hcl.get 4 (by decide)) 1 3 rfl q3_
      have q5_ : D 5 = false := not_yet (hcl.get 5 (by decide)) 0 4 rfl q4_
      have q6_ : D 6 = false := not_yet (hcl.get 6 (by decide)) 0 5 rfl q5_
      have q7_ : D 7 = false := not_yet (hcl.get 7 (by decide)) 0 5 rfl q5_
      have q8_ : D 8 = false := not_yet (hcl.get 8 (by decide)) 0 6 rfl q6_
      have q9_ : D 9 = false := not_yet (hcl.get 9 (by decide)) 0 7 rfl q7_
      have u0_ : upd D 2 0 = D 0 := rfl
      have u1_ : upd D 2 1 = D 1 := rfl
      have u2_ : upd D 2 2 = true := rfl
      have u3_ : upd D 2 3 = D 3 := rfl
      have u4_ : upd D 2 4 = D 4 := rfl
      have u5_ : upd D 2 5 = D 5 := rfl
      have u6_ : upd D 2 6 = D 6 := rfl
      have u7_ : upd D 2 7 = D 7 := rfl
      have u8_ : upd D 2 8 = D 8 := rfl
      have u9_ : upd D 2 9 = D 9 := rfl
      simp only [hD, q3_, q4_, q5_, q6_, q7_, q8_, q9_, cnd_t, cnd_f, Asc_t, Asc_f] at ht hs
      subst ht
      refine s_loadA rfl rfl (es := ((encA (encI .i64)) a4)) rfl rfl (fun _ => rfl) (n := 4) (fun _ => rfl) ((fkA (n := 4) (he := (fkI .i64).len) (h1 := (fkI .i64).one)).len _) (cells_all (hs.cells 1 rfl)) ?_
      show G _ _ _ _ [_, _, _, _, _, _, _, _, _, _, _, _, _, _, _, _, _, _, _, _, _, _, _, _, _, _, _, _, _, _, _, _, _, _, _, _, _, _, _, _, _, _, _, _, _, _] _
      exact hk _ _ ⟨v11, O, (by simp only [u0_, u1_, u2_, u3_, u4_, u5_, u6_, u7_, u8_, u9_, q3_, q4_, q5_, q6_, q7_, q8_, q9_, cnd_t, cnd_f, Asc_t, Asc_f]), hs.cast (by first | rfl | simp only [List.take, List.drop, List.cons_append, List.nil_append, List.set_cons_zero, List.set_cons_succ, List.eraseIdx, u0_, u1_, u2_, u3_, u4_, u5_, u6_, u7_, u8_, u9_, q3_, q4_, q5_, q6_, q7_, q8_, q9_, cnd_t, cnd_f, Asc_t, Asc_f])⟩
    · intro D t w hD hp hcl hI rest hk
      obtain ⟨v11, O, ht, hs⟩ := hI
      obtain ⟨p2_, p1_, _⟩ := hp
      obtain ⟨p0_, _⟩ := (hcl.get 1 (by decide)) p1_
      have q4_ : D 4 = false := not_yet (hcl.get 4 (by decide)) 1 3 rfl hD
      have q5_ : D 5 = false := not_yet (hcl.get 5 (by decide)) 0 4 rfl q4_
      have q6_ : D 6 = false := not_yet (hcl.get 6 (by decide)) 0 5 rfl q5_
      have q7_ : D 7 = false := not_yet (hcl.get 7 (by decide)) 0 5 rfl q5_
      have q8_ : D 8 = false := not_yet (hcl.get 8 (by decide)) 0 6 rfl q6_
      have q9_ : D 9 = false := not_yet (hcl.get 9 (by decide)) 0 7 rfl q7_
      have u0_ : upd D 3 0 = D 0 := rfl
      have u1_ : upd D 3 1 = D 1 := rfl
      have u2_ : upd D 3 2 = D 2 := rfl
      have u3_ : upd D 3 3 = true := rfl
      have u4_ : upd D 3 4 = D 4 := rfl
      have u5_ : upd D 3 5 = D 5 := rfl
      have u6_ : upd D 3 6 = D 6 := rfl
      have u7_ : upd D 3 7 = D 7 := rfl
      have u8_ : upd D 3 8 = D 8 := rfl
      have u9_ : upd D 3 9 = D 9 := rfl
      simp only [hD, p0_, p1_, p2_, q4_, q5_, q6_, q7_, q8_, q9_, cnd_t, cnd_f, Asc_t, Asc_f] at ht hs
      subst ht
      refine s_call (args := [Value.agg ((encA (encI .i64)) a4).toArray]) rfl rfl (x_call rfl (callFunc_enter Try.func13 rfl rfl) rfl) (laws_toState.calls (a1 := a4) Hr13) ?_
      rintro _ w ⟨rfl, hs2⟩
      have hs : St _ [_, _, _] _ := hs.call hs2
      show G _ _ _ _ [_, _, _, _, _, _, _, _, _, _, _, _, _, _, _, _, _, _, _, _, _, _, _, _, _, _, _, _, _, _, _, _, _, _, _, _, _, _, _, _, _, _, _, _, _, _] _
      exact hk _ _ ⟨v11, O, (by simp only [u0_, u1_, u2_, u3_, u4_, u5_, u6_, u7_, u8_, u9_, p0_, p1_, p2_, q4_, q5_, q6_, q7_, q8_, q9_, cnd_t, cnd_f, Asc_t, Asc_f]), hs.cast (by first | rfl | simp only [List.take, List.drop, List.cons_append, List.nil_append, List.set_cons_zero, List.set_cons_succ, List.eraseIdx, u0_, u1_, u2_, u3_, u4_, u5_, u6_, u7_, u8_, u9_, p0_, p1_, p2_, q4_, q5_, q6_, q7_, q8_, q9_, cnd_t, cnd_f, Asc_t, Asc_f])⟩
    · intro D t w hD hp hcl hI rest hk
      obtain ⟨v11, O, ht, hs⟩ := hI
      obtain ⟨p1_, p3_, _, _⟩ := hp
      obtain ⟨p2_, _, _⟩ := (hcl.get 3 (by decide)) p3_
      obtain ⟨p0_, _⟩ := (hcl.get 1 (by decide)) p1_
      have q5_ : D 5 = false := not_yet (hcl.get 5 (by decide)) 0 4 rfl hD
      have q6_ : D 6 = false := not_yet (hcl.get 6 (by decide)) 0 5 rfl q5_
      have q7_ : D 7 = false := not_yet (hcl.get 7 (by decide)) 0 5 rfl q5_
      have q8_ : D 8 = false := not_yet (hcl.get 8 (by decide)) 0 6 rfl q6_
      have q9_ : D 9 = false := not_yet (hcl.get 9 (by decide)) 0 7 rfl q7_
      have u0_ : upd D 4 0 = D 0 := rfl
      have u1_ : upd D 4 1 = D 1 := rfl
      have u2_ : upd D 4 2 = D 2 := rfl
      have u3_ : upd D 4 3 = D 3 := rfl
      have u4_ : upd D 4 4 = true := rfl
      have u5_ : upd D 4 5 = D 5 := rfl
      have u6_ : upd D 4 6 = D 6 := rfl
      have u7_ : upd D 4 7 = D 7 := rfl
      have u8_ : upd D 4 8 = D 8 := rfl
      have u9_ : upd D 4 9 = D 9 := rfl
      simp only [hD, p0_, p1_, p2_, p3_, q5_, q6_, q7_, q8_, q9_, cnd_t, cnd_f, Asc_t, Asc_f] at ht hs
      subst ht
      refine s_call (args := [Value.agg (([Value.int .i8 r10.f_Numbers, Value.int .i8 r10.f_Lies, v11] : List Value)).toArray, Value.agg ((encA (encI .i64)) r13).toArray]) rfl rfl (x_call rfl (callFunc_enter Try.func12 rfl rfl) rfl) (spec_SetFor.calls (a1 := (⟨r10.f_Numbers, r10.f_Lies, r10.f_Asked⟩ : S_impl_Game)) (a4 := r13) (hs.row 0 rfl) Hr14) ?_
      rintro _ w ⟨rfl, hs2⟩
      have hs : St _ [_, _, _] _ := hs.call hs2
      show G _ _ _ _ [_, _, _, _, _, _, _, _, _, _, _, _, _, _, _, _, _, _, _, _, _, _, _, _, _, _, _, _, _, _, _, _, _, _, _, _, _, _, _, _, _, _, _, _, _, _] _
      exact hk _ _ ⟨v11, O, (by simp only [u0_, u1_, u2_, u3_, u4_, u5_, u6_, u7_, u8_, u9_, p0_, p1_, p2_, p3_, q5_, q6_, q7_, q8_, q9_, cnd_t, cnd_f, Asc_t, Asc_f]), hs.cast (by first | rfl | simp only [List.take, List.drop, List.cons_append, List.nil_append, List.set_cons_zero, List.set_cons_succ, List.eraseIdx, u0_, u1_, u2_, u3_, u4_, u5_, u6_, u7_, u8_, u9_, p0_, p1_, p2_, p3_, q5_, q6_, q7_, q8_, q9_, cnd_t, cnd_f, Asc_t, Asc_f])⟩
    · intro D t w hD hp hcl hI rest hk
      obtain ⟨v11, O, ht, hs⟩ := hI
      obtain ⟨p4_, _⟩ := hp
      obtain ⟨p1_, p3_, _, _⟩ := (hcl.get 4 (by decide)) p4_
      obtain ⟨p2_, _, _⟩ := (hcl.get 3 (by decide)) p3_
      obtain ⟨p0_, _⟩ := (hcl.get 1 (by decide)) p1_
      have q6_ : D 6 = false := not_yet (hcl.get 6 (by decide)) 0 5 rfl hD
      have q7_ : D 7 = false := not_yet (hcl.get 7 (by decide)) 0 5 rfl hD
      have q8_ : D 8 = false := not_yet (hcl.get 8 (by decide)) 0 6 rfl q6_
      have q9_ : D 9 = false := not_yet (hcl.get 9 (by decide)) 0 7 rfl q7_
      have u0_ : upd D 5 0 = D 0 := rfl
      have u1_ : upd D 5 1 = D 1 := rfl
      have u2_ : upd D 5 2 = D 2 := rfl
      have u3_ : upd D 5 3 = D 3 := rfl
      have u4_ : upd D 5 4 = D 4 := rfl
      have u5_ : upd D 5 5 = true := rfl
      have u6_ : upd D 5 6 = D 6 := rfl
      have u7_ : upd D 5 7 = D 7 := rfl
      have u8_ : upd D 5 8 = D 8 := rfl
      have u9_ : upd D 5 9 = D 9 := rfl
      simp only [hD, p0_, p1_, p2_, p3_, p4_, q6_, q7_, q8_, q9_, cnd_t, cnd_f, Asc_t, Asc_f] at ht hs
      subst ht
      refine g_op (v := Value.tuple #[Value.int .u64 r14.1, Value.int .i64 r14.2]) rfl rfl rfl ?_
      show G _ _ _ _ [_, _, _, _, _, _, _, _, _, _, _, _, _, _, _, _, _, _, _, _, _, _, _, _, _, _, _, _, _, _, _, _, _, _, _, _, _, _, _, _, _, _, _, _, _, _] _
      exact hk _ _ ⟨v11, O, (by simp only [u0_, u1_, u2_, u3_, u4_, u5_, u6_, u7_, u8_, u9_, p0_, p1_, p2_, p3_, p4_, q6_, q7_, q8_, q9_, cnd_t, cnd_f, Asc_t, Asc_f]), hs.cast (by first | rfl | simp only [List.take, List.drop, List.cons_append, List.nil_append, List.set_cons_zero, List.set_cons_succ, List.eraseIdx, u0_, u1_, u2_, u3_, u4_, u5_, u6_, u7_, u8_, u9_, p0_, p1_, p2_, p3_, p4_, q6_, q7_, q8_, q9_, cnd_t, cnd_f, Asc_t, Asc_f])⟩
    · intro D t w hD hp hcl hI rest hk
      obtain ⟨v11, O, ht, hs⟩ := hI
      obtain ⟨p5_, _⟩ := hp
      obtain ⟨p4_, _⟩ := (hcl.get 5 (by decide)) p5_
      obtain ⟨p1_, p3_, _, _⟩ := (hcl.get 4 (by decide)) p4_
      obtain ⟨p2_, _, _⟩ := (hcl.get 3 (by decide)) p3_
      obtain ⟨p0_, _⟩ := (hcl.get 1 (by decide)) p1_
      have q8_ : D 8 = false := not_yet (hcl.get 8 (by decide)) 0 6 rfl hD
      have q9_ : D 9 = false := not_yet (hcl.get 9 (by decide)) 1 8 rfl q8_
      have u0_ : upd D 6 0 = D 0 := rfl
      have u1_ : upd D 6 1 = D 1 := rfl
      have u2_ : upd D 6 2 = D 2 := rfl
      have u3_ : upd D 6 3 = D 3 := rfl
      have u4_ : upd D 6 4 = D 4 := rfl
      have u5_ : upd D 6 5 = D 5 := rfl
      have u6_ : upd D 6 6 = true := rfl
      have u7_ : upd D 6 7 = D 7 := rfl
      have u8_ : upd D 6 8 = D 8 := rfl
      have u9_ : upd D 6 9 = D 9 := rfl
      simp only [hD, p0_, p1_, p2_, p3_, p4_, p5_, q8_, q9_, cnd_t, cnd_f, Asc_t, Asc_f] at ht hs
      subst ht
      refine g_op (v := Value.int .u64 r14.1) rfl rfl rfl ?_
      show G _ _ _ _ [_, _, _, _, _, _, _, _, _, _, _, _, _, _, _, _, _, _, _, _, _, _, _, _, _, _, _, _, _, _, _, _, _, _, _, _, _, _, _, _, _, _, _, _, _, _] _
      exact hk _ _ ⟨v11, O, (by simp only [u0_, u1_, u2_, u3_, u4_, u5_, u6_, u7_, u8_, u9_, p0_, p1_, p2_, p3_, p4_, p5_, q8_, q9_, cnd_t, cnd_f, Asc_t, Asc_f]), hs.cast (by first | rfl | simp only [List.take, List.drop, List.cons_append, List.nil_append, List.set_cons_zero, List.set_cons_succ, List.eraseIdx, u0_, u1_, u2_, u3_, u4_, u5_, u6_, u7_, u8_, u9_, p0_, p1_, p2_, p3_, p4_, p5_, q8_, q9_, cnd_t, cnd_f, Asc_t, Asc_f])⟩
    · intro D t w hD hp hcl hI rest hk
      obtain ⟨v11, O, ht, hs⟩ := hI
      obtain ⟨p5_, _⟩ := hp
      obtain ⟨p4_, _⟩ := (hcl.get 5 (by decide)) p5_
      obtain ⟨p1_, p3_, _, _⟩ := (hcl.get 4 (by decide)) p4_
      obtain ⟨p2_, _, _⟩ := (hcl.get 3 (by decide)) p3_
      obtain ⟨p0_, _⟩ := (hcl.get 1 (by decide)) p1_
      have q9_ : D 9 = false := not_yet (hcl.get 9 (by decide)) 0 7 rfl hD
      have u0_ : upd D 7 0 = D 0 := rfl
      have u1_ : upd D 7 1 = D 1 := rfl
      have u2_ : upd D 7 2 = D 2 := rfl
      have u3_ : upd D 7 3 = D 3 := rfl
      have u4_ : upd D 7 4 = D 4 := rfl
      have u5_ : upd D 7 5 = D 5 := rfl
      have u6_ : upd D 7 6 = D 6 := rfl
      have u7_ : upd D 7 7 = true := rfl
      have u8_ : upd D 7 8 = D 8 := rfl
      have u9_ : upd D 7 9 = D 9 := rfl
      simp only [hD, p0_, p1_, p2_, p3_, p4_, p5_, q9_, cnd_t, cnd_f, Asc_t, Asc_f] at ht hs
      subst ht
      refine g_op (v := Value.int .i64 r14.2) rfl rfl rfl ?_
      show G _ _ _ _ [_, _, _, _, _, _, _, _, _, _, _, _, _, _, _, _, _, _, _, _, _, _, _, _, _, _, _, _, _, _, _, _, _, _, _, _, _, _, _, _, _, _, _, _, _, _] _
      exact hk _ _ ⟨v11, O, (by simp only [u0_, u1_, u2_, u3_, u4_, u5_, u6_, u7_, u8_, u9_, p0_, p1_, p2_, p3_, p4_, p5_, q9_, cnd_t, cnd_f, Asc_t, Asc_f]), hs.cast (by first | rfl | simp only [List.take, List.drop, List.cons_append, List.nil_append, List.set_cons_zero, List.set_cons_succ, List.eraseIdx, u0_, u1_, u2_, u3_, u4_, u5_, u6_, u7_, u8_, u9_, p0_, p1_, p2_, p3_, p4_, p5_, q9_, cnd_t, cnd_f, Asc_t, Asc_f])⟩
    · intro D t w hD hp hcl hI rest hk
      obtain ⟨v11, O, ht, hs⟩ := hI
      obtain ⟨p6_, p4_, p0_, p1_, p2_, p3_, _, p5_, _, _⟩ := hp
      have q9_ : D 9 = false := not_yet (hcl.get 9 (by decide)) 1 8 rfl hD
      have u0_ : upd D 8 0 = D 0 := rfl
      have u1_ : upd D 8 1 = D 1 := rfl
      have u2_ : upd D 8 2 = D 2 := rfl
      have u3_ : upd D 8 3 = D 3 := rfl
      have u4_ : upd D 8 4 = D 4 := rfl
      have u5_ : upd D 8 5 = D 5 := rfl
      have u6_ : upd D 8 6 = D 6 := rfl
      have u7_ : upd D 8 7 = D 7 := rfl
      have u8_ : upd D 8 8 = true := rfl
      have u9_ : upd D 8 9 = D 9 := rfl
      simp only [hD, p0_, p1_, p2_, p3_, p4_, p5_, p6_, q9_, cnd_t, cnd_f, Asc_t, Asc_f] at ht hs
      subst ht
      refine g_op (v := Value.int .u64 r14.1) rfl rfl rfl ?_
      show G _ _ _ _ [_, _, _, _, _, _, _, _, _, _, _, _, _, _, _, _, _, _, _, _, _, _, _, _, _, _, _, _, _, _, _, _, _, _, _, _, _, _, _, _, _, _, _, _, _, _] _
      exact hk _ _ ⟨v11, O, (by simp only [u0_, u1_, u2_, u3_, u4_, u5_, u6_, u7_, u8_, u9_, p0_, p1_, p2_, p3_, p4_, p5_, p6_, q9_, cnd_t, cnd_f, Asc_t, Asc_f]), hs.cast (by first | rfl | simp only [List.take, List.drop, List.cons_append, List.nil_append, List.set_cons_zero, List.set_cons_succ, List.eraseIdx, u0_, u1_, u2_, u3_, u4_, u5_, u6_, u7_, u8_, u9_, p0_, p1_, p2_, p3_, p4_, p5_, p6_, q9_, cnd_t, cnd_f, Asc_t, Asc_f])⟩
    · intro D t w hD hp hcl hI rest hk
      obtain ⟨v11, O, ht, hs⟩ := hI
      obtain ⟨p7_, p8_, p0_, p1_, p2_, p3_, p4_, p5_, p6_, _, _, _⟩ := hp
      have u0_ : upd D 9 0 = D 0 := rfl
      have u1_ : upd D 9 1 = D 1 := rfl
      have u2_ : upd D 9 2 = D 2 := rfl
      have u3_ : upd D 9 3 = D 3 := rfl
      have u4_ : upd D 9 4 = D 4 := rfl
      have u5_ : upd D 9 5 = D 5 := rfl
      have u6_ : upd D 9 6 = D 6 := rfl
      have u7_ : upd D 9 7 = D 7 := rfl
      have u8_ : upd D 9 8 = D 8 := rfl
      have u9_ : upd D 9 9 = true := rfl
      simp only [hD, p0_, p1_, p2_, p3_, p4_, p5_, p6_, p7_, p8_, cnd_t, cnd_f, Asc_t, Asc_f] at ht hs
      subst ht
      refine g_op (v := Value.int .i64 r14.2) rfl rfl rfl ?_
      show G _ _ _ _ [_, _, _, _, _, _, _, _, _, _, _, _, _, _, _, _, _, _, _, _, _, _, _, _, _, _, _, _, _, _, _, _, _, _, _, _, _, _, _, _, _, _, _, _, _, _] _
      exact hk _ _ ⟨v11, O, (by simp only [u0_, u1_, u2_, u3_, u4_, u5_, u6_, u7_, u8_, u9_, p0_, p1_, p2_, p3_, p4_, p5_, p6_, p7_, p8_, cnd_t, cnd_f, Asc_t, Asc_f]), hs.cast (by first | rfl | simp only [List.take, List.drop, List.cons_append, List.nil_append, List.set_cons_zero, List.set_cons_succ, List.eraseIdx, u0_, u1_, u2_, u3_, u4_, u5_, u6_, u7_, u8_, u9_, p0_, p1_, p2_, p3_, p4_, p5_, p6_, p7_, p8_, cnd_t, cnd_f, Asc_t, Asc_f])⟩
    · intro D t w hall hI
      obtain ⟨v11, O, ht, hs⟩ := hI
      have p0_ : D 0 = true := hall 0 (by decide)
      have p1_ : D 1 = true := hall 1 (by decide)
      have p2_ : D 2 = true := hall 2 (by decide)
      have p3_ : D 3 = true := hall 3 (by decide)
      have p4_ : D 4 = true := hall 4 (by decide)
      have p5_ : D 5 = true := hall 5 (by decide)
      have p6_ : D 6 = true := hall 6 (by decide)
      have p7_ : D 7 = true := hall 7 (by decide)
      have p8_ : D 8 = true := hall 8 (by decide)
      have p9_ : D 9 = true := hall 9 (by decide)
      simp only [p0_, p1_, p2_, p3_, p4_, p5_, p6_, p7_, p8_, p9_, cnd_t, cnd_f, Asc_t, Asc_f] at ht hs
      subst ht
      refine g_seq ?_
      refine g_region ?_
      show G _ _ _ (.inRegion _ [0, 1, 2, 3] :: _) _ _
      refine s_loadA rfl rfl (es := (([Value.int .i8 a1.f_Numbers, Value.int .i8 a1.f_Lies, v2] : List Value))) rfl rfl (fun _ => rfl) (n := 3) (fun _ => rfl) rfl (cells_all (hs.cells 2 rfl)) ?_
      show G _ _ _ _ [_, _, _, _, _, _, _, _, _, _, _, _, _, _, _, _, _, _, _, _, _, _, _, _, _, _, _, _, _, _, _, _, _, _, _, _, _, _, _, _, _, _, _, _, _, _] _
      obtain ⟨r16, Hr16, H⟩ := bind_get H
      refine s_call (args := [Value.agg (([Value.int .i8 a1.f_Numbers, Value.int .i8 a1.f_Lies, v2] : List Value)).toArray]) rfl rfl (x_call rfl (callFunc_enter Try.func9 rfl rfl) rfl) (laws_toGame.calls (a1 := (⟨a1.f_Numbers, a1.f_Lies, a1.f_Asked⟩ : S_laws_Game)) (hs.rd hr3) Hr16) ?_
      rintro _ w ⟨v17, rfl, hs2⟩
      have hs : St _ [_, _, _, _] _ := hs.call hs2
      show G _ _ _ _ [_, _, _, _, _, _, _, _, _, _, _, _, _, _, _, _, _, _, _, _, _, _, _, _, _, _, _, _, _, _, _, _, _, _, _, _, _, _, _, _, _, _, _, _, _, _] _
      refine s_alloc hs rfl rfl (z := (Value.agg #[Value.int .i8 0, Value.int .i8 0, Value.slice none 0 0])) (cs := (([Value.int .i8 0, Value.int .i8 0, Value.slice none 0 0] : List Value))) rfl (fun _ => rfl) rfl ?_
      intro b19 w hs
      show G _ _ _ _ [_, _, _, _, _, _, _, _, _, _, _, _, _, _, _, _, _, _, _, _, _, _, _, _, _, _, _, _, _, _, _, _, _, _, _, _, _, _, _, _, _, _, _, _, _, _] _
      refine s_storeAll (n := 3) hs rfl rfl rfl (vs := (([Value.int .i8 r16.f_Numbers, Value.int .i8 r16.f_Lies, v17] : List Value))) rfl rfl rfl (fun _ => rfl) rfl (by intro v hv; simp only [List.mem_append, List.mem_cons, List.not_mem_nil, or_false] at hv; repeat (first | (subst hv; first | rfl | exact slOne (hs.row 1 rfl)) | (rcases hv with hv | hv))) ?_
      intro w hs
      refine g_ops_nil ?_
      refine g_seq ?_
      obtain ⟨r21, Hr21, H⟩ := bind_get H
      obtain ⟨r22, Hr22, H⟩ := bind_get H
      refine g_name ?_
      intro T hT
      refine g_any (n := 9) rfl [0, 1, 2, 3, 4, 5, 6, 7, 8] [0, 1, 2, 3, 4, 5, 7, 6, 8] rfl rfl (Inv := fun D t w => ∃ O : Nat → Value, t = [Value.agg (([Value.int .i8 a1.f_Numbers, Value.int .i8 a1.f_Lies, v2] : List Value)).toArray, Value.agg ((encA (encI .i64)) a4).toArray, Value.pointer (some ⟨b5, 0, none⟩), Value.pointer (some ⟨b7, 0, none⟩), Value.bool false, Value.int .i64 r9, Value.int .u64 r14.1, Value.int .i64 r14.2, Value.pointer (some ⟨b19, 0, none⟩), cnd (D 7) (Value.int .u64 r22.1) (O 9), cnd (D 8) (Value.int .i64 r22.2) (O 10), Value.agg (([Value.int .i8 a1.f_Numbers, Value.int .i8 a1.f_Lies, v2] : List Value)).toArray, Value.int .i64 1048576, Value.int .i64 r9, Value.int .i64 r9, Value.bool false, Value.tuple #[Value.int .u64 r14.1, Value.int .i64 r14.2], Value.agg (([Value.int .i8 a1.f_Numbers, Value.int .i8 a1.f_Lies, v2] : List Value)).toArray, Value.agg (([Value.int .i8 r10.f_Numbers, Value.int .i8 r10.f_Lies, v11] : List Value)).toArray, Value.agg ((encA (encI .i64)) a4).toArray, Value.agg ((encA (encI .i64)) r13).toArray, Value.tuple #[Value.int .u64 r14.1, Value.int .i64 r14.2], Value.int .u64 r14.1, Value.int .i64 r14.2, Value.agg (([Value.int .i8 a1.f_Numbers, Value.int .i8 a1.f_Lies, v2] : List Value)).toArray, Value.agg (([Value.int .i8 r16.f_Numbers, Value.int .i8 r16.f_Lies, v17] : List Value)).toArray, cnd (D 4) (Value.tuple #[Value.int .u64 r22.1, Value.int .i64 r22.2]) (O 26), cnd (D 0) (Value.agg (([Value.int .i8 r16.f_Numbers, Value.int .i8 r16.f_Lies, v17] : List Value)).toArray) (O 27), cnd (D 1) (Value.agg ((encA (encI .i64)) a4).toArray) (O 28), cnd (D 2) (Value.agg ((encA (encI .i64)) r21).toArray) (O 29), cnd (D 3) (Value.tuple #[Value.int .u64 r22.1, Value.int .i64 r22.2]) (O 30), cnd (D 5) (Value.int .u64 r22.1) (O 31), cnd (D 6) (Value.int .i64 r22.2) (O 32), O 33, O 34, O 35, O 36, O 37, O 38, O 39, O 40, O 41, O 42, O 43, O 44, O 45] ∧ St w0 [Cells b19 (([Value.int .i8 r16.f_Numbers, Value.int .i8 r16.f_Lies, v17] : List Value)) 32, Row 98 k_S_impl_Ask v17 r16.f_Asked, Row 98 k_S_impl_Ask v11 r10.f_Asked, Cells b7 ((encA (encI .i64)) a4) 36, Cells b5 (([Value.int .i8 a1.f_Numbers, Value.int .i8 a1.f_Lies, v2] : List Value)) 25] w) ?_ ⟨⟨⟨⟨⟨⟨⟨⟨⟨trivial, ?_⟩, ?_⟩, ?_⟩, ?_⟩, ?_⟩, ?_⟩, ?_⟩, ?_⟩, ?_⟩ ?_
      · intro w hh hbw
        have hs := hs.samew hh hbw
        exact ⟨fun i => T.getD i undef, (by subst hT; rfl), hs⟩
      · intro D t w hD hp hcl hI rest hk
        obtain ⟨O, ht, hs⟩ := hI
        have q3_ : D 3 = false := not_yet (hcl.get 3 (by decide)) 0 0 rfl hD
        have q4_ : D 4 = false := not_yet (hcl.get 4 (by decide)) 0 3 rfl q3_
        have q5_ : D 5 = false := not_yet (hcl.get 5 (by decide)) 0 4 rfl q4_
        have q6_ : D 6 = false := not_yet (hcl.get 6 (by decide)) 0 4 rfl q4_
        have q7_ : D 7 = false := not_yet (hcl.get 7 (by decide)) 0 5 rfl q5_
        have q8_ : D 8 = false := not_yet (hcl.get 8 (by decide)) 0 6 rfl q6_
        have u0_ : upd D 0 0 = true := rfl
        have u1_ : upd D 0 1 = D 1 := rfl
        have u2_ : upd D 0 2 = D 2 := rfl
        have u3_ : upd D 0 3 = D 3 := rfl
        have u4_ : upd D 0 4 = D 4 := rfl
        have u5_ : upd D 0 5 = D 5 := rfl
        have u6_ : upd D 0 6 = D 6 := rfl
        have u7_ : upd D 0 7 = D 7 := rfl
        have u8_ : upd D 0 8 = D 8 := rfl
        simp only [hD, q3_, q4_, q5_, q6_, q7_, q8_, cnd_t, cnd_f, Asc_t, Asc_f] at ht hs
        subst ht
        refine s_loadA rfl rfl (es := (([Value.int .i8 r16.f_Numbers, Value.int .i8 r16.f_Lies, v17] : List Value))) rfl rfl (fun _ => rfl) (n := 3) (fun _ => rfl) rfl (cells_all (hs.cells 0 rfl)) ?_
        show G _ _ _ _ [_, _, _, _, _, _, _, _, _, _, _, _, _, _, _, _, _, _, _, _, _, _, _, _, _, _, _, _, _, _, _, _, _, _, _, _, _, _, _, _, _, _, _, _, _, _] _
        exact hk _ _ ⟨O, (by simp only [u0_, u1_, u2_, u3_, u4_, u5_, u6_, u7_, u8_, q3_, q4_, q5_, q6_, q7_, q8_, cnd_t, cnd_f, Asc_t, Asc_f]), hs.cast (by first | rfl | simp only [List.take, List.drop, List.cons_append, List.nil_append, List.set_cons_zero, List.set_cons_succ, List.eraseIdx, u0_, u1_, u2_, u3_, u4_, u5_, u6_, u7_, u8_, q3_, q4_, q5_, q6_, q7_, q8_, cnd_t, cnd_f, Asc_t, Asc_f])⟩
      · intro D t w hD hp hcl hI rest hk
        obtain ⟨O, ht, hs⟩ := hI
        have q2_ : D 2 = false := not_yet (hcl.get 2 (by decide)) 0 1 rfl hD
        have q3_ : D 3 = false := not_yet (hcl.get 3 (by decide)) 1 2 rfl q2_
        have q4_ : D 4 = false := not_yet (hcl.get 4 (by decide)) 0 3 rfl q3_
        have q5_ : D 5 = false := not_yet (hcl.get 5 (by decide)) 0 4 rfl q4_
        have q6_ : D 6 = false := not_yet (hcl.get 6 (by decide)) 0 4 rfl q4_
        have q7_ : D 7 = false := not_yet (hcl.get 7 (by decide)) 0 5 rfl q5_
        have q8_ : D 8 = false := not_yet (hcl.get 8 (by decide)) 0 6 rfl q6_
        have u0_ : upd D 1 0 = D 0 := rfl
        have u1_ : upd D 1 1 = true := rfl
        have u2_ : upd D 1 2 = D 2 := rfl
        have u3_ : upd D 1 3 = D 3 := rfl
        have u4_ : upd D 1 4 = D 4 := rfl
        have u5_ : upd D 1 5 = D 5 := rfl
        have u6_ : upd D 1 6 = D 6 := rfl
        have u7_ : upd D 1 7 = D 7 := rfl
        have u8_ : upd D 1 8 = D 8 := rfl
        simp only [hD, q2_, q3_, q4_, q5_, q6_, q7_, q8_, cnd_t, cnd_f, Asc_t, Asc_f] at ht hs
        subst ht
        refine s_loadA rfl rfl (es := ((encA (encI .i64)) a4)) rfl rfl (fun _ => rfl) (n := 4) (fun _ => rfl) ((fkA (n := 4) (he := (fkI .i64).len) (h1 := (fkI .i64).one)).len _) (cells_all (hs.cells 3 rfl)) ?_
        show G _ _ _ _ [_, _, _, _, _, _, _, _, _, _, _, _, _, _, _, _, _, _, _, _, _, _, _, _, _, _, _, _, _, _, _, _, _, _, _, _, _, _, _, _, _, _, _, _, _, _] _
        exact hk _ _ ⟨O, (by simp only [u0_, u1_, u2_, u3_, u4_, u5_, u6_, u7_, u8_, q2_, q3_, q4_, q5_, q6_, q7_, q8_, cnd_t, cnd_f, Asc_t, Asc_f]), hs.cast (by first | rfl | simp only [List.take, List.drop, List.cons_append, List.nil_append, List.set_cons_zero, List.set_cons_succ, List.eraseIdx, u0_, u1_, u2_, u3_, u4_, u5_, u6_, u7_, u8_, q2_, q3_, q4_, q5_, q6_, q7_, q8_, cnd_t, cnd_f, Asc_t, Asc_f])⟩
      · intro D t w hD hp hcl hI rest hk
        obtain ⟨O, ht, hs⟩ := hI
        obtain ⟨p1_, _⟩ := hp
        have q3_ : D 3 = false := not_yet (hcl.get 3 (by decide)) 1 2 rfl hD
        have q4_ : D 4 = false := not_yet (hcl.get 4 (by decide)) 0 3 rfl q3_
        have q5_ : D 5 = false := not_yet (hcl.get 5 (by decide)) 0 4 rfl q4_
        have q6_ : D 6 = false := not_yet (hcl.get 6 (by decide)) 0 4 rfl q4_
        have q7_ : D 7 = false := not_yet (hcl.get 7 (by decide)) 0 5 rfl q5_
        have q8_ : D 8 = false := not_yet (hcl.get 8 (by decide)) 0 6 rfl q6_
        have u0_ : upd D 2 0 = D 0 := rfl
        have u1_ : upd D 2 1 = D 1 := rfl
        have u2_ : upd D 2 2 = true := rfl
        have u3_ : upd D 2 3 = D 3 := rfl
        have u4_ : upd D 2 4 = D 4 := rfl
        have u5_ : upd D 2 5 = D 5 := rfl
        have u6_ : upd D 2 6 = D 6 := rfl
        have u7_ : upd D 2 7 = D 7 := rfl
        have u8_ : upd D 2 8 = D 8 := rfl
        simp only [hD, p1_, q3_, q4_, q5_, q6_, q7_, q8_, cnd_t, cnd_f, Asc_t, Asc_f] at ht hs
        subst ht
        refine s_call (args := [Value.agg ((encA (encI .i64)) a4).toArray]) rfl rfl (x_call rfl (callFunc_enter Try.func13 rfl rfl) rfl) (laws_toState.calls (a1 := a4) Hr21) ?_
        rintro _ w ⟨rfl, hs2⟩
        have hs : St _ [_, _, _, _, _] _ := hs.call hs2
        show G _ _ _ _ [_, _, _, _, _, _, _, _, _, _, _, _, _, _, _, _, _, _, _, _, _, _, _, _, _, _, _, _, _, _, _, _, _, _, _, _, _, _, _, _, _, _, _, _, _, _] _
        exact hk _ _ ⟨O, (by simp only [u0_, u1_, u2_, u3_, u4_, u5_, u6_, u7_, u8_, p1_, q3_, q4_, q5_, q6_, q7_, q8_, cnd_t, cnd_f, Asc_t, Asc_f]), hs.cast (by first | rfl | simp only [List.take, List.drop, List.cons_append, List.nil_append, List.set_cons_zero, List.set_cons_succ, List.eraseIdx, u0_, u1_, u2_, u3_, u4_, u5_, u6_, u7_, u8_, p1_, q3_, q4_, q5_, q6_, q7_, q8_, cnd_t, cnd_f, Asc_t, Asc_f])⟩
      · intro D t w hD hp hcl hI rest hk
        obtain ⟨O, ht, hs⟩ := hI
        obtain ⟨p0_, p2_, _, _⟩ := hp
        obtain ⟨p1_, _⟩ := (hcl.get 2 (by decide)) p2_
        have q4_ : D 4 = false := not_yet (hcl.get 4 (by decide)) 0 3 rfl hD
        have q5_ : D 5 = false := not_yet (hcl.get 5 (by decide)) 0 4 rfl q4_
        have q6_ : D 6 = false := not_yet (hcl.get 6 (by decide)) 0 4 rfl q4_
        have q7_ : D 7 = false := not_yet (hcl.get 7 (by decide)) 0 5 rfl q5_
        have q8_ : D 8 = false := not_yet (hcl.get 8 (by decide)) 0 6 rfl q6_
        have u0_ : upd D 3 0 = D 0 := rfl
        have u1_ : upd D 3 1 = D 1 := rfl
        have u2_ : upd D 3 2 = D 2 := rfl
        have u3_ : upd D 3 3 = true := rfl
        have u4_ : upd D 3 4 = D 4 := rfl
        have u5_ : upd D 3 5 = D 5 := rfl
        have u6_ : upd D 3 6 = D 6 := rfl
        have u7_ : upd D 3 7 = D 7 := rfl
        have u8_ : upd D 3 8 = D 8 := rfl
        simp only [hD, p0_, p1_, p2_, q4_, q5_, q6_, q7_, q8_, cnd_t, cnd_f, Asc_t, Asc_f] at ht hs
        subst ht
        refine s_call (args := [Value.agg (([Value.int .i8 r16.f_Numbers, Value.int .i8 r16.f_Lies, v17] : List Value)).toArray, Value.agg ((encA (encI .i64)) r21).toArray]) rfl rfl (x_call rfl (callFunc_enter Try.func14 rfl rfl) rfl) (impl_SetFor.calls (a1 := (⟨r16.f_Numbers, r16.f_Lies, r16.f_Asked⟩ : S_impl_Game)) (a4 := r21) (hs.row 1 rfl) Hr22) ?_
        rintro _ w ⟨rfl, hs2⟩
        have hs : St _ [_, _, _, _, _] _ := hs.call hs2
        show G _ _ _ _ [_, _, _, _, _, _, _, _, _, _, _, _, _, _, _, _, _, _, _, _, _, _, _, _, _, _, _, _, _, _, _, _, _, _, _, _, _, _, _, _, _, _, _, _, _, _] _
        exact hk _ _ ⟨O, (by simp only [u0_, u1_, u2_, u3_, u4_, u5_, u6_, u7_, u8_, p0_, p1_, p2_, q4_, q5_, q6_, q7_, q8_, cnd_t, cnd_f, Asc_t, Asc_f]), hs.cast (by first | rfl | simp only [List.take, List.drop, List.cons_append, List.nil_append, List.set_cons_zero, List.set_cons_succ, List.eraseIdx, u0_, u1_, u2_, u3_, u4_, u5_, u6_, u7_, u8_, p0_, p1_, p2_, q4_, q5_, q6_, q7_, q8_, cnd_t, cnd_f, Asc_t, Asc_f])⟩
      · intro D t w hD hp hcl hI rest hk
        obtain ⟨O, ht, hs⟩ := hI
        obtain ⟨p3_, _⟩ := hp
        obtain ⟨p0_, p2_, _, _⟩ := (hcl.get 3 (by decide)) p3_
        obtain ⟨p1_, _⟩ := (hcl.get 2 (by decide)) p2_
        have q5_ : D 5 = false := not_yet (hcl.get 5 (by decide)) 0 4 rfl hD
        have q6_ : D 6 = false := not_yet (hcl.get 6 (by decide)) 0 4 rfl hD
        have q7_ : D 7 = false := not_yet (hcl.get 7 (by decide)) 0 5 rfl q5_
        have q8_ : D 8 = false := not_yet (hcl.get 8 (by decide)) 0 6 rfl q6_
        have u0_ : upd D 4 0 = D 0 := rfl
        have u1_ : upd D 4 1 = D 1 := rfl
        have u2_ : upd D 4 2 = D 2 := rfl
        have u3_ : upd D 4 3 = D 3 := rfl
        have u4_ : upd D 4 4 = true := rfl
        have u5_ : upd D 4 5 = D 5 := rfl
        have u6_ : upd D 4 6 = D 6 := rfl
        have u7_ : upd D 4 7 = D 7 := rfl
        have u8_ : upd D 4 8 = D 8 := rfl
        simp only [hD, p0_, p1_, p2_, p3_, q5_, q6_, q7_, q8_, cnd_t, cnd_f, Asc_t, Asc_f] at ht hs
        subst ht
        refine g_op (v := Value.tuple #[Value.int .u64 r22.1, Value.int .i64 r22.2]) rfl rfl rfl ?_
        show G _ _ _ _ [_, _, _, _, _, _, _, _, _, _, _, _, _, _, _, _, _, _, _, _, _, _, _, _, _, _, _, _, _, _, _, _, _, _, _, _, _, _, _, _, _, _, _, _, _, _] _
        exact hk _ _ ⟨O, (by simp only [u0_, u1_, u2_, u3_, u4_, u5_, u6_, u7_, u8_, p0_, p1_, p2_, p3_, q5_, q6_, q7_, q8_, cnd_t, cnd_f, Asc_t, Asc_f]), hs.cast (by first | rfl | simp only [List.take, List.drop, List.cons_append, List.nil_append, List.set_cons_zero, List.set_cons_succ, List.eraseIdx, u0_, u1_, u2_, u3_, u4_, u5_, u6_, u7_, u8_, p0_, p1_, p2_, p3_, q5_, q6_, q7_, q8_, cnd_t, cnd_f, Asc_t, Asc_f])⟩
      · intro D t w hD hp hcl hI rest hk
        obtain ⟨O, ht, hs⟩ := hI
        obtain ⟨p4_, _⟩ := hp
        obtain ⟨p3_, _⟩ := (hcl.get 4 (by decide)) p4_
        obtain ⟨p0_, p2_, _, _⟩ := (hcl.get 3 (by decide)) p3_
        obtain ⟨p1_, _⟩ := (hcl.get 2 (by decide)) p2_
        have q7_ : D 7 = false := not_yet (hcl.get 7 (by decide)) 0 5 rfl hD
        have q8_ : D 8 = false := not_yet (hcl.get 8 (by decide)) 1 7 rfl q7_
        have u0_ : upd D 5 0 = D 0 := rfl
        have u1_ : upd D 5 1 = D 1 := rfl
        have u2_ : upd D 5 2 = D 2 := rfl
        have u3_ : upd D 5 3 = D 3 := rfl
        have u4_ : upd D 5 4 = D 4 := rfl
        have u5_ : upd D 5 5 = true := rfl
        have u6_ : upd D 5 6 = D 6 := rfl
        have u7_ : upd D 5 7 = D 7 := rfl
        have u8_ : upd D 5 8 = D 8 := rfl
        simp only [hD, p0_, p1_, p2_, p3_, p4_, q7_, q8_, cnd_t, cnd_f, Asc_t, Asc_f] at ht hs
        subst ht
        refine g_op (v := Value.int .u64 r22.1) rfl rfl rfl ?_
        show G _ _ _ _ [_, _, _, _, _, _, _, _, _, _, _, _, _, _, _, _, _, _, _, _, _, _, _, _, _, _, _, _, _, _, _, _, _, _, _, _, _, _, _, _, _, _, _, _, _, _] _
        exact hk _ _ ⟨O, (by simp only [u0_, u1_, u2_, u3_, u4_, u5_, u6_, u7_, u8_, p0_, p1_, p2_, p3_, p4_, q7_, q8_, cnd_t, cnd_f, Asc_t, Asc_f]), hs.cast (by first | rfl | simp only [List.take, List.drop, List.cons_append, List.nil_append, List.set_cons_zero, List.set_cons_succ, List.eraseIdx, u0_, u1_, u2_, u3_, u4_, u5_, u6_, u7_, u8_, p0_, p1_, p2_, p3_, p4_, q7_, q8_, cnd_t, cnd_f, Asc_t, Asc_f])⟩
      · intro D t w hD hp hcl hI rest hk
        obtain ⟨O, ht, hs⟩ := hI
        obtain ⟨p4_, _⟩ := hp
        obtain ⟨p3_, _⟩ := (hcl.get 4 (by decide)) p4_
        obtain ⟨p0_, p2_, _, _⟩ := (hcl.get 3 (by decide)) p3_
        obtain ⟨p1_, _⟩ := (hcl.get 2 (by decide)) p2_
        have q8_ : D 8 = false := not_yet (hcl.get 8 (by decide)) 0 6 rfl hD
        have u0_ : upd D 6 0 = D 0 := rfl
        have u1_ : upd D 6 1 = D 1 := rfl
        have u2_ : upd D 6 2 = D 2 := rfl
        have u3_ : upd D 6 3 = D 3 := rfl
        have u4_ : upd D 6 4 = D 4 := rfl
        have u5_ : upd D 6 5 = D 5 := rfl
        have u6_ : upd D 6 6 = true := rfl
        have u7_ : upd D 6 7 = D 7 := rfl
        have u8_ : upd D 6 8 = D 8 := rfl
        simp only [hD, p0_, p1_, p2_, p3_, p4_, q8_, cnd_t, cnd_f, Asc_t, Asc_f] at ht hs
        subst ht
        refine g_op (v := Value.int .i64 r22.2) rfl rfl rfl ?_
        show G _ _ _ _ [_, _, _, _, _, _, _, _, _, _, _, _, _, _, _, _, _, _, _, _, _, _, _, _, _, _, _, _, _, _, _, _, _, _, _, _, _, _, _, _, _, _, _, _, _, _] _
        exact hk _ _ ⟨O, (by simp only [u0_, u1_, u2_, u3_, u4_, u5_, u6_, u7_, u8_, p0_, p1_, p2_, p3_, p4_, q8_, cnd_t, cnd_f, Asc_t, Asc_f]), hs.cast (by first | rfl | simp only [List.take, List.drop, List.cons_append, List.nil_append, List.set_cons_zero, List.set_cons_succ, List.eraseIdx, u0_, u1_, u2_, u3_, u4_, u5_, u6_, u7_, u8_, p0_, p1_, p2_, p3_, p4_, q8_, cnd_t, cnd_f, Asc_t, Asc_f])⟩
      · intro D t w hD hp hcl hI rest hk
        obtain ⟨O, ht, hs⟩ := hI
        obtain ⟨p5_, p3_, p0_, p1_, p2_, _, p4_, _, _⟩ := hp
        have q8_ : D 8 = false := not_yet (hcl.get 8 (by decide)) 1 7 rfl hD
        have u0_ : upd D 7 0 = D 0 := rfl
        have u1_ : upd D 7 1 = D 1 := rfl
        have u2_ : upd D 7 2 = D 2 := rfl
        have u3_ : upd D 7 3 = D 3 := rfl
        have u4_ : upd D 7 4 = D 4 := rfl
        have u5_ : upd D 7 5 = D 5 := rfl
        have u6_ : upd D 7 6 = D 6 := rfl
        have u7_ : upd D 7 7 = true := rfl
        have u8_ : upd D 7 8 = D 8 := rfl
        simp only [hD, p0_, p1_, p2_, p3_, p4_, p5_, q8_, cnd_t, cnd_f, Asc_t, Asc_f] at ht hs
        subst ht
        refine g_op (v := Value.int .u64 r22.1) rfl rfl rfl ?_
        show G _ _ _ _ [_, _, _, _, _, _, _, _, _, _, _, _, _, _, _, _, _, _, _, _, _, _, _, _, _, _, _, _, _, _, _, _, _, _, _, _, _, _, _, _, _, _, _, _, _, _] _
        exact hk _ _ ⟨O, (by simp only [u0_, u1_, u2_, u3_, u4_, u5_, u6_, u7_, u8_, p0_, p1_, p2_, p3_, p4_, p5_, q8_, cnd_t, cnd_f, Asc_t, Asc_f]), hs.cast (by first | rfl | simp only [List.take, List.drop, List.cons_append, List.nil_append, List.set_cons_zero, List.set_cons_succ, List.eraseIdx, u0_, u1_, u2_, u3_, u4_, u5_, u6_, u7_, u8_, p0_, p1_, p2_, p3_, p4_, p5_, q8_, cnd_t, cnd_f, Asc_t, Asc_f])⟩
      · intro D t w hD hp hcl hI rest hk
        obtain ⟨O, ht, hs⟩ := hI
        obtain ⟨p6_, p7_, p0_, p1_, p2_, p3_, p4_, p5_, _, _, _⟩ := hp
        have u0_ : upd D 8 0 = D 0 := rfl
        have u1_ : upd D 8 1 = D 1 := rfl
        have u2_ : upd D 8 2 = D 2 := rfl
        have u3_ : upd D 8 3 = D 3 := rfl
        have u4_ : upd D 8 4 = D 4 := rfl
        have u5_ : upd D 8 5 = D 5 := rfl
        have u6_ : upd D 8 6 = D 6 := rfl
        have u7_ : upd D 8 7 = D 7 := rfl
        have u8_ : upd D 8 8 = true := rfl
        simp only [hD, p0_, p1_, p2_, p3_, p4_, p5_, p6_, p7_, cnd_t, cnd_f, Asc_t, Asc_f] at ht hs
        subst ht
        refine g_op (v := Value.int .i64 r22.2) rfl rfl rfl ?_
        show G _ _ _ _ [_, _, _, _, _, _, _, _, _, _, _, _, _, _, _, _, _, _, _, _, _, _, _, _, _, _, _, _, _, _, _, _, _, _, _, _, _, _, _, _, _, _, _, _, _, _] _
        exact hk _ _ ⟨O, (by simp only [u0_, u1_, u2_, u3_, u4_, u5_, u6_, u7_, u8_, p0_, p1_, p2_, p3_, p4_, p5_, p6_, p7_, cnd_t, cnd_f, Asc_t, Asc_f]), hs.cast (by first | rfl | simp only [List.take, List.drop, List.cons_append, List.nil_append, List.set_cons_zero, List.set_cons_succ, List.eraseIdx, u0_, u1_, u2_, u3_, u4_, u5_, u6_, u7_, u8_, p0_, p1_, p2_, p3_, p4_, p5_, p6_, p7_, cnd_t, cnd_f, Asc_t, Asc_f])⟩
      · intro D t w hall hI
        obtain ⟨O, ht, hs⟩ := hI
        have p0_ : D 0 = true := hall 0 (by decide)
        have p1_ : D 1 = true := hall 1 (by decide)
        have p2_ : D 2 = true := hall 2 (by decide)
        have p3_ : D 3 = true := hall 3 (by decide)
        have p4_ : D 4 = true := hall 4 (by decide)
        have p5_ : D 5 = true := hall 5 (by decide)
        have p6_ : D 6 = true := hall 6 (by decide)
        have p7_ : D 7 = true := hall 7 (by decide)
        have p8_ : D 8 = true := hall 8 (by decide)
        simp only [p0_, p1_, p2_, p3_, p4_, p5_, p6_, p7_, p8_, cnd_t, cnd_f, Asc_t, Asc_f] at ht hs
        subst ht
        refine g_seq ?_
        refine g_seq ?_
        refine g_region ?_
        show G _ _ _ (.inRegion _ [0, 1, 2, 3, 4, 5, 6, 7] :: _) _ _
        refine g_op (v := Value.int .u64 r22.1) rfl rfl rfl ?_
        show G _ _ _ _ [_, _, _, _, _, _, _, _, _, _, _, _, _, _, _, _, _, _, _, _, _, _, _, _, _, _, _, _, _, _, _, _, _, _, _, _, _, _, _, _, _, _, _, _, _, _] _
        refine g_op (v := Value.int .u64 r14.1) rfl rfl rfl ?_
        show G _ _ _ _ [_, _, _, _, _, _, _, _, _, _, _, _, _, _, _, _, _, _, _, _, _, _, _, _, _, _, _, _, _, _, _, _, _, _, _, _, _, _, _, _, _, _, _, _, _, _] _
        refine g_op_b (B := r22.1 != r14.1) rfl rfl rfl ?_ ?_
        · intro hb
          rw [if_neg (b_bne_t hb)] at H
          show G _ _ _ _ [_, _, _, _, _, _, _, _, _, _, _, _, _, _, _, _, _, _, _, _, _, _, _, _, _, _, _, _, _, _, _, _, _, _, _, _, _, _, _, _, _, _, _, _, _, _] _
          refine g_op (v := Value.bool true) rfl rfl rfl ?_
          show G _ _ _ _ [_, _, _, _, _, _, _, _, _, _, _, _, _, _, _, _, _, _, _, _, _, _, _, _, _, _, _, _, _, _, _, _, _, _, _, _, _, _, _, _, _, _, _, _, _, _] _
          refine g_op_not rfl rfl ?_
          show G _ _ _ _ [_, _, _, _, _, _, _, _, _, _, _, _, _, _, _, _, _, _, _, _, _, _, _, _, _, _, _, _, _, _, _, _, _, _, _, _, _, _, _, _, _, _, _, _, _, _] _
          refine g_op_not rfl rfl ?_
          show G _ _ _ _ [_, _, _, _, _, _, _, _, _, _, _, _, _, _, _, _, _, _, _, _, _, _, _, _, _, _, _, _, _, _, _, _, _, _, _, _, _, _, _, _, _, _, _, _, _, _] _
          refine g_op_not rfl rfl ?_
          show G _ _ _ _ [_, _, _, _, _, _, _, _, _, _, _, _, _, _, _, _, _, _, _, _, _, _, _, _, _, _, _, _, _, _, _, _, _, _, _, _, _, _, _, _, _, _, _, _, _, _] _
          refine g_op (v := Value.bool true) rfl rfl rfl ?_
          show G _ _ _ _ [_, _, _, _, _, _, _, _, _, _, _, _, _, _, _, _, _, _, _, _, _, _, _, _, _, _, _, _, _, _, _, _, _, _, _, _, _, _, _, _, _, _, _, _, _, _] _
          refine g_ops_nil ?_
          refine g_cond_true rfl ?_
          refine g_seq ?_
          refine g_region ?_
          show G _ _ _ (.inRegion _ [0] :: _) _ _
          refine g_op (v := Value.bool false) rfl rfl rfl ?_
          show G _ _ _ _ [_, _, _, _, _, _, _, _, _, _, _, _, _, _, _, _, _, _, _, _, _, _, _, _, _, _, _, _, _, _, _, _, _, _, _, _, _, _, _, _, _, _, _, _, _, _] _
          refine g_ops_nil ?_
          obtain rfl := Option.some.inj H
          refine g_ret Try.func4 (v := Value.bool false) (res1 rfl rfl) ?_
          have hs : St _ [] _ := St.take (Γ' := [_, _, _, _, _]) hs
          exact ⟨_, rfl, rfl, hs⟩
        · intro hb
          rw [if_pos (b_bne_f hb)] at H
          show G _ _ _ _ [_, _, _, _, _, _, _, _, _, _, _, _, _, _, _, _, _, _, _, _, _, _, _, _, _, _, _, _, _, _, _, _, _, _, _, _, _, _, _, _, _, _, _, _, _, _] _
          refine g_op (v := Value.bool false) rfl rfl rfl ?_
          show G _ _ _ _ [_, _, _, _, _, _, _, _, _, _, _, _, _, _, _, _, _, _, _, _, _, _, _, _, _, _, _, _, _, _, _, _, _, _, _, _, _, _, _, _, _, _, _, _, _, _] _
          refine g_op (v := Value.int .i64 r22.2) rfl rfl rfl ?_
          show G _ _ _ _ [_, _, _, _, _, _, _, _, _, _, _, _, _, _, _, _, _, _, _, _, _, _, _, _, _, _, _, _, _, _, _, _, _, _, _, _, _, _, _, _, _, _, _, _, _, _] _
          refine g_op (v := Value.int .i64 r14.2) rfl rfl rfl ?_
          show G _ _ _ _ [_, _, _, _, _, _, _, _, _, _, _, _, _, _, _, _, _, _, _, _, _, _, _, _, _, _, _, _, _, _, _, _, _, _, _, _, _, _, _, _, _, _, _, _, _, _] _
          refine g_op_b (B := r22.2 != r14.2) rfl rfl rfl ?_ ?_
          · intro hb
            rw [if_neg (b_bne_t hb)] at H
            show G _ _ _ _ [_, _, _, _, _, _, _, _, _, _, _, _, _, _, _, _, _, _, _, _, _, _, _, _, _, _, _, _, _, _, _, _, _, _, _, _, _, _, _, _, _, _, _, _, _, _] _
            refine g_op (v := Value.bool true) rfl rfl rfl ?_
            show G _ _ _ _ [_, _, _, _, _, _, _, _, _, _, _, _, _, _, _, _, _, _, _, _, _, _, _, _, _, _, _, _, _, _, _, _, _, _, _, _, _, _, _, _, _, _, _, _, _, _] _
            refine g_ops_nil ?_
            refine g_cond_true rfl ?_
            refine g_seq ?_
            refine g_region ?_
            show G _ _ _ (.inRegion _ [0] :: _) _ _
            refine g_op (v := Value.bool false) rfl rfl rfl ?_
            show G _ _ _ _ [_, _, _, _, _, _, _, _, _, _, _, _, _, _, _, _, _, _, _, _, _, _, _, _, _, _, _, _, _, _, _, _, _, _, _, _, _, _, _, _, _, _, _, _, _, _] _
            refine g_ops_nil ?_
            obtain rfl := Option.some.inj H
            refine g_ret Try.func4 (v := Value.bool false) (res1 rfl rfl) ?_
            have hs : St _ [] _ := St.take (Γ' := [_, _, _, _, _]) hs
            exact ⟨_, rfl, rfl, hs⟩
          · intro hb
            rw [if_pos (b_bne_f hb)] at H
            show G _ _ _ _ [_, _, _, _, _, _, _, _, _, _, _, _, _, _, _, _, _, _, _, _, _, _, _, _, _, _, _, _, _, _, _, _, _, _, _, _, _, _, _, _, _, _, _, _, _, _] _
            refine g_op (v := Value.bool false) rfl rfl rfl ?_
            show G _ _ _ _ [_, _, _, _, _, _, _, _, _, _, _, _, _, _, _, _, _, _, _, _, _, _, _, _, _, _, _, _, _, _, _, _, _, _, _, _, _, _, _, _, _, _, _, _, _, _] _
            refine g_ops_nil ?_
            refine g_cond_false rfl ?_
            refine g_skip ?_
            refine g_seq ?_
            refine g_seq ?_
            refine g_lay (n := 5) rfl [0, 1, 2, 3, 4] [0, 1, 2, 3, 4] rfl rfl ?_
            intro rest w hh hbw hO
            have hs := hs.samew hh hbw
            show G _ _ _ _ [_, _, _, _, _, _, _, _, _, _, _, _, _, _, _, _, _, _, _, _, _, _, _, _, _, _, _, _, _, _, _, _, _, _, _, _, _, _, _, _, _, _, _, _, _, _] _
            obtain ⟨r23, Hr23, H⟩ := bind_get H
            refine g_name ?_
            intro T hT
            refine g_layer (m0 := 0) hO rfl 7 [0, 1, 2] [0, 0, 2, 7, 15] (by decide +kernel) (fun D t w => ∃ v24 : Value, ∃ O : Nat → Value, t = [Value.agg (([Value.int .i8 a1.f_Numbers, Value.int .i8 a1.f_Lies, v2] : List Value)).toArray, Value.agg ((encA (encI .i64)) a4).toArray, Value.pointer (some ⟨b5, 0, none⟩), Value.pointer (some ⟨b7, 0, none⟩), Value.bool false, Value.int .i64 r9, Value.int .u64 r14.1, Value.int .i64 r14.2, Value.pointer (some ⟨b19, 0, none⟩), Value.int .u64 r22.1, Value.int .i64 r22.2, Value.agg (([Value.int .i8 a1.f_Numbers, Value.int .i8 a1.f_Lies, v2] : List Value)).toArray, Value.int .i64 1048576, Value.int .i64 r9, Value.int .i64 r9, Value.bool false, Value.tuple #[Value.int .u64 r14.1, Value.int .i64 r14.2], Value.agg (([Value.int .i8 a1.f_Numbers, Value.int .i8 a1.f_Lies, v2] : List Value)).toArray, Value.agg (([Value.int .i8 r10.f_Numbers, Value.int .i8 r10.f_Lies, v11] : List Value)).toArray, Value.agg ((encA (encI .i64)) a4).toArray, Value.agg ((encA (encI .i64)) r13).toArray, Value.tuple #[Value.int .u64 r14.1, Value.int .i64 r14.2], Value.int .u64 r14.1, Value.int .i64 r14.2, Value.agg (([Value.int .i8 a1.f_Numbers, Value.int .i8 a1.f_Lies, v2] : List Value)).toArray, Value.agg (([Value.int .i8 r16.f_Numbers, Value.int .i8 r16.f_Lies, v17] : List Value)).toArray, Value.tuple #[Value.int .u64 r22.1, Value.int .i64 r22.2], Value.agg (([Value.int .i8 r16.f_Numbers, Value.int .i8 r16.f_Lies, v17] : List Value)).toArray, Value.agg ((encA (encI .i64)) a4).toArray, Value.agg ((encA (encI .i64)) r21).toArray, Value.tuple #[Value.int .u64 r22.1, Value.int .i64 r22.2], Value.int .u64 r22.1, Value.int .i64 r22.2, Value.int .u64 r22.1, Value.int .u64 r14.1, Value.bool false, Value.bool false, Value.int .i64 r22.2, Value.int .i64 r14.2, Value.bool false, Value.bool false, cnd (D 0) (Value.agg (([Value.int .i8 r16.f_Numbers, Value.int .i8 r16.f_Lies, v17] : List Value)).toArray) (O 41), cnd (D 1) (Value.agg (([Value.int .i8 a1.f_Numbers, Value.int .i8 a1.f_Lies, v2] : List Value)).toArray) (O 42), cnd (D 2) (Value.agg (([Value.int .i8 r23.f_Numbers, Value.int .i8 r23.f_Lies, v24] : List Value)).toArray) (O 43), O 44, O 45] ∧ St w0 [Asc (D 2) (Row 98 k_S_impl_Ask v24 r23.f_Asked), Cells b19 (([Value.int .i8 r16.f_Numbers, Value.int .i8 r16.f_Lies, v17] : List Value)) 32, Row 98 k_S_impl_Ask v17 r16.f_Asked, Row 98 k_S_impl_Ask v11 r10.f_Asked, Cells b7 ((encA (encI .i64)) a4) 36, Cells b5 (([Value.int .i8 a1.f_Numbers, Value.int .i8 a1.f_Lies, v2] : List Value)) 25] w) ?_ ⟨?_, ⟨?_, ⟨?_, trivial⟩⟩⟩ ?_
            · have hs := hs.emp
              exact ⟨undef, fun i => T.getD i undef, (by subst hT; rfl), hs⟩
            · intro D t w hD hp hcl hI rest hk
              obtain ⟨v24, O, ht, hs⟩ := hI
              have hp : AllDone D [] := hp
              have u0_ : upd D 0 0 = true := rfl
              have u1_ : upd D 0 1 = D 1 := rfl
              have u2_ : upd D 0 2 = D 2 := rfl
              simp only [hD, cnd_t, cnd_f, Asc_t, Asc_f] at ht hs
              subst ht
              refine s_loadA rfl rfl (es := (([Value.int .i8 r16.f_Numbers, Value.int .i8 r16.f_Lies, v17] : List Value))) rfl rfl (fun _ => rfl) (n := 3) (fun _ => rfl) rfl (cells_all (hs.cells 1 rfl)) ?_
              show G _ _ _ _ [_, _, _, _, _, _, _, _, _, _, _, _, _, _, _, _, _, _, _, _, _, _, _, _, _, _, _, _, _, _, _, _, _, _, _, _, _, _, _, _, _, _, _, _, _, _] _
              exact hk _ _ ⟨v24, O, (by simp only [u0_, u1_, u2_, cnd_t, cnd_f, Asc_t, Asc_f]), hs.cast (by first | rfl | simp only [List.take, List.drop, List.cons_append, List.nil_append, List.set_cons_zero, List.set_cons_succ, List.eraseIdx, u0_, u1_, u2_, cnd_t, cnd_f, Asc_t, Asc_f])⟩
            · intro D t w hD hp hcl hI rest hk
              obtain ⟨v24, O, ht, hs⟩ := hI
              have hp : AllDone D [] := hp
              have q2_ : D 2 = false := not_yet (show D 2 = true → AllDone D [1] from hcl 2 (by decide)) 0 1 rfl hD
              have u0_ : upd D 1 0 = D 0 := rfl
              have u1_ : upd D 1 1 = true := rfl
              have u2_ : upd D 1 2 = D 2 := rfl
              simp only [hD, q2_, cnd_t, cnd_f, Asc_t, Asc_f] at ht hs
              subst ht
              refine s_loadA rfl rfl (es := (([Value.int .i8 a1.f_Numbers, Value.int .i8 a1.f_Lies, v2] : List Value))) rfl rfl (fun _ => rfl) (n := 3) (fun _ => rfl) rfl (cells_all (hs.cells 5 rfl)) ?_
              show G _ _ _ _ [_, _, _, _, _, _, _, _, _, _, _, _, _, _, _, _, _, _, _, _, _, _, _, _, _, _, _, _, _, _, _, _, _, _, _, _, _, _, _, _, _, _, _, _, _, _] _
              exact hk _ _ ⟨v24, O, (by simp only [u0_, u1_, u2_, q2_, cnd_t, cnd_f, Asc_t, Asc_f]), hs.cast (by first | rfl | simp only [List.take, List.drop, List.cons_append, List.nil_append, List.set_cons_zero, List.set_cons_succ, List.eraseIdx, u0_, u1_, u2_, q2_, cnd_t, cnd_f, Asc_t, Asc_f])⟩
            · intro D t w hD hp hcl hI rest hk
              obtain ⟨v24, O, ht, hs⟩ := hI
              have hp : AllDone D [1] := hp
              obtain ⟨p1_, _⟩ := hp
              have u0_ : upd D 2 0 = D 0 := rfl
              have u1_ : upd D 2 1 = D 1 := rfl
              have u2_ : upd D 2 2 = true := rfl
              simp only [hD, p1_, cnd_t, cnd_f, Asc_t, Asc_f] at ht hs
              subst ht
              refine s_call (args := [Value.agg (([Value.int .i8 a1.f_Numbers, Value.int .i8 a1.f_Lies, v2] : List Value)).toArray]) rfl rfl (x_call rfl (callFunc_enter Try.func9 rfl rfl) rfl) (laws_toGame.calls (a1 := (⟨a1.f_Numbers, a1.f_Lies, a1.f_Asked⟩ : S_laws_Game)) (hs.rd hr3) Hr23) ?_
              rintro _ w ⟨v24, rfl, hs2⟩
              have hs : St _ [_, _, _, _, _, _, _] _ := hs.call hs2
              show G _ _ _ _ [_, _, _, _, _, _, _, _, _, _, _, _, _, _, _, _, _, _, _, _, _, _, _, _, _, _, _, _, _, _, _, _, _, _, _, _, _, _, _, _, _, _, _, _, _, _] _
              have hs := hs.fill 0 rfl
              exact hk _ _ ⟨v24, O, (by simp only [u0_, u1_, u2_, p1_, cnd_t, cnd_f, Asc_t, Asc_f]), hs.cast (by first | rfl | simp only [List.take, List.drop, List.cons_append, List.nil_append, List.set_cons_zero, List.set_cons_succ, List.eraseIdx, u0_, u1_, u2_, p1_, cnd_t, cnd_f, Asc_t, Asc_f])⟩
            · intro D t w rest hall hO1_ hI
              obtain ⟨v24, O, ht, hs⟩ := hI
              have p0_ : D 0 = true := hall 0 (by decide) rfl
              have p1_ : D 1 = true := hall 1 (by decide) rfl
              have p2_ : D 2 = true := hall 2 (by decide) rfl
              simp only [p0_, p1_, p2_, cnd_t, cnd_f, Asc_t, Asc_f] at ht hs
              subst ht
              obtain ⟨rest, rfl, hO2_⟩ := ord_one (m := 7) hO1_ rfl 3 (m' := 15) (by decide +kernel) rfl
              clear hO1_
              obtain ⟨r27, Hr27, H⟩ := bind_get H
              refine s_call (args := [Value.agg (([Value.int .i8 r16.f_Numbers, Value.int .i8 r16.f_Lies, v17] : List Value)).toArray, Value.agg (([Value.int .i8 r23.f_Numbers, Value.int .i8 r23.f_Lies, v24] : List Value)).toArray]) rfl rfl (x_call rfl (callFunc_enter Try.func11 rfl rfl) rfl) (laws_eqGame.calls (a1 := (⟨r16.f_Numbers, r16.f_Lies, r16.f_Asked⟩ : S_impl_Game)) (a4 := (⟨r23.f_Numbers, r23.f_Lies, r23.f_Asked⟩ : S_impl_Game)) (hs.row 2 rfl) (hs.row 0 rfl) Hr27) ?_
              rintro _ w ⟨rfl, hs2⟩
              have hs : St _ [_, _, _, _, _, _] _ := hs.call hs2
              cases r27 with
              | true =>
                rw [if_pos rfl] at H
                show G _ _ _ _ [_, _, _, _, _, _, _, _, _, _, _, _, _, _, _, _, _, _, _, _, _, _, _, _, _, _, _, _, _, _, _, _, _, _, _, _, _, _, _, _, _, _, _, _, _, _] _
                obtain ⟨rest, rfl, hO3_⟩ := ord_one (m := 15) hO2_ rfl 4 (m' := 31) (by decide +kernel) rfl
                clear hO2_
                refine g_op (v := Value.bool false) rfl rfl rfl ?_
                show G _ _ _ _ [_, _, _, _, _, _, _, _, _, _, _, _, _, _, _, _, _, _, _, _, _, _, _, _, _, _, _, _, _, _, _, _, _, _, _, _, _, _, _, _, _, _, _, _, _, _] _
                obtain rfl := ord_end hO3_ rfl (by decide +kernel)
                refine g_ops_nil ?_
                refine g_cond_false rfl ?_
                refine g_skip ?_
                refine g_seq ?_
                refine g_region ?_
                show G _ _ _ (.inRegion _ [0] :: _) _ _
                refine g_op (v := Value.bool true) rfl rfl rfl ?_
                show G _ _ _ _ [_, _, _, _, _, _, _, _, _, _, _, _, _, _, _, _, _, _, _, _, _, _, _, _, _, _, _, _, _, _, _, _, _, _, _, _, _, _, _, _, _, _, _, _, _, _] _
                refine g_ops_nil ?_
                obtain rfl := Option.some.inj H
                refine g_ret Try.func4 (v := Value.bool true) (res1 rfl rfl) ?_
                have hs : St _ [] _ := St.take (Γ' := [_, _, _, _, _, _]) hs
                exact ⟨_, rfl, rfl, hs⟩
              | false =>
                rw [if_neg Bool.false_ne_true] at H
                show G _ _ _ _ [_, _, _, _, _, _, _, _, _, _, _, _, _, _, _, _, _, _, _, _, _, _, _, _, _, _, _, _, _, _, _, _, _, _, _, _, _, _, _, _, _, _, _, _, _, _] _
                obtain ⟨rest, rfl, hO4_⟩ := ord_one (m := 15) hO2_ rfl 4 (m' := 31) (by decide +kernel) rfl
                clear hO2_
                refine g_op (v := Value.bool true) rfl rfl rfl ?_
                show G _ _ _ _ [_, _, _, _, _, _, _, _, _, _, _, _, _, _, _, _, _, _, _, _, _, _, _, _, _, _, _, _, _, _, _, _, _, _, _, _, _, _, _, _, _, _, _, _, _, _] _
                obtain rfl := ord_end hO4_ rfl (by decide +kernel)
                refine g_ops_nil ?_
                refine g_cond_true rfl ?_
                refine g_seq ?_
                refine g_region ?_
                show G _ _ _ (.inRegion _ [0] :: _) _ _
                refine g_op (v := Value.bool false) rfl rfl rfl ?_
                show G _ _ _ _ [_, _, _, _, _, _, _, _, _, _, _, _, _, _, _, _, _, _, _, _, _, _, _, _, _, _, _, _, _, _, _, _, _, _, _, _, _, _, _, _, _, _, _, _, _, _] _
                refine g_ops_nil ?_
                obtain rfl := Option.some.inj H
                refine g_ret Try.func4 (v := Value.bool false) (res1 rfl rfl) ?_
                have hs : St _ [] _ := St.take (Γ' := [_, _, _, _, _, _]) hs
                exact ⟨_, rfl, rfl, hs⟩

end Go.Proofs.YtcocgeodfbiehaaX
