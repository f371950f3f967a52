/- Contracts, printed by gen.py. -/
import Derived.Test.YtgoblgmidejdgaaXC10
namespace Go.Proofs.YtgoblgmidejdgaaX
open Go Go.RowKit Go.Proofs
set_option linter.unusedVariables false
set_option linter.unusedSimpArgs false
/- function 4 laws_FnExactLoadsFrom -/
def laws_FnExactLoadsFrom.post (w0 : World) (r : Bool) (v : Value) (w : World) : Prop := v = Value.bool r ∧ St w0 [] w
set_option maxHeartbeats 400000 in
set_option maxRecDepth 100000 in
theorem laws_FnExactLoadsFrom.calls {N : Nat} {a1 : S_laws_Ferry} {a4 : S_impl_Bank} {v2 : Value} {w0 : World} {r : Bool} (hr3 : RdRow (K.int .u16) w0 v2 a1.f_Rules) (H : laws_FnExactLoadsFrom.f N a1 a4 = some r) :
    Calls Try.prog 4 #[Value.agg (([Value.int .i8 a1.f_Things, Value.int .i8 a1.f_Boat, v2] : List Value)).toArray, Value.agg (enc_S_impl_Bank a4).toArray] w0 fun e w => ∃ v, e = .returned v ∧ laws_FnExactLoadsFrom.post w0 r v w := by
  unfold laws_FnExactLoadsFrom.f at H
  have hs : St w0 [] w0 := St.refl w0
  refine calls_of_g (n := 102) Try.func4 rfl rfl ?_
  show G _ _ _ _ [_, _, _, _, _, _, _, _, _, _, _, _, _, _, _, _, _, _, _, _, _, _, _, _, _, _, _, _, _, _, _, _, _, _, _, _, _, _, _, _, _, _, _, _, _, _, _, _, _, _, _, _, _, _, _, _, _, _, _, _, _, _, _, _, _, _, _, _, _, _, _, _, _, _, _, _, _, _, _, _, _, _, _, _, _, _, _, _, _, _, _, _, _, _, _, _, _, _, _, _, _, _, _, _] _
  refine g_seq ?_
  refine g_region ?_
  show G _ _ _ (.inRegion _ [0, 1, 2] :: _) _ _
  refine s_box hs rfl rfl (cs := (([Value.int .i8 a1.f_Things, Value.int .i8 a1.f_Boat, v2] : List Value))) rfl rfl ?_
  intro b5 w hs
  show G _ _ _ _ [_, _, _, _, _, _, _, _, _, _, _, _, _, _, _, _, _, _, _, _, _, _, _, _, _, _, _, _, _, _, _, _, _, _, _, _, _, _, _, _, _, _, _, _, _, _, _, _, _, _, _, _, _, _, _, _, _, _, _, _, _, _, _, _, _, _, _, _, _, _, _, _, _, _, _, _, _, _, _, _, _, _, _, _, _, _, _, _, _, _, _, _, _, _, _, _, _, _, _, _, _, _, _, _] _
  refine s_box hs rfl rfl (cs := (enc_S_impl_Bank a4)) rfl rfl ?_
  intro b7 w hs
  show G _ _ _ _ [_, _, _, _, _, _, _, _, _, _, _, _, _, _, _, _, _, _, _, _, _, _, _, _, _, _, _, _, _, _, _, _, _, _, _, _, _, _, _, _, _, _, _, _, _, _, _, _, _, _, _, _, _, _, _, _, _, _, _, _, _, _, _, _, _, _, _, _, _, _, _, _, _, _, _, _, _, _, _, _, _, _, _, _, _, _, _, _, _, _, _, _, _, _, _, _, _, _, _, _, _, _, _, _] _
  refine g_op (v := Value.bool false) rfl rfl rfl ?_
  show G _ _ _ _ [_, _, _, _, _, _, _, _, _, _, _, _, _, _, _, _, _, _, _, _, _, _, _, _, _, _, _, _, _, _, _, _, _, _, _, _, _, _, _, _, _, _, _, _, _, _, _, _, _, _, _, _, _, _, _, _, _, _, _, _, _, _, _, _, _, _, _, _, _, _, _, _, _, _, _, _, _, _, _, _, _, _, _, _, _, _, _, _, _, _, _, _, _, _, _, _, _, _, _, _, _, _, _, _] _
  refine g_ops_nil ?_
  refine g_seq ?_
  refine g_region ?_
  show G _ _ _ (.inRegion _ [0] :: _) _ _
  refine g_op (v := Value.int .i64 1048576) rfl rfl rfl ?_
  show G _ _ _ _ [_, _, _, _, _, _, _, _, _, _, _, _, _, _, _, _, _, _, _, _, _, _, _, _, _, _, _, _, _, _, _, _, _, _, _, _, _, _, _, _, _, _, _, _, _, _, _, _, _, _, _, _, _, _, _, _, _, _, _, _, _, _, _, _, _, _, _, _, _, _, _, _, _, _, _, _, _, _, _, _, _, _, _, _, _, _, _, _, _, _, _, _, _, _, _, _, _, _, _, _, _, _, _, _] _
  refine g_ops_nil ?_
  refine g_seq ?_
  refine g_region ?_
  show G _ _ _ (.inRegion _ [0, 1, 2, 3] :: _) _ _
  refine s_loadA rfl rfl (es := (([Value.int .i8 a1.f_Things, Value.int .i8 a1.f_Boat, v2] : List Value))) rfl rfl (fun _ => rfl) (n := 3) (fun _ => rfl) rfl (cells_all (hs.cells 1 rfl)) ?_
  show G _ _ _ _ [_, _, _, _, _, _, _, _, _, _, _, _, _, _, _, _, _, _, _, _, _, _, _, _, _, _, _, _, _, _, _, _, _, _, _, _, _, _, _, _, _, _, _, _, _, _, _, _, _, _, _, _, _, _, _, _, _, _, _, _, _, _, _, _, _, _, _, _, _, _, _, _, _, _, _, _, _, _, _, _, _, _, _, _, _, _, _, _, _, _, _, _, _, _, _, _, _, _, _, _, _, _, _, _] _
  refine g_op (v := Value.int .i64 1048576) rfl rfl rfl ?_
  show G _ _ _ _ [_, _, _, _, _, _, _, _, _, _, _, _, _, _, _, _, _, _, _, _, _, _, _, _, _, _, _, _, _, _, _, _, _, _, _, _, _, _, _, _, _, _, _, _, _, _, _, _, _, _, _, _, _, _, _, _, _, _, _, _, _, _, _, _, _, _, _, _, _, _, _, _, _, _, _, _, _, _, _, _, _, _, _, _, _, _, _, _, _, _, _, _, _, _, _, _, _, _, _, _, _, _, _, _] _
  obtain ⟨r9, Hr9, H⟩ := bind_get H
  refine s_call (args := [Value.agg (([Value.int .i8 a1.f_Things, Value.int .i8 a1.f_Boat, v2] : List Value)).toArray, Value.int .i64 1048576]) rfl rfl (x_call rfl (callFunc_enter Try.func11 rfl rfl) rfl) (laws_szFerry.calls (a1 := (⟨a1.f_Things, a1.f_Boat, a1.f_Rules⟩ : S_laws_Ferry)) (a4 := 1048576) (hs.rd hr3) Hr9) ?_
  rintro _ w ⟨rfl, hs2⟩
  have hs : St _ [_, _] _ := hs.call hs2
  show G _ _ _ _ [_, _, _, _, _, _, _, _, _, _, _, _, _, _, _, _, _, _, _, _, _, _, _, _, _, _, _, _, _, _, _, _, _, _, _, _, _, _, _, _, _, _, _, _, _, _, _, _, _, _, _, _, _, _, _, _, _, _, _, _, _, _, _, _, _, _, _, _, _, _, _, _, _, _, _, _, _, _, _, _, _, _, _, _, _, _, _, _, _, _, _, _, _, _, _, _, _, _, _, _, _, _, _, _] _
  refine g_op (v := Value.int .i64 r9) rfl rfl rfl ?_
  show G _ _ _ _ [_, _, _, _, _, _, _, _, _, _, _, _, _, _, _, _, _, _, _, _, _, _, _, _, _, _, _, _, _, _, _, _, _, _, _, _, _, _, _, _, _, _, _, _, _, _, _, _, _, _, _, _, _, _, _, _, _, _, _, _, _, _, _, _, _, _, _, _, _, _, _, _, _, _, _, _, _, _, _, _, _, _, _, _, _, _, _, _, _, _, _, _, _, _, _, _, _, _, _, _, _, _, _, _] _
  refine g_ops_nil ?_
  refine g_seq ?_
  refine g_seq ?_
  refine g_region ?_
  show G _ _ _ (.inRegion _ [0, 1] :: _) _ _
  refine g_op (v := Value.int .i64 r9) rfl rfl rfl ?_
  show G _ _ _ _ [_, _, _, _, _, _, _, _, _, _, _, _, _, _, _, _, _, _, _, _, _, _, _, _, _, _, _, _, _, _, _, _, _, _, _, _, _, _, _, _, _, _, _, _, _, _, _, _, _, _, _, _, _, _, _, _, _, _, _, _, _, _, _, _, _, _, _, _, _, _, _, _, _, _, _, _, _, _, _, _, _, _, _, _, _, _, _, _, _, _, _, _, _, _, _, _, _, _, _, _, _, _, _, _] _
  refine g_op_b (B := decide (r9 < 0)) rfl rfl rfl ?_ ?_
  · intro hb
    rw [if_pos (b_dec_t hb)] at H
    show G _ _ _ _ [_, _, _, _, _, _, _, _, _, _, _, _, _, _, _, _, _, _, _, _, _, _, _, _, _, _, _, _, _, _, _, _, _, _, _, _, _, _, _, _, _, _, _, _, _, _, _, _, _, _, _, _, _, _, _, _, _, _, _, _, _, _, _, _, _, _, _, _, _, _, _, _, _, _, _, _, _, _, _, _, _, _, _, _, _, _, _, _, _, _, _, _, _, _, _, _, _, _, _, _, _, _, _, _] _
    refine g_ops_nil ?_
    refine g_cond_true rfl ?_
    refine g_seq ?_
    refine g_region ?_
    show G _ _ _ (.inRegion _ [0] :: _) _ _
    refine g_op (v := Value.bool true) rfl rfl rfl ?_
    show G _ _ _ _ [_, _, _, _, _, _, _, _, _, _, _, _, _, _, _, _, _, _, _, _, _, _, _, _, _, _, _, _, _, _, _, _, _, _, _, _, _, _, _, _, _, _, _, _, _, _, _, _, _, _, _, _, _, _, _, _, _, _, _, _, _, _, _, _, _, _, _, _, _, _, _, _, _, _, _, _, _, _, _, _, _, _, _, _, _, _, _, _, _, _, _, _, _, _, _, _, _, _, _, _, _, _, _, _] _
    refine g_ops_nil ?_
    obtain rfl := Option.some.inj H
    refine g_ret Try.func4 (v := Value.bool true) (res1 rfl rfl) ?_
    have hs : St _ [] _ := St.take (Γ' := [_, _]) hs
    exact ⟨_, rfl, rfl, hs⟩
  · intro hb
    rw [if_neg (b_dec_f hb)] at H
    show G _ _ _ _ [_, _, _, _, _, _, _, _, _, _, _, _, _, _, _, _, _, _, _, _, _, _, _, _, _, _, _, _, _, _, _, _, _, _, _, _, _, _, _, _, _, _, _, _, _, _, _, _, _, _, _, _, _, _, _, _, _, _, _, _, _, _, _, _, _, _, _, _, _, _, _, _, _, _, _, _, _, _, _, _, _, _, _, _, _, _, _, _, _, _, _, _, _, _, _, _, _, _, _, _, _, _, _, _] _
    refine g_ops_nil ?_
    refine g_cond_false rfl ?_
    refine g_skip ?_
    refine g_seq ?_
    obtain ⟨r10, Hr10, H⟩ := bind_get H
    obtain ⟨r13, Hr13, H⟩ := bind_get H
    obtain ⟨r14, Hr14, H⟩ := bind_get H
    refine g_name ?_
    intro T hT
    refine g_any (n := 10) rfl [0, 1, 2, 3, 4, 5, 6, 7, 8, 9] [0, 1, 2, 3, 4, 5, 6, 8, 7, 9] rfl rfl (Inv := fun D t w => ∃ v11 : Value, ∃ v15 : Value, ∃ O : Nat → Value, t = [Value.agg (([Value.int .i8 a1.f_Things, Value.int .i8 a1.f_Boat, v2] : List Value)).toArray, Value.agg (enc_S_impl_Bank a4).toArray, Value.pointer (some ⟨b5, 0, none⟩), Value.pointer (some ⟨b7, 0, none⟩), Value.bool false, Value.int .i64 r9, cnd (D 8) v15 (O 6), cnd (D 9) (Value.int .i64 r14.2) (O 7), O 8, O 9, O 10, O 11, O 12, O 13, O 14, O 15, Value.agg (([Value.int .i8 a1.f_Things, Value.int .i8 a1.f_Boat, v2] : List Value)).toArray, Value.int .i64 1048576, Value.int .i64 r9, Value.int .i64 r9, Value.bool false, cnd (D 5) (Value.tuple #[v15, Value.int .i64 r14.2]) (O 21), cnd (D 0) (Value.agg (([Value.int .i8 a1.f_Things, Value.int .i8 a1.f_Boat, v2] : List Value)).toArray) (O 22), cnd (D 1) (Value.agg (([Value.int .i8 r10.f_Things, Value.int .i8 r10.f_Boat, v11] : List Value)).toArray) (O 23), cnd (D 2) (Value.agg (enc_S_impl_Bank a4).toArray) (O 24), cnd (D 3) (Value.agg (enc_S_impl_Bank r13).toArray) (O 25), cnd (D 4) (Value.tuple #[v15, Value.int .i64 r14.2]) (O 26), cnd (D 6) v15 (O 27), cnd (D 7) (Value.int .i64 r14.2) (O 28), O 29, O 30, O 31, O 32, O 33, O 34, O 35, O 36, O 37, O 38, O 39, O 40, O 41, O 42, O 43, O 44, O 45, O 46, O 47, O 48, O 49, O 50, O 51, O 52, O 53, O 54, O 55, O 56, O 57, O 58, O 59, O 60, O 61, O 62, O 63, O 64, O 65, O 66, O 67, O 68, O 69, O 70, O 71, O 72, O 73, O 74, O 75, O 76, O 77, O 78, O 79, O 80, O 81, O 82, O 83, O 84, O 85, O 86, O 87, O 88, O 89, O 90, O 91, O 92, O 93, O 94, O 95, O 96, O 97, O 98, O 99, O 100, O 101, O 102, O 103] ∧ St w0 [Asc (D 1) (Row 27 (K.int .u16) v11 r10.f_Rules), Asc (D 4) (Row 27 (K.int .u16) v15 r14.1), Cells b7 (enc_S_impl_Bank a4) 39, Cells b5 (([Value.int .i8 a1.f_Things, Value.int .i8 a1.f_Boat, v2] : List Value)) 25] w) ?_ ⟨⟨⟨⟨⟨⟨⟨⟨⟨⟨trivial, ?_⟩, ?_⟩, ?_⟩, ?_⟩, ?_⟩, ?_⟩, ?_⟩, ?_⟩, ?_⟩, ?_⟩ ?_
    · intro w hh hbw
      have hs := hs.samew hh hbw
      have hs := hs.emp
      have hs := hs.emp
      exact ⟨undef, undef, fun i => T.getD i undef, (by subst hT; rfl), hs⟩
    · intro D t w hD hp hcl hI rest hk
      obtain ⟨v11, v15, O, ht, hs⟩ := hI
      have q1_ : D 1 = false := not_yet (hcl.get 1 (by decide)) 0 0 rfl hD
      have q3_ : D 3 = false := not_yet (hcl.get 3 (by decide)) 1 1 rfl q1_
      have q4_ : D 4 = false := not_yet (hcl.get 4 (by decide)) 0 1 rfl q1_
      have q5_ : D 5 = false := not_yet (hcl.get 5 (by decide)) 0 4 rfl q4_
      have q6_ : D 6 = false := not_yet (hcl.get 6 (by decide)) 0 5 rfl q5_
      have q7_ : D 7 = false := not_yet (hcl.get 7 (by decide)) 0 5 rfl q5_
      have q8_ : D 8 = false := not_yet (hcl.get 8 (by decide)) 0 6 rfl q6_
      have q9_ : D 9 = false := not_yet (hcl.get 9 (by decide)) 0 7 rfl q7_
      have u0_ : upd D 0 0 = true := rfl
      have u1_ : upd D 0 1 = D 1 := rfl
      have u2_ : upd D 0 2 = D 2 := rfl
      have u3_ : upd D 0 3 = D 3 := rfl
      have u4_ : upd D 0 4 = D 4 := rfl
      have u5_ : upd D 0 5 = D 5 := rfl
      have u6_ : upd D 0 6 = D 6 := rfl
      have u7_ : upd D 0 7 = D 7 := rfl
      have u8_ : upd D 0 8 = D 8 := rfl
      have u9_ : upd D 0 9 = D 9 := rfl
      simp only [hD, q1_, q3_, q4_, q5_, q6_, q7_, q8_, q9_, cnd_t, cnd_f, Asc_t, Asc_f] at ht hs
      subst ht
      refine s_loadA rfl rfl (es := (([Value.int .i8 a1.f_Things, Value.int .i8 a1.f_Boat, v2] : List Value))) rfl rfl (fun _ => rfl) (n := 3) (fun _ => rfl) rfl (cells_all (hs.cells 3 rfl)) ?_
      show G _ _ _ _ [_, _, _, _, _, _, _, _, _, _, _, _, _, _, _, _, _, _, _, _, _, _, _, _, _, _, _, _, _, _, _, _, _, _, _, _, _, _, _, _, _, _, _, _, _, _, _, _, _, _, _, _, _, _, _, _, _, _, _, _, _, _, _, _, _, _, _, _, _, _, _, _, _, _, _, _, _, _, _, _, _, _, _, _, _, _, _, _, _, _, _, _, _, _, _, _, _, _, _, _, _, _, _, _] _
      exact hk _ _ ⟨v11, v15, O, (by simp only [u0_, u1_, u2_, u3_, u4_, u5_, u6_, u7_, u8_, u9_, q1_, q3_, q4_, q5_, q6_, q7_, q8_, q9_, cnd_t, cnd_f, Asc_t, Asc_f]), hs.cast (by first | rfl | simp only [List.take, List.drop, List.cons_append, List.nil_append, List.set_cons_zero, List.set_cons_succ, List.eraseIdx, u0_, u1_, u2_, u3_, u4_, u5_, u6_, u7_, u8_, u9_, q1_, q3_, q4_, q5_, q6_, q7_, q8_, q9_, cnd_t, cnd_f, Asc_t, Asc_f])⟩
    · intro D t w hD hp hcl hI rest hk
      obtain ⟨v11, v15, O, ht, hs⟩ := hI
      obtain ⟨p0_, _⟩ := hp
      have q3_ : D 3 = false := not_yet (hcl.get 3 (by decide)) 1 1 rfl hD
      have q4_ : D 4 = false := not_yet (hcl.get 4 (by decide)) 0 1 rfl hD
      have q5_ : D 5 = false := not_yet (hcl.get 5 (by decide)) 0 4 rfl q4_
      have q6_ : D 6 = false := not_yet (hcl.get 6 (by decide)) 0 5 rfl q5_
      have q7_ : D 7 = false := not_yet (hcl.get 7 (by decide)) 0 5 rfl q5_
      have q8_ : D 8 = false := not_yet (hcl.get 8 (by decide)) 0 6 rfl q6_
      have q9_ : D 9 = false := not_yet (hcl.get 9 (by decide)) 0 7 rfl q7_
      have u0_ : upd D 1 0 = D 0 := rfl
      have u1_ : upd D 1 1 = true := rfl
      have u2_ : upd D 1 2 = D 2 := rfl
      have u3_ : upd D 1 3 = D 3 := rfl
      have u4_ : upd D 1 4 = D 4 := rfl
      have u5_ : upd D 1 5 = D 5 := rfl
      have u6_ : upd D 1 6 = D 6 := rfl
      have u7_ : upd D 1 7 = D 7 := rfl
      have u8_ : upd D 1 8 = D 8 := rfl
      have u9_ : upd D 1 9 = D 9 := rfl
      simp only [hD, p0_, q3_, q4_, q5_, q6_, q7_, q8_, q9_, cnd_t, cnd_f, Asc_t, Asc_f] at ht hs
      subst ht
      refine s_call (args := [Value.agg (([Value.int .i8 a1.f_Things, Value.int .i8 a1.f_Boat, v2] : List Value)).toArray]) rfl rfl (x_call rfl (callFunc_enter Try.func13 rfl rfl) rfl) (laws_toFerry.calls (a1 := (⟨a1.f_Things, a1.f_Boat, a1.f_Rules⟩ : S_laws_Ferry)) (hs.rd hr3) Hr10) ?_
      rintro _ w ⟨v11, rfl, hs2⟩
      have hs : St _ [_, _, _, _, _] _ := hs.call hs2
      show G _ _ _ _ [_, _, _, _, _, _, _, _, _, _, _, _, _, _, _, _, _, _, _, _, _, _, _, _, _, _, _, _, _, _, _, _, _, _, _, _, _, _, _, _, _, _, _, _, _, _, _, _, _, _, _, _, _, _, _, _, _, _, _, _, _, _, _, _, _, _, _, _, _, _, _, _, _, _, _, _, _, _, _, _, _, _, _, _, _, _, _, _, _, _, _, _, _, _, _, _, _, _, _, _, _, _, _, _] _
      have hs := hs.fill 0 rfl
      exact hk _ _ ⟨v11, v15, O, (by simp only [u0_, u1_, u2_, u3_, u4_, u5_, u6_, u7_, u8_, u9_, p0_, q3_, q4_, q5_, q6_, q7_, q8_, q9_, cnd_t, cnd_f, Asc_t, Asc_f]), hs.cast (by first | rfl | simp only [List.take, List.drop, List.cons_append, List.nil_append, List.set_cons_zero, List.set_cons_succ, List.eraseIdx, u0_, u1_, u2_, u3_, u4_, u5_, u6_, u7_, u8_, u9_, p0_, q3_, q4_, q5_, q6_, q7_, q8_, q9_, cnd_t, cnd_f, Asc_t, Asc_f])⟩
    · intro D t w hD hp hcl hI rest hk
      obtain ⟨v11, v15, O, ht, hs⟩ := hI
      have q3_ : D 3 = false := not_yet (hcl.get 3 (by decide)) 0 2 rfl hD
      have q4_ : D 4 = false := not_yet (hcl.get 4 (by decide)) 1 3 rfl q3_
      have q5_ : D 5 = false := not_yet (hcl.get 5 (by decide)) 0 4 rfl q4_
      have q6_ : D 6 = false := not_yet (hcl.get 6 (by decide)) 0 5 rfl q5_
      have q7_ : D 7 = false := not_yet (hcl.get 7 (by decide)) 0 5 rfl q5_
      have q8_ : D 8 = false := not_yet (hcl.get 8 (by decide)) 0 6 rfl q6_
      have q9_ : D 9 = false := not_yet (hcl.get 9 (by decide)) 0 7 rfl q7_
      have u0_ : upd D 2 0 = D 0 := rfl
      have u1_ : upd D 2 1 = D 1 := rfl
      have u2_ : upd D 2 2 = true := rfl
      have u3_ : upd D 2 3 = D 3 := rfl
      have u4_ : upd D 2 4 = D 4 := rfl
      have u5_ : upd D 2 5 = D 5 := rfl
      have u6_ : upd D 2 6 = D 6 := rfl
      have u7_ : upd D 2 7 = D 7 := rfl
      have u8_ : upd D 2 8 = D 8 := rfl
      have u9_ : upd D 2 9 = D 9 := rfl
      simp only [hD, q3_, q4_, q5_, q6_, q7_, q8_, q9_, cnd_t, cnd_f, Asc_t, Asc_f] at ht hs
      subst ht
      refine s_loadA rfl rfl (es := (enc_S_impl_Bank a4)) rfl rfl (fun _ => rfl) (n := 2) (fun _ => rfl) (fk_S_impl_Bank.len _) (cells_all (hs.cells 2 rfl)) ?_
      show G _ _ _ _ [_, _, _, _, _, _, _, _, _, _, _, _, _, _, _, _, _, _, _, _, _, _, _, _, _, _, _, _, _, _, _, _, _, _, _, _, _, _, _, _, _, _, _, _, _, _, _, _, _, _, _, _, _, _, _, _, _, _, _, _, _, _, _, _, _, _, _, _, _, _, _, _, _, _, _, _, _, _, _, _, _, _, _, _, _, _, _, _, _, _, _, _, _, _, _, _, _, _, _, _, _, _, _, _] _
      exact hk _ _ ⟨v11, v15, O, (by simp only [u0_, u1_, u2_, u3_, u4_, u5_, u6_, u7_, u8_, u9_, q3_, q4_, q5_, q6_, q7_, q8_, q9_, cnd_t, cnd_f, Asc_t, Asc_f]), hs.cast (by first | rfl | simp only [List.take, List.drop, List.cons_append, List.nil_append, List.set_cons_zero, List.set_cons_succ, List.eraseIdx, u0_, u1_, u2_, u3_, u4_, u5_, u6_, u7_, u8_, u9_, q3_, q4_, q5_, q6_, q7_, q8_, q9_, cnd_t, cnd_f, Asc_t, Asc_f])⟩
    · intro D t w hD hp hcl hI rest hk
      obtain ⟨v11, v15, O, ht, hs⟩ := hI
      obtain ⟨p2_, p1_, _⟩ := hp
      obtain ⟨p0_, _⟩ := (hcl.get 1 (by decide)) p1_
      have q4_ : D 4 = false := not_yet (hcl.get 4 (by decide)) 1 3 rfl hD
      have q5_ : D 5 = false := not_yet (hcl.get 5 (by decide)) 0 4 rfl q4_
      have q6_ : D 6 = false := not_yet (hcl.get 6 (by decide)) 0 5 rfl q5_
      have q7_ : D 7 = false := not_yet (hcl.get 7 (by decide)) 0 5 rfl q5_
      have q8_ : D 8 = false := not_yet (hcl.get 8 (by decide)) 0 6 rfl q6_
      have q9_ : D 9 = false := not_yet (hcl.get 9 (by decide)) 0 7 rfl q7_
      have u0_ : upd D 3 0 = D 0 := rfl
      have u1_ : upd D 3 1 = D 1 := rfl
      have u2_ : upd D 3 2 = D 2 := rfl
      have u3_ : upd D 3 3 = true := rfl
      have u4_ : upd D 3 4 = D 4 := rfl
      have u5_ : upd D 3 5 = D 5 := rfl
      have u6_ : upd D 3 6 = D 6 := rfl
      have u7_ : upd D 3 7 = D 7 := rfl
      have u8_ : upd D 3 8 = D 8 := rfl
      have u9_ : upd D 3 9 = D 9 := rfl
      simp only [hD, p0_, p1_, p2_, q4_, q5_, q6_, q7_, q8_, q9_, cnd_t, cnd_f, Asc_t, Asc_f] at ht hs
      subst ht
      refine s_call (args := [Value.agg (enc_S_impl_Bank a4).toArray]) rfl rfl (x_call rfl (callFunc_enter Try.func20 rfl rfl) rfl) (laws_toBank.calls (a1 := a4) Hr13) ?_
      rintro _ w ⟨rfl, hs2⟩
      have hs : St _ [_, _, _, _] _ := hs.call hs2
      show G _ _ _ _ [_, _, _, _, _, _, _, _, _, _, _, _, _, _, _, _, _, _, _, _, _, _, _, _, _, _, _, _, _, _, _, _, _, _, _, _, _, _, _, _, _, _, _, _, _, _, _, _, _, _, _, _, _, _, _, _, _, _, _, _, _, _, _, _, _, _, _, _, _, _, _, _, _, _, _, _, _, _, _, _, _, _, _, _, _, _, _, _, _, _, _, _, _, _, _, _, _, _, _, _, _, _, _, _] _
      exact hk _ _ ⟨v11, v15, O, (by simp only [u0_, u1_, u2_, u3_, u4_, u5_, u6_, u7_, u8_, u9_, p0_, p1_, p2_, q4_, q5_, q6_, q7_, q8_, q9_, cnd_t, cnd_f, Asc_t, Asc_f]), hs.cast (by first | rfl | simp only [List.take, List.drop, List.cons_append, List.nil_append, List.set_cons_zero, List.set_cons_succ, List.eraseIdx, u0_, u1_, u2_, u3_, u4_, u5_, u6_, u7_, u8_, u9_, p0_, p1_, p2_, q4_, q5_, q6_, q7_, q8_, q9_, cnd_t, cnd_f, Asc_t, Asc_f])⟩
    · intro D t w hD hp hcl hI rest hk
      obtain ⟨v11, v15, O, ht, hs⟩ := hI
      obtain ⟨p1_, p3_, _, _⟩ := hp
      obtain ⟨p2_, _, _⟩ := (hcl.get 3 (by decide)) p3_
      obtain ⟨p0_, _⟩ := (hcl.get 1 (by decide)) p1_
      have q5_ : D 5 = false := not_yet (hcl.get 5 (by decide)) 0 4 rfl hD
      have q6_ : D 6 = false := not_yet (hcl.get 6 (by decide)) 0 5 rfl q5_
      have q7_ : D 7 = false := not_yet (hcl.get 7 (by decide)) 0 5 rfl q5_
      have q8_ : D 8 = false := not_yet (hcl.get 8 (by decide)) 0 6 rfl q6_
      have q9_ : D 9 = false := not_yet (hcl.get 9 (by decide)) 0 7 rfl q7_
      have u0_ : upd D 4 0 = D 0 := rfl
      have u1_ : upd D 4 1 = D 1 := rfl
      have u2_ : upd D 4 2 = D 2 := rfl
      have u3_ : upd D 4 3 = D 3 := rfl
      have u4_ : upd D 4 4 = true := rfl
      have u5_ : upd D 4 5 = D 5 := rfl
      have u6_ : upd D 4 6 = D 6 := rfl
      have u7_ : upd D 4 7 = D 7 := rfl
      have u8_ : upd D 4 8 = D 8 := rfl
      have u9_ : upd D 4 9 = D 9 := rfl
      simp only [hD, p0_, p1_, p2_, p3_, q5_, q6_, q7_, q8_, q9_, cnd_t, cnd_f, Asc_t, Asc_f] at ht hs
      subst ht
      refine s_call (args := [Value.agg (([Value.int .i8 r10.f_Things, Value.int .i8 r10.f_Boat, v11] : List Value)).toArray, Value.agg (enc_S_impl_Bank r13).toArray]) rfl rfl (x_call rfl (callFunc_enter Try.func19 rfl rfl) rfl) (spec_LoadsFrom.calls (a1 := (⟨r10.f_Things, r10.f_Boat, r10.f_Rules⟩ : S_laws_Ferry)) (a4 := r13) (hs.row 0 rfl) Hr14) ?_
      rintro _ w ⟨v15, rfl, hs2⟩
      have hs : St _ [_, _, _, _, _] _ := hs.call hs2
      show G _ _ _ _ [_, _, _, _, _, _, _, _, _, _, _, _, _, _, _, _, _, _, _, _, _, _, _, _, _, _, _, _, _, _, _, _, _, _, _, _, _, _, _, _, _, _, _, _, _, _, _, _, _, _, _, _, _, _, _, _, _, _, _, _, _, _, _, _, _, _, _, _, _, _, _, _, _, _, _, _, _, _, _, _, _, _, _, _, _, _, _, _, _, _, _, _, _, _, _, _, _, _, _, _, _, _, _, _] _
      have hs := hs.fill 1 rfl
      exact hk _ _ ⟨v11, v15, O, (by simp only [u0_, u1_, u2_, u3_, u4_, u5_, u6_, u7_, u8_, u9_, p0_, p1_, p2_, p3_, q5_, q6_, q7_, q8_, q9_, cnd_t, cnd_f, Asc_t, Asc_f]), hs.cast (by first | rfl | simp only [List.take, List.drop, List.cons_append, List.nil_append, List.set_cons_zero, List.set_cons_succ, List.eraseIdx, u0_, u1_, u2_, u3_, u4_, u5_, u6_, u7_, u8_, u9_, p0_, p1_, p2_, p3_, q5_, q6_, q7_, q8_, q9_, cnd_t, cnd_f, Asc_t, Asc_f])⟩
    · intro D t w hD hp hcl hI rest hk
      obtain ⟨v11, v15, O, ht, hs⟩ := hI
      obtain ⟨p4_, _⟩ := hp
      obtain ⟨p1_, p3_, _, _⟩ := (hcl.get 4 (by decide)) p4_
      obtain ⟨p2_, _, _⟩ := (hcl.get 3 (by decide)) p3_
      obtain ⟨p0_, _⟩ := (hcl.get 1 (by decide)) p1_
      have q6_ : D 6 = false := not_yet (hcl.get 6 (by decide)) 0 5 rfl hD
      have q7_ : D 7 = false := not_yet (hcl.get 7 (by decide)) 0 5 rfl hD
      have q8_ : D 8 = false := not_yet (hcl.get 8 (by decide)) 0 6 rfl q6_
      have q9_ : D 9 = false := not_yet (hcl.get 9 (by decide)) 0 7 rfl q7_
      have u0_ : upd D 5 0 = D 0 := rfl
      have u1_ : upd D 5 1 = D 1 := rfl
      have u2_ : upd D 5 2 = D 2 := rfl
      have u3_ : upd D 5 3 = D 3 := rfl
      have u4_ : upd D 5 4 = D 4 := rfl
      have u5_ : upd D 5 5 = true := rfl
      have u6_ : upd D 5 6 = D 6 := rfl
      have u7_ : upd D 5 7 = D 7 := rfl
      have u8_ : upd D 5 8 = D 8 := rfl
      have u9_ : upd D 5 9 = D 9 := rfl
      simp only [hD, p0_, p1_, p2_, p3_, p4_, q6_, q7_, q8_, q9_, cnd_t, cnd_f, Asc_t, Asc_f] at ht hs
      subst ht
      refine g_op (v := Value.tuple #[v15, Value.int .i64 r14.2]) rfl rfl rfl ?_
      show G _ _ _ _ [_, _, _, _, _, _, _, _, _, _, _, _, _, _, _, _, _, _, _, _, _, _, _, _, _, _, _, _, _, _, _, _, _, _, _, _, _, _, _, _, _, _, _, _, _, _, _, _, _, _, _, _, _, _, _, _, _, _, _, _, _, _, _, _, _, _, _, _, _, _, _, _, _, _, _, _, _, _, _, _, _, _, _, _, _, _, _, _, _, _, _, _, _, _, _, _, _, _, _, _, _, _, _, _] _
      exact hk _ _ ⟨v11, v15, O, (by simp only [u0_, u1_, u2_, u3_, u4_, u5_, u6_, u7_, u8_, u9_, p0_, p1_, p2_, p3_, p4_, q6_, q7_, q8_, q9_, cnd_t, cnd_f, Asc_t, Asc_f]), hs.cast (by first | rfl | simp only [List.take, List.drop, List.cons_append, List.nil_append, List.set_cons_zero, List.set_cons_succ, List.eraseIdx, u0_, u1_, u2_, u3_, u4_, u5_, u6_, u7_, u8_, u9_, p0_, p1_, p2_, p3_, p4_, q6_, q7_, q8_, q9_, cnd_t, cnd_f, Asc_t, Asc_f])⟩
    · intro D t w hD hp hcl hI rest hk
      obtain ⟨v11, v15, O, ht, hs⟩ := hI
      obtain ⟨p5_, _⟩ := hp
      obtain ⟨p4_, _⟩ := (hcl.get 5 (by decide)) p5_
      obtain ⟨p1_, p3_, _, _⟩ := (hcl.get 4 (by decide)) p4_
      obtain ⟨p2_, _, _⟩ := (hcl.get 3 (by decide)) p3_
      obtain ⟨p0_, _⟩ := (hcl.get 1 (by decide)) p1_
      have q8_ : D 8 = false := not_yet (hcl.get 8 (by decide)) 0 6 rfl hD
      have q9_ : D 9 = false := not_yet (hcl.get 9 (by decide)) 1 8 rfl q8_
      have u0_ : upd D 6 0 = D 0 := rfl
      have u1_ : upd D 6 1 = D 1 := rfl
      have u2_ : upd D 6 2 = D 2 := rfl
      have u3_ : upd D 6 3 = D 3 := rfl
      have u4_ : upd D 6 4 = D 4 := rfl
      have u5_ : upd D 6 5 = D 5 := rfl
      have u6_ : upd D 6 6 = true := rfl
      have u7_ : upd D 6 7 = D 7 := rfl
      have u8_ : upd D 6 8 = D 8 := rfl
      have u9_ : upd D 6 9 = D 9 := rfl
      simp only [hD, p0_, p1_, p2_, p3_, p4_, p5_, q8_, q9_, cnd_t, cnd_f, Asc_t, Asc_f] at ht hs
      subst ht
      refine g_op (v := v15) rfl rfl rfl ?_
      show G _ _ _ _ [_, _, _, _, _, _, _, _, _, _, _, _, _, _, _, _, _, _, _, _, _, _, _, _, _, _, _, _, _, _, _, _, _, _, _, _, _, _, _, _, _, _, _, _, _, _, _, _, _, _, _, _, _, _, _, _, _, _, _, _, _, _, _, _, _, _, _, _, _, _, _, _, _, _, _, _, _, _, _, _, _, _, _, _, _, _, _, _, _, _, _, _, _, _, _, _, _, _, _, _, _, _, _, _] _
      exact hk _ _ ⟨v11, v15, O, (by simp only [u0_, u1_, u2_, u3_, u4_, u5_, u6_, u7_, u8_, u9_, p0_, p1_, p2_, p3_, p4_, p5_, q8_, q9_, cnd_t, cnd_f, Asc_t, Asc_f]), hs.cast (by first | rfl | simp only [List.take, List.drop, List.cons_append, List.nil_append, List.set_cons_zero, List.set_cons_succ, List.eraseIdx, u0_, u1_, u2_, u3_, u4_, u5_, u6_, u7_, u8_, u9_, p0_, p1_, p2_, p3_, p4_, p5_, q8_, q9_, cnd_t, cnd_f, Asc_t, Asc_f])⟩
    · intro D t w hD hp hcl hI rest hk
      obtain ⟨v11, v15, O, ht, hs⟩ := hI
      obtain ⟨p5_, _⟩ := hp
      obtain ⟨p4_, _⟩ := (hcl.get 5 (by decide)) p5_
      obtain ⟨p1_, p3_, _, _⟩ := (hcl.get 4 (by decide)) p4_
      obtain ⟨p2_, _, _⟩ := (hcl.get 3 (by decide)) p3_
      obtain ⟨p0_, _⟩ := (hcl.get 1 (by decide)) p1_
      have q9_ : D 9 = false := not_yet (hcl.get 9 (by decide)) 0 7 rfl hD
      have u0_ : upd D 7 0 = D 0 := rfl
      have u1_ : upd D 7 1 = D 1 := rfl
      have u2_ : upd D 7 2 = D 2 := rfl
      have u3_ : upd D 7 3 = D 3 := rfl
      have u4_ : upd D 7 4 = D 4 := rfl
      have u5_ : upd D 7 5 = D 5 := rfl
      have u6_ : upd D 7 6 = D 6 := rfl
      have u7_ : upd D 7 7 = true := rfl
      have u8_ : upd D 7 8 = D 8 := rfl
      have u9_ : upd D 7 9 = D 9 := rfl
      simp only [hD, p0_, p1_, p2_, p3_, p4_, p5_, q9_, cnd_t, cnd_f, Asc_t, Asc_f] at ht hs
      subst ht
      refine g_op (v := Value.int .i64 r14.2) rfl rfl rfl ?_
      show G _ _ _ _ [_, _, _, _, _, _, _, _, _, _, _, _, _, _, _, _, _, _, _, _, _, _, _, _, _, _, _, _, _, _, _, _, _, _, _, _, _, _, _, _, _, _, _, _, _, _, _, _, _, _, _, _, _, _, _, _, _, _, _, _, _, _, _, _, _, _, _, _, _, _, _, _, _, _, _, _, _, _, _, _, _, _, _, _, _, _, _, _, _, _, _, _, _, _, _, _, _, _, _, _, _, _, _, _] _
      exact hk _ _ ⟨v11, v15, O, (by simp only [u0_, u1_, u2_, u3_, u4_, u5_, u6_, u7_, u8_, u9_, p0_, p1_, p2_, p3_, p4_, p5_, q9_, cnd_t, cnd_f, Asc_t, Asc_f]), hs.cast (by first | rfl | simp only [List.take, List.drop, List.cons_append, List.nil_append, List.set_cons_zero, List.set_cons_succ, List.eraseIdx, u0_, u1_, u2_, u3_, u4_, u5_, u6_, u7_, u8_, u9_, p0_, p1_, p2_, p3_, p4_, p5_, q9_, cnd_t, cnd_f, Asc_t, Asc_f])⟩
    · intro D t w hD hp hcl hI rest hk
      obtain ⟨v11, v15, O, ht, hs⟩ := hI
      obtain ⟨p6_, p4_, p0_, p1_, p2_, p3_, _, p5_, _, _⟩ := hp
      have q9_ : D 9 = false := not_yet (hcl.get 9 (by decide)) 1 8 rfl hD
      have u0_ : upd D 8 0 = D 0 := rfl
      have u1_ : upd D 8 1 = D 1 := rfl
      have u2_ : upd D 8 2 = D 2 := rfl
      have u3_ : upd D 8 3 = D 3 := rfl
      have u4_ : upd D 8 4 = D 4 := rfl
      have u5_ : upd D 8 5 = D 5 := rfl
      have u6_ : upd D 8 6 = D 6 := rfl
      have u7_ : upd D 8 7 = D 7 := rfl
      have u8_ : upd D 8 8 = true := rfl
      have u9_ : upd D 8 9 = D 9 := rfl
      simp only [hD, p0_, p1_, p2_, p3_, p4_, p5_, p6_, q9_, cnd_t, cnd_f, Asc_t, Asc_f] at ht hs
      subst ht
      refine g_op (v := v15) rfl rfl rfl ?_
      show G _ _ _ _ [_, _, _, _, _, _, _, _, _, _, _, _, _, _, _, _, _, _, _, _, _, _, _, _, _, _, _, _, _, _, _, _, _, _, _, _, _, _, _, _, _, _, _, _, _, _, _, _, _, _, _, _, _, _, _, _, _, _, _, _, _, _, _, _, _, _, _, _, _, _, _, _, _, _, _, _, _, _, _, _, _, _, _, _, _, _, _, _, _, _, _, _, _, _, _, _, _, _, _, _, _, _, _, _] _
      exact hk _ _ ⟨v11, v15, O, (by simp only [u0_, u1_, u2_, u3_, u4_, u5_, u6_, u7_, u8_, u9_, p0_, p1_, p2_, p3_, p4_, p5_, p6_, q9_, cnd_t, cnd_f, Asc_t, Asc_f]), hs.cast (by first | rfl | simp only [List.take, List.drop, List.cons_append, List.nil_append, List.set_cons_zero, List.set_cons_succ, List.eraseIdx, u0_, u1_, u2_, u3_, u4_, u5_, u6_, u7_, u8_, u9_, p0_, p1_, p2_, p3_, p4_, p5_, p6_, q9_, cnd_t, cnd_f, Asc_t, Asc_f])⟩
    · intro D t w hD hp hcl hI rest hk
      obtain ⟨v11, v15, O, ht, hs⟩ := hI
      obtain ⟨p7_, p8_, p0_, p1_, p2_, p3_, p4_, p5_, p6_, _, _, _⟩ := hp
      have u0_ : upd D 9 0 = D 0 := rfl
      have u1_ : upd D 9 1 = D 1 := rfl
      have u2_ : upd D 9 2 = D 2 := rfl
      have u3_ : upd D 9 3 = D 3 := rfl
      have u4_ : upd D 9 4 = D 4 := rfl
      have u5_ : upd D 9 5 = D 5 := rfl
      have u6_ : upd D 9 6 = D 6 := rfl
      have u7_ : upd D 9 7 = D 7 := rfl
      have u8_ : upd D 9 8 = D 8 := rfl
      have u9_ : upd D 9 9 = true := rfl
      simp only [hD, p0_, p1_, p2_, p3_, p4_, p5_, p6_, p7_, p8_, cnd_t, cnd_f, Asc_t, Asc_f] at ht hs
      subst ht
      refine g_op (v := Value.int .i64 r14.2) rfl rfl rfl ?_
      show G _ _ _ _ [_, _, _, _, _, _, _, _, _, _, _, _, _, _, _, _, _, _, _, _, _, _, _, _, _, _, _, _, _, _, _, _, _, _, _, _, _, _, _, _, _, _, _, _, _, _, _, _, _, _, _, _, _, _, _, _, _, _, _, _, _, _, _, _, _, _, _, _, _, _, _, _, _, _, _, _, _, _, _, _, _, _, _, _, _, _, _, _, _, _, _, _, _, _, _, _, _, _, _, _, _, _, _, _] _
      exact hk _ _ ⟨v11, v15, O, (by simp only [u0_, u1_, u2_, u3_, u4_, u5_, u6_, u7_, u8_, u9_, p0_, p1_, p2_, p3_, p4_, p5_, p6_, p7_, p8_, cnd_t, cnd_f, Asc_t, Asc_f]), hs.cast (by first | rfl | simp only [List.take, List.drop, List.cons_append, List.nil_append, List.set_cons_zero, List.set_cons_succ, List.eraseIdx, u0_, u1_, u2_, u3_, u4_, u5_, u6_, u7_, u8_, u9_, p0_, p1_, p2_, p3_, p4_, p5_, p6_, p7_, p8_, cnd_t, cnd_f, Asc_t, Asc_f])⟩
    · intro D t w hall hI
      obtain ⟨v11, v15, O, ht, hs⟩ := hI
      have p0_ : D 0 = true := hall 0 (by decide)
      have p1_ : D 1 = true := hall 1 (by decide)
      have p2_ : D 2 = true := hall 2 (by decide)
      have p3_ : D 3 = true := hall 3 (by decide)
      have p4_ : D 4 = true := hall 4 (by decide)
      have p5_ : D 5 = true := hall 5 (by decide)
      have p6_ : D 6 = true := hall 6 (by decide)
      have p7_ : D 7 = true := hall 7 (by decide)
      have p8_ : D 8 = true := hall 8 (by decide)
      have p9_ : D 9 = true := hall 9 (by decide)
      simp only [p0_, p1_, p2_, p3_, p4_, p5_, p6_, p7_, p8_, p9_, cnd_t, cnd_f, Asc_t, Asc_f] at ht hs
      subst ht
      refine g_seq ?_
      refine g_region ?_
      show G _ _ _ (.inRegion _ [0, 1, 2, 3] :: _) _ _
      refine s_loadA rfl rfl (es := (([Value.int .i8 a1.f_Things, Value.int .i8 a1.f_Boat, v2] : List Value))) rfl rfl (fun _ => rfl) (n := 3) (fun _ => rfl) rfl (cells_all (hs.cells 3 rfl)) ?_
      show G _ _ _ _ [_, _, _, _, _, _, _, _, _, _, _, _, _, _, _, _, _, _, _, _, _, _, _, _, _, _, _, _, _, _, _, _, _, _, _, _, _, _, _, _, _, _, _, _, _, _, _, _, _, _, _, _, _, _, _, _, _, _, _, _, _, _, _, _, _, _, _, _, _, _, _, _, _, _, _, _, _, _, _, _, _, _, _, _, _, _, _, _, _, _, _, _, _, _, _, _, _, _, _, _, _, _, _, _] _
      obtain ⟨r19, Hr19, H⟩ := bind_get H
      refine s_call (args := [Value.agg (([Value.int .i8 a1.f_Things, Value.int .i8 a1.f_Boat, v2] : List Value)).toArray]) rfl rfl (x_call rfl (callFunc_enter Try.func13 rfl rfl) rfl) (laws_toFerry.calls (a1 := (⟨a1.f_Things, a1.f_Boat, a1.f_Rules⟩ : S_laws_Ferry)) (hs.rd hr3) Hr19) ?_
      rintro _ w ⟨v20, rfl, hs2⟩
      have hs : St _ [_, _, _, _, _] _ := hs.call hs2
      show G _ _ _ _ [_, _, _, _, _, _, _, _, _, _, _, _, _, _, _, _, _, _, _, _, _, _, _, _, _, _, _, _, _, _, _, _, _, _, _, _, _, _, _, _, _, _, _, _, _, _, _, _, _, _, _, _, _, _, _, _, _, _, _, _, _, _, _, _, _, _, _, _, _, _, _, _, _, _, _, _, _, _, _, _, _, _, _, _, _, _, _, _, _, _, _, _, _, _, _, _, _, _, _, _, _, _, _, _] _
      refine s_alloc hs rfl rfl (z := (Value.agg #[Value.int .i8 0, Value.int .i8 0, Value.slice none 0 0])) (cs := (([Value.int .i8 0, Value.int .i8 0, Value.slice none 0 0] : List Value))) rfl (fun _ => rfl) rfl ?_
      intro b22 w hs
      show G _ _ _ _ [_, _, _, _, _, _, _, _, _, _, _, _, _, _, _, _, _, _, _, _, _, _, _, _, _, _, _, _, _, _, _, _, _, _, _, _, _, _, _, _, _, _, _, _, _, _, _, _, _, _, _, _, _, _, _, _, _, _, _, _, _, _, _, _, _, _, _, _, _, _, _, _, _, _, _, _, _, _, _, _, _, _, _, _, _, _, _, _, _, _, _, _, _, _, _, _, _, _, _, _, _, _, _, _] _
      refine s_storeAll (n := 3) hs rfl rfl rfl (vs := (([Value.int .i8 r19.f_Things, Value.int .i8 r19.f_Boat, v20] : List Value))) rfl rfl rfl (fun _ => rfl) rfl (by intro v hv; simp only [List.mem_append, List.mem_cons, List.not_mem_nil, or_false] at hv; repeat (first | (subst hv; first | rfl | exact slOne (hs.row 1 rfl)) | (rcases hv with hv | hv))) ?_
      intro w hs
      refine g_ops_nil ?_
      refine g_seq ?_
      obtain ⟨r24, Hr24, H⟩ := bind_get H
      obtain ⟨r25, Hr25, H⟩ := bind_get H
      refine g_name ?_
      intro T hT
      refine g_any (n := 9) rfl [0, 1, 2, 3, 4, 5, 6, 7, 8] [0, 1, 2, 3, 4, 5, 7, 6, 8] rfl rfl (Inv := fun D t w => ∃ v26 : Value, ∃ O : Nat → Value, t = [Value.agg (([Value.int .i8 a1.f_Things, Value.int .i8 a1.f_Boat, v2] : List Value)).toArray, Value.agg (enc_S_impl_Bank a4).toArray, Value.pointer (some ⟨b5, 0, none⟩), Value.pointer (some ⟨b7, 0, none⟩), Value.bool false, Value.int .i64 r9, v15, Value.int .i64 r14.2, Value.pointer (some ⟨b22, 0, none⟩), cnd (D 7) v26 (O 9), cnd (D 8) (Value.int .i64 r25.2) (O 10), O 11, O 12, O 13, O 14, O 15, Value.agg (([Value.int .i8 a1.f_Things, Value.int .i8 a1.f_Boat, v2] : List Value)).toArray, Value.int .i64 1048576, Value.int .i64 r9, Value.int .i64 r9, Value.bool false, Value.tuple #[v15, Value.int .i64 r14.2], Value.agg (([Value.int .i8 a1.f_Things, Value.int .i8 a1.f_Boat, v2] : List Value)).toArray, Value.agg (([Value.int .i8 r10.f_Things, Value.int .i8 r10.f_Boat, v11] : List Value)).toArray, Value.agg (enc_S_impl_Bank a4).toArray, Value.agg (enc_S_impl_Bank r13).toArray, Value.tuple #[v15, Value.int .i64 r14.2], v15, Value.int .i64 r14.2, Value.agg (([Value.int .i8 a1.f_Things, Value.int .i8 a1.f_Boat, v2] : List Value)).toArray, Value.agg (([Value.int .i8 r19.f_Things, Value.int .i8 r19.f_Boat, v20] : List Value)).toArray, cnd (D 4) (Value.tuple #[v26, Value.int .i64 r25.2]) (O 31), cnd (D 0) (Value.agg (([Value.int .i8 r19.f_Things, Value.int .i8 r19.f_Boat, v20] : List Value)).toArray) (O 32), cnd (D 1) (Value.agg (enc_S_impl_Bank a4).toArray) (O 33), cnd (D 2) (Value.agg (enc_S_impl_Bank r24).toArray) (O 34), cnd (D 3) (Value.tuple #[v26, Value.int .i64 r25.2]) (O 35), cnd (D 5) v26 (O 36), cnd (D 6) (Value.int .i64 r25.2) (O 37), O 38, O 39, O 40, O 41, O 42, O 43, O 44, O 45, O 46, O 47, O 48, O 49, O 50, O 51, O 52, O 53, O 54, O 55, O 56, O 57, O 58, O 59, O 60, O 61, O 62, O 63, O 64, O 65, O 66, O 67, O 68, O 69, O 70, O 71, O 72, O 73, O 74, O 75, O 76, O 77, O 78, O 79, O 80, O 81, O 82, O 83, O 84, O 85, O 86, O 87, O 88, O 89, O 90, O 91, O 92, O 93, O 94, O 95, O 96, O 97, O 98, O 99, O 100, O 101, O 102, O 103] ∧ St w0 [Asc (D 3) (Row 27 (K.int .u16) v26 r25.1), Cells b22 (([Value.int .i8 r19.f_Things, Value.int .i8 r19.f_Boat, v20] : List Value)) 32, Row 27 (K.int .u16) v20 r19.f_Rules, Row 27 (K.int .u16) v11 r10.f_Rules, Row 27 (K.int .u16) v15 r14.1, Cells b7 (enc_S_impl_Bank a4) 39, Cells b5 (([Value.int .i8 a1.f_Things, Value.int .i8 a1.f_Boat, v2] : List Value)) 25] w) ?_ ⟨⟨⟨⟨⟨⟨⟨⟨⟨trivial, ?_⟩, ?_⟩, ?_⟩, ?_⟩, ?_⟩, ?_⟩, ?_⟩, ?_⟩, ?_⟩ ?_
      · intro w hh hbw
        have hs := hs.samew hh hbw
        have hs := hs.emp
        exact ⟨undef, fun i => T.getD i undef, (by subst hT; rfl), hs⟩
      · intro D t w hD hp hcl hI rest hk
        obtain ⟨v26, O, ht, hs⟩ := hI
        have q3_ : D 3 = false := not_yet (hcl.get 3 (by decide)) 0 0 rfl hD
        have q4_ : D 4 = false := not_yet (hcl.get 4 (by decide)) 0 3 rfl q3_
        have q5_ : D 5 = false := not_yet (hcl.get 5 (by decide)) 0 4 rfl q4_
        have q6_ : D 6 = false := not_yet (hcl.get 6 (by decide)) 0 4 rfl q4_
        have q7_ : D 7 = false := not_yet (hcl.get 7 (by decide)) 0 5 rfl q5_
        have q8_ : D 8 = false := not_yet (hcl.get 8 (by decide)) 0 6 rfl q6_
        have u0_ : upd D 0 0 = true := rfl
        have u1_ : upd D 0 1 = D 1 := rfl
        have u2_ : upd D 0 2 = D 2 := rfl
        have u3_ : upd D 0 3 = D 3 := rfl
        have u4_ : upd D 0 4 = D 4 := rfl
        have u5_ : upd D 0 5 = D 5 := rfl
        have u6_ : upd D 0 6 = D 6 := rfl
        have u7_ : upd D 0 7 = D 7 := rfl
        have u8_ : upd D 0 8 = D 8 := rfl
        simp only [hD, q3_, q4_, q5_, q6_, q7_, q8_, cnd_t, cnd_f, Asc_t, Asc_f] at ht hs
        subst ht
        refine s_loadA rfl rfl (es := (([Value.int .i8 r19.f_Things, Value.int .i8 r19.f_Boat, v20] : List Value))) rfl rfl (fun _ => rfl) (n := 3) (fun _ => rfl) rfl (cells_all (hs.cells 1 rfl)) ?_
        show G _ _ _ _ [_, _, _, _, _, _, _, _, _, _, _, _, _, _, _, _, _, _, _, _, _, _, _, _, _, _, _, _, _, _, _, _, _, _, _, _, _, _, _, _, _, _, _, _, _, _, _, _, _, _, _, _, _, _, _, _, _, _, _, _, _, _, _, _, _, _, _, _, _, _, _, _, _, _, _, _, _, _, _, _, _, _, _, _, _, _, _, _, _, _, _, _, _, _, _, _, _, _, _, _, _, _, _, _] _
        exact hk _ _ ⟨v26, O, (by simp only [u0_, u1_, u2_, u3_, u4_, u5_, u6_, u7_, u8_, q3_, q4_, q5_, q6_, q7_, q8_, cnd_t, cnd_f, Asc_t, Asc_f]), hs.cast (by first | rfl | simp only [List.take, List.drop, List.cons_append, List.nil_append, List.set_cons_zero, List.set_cons_succ, List.eraseIdx, u0_, u1_, u2_, u3_, u4_, u5_, u6_, u7_, u8_, q3_, q4_, q5_, q6_, q7_, q8_, cnd_t, cnd_f, Asc_t, Asc_f])⟩
      · intro D t w hD hp hcl hI rest hk
        obtain ⟨v26, O, ht, hs⟩ := hI
        have q2_ : D 2 = false := not_yet (hcl.get 2 (by decide)) 0 1 rfl hD
        have q3_ : D 3 = false := not_yet (hcl.get 3 (by decide)) 1 2 rfl q2_
        have q4_ : D 4 = false := not_yet (hcl.get 4 (by decide)) 0 3 rfl q3_
        have q5_ : D 5 = false := not_yet (hcl.get 5 (by decide)) 0 4 rfl q4_
        have q6_ : D 6 = false := not_yet (hcl.get 6 (by decide)) 0 4 rfl q4_
        have q7_ : D 7 = false := not_yet (hcl.get 7 (by decide)) 0 5 rfl q5_
        have q8_ : D 8 = false := not_yet (hcl.get 8 (by decide)) 0 6 rfl q6_
        have u0_ : upd D 1 0 = D 0 := rfl
        have u1_ : upd D 1 1 = true := rfl
        have u2_ : upd D 1 2 = D 2 := rfl
        have u3_ : upd D 1 3 = D 3 := rfl
        have u4_ : upd D 1 4 = D 4 := rfl
        have u5_ : upd D 1 5 = D 5 := rfl
        have u6_ : upd D 1 6 = D 6 := rfl
        have u7_ : upd D 1 7 = D 7 := rfl
        have u8_ : upd D 1 8 = D 8 := rfl
        simp only [hD, q2_, q3_, q4_, q5_, q6_, q7_, q8_, cnd_t, cnd_f, Asc_t, Asc_f] at ht hs
        subst ht
        refine s_loadA rfl rfl (es := (enc_S_impl_Bank a4)) rfl rfl (fun _ => rfl) (n := 2) (fun _ => rfl) (fk_S_impl_Bank.len _) (cells_all (hs.cells 5 rfl)) ?_
        show G _ _ _ _ [_, _, _, _, _, _, _, _, _, _, _, _, _, _, _, _, _, _, _, _, _, _, _, _, _, _, _, _, _, _, _, _, _, _, _, _, _, _, _, _, _, _, _, _, _, _, _, _, _, _, _, _, _, _, _, _, _, _, _, _, _, _, _, _, _, _, _, _, _, _, _, _, _, _, _, _, _, _, _, _, _, _, _, _, _, _, _, _, _, _, _, _, _, _, _, _, _, _, _, _, _, _, _, _] _
        exact hk _ _ ⟨v26, O, (by simp only [u0_, u1_, u2_, u3_, u4_, u5_, u6_, u7_, u8_, q2_, q3_, q4_, q5_, q6_, q7_, q8_, cnd_t, cnd_f, Asc_t, Asc_f]), hs.cast (by first | rfl | simp only [List.take, List.drop, List.cons_append, List.nil_append, List.set_cons_zero, List.set_cons_succ, List.eraseIdx, u0_, u1_, u2_, u3_, u4_, u5_, u6_, u7_, u8_, q2_, q3_, q4_, q5_, q6_, q7_, q8_, cnd_t, cnd_f, Asc_t, Asc_f])⟩
      · intro D t w hD hp hcl hI rest hk
        obtain ⟨v26, O, ht, hs⟩ := hI
        obtain ⟨p1_, _⟩ := hp
        have q3_ : D 3 = false := not_yet (hcl.get 3 (by decide)) 1 2 rfl hD
        have q4_ : D 4 = false := not_yet (hcl.get 4 (by decide)) 0 3 rfl q3_
        have q5_ : D 5 = false := not_yet (hcl.get 5 (by decide)) 0 4 rfl q4_
        have q6_ : D 6 = false := not_yet (hcl.get 6 (by decide)) 0 4 rfl q4_
        have q7_ : D 7 = false := not_yet (hcl.get 7 (by decide)) 0 5 rfl q5_
        have q8_ : D 8 = false := not_yet (hcl.get 8 (by decide)) 0 6 rfl q6_
        have u0_ : upd D 2 0 = D 0 := rfl
        have u1_ : upd D 2 1 = D 1 := rfl
        have u2_ : upd D 2 2 = true := rfl
        have u3_ : upd D 2 3 = D 3 := rfl
        have u4_ : upd D 2 4 = D 4 := rfl
        have u5_ : upd D 2 5 = D 5 := rfl
        have u6_ : upd D 2 6 = D 6 := rfl
        have u7_ : upd D 2 7 = D 7 := rfl
        have u8_ : upd D 2 8 = D 8 := rfl
        simp only [hD, p1_, q3_, q4_, q5_, q6_, q7_, q8_, cnd_t, cnd_f, Asc_t, Asc_f] at ht hs
        subst ht
        refine s_call (args := [Value.agg (enc_S_impl_Bank a4).toArray]) rfl rfl (x_call rfl (callFunc_enter Try.func20 rfl rfl) rfl) (laws_toBank.calls (a1 := a4) Hr24) ?_
        rintro _ w ⟨rfl, hs2⟩
        have hs : St _ [_, _, _, _, _, _, _] _ := hs.call hs2
        show G _ _ _ _ [_, _, _, _, _, _, _, _, _, _, _, _, _, _, _, _, _, _, _, _, _, _, _, _, _, _, _, _, _, _, _, _, _, _, _, _, _, _, _, _, _, _, _, _, _, _, _, _, _, _, _, _, _, _, _, _, _, _, _, _, _, _, _, _, _, _, _, _, _, _, _, _, _, _, _, _, _, _, _, _, _, _, _, _, _, _, _, _, _, _, _, _, _, _, _, _, _, _, _, _, _, _, _, _] _
        exact hk _ _ ⟨v26, O, (by simp only [u0_, u1_, u2_, u3_, u4_, u5_, u6_, u7_, u8_, p1_, q3_, q4_, q5_, q6_, q7_, q8_, cnd_t, cnd_f, Asc_t, Asc_f]), hs.cast (by first | rfl | simp only [List.take, List.drop, List.cons_append, List.nil_append, List.set_cons_zero, List.set_cons_succ, List.eraseIdx, u0_, u1_, u2_, u3_, u4_, u5_, u6_, u7_, u8_, p1_, q3_, q4_, q5_, q6_, q7_, q8_, cnd_t, cnd_f, Asc_t, Asc_f])⟩
      · intro D t w hD hp hcl hI rest hk
        obtain ⟨v26, O, ht, hs⟩ := hI
        obtain ⟨p0_, p2_, _, _⟩ := hp
        obtain ⟨p1_, _⟩ := (hcl.get 2 (by decide)) p2_
        have q4_ : D 4 = false := not_yet (hcl.get 4 (by decide)) 0 3 rfl hD
        have q5_ : D 5 = false := not_yet (hcl.get 5 (by decide)) 0 4 rfl q4_
        have q6_ : D 6 = false := not_yet (hcl.get 6 (by decide)) 0 4 rfl q4_
        have q7_ : D 7 = false := not_yet (hcl.get 7 (by decide)) 0 5 rfl q5_
        have q8_ : D 8 = false := not_yet (hcl.get 8 (by decide)) 0 6 rfl q6_
        have u0_ : upd D 3 0 = D 0 := rfl
        have u1_ : upd D 3 1 = D 1 := rfl
        have u2_ : upd D 3 2 = D 2 := rfl
        have u3_ : upd D 3 3 = true := rfl
        have u4_ : upd D 3 4 = D 4 := rfl
        have u5_ : upd D 3 5 = D 5 := rfl
        have u6_ : upd D 3 6 = D 6 := rfl
        have u7_ : upd D 3 7 = D 7 := rfl
        have u8_ : upd D 3 8 = D 8 := rfl
        simp only [hD, p0_, p1_, p2_, q4_, q5_, q6_, q7_, q8_, cnd_t, cnd_f, Asc_t, Asc_f] at ht hs
        subst ht
        refine s_call (args := [Value.agg (([Value.int .i8 r19.f_Things, Value.int .i8 r19.f_Boat, v20] : List Value)).toArray, Value.agg (enc_S_impl_Bank r24).toArray]) rfl rfl (x_call rfl (callFunc_enter Try.func21 rfl rfl) rfl) (impl_LoadsFrom.calls (a1 := (⟨r19.f_Things, r19.f_Boat, r19.f_Rules⟩ : S_laws_Ferry)) (a4 := r24) (hs.row 2 rfl) Hr25) ?_
        rintro _ w ⟨v26, rfl, hs2⟩
        have hs : St _ [_, _, _, _, _, _, _, _] _ := hs.call hs2
        show G _ _ _ _ [_, _, _, _, _, _, _, _, _, _, _, _, _, _, _, _, _, _, _, _, _, _, _, _, _, _, _, _, _, _, _, _, _, _, _, _, _, _, _, _, _, _, _, _, _, _, _, _, _, _, _, _, _, _, _, _, _, _, _, _, _, _, _, _, _, _, _, _, _, _, _, _, _, _, _, _, _, _, _, _, _, _, _, _, _, _, _, _, _, _, _, _, _, _, _, _, _, _, _, _, _, _, _, _] _
        have hs := hs.fill 0 rfl
        exact hk _ _ ⟨v26, O, (by simp only [u0_, u1_, u2_, u3_, u4_, u5_, u6_, u7_, u8_, p0_, p1_, p2_, q4_, q5_, q6_, q7_, q8_, cnd_t, cnd_f, Asc_t, Asc_f]), hs.cast (by first | rfl | simp only [List.take, List.drop, List.cons_append, List.nil_append, List.set_cons_zero, List.set_cons_succ, List.eraseIdx, u0_, u1_, u2_, u3_, u4_, u5_, u6_, u7_, u8_, p0_, p1_, p2_, q4_, q5_, q6_, q7_, q8_, cnd_t, cnd_f, Asc_t, Asc_f])⟩
      · intro D t w hD hp hcl hI rest hk
        obtain ⟨v26, O, ht, hs⟩ := hI
        obtain ⟨p3_, _⟩ := hp
        obtain ⟨p0_, p2_, _, _⟩ := (hcl.get 3 (by decide)) p3_
        obtain ⟨p1_, _⟩ := (hcl.get 2 (by decide)) p2_
        have q5_ : D 5 = false := not_yet (hcl.get 5 (by decide)) 0 4 rfl hD
        have q6_ : D 6 = false := not_yet (hcl.get 6 (by decide)) 0 4 rfl hD
        have q7_ : D 7 = false := not_yet (hcl.get 7 (by decide)) 0 5 rfl q5_
        have q8_ : D 8 = false := not_yet (hcl.get 8 (by decide)) 0 6 rfl q6_
        have u0_ : upd D 4 0 = D 0 := rfl
        have u1_ : upd D 4 1 = D 1 := rfl
        have u2_ : upd D 4 2 = D 2 := rfl
        have u3_ : upd D 4 3 = D 3 := rfl
        have u4_ : upd D 4 4 = true := rfl
        have u5_ : upd D 4 5 = D 5 := rfl
        have u6_ : upd D 4 6 = D 6 := rfl
        have u7_ : upd D 4 7 = D 7 := rfl
        have u8_ : upd D 4 8 = D 8 := rfl
        simp only [hD, p0_, p1_, p2_, p3_, q5_, q6_, q7_, q8_, cnd_t, cnd_f, Asc_t, Asc_f] at ht hs
        subst ht
        refine g_op (v := Value.tuple #[v26, Value.int .i64 r25.2]) rfl rfl rfl ?_
        show G _ _ _ _ [_, _, _, _, _, _, _, _, _, _, _, _, _, _, _, _, _, _, _, _, _, _, _, _, _, _, _, _, _, _, _, _, _, _, _, _, _, _, _, _, _, _, _, _, _, _, _, _, _, _, _, _, _, _, _, _, _, _, _, _, _, _, _, _, _, _, _, _, _, _, _, _, _, _, _, _, _, _, _, _, _, _, _, _, _, _, _, _, _, _, _, _, _, _, _, _, _, _, _, _, _, _, _, _] _
        exact hk _ _ ⟨v26, O, (by simp only [u0_, u1_, u2_, u3_, u4_, u5_, u6_, u7_, u8_, p0_, p1_, p2_, p3_, q5_, q6_, q7_, q8_, cnd_t, cnd_f, Asc_t, Asc_f]), hs.cast (by first | rfl | simp only [List.take, List.drop, List.cons_append, List.nil_append, List.set_cons_zero, List.set_cons_succ, List.eraseIdx, u0_, u1_, u2_, u3_, u4_, u5_, u6_, u7_, u8_, p0_, p1_, p2_, p3_, q5_, q6_, q7_, q8_, cnd_t, cnd_f, Asc_t, Asc_f])⟩
      · intro D t w hD hp hcl hI rest hk
        obtain ⟨v26, O, ht, hs⟩ := hI
        obtain ⟨p4_, _⟩ := hp
        obtain ⟨p3_, _⟩ := (hcl.get 4 (by decide)) p4_
        obtain ⟨p0_, p2_, _, _⟩ := (hcl.get 3 (by decide)) p3_
        obtain ⟨p1_, _⟩ := (hcl.get 2 (by decide)) p2_
        have q7_ : D 7 = false := not_yet (hcl.get 7 (by decide)) 0 5 rfl hD
        have q8_ : D 8 = false := not_yet (hcl.get 8 (by decide)) 1 7 rfl q7_
        have u0_ : upd D 5 0 = D 0 := rfl
        have u1_ : upd D 5 1 = D 1 := rfl
        have u2_ : upd D 5 2 = D 2 := rfl
        have u3_ : upd D 5 3 = D 3 := rfl
        have u4_ : upd D 5 4 = D 4 := rfl
        have u5_ : upd D 5 5 = true := rfl
        have u6_ : upd D 5 6 = D 6 := rfl
        have u7_ : upd D 5 7 = D 7 := rfl
        have u8_ : upd D 5 8 = D 8 := rfl
        simp only [hD, p0_, p1_, p2_, p3_, p4_, q7_, q8_, cnd_t, cnd_f, Asc_t, Asc_f] at ht hs
        subst ht
        refine g_op (v := v26) rfl rfl rfl ?_
        show G _ _ _ _ [_, _, _, _, _, _, _, _, _, _, _, _, _, _, _, _, _, _, _, _, _, _, _, _, _, _, _, _, _, _, _, _, _, _, _, _, _, _, _, _, _, _, _, _, _, _, _, _, _, _, _, _, _, _, _, _, _, _, _, _, _, _, _, _, _, _, _, _, _, _, _, _, _, _, _, _, _, _, _, _, _, _, _, _, _, _, _, _, _, _, _, _, _, _, _, _, _, _, _, _, _, _, _, _] _
        exact hk _ _ ⟨v26, O, (by simp only [u0_, u1_, u2_, u3_, u4_, u5_, u6_, u7_, u8_, p0_, p1_, p2_, p3_, p4_, q7_, q8_, cnd_t, cnd_f, Asc_t, Asc_f]), hs.cast (by first | rfl | simp only [List.take, List.drop, List.cons_append, List.nil_append, List.set_cons_zero, List.set_cons_succ, List.eraseIdx, u0_, u1_, u2_, u3_, u4_, u5_, u6_, u7_, u8_, p0_, p1_, p2_, p3_, p4_, q7_, q8_, cnd_t, cnd_f, Asc_t, Asc_f])⟩
      · intro D t w hD hp hcl hI rest hk
        obtain ⟨v26, O, ht, hs⟩ := hI
        obtain ⟨p4_, _⟩ := hp
        obtain ⟨p3_, _⟩ := (hcl.get 4 (by decide)) p4_
        obtain ⟨p0_, p2_, _, _⟩ := (hcl.get 3 (by decide)) p3_
        obtain ⟨p1_, _⟩ := (hcl.get 2 (by decide)) p2_
        have q8_ : D 8 = false := not_yet (hcl.get 8 (by decide)) 0 6 rfl hD
        have u0_ : upd D 6 0 = D 0 := rfl
        have u1_ : upd D 6 1 = D 1 := rfl
        have u2_ : upd D 6 2 = D 2 := rfl
        have u3_ : upd D 6 3 = D 3 := rfl
        have u4_ : upd D 6 4 = D 4 := rfl
        have u5_ : upd D 6 5 = D 5 := rfl
        have u6_ : upd D 6 6 = true := rfl
        have u7_ : upd D 6 7 = D 7 := rfl
        have u8_ : upd D 6 8 = D 8 := rfl
        simp only [hD, p0_, p1_, p2_, p3_, p4_, q8_, cnd_t, cnd_f, Asc_t, Asc_f] at ht hs
        subst ht
        refine g_op (v := Value.int .i64 r25.2) rfl rfl rfl ?_
        show G _ _ _ _ [_, _, _, _, _, _, _, _, _, _, _, _, _, _, _, _, _, _, _, _, _, _, _, _, _, _, _, _, _, _, _, _, _, _, _, _, _, _, _, _, _, _, _, _, _, _, _, _, _, _, _, _, _, _, _, _, _, _, _, _, _, _, _, _, _, _, _, _, _, _, _, _, _, _, _, _, _, _, _, _, _, _, _, _, _, _, _, _, _, _, _, _, _, _, _, _, _, _, _, _, _, _, _, _] _
        exact hk _ _ ⟨v26, O, (by simp only [u0_, u1_, u2_, u3_, u4_, u5_, u6_, u7_, u8_, p0_, p1_, p2_, p3_, p4_, q8_, cnd_t, cnd_f, Asc_t, Asc_f]), hs.cast (by first | rfl | simp only [List.take, List.drop, List.cons_append, List.nil_append, List.set_cons_zero, List.set_cons_succ, List.eraseIdx, u0_, u1_, u2_, u3_, u4_, u5_, u6_, u7_, u8_, p0_, p1_, p2_, p3_, p4_, q8_, cnd_t, cnd_f, Asc_t, Asc_f])⟩
      · intro D t w hD hp hcl hI rest hk
        obtain ⟨v26, O, ht, hs⟩ := hI
        obtain ⟨p5_, p3_, p0_, p1_, p2_, _, p4_, _, _⟩ := hp
        have q8_ : D 8 = false := not_yet (hcl.get 8 (by decide)) 1 7 rfl hD
        have u0_ : upd D 7 0 = D 0 := rfl
        have u1_ : upd D 7 1 = D 1 := rfl
        have u2_ : upd D 7 2 = D 2 := rfl
        have u3_ : upd D 7 3 = D 3 := rfl
        have u4_ : upd D 7 4 = D 4 := rfl
        have u5_ : upd D 7 5 = D 5 := rfl
        have u6_ : upd D 7 6 = D 6 := rfl
        have u7_ : upd D 7 7 = true := rfl
        have u8_ : upd D 7 8 = D 8 := rfl
        simp only [hD, p0_, p1_, p2_, p3_, p4_, p5_, q8_, cnd_t, cnd_f, Asc_t, Asc_f] at ht hs
        subst ht
        refine g_op (v := v26) rfl rfl rfl ?_
        show G _ _ _ _ [_, _, _, _, _, _, _, _, _, _, _, _, _, _, _, _, _, _, _, _, _, _, _, _, _, _, _, _, _, _, _, _, _, _, _, _, _, _, _, _, _, _, _, _, _, _, _, _, _, _, _, _, _, _, _, _, _, _, _, _, _, _, _, _, _, _, _, _, _, _, _, _, _, _, _, _, _, _, _, _, _, _, _, _, _, _, _, _, _, _, _, _, _, _, _, _, _, _, _, _, _, _, _, _] _
        exact hk _ _ ⟨v26, O, (by simp only [u0_, u1_, u2_, u3_, u4_, u5_, u6_, u7_, u8_, p0_, p1_, p2_, p3_, p4_, p5_, q8_, cnd_t, cnd_f, Asc_t, Asc_f]), hs.cast (by first | rfl | simp only [List.take, List.drop, List.cons_append, List.nil_append, List.set_cons_zero, List.set_cons_succ, List.eraseIdx, u0_, u1_, u2_, u3_, u4_, u5_, u6_, u7_, u8_, p0_, p1_, p2_, p3_, p4_, p5_, q8_, cnd_t, cnd_f, Asc_t, Asc_f])⟩
      · intro D t w hD hp hcl hI rest hk
        obtain ⟨v26, O, ht, hs⟩ := hI
        obtain ⟨p6_, p7_, p0_, p1_, p2_, p3_, p4_, p5_, _, _, _⟩ := hp
        have u0_ : upd D 8 0 = D 0 := rfl
        have u1_ : upd D 8 1 = D 1 := rfl
        have u2_ : upd D 8 2 = D 2 := rfl
        have u3_ : upd D 8 3 = D 3 := rfl
        have u4_ : upd D 8 4 = D 4 := rfl
        have u5_ : upd D 8 5 = D 5 := rfl
        have u6_ : upd D 8 6 = D 6 := rfl
        have u7_ : upd D 8 7 = D 7 := rfl
        have u8_ : upd D 8 8 = true := rfl
        simp only [hD, p0_, p1_, p2_, p3_, p4_, p5_, p6_, p7_, cnd_t, cnd_f, Asc_t, Asc_f] at ht hs
        subst ht
        refine g_op (v := Value.int .i64 r25.2) rfl rfl rfl ?_
        show G _ _ _ _ [_, _, _, _, _, _, _, _, _, _, _, _, _, _, _, _, _, _, _, _, _, _, _, _, _, _, _, _, _, _, _, _, _, _, _, _, _, _, _, _, _, _, _, _, _, _, _, _, _, _, _, _, _, _, _, _, _, _, _, _, _, _, _, _, _, _, _, _, _, _, _, _, _, _, _, _, _, _, _, _, _, _, _, _, _, _, _, _, _, _, _, _, _, _, _, _, _, _, _, _, _, _, _, _] _
        exact hk _ _ ⟨v26, O, (by simp only [u0_, u1_, u2_, u3_, u4_, u5_, u6_, u7_, u8_, p0_, p1_, p2_, p3_, p4_, p5_, p6_, p7_, cnd_t, cnd_f, Asc_t, Asc_f]), hs.cast (by first | rfl | simp only [List.take, List.drop, List.cons_append, List.nil_append, List.set_cons_zero, List.set_cons_succ, List.eraseIdx, u0_, u1_, u2_, u3_, u4_, u5_, u6_, u7_, u8_, p0_, p1_, p2_, p3_, p4_, p5_, p6_, p7_, cnd_t, cnd_f, Asc_t, Asc_f])⟩
      · intro D t w hall hI
        obtain ⟨v26, O, ht, hs⟩ := hI
        have p0_ : D 0 = true := hall 0 (by decide)
        have p1_ : D 1 = true := hall 1 (by decide)
        have p2_ : D 2 = true := hall 2 (by decide)
        have p3_ : D 3 = true := hall 3 (by decide)
        have p4_ : D 4 = true := hall 4 (by decide)
        have p5_ : D 5 = true := hall 5 (by decide)
        have p6_ : D 6 = true := hall 6 (by decide)
        have p7_ : D 7 = true := hall 7 (by decide)
        have p8_ : D 8 = true := hall 8 (by decide)
        simp only [p0_, p1_, p2_, p3_, p4_, p5_, p6_, p7_, p8_, cnd_t, cnd_f, Asc_t, Asc_f] at ht hs
        subst ht
        refine g_seq ?_
        refine g_seq ?_
        refine g_region ?_
        show G _ _ _ (.inRegion _ [0, 1, 2, 3, 4, 5, 6, 7, 8] :: _) _ _
        refine g_op (v := v26) rfl rfl rfl ?_
        show G _ _ _ _ [_, _, _, _, _, _, _, _, _, _, _, _, _, _, _, _, _, _, _, _, _, _, _, _, _, _, _, _, _, _, _, _, _, _, _, _, _, _, _, _, _, _, _, _, _, _, _, _, _, _, _, _, _, _, _, _, _, _, _, _, _, _, _, _, _, _, _, _, _, _, _, _, _, _, _, _, _, _, _, _, _, _, _, _, _, _, _, _, _, _, _, _, _, _, _, _, _, _, _, _, _, _, _, _] _
        refine g_op (v := v15) rfl rfl rfl ?_
        show G _ _ _ _ [_, _, _, _, _, _, _, _, _, _, _, _, _, _, _, _, _, _, _, _, _, _, _, _, _, _, _, _, _, _, _, _, _, _, _, _, _, _, _, _, _, _, _, _, _, _, _, _, _, _, _, _, _, _, _, _, _, _, _, _, _, _, _, _, _, _, _, _, _, _, _, _, _, _, _, _, _, _, _, _, _, _, _, _, _, _, _, _, _, _, _, _, _, _, _, _, _, _, _, _, _, _, _, _] _
        obtain ⟨r29, Hr29, H⟩ := bind_get H
        refine s_call (args := [v26, v15]) rfl rfl (x_call rfl (callFunc_enter Try.func18 rfl rfl) rfl) (laws_eqUint16S.calls (a1 := r25.1) (a3 := r14.1) (hs.row 0 rfl) (hs.row 4 rfl) Hr29) ?_
        rintro _ w ⟨rfl, hs2⟩
        have hs : St _ [_, _, _, _, _, _, _] _ := hs.call hs2
        cases r29 with
        | true =>
          rw [if_pos rfl] at H
          show G _ _ _ _ [_, _, _, _, _, _, _, _, _, _, _, _, _, _, _, _, _, _, _, _, _, _, _, _, _, _, _, _, _, _, _, _, _, _, _, _, _, _, _, _, _, _, _, _, _, _, _, _, _, _, _, _, _, _, _, _, _, _, _, _, _, _, _, _, _, _, _, _, _, _, _, _, _, _, _, _, _, _, _, _, _, _, _, _, _, _, _, _, _, _, _, _, _, _, _, _, _, _, _, _, _, _, _, _] _
          refine g_op (v := Value.bool false) rfl rfl rfl ?_
          show G _ _ _ _ [_, _, _, _, _, _, _, _, _, _, _, _, _, _, _, _, _, _, _, _, _, _, _, _, _, _, _, _, _, _, _, _, _, _, _, _, _, _, _, _, _, _, _, _, _, _, _, _, _, _, _, _, _, _, _, _, _, _, _, _, _, _, _, _, _, _, _, _, _, _, _, _, _, _, _, _, _, _, _, _, _, _, _, _, _, _, _, _, _, _, _, _, _, _, _, _, _, _, _, _, _, _, _, _] _
          refine g_op (v := Value.bool false) rfl rfl rfl ?_
          show G _ _ _ _ [_, _, _, _, _, _, _, _, _, _, _, _, _, _, _, _, _, _, _, _, _, _, _, _, _, _, _, _, _, _, _, _, _, _, _, _, _, _, _, _, _, _, _, _, _, _, _, _, _, _, _, _, _, _, _, _, _, _, _, _, _, _, _, _, _, _, _, _, _, _, _, _, _, _, _, _, _, _, _, _, _, _, _, _, _, _, _, _, _, _, _, _, _, _, _, _, _, _, _, _, _, _, _, _] _
          refine g_op (v := Value.int .i64 r25.2) rfl rfl rfl ?_
          show G _ _ _ _ [_, _, _, _, _, _, _, _, _, _, _, _, _, _, _, _, _, _, _, _, _, _, _, _, _, _, _, _, _, _, _, _, _, _, _, _, _, _, _, _, _, _, _, _, _, _, _, _, _, _, _, _, _, _, _, _, _, _, _, _, _, _, _, _, _, _, _, _, _, _, _, _, _, _, _, _, _, _, _, _, _, _, _, _, _, _, _, _, _, _, _, _, _, _, _, _, _, _, _, _, _, _, _, _] _
          refine g_op (v := Value.int .i64 r14.2) rfl rfl rfl ?_
          show G _ _ _ _ [_, _, _, _, _, _, _, _, _, _, _, _, _, _, _, _, _, _, _, _, _, _, _, _, _, _, _, _, _, _, _, _, _, _, _, _, _, _, _, _, _, _, _, _, _, _, _, _, _, _, _, _, _, _, _, _, _, _, _, _, _, _, _, _, _, _, _, _, _, _, _, _, _, _, _, _, _, _, _, _, _, _, _, _, _, _, _, _, _, _, _, _, _, _, _, _, _, _, _, _, _, _, _, _] _
          refine g_op_b (B := r25.2 != r14.2) rfl rfl rfl ?_ ?_
          · intro hb
            rw [if_neg (b_bne_t hb)] at H
            show G _ _ _ _ [_, _, _, _, _, _, _, _, _, _, _, _, _, _, _, _, _, _, _, _, _, _, _, _, _, _, _, _, _, _, _, _, _, _, _, _, _, _, _, _, _, _, _, _, _, _, _, _, _, _, _, _, _, _, _, _, _, _, _, _, _, _, _, _, _, _, _, _, _, _, _, _, _, _, _, _, _, _, _, _, _, _, _, _, _, _, _, _, _, _, _, _, _, _, _, _, _, _, _, _, _, _, _, _] _
            refine g_op (v := Value.bool true) rfl rfl rfl ?_
            show G _ _ _ _ [_, _, _, _, _, _, _, _, _, _, _, _, _, _, _, _, _, _, _, _, _, _, _, _, _, _, _, _, _, _, _, _, _, _, _, _, _, _, _, _, _, _, _, _, _, _, _, _, _, _, _, _, _, _, _, _, _, _, _, _, _, _, _, _, _, _, _, _, _, _, _, _, _, _, _, _, _, _, _, _, _, _, _, _, _, _, _, _, _, _, _, _, _, _, _, _, _, _, _, _, _, _, _, _] _
            refine g_ops_nil ?_
            refine g_cond_true rfl ?_
            refine g_seq ?_
            refine g_region ?_
            show G _ _ _ (.inRegion _ [0] :: _) _ _
            refine g_op (v := Value.bool false) rfl rfl rfl ?_
            show G _ _ _ _ [_, _, _, _, _, _, _, _, _, _, _, _, _, _, _, _, _, _, _, _, _, _, _, _, _, _, _, _, _, _, _, _, _, _, _, _, _, _, _, _, _, _, _, _, _, _, _, _, _, _, _, _, _, _, _, _, _, _, _, _, _, _, _, _, _, _, _, _, _, _, _, _, _, _, _, _, _, _, _, _, _, _, _, _, _, _, _, _, _, _, _, _, _, _, _, _, _, _, _, _, _, _, _, _] _
            refine g_ops_nil ?_
            obtain rfl := Option.some.inj H
            refine g_ret Try.func4 (v := Value.bool false) (res1 rfl rfl) ?_
            have hs : St _ [] _ := St.take (Γ' := [_, _, _, _, _, _, _]) hs
            exact ⟨_, rfl, rfl, hs⟩
          · intro hb
            rw [if_pos (b_bne_f hb)] at H
            show G _ _ _ _ [_, _, _, _, _, _, _, _, _, _, _, _, _, _, _, _, _, _, _, _, _, _, _, _, _, _, _, _, _, _, _, _, _, _, _, _, _, _, _, _, _, _, _, _, _, _, _, _, _, _, _, _, _, _, _, _, _, _, _, _, _, _, _, _, _, _, _, _, _, _, _, _, _, _, _, _, _, _, _, _, _, _, _, _, _, _, _, _, _, _, _, _, _, _, _, _, _, _, _, _, _, _, _, _] _
            refine g_op (v := Value.bool false) rfl rfl rfl ?_
            show G _ _ _ _ [_, _, _, _, _, _, _, _, _, _, _, _, _, _, _, _, _, _, _, _, _, _, _, _, _, _, _, _, _, _, _, _, _, _, _, _, _, _, _, _, _, _, _, _, _, _, _, _, _, _, _, _, _, _, _, _, _, _, _, _, _, _, _, _, _, _, _, _, _, _, _, _, _, _, _, _, _, _, _, _, _, _, _, _, _, _, _, _, _, _, _, _, _, _, _, _, _, _, _, _, _, _, _, _] _
            refine g_ops_nil ?_
            refine g_cond_false rfl ?_
            refine g_skip ?_
            refine g_seq ?_
            refine g_seq ?_
            refine g_lay (n := 5) rfl [0, 1, 2, 3, 4] [0, 1, 2, 3, 4] rfl rfl ?_
            intro rest w hh hbw hO
            have hs := hs.samew hh hbw
            show G _ _ _ _ [_, _, _, _, _, _, _, _, _, _, _, _, _, _, _, _, _, _, _, _, _, _, _, _, _, _, _, _, _, _, _, _, _, _, _, _, _, _, _, _, _, _, _, _, _, _, _, _, _, _, _, _, _, _, _, _, _, _, _, _, _, _, _, _, _, _, _, _, _, _, _, _, _, _, _, _, _, _, _, _, _, _, _, _, _, _, _, _, _, _, _, _, _, _, _, _, _, _, _, _, _, _, _, _] _
            obtain ⟨r30, Hr30, H⟩ := bind_get H
            refine g_name ?_
            intro T hT
            refine g_layer (m0 := 0) hO rfl 7 [0, 1, 2] [0, 0, 2, 7, 15] (by decide +kernel) (fun D t w => ∃ v31 : Value, ∃ O : Nat → Value, t = [Value.agg (([Value.int .i8 a1.f_Things, Value.int .i8 a1.f_Boat, v2] : List Value)).toArray, Value.agg (enc_S_impl_Bank a4).toArray, Value.pointer (some ⟨b5, 0, none⟩), Value.pointer (some ⟨b7, 0, none⟩), Value.bool false, Value.int .i64 r9, v15, Value.int .i64 r14.2, Value.pointer (some ⟨b22, 0, none⟩), v26, Value.int .i64 r25.2, O 11, O 12, O 13, O 14, O 15, Value.agg (([Value.int .i8 a1.f_Things, Value.int .i8 a1.f_Boat, v2] : List Value)).toArray, Value.int .i64 1048576, Value.int .i64 r9, Value.int .i64 r9, Value.bool false, Value.tuple #[v15, Value.int .i64 r14.2], Value.agg (([Value.int .i8 a1.f_Things, Value.int .i8 a1.f_Boat, v2] : List Value)).toArray, Value.agg (([Value.int .i8 r10.f_Things, Value.int .i8 r10.f_Boat, v11] : List Value)).toArray, Value.agg (enc_S_impl_Bank a4).toArray, Value.agg (enc_S_impl_Bank r13).toArray, Value.tuple #[v15, Value.int .i64 r14.2], v15, Value.int .i64 r14.2, Value.agg (([Value.int .i8 a1.f_Things, Value.int .i8 a1.f_Boat, v2] : List Value)).toArray, Value.agg (([Value.int .i8 r19.f_Things, Value.int .i8 r19.f_Boat, v20] : List Value)).toArray, Value.tuple #[v26, Value.int .i64 r25.2], Value.agg (([Value.int .i8 r19.f_Things, Value.int .i8 r19.f_Boat, v20] : List Value)).toArray, Value.agg (enc_S_impl_Bank a4).toArray, Value.agg (enc_S_impl_Bank r24).toArray, Value.tuple #[v26, Value.int .i64 r25.2], v26, Value.int .i64 r25.2, v26, v15, Value.bool true, Value.bool false, Value.bool false, Value.int .i64 r25.2, Value.int .i64 r14.2, Value.bool false, Value.bool false, cnd (D 0) (Value.agg (([Value.int .i8 r19.f_Things, Value.int .i8 r19.f_Boat, v20] : List Value)).toArray) (O 47), cnd (D 1) (Value.agg (([Value.int .i8 a1.f_Things, Value.int .i8 a1.f_Boat, v2] : List Value)).toArray) (O 48), cnd (D 2) (Value.agg (([Value.int .i8 r30.f_Things, Value.int .i8 r30.f_Boat, v31] : List Value)).toArray) (O 49), O 50, O 51, O 52, O 53, O 54, O 55, O 56, O 57, O 58, O 59, O 60, O 61, O 62, O 63, O 64, O 65, O 66, O 67, O 68, O 69, O 70, O 71, O 72, O 73, O 74, O 75, O 76, O 77, O 78, O 79, O 80, O 81, O 82, O 83, O 84, O 85, O 86, O 87, O 88, O 89, O 90, O 91, O 92, O 93, O 94, O 95, O 96, O 97, O 98, O 99, O 100, O 101, O 102, O 103] ∧ St w0 [Asc (D 2) (Row 27 (K.int .u16) v31 r30.f_Rules), Row 27 (K.int .u16) v26 r25.1, Cells b22 (([Value.int .i8 r19.f_Things, Value.int .i8 r19.f_Boat, v20] : List Value)) 32, Row 27 (K.int .u16) v20 r19.f_Rules, Row 27 (K.int .u16) v11 r10.f_Rules, Row 27 (K.int .u16) v15 r14.1, Cells b7 (enc_S_impl_Bank a4) 39, Cells b5 (([Value.int .i8 a1.f_Things, Value.int .i8 a1.f_Boat, v2] : List Value)) 25] w) ?_ ⟨?_, ⟨?_, ⟨?_, trivial⟩⟩⟩ ?_
            · have hs := hs.emp
              exact ⟨undef, fun i => T.getD i undef, (by subst hT; rfl), hs⟩
            · intro D t w hD hp hcl hI rest hk
              obtain ⟨v31, O, ht, hs⟩ := hI
              have hp : AllDone D [] := hp
              have u0_ : upd D 0 0 = true := rfl
              have u1_ : upd D 0 1 = D 1 := rfl
              have u2_ : upd D 0 2 = D 2 := rfl
              simp only [hD, cnd_t, cnd_f, Asc_t, Asc_f] at ht hs
              subst ht
              refine s_loadA rfl rfl (es := (([Value.int .i8 r19.f_Things, Value.int .i8 r19.f_Boat, v20] : List Value))) rfl rfl (fun _ => rfl) (n := 3) (fun _ => rfl) rfl (cells_all (hs.cells 2 rfl)) ?_
              show G _ _ _ _ [_, _, _, _, _, _, _, _, _, _, _, _, _, _, _, _, _, _, _, _, _, _, _, _, _, _, _, _, _, _, _, _, _, _, _, _, _, _, _, _, _, _, _, _, _, _, _, _, _, _, _, _, _, _, _, _, _, _, _, _, _, _, _, _, _, _, _, _, _, _, _, _, _, _, _, _, _, _, _, _, _, _, _, _, _, _, _, _, _, _, _, _, _, _, _, _, _, _, _, _, _, _, _, _] _
              exact hk _ _ ⟨v31, O, (by simp only [u0_, u1_, u2_, cnd_t, cnd_f, Asc_t, Asc_f]), hs.cast (by first | rfl | simp only [List.take, List.drop, List.cons_append, List.nil_append, List.set_cons_zero, List.set_cons_succ, List.eraseIdx, u0_, u1_, u2_, cnd_t, cnd_f, Asc_t, Asc_f])⟩
            · intro D t w hD hp hcl hI rest hk
              obtain ⟨v31, O, ht, hs⟩ := hI
              have hp : AllDone D [] := hp
              have q2_ : D 2 = false := not_yet (show D 2 = true → AllDone D [1] from hcl 2 (by decide)) 0 1 rfl hD
              have u0_ : upd D 1 0 = D 0 := rfl
              have u1_ : upd D 1 1 = true := rfl
              have u2_ : upd D 1 2 = D 2 := rfl
              simp only [hD, q2_, cnd_t, cnd_f, Asc_t, Asc_f] at ht hs
              subst ht
              refine s_loadA rfl rfl (es := (([Value.int .i8 a1.f_Things, Value.int .i8 a1.f_Boat, v2] : List Value))) rfl rfl (fun _ => rfl) (n := 3) (fun _ => rfl) rfl (cells_all (hs.cells 7 rfl)) ?_
              show G _ _ _ _ [_, _, _, _, _, _, _, _, _, _, _, _, _, _, _, _, _, _, _, _, _, _, _, _, _, _, _, _, _, _, _, _, _, _, _, _, _, _, _, _, _, _, _, _, _, _, _, _, _, _, _, _, _, _, _, _, _, _, _, _, _, _, _, _, _, _, _, _, _, _, _, _, _, _, _, _, _, _, _, _, _, _, _, _, _, _, _, _, _, _, _, _, _, _, _, _, _, _, _, _, _, _, _, _] _
              exact hk _ _ ⟨v31, O, (by simp only [u0_, u1_, u2_, q2_, cnd_t, cnd_f, Asc_t, Asc_f]), hs.cast (by first | rfl | simp only [List.take, List.drop, List.cons_append, List.nil_append, List.set_cons_zero, List.set_cons_succ, List.eraseIdx, u0_, u1_, u2_, q2_, cnd_t, cnd_f, Asc_t, Asc_f])⟩
            · intro D t w hD hp hcl hI rest hk
              obtain ⟨v31, O, ht, hs⟩ := hI
              have hp : AllDone D [1] := hp
              obtain ⟨p1_, _⟩ := hp
              have u0_ : upd D 2 0 = D 0 := rfl
              have u1_ : upd D 2 1 = D 1 := rfl
              have u2_ : upd D 2 2 = true := rfl
              simp only [hD, p1_, cnd_t, cnd_f, Asc_t, Asc_f] at ht hs
              subst ht
              refine s_call (args := [Value.agg (([Value.int .i8 a1.f_Things, Value.int .i8 a1.f_Boat, v2] : List Value)).toArray]) rfl rfl (x_call rfl (callFunc_enter Try.func13 rfl rfl) rfl) (laws_toFerry.calls (a1 := (⟨a1.f_Things, a1.f_Boat, a1.f_Rules⟩ : S_laws_Ferry)) (hs.rd hr3) Hr30) ?_
              rintro _ w ⟨v31, rfl, hs2⟩
              have hs : St _ [_, _, _, _, _, _, _, _, _] _ := hs.call hs2
              show G _ _ _ _ [_, _, _, _, _, _, _, _, _, _, _, _, _, _, _, _, _, _, _, _, _, _, _, _, _, _, _, _, _, _, _, _, _, _, _, _, _, _, _, _, _, _, _, _, _, _, _, _, _, _, _, _, _, _, _, _, _, _, _, _, _, _, _, _, _, _, _, _, _, _, _, _, _, _, _, _, _, _, _, _, _, _, _, _, _, _, _, _, _, _, _, _, _, _, _, _, _, _, _, _, _, _, _, _] _
              have hs := hs.fill 0 rfl
              exact hk _ _ ⟨v31, O, (by simp only [u0_, u1_, u2_, p1_, cnd_t, cnd_f, Asc_t, Asc_f]), hs.cast (by first | rfl | simp only [List.take, List.drop, List.cons_append, List.nil_append, List.set_cons_zero, List.set_cons_succ, List.eraseIdx, u0_, u1_, u2_, p1_, cnd_t, cnd_f, Asc_t, Asc_f])⟩
            · intro D t w rest hall hO1_ hI
              obtain ⟨v31, O, ht, hs⟩ := hI
              have p0_ : D 0 = true := hall 0 (by decide) rfl
              have p1_ : D 1 = true := hall 1 (by decide) rfl
              have p2_ : D 2 = true := hall 2 (by decide) rfl
              simp only [p0_, p1_, p2_, cnd_t, cnd_f, Asc_t, Asc_f] at ht hs
              subst ht
              obtain ⟨rest, rfl, hO2_⟩ := ord_one (m := 7) hO1_ rfl 3 (m' := 15) (by decide +kernel) rfl
              clear hO1_
              obtain ⟨r34, Hr34, H⟩ := bind_get H
              refine s_call (args := [Value.agg (([Value.int .i8 r19.f_Things, Value.int .i8 r19.f_Boat, v20] : List Value)).toArray, Value.agg (([Value.int .i8 r30.f_Things, Value.int .i8 r30.f_Boat, v31] : List Value)).toArray]) rfl rfl (x_call rfl (callFunc_enter Try.func17 rfl rfl) rfl) (laws_eqFerry.calls (a1 := (⟨r19.f_Things, r19.f_Boat, r19.f_Rules⟩ : S_laws_Ferry)) (a4 := (⟨r30.f_Things, r30.f_Boat, r30.f_Rules⟩ : S_laws_Ferry)) (hs.row 3 rfl) (hs.row 0 rfl) Hr34) ?_
              rintro _ w ⟨rfl, hs2⟩
              have hs : St _ [_, _, _, _, _, _, _, _] _ := hs.call hs2
              cases r34 with
              | true =>
                rw [if_pos rfl] at H
                show G _ _ _ _ [_, _, _, _, _, _, _, _, _, _, _, _, _, _, _, _, _, _, _, _, _, _, _, _, _, _, _, _, _, _, _, _, _, _, _, _, _, _, _, _, _, _, _, _, _, _, _, _, _, _, _, _, _, _, _, _, _, _, _, _, _, _, _, _, _, _, _, _, _, _, _, _, _, _, _, _, _, _, _, _, _, _, _, _, _, _, _, _, _, _, _, _, _, _, _, _, _, _, _, _, _, _, _, _] _
                obtain ⟨rest, rfl, hO3_⟩ := ord_one (m := 15) hO2_ rfl 4 (m' := 31) (by decide +kernel) rfl
                clear hO2_
                refine g_op (v := Value.bool false) rfl rfl rfl ?_
                show G _ _ _ _ [_, _, _, _, _, _, _, _, _, _, _, _, _, _, _, _, _, _, _, _, _, _, _, _, _, _, _, _, _, _, _, _, _, _, _, _, _, _, _, _, _, _, _, _, _, _, _, _, _, _, _, _, _, _, _, _, _, _, _, _, _, _, _, _, _, _, _, _, _, _, _, _, _, _, _, _, _, _, _, _, _, _, _, _, _, _, _, _, _, _, _, _, _, _, _, _, _, _, _, _, _, _, _, _] _
                obtain rfl := ord_end hO3_ rfl (by decide +kernel)
                refine g_ops_nil ?_
                refine g_cond_false rfl ?_
                refine g_skip ?_
                refine g_seq ?_
                refine g_region ?_
                show G _ _ _ (.inRegion _ [0] :: _) _ _
                refine g_op (v := Value.int .i64 1) rfl rfl rfl ?_
                show G _ _ _ _ [_, _, _, _, _, _, _, _, _, _, _, _, _, _, _, _, _, _, _, _, _, _, _, _, _, _, _, _, _, _, _, _, _, _, _, _, _, _, _, _, _, _, _, _, _, _, _, _, _, _, _, _, _, _, _, _, _, _, _, _, _, _, _, _, _, _, _, _, _, _, _, _, _, _, _, _, _, _, _, _, _, _, _, _, _, _, _, _, _, _, _, _, _, _, _, _, _, _, _, _, _, _, _, _] _
                refine g_ops_nil ?_
                refine g_seq ?_
                refine g_region ?_
                show G _ _ _ (.inRegion _ [0, 1, 2, 3] :: _) _ _
                refine s_loadA rfl rfl (es := (([Value.int .i8 r19.f_Things, Value.int .i8 r19.f_Boat, v20] : List Value))) rfl rfl (fun _ => rfl) (n := 3) (fun _ => rfl) rfl (cells_all (hs.cells 2 rfl)) ?_
                show G _ _ _ _ [_, _, _, _, _, _, _, _, _, _, _, _, _, _, _, _, _, _, _, _, _, _, _, _, _, _, _, _, _, _, _, _, _, _, _, _, _, _, _, _, _, _, _, _, _, _, _, _, _, _, _, _, _, _, _, _, _, _, _, _, _, _, _, _, _, _, _, _, _, _, _, _, _, _, _, _, _, _, _, _, _, _, _, _, _, _, _, _, _, _, _, _, _, _, _, _, _, _, _, _, _, _, _, _] _
                refine g_op (v := Value.int .i64 1) rfl rfl rfl ?_
                show G _ _ _ _ [_, _, _, _, _, _, _, _, _, _, _, _, _, _, _, _, _, _, _, _, _, _, _, _, _, _, _, _, _, _, _, _, _, _, _, _, _, _, _, _, _, _, _, _, _, _, _, _, _, _, _, _, _, _, _, _, _, _, _, _, _, _, _, _, _, _, _, _, _, _, _, _, _, _, _, _, _, _, _, _, _, _, _, _, _, _, _, _, _, _, _, _, _, _, _, _, _, _, _, _, _, _, _, _] _
                obtain ⟨r35, Hr35, H⟩ := bind_get H
                have hs := hs.pull 3 rfl
                have hs : St _ [_, _, _, _, _, _, _, _] _ := hs
                have hs := hs.pack 1
                refine s_call (args := [Value.agg (([Value.int .i8 r19.f_Things, Value.int .i8 r19.f_Boat, v20] : List Value)).toArray, Value.int .i64 1]) rfl rfl (x_call rfl (callFunc_enter Try.func22 rfl rfl) rfl) (laws_markFerry.calls (a1 := (⟨r19.f_Things, r19.f_Boat, r19.f_Rules⟩ : S_laws_Ferry)) (a4 := 1) hs Hr35) ?_
                rintro _ w ⟨rfl, hs⟩
                have hs := St.unpack (Γ := [_]) hs
                have hs : St _ [_, _, _, _, _, _, _, _] _ := hs
                show G _ _ _ _ [_, _, _, _, _, _, _, _, _, _, _, _, _, _, _, _, _, _, _, _, _, _, _, _, _, _, _, _, _, _, _, _, _, _, _, _, _, _, _, _, _, _, _, _, _, _, _, _, _, _, _, _, _, _, _, _, _, _, _, _, _, _, _, _, _, _, _, _, _, _, _, _, _, _, _, _, _, _, _, _, _, _, _, _, _, _, _, _, _, _, _, _, _, _, _, _, _, _, _, _, _, _, _, _] _
                refine g_op (v := Value.int .i64 r35.1) rfl rfl rfl ?_
                show G _ _ _ _ [_, _, _, _, _, _, _, _, _, _, _, _, _, _, _, _, _, _, _, _, _, _, _, _, _, _, _, _, _, _, _, _, _, _, _, _, _, _, _, _, _, _, _, _, _, _, _, _, _, _, _, _, _, _, _, _, _, _, _, _, _, _, _, _, _, _, _, _, _, _, _, _, _, _, _, _, _, _, _, _, _, _, _, _, _, _, _, _, _, _, _, _, _, _, _, _, _, _, _, _, _, _, _, _] _
                refine g_ops_nil ?_
                refine g_seq ?_
                refine g_seq ?_
                refine g_region ?_
                show G _ _ _ (.inRegion _ [0, 1, 2, 3, 4, 5, 6, 7, 8, 9, 10, 11, 12] :: _) _ _
                refine g_op (v := Value.int .i64 r35.1) rfl rfl rfl ?_
                show G _ _ _ _ [_, _, _, _, _, _, _, _, _, _, _, _, _, _, _, _, _, _, _, _, _, _, _, _, _, _, _, _, _, _, _, _, _, _, _, _, _, _, _, _, _, _, _, _, _, _, _, _, _, _, _, _, _, _, _, _, _, _, _, _, _, _, _, _, _, _, _, _, _, _, _, _, _, _, _, _, _, _, _, _, _, _, _, _, _, _, _, _, _, _, _, _, _, _, _, _, _, _, _, _, _, _, _, _] _
                refine g_op_b (B := decide (r35.1 < 0)) rfl rfl rfl ?_ ?_
                · intro hb
                  rw [if_pos (b_dec_t hb)] at H
                  show G _ _ _ _ [_, _, _, _, _, _, _, _, _, _, _, _, _, _, _, _, _, _, _, _, _, _, _, _, _, _, _, _, _, _, _, _, _, _, _, _, _, _, _, _, _, _, _, _, _, _, _, _, _, _, _, _, _, _, _, _, _, _, _, _, _, _, _, _, _, _, _, _, _, _, _, _, _, _, _, _, _, _, _, _, _, _, _, _, _, _, _, _, _, _, _, _, _, _, _, _, _, _, _, _, _, _, _, _] _
                  refine g_op (v := Value.bool true) rfl rfl rfl ?_
                  show G _ _ _ _ [_, _, _, _, _, _, _, _, _, _, _, _, _, _, _, _, _, _, _, _, _, _, _, _, _, _, _, _, _, _, _, _, _, _, _, _, _, _, _, _, _, _, _, _, _, _, _, _, _, _, _, _, _, _, _, _, _, _, _, _, _, _, _, _, _, _, _, _, _, _, _, _, _, _, _, _, _, _, _, _, _, _, _, _, _, _, _, _, _, _, _, _, _, _, _, _, _, _, _, _, _, _, _, _] _
                  refine g_op_not rfl rfl ?_
                  show G _ _ _ _ [_, _, _, _, _, _, _, _, _, _, _, _, _, _, _, _, _, _, _, _, _, _, _, _, _, _, _, _, _, _, _, _, _, _, _, _, _, _, _, _, _, _, _, _, _, _, _, _, _, _, _, _, _, _, _, _, _, _, _, _, _, _, _, _, _, _, _, _, _, _, _, _, _, _, _, _, _, _, _, _, _, _, _, _, _, _, _, _, _, _, _, _, _, _, _, _, _, _, _, _, _, _, _, _] _
                  refine g_op_not rfl rfl ?_
                  show G _ _ _ _ [_, _, _, _, _, _, _, _, _, _, _, _, _, _, _, _, _, _, _, _, _, _, _, _, _, _, _, _, _, _, _, _, _, _, _, _, _, _, _, _, _, _, _, _, _, _, _, _, _, _, _, _, _, _, _, _, _, _, _, _, _, _, _, _, _, _, _, _, _, _, _, _, _, _, _, _, _, _, _, _, _, _, _, _, _, _, _, _, _, _, _, _, _, _, _, _, _, _, _, _, _, _, _, _] _
                  refine g_op_not rfl rfl ?_
                  show G _ _ _ _ [_, _, _, _, _, _, _, _, _, _, _, _, _, _, _, _, _, _, _, _, _, _, _, _, _, _, _, _, _, _, _, _, _, _, _, _, _, _, _, _, _, _, _, _, _, _, _, _, _, _, _, _, _, _, _, _, _, _, _, _, _, _, _, _, _, _, _, _, _, _, _, _, _, _, _, _, _, _, _, _, _, _, _, _, _, _, _, _, _, _, _, _, _, _, _, _, _, _, _, _, _, _, _, _] _
                  refine g_op_not rfl rfl ?_
                  show G _ _ _ _ [_, _, _, _, _, _, _, _, _, _, _, _, _, _, _, _, _, _, _, _, _, _, _, _, _, _, _, _, _, _, _, _, _, _, _, _, _, _, _, _, _, _, _, _, _, _, _, _, _, _, _, _, _, _, _, _, _, _, _, _, _, _, _, _, _, _, _, _, _, _, _, _, _, _, _, _, _, _, _, _, _, _, _, _, _, _, _, _, _, _, _, _, _, _, _, _, _, _, _, _, _, _, _, _] _
                  refine g_op (v := Value.bool true) rfl rfl rfl ?_
                  show G _ _ _ _ [_, _, _, _, _, _, _, _, _, _, _, _, _, _, _, _, _, _, _, _, _, _, _, _, _, _, _, _, _, _, _, _, _, _, _, _, _, _, _, _, _, _, _, _, _, _, _, _, _, _, _, _, _, _, _, _, _, _, _, _, _, _, _, _, _, _, _, _, _, _, _, _, _, _, _, _, _, _, _, _, _, _, _, _, _, _, _, _, _, _, _, _, _, _, _, _, _, _, _, _, _, _, _, _] _
                  refine g_op (v := Value.bool true) rfl rfl rfl ?_
                  show G _ _ _ _ [_, _, _, _, _, _, _, _, _, _, _, _, _, _, _, _, _, _, _, _, _, _, _, _, _, _, _, _, _, _, _, _, _, _, _, _, _, _, _, _, _, _, _, _, _, _, _, _, _, _, _, _, _, _, _, _, _, _, _, _, _, _, _, _, _, _, _, _, _, _, _, _, _, _, _, _, _, _, _, _, _, _, _, _, _, _, _, _, _, _, _, _, _, _, _, _, _, _, _, _, _, _, _, _] _
                  refine g_op_not rfl rfl ?_
                  show G _ _ _ _ [_, _, _, _, _, _, _, _, _, _, _, _, _, _, _, _, _, _, _, _, _, _, _, _, _, _, _, _, _, _, _, _, _, _, _, _, _, _, _, _, _, _, _, _, _, _, _, _, _, _, _, _, _, _, _, _, _, _, _, _, _, _, _, _, _, _, _, _, _, _, _, _, _, _, _, _, _, _, _, _, _, _, _, _, _, _, _, _, _, _, _, _, _, _, _, _, _, _, _, _, _, _, _, _] _
                  refine g_op_not rfl rfl ?_
                  show G _ _ _ _ [_, _, _, _, _, _, _, _, _, _, _, _, _, _, _, _, _, _, _, _, _, _, _, _, _, _, _, _, _, _, _, _, _, _, _, _, _, _, _, _, _, _, _, _, _, _, _, _, _, _, _, _, _, _, _, _, _, _, _, _, _, _, _, _, _, _, _, _, _, _, _, _, _, _, _, _, _, _, _, _, _, _, _, _, _, _, _, _, _, _, _, _, _, _, _, _, _, _, _, _, _, _, _, _] _
                  refine g_op_not rfl rfl ?_
                  show G _ _ _ _ [_, _, _, _, _, _, _, _, _, _, _, _, _, _, _, _, _, _, _, _, _, _, _, _, _, _, _, _, _, _, _, _, _, _, _, _, _, _, _, _, _, _, _, _, _, _, _, _, _, _, _, _, _, _, _, _, _, _, _, _, _, _, _, _, _, _, _, _, _, _, _, _, _, _, _, _, _, _, _, _, _, _, _, _, _, _, _, _, _, _, _, _, _, _, _, _, _, _, _, _, _, _, _, _] _
                  refine g_op (v := Value.bool true) rfl rfl rfl ?_
                  show G _ _ _ _ [_, _, _, _, _, _, _, _, _, _, _, _, _, _, _, _, _, _, _, _, _, _, _, _, _, _, _, _, _, _, _, _, _, _, _, _, _, _, _, _, _, _, _, _, _, _, _, _, _, _, _, _, _, _, _, _, _, _, _, _, _, _, _, _, _, _, _, _, _, _, _, _, _, _, _, _, _, _, _, _, _, _, _, _, _, _, _, _, _, _, _, _, _, _, _, _, _, _, _, _, _, _, _, _] _
                  refine g_ops_nil ?_
                  refine g_cond_true rfl ?_
                  refine g_seq ?_
                  refine g_region ?_
                  show G _ _ _ (.inRegion _ [0] :: _) _ _
                  refine g_op (v := Value.bool false) rfl rfl rfl ?_
                  show G _ _ _ _ [_, _, _, _, _, _, _, _, _, _, _, _, _, _, _, _, _, _, _, _, _, _, _, _, _, _, _, _, _, _, _, _, _, _, _, _, _, _, _, _, _, _, _, _, _, _, _, _, _, _, _, _, _, _, _, _, _, _, _, _, _, _, _, _, _, _, _, _, _, _, _, _, _, _, _, _, _, _, _, _, _, _, _, _, _, _, _, _, _, _, _, _, _, _, _, _, _, _, _, _, _, _, _, _] _
                  refine g_ops_nil ?_
                  obtain rfl := Option.some.inj H
                  refine g_ret Try.func4 (v := Value.bool false) (res1 rfl rfl) ?_
                  have hs : St _ [] _ := St.take (Γ' := [_, _, _, _, _, _, _, _]) hs
                  exact ⟨_, rfl, rfl, hs⟩
                · intro hb
                  rw [if_neg (b_dec_f hb)] at H
                  show G _ _ _ _ [_, _, _, _, _, _, _, _, _, _, _, _, _, _, _, _, _, _, _, _, _, _, _, _, _, _, _, _, _, _, _, _, _, _, _, _, _, _, _, _, _, _, _, _, _, _, _, _, _, _, _, _, _, _, _, _, _, _, _, _, _, _, _, _, _, _, _, _, _, _, _, _, _, _, _, _, _, _, _, _, _, _, _, _, _, _, _, _, _, _, _, _, _, _, _, _, _, _, _, _, _, _, _, _] _
                  refine g_op (v := Value.bool false) rfl rfl rfl ?_
                  show G _ _ _ _ [_, _, _, _, _, _, _, _, _, _, _, _, _, _, _, _, _, _, _, _, _, _, _, _, _, _, _, _, _, _, _, _, _, _, _, _, _, _, _, _, _, _, _, _, _, _, _, _, _, _, _, _, _, _, _, _, _, _, _, _, _, _, _, _, _, _, _, _, _, _, _, _, _, _, _, _, _, _, _, _, _, _, _, _, _, _, _, _, _, _, _, _, _, _, _, _, _, _, _, _, _, _, _, _] _
                  refine g_op (v := v26) rfl rfl rfl ?_
                  show G _ _ _ _ [_, _, _, _, _, _, _, _, _, _, _, _, _, _, _, _, _, _, _, _, _, _, _, _, _, _, _, _, _, _, _, _, _, _, _, _, _, _, _, _, _, _, _, _, _, _, _, _, _, _, _, _, _, _, _, _, _, _, _, _, _, _, _, _, _, _, _, _, _, _, _, _, _, _, _, _, _, _, _, _, _, _, _, _, _, _, _, _, _, _, _, _, _, _, _, _, _, _, _, _, _, _, _, _] _
                  refine g_op (v := v15) rfl rfl rfl ?_
                  show G _ _ _ _ [_, _, _, _, _, _, _, _, _, _, _, _, _, _, _, _, _, _, _, _, _, _, _, _, _, _, _, _, _, _, _, _, _, _, _, _, _, _, _, _, _, _, _, _, _, _, _, _, _, _, _, _, _, _, _, _, _, _, _, _, _, _, _, _, _, _, _, _, _, _, _, _, _, _, _, _, _, _, _, _, _, _, _, _, _, _, _, _, _, _, _, _, _, _, _, _, _, _, _, _, _, _, _, _] _
                  obtain ⟨r36, Hr36, H⟩ := bind_get H
                  refine s_call (args := [v26, v15]) rfl rfl (x_call rfl (callFunc_enter Try.func18 rfl rfl) rfl) (laws_eqUint16S.calls (a1 := r25.1) (a3 := r14.1) (hs.row 2 rfl) (hs.row 5 rfl) Hr36) ?_
                  rintro _ w ⟨rfl, hs2⟩
                  have hs : St _ [_, _, _, _, _, _, _, _] _ := hs.call hs2
                  show G _ _ _ _ [_, _, _, _, _, _, _, _, _, _, _, _, _, _, _, _, _, _, _, _, _, _, _, _, _, _, _, _, _, _, _, _, _, _, _, _, _, _, _, _, _, _, _, _, _, _, _, _, _, _, _, _, _, _, _, _, _, _, _, _, _, _, _, _, _, _, _, _, _, _, _, _, _, _, _, _, _, _, _, _, _, _, _, _, _, _, _, _, _, _, _, _, _, _, _, _, _, _, _, _, _, _, _, _] _
                  refine g_op (v := Value.bool (!r36)) rfl rfl rfl ?_
                  show G _ _ _ _ [_, _, _, _, _, _, _, _, _, _, _, _, _, _, _, _, _, _, _, _, _, _, _, _, _, _, _, _, _, _, _, _, _, _, _, _, _, _, _, _, _, _, _, _, _, _, _, _, _, _, _, _, _, _, _, _, _, _, _, _, _, _, _, _, _, _, _, _, _, _, _, _, _, _, _, _, _, _, _, _, _, _, _, _, _, _, _, _, _, _, _, _, _, _, _, _, _, _, _, _, _, _, _, _] _
                  refine g_op_b (B := !r36) rfl rfl rfl ?_ ?_
                  · intro hb
                    rw [if_neg (b_not_t hb)] at H
                    show G _ _ _ _ [_, _, _, _, _, _, _, _, _, _, _, _, _, _, _, _, _, _, _, _, _, _, _, _, _, _, _, _, _, _, _, _, _, _, _, _, _, _, _, _, _, _, _, _, _, _, _, _, _, _, _, _, _, _, _, _, _, _, _, _, _, _, _, _, _, _, _, _, _, _, _, _, _, _, _, _, _, _, _, _, _, _, _, _, _, _, _, _, _, _, _, _, _, _, _, _, _, _, _, _, _, _, _, _] _
                    refine g_op (v := Value.bool true) rfl rfl rfl ?_
                    show G _ _ _ _ [_, _, _, _, _, _, _, _, _, _, _, _, _, _, _, _, _, _, _, _, _, _, _, _, _, _, _, _, _, _, _, _, _, _, _, _, _, _, _, _, _, _, _, _, _, _, _, _, _, _, _, _, _, _, _, _, _, _, _, _, _, _, _, _, _, _, _, _, _, _, _, _, _, _, _, _, _, _, _, _, _, _, _, _, _, _, _, _, _, _, _, _, _, _, _, _, _, _, _, _, _, _, _, _] _
                    refine g_op_not rfl rfl ?_
                    show G _ _ _ _ [_, _, _, _, _, _, _, _, _, _, _, _, _, _, _, _, _, _, _, _, _, _, _, _, _, _, _, _, _, _, _, _, _, _, _, _, _, _, _, _, _, _, _, _, _, _, _, _, _, _, _, _, _, _, _, _, _, _, _, _, _, _, _, _, _, _, _, _, _, _, _, _, _, _, _, _, _, _, _, _, _, _, _, _, _, _, _, _, _, _, _, _, _, _, _, _, _, _, _, _, _, _, _, _] _
                    refine g_op_not rfl rfl ?_
                    show G _ _ _ _ [_, _, _, _, _, _, _, _, _, _, _, _, _, _, _, _, _, _, _, _, _, _, _, _, _, _, _, _, _, _, _, _, _, _, _, _, _, _, _, _, _, _, _, _, _, _, _, _, _, _, _, _, _, _, _, _, _, _, _, _, _, _, _, _, _, _, _, _, _, _, _, _, _, _, _, _, _, _, _, _, _, _, _, _, _, _, _, _, _, _, _, _, _, _, _, _, _, _, _, _, _, _, _, _] _
                    refine g_op_not rfl rfl ?_
                    show G _ _ _ _ [_, _, _, _, _, _, _, _, _, _, _, _, _, _, _, _, _, _, _, _, _, _, _, _, _, _, _, _, _, _, _, _, _, _, _, _, _, _, _, _, _, _, _, _, _, _, _, _, _, _, _, _, _, _, _, _, _, _, _, _, _, _, _, _, _, _, _, _, _, _, _, _, _, _, _, _, _, _, _, _, _, _, _, _, _, _, _, _, _, _, _, _, _, _, _, _, _, _, _, _, _, _, _, _] _
                    refine g_op (v := Value.bool true) rfl rfl rfl ?_
                    show G _ _ _ _ [_, _, _, _, _, _, _, _, _, _, _, _, _, _, _, _, _, _, _, _, _, _, _, _, _, _, _, _, _, _, _, _, _, _, _, _, _, _, _, _, _, _, _, _, _, _, _, _, _, _, _, _, _, _, _, _, _, _, _, _, _, _, _, _, _, _, _, _, _, _, _, _, _, _, _, _, _, _, _, _, _, _, _, _, _, _, _, _, _, _, _, _, _, _, _, _, _, _, _, _, _, _, _, _] _
                    refine g_ops_nil ?_
                    refine g_cond_true rfl ?_
                    refine g_seq ?_
                    refine g_region ?_
                    show G _ _ _ (.inRegion _ [0] :: _) _ _
                    refine g_op (v := Value.bool false) rfl rfl rfl ?_
                    show G _ _ _ _ [_, _, _, _, _, _, _, _, _, _, _, _, _, _, _, _, _, _, _, _, _, _, _, _, _, _, _, _, _, _, _, _, _, _, _, _, _, _, _, _, _, _, _, _, _, _, _, _, _, _, _, _, _, _, _, _, _, _, _, _, _, _, _, _, _, _, _, _, _, _, _, _, _, _, _, _, _, _, _, _, _, _, _, _, _, _, _, _, _, _, _, _, _, _, _, _, _, _, _, _, _, _, _, _] _
                    refine g_ops_nil ?_
                    obtain rfl := Option.some.inj H
                    refine g_ret Try.func4 (v := Value.bool false) (res1 rfl rfl) ?_
                    have hs : St _ [] _ := St.take (Γ' := [_, _, _, _, _, _, _, _]) hs
                    exact ⟨_, rfl, rfl, hs⟩
                  · intro hb
                    rw [if_pos (b_not_f hb)] at H
                    show G _ _ _ _ [_, _, _, _, _, _, _, _, _, _, _, _, _, _, _, _, _, _, _, _, _, _, _, _, _, _, _, _, _, _, _, _, _, _, _, _, _, _, _, _, _, _, _, _, _, _, _, _, _, _, _, _, _, _, _, _, _, _, _, _, _, _, _, _, _, _, _, _, _, _, _, _, _, _, _, _, _, _, _, _, _, _, _, _, _, _, _, _, _, _, _, _, _, _, _, _, _, _, _, _, _, _, _, _] _
                    refine g_op (v := Value.bool false) rfl rfl rfl ?_
                    show G _ _ _ _ [_, _, _, _, _, _, _, _, _, _, _, _, _, _, _, _, _, _, _, _, _, _, _, _, _, _, _, _, _, _, _, _, _, _, _, _, _, _, _, _, _, _, _, _, _, _, _, _, _, _, _, _, _, _, _, _, _, _, _, _, _, _, _, _, _, _, _, _, _, _, _, _, _, _, _, _, _, _, _, _, _, _, _, _, _, _, _, _, _, _, _, _, _, _, _, _, _, _, _, _, _, _, _, _] _
                    refine g_op (v := Value.int .i64 r25.2) rfl rfl rfl ?_
                    show G _ _ _ _ [_, _, _, _, _, _, _, _, _, _, _, _, _, _, _, _, _, _, _, _, _, _, _, _, _, _, _, _, _, _, _, _, _, _, _, _, _, _, _, _, _, _, _, _, _, _, _, _, _, _, _, _, _, _, _, _, _, _, _, _, _, _, _, _, _, _, _, _, _, _, _, _, _, _, _, _, _, _, _, _, _, _, _, _, _, _, _, _, _, _, _, _, _, _, _, _, _, _, _, _, _, _, _, _] _
                    refine g_op (v := Value.int .i64 r14.2) rfl rfl rfl ?_
                    show G _ _ _ _ [_, _, _, _, _, _, _, _, _, _, _, _, _, _, _, _, _, _, _, _, _, _, _, _, _, _, _, _, _, _, _, _, _, _, _, _, _, _, _, _, _, _, _, _, _, _, _, _, _, _, _, _, _, _, _, _, _, _, _, _, _, _, _, _, _, _, _, _, _, _, _, _, _, _, _, _, _, _, _, _, _, _, _, _, _, _, _, _, _, _, _, _, _, _, _, _, _, _, _, _, _, _, _, _] _
                    refine g_op_b (B := r25.2 != r14.2) rfl rfl rfl ?_ ?_
                    · intro hb
                      rw [if_neg (b_bne_t hb)] at H
                      show G _ _ _ _ [_, _, _, _, _, _, _, _, _, _, _, _, _, _, _, _, _, _, _, _, _, _, _, _, _, _, _, _, _, _, _, _, _, _, _, _, _, _, _, _, _, _, _, _, _, _, _, _, _, _, _, _, _, _, _, _, _, _, _, _, _, _, _, _, _, _, _, _, _, _, _, _, _, _, _, _, _, _, _, _, _, _, _, _, _, _, _, _, _, _, _, _, _, _, _, _, _, _, _, _, _, _, _, _] _
                      refine g_op (v := Value.bool true) rfl rfl rfl ?_
                      show G _ _ _ _ [_, _, _, _, _, _, _, _, _, _, _, _, _, _, _, _, _, _, _, _, _, _, _, _, _, _, _, _, _, _, _, _, _, _, _, _, _, _, _, _, _, _, _, _, _, _, _, _, _, _, _, _, _, _, _, _, _, _, _, _, _, _, _, _, _, _, _, _, _, _, _, _, _, _, _, _, _, _, _, _, _, _, _, _, _, _, _, _, _, _, _, _, _, _, _, _, _, _, _, _, _, _, _, _] _
                      refine g_ops_nil ?_
                      refine g_cond_true rfl ?_
                      refine g_seq ?_
                      refine g_region ?_
                      show G _ _ _ (.inRegion _ [0] :: _) _ _
                      refine g_op (v := Value.bool false) rfl rfl rfl ?_
                      show G _ _ _ _ [_, _, _, _, _, _, _, _, _, _, _, _, _, _, _, _, _, _, _, _, _, _, _, _, _, _, _, _, _, _, _, _, _, _, _, _, _, _, _, _, _, _, _, _, _, _, _, _, _, _, _, _, _, _, _, _, _, _, _, _, _, _, _, _, _, _, _, _, _, _, _, _, _, _, _, _, _, _, _, _, _, _, _, _, _, _, _, _, _, _, _, _, _, _, _, _, _, _, _, _, _, _, _, _] _
                      refine g_ops_nil ?_
                      obtain rfl := Option.some.inj H
                      refine g_ret Try.func4 (v := Value.bool false) (res1 rfl rfl) ?_
                      have hs : St _ [] _ := St.take (Γ' := [_, _, _, _, _, _, _, _]) hs
                      exact ⟨_, rfl, rfl, hs⟩
                    · intro hb
                      rw [if_pos (b_bne_f hb)] at H
                      show G _ _ _ _ [_, _, _, _, _, _, _, _, _, _, _, _, _, _, _, _, _, _, _, _, _, _, _, _, _, _, _, _, _, _, _, _, _, _, _, _, _, _, _, _, _, _, _, _, _, _, _, _, _, _, _, _, _, _, _, _, _, _, _, _, _, _, _, _, _, _, _, _, _, _, _, _, _, _, _, _, _, _, _, _, _, _, _, _, _, _, _, _, _, _, _, _, _, _, _, _, _, _, _, _, _, _, _, _] _
                      refine g_op (v := Value.bool false) rfl rfl rfl ?_
                      show G _ _ _ _ [_, _, _, _, _, _, _, _, _, _, _, _, _, _, _, _, _, _, _, _, _, _, _, _, _, _, _, _, _, _, _, _, _, _, _, _, _, _, _, _, _, _, _, _, _, _, _, _, _, _, _, _, _, _, _, _, _, _, _, _, _, _, _, _, _, _, _, _, _, _, _, _, _, _, _, _, _, _, _, _, _, _, _, _, _, _, _, _, _, _, _, _, _, _, _, _, _, _, _, _, _, _, _, _] _
                      refine g_ops_nil ?_
                      refine g_cond_false rfl ?_
                      refine g_skip ?_
                      refine g_seq ?_
                      refine g_region ?_
                      show G _ _ _ (.inRegion _ [0] :: _) _ _
                      refine g_op (v := Value.int .i64 1) rfl rfl rfl ?_
                      show G _ _ _ _ [_, _, _, _, _, _, _, _, _, _, _, _, _, _, _, _, _, _, _, _, _, _, _, _, _, _, _, _, _, _, _, _, _, _, _, _, _, _, _, _, _, _, _, _, _, _, _, _, _, _, _, _, _, _, _, _, _, _, _, _, _, _, _, _, _, _, _, _, _, _, _, _, _, _, _, _, _, _, _, _, _, _, _, _, _, _, _, _, _, _, _, _, _, _, _, _, _, _, _, _, _, _, _, _] _
                      refine g_ops_nil ?_
                      refine g_seq ?_
                      refine g_region ?_
                      show G _ _ _ (.inRegion _ [0, 1, 2, 3] :: _) _ _
                      refine g_op (v := v26) rfl rfl rfl ?_
                      show G _ _ _ _ [_, _, _, _, _, _, _, _, _, _, _, _, _, _, _, _, _, _, _, _, _, _, _, _, _, _, _, _, _, _, _, _, _, _, _, _, _, _, _, _, _, _, _, _, _, _, _, _, _, _, _, _, _, _, _, _, _, _, _, _, _, _, _, _, _, _, _, _, _, _, _, _, _, _, _, _, _, _, _, _, _, _, _, _, _, _, _, _, _, _, _, _, _, _, _, _, _, _, _, _, _, _, _, _] _
                      refine g_op (v := Value.int .i64 1) rfl rfl rfl ?_
                      show G _ _ _ _ [_, _, _, _, _, _, _, _, _, _, _, _, _, _, _, _, _, _, _, _, _, _, _, _, _, _, _, _, _, _, _, _, _, _, _, _, _, _, _, _, _, _, _, _, _, _, _, _, _, _, _, _, _, _, _, _, _, _, _, _, _, _, _, _, _, _, _, _, _, _, _, _, _, _, _, _, _, _, _, _, _, _, _, _, _, _, _, _, _, _, _, _, _, _, _, _, _, _, _, _, _, _, _, _] _
                      obtain ⟨r37, Hr37, H⟩ := bind_get H
                      have hs := hs.pull 2 rfl
                      have hs : St _ [_, _, _, _, _, _, _, _] _ := hs
                      have hs := hs.pack 1
                      refine s_call (args := [v26, Value.int .i64 1]) rfl rfl (x_call rfl (callFunc_enter Try.func23 rfl rfl) rfl) (laws_markUint16S.calls (a1 := r25.1) (a4 := 1) hs Hr37) ?_
                      rintro _ w ⟨rfl, hs⟩
                      have hs := St.unpack (Γ := [_]) hs
                      have hs : St _ [_, _, _, _, _, _, _, _] _ := hs
                      show G _ _ _ _ [_, _, _, _, _, _, _, _, _, _, _, _, _, _, _, _, _, _, _, _, _, _, _, _, _, _, _, _, _, _, _, _, _, _, _, _, _, _, _, _, _, _, _, _, _, _, _, _, _, _, _, _, _, _, _, _, _, _, _, _, _, _, _, _, _, _, _, _, _, _, _, _, _, _, _, _, _, _, _, _, _, _, _, _, _, _, _, _, _, _, _, _, _, _, _, _, _, _, _, _, _, _, _, _] _
                      refine g_op (v := Value.int .i64 r37.1) rfl rfl rfl ?_
                      show G _ _ _ _ [_, _, _, _, _, _, _, _, _, _, _, _, _, _, _, _, _, _, _, _, _, _, _, _, _, _, _, _, _, _, _, _, _, _, _, _, _, _, _, _, _, _, _, _, _, _, _, _, _, _, _, _, _, _, _, _, _, _, _, _, _, _, _, _, _, _, _, _, _, _, _, _, _, _, _, _, _, _, _, _, _, _, _, _, _, _, _, _, _, _, _, _, _, _, _, _, _, _, _, _, _, _, _, _] _
                      refine g_ops_nil ?_
                      refine g_seq ?_
                      refine g_region ?_
                      show G _ _ _ (.inRegion _ [0] :: _) _ _
                      refine g_op (v := Value.int .i64 1) rfl rfl rfl ?_
                      show G _ _ _ _ [_, _, _, _, _, _, _, _, _, _, _, _, _, _, _, _, _, _, _, _, _, _, _, _, _, _, _, _, _, _, _, _, _, _, _, _, _, _, _, _, _, _, _, _, _, _, _, _, _, _, _, _, _, _, _, _, _, _, _, _, _, _, _, _, _, _, _, _, _, _, _, _, _, _, _, _, _, _, _, _, _, _, _, _, _, _, _, _, _, _, _, _, _, _, _, _, _, _, _, _, _, _, _, _] _
                      refine g_ops_nil ?_
                      refine g_seq ?_
                      refine g_region ?_
                      show G _ _ _ (.inRegion _ [0, 1, 2, 3] :: _) _ _
                      refine g_op (v := v26) rfl rfl rfl ?_
                      show G _ _ _ _ [_, _, _, _, _, _, _, _, _, _, _, _, _, _, _, _, _, _, _, _, _, _, _, _, _, _, _, _, _, _, _, _, _, _, _, _, _, _, _, _, _, _, _, _, _, _, _, _, _, _, _, _, _, _, _, _, _, _, _, _, _, _, _, _, _, _, _, _, _, _, _, _, _, _, _, _, _, _, _, _, _, _, _, _, _, _, _, _, _, _, _, _, _, _, _, _, _, _, _, _, _, _, _, _] _
                      refine g_op (v := Value.int .i64 1) rfl rfl rfl ?_
                      show G _ _ _ _ [_, _, _, _, _, _, _, _, _, _, _, _, _, _, _, _, _, _, _, _, _, _, _, _, _, _, _, _, _, _, _, _, _, _, _, _, _, _, _, _, _, _, _, _, _, _, _, _, _, _, _, _, _, _, _, _, _, _, _, _, _, _, _, _, _, _, _, _, _, _, _, _, _, _, _, _, _, _, _, _, _, _, _, _, _, _, _, _, _, _, _, _, _, _, _, _, _, _, _, _, _, _, _, _] _
                      obtain ⟨r38, Hr38, H⟩ := bind_get H
                      refine s_call (args := [v26, Value.int .i64 1]) rfl rfl (x_call rfl (callFunc_enter Try.func24 rfl rfl) rfl) (laws_heldUint16S.calls (a1 := r37.2) (a3 := 1) (hs.row 0 rfl) Hr38) ?_
                      rintro _ w ⟨rfl, hs2⟩
                      have hs : St _ [_, _, _, _, _, _, _, _] _ := hs.call hs2
                      show G _ _ _ _ [_, _, _, _, _, _, _, _, _, _, _, _, _, _, _, _, _, _, _, _, _, _, _, _, _, _, _, _, _, _, _, _, _, _, _, _, _, _, _, _, _, _, _, _, _, _, _, _, _, _, _, _, _, _, _, _, _, _, _, _, _, _, _, _, _, _, _, _, _, _, _, _, _, _, _, _, _, _, _, _, _, _, _, _, _, _, _, _, _, _, _, _, _, _, _, _, _, _, _, _, _, _, _, _] _
                      refine g_op (v := Value.int .i64 r38) rfl rfl rfl ?_
                      show G _ _ _ _ [_, _, _, _, _, _, _, _, _, _, _, _, _, _, _, _, _, _, _, _, _, _, _, _, _, _, _, _, _, _, _, _, _, _, _, _, _, _, _, _, _, _, _, _, _, _, _, _, _, _, _, _, _, _, _, _, _, _, _, _, _, _, _, _, _, _, _, _, _, _, _, _, _, _, _, _, _, _, _, _, _, _, _, _, _, _, _, _, _, _, _, _, _, _, _, _, _, _, _, _, _, _, _, _] _
                      refine g_ops_nil ?_
                      refine g_seq ?_
                      refine g_seq ?_
                      refine g_region ?_
                      show G _ _ _ (.inRegion _ [0, 1] :: _) _ _
                      refine g_op (v := Value.int .i64 r38) rfl rfl rfl ?_
                      show G _ _ _ _ [_, _, _, _, _, _, _, _, _, _, _, _, _, _, _, _, _, _, _, _, _, _, _, _, _, _, _, _, _, _, _, _, _, _, _, _, _, _, _, _, _, _, _, _, _, _, _, _, _, _, _, _, _, _, _, _, _, _, _, _, _, _, _, _, _, _, _, _, _, _, _, _, _, _, _, _, _, _, _, _, _, _, _, _, _, _, _, _, _, _, _, _, _, _, _, _, _, _, _, _, _, _, _, _] _
                      refine g_op_b (B := decide (r38 < 0)) rfl rfl rfl ?_ ?_
                      · intro hb
                        rw [if_pos (b_dec_t hb)] at H
                        show G _ _ _ _ [_, _, _, _, _, _, _, _, _, _, _, _, _, _, _, _, _, _, _, _, _, _, _, _, _, _, _, _, _, _, _, _, _, _, _, _, _, _, _, _, _, _, _, _, _, _, _, _, _, _, _, _, _, _, _, _, _, _, _, _, _, _, _, _, _, _, _, _, _, _, _, _, _, _, _, _, _, _, _, _, _, _, _, _, _, _, _, _, _, _, _, _, _, _, _, _, _, _, _, _, _, _, _, _] _
                        refine g_ops_nil ?_
                        refine g_cond_true rfl ?_
                        refine g_seq ?_
                        refine g_region ?_
                        show G _ _ _ (.inRegion _ [0] :: _) _ _
                        refine g_op (v := Value.bool false) rfl rfl rfl ?_
                        show G _ _ _ _ [_, _, _, _, _, _, _, _, _, _, _, _, _, _, _, _, _, _, _, _, _, _, _, _, _, _, _, _, _, _, _, _, _, _, _, _, _, _, _, _, _, _, _, _, _, _, _, _, _, _, _, _, _, _, _, _, _, _, _, _, _, _, _, _, _, _, _, _, _, _, _, _, _, _, _, _, _, _, _, _, _, _, _, _, _, _, _, _, _, _, _, _, _, _, _, _, _, _, _, _, _, _, _, _] _
                        refine g_ops_nil ?_
                        obtain rfl := Option.some.inj H
                        refine g_ret Try.func4 (v := Value.bool false) (res1 rfl rfl) ?_
                        have hs : St _ [] _ := St.take (Γ' := [_, _, _, _, _, _, _, _]) hs
                        exact ⟨_, rfl, rfl, hs⟩
                      · intro hb
                        rw [if_neg (b_dec_f hb)] at H
                        show G _ _ _ _ [_, _, _, _, _, _, _, _, _, _, _, _, _, _, _, _, _, _, _, _, _, _, _, _, _, _, _, _, _, _, _, _, _, _, _, _, _, _, _, _, _, _, _, _, _, _, _, _, _, _, _, _, _, _, _, _, _, _, _, _, _, _, _, _, _, _, _, _, _, _, _, _, _, _, _, _, _, _, _, _, _, _, _, _, _, _, _, _, _, _, _, _, _, _, _, _, _, _, _, _, _, _, _, _] _
                        refine g_ops_nil ?_
                        refine g_cond_false rfl ?_
                        refine g_skip ?_
                        refine g_seq ?_
                        refine g_seq ?_
                        refine g_region ?_
                        show G _ _ _ (.inRegion _ [0, 1, 2] :: _) _ _
                        refine g_op (v := Value.int .i64 r38) rfl rfl rfl ?_
                        show G _ _ _ _ [_, _, _, _, _, _, _, _, _, _, _, _, _, _, _, _, _, _, _, _, _, _, _, _, _, _, _, _, _, _, _, _, _, _, _, _, _, _, _, _, _, _, _, _, _, _, _, _, _, _, _, _, _, _, _, _, _, _, _, _, _, _, _, _, _, _, _, _, _, _, _, _, _, _, _, _, _, _, _, _, _, _, _, _, _, _, _, _, _, _, _, _, _, _, _, _, _, _, _, _, _, _, _, _] _
                        refine g_op (v := Value.int .i64 r37.1) rfl rfl rfl ?_
                        show G _ _ _ _ [_, _, _, _, _, _, _, _, _, _, _, _, _, _, _, _, _, _, _, _, _, _, _, _, _, _, _, _, _, _, _, _, _, _, _, _, _, _, _, _, _, _, _, _, _, _, _, _, _, _, _, _, _, _, _, _, _, _, _, _, _, _, _, _, _, _, _, _, _, _, _, _, _, _, _, _, _, _, _, _, _, _, _, _, _, _, _, _, _, _, _, _, _, _, _, _, _, _, _, _, _, _, _, _] _
                        refine g_op_b (B := r38 != r37.1) rfl rfl rfl ?_ ?_
                        · intro hb
                          rw [if_neg (b_bne_t hb)] at H
                          show G _ _ _ _ [_, _, _, _, _, _, _, _, _, _, _, _, _, _, _, _, _, _, _, _, _, _, _, _, _, _, _, _, _, _, _, _, _, _, _, _, _, _, _, _, _, _, _, _, _, _, _, _, _, _, _, _, _, _, _, _, _, _, _, _, _, _, _, _, _, _, _, _, _, _, _, _, _, _, _, _, _, _, _, _, _, _, _, _, _, _, _, _, _, _, _, _, _, _, _, _, _, _, _, _, _, _, _, _] _
                          refine g_ops_nil ?_
                          refine g_cond_true rfl ?_
                          refine g_seq ?_
                          refine g_region ?_
                          show G _ _ _ (.inRegion _ [0] :: _) _ _
                          refine g_op (v := Value.bool false) rfl rfl rfl ?_
                          show G _ _ _ _ [_, _, _, _, _, _, _, _, _, _, _, _, _, _, _, _, _, _, _, _, _, _, _, _, _, _, _, _, _, _, _, _, _, _, _, _, _, _, _, _, _, _, _, _, _, _, _, _, _, _, _, _, _, _, _, _, _, _, _, _, _, _, _, _, _, _, _, _, _, _, _, _, _, _, _, _, _, _, _, _, _, _, _, _, _, _, _, _, _, _, _, _, _, _, _, _, _, _, _, _, _, _, _, _] _
                          refine g_ops_nil ?_
                          obtain rfl := Option.some.inj H
                          refine g_ret Try.func4 (v := Value.bool false) (res1 rfl rfl) ?_
                          have hs : St _ [] _ := St.take (Γ' := [_, _, _, _, _, _, _, _]) hs
                          exact ⟨_, rfl, rfl, hs⟩
                        · intro hb
                          rw [if_pos (b_bne_f hb)] at H
                          show G _ _ _ _ [_, _, _, _, _, _, _, _, _, _, _, _, _, _, _, _, _, _, _, _, _, _, _, _, _, _, _, _, _, _, _, _, _, _, _, _, _, _, _, _, _, _, _, _, _, _, _, _, _, _, _, _, _, _, _, _, _, _, _, _, _, _, _, _, _, _, _, _, _, _, _, _, _, _, _, _, _, _, _, _, _, _, _, _, _, _, _, _, _, _, _, _, _, _, _, _, _, _, _, _, _, _, _, _] _
                          refine g_ops_nil ?_
                          refine g_cond_false rfl ?_
                          refine g_skip ?_
                          refine g_seq ?_
                          obtain ⟨r39, Hr39, H⟩ := bind_get H
                          obtain ⟨r42, Hr42, H⟩ := bind_get H
                          obtain ⟨r43, Hr43, H⟩ := bind_get H
                          refine g_name ?_
                          intro T hT
                          refine g_any (n := 10) rfl [0, 1, 2, 3, 4, 5, 6, 7, 8, 9] [0, 1, 2, 3, 4, 5, 6, 8, 7, 9] rfl rfl (Inv := fun D t w => ∃ v40 : Value, ∃ v44 : Value, ∃ O : Nat → Value, t = [Value.agg (([Value.int .i8 a1.f_Things, Value.int .i8 a1.f_Boat, v2] : List Value)).toArray, Value.agg (enc_S_impl_Bank a4).toArray, Value.pointer (some ⟨b5, 0, none⟩), Value.pointer (some ⟨b7, 0, none⟩), Value.bool false, Value.int .i64 r9, v15, Value.int .i64 r14.2, Value.pointer (some ⟨b22, 0, none⟩), v26, Value.int .i64 r25.2, Value.int .i64 r35.1, Value.int .i64 r37.1, Value.int .i64 r38, cnd (D 8) v44 (O 14), cnd (D 9) (Value.int .i64 r43.2) (O 15), Value.agg (([Value.int .i8 a1.f_Things, Value.int .i8 a1.f_Boat, v2] : List Value)).toArray, Value.int .i64 1048576, Value.int .i64 r9, Value.int .i64 r9, Value.bool false, Value.tuple #[v15, Value.int .i64 r14.2], Value.agg (([Value.int .i8 a1.f_Things, Value.int .i8 a1.f_Boat, v2] : List Value)).toArray, Value.agg (([Value.int .i8 r10.f_Things, Value.int .i8 r10.f_Boat, v11] : List Value)).toArray, Value.agg (enc_S_impl_Bank a4).toArray, Value.agg (enc_S_impl_Bank r13).toArray, Value.tuple #[v15, Value.int .i64 r14.2], v15, Value.int .i64 r14.2, Value.agg (([Value.int .i8 a1.f_Things, Value.int .i8 a1.f_Boat, v2] : List Value)).toArray, Value.agg (([Value.int .i8 r19.f_Things, Value.int .i8 r19.f_Boat, v20] : List Value)).toArray, Value.tuple #[v26, Value.int .i64 r25.2], Value.agg (([Value.int .i8 r19.f_Things, Value.int .i8 r19.f_Boat, v20] : List Value)).toArray, Value.agg (enc_S_impl_Bank a4).toArray, Value.agg (enc_S_impl_Bank r24).toArray, Value.tuple #[v26, Value.int .i64 r25.2], v26, Value.int .i64 r25.2, v26, v15, Value.bool true, Value.bool false, Value.bool false, Value.int .i64 r25.2, Value.int .i64 r14.2, Value.bool false, Value.bool false, Value.agg (([Value.int .i8 r19.f_Things, Value.int .i8 r19.f_Boat, v20] : List Value)).toArray, Value.agg (([Value.int .i8 a1.f_Things, Value.int .i8 a1.f_Boat, v2] : List Value)).toArray, Value.agg (([Value.int .i8 r30.f_Things, Value.int .i8 r30.f_Boat, v31] : List Value)).toArray, Value.bool true, Value.bool false, Value.agg (([Value.int .i8 r19.f_Things, Value.int .i8 r19.f_Boat, v20] : List Value)).toArray, Value.int .i64 1, Value.int .i64 r35.1, Value.int .i64 r35.1, Value.bool false, Value.bool false, v26, v15, Value.bool r36, Value.bool (!r36), Value.bool false, Value.bool false, Value.int .i64 r25.2, Value.int .i64 r14.2, Value.bool false, Value.bool false, v26, Value.int .i64 1, Value.int .i64 r37.1, v26, Value.int .i64 1, Value.int .i64 r38, Value.int .i64 r38, Value.bool false, Value.int .i64 r38, Value.int .i64 r37.1, Value.bool false, cnd (D 5) (Value.tuple #[v44, Value.int .i64 r43.2]) (O 79), cnd (D 0) (Value.agg (([Value.int .i8 a1.f_Things, Value.int .i8 a1.f_Boat, v2] : List Value)).toArray) (O 80), cnd (D 1) (Value.agg (([Value.int .i8 r39.f_Things, Value.int .i8 r39.f_Boat, v40] : List Value)).toArray) (O 81), cnd (D 2) (Value.agg (enc_S_impl_Bank a4).toArray) (O 82), cnd (D 3) (Value.agg (enc_S_impl_Bank r42).toArray) (O 83), cnd (D 4) (Value.tuple #[v44, Value.int .i64 r43.2]) (O 84), cnd (D 6) v44 (O 85), cnd (D 7) (Value.int .i64 r43.2) (O 86), O 87, O 88, O 89, O 90, O 91, O 92, O 93, O 94, O 95, O 96, O 97, O 98, O 99, O 100, O 101, O 102, O 103] ∧ St w0 [Asc (D 1) (Row 27 (K.int .u16) v40 r39.f_Rules), Asc (D 4) (Row 27 (K.int .u16) v44 r43.1), Row 27 (K.int .u16) v26 r37.2, Row 27 (K.int .u16) v20 r35.2, Row 27 (K.int .u16) v31 r30.f_Rules, Cells b22 (([Value.int .i8 r19.f_Things, Value.int .i8 r19.f_Boat, v20] : List Value)) 32, Row 27 (K.int .u16) v11 r10.f_Rules, Row 27 (K.int .u16) v15 r14.1, Cells b7 (enc_S_impl_Bank a4) 39, Cells b5 (([Value.int .i8 a1.f_Things, Value.int .i8 a1.f_Boat, v2] : List Value)) 25] w) ?_ ⟨⟨⟨⟨⟨⟨⟨⟨⟨⟨trivial, ?_⟩, ?_⟩, ?_⟩, ?_⟩, ?_⟩, ?_⟩, ?_⟩, ?_⟩, ?_⟩, ?_⟩ ?_
                          · intro w hh hbw
                            have hs := hs.samew hh hbw
                            have hs := hs.emp
                            have hs := hs.emp
                            exact ⟨undef, undef, fun i => T.getD i undef, (by subst hT; rfl), hs⟩
                          · intro D t w hD hp hcl hI rest hk
                            obtain ⟨v40, v44, O, ht, hs⟩ := hI
                            have q1_ : D 1 = false := not_yet (hcl.get 1 (by decide)) 0 0 rfl hD
                            have q3_ : D 3 = false := not_yet (hcl.get 3 (by decide)) 1 1 rfl q1_
                            have q4_ : D 4 = false := not_yet (hcl.get 4 (by decide)) 0 1 rfl q1_
                            have q5_ : D 5 = false := not_yet (hcl.get 5 (by decide)) 0 4 rfl q4_
                            have q6_ : D 6 = false := not_yet (hcl.get 6 (by decide)) 0 5 rfl q5_
                            have q7_ : D 7 = false := not_yet (hcl.get 7 (by decide)) 0 5 rfl q5_
                            have q8_ : D 8 = false := not_yet (hcl.get 8 (by decide)) 0 6 rfl q6_
                            have q9_ : D 9 = false := not_yet (hcl.get 9 (by decide)) 0 7 rfl q7_
                            have u0_ : upd D 0 0 = true := rfl
                            have u1_ : upd D 0 1 = D 1 := rfl
                            have u2_ : upd D 0 2 = D 2 := rfl
                            have u3_ : upd D 0 3 = D 3 := rfl
                            have u4_ : upd D 0 4 = D 4 := rfl
                            have u5_ : upd D 0 5 = D 5 := rfl
                            have u6_ : upd D 0 6 = D 6 := rfl
                            have u7_ : upd D 0 7 = D 7 := rfl
                            have u8_ : upd D 0 8 = D 8 := rfl
                            have u9_ : upd D 0 9 = D 9 := rfl
                            simp only [hD, q1_, q3_, q4_, q5_, q6_, q7_, q8_, q9_, cnd_t, cnd_f, Asc_t, Asc_f] at ht hs
                            subst ht
                            refine s_loadA rfl rfl (es := (([Value.int .i8 a1.f_Things, Value.int .i8 a1.f_Boat, v2] : List Value))) rfl rfl (fun _ => rfl) (n := 3) (fun _ => rfl) rfl (cells_all (hs.cells 9 rfl)) ?_
                            show G _ _ _ _ [_, _, _, _, _, _, _, _, _, _, _, _, _, _, _, _, _, _, _, _, _, _, _, _, _, _, _, _, _, _, _, _, _, _, _, _, _, _, _, _, _, _, _, _, _, _, _, _, _, _, _, _, _, _, _, _, _, _, _, _, _, _, _, _, _, _, _, _, _, _, _, _, _, _, _, _, _, _, _, _, _, _, _, _, _, _, _, _, _, _, _, _, _, _, _, _, _, _, _, _, _, _, _, _] _
                            exact hk _ _ ⟨v40, v44, O, (by simp only [u0_, u1_, u2_, u3_, u4_, u5_, u6_, u7_, u8_, u9_, q1_, q3_, q4_, q5_, q6_, q7_, q8_, q9_, cnd_t, cnd_f, Asc_t, Asc_f]), hs.cast (by first | rfl | simp only [List.take, List.drop, List.cons_append, List.nil_append, List.set_cons_zero, List.set_cons_succ, List.eraseIdx, u0_, u1_, u2_, u3_, u4_, u5_, u6_, u7_, u8_, u9_, q1_, q3_, q4_, q5_, q6_, q7_, q8_, q9_, cnd_t, cnd_f, Asc_t, Asc_f])⟩
                          · intro D t w hD hp hcl hI rest hk
                            obtain ⟨v40, v44, O, ht, hs⟩ := hI
                            obtain ⟨p0_, _⟩ := hp
                            have q3_ : D 3 = false := not_yet (hcl.get 3 (by decide)) 1 1 rfl hD
                            have q4_ : D 4 = false := not_yet (hcl.get 4 (by decide)) 0 1 rfl hD
                            have q5_ : D 5 = false := not_yet (hcl.get 5 (by decide)) 0 4 rfl q4_
                            have q6_ : D 6 = false := not_yet (hcl.get 6 (by decide)) 0 5 rfl q5_
                            have q7_ : D 7 = false := not_yet (hcl.get 7 (by decide)) 0 5 rfl q5_
                            have q8_ : D 8 = false := not_yet (hcl.get 8 (by decide)) 0 6 rfl q6_
                            have q9_ : D 9 = false := not_yet (hcl.get 9 (by decide)) 0 7 rfl q7_
                            have u0_ : upd D 1 0 = D 0 := rfl
                            have u1_ : upd D 1 1 = true := rfl
                            have u2_ : upd D 1 2 = D 2 := rfl
                            have u3_ : upd D 1 3 = D 3 := rfl
                            have u4_ : upd D 1 4 = D 4 := rfl
                            have u5_ : upd D 1 5 = D 5 := rfl
                            have u6_ : upd D 1 6 = D 6 := rfl
                            have u7_ : upd D 1 7 = D 7 := rfl
                            have u8_ : upd D 1 8 = D 8 := rfl
                            have u9_ : upd D 1 9 = D 9 := rfl
                            simp only [hD, p0_, q3_, q4_, q5_, q6_, q7_, q8_, q9_, cnd_t, cnd_f, Asc_t, Asc_f] at ht hs
                            subst ht
                            refine s_call (args := [Value.agg (([Value.int .i8 a1.f_Things, Value.int .i8 a1.f_Boat, v2] : List Value)).toArray]) rfl rfl (x_call rfl (callFunc_enter Try.func13 rfl rfl) rfl) (laws_toFerry.calls (a1 := (⟨a1.f_Things, a1.f_Boat, a1.f_Rules⟩ : S_laws_Ferry)) (hs.rd hr3) Hr39) ?_
                            rintro _ w ⟨v40, rfl, hs2⟩
                            have hs : St _ [_, _, _, _, _, _, _, _, _, _, _] _ := hs.call hs2
                            show G _ _ _ _ [_, _, _, _, _, _, _, _, _, _, _, _, _, _, _, _, _, _, _, _, _, _, _, _, _, _, _, _, _, _, _, _, _, _, _, _, _, _, _, _, _, _, _, _, _, _, _, _, _, _, _, _, _, _, _, _, _, _, _, _, _, _, _, _, _, _, _, _, _, _, _, _, _, _, _, _, _, _, _, _, _, _, _, _, _, _, _, _, _, _, _, _, _, _, _, _, _, _, _, _, _, _, _, _] _
                            have hs := hs.fill 0 rfl
                            exact hk _ _ ⟨v40, v44, O, (by simp only [u0_, u1_, u2_, u3_, u4_, u5_, u6_, u7_, u8_, u9_, p0_, q3_, q4_, q5_, q6_, q7_, q8_, q9_, cnd_t, cnd_f, Asc_t, Asc_f]), hs.cast (by first | rfl | simp only [List.take, List.drop, List.cons_append, List.nil_append, List.set_cons_zero, List.set_cons_succ, List.eraseIdx, u0_, u1_, u2_, u3_, u4_, u5_, u6_, u7_, u8_, u9_, p0_, q3_, q4_, q5_, q6_, q7_, q8_, q9_, cnd_t, cnd_f, Asc_t, Asc_f])⟩
                          · intro D t w hD hp hcl hI rest hk
                            obtain ⟨v40, v44, O, ht, hs⟩ := hI
                            have q3_ : D 3 = false := not_yet (hcl.get 3 (by decide)) 0 2 rfl hD
                            have q4_ : D 4 = false := not_yet (hcl.get 4 (by decide)) 1 3 rfl q3_
                            have q5_ : D 5 = false := not_yet (hcl.get 5 (by decide)) 0 4 rfl q4_
                            have q6_ : D 6 = false := not_yet (hcl.get 6 (by decide)) 0 5 rfl q5_
                            have q7_ : D 7 = false := not_yet (hcl.get 7 (by decide)) 0 5 rfl q5_
                            have q8_ : D 8 = false := not_yet (hcl.get 8 (by decide)) 0 6 rfl q6_
                            have q9_ : D 9 = false := not_yet (hcl.get 9 (by decide)) 0 7 rfl q7_
                            have u0_ : upd D 2 0 = D 0 := rfl
                            have u1_ : upd D 2 1 = D 1 := rfl
                            have u2_ : upd D 2 2 = true := rfl
                            have u3_ : upd D 2 3 = D 3 := rfl
                            have u4_ : upd D 2 4 = D 4 := rfl
                            have u5_ : upd D 2 5 = D 5 := rfl
                            have u6_ : upd D 2 6 = D 6 := rfl
                            have u7_ : upd D 2 7 = D 7 := rfl
                            have u8_ : upd D 2 8 = D 8 := rfl
                            have u9_ : upd D 2 9 = D 9 := rfl
                            simp only [hD, q3_, q4_, q5_, q6_, q7_, q8_, q9_, cnd_t, cnd_f, Asc_t, Asc_f] at ht hs
                            subst ht
                            refine s_loadA rfl rfl (es := (enc_S_impl_Bank a4)) rfl rfl (fun _ => rfl) (n := 2) (fun _ => rfl) (fk_S_impl_Bank.len _) (cells_all (hs.cells 8 rfl)) ?_
                            show G _ _ _ _ [_, _, _, _, _, _, _, _, _, _, _, _, _, _, _, _, _, _, _, _, _, _, _, _, _, _, _, _, _, _, _, _, _, _, _, _, _, _, _, _, _, _, _, _, _, _, _, _, _, _, _, _, _, _, _, _, _, _, _, _, _, _, _, _, _, _, _, _, _, _, _, _, _, _, _, _, _, _, _, _, _, _, _, _, _, _, _, _, _, _, _, _, _, _, _, _, _, _, _, _, _, _, _, _] _
                            exact hk _ _ ⟨v40, v44, O, (by simp only [u0_, u1_, u2_, u3_, u4_, u5_, u6_, u7_, u8_, u9_, q3_, q4_, q5_, q6_, q7_, q8_, q9_, cnd_t, cnd_f, Asc_t, Asc_f]), hs.cast (by first | rfl | simp only [List.take, List.drop, List.cons_append, List.nil_append, List.set_cons_zero, List.set_cons_succ, List.eraseIdx, u0_, u1_, u2_, u3_, u4_, u5_, u6_, u7_, u8_, u9_, q3_, q4_, q5_, q6_, q7_, q8_, q9_, cnd_t, cnd_f, Asc_t, Asc_f])⟩
                          · intro D t w hD hp hcl hI rest hk
                            obtain ⟨v40, v44, O, ht, hs⟩ := hI
                            obtain ⟨p2_, p1_, _⟩ := hp
                            obtain ⟨p0_, _⟩ := (hcl.get 1 (by decide)) p1_
                            have q4_ : D 4 = false := not_yet (hcl.get 4 (by decide)) 1 3 rfl hD
                            have q5_ : D 5 = false := not_yet (hcl.get 5 (by decide)) 0 4 rfl q4_
                            have q6_ : D 6 = false := not_yet (hcl.get 6 (by decide)) 0 5 rfl q5_
                            have q7_ : D 7 = false := not_yet (hcl.get 7 (by decide)) 0 5 rfl q5_
                            have q8_ : D 8 = false := not_yet (hcl.get 8 (by decide)) 0 6 rfl q6_
                            have q9_ : D 9 = false := not_yet (hcl.get 9 (by decide)) 0 7 rfl q7_
                            have u0_ : upd D 3 0 = D 0 := rfl
                            have u1_ : upd D 3 1 = D 1 := rfl
                            have u2_ : upd D 3 2 = D 2 := rfl
                            have u3_ : upd D 3 3 = true := rfl
                            have u4_ : upd D 3 4 = D 4 := rfl
                            have u5_ : upd D 3 5 = D 5 := rfl
                            have u6_ : upd D 3 6 = D 6 := rfl
                            have u7_ : upd D 3 7 = D 7 := rfl
                            have u8_ : upd D 3 8 = D 8 := rfl
                            have u9_ : upd D 3 9 = D 9 := rfl
                            simp only [hD, p0_, p1_, p2_, q4_, q5_, q6_, q7_, q8_, q9_, cnd_t, cnd_f, Asc_t, Asc_f] at ht hs
                            subst ht
                            refine s_call (args := [Value.agg (enc_S_impl_Bank a4).toArray]) rfl rfl (x_call rfl (callFunc_enter Try.func20 rfl rfl) rfl) (laws_toBank.calls (a1 := a4) Hr42) ?_
                            rintro _ w ⟨rfl, hs2⟩
                            have hs : St _ [_, _, _, _, _, _, _, _, _, _] _ := hs.call hs2
                            show G _ _ _ _ [_, _, _, _, _, _, _, _, _, _, _, _, _, _, _, _, _, _, _, _, _, _, _, _, _, _, _, _, _, _, _, _, _, _, _, _, _, _, _, _, _, _, _, _, _, _, _, _, _, _, _, _, _, _, _, _, _, _, _, _, _, _, _, _, _, _, _, _, _, _, _, _, _, _, _, _, _, _, _, _, _, _, _, _, _, _, _, _, _, _, _, _, _, _, _, _, _, _, _, _, _, _, _, _] _
                            exact hk _ _ ⟨v40, v44, O, (by simp only [u0_, u1_, u2_, u3_, u4_, u5_, u6_, u7_, u8_, u9_, p0_, p1_, p2_, q4_, q5_, q6_, q7_, q8_, q9_, cnd_t, cnd_f, Asc_t, Asc_f]), hs.cast (by first | rfl | simp only [List.take, List.drop, List.cons_append, List.nil_append, List.set_cons_zero, List.set_cons_succ, List.eraseIdx, u0_, u1_, u2_, u3_, u4_, u5_, u6_, u7_, u8_, u9_, p0_, p1_, p2_, q4_, q5_, q6_, q7_, q8_, q9_, cnd_t, cnd_f, Asc_t, Asc_f])⟩
                          · intro D t w hD hp hcl hI rest hk
                            obtain ⟨v40, v44, O, ht, hs⟩ := hI
                            obtain ⟨p1_, p3_, _, _⟩ := hp
                            obtain ⟨p2_, _, _⟩ := (hcl.get 3 (by decide)) p3_
                            obtain ⟨p0_, _⟩ := (hcl.get 1 (by decide)) p1_
                            have q5_ : D 5 = false := not_yet (hcl.get 5 (by decide)) 0 4 rfl hD
                            have q6_ : D 6 = false := not_yet (hcl.get 6 (by decide)) 0 5 rfl q5_
                            have q7_ : D 7 = false := not_yet (hcl.get 7 (by decide)) 0 5 rfl q5_
                            have q8_ : D 8 = false := not_yet (hcl.get 8 (by decide)) 0 6 rfl q6_
                            have q9_ : D 9 = false := not_yet (hcl.get 9 (by decide)) 0 7 rfl q7_
                            have u0_ : upd D 4 0 = D 0 := rfl
                            have u1_ : upd D 4 1 = D 1 := rfl
                            have u2_ : upd D 4 2 = D 2 := rfl
                            have u3_ : upd D 4 3 = D 3 := rfl
                            have u4_ : upd D 4 4 = true := rfl
                            have u5_ : upd D 4 5 = D 5 := rfl
                            have u6_ : upd D 4 6 = D 6 := rfl
                            have u7_ : upd D 4 7 = D 7 := rfl
                            have u8_ : upd D 4 8 = D 8 := rfl
                            have u9_ : upd D 4 9 = D 9 := rfl
                            simp only [hD, p0_, p1_, p2_, p3_, q5_, q6_, q7_, q8_, q9_, cnd_t, cnd_f, Asc_t, Asc_f] at ht hs
                            subst ht
                            refine s_call (args := [Value.agg (([Value.int .i8 r39.f_Things, Value.int .i8 r39.f_Boat, v40] : List Value)).toArray, Value.agg (enc_S_impl_Bank r42).toArray]) rfl rfl (x_call rfl (callFunc_enter Try.func21 rfl rfl) rfl) (impl_LoadsFrom.calls (a1 := (⟨r39.f_Things, r39.f_Boat, r39.f_Rules⟩ : S_laws_Ferry)) (a4 := r42) (hs.row 0 rfl) Hr43) ?_
                            rintro _ w ⟨v44, rfl, hs2⟩
                            have hs : St _ [_, _, _, _, _, _, _, _, _, _, _] _ := hs.call hs2
                            show G _ _ _ _ [_, _, _, _, _, _, _, _, _, _, _, _, _, _, _, _, _, _, _, _, _, _, _, _, _, _, _, _, _, _, _, _, _, _, _, _, _, _, _, _, _, _, _, _, _, _, _, _, _, _, _, _, _, _, _, _, _, _, _, _, _, _, _, _, _, _, _, _, _, _, _, _, _, _, _, _, _, _, _, _, _, _, _, _, _, _, _, _, _, _, _, _, _, _, _, _, _, _, _, _, _, _, _, _] _
                            have hs := hs.fill 1 rfl
                            exact hk _ _ ⟨v40, v44, O, (by simp only [u0_, u1_, u2_, u3_, u4_, u5_, u6_, u7_, u8_, u9_, p0_, p1_, p2_, p3_, q5_, q6_, q7_, q8_, q9_, cnd_t, cnd_f, Asc_t, Asc_f]), hs.cast (by first | rfl | simp only [List.take, List.drop, List.cons_append, List.nil_append, List.set_cons_zero, List.set_cons_succ, List.eraseIdx, u0_, u1_, u2_, u3_, u4_, u5_, u6_, u7_, u8_, u9_, p0_, p1_, p2_, p3_, q5_, q6_, q7_, q8_, q9_, cnd_t, cnd_f, Asc_t, Asc_f])⟩
                          · intro D t w hD hp hcl hI rest hk
                            obtain ⟨v40, v44, O, ht, hs⟩ := hI
                            obtain ⟨p4_, _⟩ := hp
                            obtain ⟨p1_, p3_, _, _⟩ := (hcl.get 4 (by decide)) p4_
                            obtain ⟨p2_, _, _⟩ := (hcl.get 3 (by decide)) p3_
                            obtain ⟨p0_, _⟩ := (hcl.get 1 (by decide)) p1_
                            have q6_ : D 6 = false := not_yet (hcl.get 6 (by decide)) 0 5 rfl hD
                            have q7_ : D 7 = false := not_yet (hcl.get 7 (by decide)) 0 5 rfl hD
                            have q8_ : D 8 = false := not_yet (hcl.get 8 (by decide)) 0 6 rfl q6_
                            have q9_ : D 9 = false := not_yet (hcl.get 9 (by decide)) 0 7 rfl q7_
                            have u0_ : upd D 5 0 = D 0 := rfl
                            have u1_ : upd D 5 1 = D 1 := rfl
                            have u2_ : upd D 5 2 = D 2 := rfl
                            have u3_ : upd D 5 3 = D 3 := rfl
                            have u4_ : upd D 5 4 = D 4 := rfl
                            have u5_ : upd D 5 5 = true := rfl
                            have u6_ : upd D 5 6 = D 6 := rfl
                            have u7_ : upd D 5 7 = D 7 := rfl
                            have u8_ : upd D 5 8 = D 8 := rfl
                            have u9_ : upd D 5 9 = D 9 := rfl
                            simp only [hD, p0_, p1_, p2_, p3_, p4_, q6_, q7_, q8_, q9_, cnd_t, cnd_f, Asc_t, Asc_f] at ht hs
                            subst ht
                            refine g_op (v := Value.tuple #[v44, Value.int .i64 r43.2]) rfl rfl rfl ?_
                            show G _ _ _ _ [_, _, _, _, _, _, _, _, _, _, _, _, _, _, _, _, _, _, _, _, _, _, _, _, _, _, _, _, _, _, _, _, _, _, _, _, _, _, _, _, _, _, _, _, _, _, _, _, _, _, _, _, _, _, _, _, _, _, _, _, _, _, _, _, _, _, _, _, _, _, _, _, _, _, _, _, _, _, _, _, _, _, _, _, _, _, _, _, _, _, _, _, _, _, _, _, _, _, _, _, _, _, _, _] _
                            exact hk _ _ ⟨v40, v44, O, (by simp only [u0_, u1_, u2_, u3_, u4_, u5_, u6_, u7_, u8_, u9_, p0_, p1_, p2_, p3_, p4_, q6_, q7_, q8_, q9_, cnd_t, cnd_f, Asc_t, Asc_f]), hs.cast (by first | rfl | simp only [List.take, List.drop, List.cons_append, List.nil_append, List.set_cons_zero, List.set_cons_succ, List.eraseIdx, u0_, u1_, u2_, u3_, u4_, u5_, u6_, u7_, u8_, u9_, p0_, p1_, p2_, p3_, p4_, q6_, q7_, q8_, q9_, cnd_t, cnd_f, Asc_t, Asc_f])⟩
                          · intro D t w hD hp hcl hI rest hk
                            obtain ⟨v40, v44, O, ht, hs⟩ := hI
                            obtain ⟨p5_, _⟩ := hp
                            obtain ⟨p4_, _⟩ := (hcl.get 5 (by decide)) p5_
                            obtain ⟨p1_, p3_, _, _⟩ := (hcl.get 4 (by decide)) p4_
                            obtain ⟨p2_, _, _⟩ := (hcl.get 3 (by decide)) p3_
                            obtain ⟨p0_, _⟩ := (hcl.get 1 (by decide)) p1_
                            have q8_ : D 8 = false := not_yet (hcl.get 8 (by decide)) 0 6 rfl hD
                            have q9_ : D 9 = false := not_yet (hcl.get 9 (by decide)) 1 8 rfl q8_
                            have u0_ : upd D 6 0 = D 0 := rfl
                            have u1_ : upd D 6 1 = D 1 := rfl
                            have u2_ : upd D 6 2 = D 2 := rfl
                            have u3_ : upd D 6 3 = D 3 := rfl
                            have u4_ : upd D 6 4 = D 4 := rfl
                            have u5_ : upd D 6 5 = D 5 := rfl
                            have u6_ : upd D 6 6 = true := rfl
                            have u7_ : upd D 6 7 = D 7 := rfl
                            have u8_ : upd D 6 8 = D 8 := rfl
                            have u9_ : upd D 6 9 = D 9 := rfl
                            simp only [hD, p0_, p1_, p2_, p3_, p4_, p5_, q8_, q9_, cnd_t, cnd_f, Asc_t, Asc_f] at ht hs
                            subst ht
                            refine g_op (v := v44) rfl rfl rfl ?_
                            show G _ _ _ _ [_, _, _, _, _, _, _, _, _, _, _, _, _, _, _, _, _, _, _, _, _, _, _, _, _, _, _, _, _, _, _, _, _, _, _, _, _, _, _, _, _, _, _, _, _, _, _, _, _, _, _, _, _, _, _, _, _, _, _, _, _, _, _, _, _, _, _, _, _, _, _, _, _, _, _, _, _, _, _, _, _, _, _, _, _, _, _, _, _, _, _, _, _, _, _, _, _, _, _, _, _, _, _, _] _
                            exact hk _ _ ⟨v40, v44, O, (by simp only [u0_, u1_, u2_, u3_, u4_, u5_, u6_, u7_, u8_, u9_, p0_, p1_, p2_, p3_, p4_, p5_, q8_, q9_, cnd_t, cnd_f, Asc_t, Asc_f]), hs.cast (by first | rfl | simp only [List.take, List.drop, List.cons_append, List.nil_append, List.set_cons_zero, List.set_cons_succ, List.eraseIdx, u0_, u1_, u2_, u3_, u4_, u5_, u6_, u7_, u8_, u9_, p0_, p1_, p2_, p3_, p4_, p5_, q8_, q9_, cnd_t, cnd_f, Asc_t, Asc_f])⟩
                          · intro D t w hD hp hcl hI rest hk
                            obtain ⟨v40, v44, O, ht, hs⟩ := hI
                            obtain ⟨p5_, _⟩ := hp
                            obtain ⟨p4_, _⟩ := (hcl.get 5 (by decide)) p5_
                            obtain ⟨p1_, p3_, _, _⟩ := (hcl.get 4 (by decide)) p4_
                            obtain ⟨p2_, _, _⟩ := (hcl.get 3 (by decide)) p3_
                            obtain ⟨p0_, _⟩ := (hcl.get 1 (by decide)) p1_
                            have q9_ : D 9 = false := not_yet (hcl.get 9 (by decide)) 0 7 rfl hD
                            have u0_ : upd D 7 0 = D 0 := rfl
                            have u1_ : upd D 7 1 = D 1 := rfl
                            have u2_ : upd D 7 2 = D 2 := rfl
                            have u3_ : upd D 7 3 = D 3 := rfl
                            have u4_ : upd D 7 4 = D 4 := rfl
                            have u5_ : upd D 7 5 = D 5 := rfl
                            have u6_ : upd D 7 6 = D 6 := rfl
                            have u7_ : upd D 7 7 = true := rfl
                            have u8_ : upd D 7 8 = D 8 := rfl
                            have u9_ : upd D 7 9 = D 9 := rfl
                            simp only [hD, p0_, p1_, p2_, p3_, p4_, p5_, q9_, cnd_t, cnd_f, Asc_t, Asc_f] at ht hs
                            subst ht
                            refine g_op (v := Value.int .i64 r43.2) rfl rfl rfl ?_
                            show G _ _ _ _ [_, _, _, _, _, _, _, _, _, _, _, _, _, _, _, _, _, _, _, _, _, _, _, _, _, _, _, _, _, _, _, _, _, _, _, _, _, _, _, _, _, _, _, _, _, _, _, _, _, _, _, _, _, _, _, _, _, _, _, _, _, _, _, _, _, _, _, _, _, _, _, _, _, _, _, _, _, _, _, _, _, _, _, _, _, _, _, _, _, _, _, _, _, _, _, _, _, _, _, _, _, _, _, _] _
                            exact hk _ _ ⟨v40, v44, O, (by simp only [u0_, u1_, u2_, u3_, u4_, u5_, u6_, u7_, u8_, u9_, p0_, p1_, p2_, p3_, p4_, p5_, q9_, cnd_t, cnd_f, Asc_t, Asc_f]), hs.cast (by first | rfl | simp only [List.take, List.drop, List.cons_append, List.nil_append, List.set_cons_zero, List.set_cons_succ, List.eraseIdx, u0_, u1_, u2_, u3_, u4_, u5_, u6_, u7_, u8_, u9_, p0_, p1_, p2_, p3_, p4_, p5_, q9_, cnd_t, cnd_f, Asc_t, Asc_f])⟩
                          · intro D t w hD hp hcl hI rest hk
                            obtain ⟨v40, v44, O, ht, hs⟩ := hI
                            obtain ⟨p6_, p4_, p0_, p1_, p2_, p3_, _, p5_, _, _⟩ := hp
                            have q9_ : D 9 = false := not_yet (hcl.get 9 (by decide)) 1 8 rfl hD
                            have u0_ : upd D 8 0 = D 0 := rfl
                            have u1_ : upd D 8 1 = D 1 := rfl
                            have u2_ : upd D 8 2 = D 2 := rfl
                            have u3_ : upd D 8 3 = D 3 := rfl
                            have u4_ : upd D 8 4 = D 4 := rfl
                            have u5_ : upd D 8 5 = D 5 := rfl
                            have u6_ : upd D 8 6 = D 6 := rfl
                            have u7_ : upd D 8 7 = D 7 := rfl
                            have u8_ : upd D 8 8 = true := rfl
                            have u9_ : upd D 8 9 = D 9 := rfl
                            simp only [hD, p0_, p1_, p2_, p3_, p4_, p5_, p6_, q9_, cnd_t, cnd_f, Asc_t, Asc_f] at ht hs
                            subst ht
                            refine g_op (v := v44) rfl rfl rfl ?_
                            show G _ _ _ _ [_, _, _, _, _, _, _, _, _, _, _, _, _, _, _, _, _, _, _, _, _, _, _, _, _, _, _, _, _, _, _, _, _, _, _, _, _, _, _, _, _, _, _, _, _, _, _, _, _, _, _, _, _, _, _, _, _, _, _, _, _, _, _, _, _, _, _, _, _, _, _, _, _, _, _, _, _, _, _, _, _, _, _, _, _, _, _, _, _, _, _, _, _, _, _, _, _, _, _, _, _, _, _, _] _
                            exact hk _ _ ⟨v40, v44, O, (by simp only [u0_, u1_, u2_, u3_, u4_, u5_, u6_, u7_, u8_, u9_, p0_, p1_, p2_, p3_, p4_, p5_, p6_, q9_, cnd_t, cnd_f, Asc_t, Asc_f]), hs.cast (by first | rfl | simp only [List.take, List.drop, List.cons_append, List.nil_append, List.set_cons_zero, List.set_cons_succ, List.eraseIdx, u0_, u1_, u2_, u3_, u4_, u5_, u6_, u7_, u8_, u9_, p0_, p1_, p2_, p3_, p4_, p5_, p6_, q9_, cnd_t, cnd_f, Asc_t, Asc_f])⟩
                          · intro D t w hD hp hcl hI rest hk
                            obtain ⟨v40, v44, O, ht, hs⟩ := hI
                            obtain ⟨p7_, p8_, p0_, p1_, p2_, p3_, p4_, p5_, p6_, _, _, _⟩ := hp
                            have u0_ : upd D 9 0 = D 0 := rfl
                            have u1_ : upd D 9 1 = D 1 := rfl
                            have u2_ : upd D 9 2 = D 2 := rfl
                            have u3_ : upd D 9 3 = D 3 := rfl
                            have u4_ : upd D 9 4 = D 4 := rfl
                            have u5_ : upd D 9 5 = D 5 := rfl
                            have u6_ : upd D 9 6 = D 6 := rfl
                            have u7_ : upd D 9 7 = D 7 := rfl
                            have u8_ : upd D 9 8 = D 8 := rfl
                            have u9_ : upd D 9 9 = true := rfl
                            simp only [hD, p0_, p1_, p2_, p3_, p4_, p5_, p6_, p7_, p8_, cnd_t, cnd_f, Asc_t, Asc_f] at ht hs
                            subst ht
                            refine g_op (v := Value.int .i64 r43.2) rfl rfl rfl ?_
                            show G _ _ _ _ [_, _, _, _, _, _, _, _, _, _, _, _, _, _, _, _, _, _, _, _, _, _, _, _, _, _, _, _, _, _, _, _, _, _, _, _, _, _, _, _, _, _, _, _, _, _, _, _, _, _, _, _, _, _, _, _, _, _, _, _, _, _, _, _, _, _, _, _, _, _, _, _, _, _, _, _, _, _, _, _, _, _, _, _, _, _, _, _, _, _, _, _, _, _, _, _, _, _, _, _, _, _, _, _] _
                            exact hk _ _ ⟨v40, v44, O, (by simp only [u0_, u1_, u2_, u3_, u4_, u5_, u6_, u7_, u8_, u9_, p0_, p1_, p2_, p3_, p4_, p5_, p6_, p7_, p8_, cnd_t, cnd_f, Asc_t, Asc_f]), hs.cast (by first | rfl | simp only [List.take, List.drop, List.cons_append, List.nil_append, List.set_cons_zero, List.set_cons_succ, List.eraseIdx, u0_, u1_, u2_, u3_, u4_, u5_, u6_, u7_, u8_, u9_, p0_, p1_, p2_, p3_, p4_, p5_, p6_, p7_, p8_, cnd_t, cnd_f, Asc_t, Asc_f])⟩
                          · intro D t w hall hI
                            obtain ⟨v40, v44, O, ht, hs⟩ := hI
                            have p0_ : D 0 = true := hall 0 (by decide)
                            have p1_ : D 1 = true := hall 1 (by decide)
                            have p2_ : D 2 = true := hall 2 (by decide)
                            have p3_ : D 3 = true := hall 3 (by decide)
                            have p4_ : D 4 = true := hall 4 (by decide)
                            have p5_ : D 5 = true := hall 5 (by decide)
                            have p6_ : D 6 = true := hall 6 (by decide)
                            have p7_ : D 7 = true := hall 7 (by decide)
                            have p8_ : D 8 = true := hall 8 (by decide)
                            have p9_ : D 9 = true := hall 9 (by decide)
                            simp only [p0_, p1_, p2_, p3_, p4_, p5_, p6_, p7_, p8_, p9_, cnd_t, cnd_f, Asc_t, Asc_f] at ht hs
                            subst ht
                            refine g_seq ?_
                            refine g_seq ?_
                            refine g_region ?_
                            show G _ _ _ (.inRegion _ [0, 1, 2, 3, 4, 5, 6, 7, 8] :: _) _ _
                            refine g_op (v := v44) rfl rfl rfl ?_
                            show G _ _ _ _ [_, _, _, _, _, _, _, _, _, _, _, _, _, _, _, _, _, _, _, _, _, _, _, _, _, _, _, _, _, _, _, _, _, _, _, _, _, _, _, _, _, _, _, _, _, _, _, _, _, _, _, _, _, _, _, _, _, _, _, _, _, _, _, _, _, _, _, _, _, _, _, _, _, _, _, _, _, _, _, _, _, _, _, _, _, _, _, _, _, _, _, _, _, _, _, _, _, _, _, _, _, _, _, _] _
                            refine g_op (v := v15) rfl rfl rfl ?_
                            show G _ _ _ _ [_, _, _, _, _, _, _, _, _, _, _, _, _, _, _, _, _, _, _, _, _, _, _, _, _, _, _, _, _, _, _, _, _, _, _, _, _, _, _, _, _, _, _, _, _, _, _, _, _, _, _, _, _, _, _, _, _, _, _, _, _, _, _, _, _, _, _, _, _, _, _, _, _, _, _, _, _, _, _, _, _, _, _, _, _, _, _, _, _, _, _, _, _, _, _, _, _, _, _, _, _, _, _, _] _
                            obtain ⟨r48, Hr48, H⟩ := bind_get H
                            refine s_call (args := [v44, v15]) rfl rfl (x_call rfl (callFunc_enter Try.func18 rfl rfl) rfl) (laws_eqUint16S.calls (a1 := r43.1) (a3 := r14.1) (hs.row 1 rfl) (hs.row 7 rfl) Hr48) ?_
                            rintro _ w ⟨rfl, hs2⟩
                            have hs : St _ [_, _, _, _, _, _, _, _, _, _] _ := hs.call hs2
                            cases r48 with
                            | true =>
                              rw [if_pos rfl] at H
                              show G _ _ _ _ [_, _, _, _, _, _, _, _, _, _, _, _, _, _, _, _, _, _, _, _, _, _, _, _, _, _, _, _, _, _, _, _, _, _, _, _, _, _, _, _, _, _, _, _, _, _, _, _, _, _, _, _, _, _, _, _, _, _, _, _, _, _, _, _, _, _, _, _, _, _, _, _, _, _, _, _, _, _, _, _, _, _, _, _, _, _, _, _, _, _, _, _, _, _, _, _, _, _, _, _, _, _, _, _] _
                              refine g_op (v := Value.bool false) rfl rfl rfl ?_
                              show G _ _ _ _ [_, _, _, _, _, _, _, _, _, _, _, _, _, _, _, _, _, _, _, _, _, _, _, _, _, _, _, _, _, _, _, _, _, _, _, _, _, _, _, _, _, _, _, _, _, _, _, _, _, _, _, _, _, _, _, _, _, _, _, _, _, _, _, _, _, _, _, _, _, _, _, _, _, _, _, _, _, _, _, _, _, _, _, _, _, _, _, _, _, _, _, _, _, _, _, _, _, _, _, _, _, _, _, _] _
                              refine g_op (v := Value.bool false) rfl rfl rfl ?_
                              show G _ _ _ _ [_, _, _, _, _, _, _, _, _, _, _, _, _, _, _, _, _, _, _, _, _, _, _, _, _, _, _, _, _, _, _, _, _, _, _, _, _, _, _, _, _, _, _, _, _, _, _, _, _, _, _, _, _, _, _, _, _, _, _, _, _, _, _, _, _, _, _, _, _, _, _, _, _, _, _, _, _, _, _, _, _, _, _, _, _, _, _, _, _, _, _, _, _, _, _, _, _, _, _, _, _, _, _, _] _
                              refine g_op (v := Value.int .i64 r43.2) rfl rfl rfl ?_
                              show G _ _ _ _ [_, _, _, _, _, _, _, _, _, _, _, _, _, _, _, _, _, _, _, _, _, _, _, _, _, _, _, _, _, _, _, _, _, _, _, _, _, _, _, _, _, _, _, _, _, _, _, _, _, _, _, _, _, _, _, _, _, _, _, _, _, _, _, _, _, _, _, _, _, _, _, _, _, _, _, _, _, _, _, _, _, _, _, _, _, _, _, _, _, _, _, _, _, _, _, _, _, _, _, _, _, _, _, _] _
                              refine g_op (v := Value.int .i64 r14.2) rfl rfl rfl ?_
                              show G _ _ _ _ [_, _, _, _, _, _, _, _, _, _, _, _, _, _, _, _, _, _, _, _, _, _, _, _, _, _, _, _, _, _, _, _, _, _, _, _, _, _, _, _, _, _, _, _, _, _, _, _, _, _, _, _, _, _, _, _, _, _, _, _, _, _, _, _, _, _, _, _, _, _, _, _, _, _, _, _, _, _, _, _, _, _, _, _, _, _, _, _, _, _, _, _, _, _, _, _, _, _, _, _, _, _, _, _] _
                              refine g_op_b (B := r43.2 != r14.2) rfl rfl rfl ?_ ?_
                              · intro hb
                                rw [if_neg (b_bne_t hb)] at H
                                show G _ _ _ _ [_, _, _, _, _, _, _, _, _, _, _, _, _, _, _, _, _, _, _, _, _, _, _, _, _, _, _, _, _, _, _, _, _, _, _, _, _, _, _, _, _, _, _, _, _, _, _, _, _, _, _, _, _, _, _, _, _, _, _, _, _, _, _, _, _, _, _, _, _, _, _, _, _, _, _, _, _, _, _, _, _, _, _, _, _, _, _, _, _, _, _, _, _, _, _, _, _, _, _, _, _, _, _, _] _
                                refine g_op (v := Value.bool true) rfl rfl rfl ?_
                                show G _ _ _ _ [_, _, _, _, _, _, _, _, _, _, _, _, _, _, _, _, _, _, _, _, _, _, _, _, _, _, _, _, _, _, _, _, _, _, _, _, _, _, _, _, _, _, _, _, _, _, _, _, _, _, _, _, _, _, _, _, _, _, _, _, _, _, _, _, _, _, _, _, _, _, _, _, _, _, _, _, _, _, _, _, _, _, _, _, _, _, _, _, _, _, _, _, _, _, _, _, _, _, _, _, _, _, _, _] _
                                refine g_ops_nil ?_
                                refine g_cond_true rfl ?_
                                refine g_seq ?_
                                refine g_region ?_
                                show G _ _ _ (.inRegion _ [0] :: _) _ _
                                refine g_op (v := Value.bool false) rfl rfl rfl ?_
                                show G _ _ _ _ [_, _, _, _, _, _, _, _, _, _, _, _, _, _, _, _, _, _, _, _, _, _, _, _, _, _, _, _, _, _, _, _, _, _, _, _, _, _, _, _, _, _, _, _, _, _, _, _, _, _, _, _, _, _, _, _, _, _, _, _, _, _, _, _, _, _, _, _, _, _, _, _, _, _, _, _, _, _, _, _, _, _, _, _, _, _, _, _, _, _, _, _, _, _, _, _, _, _, _, _, _, _, _, _] _
                                refine g_ops_nil ?_
                                obtain rfl := Option.some.inj H
                                refine g_ret Try.func4 (v := Value.bool false) (res1 rfl rfl) ?_
                                have hs : St _ [] _ := St.take (Γ' := [_, _, _, _, _, _, _, _, _, _]) hs
                                exact ⟨_, rfl, rfl, hs⟩
                              · intro hb
                                rw [if_pos (b_bne_f hb)] at H
                                show G _ _ _ _ [_, _, _, _, _, _, _, _, _, _, _, _, _, _, _, _, _, _, _, _, _, _, _, _, _, _, _, _, _, _, _, _, _, _, _, _, _, _, _, _, _, _, _, _, _, _, _, _, _, _, _, _, _, _, _, _, _, _, _, _, _, _, _, _, _, _, _, _, _, _, _, _, _, _, _, _, _, _, _, _, _, _, _, _, _, _, _, _, _, _, _, _, _, _, _, _, _, _, _, _, _, _, _, _] _
                                refine g_op (v := Value.bool false) rfl rfl rfl ?_
                                show G _ _ _ _ [_, _, _, _, _, _, _, _, _, _, _, _, _, _, _, _, _, _, _, _, _, _, _, _, _, _, _, _, _, _, _, _, _, _, _, _, _, _, _, _, _, _, _, _, _, _, _, _, _, _, _, _, _, _, _, _, _, _, _, _, _, _, _, _, _, _, _, _, _, _, _, _, _, _, _, _, _, _, _, _, _, _, _, _, _, _, _, _, _, _, _, _, _, _, _, _, _, _, _, _, _, _, _, _] _
                                refine g_ops_nil ?_
                                refine g_cond_false rfl ?_
                                refine g_skip ?_
                                refine g_seq ?_
                                refine g_region ?_
                                show G _ _ _ (.inRegion _ [0] :: _) _ _
                                refine g_op (v := Value.int .i64 1) rfl rfl rfl ?_
                                show G _ _ _ _ [_, _, _, _, _, _, _, _, _, _, _, _, _, _, _, _, _, _, _, _, _, _, _, _, _, _, _, _, _, _, _, _, _, _, _, _, _, _, _, _, _, _, _, _, _, _, _, _, _, _, _, _, _, _, _, _, _, _, _, _, _, _, _, _, _, _, _, _, _, _, _, _, _, _, _, _, _, _, _, _, _, _, _, _, _, _, _, _, _, _, _, _, _, _, _, _, _, _, _, _, _, _, _, _] _
                                refine g_ops_nil ?_
                                refine g_seq ?_
                                refine g_region ?_
                                show G _ _ _ (.inRegion _ [0, 1, 2, 3] :: _) _ _
                                refine g_op (v := v26) rfl rfl rfl ?_
                                show G _ _ _ _ [_, _, _, _, _, _, _, _, _, _, _, _, _, _, _, _, _, _, _, _, _, _, _, _, _, _, _, _, _, _, _, _, _, _, _, _, _, _, _, _, _, _, _, _, _, _, _, _, _, _, _, _, _, _, _, _, _, _, _, _, _, _, _, _, _, _, _, _, _, _, _, _, _, _, _, _, _, _, _, _, _, _, _, _, _, _, _, _, _, _, _, _, _, _, _, _, _, _, _, _, _, _, _, _] _
                                refine g_op (v := Value.int .i64 1) rfl rfl rfl ?_
                                show G _ _ _ _ [_, _, _, _, _, _, _, _, _, _, _, _, _, _, _, _, _, _, _, _, _, _, _, _, _, _, _, _, _, _, _, _, _, _, _, _, _, _, _, _, _, _, _, _, _, _, _, _, _, _, _, _, _, _, _, _, _, _, _, _, _, _, _, _, _, _, _, _, _, _, _, _, _, _, _, _, _, _, _, _, _, _, _, _, _, _, _, _, _, _, _, _, _, _, _, _, _, _, _, _, _, _, _, _] _
                                obtain ⟨r49, Hr49, H⟩ := bind_get H
                                refine s_call (args := [v26, Value.int .i64 1]) rfl rfl (x_call rfl (callFunc_enter Try.func24 rfl rfl) rfl) (laws_heldUint16S.calls (a1 := r37.2) (a3 := 1) (hs.row 2 rfl) Hr49) ?_
                                rintro _ w ⟨rfl, hs2⟩
                                have hs : St _ [_, _, _, _, _, _, _, _, _, _] _ := hs.call hs2
                                show G _ _ _ _ [_, _, _, _, _, _, _, _, _, _, _, _, _, _, _, _, _, _, _, _, _, _, _, _, _, _, _, _, _, _, _, _, _, _, _, _, _, _, _, _, _, _, _, _, _, _, _, _, _, _, _, _, _, _, _, _, _, _, _, _, _, _, _, _, _, _, _, _, _, _, _, _, _, _, _, _, _, _, _, _, _, _, _, _, _, _, _, _, _, _, _, _, _, _, _, _, _, _, _, _, _, _, _, _] _
                                refine g_op (v := Value.int .i64 r49) rfl rfl rfl ?_
                                show G _ _ _ _ [_, _, _, _, _, _, _, _, _, _, _, _, _, _, _, _, _, _, _, _, _, _, _, _, _, _, _, _, _, _, _, _, _, _, _, _, _, _, _, _, _, _, _, _, _, _, _, _, _, _, _, _, _, _, _, _, _, _, _, _, _, _, _, _, _, _, _, _, _, _, _, _, _, _, _, _, _, _, _, _, _, _, _, _, _, _, _, _, _, _, _, _, _, _, _, _, _, _, _, _, _, _, _, _] _
                                refine g_ops_nil ?_
                                refine g_seq ?_
                                refine g_seq ?_
                                refine g_region ?_
                                show G _ _ _ (.inRegion _ [0, 1] :: _) _ _
                                refine g_op (v := Value.int .i64 r49) rfl rfl rfl ?_
                                show G _ _ _ _ [_, _, _, _, _, _, _, _, _, _, _, _, _, _, _, _, _, _, _, _, _, _, _, _, _, _, _, _, _, _, _, _, _, _, _, _, _, _, _, _, _, _, _, _, _, _, _, _, _, _, _, _, _, _, _, _, _, _, _, _, _, _, _, _, _, _, _, _, _, _, _, _, _, _, _, _, _, _, _, _, _, _, _, _, _, _, _, _, _, _, _, _, _, _, _, _, _, _, _, _, _, _, _, _] _
                                refine g_op_b (B := decide (r49 < 0)) rfl rfl rfl ?_ ?_
                                · intro hb
                                  rw [if_pos (b_dec_t hb)] at H
                                  show G _ _ _ _ [_, _, _, _, _, _, _, _, _, _, _, _, _, _, _, _, _, _, _, _, _, _, _, _, _, _, _, _, _, _, _, _, _, _, _, _, _, _, _, _, _, _, _, _, _, _, _, _, _, _, _, _, _, _, _, _, _, _, _, _, _, _, _, _, _, _, _, _, _, _, _, _, _, _, _, _, _, _, _, _, _, _, _, _, _, _, _, _, _, _, _, _, _, _, _, _, _, _, _, _, _, _, _, _] _
                                  refine g_ops_nil ?_
                                  refine g_cond_true rfl ?_
                                  refine g_seq ?_
                                  refine g_region ?_
                                  show G _ _ _ (.inRegion _ [0] :: _) _ _
                                  refine g_op (v := Value.bool false) rfl rfl rfl ?_
                                  show G _ _ _ _ [_, _, _, _, _, _, _, _, _, _, _, _, _, _, _, _, _, _, _, _, _, _, _, _, _, _, _, _, _, _, _, _, _, _, _, _, _, _, _, _, _, _, _, _, _, _, _, _, _, _, _, _, _, _, _, _, _, _, _, _, _, _, _, _, _, _, _, _, _, _, _, _, _, _, _, _, _, _, _, _, _, _, _, _, _, _, _, _, _, _, _, _, _, _, _, _, _, _, _, _, _, _, _, _] _
                                  refine g_ops_nil ?_
                                  obtain rfl := Option.some.inj H
                                  refine g_ret Try.func4 (v := Value.bool false) (res1 rfl rfl) ?_
                                  have hs : St _ [] _ := St.take (Γ' := [_, _, _, _, _, _, _, _, _, _]) hs
                                  exact ⟨_, rfl, rfl, hs⟩
                                · intro hb
                                  rw [if_neg (b_dec_f hb)] at H
                                  show G _ _ _ _ [_, _, _, _, _, _, _, _, _, _, _, _, _, _, _, _, _, _, _, _, _, _, _, _, _, _, _, _, _, _, _, _, _, _, _, _, _, _, _, _, _, _, _, _, _, _, _, _, _, _, _, _, _, _, _, _, _, _, _, _, _, _, _, _, _, _, _, _, _, _, _, _, _, _, _, _, _, _, _, _, _, _, _, _, _, _, _, _, _, _, _, _, _, _, _, _, _, _, _, _, _, _, _, _] _
                                  refine g_ops_nil ?_
                                  refine g_cond_false rfl ?_
                                  refine g_skip ?_
                                  refine g_seq ?_
                                  refine g_seq ?_
                                  refine g_region ?_
                                  show G _ _ _ (.inRegion _ [0, 1, 2] :: _) _ _
                                  refine g_op (v := Value.int .i64 r49) rfl rfl rfl ?_
                                  show G _ _ _ _ [_, _, _, _, _, _, _, _, _, _, _, _, _, _, _, _, _, _, _, _, _, _, _, _, _, _, _, _, _, _, _, _, _, _, _, _, _, _, _, _, _, _, _, _, _, _, _, _, _, _, _, _, _, _, _, _, _, _, _, _, _, _, _, _, _, _, _, _, _, _, _, _, _, _, _, _, _, _, _, _, _, _, _, _, _, _, _, _, _, _, _, _, _, _, _, _, _, _, _, _, _, _, _, _] _
                                  refine g_op (v := Value.int .i64 r37.1) rfl rfl rfl ?_
                                  show G _ _ _ _ [_, _, _, _, _, _, _, _, _, _, _, _, _, _, _, _, _, _, _, _, _, _, _, _, _, _, _, _, _, _, _, _, _, _, _, _, _, _, _, _, _, _, _, _, _, _, _, _, _, _, _, _, _, _, _, _, _, _, _, _, _, _, _, _, _, _, _, _, _, _, _, _, _, _, _, _, _, _, _, _, _, _, _, _, _, _, _, _, _, _, _, _, _, _, _, _, _, _, _, _, _, _, _, _] _
                                  refine g_op_b (B := r49 != r37.1) rfl rfl rfl ?_ ?_
                                  · intro hb
                                    rw [if_neg (b_bne_t hb)] at H
                                    show G _ _ _ _ [_, _, _, _, _, _, _, _, _, _, _, _, _, _, _, _, _, _, _, _, _, _, _, _, _, _, _, _, _, _, _, _, _, _, _, _, _, _, _, _, _, _, _, _, _, _, _, _, _, _, _, _, _, _, _, _, _, _, _, _, _, _, _, _, _, _, _, _, _, _, _, _, _, _, _, _, _, _, _, _, _, _, _, _, _, _, _, _, _, _, _, _, _, _, _, _, _, _, _, _, _, _, _, _] _
                                    refine g_ops_nil ?_
                                    refine g_cond_true rfl ?_
                                    refine g_seq ?_
                                    refine g_region ?_
                                    show G _ _ _ (.inRegion _ [0] :: _) _ _
                                    refine g_op (v := Value.bool false) rfl rfl rfl ?_
                                    show G _ _ _ _ [_, _, _, _, _, _, _, _, _, _, _, _, _, _, _, _, _, _, _, _, _, _, _, _, _, _, _, _, _, _, _, _, _, _, _, _, _, _, _, _, _, _, _, _, _, _, _, _, _, _, _, _, _, _, _, _, _, _, _, _, _, _, _, _, _, _, _, _, _, _, _, _, _, _, _, _, _, _, _, _, _, _, _, _, _, _, _, _, _, _, _, _, _, _, _, _, _, _, _, _, _, _, _, _] _
                                    refine g_ops_nil ?_
                                    obtain rfl := Option.some.inj H
                                    refine g_ret Try.func4 (v := Value.bool false) (res1 rfl rfl) ?_
                                    have hs : St _ [] _ := St.take (Γ' := [_, _, _, _, _, _, _, _, _, _]) hs
                                    exact ⟨_, rfl, rfl, hs⟩
                                  · intro hb
                                    rw [if_pos (b_bne_f hb)] at H
                                    show G _ _ _ _ [_, _, _, _, _, _, _, _, _, _, _, _, _, _, _, _, _, _, _, _, _, _, _, _, _, _, _, _, _, _, _, _, _, _, _, _, _, _, _, _, _, _, _, _, _, _, _, _, _, _, _, _, _, _, _, _, _, _, _, _, _, _, _, _, _, _, _, _, _, _, _, _, _, _, _, _, _, _, _, _, _, _, _, _, _, _, _, _, _, _, _, _, _, _, _, _, _, _, _, _, _, _, _, _] _
                                    refine g_ops_nil ?_
                                    refine g_cond_false rfl ?_
                                    refine g_skip ?_
                                    refine g_seq ?_
                                    refine g_region ?_
                                    show G _ _ _ (.inRegion _ [0] :: _) _ _
                                    refine g_op (v := Value.bool true) rfl rfl rfl ?_
                                    show G _ _ _ _ [_, _, _, _, _, _, _, _, _, _, _, _, _, _, _, _, _, _, _, _, _, _, _, _, _, _, _, _, _, _, _, _, _, _, _, _, _, _, _, _, _, _, _, _, _, _, _, _, _, _, _, _, _, _, _, _, _, _, _, _, _, _, _, _, _, _, _, _, _, _, _, _, _, _, _, _, _, _, _, _, _, _, _, _, _, _, _, _, _, _, _, _, _, _, _, _, _, _, _, _, _, _, _, _] _
                                    refine g_ops_nil ?_
                                    obtain rfl := Option.some.inj H
                                    refine g_ret Try.func4 (v := Value.bool true) (res1 rfl rfl) ?_
                                    have hs : St _ [] _ := St.take (Γ' := [_, _, _, _, _, _, _, _, _, _]) hs
                                    exact ⟨_, rfl, rfl, hs⟩
                            | false =>
                              rw [if_neg Bool.false_ne_true] at H
                              show G _ _ _ _ [_, _, _, _, _, _, _, _, _, _, _, _, _, _, _, _, _, _, _, _, _, _, _, _, _, _, _, _, _, _, _, _, _, _, _, _, _, _, _, _, _, _, _, _, _, _, _, _, _, _, _, _, _, _, _, _, _, _, _, _, _, _, _, _, _, _, _, _, _, _, _, _, _, _, _, _, _, _, _, _, _, _, _, _, _, _, _, _, _, _, _, _, _, _, _, _, _, _, _, _, _, _, _, _] _
                              refine g_op (v := Value.bool true) rfl rfl rfl ?_
                              show G _ _ _ _ [_, _, _, _, _, _, _, _, _, _, _, _, _, _, _, _, _, _, _, _, _, _, _, _, _, _, _, _, _, _, _, _, _, _, _, _, _, _, _, _, _, _, _, _, _, _, _, _, _, _, _, _, _, _, _, _, _, _, _, _, _, _, _, _, _, _, _, _, _, _, _, _, _, _, _, _, _, _, _, _, _, _, _, _, _, _, _, _, _, _, _, _, _, _, _, _, _, _, _, _, _, _, _, _] _
                              refine g_op (v := Value.bool true) rfl rfl rfl ?_
                              show G _ _ _ _ [_, _, _, _, _, _, _, _, _, _, _, _, _, _, _, _, _, _, _, _, _, _, _, _, _, _, _, _, _, _, _, _, _, _, _, _, _, _, _, _, _, _, _, _, _, _, _, _, _, _, _, _, _, _, _, _, _, _, _, _, _, _, _, _, _, _, _, _, _, _, _, _, _, _, _, _, _, _, _, _, _, _, _, _, _, _, _, _, _, _, _, _, _, _, _, _, _, _, _, _, _, _, _, _] _
                              refine g_op_not rfl rfl ?_
                              show G _ _ _ _ [_, _, _, _, _, _, _, _, _, _, _, _, _, _, _, _, _, _, _, _, _, _, _, _, _, _, _, _, _, _, _, _, _, _, _, _, _, _, _, _, _, _, _, _, _, _, _, _, _, _, _, _, _, _, _, _, _, _, _, _, _, _, _, _, _, _, _, _, _, _, _, _, _, _, _, _, _, _, _, _, _, _, _, _, _, _, _, _, _, _, _, _, _, _, _, _, _, _, _, _, _, _, _, _] _
                              refine g_op_not rfl rfl ?_
                              show G _ _ _ _ [_, _, _, _, _, _, _, _, _, _, _, _, _, _, _, _, _, _, _, _, _, _, _, _, _, _, _, _, _, _, _, _, _, _, _, _, _, _, _, _, _, _, _, _, _, _, _, _, _, _, _, _, _, _, _, _, _, _, _, _, _, _, _, _, _, _, _, _, _, _, _, _, _, _, _, _, _, _, _, _, _, _, _, _, _, _, _, _, _, _, _, _, _, _, _, _, _, _, _, _, _, _, _, _] _
                              refine g_op_not rfl rfl ?_
                              show G _ _ _ _ [_, _, _, _, _, _, _, _, _, _, _, _, _, _, _, _, _, _, _, _, _, _, _, _, _, _, _, _, _, _, _, _, _, _, _, _, _, _, _, _, _, _, _, _, _, _, _, _, _, _, _, _, _, _, _, _, _, _, _, _, _, _, _, _, _, _, _, _, _, _, _, _, _, _, _, _, _, _, _, _, _, _, _, _, _, _, _, _, _, _, _, _, _, _, _, _, _, _, _, _, _, _, _, _] _
                              refine g_op (v := Value.bool true) rfl rfl rfl ?_
                              show G _ _ _ _ [_, _, _, _, _, _, _, _, _, _, _, _, _, _, _, _, _, _, _, _, _, _, _, _, _, _, _, _, _, _, _, _, _, _, _, _, _, _, _, _, _, _, _, _, _, _, _, _, _, _, _, _, _, _, _, _, _, _, _, _, _, _, _, _, _, _, _, _, _, _, _, _, _, _, _, _, _, _, _, _, _, _, _, _, _, _, _, _, _, _, _, _, _, _, _, _, _, _, _, _, _, _, _, _] _
                              refine g_ops_nil ?_
                              refine g_cond_true rfl ?_
                              refine g_seq ?_
                              refine g_region ?_
                              show G _ _ _ (.inRegion _ [0] :: _) _ _
                              refine g_op (v := Value.bool false) rfl rfl rfl ?_
                              show G _ _ _ _ [_, _, _, _, _, _, _, _, _, _, _, _, _, _, _, _, _, _, _, _, _, _, _, _, _, _, _, _, _, _, _, _, _, _, _, _, _, _, _, _, _, _, _, _, _, _, _, _, _, _, _, _, _, _, _, _, _, _, _, _, _, _, _, _, _, _, _, _, _, _, _, _, _, _, _, _, _, _, _, _, _, _, _, _, _, _, _, _, _, _, _, _, _, _, _, _, _, _, _, _, _, _, _, _] _
                              refine g_ops_nil ?_
                              obtain rfl := Option.some.inj H
                              refine g_ret Try.func4 (v := Value.bool false) (res1 rfl rfl) ?_
                              have hs : St _ [] _ := St.take (Γ' := [_, _, _, _, _, _, _, _, _, _]) hs
                              exact ⟨_, rfl, rfl, hs⟩
              | false =>
                rw [if_neg Bool.false_ne_true] at H
                show G _ _ _ _ [_, _, _, _, _, _, _, _, _, _, _, _, _, _, _, _, _, _, _, _, _, _, _, _, _, _, _, _, _, _, _, _, _, _, _, _, _, _, _, _, _, _, _, _, _, _, _, _, _, _, _, _, _, _, _, _, _, _, _, _, _, _, _, _, _, _, _, _, _, _, _, _, _, _, _, _, _, _, _, _, _, _, _, _, _, _, _, _, _, _, _, _, _, _, _, _, _, _, _, _, _, _, _, _] _
                obtain ⟨rest, rfl, hO4_⟩ := ord_one (m := 15) hO2_ rfl 4 (m' := 31) (by decide +kernel) rfl
                clear hO2_
                refine g_op (v := Value.bool true) rfl rfl rfl ?_
                show G _ _ _ _ [_, _, _, _, _, _, _, _, _, _, _, _, _, _, _, _, _, _, _, _, _, _, _, _, _, _, _, _, _, _, _, _, _, _, _, _, _, _, _, _, _, _, _, _, _, _, _, _, _, _, _, _, _, _, _, _, _, _, _, _, _, _, _, _, _, _, _, _, _, _, _, _, _, _, _, _, _, _, _, _, _, _, _, _, _, _, _, _, _, _, _, _, _, _, _, _, _, _, _, _, _, _, _, _] _
                obtain rfl := ord_end hO4_ rfl (by decide +kernel)
                refine g_ops_nil ?_
                refine g_cond_true rfl ?_
                refine g_seq ?_
                refine g_region ?_
                show G _ _ _ (.inRegion _ [0] :: _) _ _
                refine g_op (v := Value.bool false) rfl rfl rfl ?_
                show G _ _ _ _ [_, _, _, _, _, _, _, _, _, _, _, _, _, _, _, _, _, _, _, _, _, _, _, _, _, _, _, _, _, _, _, _, _, _, _, _, _, _, _, _, _, _, _, _, _, _, _, _, _, _, _, _, _, _, _, _, _, _, _, _, _, _, _, _, _, _, _, _, _, _, _, _, _, _, _, _, _, _, _, _, _, _, _, _, _, _, _, _, _, _, _, _, _, _, _, _, _, _, _, _, _, _, _, _] _
                refine g_ops_nil ?_
                obtain rfl := Option.some.inj H
                refine g_ret Try.func4 (v := Value.bool false) (res1 rfl rfl) ?_
                have hs : St _ [] _ := St.take (Γ' := [_, _, _, _, _, _, _, _]) hs
                exact ⟨_, rfl, rfl, hs⟩
        | false =>
          rw [if_neg Bool.false_ne_true] at H
          show G _ _ _ _ [_, _, _, _, _, _, _, _, _, _, _, _, _, _, _, _, _, _, _, _, _, _, _, _, _, _, _, _, _, _, _, _, _, _, _, _, _, _, _, _, _, _, _, _, _, _, _, _, _, _, _, _, _, _, _, _, _, _, _, _, _, _, _, _, _, _, _, _, _, _, _, _, _, _, _, _, _, _, _, _, _, _, _, _, _, _, _, _, _, _, _, _, _, _, _, _, _, _, _, _, _, _, _, _] _
          refine g_op (v := Value.bool true) rfl rfl rfl ?_
          show G _ _ _ _ [_, _, _, _, _, _, _, _, _, _, _, _, _, _, _, _, _, _, _, _, _, _, _, _, _, _, _, _, _, _, _, _, _, _, _, _, _, _, _, _, _, _, _, _, _, _, _, _, _, _, _, _, _, _, _, _, _, _, _, _, _, _, _, _, _, _, _, _, _, _, _, _, _, _, _, _, _, _, _, _, _, _, _, _, _, _, _, _, _, _, _, _, _, _, _, _, _, _, _, _, _, _, _, _] _
          refine g_op (v := Value.bool true) rfl rfl rfl ?_
          show G _ _ _ _ [_, _, _, _, _, _, _, _, _, _, _, _, _, _, _, _, _, _, _, _, _, _, _, _, _, _, _, _, _, _, _, _, _, _, _, _, _, _, _, _, _, _, _, _, _, _, _, _, _, _, _, _, _, _, _, _, _, _, _, _, _, _, _, _, _, _, _, _, _, _, _, _, _, _, _, _, _, _, _, _, _, _, _, _, _, _, _, _, _, _, _, _, _, _, _, _, _, _, _, _, _, _, _, _] _
          refine g_op_not rfl rfl ?_
          show G _ _ _ _ [_, _, _, _, _, _, _, _, _, _, _, _, _, _, _, _, _, _, _, _, _, _, _, _, _, _, _, _, _, _, _, _, _, _, _, _, _, _, _, _, _, _, _, _, _, _, _, _, _, _, _, _, _, _, _, _, _, _, _, _, _, _, _, _, _, _, _, _, _, _, _, _, _, _, _, _, _, _, _, _, _, _, _, _, _, _, _, _, _, _, _, _, _, _, _, _, _, _, _, _, _, _, _, _] _
          refine g_op_not rfl rfl ?_
          show G _ _ _ _ [_, _, _, _, _, _, _, _, _, _, _, _, _, _, _, _, _, _, _, _, _, _, _, _, _, _, _, _, _, _, _, _, _, _, _, _, _, _, _, _, _, _, _, _, _, _, _, _, _, _, _, _, _, _, _, _, _, _, _, _, _, _, _, _, _, _, _, _, _, _, _, _, _, _, _, _, _, _, _, _, _, _, _, _, _, _, _, _, _, _, _, _, _, _, _, _, _, _, _, _, _, _, _, _] _
          refine g_op_not rfl rfl ?_
          show G _ _ _ _ [_, _, _, _, _, _, _, _, _, _, _, _, _, _, _, _, _, _, _, _, _, _, _, _, _, _, _, _, _, _, _, _, _, _, _, _, _, _, _, _, _, _, _, _, _, _, _, _, _, _, _, _, _, _, _, _, _, _, _, _, _, _, _, _, _, _, _, _, _, _, _, _, _, _, _, _, _, _, _, _, _, _, _, _, _, _, _, _, _, _, _, _, _, _, _, _, _, _, _, _, _, _, _, _] _
          refine g_op (v := Value.bool true) rfl rfl rfl ?_
          show G _ _ _ _ [_, _, _, _, _, _, _, _, _, _, _, _, _, _, _, _, _, _, _, _, _, _, _, _, _, _, _, _, _, _, _, _, _, _, _, _, _, _, _, _, _, _, _, _, _, _, _, _, _, _, _, _, _, _, _, _, _, _, _, _, _, _, _, _, _, _, _, _, _, _, _, _, _, _, _, _, _, _, _, _, _, _, _, _, _, _, _, _, _, _, _, _, _, _, _, _, _, _, _, _, _, _, _, _] _
          refine g_ops_nil ?_
          refine g_cond_true rfl ?_
          refine g_seq ?_
          refine g_region ?_
          show G _ _ _ (.inRegion _ [0] :: _) _ _
          refine g_op (v := Value.bool false) rfl rfl rfl ?_
          show G _ _ _ _ [_, _, _, _, _, _, _, _, _, _, _, _, _, _, _, _, _, _, _, _, _, _, _, _, _, _, _, _, _, _, _, _, _, _, _, _, _, _, _, _, _, _, _, _, _, _, _, _, _, _, _, _, _, _, _, _, _, _, _, _, _, _, _, _, _, _, _, _, _, _, _, _, _, _, _, _, _, _, _, _, _, _, _, _, _, _, _, _, _, _, _, _, _, _, _, _, _, _, _, _, _, _, _, _] _
          refine g_ops_nil ?_
          obtain rfl := Option.some.inj H
          refine g_ret Try.func4 (v := Value.bool false) (res1 rfl rfl) ?_
          have hs : St _ [] _ := St.take (Γ' := [_, _, _, _, _, _, _]) hs
          exact ⟨_, rfl, rfl, hs⟩

end Go.Proofs.YtgoblgmidejdgaaX
