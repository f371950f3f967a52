/- Contracts, printed by gen.py. -/
import Derived.Test.YtpbkenbmjgchkaaXC13
namespace Go.Proofs.YtpbkenbmjgchkaaX
open Go Go.RowKit Go.Proofs
set_option linter.unusedVariables false
set_option linter.unusedSimpArgs false
/- function 41 impl_NextSet -/
def impl_NextSet.post (w0 : World) (r : (Int × Int)) (v : Value) (w : World) : Prop := v = Value.tuple #[Value.int .u64 r.1, Value.int .i64 r.2] ∧ St w0 [] w
set_option maxHeartbeats 8000000 in
set_option maxRecDepth 100000 in
theorem impl_NextSet.calls {N : Nat} {a1 : S_impl_Game} {v2 : Value} {w0 : World} {r : (Int × Int)} (hr3 : RdRow k_S_impl_Ask w0 v2 a1.f_Asked) (H : impl_NextSet.f N a1 = some r) :
    Calls Try.prog 41 #[Value.agg (([Value.int .i8 a1.f_Numbers, Value.int .i8 a1.f_Lies, v2] : List Value)).toArray] w0 fun e w => ∃ v, e = .returned v ∧ impl_NextSet.post w0 r v w := by
  unfold impl_NextSet.f at H
  have hs : St w0 [] w0 := St.refl w0
  refine calls_of_g (n := 11) Try.func41 rfl rfl ?_
  show G _ _ _ _ [_, _, _, _, _, _, _, _, _, _, _, _] _
  refine g_seq ?_
  refine g_region ?_
  show G _ _ _ (.inRegion _ [0, 1, 2] :: _) _ _
  refine s_box hs rfl rfl (cs := (([Value.int .i8 a1.f_Numbers, Value.int .i8 a1.f_Lies, v2] : List Value))) rfl rfl ?_
  intro b4 w hs
  show G _ _ _ _ [_, _, _, _, _, _, _, _, _, _, _, _] _
  refine g_op (v := Value.int .u64 0) rfl rfl rfl ?_
  show G _ _ _ _ [_, _, _, _, _, _, _, _, _, _, _, _] _
  refine g_op (v := Value.int .i64 0) rfl rfl rfl ?_
  show G _ _ _ _ [_, _, _, _, _, _, _, _, _, _, _, _] _
  refine g_ops_nil ?_
  refine g_seq ?_
  refine g_seq ?_
  refine g_region ?_
  show G _ _ _ (.inRegion _ [0, 1, 2] :: _) _ _
  refine s_loadA rfl rfl (es := (([Value.int .i8 a1.f_Numbers, Value.int .i8 a1.f_Lies, v2] : List Value))) rfl rfl (fun _ => rfl) (n := 3) (fun _ => rfl) rfl (cells_all (hs.cells 0 rfl)) ?_
  show G _ _ _ _ [_, _, _, _, _, _, _, _, _, _, _, _] _
  obtain ⟨r6, Hr6, H⟩ := bind_get H
  refine s_call (args := [Value.agg (([Value.int .i8 a1.f_Numbers, Value.int .i8 a1.f_Lies, v2] : List Value)).toArray]) rfl rfl (x_call rfl (callFunc_enter Try.func30 rfl rfl) rfl) (impl_ValidGame.calls (a1 := (⟨a1.f_Numbers, a1.f_Lies, a1.f_Asked⟩ : S_impl_Game)) (hs.rd hr3) Hr6) ?_
  rintro _ w ⟨rfl, hs2⟩
  have hs : St _ [_] _ := hs.call hs2
  cases r6 with
  | true =>
    rw [if_pos rfl] at H
    show G _ _ _ _ [_, _, _, _, _, _, _, _, _, _, _, _] _
    refine g_op (v := Value.bool false) rfl rfl rfl ?_
    show G _ _ _ _ [_, _, _, _, _, _, _, _, _, _, _, _] _
    refine g_ops_nil ?_
    refine g_cond_false rfl ?_
    refine g_skip ?_
    refine g_seq ?_
    obtain ⟨r7, Hr7, H⟩ := bind_get H
    obtain ⟨r8, Hr8, H⟩ := bind_get H
    obtain ⟨r9, Hr9, H⟩ := bind_get H
    refine g_name ?_
    intro T hT
    refine g_any (n := 7) rfl [0, 1, 2, 3, 4, 5, 6] [0, 1, 2, 3, 4, 5, 6] rfl rfl (Inv := fun D t w => ∃ O : Nat → Value, t = [Value.agg (([Value.int .i8 a1.f_Numbers, Value.int .i8 a1.f_Lies, v2] : List Value)).toArray, Value.pointer (some ⟨b4, 0, none⟩), cnd (D 5) (Value.int .u64 r9) (Value.int .u64 0), cnd (D 6) (Value.int .i64 0) (Value.int .i64 0), Value.agg (([Value.int .i8 a1.f_Numbers, Value.int .i8 a1.f_Lies, v2] : List Value)).toArray, Value.bool true, Value.bool false, cnd (D 0) (Value.agg (([Value.int .i8 a1.f_Numbers, Value.int .i8 a1.f_Lies, v2] : List Value)).toArray) (O 7), cnd (D 1) (Value.agg (([Value.int .i8 a1.f_Numbers, Value.int .i8 a1.f_Lies, v2] : List Value)).toArray) (O 8), cnd (D 2) (Value.agg ((encA (encI .i64)) r7).toArray) (O 9), cnd (D 3) (Value.agg ((encA (encI .i64)) r8).toArray) (O 10), cnd (D 4) (Value.int .u64 r9) (O 11)] ∧ St w0 [Cells b4 (([Value.int .i8 a1.f_Numbers, Value.int .i8 a1.f_Lies, v2] : List Value)) 31] w) ?_ ⟨⟨⟨⟨⟨⟨⟨trivial, ?_⟩, ?_⟩, ?_⟩, ?_⟩, ?_⟩, ?_⟩, ?_⟩ ?_
    ·
     intro w hh hbw
     have hs := hs.samew hh hbw
     exact ⟨fun i => T.getD i undef, (by subst hT; rfl), hs⟩
    ·
     intro D t w hD hp hcl hI rest hk
     obtain ⟨O, ht, hs⟩ := hI
     have q4_ : D 4 = false := not_yet (hcl.get 4 (by decide)) 0 0 rfl hD
     have q5_ : D 5 = false := not_yet (hcl.get 5 (by decide)) 0 4 rfl q4_
     have q6_ : D 6 = false := not_yet (hcl.get 6 (by decide)) 0 5 rfl q5_
     have u0_ : upd D 0 0 = true := rfl; have u1_ : upd D 0 1 = D 1 := rfl; have u2_ : upd D 0 2 = D 2 := rfl; have u3_ : upd D 0 3 = D 3 := rfl; have u4_ : upd D 0 4 = D 4 := rfl; have u5_ : upd D 0 5 = D 5 := rfl; have u6_ : upd D 0 6 = D 6 := rfl
     simp only [hD, q4_, q5_, q6_, cnd_t, cnd_f, Asc_t, Asc_f] at ht hs
     subst ht
     refine s_loadA rfl rfl (es := (([Value.int .i8 a1.f_Numbers, Value.int .i8 a1.f_Lies, v2] : List Value))) rfl rfl (fun _ => rfl) (n := 3) (fun _ => rfl) rfl (cells_all (hs.cells 0 rfl)) ?_
     show G _ _ _ _ [_, _, _, _, _, _, _, _, _, _, _, _] _
     exact hk _ _ ⟨O, (by simp only [u0_, u1_, u2_, u3_, u4_, u5_, u6_, q4_, q5_, q6_, cnd_t, cnd_f, Asc_t, Asc_f]), hs.cast (by first | rfl | simp only [List.take, List.drop, List.cons_append, List.nil_append, List.set_cons_zero, List.set_cons_succ, List.eraseIdx, u0_, u1_, u2_, u3_, u4_, u5_, u6_, q4_, q5_, q6_, cnd_t, cnd_f, Asc_t, Asc_f])⟩
    ·
     intro D t w hD hp hcl hI rest hk
     obtain ⟨O, ht, hs⟩ := hI
     have q2_ : D 2 = false := not_yet (hcl.get 2 (by decide)) 0 1 rfl hD
     have q3_ : D 3 = false := not_yet (hcl.get 3 (by decide)) 0 2 rfl q2_
     have q4_ : D 4 = false := not_yet (hcl.get 4 (by decide)) 1 3 rfl q3_
     have q5_ : D 5 = false := not_yet (hcl.get 5 (by decide)) 0 4 rfl q4_
     have q6_ : D 6 = false := not_yet (hcl.get 6 (by decide)) 0 5 rfl q5_
     have u0_ : upd D 1 0 = D 0 := rfl; have u1_ : upd D 1 1 = true := rfl; have u2_ : upd D 1 2 = D 2 := rfl; have u3_ : upd D 1 3 = D 3 := rfl; have u4_ : upd D 1 4 = D 4 := rfl; have u5_ : upd D 1 5 = D 5 := rfl; have u6_ : upd D 1 6 = D 6 := rfl
     simp only [hD, q2_, q3_, q4_, q5_, q6_, cnd_t, cnd_f, Asc_t, Asc_f] at ht hs
     subst ht
     refine s_loadA rfl rfl (es := (([Value.int .i8 a1.f_Numbers, Value.int .i8 a1.f_Lies, v2] : List Value))) rfl rfl (fun _ => rfl) (n := 3) (fun _ => rfl) rfl (cells_all (hs.cells 0 rfl)) ?_
     show G _ _ _ _ [_, _, _, _, _, _, _, _, _, _, _, _] _
     exact hk _ _ ⟨O, (by simp only [u0_, u1_, u2_, u3_, u4_, u5_, u6_, q2_, q3_, q4_, q5_, q6_, cnd_t, cnd_f, Asc_t, Asc_f]), hs.cast (by first | rfl | simp only [List.take, List.drop, List.cons_append, List.nil_append, List.set_cons_zero, List.set_cons_succ, List.eraseIdx, u0_, u1_, u2_, u3_, u4_, u5_, u6_, q2_, q3_, q4_, q5_, q6_, cnd_t, cnd_f, Asc_t, Asc_f])⟩
    ·
     intro D t w hD hp hcl hI rest hk
     obtain ⟨O, ht, hs⟩ := hI
     obtain ⟨p1_, _⟩ := hp
     have q3_ : D 3 = false := not_yet (hcl.get 3 (by decide)) 0 2 rfl hD
     have q4_ : D 4 = false := not_yet (hcl.get 4 (by decide)) 1 3 rfl q3_
     have q5_ : D 5 = false := not_yet (hcl.get 5 (by decide)) 0 4 rfl q4_
     have q6_ : D 6 = false := not_yet (hcl.get 6 (by decide)) 0 5 rfl q5_
     have u0_ : upd D 2 0 = D 0 := rfl; have u1_ : upd D 2 1 = D 1 := rfl; have u2_ : upd D 2 2 = true := rfl; have u3_ : upd D 2 3 = D 3 := rfl; have u4_ : upd D 2 4 = D 4 := rfl; have u5_ : upd D 2 5 = D 5 := rfl; have u6_ : upd D 2 6 = D 6 := rfl
     simp only [hD, p1_, q3_, q4_, q5_, q6_, cnd_t, cnd_f, Asc_t, Asc_f] at ht hs
     subst ht
     refine s_call (args := [Value.agg (([Value.int .i8 a1.f_Numbers, Value.int .i8 a1.f_Lies, v2] : List Value)).toArray]) rfl rfl (x_call rfl (callFunc_enter Try.func61 rfl rfl) rfl) (_impl_Game_state.calls (a1 := (⟨a1.f_Numbers, a1.f_Lies, a1.f_Asked⟩ : S_impl_Game)) (hs.rd hr3) Hr7) ?_
     rintro _ w ⟨rfl, hs2⟩
     have hs : St _ [_] _ := hs.call hs2
     show G _ _ _ _ [_, _, _, _, _, _, _, _, _, _, _, _] _
     exact hk _ _ ⟨O, (by simp only [u0_, u1_, u2_, u3_, u4_, u5_, u6_, p1_, q3_, q4_, q5_, q6_, cnd_t, cnd_f, Asc_t, Asc_f]), hs.cast (by first | rfl | simp only [List.take, List.drop, List.cons_append, List.nil_append, List.set_cons_zero, List.set_cons_succ, List.eraseIdx, u0_, u1_, u2_, u3_, u4_, u5_, u6_, p1_, q3_, q4_, q5_, q6_, cnd_t, cnd_f, Asc_t, Asc_f])⟩
    ·
     intro D t w hD hp hcl hI rest hk
     obtain ⟨O, ht, hs⟩ := hI
     obtain ⟨p2_, _, _⟩ := hp
     obtain ⟨p1_, _⟩ := (hcl.get 2 (by decide)) p2_
     have q4_ : D 4 = false := not_yet (hcl.get 4 (by decide)) 1 3 rfl hD
     have q5_ : D 5 = false := not_yet (hcl.get 5 (by decide)) 0 4 rfl q4_
     have q6_ : D 6 = false := not_yet (hcl.get 6 (by decide)) 0 5 rfl q5_
     have u0_ : upd D 3 0 = D 0 := rfl; have u1_ : upd D 3 1 = D 1 := rfl; have u2_ : upd D 3 2 = D 2 := rfl; have u3_ : upd D 3 3 = true := rfl; have u4_ : upd D 3 4 = D 4 := rfl; have u5_ : upd D 3 5 = D 5 := rfl; have u6_ : upd D 3 6 = D 6 := rfl
     simp only [hD, p1_, p2_, q4_, q5_, q6_, cnd_t, cnd_f, Asc_t, Asc_f] at ht hs
     subst ht
     refine s_call (args := [Value.agg ((encA (encI .i64)) r7).toArray]) rfl rfl (x_call rfl (callFunc_enter Try.func62 rfl rfl) rfl) (_impl_State_half.calls (a1 := r7) Hr8) ?_
     rintro _ w ⟨rfl, hs2⟩
     have hs : St _ [_] _ := hs.call hs2
     show G _ _ _ _ [_, _, _, _, _, _, _, _, _, _, _, _] _
     exact hk _ _ ⟨O, (by simp only [u0_, u1_, u2_, u3_, u4_, u5_, u6_, p1_, p2_, q4_, q5_, q6_, cnd_t, cnd_f, Asc_t, Asc_f]), hs.cast (by first | rfl | simp only [List.take, List.drop, List.cons_append, List.nil_append, List.set_cons_zero, List.set_cons_succ, List.eraseIdx, u0_, u1_, u2_, u3_, u4_, u5_, u6_, p1_, p2_, q4_, q5_, q6_, cnd_t, cnd_f, Asc_t, Asc_f])⟩
    ·
     intro D t w hD hp hcl hI rest hk
     obtain ⟨O, ht, hs⟩ := hI
     obtain ⟨p0_, p3_, _, _⟩ := hp
     obtain ⟨p2_, _, _⟩ := (hcl.get 3 (by decide)) p3_
     obtain ⟨p1_, _⟩ := (hcl.get 2 (by decide)) p2_
     have q5_ : D 5 = false := not_yet (hcl.get 5 (by decide)) 0 4 rfl hD
     have q6_ : D 6 = false := not_yet (hcl.get 6 (by decide)) 0 5 rfl q5_
     have u0_ : upd D 4 0 = D 0 := rfl; have u1_ : upd D 4 1 = D 1 := rfl; have u2_ : upd D 4 2 = D 2 := rfl; have u3_ : upd D 4 3 = D 3 := rfl; have u4_ : upd D 4 4 = true := rfl; have u5_ : upd D 4 5 = D 5 := rfl; have u6_ : upd D 4 6 = D 6 := rfl
     simp only [hD, p0_, p1_, p2_, p3_, q5_, q6_, cnd_t, cnd_f, Asc_t, Asc_f] at ht hs
     subst ht
     refine s_call (args := [Value.agg (([Value.int .i8 a1.f_Numbers, Value.int .i8 a1.f_Lies, v2] : List Value)).toArray, Value.agg ((encA (encI .i64)) r8).toArray]) rfl rfl (x_call rfl (callFunc_enter Try.func60 rfl rfl) rfl) (_impl_Game_setFor.calls (a1 := (⟨a1.f_Numbers, a1.f_Lies, a1.f_Asked⟩ : S_impl_Game)) (a4 := r8) (hs.rd hr3) Hr9) ?_
     rintro _ w ⟨rfl, hs2⟩
     have hs : St _ [_] _ := hs.call hs2
     show G _ _ _ _ [_, _, _, _, _, _, _, _, _, _, _, _] _
     exact hk _ _ ⟨O, (by simp only [u0_, u1_, u2_, u3_, u4_, u5_, u6_, p0_, p1_, p2_, p3_, q5_, q6_, cnd_t, cnd_f, Asc_t, Asc_f]), hs.cast (by first | rfl | simp only [List.take, List.drop, List.cons_append, List.nil_append, List.set_cons_zero, List.set_cons_succ, List.eraseIdx, u0_, u1_, u2_, u3_, u4_, u5_, u6_, p0_, p1_, p2_, p3_, q5_, q6_, cnd_t, cnd_f, Asc_t, Asc_f])⟩
    ·
     intro D t w hD hp hcl hI rest hk
     obtain ⟨O, ht, hs⟩ := hI
     obtain ⟨p4_, _, p0_, p1_, p2_, p3_, _, _⟩ := hp
     have q6_ : D 6 = false := not_yet (hcl.get 6 (by decide)) 0 5 rfl hD
     have u0_ : upd D 5 0 = D 0 := rfl; have u1_ : upd D 5 1 = D 1 := rfl; have u2_ : upd D 5 2 = D 2 := rfl; have u3_ : upd D 5 3 = D 3 := rfl; have u4_ : upd D 5 4 = D 4 := rfl; have u5_ : upd D 5 5 = true := rfl; have u6_ : upd D 5 6 = D 6 := rfl
     simp only [hD, p0_, p1_, p2_, p3_, p4_, q6_, cnd_t, cnd_f, Asc_t, Asc_f] at ht hs
     subst ht
     refine g_op (v := Value.int .u64 r9) rfl rfl rfl ?_
     show G _ _ _ _ [_, _, _, _, _, _, _, _, _, _, _, _] _
     exact hk _ _ ⟨O, (by simp only [u0_, u1_, u2_, u3_, u4_, u5_, u6_, p0_, p1_, p2_, p3_, p4_, q6_, cnd_t, cnd_f, Asc_t, Asc_f]), hs.cast (by first | rfl | simp only [List.take, List.drop, List.cons_append, List.nil_append, List.set_cons_zero, List.set_cons_succ, List.eraseIdx, u0_, u1_, u2_, u3_, u4_, u5_, u6_, p0_, p1_, p2_, p3_, p4_, q6_, cnd_t, cnd_f, Asc_t, Asc_f])⟩
    ·
     intro D t w hD hp hcl hI rest hk
     obtain ⟨O, ht, hs⟩ := hI
     obtain ⟨p5_, p0_, p1_, p2_, p3_, p4_, _, _⟩ := hp
     have u0_ : upd D 6 0 = D 0 := rfl; have u1_ : upd D 6 1 = D 1 := rfl; have u2_ : upd D 6 2 = D 2 := rfl; have u3_ : upd D 6 3 = D 3 := rfl; have u4_ : upd D 6 4 = D 4 := rfl; have u5_ : upd D 6 5 = D 5 := rfl; have u6_ : upd D 6 6 = true := rfl
     simp only [hD, p0_, p1_, p2_, p3_, p4_, p5_, cnd_t, cnd_f, Asc_t, Asc_f] at ht hs
     subst ht
     refine g_op (v := Value.int .i64 0) rfl rfl rfl ?_
     show G _ _ _ _ [_, _, _, _, _, _, _, _, _, _, _, _] _
     exact hk _ _ ⟨O, (by simp only [u0_, u1_, u2_, u3_, u4_, u5_, u6_, p0_, p1_, p2_, p3_, p4_, p5_, cnd_t, cnd_f, Asc_t, Asc_f]), hs.cast (by first | rfl | simp only [List.take, List.drop, List.cons_append, List.nil_append, List.set_cons_zero, List.set_cons_succ, List.eraseIdx, u0_, u1_, u2_, u3_, u4_, u5_, u6_, p0_, p1_, p2_, p3_, p4_, p5_, cnd_t, cnd_f, Asc_t, Asc_f])⟩
    ·
     intro D t w hall hI
     obtain ⟨O, ht, hs⟩ := hI
     have p0_ : D 0 = true := hall 0 (by decide)
     have p1_ : D 1 = true := hall 1 (by decide)
     have p2_ : D 2 = true := hall 2 (by decide)
     have p3_ : D 3 = true := hall 3 (by decide)
     have p4_ : D 4 = true := hall 4 (by decide)
     have p5_ : D 5 = true := hall 5 (by decide)
     have p6_ : D 6 = true := hall 6 (by decide)
     simp only [p0_, p1_, p2_, p3_, p4_, p5_, p6_, cnd_t, cnd_f, Asc_t, Asc_f] at ht hs
     subst ht
     obtain rfl := Option.some.inj H
     refine g_ret Try.func41 (v := Value.tuple #[Value.int .u64 r9, Value.int .i64 0]) (resN (l := Try.f41.results.toList) (vs := [Value.int .u64 r9, Value.int .i64 0]) rfl ⟨rfl, rfl, trivial⟩ (by simp)) ?_
     have hs : St _ [] _ := St.take (Γ' := [_]) hs
     exact ⟨_, rfl, rfl, hs⟩
  | false =>
    rw [if_neg Bool.false_ne_true] at H
    show G _ _ _ _ [_, _, _, _, _, _, _, _, _, _, _, _] _
    refine g_op (v := Value.bool true) rfl rfl rfl ?_
    show G _ _ _ _ [_, _, _, _, _, _, _, _, _, _, _, _] _
    refine g_ops_nil ?_
    refine g_cond_true rfl ?_
    refine g_seq ?_
    refine g_region ?_
    show G _ _ _ (.inRegion _ [0, 1] :: _) _ _
    refine g_op (v := Value.int .u64 0) rfl rfl rfl ?_
    show G _ _ _ _ [_, _, _, _, _, _, _, _, _, _, _, _] _
    refine g_op (v := Value.int .i64 1) rfl rfl rfl ?_
    show G _ _ _ _ [_, _, _, _, _, _, _, _, _, _, _, _] _
    refine g_ops_nil ?_
    obtain rfl := Option.some.inj H
    refine g_ret Try.func41 (v := Value.tuple #[Value.int .u64 0, Value.int .i64 1]) (resN (l := Try.f41.results.toList) (vs := [Value.int .u64 0, Value.int .i64 1]) rfl ⟨rfl, rfl, trivial⟩ (by simp)) ?_
    have hs : St _ [] _ := St.take (Γ' := [_]) hs
    exact ⟨_, rfl, rfl, hs⟩

/- function 63 slices_Clone_impl_Ask_impl_Ask -/
def slices_Clone_impl_Ask_impl_Ask.post (w0 : World) (r : (List S_impl_Ask)) (v : Value) (w : World) : Prop := St w0 [Row 64 k_S_impl_Ask v r] w
set_option maxHeartbeats 8000000 in
set_option maxRecDepth 100000 in
theorem slices_Clone_impl_Ask_impl_Ask.calls {N : Nat} {a1 : (List S_impl_Ask)} {v2 : Value} {w0 : World} {r : (List S_impl_Ask)} (hr0 : RdRow k_S_impl_Ask w0 v2 a1) (H : slices_Clone_impl_Ask_impl_Ask.f N a1 = some r) :
    Calls Try.prog 63 #[v2] w0 fun e w => ∃ v, e = .returned v ∧ slices_Clone_impl_Ask_impl_Ask.post w0 r v w := by
  unfold slices_Clone_impl_Ask_impl_Ask.f at H
  have hs : St w0 [] w0 := St.refl w0
  refine calls_of_g (n := 7) Try.func63 rfl rfl ?_
  show G _ _ _ _ [_, _, _, _, _, _, _, _] _
  refine g_seq ?_
  refine g_region ?_
  show G _ _ _ (.inRegion _ [0] :: _) _ _
  refine g_op (v := Value.slice none 0 0) rfl rfl rfl ?_
  show G _ _ _ _ [_, _, _, _, _, _, _, _] _
  refine g_ops_nil ?_
  refine g_seq ?_
  refine g_seq ?_
  refine g_region ?_
  show G _ _ _ (.inRegion _ [0, 1] :: _) _ _
  refine g_op (v := v2) rfl rfl rfl ?_
  show G _ _ _ _ [_, _, _, _, _, _, _, _] _
  rcases nilCases hr0 with ⟨cn_, cp_, hv_, hx_⟩ | ⟨ad_, cn_, cp_, hv_⟩
  ·
   have H : (some []) = some r := by simpa [hx_] using H
   refine g_op (v := Value.bool true) rfl rfl (x_eqNil rfl rfl rfl hv_ rfl) ?_
   show G _ _ _ _ [_, _, _, _, _, _, _, _] _
   refine g_ops_nil ?_
   refine g_cond_true rfl ?_
   refine g_seq ?_
   refine g_region ?_
   show G _ _ _ (.inRegion _ [0] :: _) _ _
   refine g_op (v := Value.slice none 0 0) rfl rfl rfl ?_
   show G _ _ _ _ [_, _, _, _, _, _, _, _] _
   refine g_ops_nil ?_
   obtain rfl := Option.some.inj H
   refine g_ret Try.func63 (v := Value.slice none 0 0) (res1 rfl rfl) ?_
   have hs := hs.nil 64 k_S_impl_Ask
   have hs := hs.pull 0 rfl
   have hs : St _ [_] _ := St.take (Γ' := []) hs
   exact ⟨_, rfl, hs⟩
  ·
   refine g_op (v := Value.bool false) rfl rfl (x_neNil rfl rfl rfl hv_ rfl) ?_
   show G _ _ _ _ [_, _, _, _, _, _, _, _] _
   refine g_ops_nil ?_
   refine g_cond_false rfl ?_
   refine g_skip ?_
   refine g_seq ?_
   refine g_region ?_
   show G _ _ _ (.inRegion _ [0, 1, 2, 3] :: _) _ _
   refine s_lit0 (κ := k_S_impl_Ask) hs rfl rfl rfl rfl (fun _ => rfl) ?_
   intro v3 w hs
   show G _ _ _ _ [_, _, _, _, _, _, _, _] _
   refine g_op (v := v2) rfl rfl rfl ?_
   show G _ _ _ _ [_, _, _, _, _, _, _, _] _
   obtain ⟨g, H⟩ := ite_get H
   refine s_append fk_S_impl_Ask (zv := (Value.agg #[Value.int .u64 0, Value.bool false])) (B := 16) hs (hs.rd hr0) rfl rfl rfl rfl rfl rfl rfl rfl rfl (by decide) rfl rfl (by decide) (by omega) ?_
   intro v5 w hs
   show G _ _ _ _ [_, _, _, _, _, _, _, _] _
   refine g_op (v := v5) rfl rfl rfl ?_
   show G _ _ _ _ [_, _, _, _, _, _, _, _] _
   refine g_ops_nil ?_
   obtain rfl := Option.some.inj H
   refine g_ret Try.func63 (v := v5) (res1 rfl rfl) ?_
   have hs := hs.pull 0 rfl
   have hs : St _ [_] _ := St.take (Γ' := []) hs
   exact ⟨_, rfl, hs⟩

/- function 42 _impl_Game_with -/
def _impl_Game_with.post (w0 : World) (r : S_impl_Game) (v : Value) (w : World) : Prop := ∃ u1 : Value, v = Value.agg (([Value.int .i8 r.f_Numbers, Value.int .i8 r.f_Lies, u1] : List Value)).toArray ∧ St w0 [Row 64 k_S_impl_Ask u1 r.f_Asked] w
set_option maxHeartbeats 8000000 in
set_option maxRecDepth 100000 in
theorem _impl_Game_with.calls {N : Nat} {a1 : S_impl_Game} {a4 : Int} {a5 : Bool} {v2 : Value} {w0 : World} {r : S_impl_Game} (hr3 : RdRow k_S_impl_Ask w0 v2 a1.f_Asked) (H : _impl_Game_with.f N a1 a4 a5 = some r) :
    Calls Try.prog 42 #[Value.agg (([Value.int .i8 a1.f_Numbers, Value.int .i8 a1.f_Lies, v2] : List Value)).toArray, Value.int .u64 a4, Value.bool a5] w0 fun e w => ∃ v, e = .returned v ∧ _impl_Game_with.post w0 r v w := by
  unfold _impl_Game_with.f at H
  have hs : St w0 [] w0 := St.refl w0
  refine calls_of_g (n := 17) Try.func42 rfl rfl ?_
  show G _ _ _ _ [_, _, _, _, _, _, _, _, _, _, _, _, _, _, _, _, _, _, _, _] _
  refine g_seq ?_
  refine g_region ?_
  show G _ _ _ (.inRegion _ [0, 1] :: _) _ _
  refine s_box hs rfl rfl (cs := (([Value.int .i8 a1.f_Numbers, Value.int .i8 a1.f_Lies, v2] : List Value))) rfl rfl ?_
  intro b6 w hs
  show G _ _ _ _ [_, _, _, _, _, _, _, _, _, _, _, _, _, _, _, _, _, _, _, _] _
  refine s_alloc hs rfl rfl (z := (Value.agg #[Value.int .i8 0, Value.int .i8 0, Value.slice none 0 0])) (cs := (([Value.int .i8 0, Value.int .i8 0, Value.slice none 0 0] : List Value))) rfl (fun _ => rfl) rfl ?_
  intro b8 w hs
  show G _ _ _ _ [_, _, _, _, _, _, _, _, _, _, _, _, _, _, _, _, _, _, _, _] _
  refine g_ops_nil ?_
  refine g_seq ?_
  obtain ⟨r10, Hr10, H⟩ := bind_get H
  obtain ⟨gq11_, H⟩ := ite_get H
  refine g_name ?_
  intro T hT
  refine g_any (n := 14) rfl [0, 1, 2, 3, 4, 5, 6, 7, 8, 9, 10, 11, 12, 13] [0, 1, 2, 3, 4, 5, 6, 7, 8, 9, 10, 11, 12, 13] rfl rfl (Inv := fun D t w => ∃ v11 : Value, ∃ v13 : Value, ∃ v15 : Value, ∃ O : Nat → Value, t = [Value.agg (([Value.int .i8 a1.f_Numbers, Value.int .i8 a1.f_Lies, v2] : List Value)).toArray, Value.int .u64 a4, Value.bool a5, Value.pointer (some ⟨b6, 0, none⟩), O 4, O 5, Value.pointer (some ⟨b8, 0, none⟩), cnd (D 0) (Value.pointer (some ⟨b6, 0, none⟩)) (O 7), cnd (D 1) (Value.int .i8 a1.f_Numbers) (O 8), cnd (D 2) (Value.pointer (some ⟨b6, 1, none⟩)) (O 9), cnd (D 3) (Value.int .i8 a1.f_Lies) (O 10), cnd (D 4) (Value.pointer (some ⟨b6, 2, none⟩)) (O 11), cnd (D 5) v2 (O 12), cnd (D 6) v11 (O 13), cnd (D 7) (Value.int .u64 a4) (O 14), cnd (D 8) (Value.bool a5) (O 15), cnd (D 9) (Value.agg (enc_S_impl_Ask (⟨a4, a5⟩ : S_impl_Ask)).toArray) (O 16), cnd (D 10) v13 (O 17), cnd (D 11) v15 (O 18), cnd (D 12) (Value.agg (([Value.int .i8 a1.f_Numbers, Value.int .i8 a1.f_Lies, v15] : List Value)).toArray) (O 19)] ∧ St w0 [Asc (D 6) (Row 64 k_S_impl_Ask (cnd (D 11) v15 v11) (cnd (D 11) (r10 ++ ([(⟨a4, a5⟩ : S_impl_Ask)])) r10)), Asc (D 10) (Row 64 k_S_impl_Ask v13 ([(⟨a4, a5⟩ : S_impl_Ask)])), Cells b8 (cnd (D 13) (([Value.int .i8 a1.f_Numbers, Value.int .i8 a1.f_Lies, v15] : List Value)) (([Value.int .i8 0, Value.int .i8 0, Value.slice none 0 0] : List Value))) 31, Cells b6 (([Value.int .i8 a1.f_Numbers, Value.int .i8 a1.f_Lies, v2] : List Value)) 31] w) ?_ ⟨⟨⟨⟨⟨⟨⟨⟨⟨⟨⟨⟨⟨⟨trivial, ?_⟩, ?_⟩, ?_⟩, ?_⟩, ?_⟩, ?_⟩, ?_⟩, ?_⟩, ?_⟩, ?_⟩, ?_⟩, ?_⟩, ?_⟩, ?_⟩ ?_
  ·
   intro w hh hbw
   have hs := hs.samew hh hbw
   have hs := hs.emp
   have hs := hs.emp
   exact ⟨undef, undef, undef, fun i => T.getD i undef, (by subst hT; rfl), hs⟩
  ·
   intro D t w hD hp hcl hI rest hk
   obtain ⟨v11, v13, v15, O, ht, hs⟩ := hI
   have q1_ : D 1 = false := not_yet (hcl.get 1 (by decide)) 0 0 rfl hD
   have q12_ : D 12 = false := not_yet (hcl.get 12 (by decide)) 0 1 rfl q1_
   have q13_ : D 13 = false := not_yet (hcl.get 13 (by decide)) 0 12 rfl q12_
   have u0_ : upd D 0 0 = true := rfl; have u1_ : upd D 0 1 = D 1 := rfl; have u2_ : upd D 0 2 = D 2 := rfl; have u3_ : upd D 0 3 = D 3 := rfl; have u4_ : upd D 0 4 = D 4 := rfl; have u5_ : upd D 0 5 = D 5 := rfl; have u6_ : upd D 0 6 = D 6 := rfl; have u7_ : upd D 0 7 = D 7 := rfl; have u8_ : upd D 0 8 = D 8 := rfl; have u9_ : upd D 0 9 = D 9 := rfl; have u10_ : upd D 0 10 = D 10 := rfl; have u11_ : upd D 0 11 = D 11 := rfl; have u12_ : upd D 0 12 = D 12 := rfl; have u13_ : upd D 0 13 = D 13 := rfl
   simp only [hD, q1_, q12_, q13_, cnd_t, cnd_f, Asc_t, Asc_f] at ht hs
   subst ht
   refine g_op (v := Value.pointer (some ⟨b6, 0, none⟩)) rfl rfl rfl ?_
   show G _ _ _ _ [_, _, _, _, _, _, _, _, _, _, _, _, _, _, _, _, _, _, _, _] _
   exact hk _ _ ⟨v11, v13, v15, O, (by simp only [u0_, u1_, u2_, u3_, u4_, u5_, u6_, u7_, u8_, u9_, u10_, u11_, u12_, u13_, q1_, q12_, q13_, cnd_t, cnd_f, Asc_t, Asc_f]), hs.cast (by first | rfl | simp only [List.take, List.drop, List.cons_append, List.nil_append, List.set_cons_zero, List.set_cons_succ, List.eraseIdx, u0_, u1_, u2_, u3_, u4_, u5_, u6_, u7_, u8_, u9_, u10_, u11_, u12_, u13_, q1_, q12_, q13_, cnd_t, cnd_f, Asc_t, Asc_f])⟩
  ·
   intro D t w hD hp hcl hI rest hk
   obtain ⟨v11, v13, v15, O, ht, hs⟩ := hI
   obtain ⟨p0_, _⟩ := hp
   have q12_ : D 12 = false := not_yet (hcl.get 12 (by decide)) 0 1 rfl hD
   have q13_ : D 13 = false := not_yet (hcl.get 13 (by decide)) 0 12 rfl q12_
   have u0_ : upd D 1 0 = D 0 := rfl; have u1_ : upd D 1 1 = true := rfl; have u2_ : upd D 1 2 = D 2 := rfl; have u3_ : upd D 1 3 = D 3 := rfl; have u4_ : upd D 1 4 = D 4 := rfl; have u5_ : upd D 1 5 = D 5 := rfl; have u6_ : upd D 1 6 = D 6 := rfl; have u7_ : upd D 1 7 = D 7 := rfl; have u8_ : upd D 1 8 = D 8 := rfl; have u9_ : upd D 1 9 = D 9 := rfl; have u10_ : upd D 1 10 = D 10 := rfl; have u11_ : upd D 1 11 = D 11 := rfl; have u12_ : upd D 1 12 = D 12 := rfl; have u13_ : upd D 1 13 = D 13 := rfl
   simp only [hD, p0_, q12_, q13_, cnd_t, cnd_f, Asc_t, Asc_f] at ht hs
   subst ht
   refine s_load1 rfl rfl (v := Value.int .i8 a1.f_Numbers) rfl rfl (fun _ => rfl) (cells_load (hs.cells 3 rfl) 0 1 rfl) ?_
   show G _ _ _ _ [_, _, _, _, _, _, _, _, _, _, _, _, _, _, _, _, _, _, _, _] _
   exact hk _ _ ⟨v11, v13, v15, O, (by simp only [u0_, u1_, u2_, u3_, u4_, u5_, u6_, u7_, u8_, u9_, u10_, u11_, u12_, u13_, p0_, q12_, q13_, cnd_t, cnd_f, Asc_t, Asc_f]), hs.cast (by first | rfl | simp only [List.take, List.drop, List.cons_append, List.nil_append, List.set_cons_zero, List.set_cons_succ, List.eraseIdx, u0_, u1_, u2_, u3_, u4_, u5_, u6_, u7_, u8_, u9_, u10_, u11_, u12_, u13_, p0_, q12_, q13_, cnd_t, cnd_f, Asc_t, Asc_f])⟩
  ·
   intro D t w hD hp hcl hI rest hk
   obtain ⟨v11, v13, v15, O, ht, hs⟩ := hI
   have q3_ : D 3 = false := not_yet (hcl.get 3 (by decide)) 0 2 rfl hD
   have q12_ : D 12 = false := not_yet (hcl.get 12 (by decide)) 1 3 rfl q3_
   have q13_ : D 13 = false := not_yet (hcl.get 13 (by decide)) 0 12 rfl q12_
   have u0_ : upd D 2 0 = D 0 := rfl; have u1_ : upd D 2 1 = D 1 := rfl; have u2_ : upd D 2 2 = true := rfl; have u3_ : upd D 2 3 = D 3 := rfl; have u4_ : upd D 2 4 = D 4 := rfl; have u5_ : upd D 2 5 = D 5 := rfl; have u6_ : upd D 2 6 = D 6 := rfl; have u7_ : upd D 2 7 = D 7 := rfl; have u8_ : upd D 2 8 = D 8 := rfl; have u9_ : upd D 2 9 = D 9 := rfl; have u10_ : upd D 2 10 = D 10 := rfl; have u11_ : upd D 2 11 = D 11 := rfl; have u12_ : upd D 2 12 = D 12 := rfl; have u13_ : upd D 2 13 = D 13 := rfl
   simp only [hD, q3_, q12_, q13_, cnd_t, cnd_f, Asc_t, Asc_f] at ht hs
   subst ht
   refine g_op (v := Value.pointer (some ⟨b6, 1, none⟩)) rfl rfl rfl ?_
   show G _ _ _ _ [_, _, _, _, _, _, _, _, _, _, _, _, _, _, _, _, _, _, _, _] _
   exact hk _ _ ⟨v11, v13, v15, O, (by simp only [u0_, u1_, u2_, u3_, u4_, u5_, u6_, u7_, u8_, u9_, u10_, u11_, u12_, u13_, q3_, q12_, q13_, cnd_t, cnd_f, Asc_t, Asc_f]), hs.cast (by first | rfl | simp only [List.take, List.drop, List.cons_append, List.nil_append, List.set_cons_zero, List.set_cons_succ, List.eraseIdx, u0_, u1_, u2_, u3_, u4_, u5_, u6_, u7_, u8_, u9_, u10_, u11_, u12_, u13_, q3_, q12_, q13_, cnd_t, cnd_f, Asc_t, Asc_f])⟩
  ·
   intro D t w hD hp hcl hI rest hk
   obtain ⟨v11, v13, v15, O, ht, hs⟩ := hI
   obtain ⟨p2_, _⟩ := hp
   have q12_ : D 12 = false := not_yet (hcl.get 12 (by decide)) 1 3 rfl hD
   have q13_ : D 13 = false := not_yet (hcl.get 13 (by decide)) 0 12 rfl q12_
   have u0_ : upd D 3 0 = D 0 := rfl; have u1_ : upd D 3 1 = D 1 := rfl; have u2_ : upd D 3 2 = D 2 := rfl; have u3_ : upd D 3 3 = true := rfl; have u4_ : upd D 3 4 = D 4 := rfl; have u5_ : upd D 3 5 = D 5 := rfl; have u6_ : upd D 3 6 = D 6 := rfl; have u7_ : upd D 3 7 = D 7 := rfl; have u8_ : upd D 3 8 = D 8 := rfl; have u9_ : upd D 3 9 = D 9 := rfl; have u10_ : upd D 3 10 = D 10 := rfl; have u11_ : upd D 3 11 = D 11 := rfl; have u12_ : upd D 3 12 = D 12 := rfl; have u13_ : upd D 3 13 = D 13 := rfl
   simp only [hD, p2_, q12_, q13_, cnd_t, cnd_f, Asc_t, Asc_f] at ht hs
   subst ht
   refine s_load1 rfl rfl (v := Value.int .i8 a1.f_Lies) rfl rfl (fun _ => rfl) (cells_load (hs.cells 3 rfl) 1 1 rfl) ?_
   show G _ _ _ _ [_, _, _, _, _, _, _, _, _, _, _, _, _, _, _, _, _, _, _, _] _
   exact hk _ _ ⟨v11, v13, v15, O, (by simp only [u0_, u1_, u2_, u3_, u4_, u5_, u6_, u7_, u8_, u9_, u10_, u11_, u12_, u13_, p2_, q12_, q13_, cnd_t, cnd_f, Asc_t, Asc_f]), hs.cast (by first | rfl | simp only [List.take, List.drop, List.cons_append, List.nil_append, List.set_cons_zero, List.set_cons_succ, List.eraseIdx, u0_, u1_, u2_, u3_, u4_, u5_, u6_, u7_, u8_, u9_, u10_, u11_, u12_, u13_, p2_, q12_, q13_, cnd_t, cnd_f, Asc_t, Asc_f])⟩
  ·
   intro D t w hD hp hcl hI rest hk
   obtain ⟨v11, v13, v15, O, ht, hs⟩ := hI
   have q5_ : D 5 = false := not_yet (hcl.get 5 (by decide)) 0 4 rfl hD
   have q6_ : D 6 = false := not_yet (hcl.get 6 (by decide)) 0 5 rfl q5_
   have q11_ : D 11 = false := not_yet (hcl.get 11 (by decide)) 0 6 rfl q6_
   have q12_ : D 12 = false := not_yet (hcl.get 12 (by decide)) 2 11 rfl q11_
   have q13_ : D 13 = false := not_yet (hcl.get 13 (by decide)) 0 12 rfl q12_
   have u0_ : upd D 4 0 = D 0 := rfl; have u1_ : upd D 4 1 = D 1 := rfl; have u2_ : upd D 4 2 = D 2 := rfl; have u3_ : upd D 4 3 = D 3 := rfl; have u4_ : upd D 4 4 = true := rfl; have u5_ : upd D 4 5 = D 5 := rfl; have u6_ : upd D 4 6 = D 6 := rfl; have u7_ : upd D 4 7 = D 7 := rfl; have u8_ : upd D 4 8 = D 8 := rfl; have u9_ : upd D 4 9 = D 9 := rfl; have u10_ : upd D 4 10 = D 10 := rfl; have u11_ : upd D 4 11 = D 11 := rfl; have u12_ : upd D 4 12 = D 12 := rfl; have u13_ : upd D 4 13 = D 13 := rfl
   simp only [hD, q5_, q6_, q11_, q12_, q13_, cnd_t, cnd_f, Asc_t, Asc_f] at ht hs
   subst ht
   refine g_op (v := Value.pointer (some ⟨b6, 2, none⟩)) rfl rfl rfl ?_
   show G _ _ _ _ [_, _, _, _, _, _, _, _, _, _, _, _, _, _, _, _, _, _, _, _] _
   exact hk _ _ ⟨v11, v13, v15, O, (by simp only [u0_, u1_, u2_, u3_, u4_, u5_, u6_, u7_, u8_, u9_, u10_, u11_, u12_, u13_, q5_, q6_, q11_, q12_, q13_, cnd_t, cnd_f, Asc_t, Asc_f]), hs.cast (by first | rfl | simp only [List.take, List.drop, List.cons_append, List.nil_append, List.set_cons_zero, List.set_cons_succ, List.eraseIdx, u0_, u1_, u2_, u3_, u4_, u5_, u6_, u7_, u8_, u9_, u10_, u11_, u12_, u13_, q5_, q6_, q11_, q12_, q13_, cnd_t, cnd_f, Asc_t, Asc_f])⟩
  ·
   intro D t w hD hp hcl hI rest hk
   obtain ⟨v11, v13, v15, O, ht, hs⟩ := hI
   obtain ⟨p4_, _⟩ := hp
   have q6_ : D 6 = false := not_yet (hcl.get 6 (by decide)) 0 5 rfl hD
   have q11_ : D 11 = false := not_yet (hcl.get 11 (by decide)) 0 6 rfl q6_
   have q12_ : D 12 = false := not_yet (hcl.get 12 (by decide)) 2 11 rfl q11_
   have q13_ : D 13 = false := not_yet (hcl.get 13 (by decide)) 0 12 rfl q12_
   have u0_ : upd D 5 0 = D 0 := rfl; have u1_ : upd D 5 1 = D 1 := rfl; have u2_ : upd D 5 2 = D 2 := rfl; have u3_ : upd D 5 3 = D 3 := rfl; have u4_ : upd D 5 4 = D 4 := rfl; have u5_ : upd D 5 5 = true := rfl; have u6_ : upd D 5 6 = D 6 := rfl; have u7_ : upd D 5 7 = D 7 := rfl; have u8_ : upd D 5 8 = D 8 := rfl; have u9_ : upd D 5 9 = D 9 := rfl; have u10_ : upd D 5 10 = D 10 := rfl; have u11_ : upd D 5 11 = D 11 := rfl; have u12_ : upd D 5 12 = D 12 := rfl; have u13_ : upd D 5 13 = D 13 := rfl
   simp only [hD, p4_, q6_, q11_, q12_, q13_, cnd_t, cnd_f, Asc_t, Asc_f] at ht hs
   subst ht
   refine s_load1 rfl rfl (v := v2) rfl rfl (fun _ => rfl) (cells_load (hs.cells 3 rfl) 2 1 rfl) ?_
   show G _ _ _ _ [_, _, _, _, _, _, _, _, _, _, _, _, _, _, _, _, _, _, _, _] _
   exact hk _ _ ⟨v11, v13, v15, O, (by simp only [u0_, u1_, u2_, u3_, u4_, u5_, u6_, u7_, u8_, u9_, u10_, u11_, u12_, u13_, p4_, q6_, q11_, q12_, q13_, cnd_t, cnd_f, Asc_t, Asc_f]), hs.cast (by first | rfl | simp only [List.take, List.drop, List.cons_append, List.nil_append, List.set_cons_zero, List.set_cons_succ, List.eraseIdx, u0_, u1_, u2_, u3_, u4_, u5_, u6_, u7_, u8_, u9_, u10_, u11_, u12_, u13_, p4_, q6_, q11_, q12_, q13_, cnd_t, cnd_f, Asc_t, Asc_f])⟩
  ·
   intro D t w hD hp hcl hI rest hk
   obtain ⟨v11, v13, v15, O, ht, hs⟩ := hI
   obtain ⟨p5_, _⟩ := hp
   obtain ⟨p4_, _⟩ := (hcl.get 5 (by decide)) p5_
   have q11_ : D 11 = false := not_yet (hcl.get 11 (by decide)) 0 6 rfl hD
   have q12_ : D 12 = false := not_yet (hcl.get 12 (by decide)) 2 11 rfl q11_
   have q13_ : D 13 = false := not_yet (hcl.get 13 (by decide)) 0 12 rfl q12_
   have u0_ : upd D 6 0 = D 0 := rfl; have u1_ : upd D 6 1 = D 1 := rfl; have u2_ : upd D 6 2 = D 2 := rfl; have u3_ : upd D 6 3 = D 3 := rfl; have u4_ : upd D 6 4 = D 4 := rfl; have u5_ : upd D 6 5 = D 5 := rfl; have u6_ : upd D 6 6 = true := rfl; have u7_ : upd D 6 7 = D 7 := rfl; have u8_ : upd D 6 8 = D 8 := rfl; have u9_ : upd D 6 9 = D 9 := rfl; have u10_ : upd D 6 10 = D 10 := rfl; have u11_ : upd D 6 11 = D 11 := rfl; have u12_ : upd D 6 12 = D 12 := rfl; have u13_ : upd D 6 13 = D 13 := rfl
   simp only [hD, p4_, p5_, q11_, q12_, q13_, cnd_t, cnd_f, Asc_t, Asc_f] at ht hs
   subst ht
   refine s_call (args := [v2]) rfl rfl (x_call rfl (callFunc_enter Try.func63 rfl rfl) rfl) (slices_Clone_impl_Ask_impl_Ask.calls (a1 := a1.f_Asked) (hs.rd hr3) Hr10) ?_
   intro v11 w hs2
   have hs : St _ [_, _, _, _, _] _ := hs.call hs2
   show G _ _ _ _ [_, _, _, _, _, _, _, _, _, _, _, _, _, _, _, _, _, _, _, _] _
   have hs := hs.fill 0 rfl
   exact hk _ _ ⟨v11, v13, v15, O, (by simp only [u0_, u1_, u2_, u3_, u4_, u5_, u6_, u7_, u8_, u9_, u10_, u11_, u12_, u13_, p4_, p5_, q11_, q12_, q13_, cnd_t, cnd_f, Asc_t, Asc_f]), hs.cast (by first | rfl | simp only [List.take, List.drop, List.cons_append, List.nil_append, List.set_cons_zero, List.set_cons_succ, List.eraseIdx, u0_, u1_, u2_, u3_, u4_, u5_, u6_, u7_, u8_, u9_, u10_, u11_, u12_, u13_, p4_, p5_, q11_, q12_, q13_, cnd_t, cnd_f, Asc_t, Asc_f])⟩
  ·
   intro D t w hD hp hcl hI rest hk
   obtain ⟨v11, v13, v15, O, ht, hs⟩ := hI
   have q9_ : D 9 = false := not_yet (hcl.get 9 (by decide)) 0 7 rfl hD
   have q10_ : D 10 = false := not_yet (hcl.get 10 (by decide)) 0 9 rfl q9_
   have q11_ : D 11 = false := not_yet (hcl.get 11 (by decide)) 1 10 rfl q10_
   have q12_ : D 12 = false := not_yet (hcl.get 12 (by decide)) 2 11 rfl q11_
   have q13_ : D 13 = false := not_yet (hcl.get 13 (by decide)) 0 12 rfl q12_
   have u0_ : upd D 7 0 = D 0 := rfl; have u1_ : upd D 7 1 = D 1 := rfl; have u2_ : upd D 7 2 = D 2 := rfl; have u3_ : upd D 7 3 = D 3 := rfl; have u4_ : upd D 7 4 = D 4 := rfl; have u5_ : upd D 7 5 = D 5 := rfl; have u6_ : upd D 7 6 = D 6 := rfl; have u7_ : upd D 7 7 = true := rfl; have u8_ : upd D 7 8 = D 8 := rfl; have u9_ : upd D 7 9 = D 9 := rfl; have u10_ : upd D 7 10 = D 10 := rfl; have u11_ : upd D 7 11 = D 11 := rfl; have u12_ : upd D 7 12 = D 12 := rfl; have u13_ : upd D 7 13 = D 13 := rfl
   simp only [hD, q9_, q10_, q11_, q12_, q13_, cnd_t, cnd_f, Asc_t, Asc_f] at ht hs
   subst ht
   refine g_op (v := Value.int .u64 a4) rfl rfl rfl ?_
   show G _ _ _ _ [_, _, _, _, _, _, _, _, _, _, _, _, _, _, _, _, _, _, _, _] _
   exact hk _ _ ⟨v11, v13, v15, O, (by simp only [u0_, u1_, u2_, u3_, u4_, u5_, u6_, u7_, u8_, u9_, u10_, u11_, u12_, u13_, q9_, q10_, q11_, q12_, q13_, cnd_t, cnd_f, Asc_t, Asc_f]), hs.cast (by first | rfl | simp only [List.take, List.drop, List.cons_append, List.nil_append, List.set_cons_zero, List.set_cons_succ, List.eraseIdx, u0_, u1_, u2_, u3_, u4_, u5_, u6_, u7_, u8_, u9_, u10_, u11_, u12_, u13_, q9_, q10_, q11_, q12_, q13_, cnd_t, cnd_f, Asc_t, Asc_f])⟩
  ·
   intro D t w hD hp hcl hI rest hk
   obtain ⟨v11, v13, v15, O, ht, hs⟩ := hI
   have q9_ : D 9 = false := not_yet (hcl.get 9 (by decide)) 1 8 rfl hD
   have q10_ : D 10 = false := not_yet (hcl.get 10 (by decide)) 0 9 rfl q9_
   have q11_ : D 11 = false := not_yet (hcl.get 11 (by decide)) 1 10 rfl q10_
   have q12_ : D 12 = false := not_yet (hcl.get 12 (by decide)) 2 11 rfl q11_
   have q13_ : D 13 = false := not_yet (hcl.get 13 (by decide)) 0 12 rfl q12_
   have u0_ : upd D 8 0 = D 0 := rfl; have u1_ : upd D 8 1 = D 1 := rfl; have u2_ : upd D 8 2 = D 2 := rfl; have u3_ : upd D 8 3 = D 3 := rfl; have u4_ : upd D 8 4 = D 4 := rfl; have u5_ : upd D 8 5 = D 5 := rfl; have u6_ : upd D 8 6 = D 6 := rfl; have u7_ : upd D 8 7 = D 7 := rfl; have u8_ : upd D 8 8 = true := rfl; have u9_ : upd D 8 9 = D 9 := rfl; have u10_ : upd D 8 10 = D 10 := rfl; have u11_ : upd D 8 11 = D 11 := rfl; have u12_ : upd D 8 12 = D 12 := rfl; have u13_ : upd D 8 13 = D 13 := rfl
   simp only [hD, q9_, q10_, q11_, q12_, q13_, cnd_t, cnd_f, Asc_t, Asc_f] at ht hs
   subst ht
   refine g_op (v := Value.bool a5) rfl rfl rfl ?_
   show G _ _ _ _ [_, _, _, _, _, _, _, _, _, _, _, _, _, _, _, _, _, _, _, _] _
   exact hk _ _ ⟨v11, v13, v15, O, (by simp only [u0_, u1_, u2_, u3_, u4_, u5_, u6_, u7_, u8_, u9_, u10_, u11_, u12_, u13_, q9_, q10_, q11_, q12_, q13_, cnd_t, cnd_f, Asc_t, Asc_f]), hs.cast (by first | rfl | simp only [List.take, List.drop, List.cons_append, List.nil_append, List.set_cons_zero, List.set_cons_succ, List.eraseIdx, u0_, u1_, u2_, u3_, u4_, u5_, u6_, u7_, u8_, u9_, u10_, u11_, u12_, u13_, q9_, q10_, q11_, q12_, q13_, cnd_t, cnd_f, Asc_t, Asc_f])⟩
  ·
   intro D t w hD hp hcl hI rest hk
   obtain ⟨v11, v13, v15, O, ht, hs⟩ := hI
   obtain ⟨p7_, p8_, _⟩ := hp
   have q10_ : D 10 = false := not_yet (hcl.get 10 (by decide)) 0 9 rfl hD
   have q11_ : D 11 = false := not_yet (hcl.get 11 (by decide)) 1 10 rfl q10_
   have q12_ : D 12 = false := not_yet (hcl.get 12 (by decide)) 2 11 rfl q11_
   have q13_ : D 13 = false := not_yet (hcl.get 13 (by decide)) 0 12 rfl q12_
   have u0_ : upd D 9 0 = D 0 := rfl; have u1_ : upd D 9 1 = D 1 := rfl; have u2_ : upd D 9 2 = D 2 := rfl; have u3_ : upd D 9 3 = D 3 := rfl; have u4_ : upd D 9 4 = D 4 := rfl; have u5_ : upd D 9 5 = D 5 := rfl; have u6_ : upd D 9 6 = D 6 := rfl; have u7_ : upd D 9 7 = D 7 := rfl; have u8_ : upd D 9 8 = D 8 := rfl; have u9_ : upd D 9 9 = true := rfl; have u10_ : upd D 9 10 = D 10 := rfl; have u11_ : upd D 9 11 = D 11 := rfl; have u12_ : upd D 9 12 = D 12 := rfl; have u13_ : upd D 9 13 = D 13 := rfl
   simp only [hD, p7_, p8_, q10_, q11_, q12_, q13_, cnd_t, cnd_f, Asc_t, Asc_f] at ht hs
   subst ht
   refine g_op (v := Value.agg (enc_S_impl_Ask (⟨a4, a5⟩ : S_impl_Ask)).toArray) rfl rfl (x_buildS (cs := (enc_S_impl_Ask (⟨a4, a5⟩ : S_impl_Ask))) (segs := [[Value.int .u64 0], [Value.bool false]]) rfl rfl (fun _ => rfl) ⟨rfl, (fun _ => rfl), rfl, (fun _ => rfl), trivial⟩ (by simp only [List.map_cons, List.map_nil, List.forall_mem_cons, List.not_mem_nil, false_implies, implies_true, and_true]; exact ⟨⟨_, rfl, rfl⟩, ⟨_, rfl, rfl⟩⟩) (by first | rfl | (simp [ev, enc_S_impl_Ask]; done) | (simp [ev, enc_S_impl_Ask]; rfl))) ?_
   show G _ _ _ _ [_, _, _, _, _, _, _, _, _, _, _, _, _, _, _, _, _, _, _, _] _
   exact hk _ _ ⟨v11, v13, v15, O, (by simp only [u0_, u1_, u2_, u3_, u4_, u5_, u6_, u7_, u8_, u9_, u10_, u11_, u12_, u13_, p7_, p8_, q10_, q11_, q12_, q13_, cnd_t, cnd_f, Asc_t, Asc_f]), hs.cast (by first | rfl | simp only [List.take, List.drop, List.cons_append, List.nil_append, List.set_cons_zero, List.set_cons_succ, List.eraseIdx, u0_, u1_, u2_, u3_, u4_, u5_, u6_, u7_, u8_, u9_, u10_, u11_, u12_, u13_, p7_, p8_, q10_, q11_, q12_, q13_, cnd_t, cnd_f, Asc_t, Asc_f])⟩
  ·
   intro D t w hD hp hcl hI rest hk
   obtain ⟨v11, v13, v15, O, ht, hs⟩ := hI
   obtain ⟨p9_, _⟩ := hp
   obtain ⟨p7_, p8_, _⟩ := (hcl.get 9 (by decide)) p9_
   have q11_ : D 11 = false := not_yet (hcl.get 11 (by decide)) 1 10 rfl hD
   have q12_ : D 12 = false := not_yet (hcl.get 12 (by decide)) 2 11 rfl q11_
   have q13_ : D 13 = false := not_yet (hcl.get 13 (by decide)) 0 12 rfl q12_
   have u0_ : upd D 10 0 = D 0 := rfl; have u1_ : upd D 10 1 = D 1 := rfl; have u2_ : upd D 10 2 = D 2 := rfl; have u3_ : upd D 10 3 = D 3 := rfl; have u4_ : upd D 10 4 = D 4 := rfl; have u5_ : upd D 10 5 = D 5 := rfl; have u6_ : upd D 10 6 = D 6 := rfl; have u7_ : upd D 10 7 = D 7 := rfl; have u8_ : upd D 10 8 = D 8 := rfl; have u9_ : upd D 10 9 = D 9 := rfl; have u10_ : upd D 10 10 = true := rfl; have u11_ : upd D 10 11 = D 11 := rfl; have u12_ : upd D 10 12 = D 12 := rfl; have u13_ : upd D 10 13 = D 13 := rfl
   simp only [hD, p7_, p8_, p9_, q11_, q12_, q13_, cnd_t, cnd_f, Asc_t, Asc_f] at ht hs
   subst ht
   refine s_lit1 fk_S_impl_Ask (y := (⟨a4, a5⟩ : S_impl_Ask)) hs rfl rfl rfl rfl (fun _ => rfl) (zv := (Value.agg #[Value.int .u64 0, Value.bool false])) (fun _ => rfl) rfl (by decide) (by decide) rfl ?_
   intro v13 w hs
   show G _ _ _ _ [_, _, _, _, _, _, _, _, _, _, _, _, _, _, _, _, _, _, _, _] _
   have hs := hs.fill 1 rfl
   exact hk _ _ ⟨v11, v13, v15, O, (by simp only [u0_, u1_, u2_, u3_, u4_, u5_, u6_, u7_, u8_, u9_, u10_, u11_, u12_, u13_, p7_, p8_, p9_, q11_, q12_, q13_, cnd_t, cnd_f, Asc_t, Asc_f]), hs.cast (by first | rfl | simp only [List.take, List.drop, List.cons_append, List.nil_append, List.set_cons_zero, List.set_cons_succ, List.eraseIdx, u0_, u1_, u2_, u3_, u4_, u5_, u6_, u7_, u8_, u9_, u10_, u11_, u12_, u13_, p7_, p8_, p9_, q11_, q12_, q13_, cnd_t, cnd_f, Asc_t, Asc_f])⟩
  ·
   intro D t w hD hp hcl hI rest hk
   obtain ⟨v11, v13, v15, O, ht, hs⟩ := hI
   obtain ⟨p6_, p10_, _, _⟩ := hp
   obtain ⟨p9_, _⟩ := (hcl.get 10 (by decide)) p10_
   obtain ⟨p7_, p8_, _⟩ := (hcl.get 9 (by decide)) p9_
   obtain ⟨p5_, _⟩ := (hcl.get 6 (by decide)) p6_
   obtain ⟨p4_, _⟩ := (hcl.get 5 (by decide)) p5_
   have q12_ : D 12 = false := not_yet (hcl.get 12 (by decide)) 2 11 rfl hD
   have q13_ : D 13 = false := not_yet (hcl.get 13 (by decide)) 0 12 rfl q12_
   have u0_ : upd D 11 0 = D 0 := rfl; have u1_ : upd D 11 1 = D 1 := rfl; have u2_ : upd D 11 2 = D 2 := rfl; have u3_ : upd D 11 3 = D 3 := rfl; have u4_ : upd D 11 4 = D 4 := rfl; have u5_ : upd D 11 5 = D 5 := rfl; have u6_ : upd D 11 6 = D 6 := rfl; have u7_ : upd D 11 7 = D 7 := rfl; have u8_ : upd D 11 8 = D 8 := rfl; have u9_ : upd D 11 9 = D 9 := rfl; have u10_ : upd D 11 10 = D 10 := rfl; have u11_ : upd D 11 11 = true := rfl; have u12_ : upd D 11 12 = D 12 := rfl; have u13_ : upd D 11 13 = D 13 := rfl
   simp only [hD, p4_, p5_, p6_, p7_, p8_, p9_, p10_, q12_, q13_, cnd_t, cnd_f, Asc_t, Asc_f] at ht hs
   subst ht
   refine s_append fk_S_impl_Ask (zv := (Value.agg #[Value.int .u64 0, Value.bool false])) (B := 16) hs (hs.row 1 rfl) rfl rfl rfl rfl rfl rfl rfl rfl rfl (by decide) rfl rfl (by decide) (by have := gq11_; omega) ?_
   intro v15 w hs
   show G _ _ _ _ [_, _, _, _, _, _, _, _, _, _, _, _, _, _, _, _, _, _, _, _] _
   have hs := hs.push 0 (by simp)
   exact hk _ _ ⟨v11, v13, v15, O, (by simp only [u0_, u1_, u2_, u3_, u4_, u5_, u6_, u7_, u8_, u9_, u10_, u11_, u12_, u13_, p4_, p5_, p6_, p7_, p8_, p9_, p10_, q12_, q13_, cnd_t, cnd_f, Asc_t, Asc_f]), hs.cast (by first | rfl | simp only [List.take, List.drop, List.cons_append, List.nil_append, List.set_cons_zero, List.set_cons_succ, List.eraseIdx, u0_, u1_, u2_, u3_, u4_, u5_, u6_, u7_, u8_, u9_, u10_, u11_, u12_, u13_, p4_, p5_, p6_, p7_, p8_, p9_, p10_, q12_, q13_, cnd_t, cnd_f, Asc_t, Asc_f])⟩
  ·
   intro D t w hD hp hcl hI rest hk
   obtain ⟨v11, v13, v15, O, ht, hs⟩ := hI
   obtain ⟨p1_, p3_, p11_, _⟩ := hp
   obtain ⟨p6_, p10_, _, _⟩ := (hcl.get 11 (by decide)) p11_
   obtain ⟨p9_, _⟩ := (hcl.get 10 (by decide)) p10_
   obtain ⟨p7_, p8_, _⟩ := (hcl.get 9 (by decide)) p9_
   obtain ⟨p5_, _⟩ := (hcl.get 6 (by decide)) p6_
   obtain ⟨p4_, _⟩ := (hcl.get 5 (by decide)) p5_
   obtain ⟨p2_, _⟩ := (hcl.get 3 (by decide)) p3_
   obtain ⟨p0_, _⟩ := (hcl.get 1 (by decide)) p1_
   have q13_ : D 13 = false := not_yet (hcl.get 13 (by decide)) 0 12 rfl hD
   have u0_ : upd D 12 0 = D 0 := rfl; have u1_ : upd D 12 1 = D 1 := rfl; have u2_ : upd D 12 2 = D 2 := rfl; have u3_ : upd D 12 3 = D 3 := rfl; have u4_ : upd D 12 4 = D 4 := rfl; have u5_ : upd D 12 5 = D 5 := rfl; have u6_ : upd D 12 6 = D 6 := rfl; have u7_ : upd D 12 7 = D 7 := rfl; have u8_ : upd D 12 8 = D 8 := rfl; have u9_ : upd D 12 9 = D 9 := rfl; have u10_ : upd D 12 10 = D 10 := rfl; have u11_ : upd D 12 11 = D 11 := rfl; have u12_ : upd D 12 12 = true := rfl; have u13_ : upd D 12 13 = D 13 := rfl
   simp only [hD, p0_, p1_, p2_, p3_, p4_, p5_, p6_, p7_, p8_, p9_, p10_, p11_, q13_, cnd_t, cnd_f, Asc_t, Asc_f] at ht hs
   subst ht
   refine g_op (v := Value.agg (([Value.int .i8 a1.f_Numbers, Value.int .i8 a1.f_Lies, v15] : List Value)).toArray) rfl rfl (x_buildS (cs := (([Value.int .i8 a1.f_Numbers, Value.int .i8 a1.f_Lies, v15] : List Value))) (segs := [[Value.int .i8 0], [Value.int .i8 0], [Value.slice none 0 0]]) rfl rfl (fun _ => rfl) ⟨rfl, (fun _ => rfl), rfl, (fun _ => rfl), rfl, (fun _ => rfl), trivial⟩ (by simp only [List.map_cons, List.map_nil, List.forall_mem_cons, List.not_mem_nil, false_implies, implies_true, and_true]; exact ⟨⟨_, rfl, rfl⟩, ⟨_, rfl, rfl⟩, ⟨_, rfl, slSize (hs.row 0 rfl)⟩⟩) (by first | rfl | (simp [ev, encA, slCells (hs.row 0 rfl)]; done) | (simp [ev, encA, slCells (hs.row 0 rfl)]; rfl))) ?_
   show G _ _ _ _ [_, _, _, _, _, _, _, _, _, _, _, _, _, _, _, _, _, _, _, _] _
   exact hk _ _ ⟨v11, v13, v15, O, (by simp only [u0_, u1_, u2_, u3_, u4_, u5_, u6_, u7_, u8_, u9_, u10_, u11_, u12_, u13_, p0_, p1_, p2_, p3_, p4_, p5_, p6_, p7_, p8_, p9_, p10_, p11_, q13_, cnd_t, cnd_f, Asc_t, Asc_f]), hs.cast (by first | rfl | simp only [List.take, List.drop, List.cons_append, List.nil_append, List.set_cons_zero, List.set_cons_succ, List.eraseIdx, u0_, u1_, u2_, u3_, u4_, u5_, u6_, u7_, u8_, u9_, u10_, u11_, u12_, u13_, p0_, p1_, p2_, p3_, p4_, p5_, p6_, p7_, p8_, p9_, p10_, p11_, q13_, cnd_t, cnd_f, Asc_t, Asc_f])⟩
  ·
   intro D t w hD hp hcl hI rest hk
   obtain ⟨v11, v13, v15, O, ht, hs⟩ := hI
   obtain ⟨p12_, p11_, p0_, p1_, p2_, p3_, p4_, p5_, p6_, p7_, p8_, p9_, p10_, _, _, _⟩ := hp
   have u0_ : upd D 13 0 = D 0 := rfl; have u1_ : upd D 13 1 = D 1 := rfl; have u2_ : upd D 13 2 = D 2 := rfl; have u3_ : upd D 13 3 = D 3 := rfl; have u4_ : upd D 13 4 = D 4 := rfl; have u5_ : upd D 13 5 = D 5 := rfl; have u6_ : upd D 13 6 = D 6 := rfl; have u7_ : upd D 13 7 = D 7 := rfl; have u8_ : upd D 13 8 = D 8 := rfl; have u9_ : upd D 13 9 = D 9 := rfl; have u10_ : upd D 13 10 = D 10 := rfl; have u11_ : upd D 13 11 = D 11 := rfl; have u12_ : upd D 13 12 = D 12 := rfl; have u13_ : upd D 13 13 = true := rfl
   simp only [hD, p0_, p1_, p2_, p3_, p4_, p5_, p6_, p7_, p8_, p9_, p10_, p11_, p12_, cnd_t, cnd_f, Asc_t, Asc_f] at ht hs
   subst ht
   have hs := hs.pull 2 rfl
   have hs : St _ [_, _, _, _] _ := hs
   refine s_storeAll (n := 3) hs rfl rfl rfl (vs := (([Value.int .i8 a1.f_Numbers, Value.int .i8 a1.f_Lies, v15] : List Value))) rfl rfl rfl (fun _ => rfl) rfl (by intro v hv; simp only [List.mem_append, List.mem_cons, List.not_mem_nil, or_false] at hv; repeat (first | (subst hv; first | rfl | exact slOne (hs.row 1 rfl)) | (rcases hv with hv | hv))) ?_
   intro w hs
   show G _ _ _ _ [_, _, _, _, _, _, _, _, _, _, _, _, _, _, _, _, _, _, _, _] _
   have hs := hs.push 2 (by simp)
   exact hk _ _ ⟨v11, v13, v15, O, (by simp only [u0_, u1_, u2_, u3_, u4_, u5_, u6_, u7_, u8_, u9_, u10_, u11_, u12_, u13_, p0_, p1_, p2_, p3_, p4_, p5_, p6_, p7_, p8_, p9_, p10_, p11_, p12_, cnd_t, cnd_f, Asc_t, Asc_f]), hs.cast (by first | rfl | simp only [List.take, List.drop, List.cons_append, List.nil_append, List.set_cons_zero, List.set_cons_succ, List.eraseIdx, u0_, u1_, u2_, u3_, u4_, u5_, u6_, u7_, u8_, u9_, u10_, u11_, u12_, u13_, p0_, p1_, p2_, p3_, p4_, p5_, p6_, p7_, p8_, p9_, p10_, p11_, p12_, cnd_t, cnd_f, Asc_t, Asc_f])⟩
  ·
   intro D t w hall hI
   obtain ⟨v11, v13, v15, O, ht, hs⟩ := hI
   have p0_ : D 0 = true := hall 0 (by decide)
   have p1_ : D 1 = true := hall 1 (by decide)
   have p2_ : D 2 = true := hall 2 (by decide)
   have p3_ : D 3 = true := hall 3 (by decide)
   have p4_ : D 4 = true := hall 4 (by decide)
   have p5_ : D 5 = true := hall 5 (by decide)
   have p6_ : D 6 = true := hall 6 (by decide)
   have p7_ : D 7 = true := hall 7 (by decide)
   have p8_ : D 8 = true := hall 8 (by decide)
   have p9_ : D 9 = true := hall 9 (by decide)
   have p10_ : D 10 = true := hall 10 (by decide)
   have p11_ : D 11 = true := hall 11 (by decide)
   have p12_ : D 12 = true := hall 12 (by decide)
   have p13_ : D 13 = true := hall 13 (by decide)
   simp only [p0_, p1_, p2_, p3_, p4_, p5_, p6_, p7_, p8_, p9_, p10_, p11_, p12_, p13_, cnd_t, cnd_f, Asc_t, Asc_f] at ht hs
   subst ht
   obtain rfl := Option.some.inj H
   refine g_ret Try.func42 (v := Value.agg (([Value.int .i8 a1.f_Numbers, Value.int .i8 a1.f_Lies, v15] : List Value)).toArray) (resC rfl ⟨⟨_, rfl, (run_loadVar_agg (es := (([Value.int .i8 a1.f_Numbers, Value.int .i8 a1.f_Lies, v15] : List Value))) rfl rfl (cells_all (hs.cells 2 rfl)))⟩, trivial⟩) ?_
   have hs := hs.pull 0 rfl
   have hs : St _ [_] _ := St.take (Γ' := [_, _, _]) hs
   exact ⟨_, rfl, v15, rfl, hs⟩

end Go.Proofs.YtpbkenbmjgchkaaX
