/- Contracts, printed by gen.py. -/
import Derived.Test.YtgoblgmidejdgaaXC13
namespace Go.Proofs.YtgoblgmidejdgaaX
open Go Go.RowKit Go.Proofs
set_option linter.unusedVariables false
set_option linter.unusedSimpArgs false
/- function 27 spec_CheckCrossings -/
def spec_CheckCrossings.post (w0 : World) (r : (Bool × Int)) (v : Value) (w : World) : Prop := v = Value.tuple #[Value.bool r.1, Value.int .i64 r.2] ∧ St w0 [] w
set_option maxHeartbeats 400000 in
set_option maxRecDepth 100000 in
theorem spec_CheckCrossings.calls {N : Nat} {a1 : S_laws_Ferry} {a4 : (List Int)} {v2 : Value} {v5 : Value} {w0 : World} {r : (Bool × Int)} (hr3 : RdRow (K.int .u16) w0 v2 a1.f_Rules) (hr1 : RdRow (K.int .i16) w0 v5 a4) (H : spec_CheckCrossings.f N a1 a4 = some r) :
    Calls Try.prog 27 #[Value.agg (([Value.int .i8 a1.f_Things, Value.int .i8 a1.f_Boat, v2] : List Value)).toArray, v5] w0 fun e w => ∃ v, e = .returned v ∧ spec_CheckCrossings.post w0 r v w := by
  unfold spec_CheckCrossings.f at H
  have hs : St w0 [] w0 := St.refl w0
  refine calls_of_g (n := 12) Try.func27 rfl rfl ?_
  show G _ _ _ _ [_, _, _, _, _, _, _, _, _, _, _, _, _, _] _
  refine g_seq ?_
  refine g_region ?_
  show G _ _ _ (.inRegion _ [0, 1, 2] :: _) _ _
  refine s_box hs rfl rfl (cs := (([Value.int .i8 a1.f_Things, Value.int .i8 a1.f_Boat, v2] : List Value))) rfl rfl ?_
  intro b6 w hs
  show G _ _ _ _ [_, _, _, _, _, _, _, _, _, _, _, _, _, _] _
  refine g_op (v := Value.bool false) rfl rfl rfl ?_
  show G _ _ _ _ [_, _, _, _, _, _, _, _, _, _, _, _, _, _] _
  refine g_op (v := Value.int .i64 0) rfl rfl rfl ?_
  show G _ _ _ _ [_, _, _, _, _, _, _, _, _, _, _, _, _, _] _
  refine g_ops_nil ?_
  refine g_seq ?_
  refine g_seq ?_
  refine g_region ?_
  show G _ _ _ (.inRegion _ [0, 1, 2] :: _) _ _
  refine g_op (v := v5) rfl rfl rfl ?_
  show G _ _ _ _ [_, _, _, _, _, _, _, _, _, _, _, _, _, _] _
  obtain ⟨r8, Hr8, H⟩ := bind_get H
  refine s_call (args := [Value.pointer (some ⟨b6, 0, none⟩), v5]) rfl rfl (x_call rfl (callFunc_enter Try.func55 rfl rfl) rfl) (spec_l05Tabled.calls (a1 := (⟨a1.f_Things, a1.f_Boat, a1.f_Rules⟩ : S_laws_Ferry)) (a6 := a4) (hs.rd hr3) (hs.cells 0 rfl) (hs.rd hr1) Hr8) ?_
  rintro _ w ⟨rfl, hs2⟩
  have hs : St _ [_] _ := hs.call hs2
  show G _ _ _ _ [_, _, _, _, _, _, _, _, _, _, _, _, _, _] _
  refine g_op (v := Value.int .i64 r8) rfl rfl rfl ?_
  show G _ _ _ _ [_, _, _, _, _, _, _, _, _, _, _, _, _, _] _
  refine g_ops_nil ?_
  refine g_seq ?_
  refine g_region ?_
  show G _ _ _ (.inRegion _ [0, 1] :: _) _ _
  refine g_op (v := Value.int .i64 r8) rfl rfl rfl ?_
  show G _ _ _ _ [_, _, _, _, _, _, _, _, _, _, _, _, _, _] _
  refine g_op_b (B := r8 != 0) rfl rfl rfl ?_ ?_
  · intro hb
    rw [if_neg (b_bne_t hb)] at H
    show G _ _ _ _ [_, _, _, _, _, _, _, _, _, _, _, _, _, _] _
    refine g_ops_nil ?_
    refine g_cond_true rfl ?_
    refine g_seq ?_
    refine g_region ?_
    show G _ _ _ (.inRegion _ [0, 1, 2] :: _) _ _
    refine g_op (v := Value.int .i64 r8) rfl rfl rfl ?_
    show G _ _ _ _ [_, _, _, _, _, _, _, _, _, _, _, _, _, _] _
    refine g_op (v := Value.bool false) rfl rfl rfl ?_
    show G _ _ _ _ [_, _, _, _, _, _, _, _, _, _, _, _, _, _] _
    refine g_op (v := Value.int .i64 r8) rfl rfl rfl ?_
    show G _ _ _ _ [_, _, _, _, _, _, _, _, _, _, _, _, _, _] _
    refine g_ops_nil ?_
    obtain rfl := Option.some.inj H
    refine g_ret Try.func27 (v := Value.tuple #[Value.bool false, Value.int .i64 r8]) (resN (l := Try.f27.results.toList) (vs := [Value.bool false, Value.int .i64 r8]) rfl ⟨rfl, rfl, trivial⟩ (by simp)) ?_
    have hs : St _ [] _ := St.take (Γ' := [_]) hs
    exact ⟨_, rfl, rfl, hs⟩
  · intro hb
    rw [if_pos (b_bne_f hb)] at H
    show G _ _ _ _ [_, _, _, _, _, _, _, _, _, _, _, _, _, _] _
    refine g_ops_nil ?_
    refine g_cond_false rfl ?_
    refine g_skip ?_
    refine g_seq ?_
    refine g_region ?_
    show G _ _ _ (.inRegion _ [0, 1, 2, 3] :: _) _ _
    refine g_op (v := v5) rfl rfl rfl ?_
    show G _ _ _ _ [_, _, _, _, _, _, _, _, _, _, _, _, _, _] _
    obtain ⟨r9, Hr9, H⟩ := bind_get H
    refine s_call (args := [Value.pointer (some ⟨b6, 0, none⟩), v5]) rfl rfl (x_call rfl (callFunc_enter Try.func56 rfl rfl) rfl) (spec_l05Proof.calls (a1 := (⟨a1.f_Things, a1.f_Boat, a1.f_Rules⟩ : S_laws_Ferry)) (a6 := a4) (hs.rd hr3) (hs.cells 0 rfl) (hs.rd hr1) Hr9) ?_
    rintro _ w ⟨rfl, hs2⟩
    have hs : St _ [_] _ := hs.call hs2
    show G _ _ _ _ [_, _, _, _, _, _, _, _, _, _, _, _, _, _] _
    refine g_op (v := Value.bool r9) rfl rfl rfl ?_
    show G _ _ _ _ [_, _, _, _, _, _, _, _, _, _, _, _, _, _] _
    refine g_op (v := Value.int .i64 0) rfl rfl rfl ?_
    show G _ _ _ _ [_, _, _, _, _, _, _, _, _, _, _, _, _, _] _
    refine g_ops_nil ?_
    obtain rfl := Option.some.inj H
    refine g_ret Try.func27 (v := Value.tuple #[Value.bool r9, Value.int .i64 0]) (resN (l := Try.f27.results.toList) (vs := [Value.bool r9, Value.int .i64 0]) rfl ⟨rfl, rfl, trivial⟩ (by simp)) ?_
    have hs : St _ [] _ := St.take (Γ' := [_]) hs
    exact ⟨_, rfl, rfl, hs⟩

/- function 62 _impl_Ferry_number -/
def _impl_Ferry_number.post (w0 : World) (r : Int) (v : Value) (w : World) : Prop := v = Value.int .i64 r ∧ St w0 [] w
set_option maxHeartbeats 400000 in
set_option maxRecDepth 100000 in
theorem _impl_Ferry_number.calls {N : Nat} {a1 : S_laws_Ferry} {a4 : S_impl_Bank} {v2 : Value} {w0 : World} {r : Int} (hr3 : RdRow (K.int .u16) w0 v2 a1.f_Rules) (H : _impl_Ferry_number.f N a1 a4 = some r) :
    Calls Try.prog 62 #[Value.agg (([Value.int .i8 a1.f_Things, Value.int .i8 a1.f_Boat, v2] : List Value)).toArray, Value.agg (enc_S_impl_Bank a4).toArray] w0 fun e w => ∃ v, e = .returned v ∧ _impl_Ferry_number.post w0 r v w := by
  unfold _impl_Ferry_number.f at H
  have hs : St w0 [] w0 := St.refl w0
  refine calls_of_g (n := 15) Try.func62 rfl rfl ?_
  show G _ _ _ _ [_, _, _, _, _, _, _, _, _, _, _, _, _, _, _, _, _] _
  refine g_seq ?_
  refine g_region ?_
  show G _ _ _ (.inRegion _ [0, 1, 2] :: _) _ _
  refine s_box hs rfl rfl (cs := (([Value.int .i8 a1.f_Things, Value.int .i8 a1.f_Boat, v2] : List Value))) rfl rfl ?_
  intro b5 w hs
  show G _ _ _ _ [_, _, _, _, _, _, _, _, _, _, _, _, _, _, _, _, _] _
  refine s_box hs rfl rfl (cs := (enc_S_impl_Bank a4)) rfl rfl ?_
  intro b7 w hs
  show G _ _ _ _ [_, _, _, _, _, _, _, _, _, _, _, _, _, _, _, _, _] _
  refine g_op (v := Value.int .i64 0) rfl rfl rfl ?_
  show G _ _ _ _ [_, _, _, _, _, _, _, _, _, _, _, _, _, _, _, _, _] _
  refine g_ops_nil ?_
  refine g_seq ?_
  refine g_seq ?_
  refine g_region ?_
  show G _ _ _ (.inRegion _ [0, 1] :: _) _ _
  refine g_op (v := Value.pointer (some ⟨b7, 1, none⟩)) rfl rfl rfl ?_
  show G _ _ _ _ [_, _, _, _, _, _, _, _, _, _, _, _, _, _, _, _, _] _
  by_cases hb2_ : a4.f_Far = true
  · rw [if_pos hb2_] at H
    refine s_load1 rfl rfl (v := Value.bool true) rfl rfl (fun _ => rfl) (cells_load (hs.cells 0 rfl) 1 1 (Eq.trans (b := [Value.bool a4.f_Far]) rfl (congrArg (fun b => [Value.bool b]) hb2_))) ?_
    show G _ _ _ _ [_, _, _, _, _, _, _, _, _, _, _, _, _, _, _, _, _] _
    refine g_ops_nil ?_
    refine g_cond_true rfl ?_
    refine g_seq ?_
    obtain ⟨gd1, H⟩ := ite_get H
    refine g_name ?_
    intro T hT
    refine g_any (n := 8) rfl [0, 1, 2, 3, 4, 5, 6, 7] [0, 1, 2, 3, 4, 5, 6, 7] rfl rfl (Inv := fun D t w => ∃ O : Nat → Value, t = [Value.agg (([Value.int .i8 a1.f_Things, Value.int .i8 a1.f_Boat, v2] : List Value)).toArray, Value.agg (enc_S_impl_Bank a4).toArray, Value.pointer (some ⟨b5, 0, none⟩), Value.pointer (some ⟨b7, 0, none⟩), cnd (D 7) (Value.int .i64 (i64w ((i64w a4.f_Near) + (shlI .i64 1 a1.f_Things)))) (Value.int .i64 0), Value.pointer (some ⟨b7, 1, none⟩), Value.bool true, cnd (D 0) (Value.pointer (some ⟨b7, 0, none⟩)) (O 7), cnd (D 1) (Value.int .u16 a4.f_Near) (O 8), cnd (D 2) (Value.int .i64 (i64w a4.f_Near)) (O 9), cnd (D 3) (Value.pointer (some ⟨b5, 0, none⟩)) (O 10), cnd (D 4) (Value.int .i8 a1.f_Things) (O 11), cnd (D 5) (Value.int .i64 (shlI .i64 1 a1.f_Things)) (O 12), cnd (D 6) (Value.int .i64 (i64w ((i64w a4.f_Near) + (shlI .i64 1 a1.f_Things)))) (O 13), O 14, O 15, O 16] ∧ St w0 [Cells b7 (enc_S_impl_Bank a4) 29, Cells b5 (([Value.int .i8 a1.f_Things, Value.int .i8 a1.f_Boat, v2] : List Value)) 32] w) ?_ ⟨⟨⟨⟨⟨⟨⟨⟨trivial, ?_⟩, ?_⟩, ?_⟩, ?_⟩, ?_⟩, ?_⟩, ?_⟩, ?_⟩ ?_
    · intro w hh hbw
      have hs := hs.samew hh hbw
      exact ⟨fun i => T.getD i undef, (by subst hT; rfl), hs⟩
    · intro D t w hD hp hcl hI rest hk
      obtain ⟨O, ht, hs⟩ := hI
      have q1_ : D 1 = false := not_yet (hcl.get 1 (by decide)) 0 0 rfl hD
      have q2_ : D 2 = false := not_yet (hcl.get 2 (by decide)) 0 1 rfl q1_
      have q6_ : D 6 = false := not_yet (hcl.get 6 (by decide)) 0 2 rfl q2_
      have q7_ : D 7 = false := not_yet (hcl.get 7 (by decide)) 0 6 rfl q6_
      have u0_ : upd D 0 0 = true := rfl
      have u1_ : upd D 0 1 = D 1 := rfl
      have u2_ : upd D 0 2 = D 2 := rfl
      have u3_ : upd D 0 3 = D 3 := rfl
      have u4_ : upd D 0 4 = D 4 := rfl
      have u5_ : upd D 0 5 = D 5 := rfl
      have u6_ : upd D 0 6 = D 6 := rfl
      have u7_ : upd D 0 7 = D 7 := rfl
      simp only [hD, q1_, q2_, q6_, q7_, cnd_t, cnd_f, Asc_t, Asc_f] at ht hs
      subst ht
      refine g_op (v := Value.pointer (some ⟨b7, 0, none⟩)) rfl rfl rfl ?_
      show G _ _ _ _ [_, _, _, _, _, _, _, _, _, _, _, _, _, _, _, _, _] _
      exact hk _ _ ⟨O, (by simp only [u0_, u1_, u2_, u3_, u4_, u5_, u6_, u7_, q1_, q2_, q6_, q7_, cnd_t, cnd_f, Asc_t, Asc_f]), hs.cast (by first | rfl | simp only [List.take, List.drop, List.cons_append, List.nil_append, List.set_cons_zero, List.set_cons_succ, List.eraseIdx, u0_, u1_, u2_, u3_, u4_, u5_, u6_, u7_, q1_, q2_, q6_, q7_, cnd_t, cnd_f, Asc_t, Asc_f])⟩
    · intro D t w hD hp hcl hI rest hk
      obtain ⟨O, ht, hs⟩ := hI
      obtain ⟨p0_, _⟩ := hp
      have q2_ : D 2 = false := not_yet (hcl.get 2 (by decide)) 0 1 rfl hD
      have q6_ : D 6 = false := not_yet (hcl.get 6 (by decide)) 0 2 rfl q2_
      have q7_ : D 7 = false := not_yet (hcl.get 7 (by decide)) 0 6 rfl q6_
      have u0_ : upd D 1 0 = D 0 := rfl
      have u1_ : upd D 1 1 = true := rfl
      have u2_ : upd D 1 2 = D 2 := rfl
      have u3_ : upd D 1 3 = D 3 := rfl
      have u4_ : upd D 1 4 = D 4 := rfl
      have u5_ : upd D 1 5 = D 5 := rfl
      have u6_ : upd D 1 6 = D 6 := rfl
      have u7_ : upd D 1 7 = D 7 := rfl
      simp only [hD, p0_, q2_, q6_, q7_, cnd_t, cnd_f, Asc_t, Asc_f] at ht hs
      subst ht
      refine s_load1 rfl rfl (v := Value.int .u16 a4.f_Near) rfl rfl (fun _ => rfl) (cells_load (hs.cells 0 rfl) 0 1 rfl) ?_
      show G _ _ _ _ [_, _, _, _, _, _, _, _, _, _, _, _, _, _, _, _, _] _
      exact hk _ _ ⟨O, (by simp only [u0_, u1_, u2_, u3_, u4_, u5_, u6_, u7_, p0_, q2_, q6_, q7_, cnd_t, cnd_f, Asc_t, Asc_f]), hs.cast (by first | rfl | simp only [List.take, List.drop, List.cons_append, List.nil_append, List.set_cons_zero, List.set_cons_succ, List.eraseIdx, u0_, u1_, u2_, u3_, u4_, u5_, u6_, u7_, p0_, q2_, q6_, q7_, cnd_t, cnd_f, Asc_t, Asc_f])⟩
    · intro D t w hD hp hcl hI rest hk
      obtain ⟨O, ht, hs⟩ := hI
      obtain ⟨p1_, _⟩ := hp
      obtain ⟨p0_, _⟩ := (hcl.get 1 (by decide)) p1_
      have q6_ : D 6 = false := not_yet (hcl.get 6 (by decide)) 0 2 rfl hD
      have q7_ : D 7 = false := not_yet (hcl.get 7 (by decide)) 0 6 rfl q6_
      have u0_ : upd D 2 0 = D 0 := rfl
      have u1_ : upd D 2 1 = D 1 := rfl
      have u2_ : upd D 2 2 = true := rfl
      have u3_ : upd D 2 3 = D 3 := rfl
      have u4_ : upd D 2 4 = D 4 := rfl
      have u5_ : upd D 2 5 = D 5 := rfl
      have u6_ : upd D 2 6 = D 6 := rfl
      have u7_ : upd D 2 7 = D 7 := rfl
      simp only [hD, p0_, p1_, q6_, q7_, cnd_t, cnd_f, Asc_t, Asc_f] at ht hs
      subst ht
      refine g_op (v := Value.int .i64 (i64w a4.f_Near)) rfl rfl rfl ?_
      show G _ _ _ _ [_, _, _, _, _, _, _, _, _, _, _, _, _, _, _, _, _] _
      exact hk _ _ ⟨O, (by simp only [u0_, u1_, u2_, u3_, u4_, u5_, u6_, u7_, p0_, p1_, q6_, q7_, cnd_t, cnd_f, Asc_t, Asc_f]), hs.cast (by first | rfl | simp only [List.take, List.drop, List.cons_append, List.nil_append, List.set_cons_zero, List.set_cons_succ, List.eraseIdx, u0_, u1_, u2_, u3_, u4_, u5_, u6_, u7_, p0_, p1_, q6_, q7_, cnd_t, cnd_f, Asc_t, Asc_f])⟩
    · intro D t w hD hp hcl hI rest hk
      obtain ⟨O, ht, hs⟩ := hI
      have q4_ : D 4 = false := not_yet (hcl.get 4 (by decide)) 0 3 rfl hD
      have q5_ : D 5 = false := not_yet (hcl.get 5 (by decide)) 0 4 rfl q4_
      have q6_ : D 6 = false := not_yet (hcl.get 6 (by decide)) 1 5 rfl q5_
      have q7_ : D 7 = false := not_yet (hcl.get 7 (by decide)) 0 6 rfl q6_
      have u0_ : upd D 3 0 = D 0 := rfl
      have u1_ : upd D 3 1 = D 1 := rfl
      have u2_ : upd D 3 2 = D 2 := rfl
      have u3_ : upd D 3 3 = true := rfl
      have u4_ : upd D 3 4 = D 4 := rfl
      have u5_ : upd D 3 5 = D 5 := rfl
      have u6_ : upd D 3 6 = D 6 := rfl
      have u7_ : upd D 3 7 = D 7 := rfl
      simp only [hD, q4_, q5_, q6_, q7_, cnd_t, cnd_f, Asc_t, Asc_f] at ht hs
      subst ht
      refine g_op (v := Value.pointer (some ⟨b5, 0, none⟩)) rfl rfl rfl ?_
      show G _ _ _ _ [_, _, _, _, _, _, _, _, _, _, _, _, _, _, _, _, _] _
      exact hk _ _ ⟨O, (by simp only [u0_, u1_, u2_, u3_, u4_, u5_, u6_, u7_, q4_, q5_, q6_, q7_, cnd_t, cnd_f, Asc_t, Asc_f]), hs.cast (by first | rfl | simp only [List.take, List.drop, List.cons_append, List.nil_append, List.set_cons_zero, List.set_cons_succ, List.eraseIdx, u0_, u1_, u2_, u3_, u4_, u5_, u6_, u7_, q4_, q5_, q6_, q7_, cnd_t, cnd_f, Asc_t, Asc_f])⟩
    · intro D t w hD hp hcl hI rest hk
      obtain ⟨O, ht, hs⟩ := hI
      obtain ⟨p3_, _⟩ := hp
      have q5_ : D 5 = false := not_yet (hcl.get 5 (by decide)) 0 4 rfl hD
      have q6_ : D 6 = false := not_yet (hcl.get 6 (by decide)) 1 5 rfl q5_
      have q7_ : D 7 = false := not_yet (hcl.get 7 (by decide)) 0 6 rfl q6_
      have u0_ : upd D 4 0 = D 0 := rfl
      have u1_ : upd D 4 1 = D 1 := rfl
      have u2_ : upd D 4 2 = D 2 := rfl
      have u3_ : upd D 4 3 = D 3 := rfl
      have u4_ : upd D 4 4 = true := rfl
      have u5_ : upd D 4 5 = D 5 := rfl
      have u6_ : upd D 4 6 = D 6 := rfl
      have u7_ : upd D 4 7 = D 7 := rfl
      simp only [hD, p3_, q5_, q6_, q7_, cnd_t, cnd_f, Asc_t, Asc_f] at ht hs
      subst ht
      refine s_load1 rfl rfl (v := Value.int .i8 a1.f_Things) rfl rfl (fun _ => rfl) (cells_load (hs.cells 1 rfl) 0 1 rfl) ?_
      show G _ _ _ _ [_, _, _, _, _, _, _, _, _, _, _, _, _, _, _, _, _] _
      exact hk _ _ ⟨O, (by simp only [u0_, u1_, u2_, u3_, u4_, u5_, u6_, u7_, p3_, q5_, q6_, q7_, cnd_t, cnd_f, Asc_t, Asc_f]), hs.cast (by first | rfl | simp only [List.take, List.drop, List.cons_append, List.nil_append, List.set_cons_zero, List.set_cons_succ, List.eraseIdx, u0_, u1_, u2_, u3_, u4_, u5_, u6_, u7_, p3_, q5_, q6_, q7_, cnd_t, cnd_f, Asc_t, Asc_f])⟩
    · intro D t w hD hp hcl hI rest hk
      obtain ⟨O, ht, hs⟩ := hI
      obtain ⟨p4_, _⟩ := hp
      obtain ⟨p3_, _⟩ := (hcl.get 4 (by decide)) p4_
      have q6_ : D 6 = false := not_yet (hcl.get 6 (by decide)) 1 5 rfl hD
      have q7_ : D 7 = false := not_yet (hcl.get 7 (by decide)) 0 6 rfl q6_
      have u0_ : upd D 5 0 = D 0 := rfl
      have u1_ : upd D 5 1 = D 1 := rfl
      have u2_ : upd D 5 2 = D 2 := rfl
      have u3_ : upd D 5 3 = D 3 := rfl
      have u4_ : upd D 5 4 = D 4 := rfl
      have u5_ : upd D 5 5 = true := rfl
      have u6_ : upd D 5 6 = D 6 := rfl
      have u7_ : upd D 5 7 = D 7 := rfl
      simp only [hD, p3_, p4_, q6_, q7_, cnd_t, cnd_f, Asc_t, Asc_f] at ht hs
      subst ht
      refine g_op (v := Value.int .i64 (shlI .i64 1 a1.f_Things)) rfl rfl (x_shl rfl rfl rfl gd1) ?_
      show G _ _ _ _ [_, _, _, _, _, _, _, _, _, _, _, _, _, _, _, _, _] _
      exact hk _ _ ⟨O, (by simp only [u0_, u1_, u2_, u3_, u4_, u5_, u6_, u7_, p3_, p4_, q6_, q7_, cnd_t, cnd_f, Asc_t, Asc_f]), hs.cast (by first | rfl | simp only [List.take, List.drop, List.cons_append, List.nil_append, List.set_cons_zero, List.set_cons_succ, List.eraseIdx, u0_, u1_, u2_, u3_, u4_, u5_, u6_, u7_, p3_, p4_, q6_, q7_, cnd_t, cnd_f, Asc_t, Asc_f])⟩
    · intro D t w hD hp hcl hI rest hk
      obtain ⟨O, ht, hs⟩ := hI
      obtain ⟨p2_, p5_, _⟩ := hp
      obtain ⟨p4_, _⟩ := (hcl.get 5 (by decide)) p5_
      obtain ⟨p3_, _⟩ := (hcl.get 4 (by decide)) p4_
      obtain ⟨p1_, _⟩ := (hcl.get 2 (by decide)) p2_
      obtain ⟨p0_, _⟩ := (hcl.get 1 (by decide)) p1_
      have q7_ : D 7 = false := not_yet (hcl.get 7 (by decide)) 0 6 rfl hD
      have u0_ : upd D 6 0 = D 0 := rfl
      have u1_ : upd D 6 1 = D 1 := rfl
      have u2_ : upd D 6 2 = D 2 := rfl
      have u3_ : upd D 6 3 = D 3 := rfl
      have u4_ : upd D 6 4 = D 4 := rfl
      have u5_ : upd D 6 5 = D 5 := rfl
      have u6_ : upd D 6 6 = true := rfl
      have u7_ : upd D 6 7 = D 7 := rfl
      simp only [hD, p0_, p1_, p2_, p3_, p4_, p5_, q7_, cnd_t, cnd_f, Asc_t, Asc_f] at ht hs
      subst ht
      refine g_op (v := Value.int .i64 (i64w ((i64w a4.f_Near) + (shlI .i64 1 a1.f_Things)))) rfl rfl rfl ?_
      show G _ _ _ _ [_, _, _, _, _, _, _, _, _, _, _, _, _, _, _, _, _] _
      exact hk _ _ ⟨O, (by simp only [u0_, u1_, u2_, u3_, u4_, u5_, u6_, u7_, p0_, p1_, p2_, p3_, p4_, p5_, q7_, cnd_t, cnd_f, Asc_t, Asc_f]), hs.cast (by first | rfl | simp only [List.take, List.drop, List.cons_append, List.nil_append, List.set_cons_zero, List.set_cons_succ, List.eraseIdx, u0_, u1_, u2_, u3_, u4_, u5_, u6_, u7_, p0_, p1_, p2_, p3_, p4_, p5_, q7_, cnd_t, cnd_f, Asc_t, Asc_f])⟩
    · intro D t w hD hp hcl hI rest hk
      obtain ⟨O, ht, hs⟩ := hI
      obtain ⟨p6_, p0_, p1_, p2_, p3_, p4_, p5_, _, _⟩ := hp
      have u0_ : upd D 7 0 = D 0 := rfl
      have u1_ : upd D 7 1 = D 1 := rfl
      have u2_ : upd D 7 2 = D 2 := rfl
      have u3_ : upd D 7 3 = D 3 := rfl
      have u4_ : upd D 7 4 = D 4 := rfl
      have u5_ : upd D 7 5 = D 5 := rfl
      have u6_ : upd D 7 6 = D 6 := rfl
      have u7_ : upd D 7 7 = true := rfl
      simp only [hD, p0_, p1_, p2_, p3_, p4_, p5_, p6_, cnd_t, cnd_f, Asc_t, Asc_f] at ht hs
      subst ht
      refine g_op (v := Value.int .i64 (i64w ((i64w a4.f_Near) + (shlI .i64 1 a1.f_Things)))) rfl rfl rfl ?_
      show G _ _ _ _ [_, _, _, _, _, _, _, _, _, _, _, _, _, _, _, _, _] _
      exact hk _ _ ⟨O, (by simp only [u0_, u1_, u2_, u3_, u4_, u5_, u6_, u7_, p0_, p1_, p2_, p3_, p4_, p5_, p6_, cnd_t, cnd_f, Asc_t, Asc_f]), hs.cast (by first | rfl | simp only [List.take, List.drop, List.cons_append, List.nil_append, List.set_cons_zero, List.set_cons_succ, List.eraseIdx, u0_, u1_, u2_, u3_, u4_, u5_, u6_, u7_, p0_, p1_, p2_, p3_, p4_, p5_, p6_, cnd_t, cnd_f, Asc_t, Asc_f])⟩
    · intro D t w hall hI
      obtain ⟨O, ht, hs⟩ := hI
      have p0_ : D 0 = true := hall 0 (by decide)
      have p1_ : D 1 = true := hall 1 (by decide)
      have p2_ : D 2 = true := hall 2 (by decide)
      have p3_ : D 3 = true := hall 3 (by decide)
      have p4_ : D 4 = true := hall 4 (by decide)
      have p5_ : D 5 = true := hall 5 (by decide)
      have p6_ : D 6 = true := hall 6 (by decide)
      have p7_ : D 7 = true := hall 7 (by decide)
      simp only [p0_, p1_, p2_, p3_, p4_, p5_, p6_, p7_, cnd_t, cnd_f, Asc_t, Asc_f] at ht hs
      subst ht
      obtain rfl := Option.some.inj H
      refine g_ret Try.func62 (v := Value.int .i64 (i64w ((i64w a4.f_Near) + (shlI .i64 1 a1.f_Things)))) (res1 rfl rfl) ?_
      have hs : St _ [] _ := St.take (Γ' := [_, _]) hs
      exact ⟨_, rfl, rfl, hs⟩
  · rw [if_neg hb2_] at H
    refine s_load1 rfl rfl (v := Value.bool false) rfl rfl (fun _ => rfl) (cells_load (hs.cells 0 rfl) 1 1 (Eq.trans (b := [Value.bool a4.f_Far]) rfl (congrArg (fun b => [Value.bool b]) (Bool.eq_false_iff.2 hb2_)))) ?_
    show G _ _ _ _ [_, _, _, _, _, _, _, _, _, _, _, _, _, _, _, _, _] _
    refine g_ops_nil ?_
    refine g_cond_false rfl ?_
    refine g_skip ?_
    refine g_seq ?_
    refine g_region ?_
    show G _ _ _ (.inRegion _ [0, 1, 2, 3] :: _) _ _
    refine g_op (v := Value.pointer (some ⟨b7, 0, none⟩)) rfl rfl rfl ?_
    show G _ _ _ _ [_, _, _, _, _, _, _, _, _, _, _, _, _, _, _, _, _] _
    refine s_load1 rfl rfl (v := Value.int .u16 a4.f_Near) rfl rfl (fun _ => rfl) (cells_load (hs.cells 0 rfl) 0 1 rfl) ?_
    show G _ _ _ _ [_, _, _, _, _, _, _, _, _, _, _, _, _, _, _, _, _] _
    refine g_op (v := Value.int .i64 (i64w a4.f_Near)) rfl rfl rfl ?_
    show G _ _ _ _ [_, _, _, _, _, _, _, _, _, _, _, _, _, _, _, _, _] _
    refine g_op (v := Value.int .i64 (i64w a4.f_Near)) rfl rfl rfl ?_
    show G _ _ _ _ [_, _, _, _, _, _, _, _, _, _, _, _, _, _, _, _, _] _
    refine g_ops_nil ?_
    obtain rfl := Option.some.inj H
    refine g_ret Try.func62 (v := Value.int .i64 (i64w a4.f_Near)) (res1 rfl rfl) ?_
    have hs : St _ [] _ := St.take (Γ' := [_, _]) hs
    exact ⟨_, rfl, rfl, hs⟩

/- function 78 _impl_Ferry_bank -/
def _impl_Ferry_bank.post (w0 : World) (r : S_impl_Bank) (v : Value) (w : World) : Prop := v = Value.agg (enc_S_impl_Bank r).toArray ∧ St w0 [] w
set_option maxHeartbeats 400000 in
set_option maxRecDepth 100000 in
theorem _impl_Ferry_bank.calls {N : Nat} {a1 : S_laws_Ferry} {a4 : Int} {v2 : Value} {w0 : World} {r : S_impl_Bank} (hr3 : RdRow (K.int .u16) w0 v2 a1.f_Rules) (H : _impl_Ferry_bank.f N a1 a4 = some r) :
    Calls Try.prog 78 #[Value.agg (([Value.int .i8 a1.f_Things, Value.int .i8 a1.f_Boat, v2] : List Value)).toArray, Value.int .i64 a4] w0 fun e w => ∃ v, e = .returned v ∧ _impl_Ferry_bank.post w0 r v w := by
  unfold _impl_Ferry_bank.f at H
  have hs : St w0 [] w0 := St.refl w0
  refine calls_of_g (n := 14) Try.func78 rfl rfl ?_
  show G _ _ _ _ [_, _, _, _, _, _, _, _, _, _, _, _, _, _, _, _] _
  refine g_seq ?_
  refine g_region ?_
  show G _ _ _ (.inRegion _ [0, 1] :: _) _ _
  refine s_box hs rfl rfl (cs := (([Value.int .i8 a1.f_Things, Value.int .i8 a1.f_Boat, v2] : List Value))) rfl rfl ?_
  intro b5 w hs
  show G _ _ _ _ [_, _, _, _, _, _, _, _, _, _, _, _, _, _, _, _] _
  refine s_alloc hs rfl rfl (z := (Value.agg #[Value.int .u16 0, Value.bool false])) (cs := (enc_S_impl_Bank z_S_impl_Bank)) rfl (fun _ => rfl) rfl ?_
  intro b7 w hs
  show G _ _ _ _ [_, _, _, _, _, _, _, _, _, _, _, _, _, _, _, _] _
  refine g_ops_nil ?_
  refine g_seq ?_
  obtain ⟨r9, Hr9, H⟩ := bind_get H
  obtain ⟨gd1, H⟩ := ite_get H
  refine g_name ?_
  intro T hT
  refine g_any (n := 12) rfl [0, 1, 2, 3, 4, 5, 6, 7, 8, 9, 10, 11] [0, 1, 2, 3, 4, 5, 6, 7, 8, 9, 10, 11] rfl rfl (Inv := fun D t w => ∃ O : Nat → Value, t = [Value.agg (([Value.int .i8 a1.f_Things, Value.int .i8 a1.f_Boat, v2] : List Value)).toArray, Value.int .i64 a4, Value.pointer (some ⟨b5, 0, none⟩), O 3, Value.pointer (some ⟨b7, 0, none⟩), cnd (D 0) (Value.int .i64 a4) (O 5), cnd (D 1) (Value.int .u16 (u16w a4)) (O 6), cnd (D 2) (Value.agg (([Value.int .i8 a1.f_Things, Value.int .i8 a1.f_Boat, v2] : List Value)).toArray) (O 7), cnd (D 3) (Value.int .u16 r9) (O 8), cnd (D 4) (Value.int .u16 (bAnd .u16 (u16w a4) r9)) (O 9), cnd (D 5) (Value.int .i64 a4) (O 10), cnd (D 6) (Value.pointer (some ⟨b5, 0, none⟩)) (O 11), cnd (D 7) (Value.int .i8 a1.f_Things) (O 12), cnd (D 8) (Value.int .i64 (shrI .i64 a4 a1.f_Things)) (O 13), cnd (D 9) (Value.bool ((shrI .i64 a4 a1.f_Things) == 1)) (O 14), cnd (D 10) (Value.agg (enc_S_impl_Bank (⟨bAnd .u16 (u16w a4) r9, (shrI .i64 a4 a1.f_Things) == 1⟩ : S_impl_Bank)).toArray) (O 15)] ∧ St w0 [Cells b7 (cnd (D 11) (enc_S_impl_Bank (⟨bAnd .u16 (u16w a4) r9, (shrI .i64 a4 a1.f_Things) == 1⟩ : S_impl_Bank)) (enc_S_impl_Bank z_S_impl_Bank)) 29, Cells b5 (([Value.int .i8 a1.f_Things, Value.int .i8 a1.f_Boat, v2] : List Value)) 32] w) ?_ ⟨⟨⟨⟨⟨⟨⟨⟨⟨⟨⟨⟨trivial, ?_⟩, ?_⟩, ?_⟩, ?_⟩, ?_⟩, ?_⟩, ?_⟩, ?_⟩, ?_⟩, ?_⟩, ?_⟩, ?_⟩ ?_
  · intro w hh hbw
    have hs := hs.samew hh hbw
    exact ⟨fun i => T.getD i undef, (by subst hT; rfl), hs⟩
  · intro D t w hD hp hcl hI rest hk
    obtain ⟨O, ht, hs⟩ := hI
    have q1_ : D 1 = false := not_yet (hcl.get 1 (by decide)) 0 0 rfl hD
    have q4_ : D 4 = false := not_yet (hcl.get 4 (by decide)) 0 1 rfl q1_
    have q10_ : D 10 = false := not_yet (hcl.get 10 (by decide)) 0 4 rfl q4_
    have q11_ : D 11 = false := not_yet (hcl.get 11 (by decide)) 0 10 rfl q10_
    have u0_ : upd D 0 0 = true := rfl
    have u1_ : upd D 0 1 = D 1 := rfl
    have u2_ : upd D 0 2 = D 2 := rfl
    have u3_ : upd D 0 3 = D 3 := rfl
    have u4_ : upd D 0 4 = D 4 := rfl
    have u5_ : upd D 0 5 = D 5 := rfl
    have u6_ : upd D 0 6 = D 6 := rfl
    have u7_ : upd D 0 7 = D 7 := rfl
    have u8_ : upd D 0 8 = D 8 := rfl
    have u9_ : upd D 0 9 = D 9 := rfl
    have u10_ : upd D 0 10 = D 10 := rfl
    have u11_ : upd D 0 11 = D 11 := rfl
    simp only [hD, q1_, q4_, q10_, q11_, cnd_t, cnd_f, Asc_t, Asc_f] at ht hs
    subst ht
    refine g_op (v := Value.int .i64 a4) rfl rfl rfl ?_
    show G _ _ _ _ [_, _, _, _, _, _, _, _, _, _, _, _, _, _, _, _] _
    exact hk _ _ ⟨O, (by simp only [u0_, u1_, u2_, u3_, u4_, u5_, u6_, u7_, u8_, u9_, u10_, u11_, q1_, q4_, q10_, q11_, cnd_t, cnd_f, Asc_t, Asc_f]), hs.cast (by first | rfl | simp only [List.take, List.drop, List.cons_append, List.nil_append, List.set_cons_zero, List.set_cons_succ, List.eraseIdx, u0_, u1_, u2_, u3_, u4_, u5_, u6_, u7_, u8_, u9_, u10_, u11_, q1_, q4_, q10_, q11_, cnd_t, cnd_f, Asc_t, Asc_f])⟩
  · intro D t w hD hp hcl hI rest hk
    obtain ⟨O, ht, hs⟩ := hI
    obtain ⟨p0_, _⟩ := hp
    have q4_ : D 4 = false := not_yet (hcl.get 4 (by decide)) 0 1 rfl hD
    have q10_ : D 10 = false := not_yet (hcl.get 10 (by decide)) 0 4 rfl q4_
    have q11_ : D 11 = false := not_yet (hcl.get 11 (by decide)) 0 10 rfl q10_
    have u0_ : upd D 1 0 = D 0 := rfl
    have u1_ : upd D 1 1 = true := rfl
    have u2_ : upd D 1 2 = D 2 := rfl
    have u3_ : upd D 1 3 = D 3 := rfl
    have u4_ : upd D 1 4 = D 4 := rfl
    have u5_ : upd D 1 5 = D 5 := rfl
    have u6_ : upd D 1 6 = D 6 := rfl
    have u7_ : upd D 1 7 = D 7 := rfl
    have u8_ : upd D 1 8 = D 8 := rfl
    have u9_ : upd D 1 9 = D 9 := rfl
    have u10_ : upd D 1 10 = D 10 := rfl
    have u11_ : upd D 1 11 = D 11 := rfl
    simp only [hD, p0_, q4_, q10_, q11_, cnd_t, cnd_f, Asc_t, Asc_f] at ht hs
    subst ht
    refine g_op (v := Value.int .u16 (u16w a4)) rfl rfl rfl ?_
    show G _ _ _ _ [_, _, _, _, _, _, _, _, _, _, _, _, _, _, _, _] _
    exact hk _ _ ⟨O, (by simp only [u0_, u1_, u2_, u3_, u4_, u5_, u6_, u7_, u8_, u9_, u10_, u11_, p0_, q4_, q10_, q11_, cnd_t, cnd_f, Asc_t, Asc_f]), hs.cast (by first | rfl | simp only [List.take, List.drop, List.cons_append, List.nil_append, List.set_cons_zero, List.set_cons_succ, List.eraseIdx, u0_, u1_, u2_, u3_, u4_, u5_, u6_, u7_, u8_, u9_, u10_, u11_, p0_, q4_, q10_, q11_, cnd_t, cnd_f, Asc_t, Asc_f])⟩
  · intro D t w hD hp hcl hI rest hk
    obtain ⟨O, ht, hs⟩ := hI
    have q3_ : D 3 = false := not_yet (hcl.get 3 (by decide)) 0 2 rfl hD
    have q4_ : D 4 = false := not_yet (hcl.get 4 (by decide)) 1 3 rfl q3_
    have q10_ : D 10 = false := not_yet (hcl.get 10 (by decide)) 0 4 rfl q4_
    have q11_ : D 11 = false := not_yet (hcl.get 11 (by decide)) 0 10 rfl q10_
    have u0_ : upd D 2 0 = D 0 := rfl
    have u1_ : upd D 2 1 = D 1 := rfl
    have u2_ : upd D 2 2 = true := rfl
    have u3_ : upd D 2 3 = D 3 := rfl
    have u4_ : upd D 2 4 = D 4 := rfl
    have u5_ : upd D 2 5 = D 5 := rfl
    have u6_ : upd D 2 6 = D 6 := rfl
    have u7_ : upd D 2 7 = D 7 := rfl
    have u8_ : upd D 2 8 = D 8 := rfl
    have u9_ : upd D 2 9 = D 9 := rfl
    have u10_ : upd D 2 10 = D 10 := rfl
    have u11_ : upd D 2 11 = D 11 := rfl
    simp only [hD, q3_, q4_, q10_, q11_, cnd_t, cnd_f, Asc_t, Asc_f] at ht hs
    subst ht
    refine s_loadA rfl rfl (es := (([Value.int .i8 a1.f_Things, Value.int .i8 a1.f_Boat, v2] : List Value))) rfl rfl (fun _ => rfl) (n := 3) (fun _ => rfl) rfl (cells_all (hs.cells 1 rfl)) ?_
    show G _ _ _ _ [_, _, _, _, _, _, _, _, _, _, _, _, _, _, _, _] _
    exact hk _ _ ⟨O, (by simp only [u0_, u1_, u2_, u3_, u4_, u5_, u6_, u7_, u8_, u9_, u10_, u11_, q3_, q4_, q10_, q11_, cnd_t, cnd_f, Asc_t, Asc_f]), hs.cast (by first | rfl | simp only [List.take, List.drop, List.cons_append, List.nil_append, List.set_cons_zero, List.set_cons_succ, List.eraseIdx, u0_, u1_, u2_, u3_, u4_, u5_, u6_, u7_, u8_, u9_, u10_, u11_, q3_, q4_, q10_, q11_, cnd_t, cnd_f, Asc_t, Asc_f])⟩
  · intro D t w hD hp hcl hI rest hk
    obtain ⟨O, ht, hs⟩ := hI
    obtain ⟨p2_, _⟩ := hp
    have q4_ : D 4 = false := not_yet (hcl.get 4 (by decide)) 1 3 rfl hD
    have q10_ : D 10 = false := not_yet (hcl.get 10 (by decide)) 0 4 rfl q4_
    have q11_ : D 11 = false := not_yet (hcl.get 11 (by decide)) 0 10 rfl q10_
    have u0_ : upd D 3 0 = D 0 := rfl
    have u1_ : upd D 3 1 = D 1 := rfl
    have u2_ : upd D 3 2 = D 2 := rfl
    have u3_ : upd D 3 3 = true := rfl
    have u4_ : upd D 3 4 = D 4 := rfl
    have u5_ : upd D 3 5 = D 5 := rfl
    have u6_ : upd D 3 6 = D 6 := rfl
    have u7_ : upd D 3 7 = D 7 := rfl
    have u8_ : upd D 3 8 = D 8 := rfl
    have u9_ : upd D 3 9 = D 9 := rfl
    have u10_ : upd D 3 10 = D 10 := rfl
    have u11_ : upd D 3 11 = D 11 := rfl
    simp only [hD, p2_, q4_, q10_, q11_, cnd_t, cnd_f, Asc_t, Asc_f] at ht hs
    subst ht
    refine s_call (args := [Value.agg (([Value.int .i8 a1.f_Things, Value.int .i8 a1.f_Boat, v2] : List Value)).toArray]) rfl rfl (x_call rfl (callFunc_enter Try.func46 rfl rfl) rfl) (_impl_Ferry_all.calls (a1 := (⟨a1.f_Things, a1.f_Boat, a1.f_Rules⟩ : S_laws_Ferry)) (hs.rd hr3) Hr9) ?_
    rintro _ w ⟨rfl, hs2⟩
    have hs : St _ [_, _] _ := hs.call hs2
    show G _ _ _ _ [_, _, _, _, _, _, _, _, _, _, _, _, _, _, _, _] _
    exact hk _ _ ⟨O, (by simp only [u0_, u1_, u2_, u3_, u4_, u5_, u6_, u7_, u8_, u9_, u10_, u11_, p2_, q4_, q10_, q11_, cnd_t, cnd_f, Asc_t, Asc_f]), hs.cast (by first | rfl | simp only [List.take, List.drop, List.cons_append, List.nil_append, List.set_cons_zero, List.set_cons_succ, List.eraseIdx, u0_, u1_, u2_, u3_, u4_, u5_, u6_, u7_, u8_, u9_, u10_, u11_, p2_, q4_, q10_, q11_, cnd_t, cnd_f, Asc_t, Asc_f])⟩
  · intro D t w hD hp hcl hI rest hk
    obtain ⟨O, ht, hs⟩ := hI
    obtain ⟨p1_, p3_, _⟩ := hp
    obtain ⟨p2_, _⟩ := (hcl.get 3 (by decide)) p3_
    obtain ⟨p0_, _⟩ := (hcl.get 1 (by decide)) p1_
    have q10_ : D 10 = false := not_yet (hcl.get 10 (by decide)) 0 4 rfl hD
    have q11_ : D 11 = false := not_yet (hcl.get 11 (by decide)) 0 10 rfl q10_
    have u0_ : upd D 4 0 = D 0 := rfl
    have u1_ : upd D 4 1 = D 1 := rfl
    have u2_ : upd D 4 2 = D 2 := rfl
    have u3_ : upd D 4 3 = D 3 := rfl
    have u4_ : upd D 4 4 = true := rfl
    have u5_ : upd D 4 5 = D 5 := rfl
    have u6_ : upd D 4 6 = D 6 := rfl
    have u7_ : upd D 4 7 = D 7 := rfl
    have u8_ : upd D 4 8 = D 8 := rfl
    have u9_ : upd D 4 9 = D 9 := rfl
    have u10_ : upd D 4 10 = D 10 := rfl
    have u11_ : upd D 4 11 = D 11 := rfl
    simp only [hD, p0_, p1_, p2_, p3_, q10_, q11_, cnd_t, cnd_f, Asc_t, Asc_f] at ht hs
    subst ht
    refine g_op (v := Value.int .u16 (bAnd .u16 (u16w a4) r9)) rfl rfl rfl ?_
    show G _ _ _ _ [_, _, _, _, _, _, _, _, _, _, _, _, _, _, _, _] _
    exact hk _ _ ⟨O, (by simp only [u0_, u1_, u2_, u3_, u4_, u5_, u6_, u7_, u8_, u9_, u10_, u11_, p0_, p1_, p2_, p3_, q10_, q11_, cnd_t, cnd_f, Asc_t, Asc_f]), hs.cast (by first | rfl | simp only [List.take, List.drop, List.cons_append, List.nil_append, List.set_cons_zero, List.set_cons_succ, List.eraseIdx, u0_, u1_, u2_, u3_, u4_, u5_, u6_, u7_, u8_, u9_, u10_, u11_, p0_, p1_, p2_, p3_, q10_, q11_, cnd_t, cnd_f, Asc_t, Asc_f])⟩
  · intro D t w hD hp hcl hI rest hk
    obtain ⟨O, ht, hs⟩ := hI
    have q8_ : D 8 = false := not_yet (hcl.get 8 (by decide)) 0 5 rfl hD
    have q9_ : D 9 = false := not_yet (hcl.get 9 (by decide)) 0 8 rfl q8_
    have q10_ : D 10 = false := not_yet (hcl.get 10 (by decide)) 1 9 rfl q9_
    have q11_ : D 11 = false := not_yet (hcl.get 11 (by decide)) 0 10 rfl q10_
    have u0_ : upd D 5 0 = D 0 := rfl
    have u1_ : upd D 5 1 = D 1 := rfl
    have u2_ : upd D 5 2 = D 2 := rfl
    have u3_ : upd D 5 3 = D 3 := rfl
    have u4_ : upd D 5 4 = D 4 := rfl
    have u5_ : upd D 5 5 = true := rfl
    have u6_ : upd D 5 6 = D 6 := rfl
    have u7_ : upd D 5 7 = D 7 := rfl
    have u8_ : upd D 5 8 = D 8 := rfl
    have u9_ : upd D 5 9 = D 9 := rfl
    have u10_ : upd D 5 10 = D 10 := rfl
    have u11_ : upd D 5 11 = D 11 := rfl
    simp only [hD, q8_, q9_, q10_, q11_, cnd_t, cnd_f, Asc_t, Asc_f] at ht hs
    subst ht
    refine g_op (v := Value.int .i64 a4) rfl rfl rfl ?_
    show G _ _ _ _ [_, _, _, _, _, _, _, _, _, _, _, _, _, _, _, _] _
    exact hk _ _ ⟨O, (by simp only [u0_, u1_, u2_, u3_, u4_, u5_, u6_, u7_, u8_, u9_, u10_, u11_, q8_, q9_, q10_, q11_, cnd_t, cnd_f, Asc_t, Asc_f]), hs.cast (by first | rfl | simp only [List.take, List.drop, List.cons_append, List.nil_append, List.set_cons_zero, List.set_cons_succ, List.eraseIdx, u0_, u1_, u2_, u3_, u4_, u5_, u6_, u7_, u8_, u9_, u10_, u11_, q8_, q9_, q10_, q11_, cnd_t, cnd_f, Asc_t, Asc_f])⟩
  · intro D t w hD hp hcl hI rest hk
    obtain ⟨O, ht, hs⟩ := hI
    have q7_ : D 7 = false := not_yet (hcl.get 7 (by decide)) 0 6 rfl hD
    have q8_ : D 8 = false := not_yet (hcl.get 8 (by decide)) 1 7 rfl q7_
    have q9_ : D 9 = false := not_yet (hcl.get 9 (by decide)) 0 8 rfl q8_
    have q10_ : D 10 = false := not_yet (hcl.get 10 (by decide)) 1 9 rfl q9_
    have q11_ : D 11 = false := not_yet (hcl.get 11 (by decide)) 0 10 rfl q10_
    have u0_ : upd D 6 0 = D 0 := rfl
    have u1_ : upd D 6 1 = D 1 := rfl
    have u2_ : upd D 6 2 = D 2 := rfl
    have u3_ : upd D 6 3 = D 3 := rfl
    have u4_ : upd D 6 4 = D 4 := rfl
    have u5_ : upd D 6 5 = D 5 := rfl
    have u6_ : upd D 6 6 = true := rfl
    have u7_ : upd D 6 7 = D 7 := rfl
    have u8_ : upd D 6 8 = D 8 := rfl
    have u9_ : upd D 6 9 = D 9 := rfl
    have u10_ : upd D 6 10 = D 10 := rfl
    have u11_ : upd D 6 11 = D 11 := rfl
    simp only [hD, q7_, q8_, q9_, q10_, q11_, cnd_t, cnd_f, Asc_t, Asc_f] at ht hs
    subst ht
    refine g_op (v := Value.pointer (some ⟨b5, 0, none⟩)) rfl rfl rfl ?_
    show G _ _ _ _ [_, _, _, _, _, _, _, _, _, _, _, _, _, _, _, _] _
    exact hk _ _ ⟨O, (by simp only [u0_, u1_, u2_, u3_, u4_, u5_, u6_, u7_, u8_, u9_, u10_, u11_, q7_, q8_, q9_, q10_, q11_, cnd_t, cnd_f, Asc_t, Asc_f]), hs.cast (by first | rfl | simp only [List.take, List.drop, List.cons_append, List.nil_append, List.set_cons_zero, List.set_cons_succ, List.eraseIdx, u0_, u1_, u2_, u3_, u4_, u5_, u6_, u7_, u8_, u9_, u10_, u11_, q7_, q8_, q9_, q10_, q11_, cnd_t, cnd_f, Asc_t, Asc_f])⟩
  · intro D t w hD hp hcl hI rest hk
    obtain ⟨O, ht, hs⟩ := hI
    obtain ⟨p6_, _⟩ := hp
    have q8_ : D 8 = false := not_yet (hcl.get 8 (by decide)) 1 7 rfl hD
    have q9_ : D 9 = false := not_yet (hcl.get 9 (by decide)) 0 8 rfl q8_
    have q10_ : D 10 = false := not_yet (hcl.get 10 (by decide)) 1 9 rfl q9_
    have q11_ : D 11 = false := not_yet (hcl.get 11 (by decide)) 0 10 rfl q10_
    have u0_ : upd D 7 0 = D 0 := rfl
    have u1_ : upd D 7 1 = D 1 := rfl
    have u2_ : upd D 7 2 = D 2 := rfl
    have u3_ : upd D 7 3 = D 3 := rfl
    have u4_ : upd D 7 4 = D 4 := rfl
    have u5_ : upd D 7 5 = D 5 := rfl
    have u6_ : upd D 7 6 = D 6 := rfl
    have u7_ : upd D 7 7 = true := rfl
    have u8_ : upd D 7 8 = D 8 := rfl
    have u9_ : upd D 7 9 = D 9 := rfl
    have u10_ : upd D 7 10 = D 10 := rfl
    have u11_ : upd D 7 11 = D 11 := rfl
    simp only [hD, p6_, q8_, q9_, q10_, q11_, cnd_t, cnd_f, Asc_t, Asc_f] at ht hs
    subst ht
    refine s_load1 rfl rfl (v := Value.int .i8 a1.f_Things) rfl rfl (fun _ => rfl) (cells_load (hs.cells 1 rfl) 0 1 rfl) ?_
    show G _ _ _ _ [_, _, _, _, _, _, _, _, _, _, _, _, _, _, _, _] _
    exact hk _ _ ⟨O, (by simp only [u0_, u1_, u2_, u3_, u4_, u5_, u6_, u7_, u8_, u9_, u10_, u11_, p6_, q8_, q9_, q10_, q11_, cnd_t, cnd_f, Asc_t, Asc_f]), hs.cast (by first | rfl | simp only [List.take, List.drop, List.cons_append, List.nil_append, List.set_cons_zero, List.set_cons_succ, List.eraseIdx, u0_, u1_, u2_, u3_, u4_, u5_, u6_, u7_, u8_, u9_, u10_, u11_, p6_, q8_, q9_, q10_, q11_, cnd_t, cnd_f, Asc_t, Asc_f])⟩
  · intro D t w hD hp hcl hI rest hk
    obtain ⟨O, ht, hs⟩ := hI
    obtain ⟨p5_, p7_, _⟩ := hp
    obtain ⟨p6_, _⟩ := (hcl.get 7 (by decide)) p7_
    have q9_ : D 9 = false := not_yet (hcl.get 9 (by decide)) 0 8 rfl hD
    have q10_ : D 10 = false := not_yet (hcl.get 10 (by decide)) 1 9 rfl q9_
    have q11_ : D 11 = false := not_yet (hcl.get 11 (by decide)) 0 10 rfl q10_
    have u0_ : upd D 8 0 = D 0 := rfl
    have u1_ : upd D 8 1 = D 1 := rfl
    have u2_ : upd D 8 2 = D 2 := rfl
    have u3_ : upd D 8 3 = D 3 := rfl
    have u4_ : upd D 8 4 = D 4 := rfl
    have u5_ : upd D 8 5 = D 5 := rfl
    have u6_ : upd D 8 6 = D 6 := rfl
    have u7_ : upd D 8 7 = D 7 := rfl
    have u8_ : upd D 8 8 = true := rfl
    have u9_ : upd D 8 9 = D 9 := rfl
    have u10_ : upd D 8 10 = D 10 := rfl
    have u11_ : upd D 8 11 = D 11 := rfl
    simp only [hD, p5_, p6_, p7_, q9_, q10_, q11_, cnd_t, cnd_f, Asc_t, Asc_f] at ht hs
    subst ht
    refine g_op (v := Value.int .i64 (shrI .i64 a4 a1.f_Things)) rfl rfl (x_shr rfl rfl rfl gd1) ?_
    show G _ _ _ _ [_, _, _, _, _, _, _, _, _, _, _, _, _, _, _, _] _
    exact hk _ _ ⟨O, (by simp only [u0_, u1_, u2_, u3_, u4_, u5_, u6_, u7_, u8_, u9_, u10_, u11_, p5_, p6_, p7_, q9_, q10_, q11_, cnd_t, cnd_f, Asc_t, Asc_f]), hs.cast (by first | rfl | simp only [List.take, List.drop, List.cons_append, List.nil_append, List.set_cons_zero, List.set_cons_succ, List.eraseIdx, u0_, u1_, u2_, u3_, u4_, u5_, u6_, u7_, u8_, u9_, u10_, u11_, p5_, p6_, p7_, q9_, q10_, q11_, cnd_t, cnd_f, Asc_t, Asc_f])⟩
  · intro D t w hD hp hcl hI rest hk
    obtain ⟨O, ht, hs⟩ := hI
    obtain ⟨p8_, _⟩ := hp
    obtain ⟨p5_, p7_, _⟩ := (hcl.get 8 (by decide)) p8_
    obtain ⟨p6_, _⟩ := (hcl.get 7 (by decide)) p7_
    have q10_ : D 10 = false := not_yet (hcl.get 10 (by decide)) 1 9 rfl hD
    have q11_ : D 11 = false := not_yet (hcl.get 11 (by decide)) 0 10 rfl q10_
    have u0_ : upd D 9 0 = D 0 := rfl
    have u1_ : upd D 9 1 = D 1 := rfl
    have u2_ : upd D 9 2 = D 2 := rfl
    have u3_ : upd D 9 3 = D 3 := rfl
    have u4_ : upd D 9 4 = D 4 := rfl
    have u5_ : upd D 9 5 = D 5 := rfl
    have u6_ : upd D 9 6 = D 6 := rfl
    have u7_ : upd D 9 7 = D 7 := rfl
    have u8_ : upd D 9 8 = D 8 := rfl
    have u9_ : upd D 9 9 = true := rfl
    have u10_ : upd D 9 10 = D 10 := rfl
    have u11_ : upd D 9 11 = D 11 := rfl
    simp only [hD, p5_, p6_, p7_, p8_, q10_, q11_, cnd_t, cnd_f, Asc_t, Asc_f] at ht hs
    subst ht
    refine g_op (v := Value.bool ((shrI .i64 a4 a1.f_Things) == 1)) rfl rfl rfl ?_
    show G _ _ _ _ [_, _, _, _, _, _, _, _, _, _, _, _, _, _, _, _] _
    exact hk _ _ ⟨O, (by simp only [u0_, u1_, u2_, u3_, u4_, u5_, u6_, u7_, u8_, u9_, u10_, u11_, p5_, p6_, p7_, p8_, q10_, q11_, cnd_t, cnd_f, Asc_t, Asc_f]), hs.cast (by first | rfl | simp only [List.take, List.drop, List.cons_append, List.nil_append, List.set_cons_zero, List.set_cons_succ, List.eraseIdx, u0_, u1_, u2_, u3_, u4_, u5_, u6_, u7_, u8_, u9_, u10_, u11_, p5_, p6_, p7_, p8_, q10_, q11_, cnd_t, cnd_f, Asc_t, Asc_f])⟩
  · intro D t w hD hp hcl hI rest hk
    obtain ⟨O, ht, hs⟩ := hI
    obtain ⟨p4_, p9_, _⟩ := hp
    obtain ⟨p8_, _⟩ := (hcl.get 9 (by decide)) p9_
    obtain ⟨p5_, p7_, _⟩ := (hcl.get 8 (by decide)) p8_
    obtain ⟨p6_, _⟩ := (hcl.get 7 (by decide)) p7_
    obtain ⟨p1_, p3_, _⟩ := (hcl.get 4 (by decide)) p4_
    obtain ⟨p2_, _⟩ := (hcl.get 3 (by decide)) p3_
    obtain ⟨p0_, _⟩ := (hcl.get 1 (by decide)) p1_
    have q11_ : D 11 = false := not_yet (hcl.get 11 (by decide)) 0 10 rfl hD
    have u0_ : upd D 10 0 = D 0 := rfl
    have u1_ : upd D 10 1 = D 1 := rfl
    have u2_ : upd D 10 2 = D 2 := rfl
    have u3_ : upd D 10 3 = D 3 := rfl
    have u4_ : upd D 10 4 = D 4 := rfl
    have u5_ : upd D 10 5 = D 5 := rfl
    have u6_ : upd D 10 6 = D 6 := rfl
    have u7_ : upd D 10 7 = D 7 := rfl
    have u8_ : upd D 10 8 = D 8 := rfl
    have u9_ : upd D 10 9 = D 9 := rfl
    have u10_ : upd D 10 10 = true := rfl
    have u11_ : upd D 10 11 = D 11 := rfl
    simp only [hD, p0_, p1_, p2_, p3_, p4_, p5_, p6_, p7_, p8_, p9_, q11_, cnd_t, cnd_f, Asc_t, Asc_f] at ht hs
    subst ht
    refine g_op (v := Value.agg (enc_S_impl_Bank (⟨bAnd .u16 (u16w a4) r9, (shrI .i64 a4 a1.f_Things) == 1⟩ : S_impl_Bank)).toArray) rfl rfl (x_buildS (cs := (enc_S_impl_Bank (⟨bAnd .u16 (u16w a4) r9, (shrI .i64 a4 a1.f_Things) == 1⟩ : S_impl_Bank))) (segs := [[Value.int .u16 0], [Value.bool false]]) rfl rfl (fun _ => rfl) ⟨rfl, (fun _ => rfl), rfl, (fun _ => rfl), trivial⟩ (by simp only [List.map_cons, List.map_nil, List.forall_mem_cons, List.not_mem_nil, false_implies, implies_true, and_true]; exact ⟨⟨_, rfl, rfl⟩, ⟨_, rfl, rfl⟩⟩) (by first | rfl | (simp [ev, enc_S_impl_Bank]; done) | (simp [ev, enc_S_impl_Bank]; rfl))) ?_
    show G _ _ _ _ [_, _, _, _, _, _, _, _, _, _, _, _, _, _, _, _] _
    exact hk _ _ ⟨O, (by simp only [u0_, u1_, u2_, u3_, u4_, u5_, u6_, u7_, u8_, u9_, u10_, u11_, p0_, p1_, p2_, p3_, p4_, p5_, p6_, p7_, p8_, p9_, q11_, cnd_t, cnd_f, Asc_t, Asc_f]), hs.cast (by first | rfl | simp only [List.take, List.drop, List.cons_append, List.nil_append, List.set_cons_zero, List.set_cons_succ, List.eraseIdx, u0_, u1_, u2_, u3_, u4_, u5_, u6_, u7_, u8_, u9_, u10_, u11_, p0_, p1_, p2_, p3_, p4_, p5_, p6_, p7_, p8_, p9_, q11_, cnd_t, cnd_f, Asc_t, Asc_f])⟩
  · intro D t w hD hp hcl hI rest hk
    obtain ⟨O, ht, hs⟩ := hI
    obtain ⟨p10_, p3_, p0_, p1_, p2_, _, p4_, p5_, p6_, p7_, p8_, p9_, _, _⟩ := hp
    have u0_ : upd D 11 0 = D 0 := rfl
    have u1_ : upd D 11 1 = D 1 := rfl
    have u2_ : upd D 11 2 = D 2 := rfl
    have u3_ : upd D 11 3 = D 3 := rfl
    have u4_ : upd D 11 4 = D 4 := rfl
    have u5_ : upd D 11 5 = D 5 := rfl
    have u6_ : upd D 11 6 = D 6 := rfl
    have u7_ : upd D 11 7 = D 7 := rfl
    have u8_ : upd D 11 8 = D 8 := rfl
    have u9_ : upd D 11 9 = D 9 := rfl
    have u10_ : upd D 11 10 = D 10 := rfl
    have u11_ : upd D 11 11 = true := rfl
    simp only [hD, p0_, p1_, p2_, p3_, p4_, p5_, p6_, p7_, p8_, p9_, p10_, cnd_t, cnd_f, Asc_t, Asc_f] at ht hs
    subst ht
    refine s_storeAll (n := 2) hs (fk_S_impl_Bank.len _) rfl rfl (vs := (enc_S_impl_Bank (⟨bAnd .u16 (u16w a4) r9, (shrI .i64 a4 a1.f_Things) == 1⟩ : S_impl_Bank))) rfl rfl rfl (fun _ => rfl) (fk_S_impl_Bank.len _) (fk_S_impl_Bank.one _) ?_
    intro w hs
    show G _ _ _ _ [_, _, _, _, _, _, _, _, _, _, _, _, _, _, _, _] _
    have hs := hs.push 0 (by simp)
    exact hk _ _ ⟨O, (by simp only [u0_, u1_, u2_, u3_, u4_, u5_, u6_, u7_, u8_, u9_, u10_, u11_, p0_, p1_, p2_, p3_, p4_, p5_, p6_, p7_, p8_, p9_, p10_, cnd_t, cnd_f, Asc_t, Asc_f]), hs.cast (by first | rfl | simp only [List.take, List.drop, List.cons_append, List.nil_append, List.set_cons_zero, List.set_cons_succ, List.eraseIdx, u0_, u1_, u2_, u3_, u4_, u5_, u6_, u7_, u8_, u9_, u10_, u11_, p0_, p1_, p2_, p3_, p4_, p5_, p6_, p7_, p8_, p9_, p10_, cnd_t, cnd_f, Asc_t, Asc_f])⟩
  · intro D t w hall hI
    obtain ⟨O, ht, hs⟩ := hI
    have p0_ : D 0 = true := hall 0 (by decide)
    have p1_ : D 1 = true := hall 1 (by decide)
    have p2_ : D 2 = true := hall 2 (by decide)
    have p3_ : D 3 = true := hall 3 (by decide)
    have p4_ : D 4 = true := hall 4 (by decide)
    have p5_ : D 5 = true := hall 5 (by decide)
    have p6_ : D 6 = true := hall 6 (by decide)
    have p7_ : D 7 = true := hall 7 (by decide)
    have p8_ : D 8 = true := hall 8 (by decide)
    have p9_ : D 9 = true := hall 9 (by decide)
    have p10_ : D 10 = true := hall 10 (by decide)
    have p11_ : D 11 = true := hall 11 (by decide)
    simp only [p0_, p1_, p2_, p3_, p4_, p5_, p6_, p7_, p8_, p9_, p10_, p11_, cnd_t, cnd_f, Asc_t, Asc_f] at ht hs
    subst ht
    obtain rfl := Option.some.inj H
    refine g_ret Try.func78 (v := Value.agg (enc_S_impl_Bank (⟨bAnd .u16 (u16w a4) r9, (shrI .i64 a4 a1.f_Things) == 1⟩ : S_impl_Bank)).toArray) (resC rfl ⟨⟨_, rfl, (run_loadVar_agg (es := (enc_S_impl_Bank (⟨bAnd .u16 (u16w a4) r9, (shrI .i64 a4 a1.f_Things) == 1⟩ : S_impl_Bank))) rfl (congrArg (Result.ok · _) (fk_S_impl_Bank.len _).symm) (cells_all (hs.cells 0 rfl)))⟩, trivial⟩) ?_
    have hs : St _ [] _ := St.take (Γ' := [_, _]) hs
    exact ⟨_, rfl, rfl, hs⟩

end Go.Proofs.YtgoblgmidejdgaaX
