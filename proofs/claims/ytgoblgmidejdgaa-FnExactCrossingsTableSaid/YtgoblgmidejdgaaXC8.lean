/- Contracts, printed by gen.py. -/
import Derived.Test.YtgoblgmidejdgaaXC7
namespace Go.Proofs.YtgoblgmidejdgaaX
open Go Go.RowKit Go.Proofs
set_option linter.unusedVariables false
set_option linter.unusedSimpArgs false
/- function 72 _impl_Ferry_sides -/
def _impl_Ferry_sides.post (w0 : World) (r : (Int × Int)) (v : Value) (w : World) : Prop := v = Value.tuple #[Value.int .u16 r.1, Value.int .u16 r.2] ∧ St w0 [] w
set_option maxHeartbeats 8000000 in
set_option maxRecDepth 100000 in
theorem _impl_Ferry_sides.calls {N : Nat} {a1 : S_laws_Ferry} {a4 : S_impl_Bank} {v2 : Value} {w0 : World} {r : (Int × Int)} (hr3 : RdRow (K.int .u16) w0 v2 a1.f_Rules) (H : _impl_Ferry_sides.f N a1 a4 = some r) :
    Calls Try.prog 72 #[Value.agg (([Value.int .i8 a1.f_Things, Value.int .i8 a1.f_Boat, v2] : List Value)).toArray, Value.agg (enc_S_impl_Bank a4).toArray] w0 fun e w => ∃ v, e = .returned v ∧ _impl_Ferry_sides.post w0 r v w := by
  unfold _impl_Ferry_sides.f at H
  have hs : St w0 [] w0 := St.refl w0
  refine calls_of_g (n := 20) Try.func72 rfl rfl ?_
  show G _ _ _ _ [_, _, _, _, _, _, _, _, _, _, _, _, _, _, _, _, _, _, _, _, _, _] _
  refine g_seq ?_
  refine g_region ?_
  show G _ _ _ (.inRegion _ [0, 1, 2, 3] :: _) _ _
  refine s_box hs rfl rfl (cs := (([Value.int .i8 a1.f_Things, Value.int .i8 a1.f_Boat, v2] : List Value))) rfl rfl ?_
  intro b5 w hs
  show G _ _ _ _ [_, _, _, _, _, _, _, _, _, _, _, _, _, _, _, _, _, _, _, _, _, _] _
  refine s_box hs rfl rfl (cs := (enc_S_impl_Bank a4)) rfl rfl ?_
  intro b7 w hs
  show G _ _ _ _ [_, _, _, _, _, _, _, _, _, _, _, _, _, _, _, _, _, _, _, _, _, _] _
  refine g_op (v := Value.int .u16 0) rfl rfl rfl ?_
  show G _ _ _ _ [_, _, _, _, _, _, _, _, _, _, _, _, _, _, _, _, _, _, _, _, _, _] _
  refine g_op (v := Value.int .u16 0) rfl rfl rfl ?_
  show G _ _ _ _ [_, _, _, _, _, _, _, _, _, _, _, _, _, _, _, _, _, _, _, _, _, _] _
  refine g_ops_nil ?_
  refine g_seq ?_
  refine g_seq ?_
  refine g_region ?_
  show G _ _ _ (.inRegion _ [0, 1] :: _) _ _
  refine g_op (v := Value.pointer (some ⟨b7, 1, none⟩)) rfl rfl rfl ?_
  show G _ _ _ _ [_, _, _, _, _, _, _, _, _, _, _, _, _, _, _, _, _, _, _, _, _, _] _
  by_cases hb1_ : a4.f_Far = true
  ·
   rw [if_pos hb1_] at H
   refine s_load1 rfl rfl (v := Value.bool true) rfl rfl (fun _ => rfl) (cells_load (hs.cells 0 rfl) 1 1 (Eq.trans (b := [Value.bool a4.f_Far]) rfl (congrArg (fun b => [Value.bool b]) hb1_))) ?_
   show G _ _ _ _ [_, _, _, _, _, _, _, _, _, _, _, _, _, _, _, _, _, _, _, _, _, _] _
   refine g_ops_nil ?_
   refine g_cond_true rfl ?_
   refine g_seq ?_
   obtain ⟨r9, Hr9, H⟩ := bind_get H
   refine g_name ?_
   intro T hT
   refine g_any (n := 9) rfl [0, 1, 2, 3, 4, 5, 6, 7, 8] [0, 1, 2, 3, 4, 6, 7, 5, 8] rfl rfl (Inv := fun D t w => ∃ O : Nat → Value, t = [Value.agg (([Value.int .i8 a1.f_Things, Value.int .i8 a1.f_Boat, v2] : List Value)).toArray, Value.agg (enc_S_impl_Bank a4).toArray, Value.pointer (some ⟨b5, 0, none⟩), Value.pointer (some ⟨b7, 0, none⟩), cnd (D 7) (Value.int .u16 (bAndNot .u16 r9 a4.f_Near)) (Value.int .u16 0), cnd (D 8) (Value.int .u16 a4.f_Near) (Value.int .u16 0), Value.pointer (some ⟨b7, 1, none⟩), Value.bool true, cnd (D 0) (Value.agg (([Value.int .i8 a1.f_Things, Value.int .i8 a1.f_Boat, v2] : List Value)).toArray) (O 8), cnd (D 1) (Value.int .u16 r9) (O 9), cnd (D 2) (Value.pointer (some ⟨b7, 0, none⟩)) (O 10), cnd (D 3) (Value.int .u16 a4.f_Near) (O 11), cnd (D 4) (Value.int .u16 (bAndNot .u16 r9 a4.f_Near)) (O 12), cnd (D 5) (Value.pointer (some ⟨b7, 0, none⟩)) (O 13), cnd (D 6) (Value.int .u16 a4.f_Near) (O 14), O 15, O 16, O 17, O 18, O 19, O 20, O 21] ∧ St w0 [Cells b7 (enc_S_impl_Bank a4) 29, Cells b5 (([Value.int .i8 a1.f_Things, Value.int .i8 a1.f_Boat, v2] : List Value)) 32] w) ?_ ⟨⟨⟨⟨⟨⟨⟨⟨⟨trivial, ?_⟩, ?_⟩, ?_⟩, ?_⟩, ?_⟩, ?_⟩, ?_⟩, ?_⟩, ?_⟩ ?_
   ·
    intro w hh hbw
    have hs := hs.samew hh hbw
    exact ⟨fun i => T.getD i undef, (by subst hT; rfl), hs⟩
   ·
    intro D t w hD hp hcl hI rest hk
    obtain ⟨O, ht, hs⟩ := hI
    have q1_ : D 1 = false := not_yet (hcl.get 1 (by decide)) 0 0 rfl hD
    have q4_ : D 4 = false := not_yet (hcl.get 4 (by decide)) 0 1 rfl q1_
    have q7_ : D 7 = false := not_yet (hcl.get 7 (by decide)) 0 4 rfl q4_
    have q8_ : D 8 = false := not_yet (hcl.get 8 (by decide)) 1 7 rfl q7_
    have u0_ : upd D 0 0 = true := rfl; have u1_ : upd D 0 1 = D 1 := rfl; have u2_ : upd D 0 2 = D 2 := rfl; have u3_ : upd D 0 3 = D 3 := rfl; have u4_ : upd D 0 4 = D 4 := rfl; have u5_ : upd D 0 5 = D 5 := rfl; have u6_ : upd D 0 6 = D 6 := rfl; have u7_ : upd D 0 7 = D 7 := rfl; have u8_ : upd D 0 8 = D 8 := rfl
    simp only [hD, q1_, q4_, q7_, q8_, cnd_t, cnd_f, Asc_t, Asc_f] at ht hs
    subst ht
    refine s_loadA rfl rfl (es := (([Value.int .i8 a1.f_Things, Value.int .i8 a1.f_Boat, v2] : List Value))) rfl rfl (fun _ => rfl) (n := 3) (fun _ => rfl) rfl (cells_all (hs.cells 1 rfl)) ?_
    show G _ _ _ _ [_, _, _, _, _, _, _, _, _, _, _, _, _, _, _, _, _, _, _, _, _, _] _
    exact hk _ _ ⟨O, (by simp only [u0_, u1_, u2_, u3_, u4_, u5_, u6_, u7_, u8_, q1_, q4_, q7_, q8_, cnd_t, cnd_f, Asc_t, Asc_f]), hs.cast (by first | rfl | simp only [List.take, List.drop, List.cons_append, List.nil_append, List.set_cons_zero, List.set_cons_succ, List.eraseIdx, u0_, u1_, u2_, u3_, u4_, u5_, u6_, u7_, u8_, q1_, q4_, q7_, q8_, cnd_t, cnd_f, Asc_t, Asc_f])⟩
   ·
    intro D t w hD hp hcl hI rest hk
    obtain ⟨O, ht, hs⟩ := hI
    obtain ⟨p0_, _⟩ := hp
    have q4_ : D 4 = false := not_yet (hcl.get 4 (by decide)) 0 1 rfl hD
    have q7_ : D 7 = false := not_yet (hcl.get 7 (by decide)) 0 4 rfl q4_
    have q8_ : D 8 = false := not_yet (hcl.get 8 (by decide)) 1 7 rfl q7_
    have u0_ : upd D 1 0 = D 0 := rfl; have u1_ : upd D 1 1 = true := rfl; have u2_ : upd D 1 2 = D 2 := rfl; have u3_ : upd D 1 3 = D 3 := rfl; have u4_ : upd D 1 4 = D 4 := rfl; have u5_ : upd D 1 5 = D 5 := rfl; have u6_ : upd D 1 6 = D 6 := rfl; have u7_ : upd D 1 7 = D 7 := rfl; have u8_ : upd D 1 8 = D 8 := rfl
    simp only [hD, p0_, q4_, q7_, q8_, cnd_t, cnd_f, Asc_t, Asc_f] at ht hs
    subst ht
    refine s_call (args := [Value.agg (([Value.int .i8 a1.f_Things, Value.int .i8 a1.f_Boat, v2] : List Value)).toArray]) rfl rfl (x_call rfl (callFunc_enter Try.func46 rfl rfl) rfl) (_impl_Ferry_all.calls (a1 := (⟨a1.f_Things, a1.f_Boat, a1.f_Rules⟩ : S_laws_Ferry)) (hs.rd hr3) Hr9) ?_
    rintro _ w ⟨rfl, hs2⟩
    have hs : St _ [_, _] _ := hs.call hs2
    show G _ _ _ _ [_, _, _, _, _, _, _, _, _, _, _, _, _, _, _, _, _, _, _, _, _, _] _
    exact hk _ _ ⟨O, (by simp only [u0_, u1_, u2_, u3_, u4_, u5_, u6_, u7_, u8_, p0_, q4_, q7_, q8_, cnd_t, cnd_f, Asc_t, Asc_f]), hs.cast (by first | rfl | simp only [List.take, List.drop, List.cons_append, List.nil_append, List.set_cons_zero, List.set_cons_succ, List.eraseIdx, u0_, u1_, u2_, u3_, u4_, u5_, u6_, u7_, u8_, p0_, q4_, q7_, q8_, cnd_t, cnd_f, Asc_t, Asc_f])⟩
   ·
    intro D t w hD hp hcl hI rest hk
    obtain ⟨O, ht, hs⟩ := hI
    have q3_ : D 3 = false := not_yet (hcl.get 3 (by decide)) 0 2 rfl hD
    have q4_ : D 4 = false := not_yet (hcl.get 4 (by decide)) 1 3 rfl q3_
    have q7_ : D 7 = false := not_yet (hcl.get 7 (by decide)) 0 4 rfl q4_
    have q8_ : D 8 = false := not_yet (hcl.get 8 (by decide)) 1 7 rfl q7_
    have u0_ : upd D 2 0 = D 0 := rfl; have u1_ : upd D 2 1 = D 1 := rfl; have u2_ : upd D 2 2 = true := rfl; have u3_ : upd D 2 3 = D 3 := rfl; have u4_ : upd D 2 4 = D 4 := rfl; have u5_ : upd D 2 5 = D 5 := rfl; have u6_ : upd D 2 6 = D 6 := rfl; have u7_ : upd D 2 7 = D 7 := rfl; have u8_ : upd D 2 8 = D 8 := rfl
    simp only [hD, q3_, q4_, q7_, q8_, cnd_t, cnd_f, Asc_t, Asc_f] at ht hs
    subst ht
    refine g_op (v := Value.pointer (some ⟨b7, 0, none⟩)) rfl rfl rfl ?_
    show G _ _ _ _ [_, _, _, _, _, _, _, _, _, _, _, _, _, _, _, _, _, _, _, _, _, _] _
    exact hk _ _ ⟨O, (by simp only [u0_, u1_, u2_, u3_, u4_, u5_, u6_, u7_, u8_, q3_, q4_, q7_, q8_, cnd_t, cnd_f, Asc_t, Asc_f]), hs.cast (by first | rfl | simp only [List.take, List.drop, List.cons_append, List.nil_append, List.set_cons_zero, List.set_cons_succ, List.eraseIdx, u0_, u1_, u2_, u3_, u4_, u5_, u6_, u7_, u8_, q3_, q4_, q7_, q8_, cnd_t, cnd_f, Asc_t, Asc_f])⟩
   ·
    intro D t w hD hp hcl hI rest hk
    obtain ⟨O, ht, hs⟩ := hI
    obtain ⟨p2_, _⟩ := hp
    have q4_ : D 4 = false := not_yet (hcl.get 4 (by decide)) 1 3 rfl hD
    have q7_ : D 7 = false := not_yet (hcl.get 7 (by decide)) 0 4 rfl q4_
    have q8_ : D 8 = false := not_yet (hcl.get 8 (by decide)) 1 7 rfl q7_
    have u0_ : upd D 3 0 = D 0 := rfl; have u1_ : upd D 3 1 = D 1 := rfl; have u2_ : upd D 3 2 = D 2 := rfl; have u3_ : upd D 3 3 = true := rfl; have u4_ : upd D 3 4 = D 4 := rfl; have u5_ : upd D 3 5 = D 5 := rfl; have u6_ : upd D 3 6 = D 6 := rfl; have u7_ : upd D 3 7 = D 7 := rfl; have u8_ : upd D 3 8 = D 8 := rfl
    simp only [hD, p2_, q4_, q7_, q8_, cnd_t, cnd_f, Asc_t, Asc_f] at ht hs
    subst ht
    refine s_load1 rfl rfl (v := Value.int .u16 a4.f_Near) rfl rfl (fun _ => rfl) (cells_load (hs.cells 0 rfl) 0 1 rfl) ?_
    show G _ _ _ _ [_, _, _, _, _, _, _, _, _, _, _, _, _, _, _, _, _, _, _, _, _, _] _
    exact hk _ _ ⟨O, (by simp only [u0_, u1_, u2_, u3_, u4_, u5_, u6_, u7_, u8_, p2_, q4_, q7_, q8_, cnd_t, cnd_f, Asc_t, Asc_f]), hs.cast (by first | rfl | simp only [List.take, List.drop, List.cons_append, List.nil_append, List.set_cons_zero, List.set_cons_succ, List.eraseIdx, u0_, u1_, u2_, u3_, u4_, u5_, u6_, u7_, u8_, p2_, q4_, q7_, q8_, cnd_t, cnd_f, Asc_t, Asc_f])⟩
   ·
    intro D t w hD hp hcl hI rest hk
    obtain ⟨O, ht, hs⟩ := hI
    obtain ⟨p1_, p3_, _⟩ := hp
    obtain ⟨p2_, _⟩ := (hcl.get 3 (by decide)) p3_
    obtain ⟨p0_, _⟩ := (hcl.get 1 (by decide)) p1_
    have q7_ : D 7 = false := not_yet (hcl.get 7 (by decide)) 0 4 rfl hD
    have q8_ : D 8 = false := not_yet (hcl.get 8 (by decide)) 1 7 rfl q7_
    have u0_ : upd D 4 0 = D 0 := rfl; have u1_ : upd D 4 1 = D 1 := rfl; have u2_ : upd D 4 2 = D 2 := rfl; have u3_ : upd D 4 3 = D 3 := rfl; have u4_ : upd D 4 4 = true := rfl; have u5_ : upd D 4 5 = D 5 := rfl; have u6_ : upd D 4 6 = D 6 := rfl; have u7_ : upd D 4 7 = D 7 := rfl; have u8_ : upd D 4 8 = D 8 := rfl
    simp only [hD, p0_, p1_, p2_, p3_, q7_, q8_, cnd_t, cnd_f, Asc_t, Asc_f] at ht hs
    subst ht
    refine g_op (v := Value.int .u16 (bAndNot .u16 r9 a4.f_Near)) rfl rfl rfl ?_
    show G _ _ _ _ [_, _, _, _, _, _, _, _, _, _, _, _, _, _, _, _, _, _, _, _, _, _] _
    exact hk _ _ ⟨O, (by simp only [u0_, u1_, u2_, u3_, u4_, u5_, u6_, u7_, u8_, p0_, p1_, p2_, p3_, q7_, q8_, cnd_t, cnd_f, Asc_t, Asc_f]), hs.cast (by first | rfl | simp only [List.take, List.drop, List.cons_append, List.nil_append, List.set_cons_zero, List.set_cons_succ, List.eraseIdx, u0_, u1_, u2_, u3_, u4_, u5_, u6_, u7_, u8_, p0_, p1_, p2_, p3_, q7_, q8_, cnd_t, cnd_f, Asc_t, Asc_f])⟩
   ·
    intro D t w hD hp hcl hI rest hk
    obtain ⟨O, ht, hs⟩ := hI
    have q6_ : D 6 = false := not_yet (hcl.get 6 (by decide)) 0 5 rfl hD
    have q8_ : D 8 = false := not_yet (hcl.get 8 (by decide)) 0 6 rfl q6_
    have u0_ : upd D 5 0 = D 0 := rfl; have u1_ : upd D 5 1 = D 1 := rfl; have u2_ : upd D 5 2 = D 2 := rfl; have u3_ : upd D 5 3 = D 3 := rfl; have u4_ : upd D 5 4 = D 4 := rfl; have u5_ : upd D 5 5 = true := rfl; have u6_ : upd D 5 6 = D 6 := rfl; have u7_ : upd D 5 7 = D 7 := rfl; have u8_ : upd D 5 8 = D 8 := rfl
    simp only [hD, q6_, q8_, cnd_t, cnd_f, Asc_t, Asc_f] at ht hs
    subst ht
    refine g_op (v := Value.pointer (some ⟨b7, 0, none⟩)) rfl rfl rfl ?_
    show G _ _ _ _ [_, _, _, _, _, _, _, _, _, _, _, _, _, _, _, _, _, _, _, _, _, _] _
    exact hk _ _ ⟨O, (by simp only [u0_, u1_, u2_, u3_, u4_, u5_, u6_, u7_, u8_, q6_, q8_, cnd_t, cnd_f, Asc_t, Asc_f]), hs.cast (by first | rfl | simp only [List.take, List.drop, List.cons_append, List.nil_append, List.set_cons_zero, List.set_cons_succ, List.eraseIdx, u0_, u1_, u2_, u3_, u4_, u5_, u6_, u7_, u8_, q6_, q8_, cnd_t, cnd_f, Asc_t, Asc_f])⟩
   ·
    intro D t w hD hp hcl hI rest hk
    obtain ⟨O, ht, hs⟩ := hI
    obtain ⟨p5_, _⟩ := hp
    have q8_ : D 8 = false := not_yet (hcl.get 8 (by decide)) 0 6 rfl hD
    have u0_ : upd D 6 0 = D 0 := rfl; have u1_ : upd D 6 1 = D 1 := rfl; have u2_ : upd D 6 2 = D 2 := rfl; have u3_ : upd D 6 3 = D 3 := rfl; have u4_ : upd D 6 4 = D 4 := rfl; have u5_ : upd D 6 5 = D 5 := rfl; have u6_ : upd D 6 6 = true := rfl; have u7_ : upd D 6 7 = D 7 := rfl; have u8_ : upd D 6 8 = D 8 := rfl
    simp only [hD, p5_, q8_, cnd_t, cnd_f, Asc_t, Asc_f] at ht hs
    subst ht
    refine s_load1 rfl rfl (v := Value.int .u16 a4.f_Near) rfl rfl (fun _ => rfl) (cells_load (hs.cells 0 rfl) 0 1 rfl) ?_
    show G _ _ _ _ [_, _, _, _, _, _, _, _, _, _, _, _, _, _, _, _, _, _, _, _, _, _] _
    exact hk _ _ ⟨O, (by simp only [u0_, u1_, u2_, u3_, u4_, u5_, u6_, u7_, u8_, p5_, q8_, cnd_t, cnd_f, Asc_t, Asc_f]), hs.cast (by first | rfl | simp only [List.take, List.drop, List.cons_append, List.nil_append, List.set_cons_zero, List.set_cons_succ, List.eraseIdx, u0_, u1_, u2_, u3_, u4_, u5_, u6_, u7_, u8_, p5_, q8_, cnd_t, cnd_f, Asc_t, Asc_f])⟩
   ·
    intro D t w hD hp hcl hI rest hk
    obtain ⟨O, ht, hs⟩ := hI
    obtain ⟨p4_, p1_, p0_, _, p2_, p3_, _, _⟩ := hp
    have q8_ : D 8 = false := not_yet (hcl.get 8 (by decide)) 1 7 rfl hD
    have u0_ : upd D 7 0 = D 0 := rfl; have u1_ : upd D 7 1 = D 1 := rfl; have u2_ : upd D 7 2 = D 2 := rfl; have u3_ : upd D 7 3 = D 3 := rfl; have u4_ : upd D 7 4 = D 4 := rfl; have u5_ : upd D 7 5 = D 5 := rfl; have u6_ : upd D 7 6 = D 6 := rfl; have u7_ : upd D 7 7 = true := rfl; have u8_ : upd D 7 8 = D 8 := rfl
    simp only [hD, p0_, p1_, p2_, p3_, p4_, q8_, cnd_t, cnd_f, Asc_t, Asc_f] at ht hs
    subst ht
    refine g_op (v := Value.int .u16 (bAndNot .u16 r9 a4.f_Near)) rfl rfl rfl ?_
    show G _ _ _ _ [_, _, _, _, _, _, _, _, _, _, _, _, _, _, _, _, _, _, _, _, _, _] _
    exact hk _ _ ⟨O, (by simp only [u0_, u1_, u2_, u3_, u4_, u5_, u6_, u7_, u8_, p0_, p1_, p2_, p3_, p4_, q8_, cnd_t, cnd_f, Asc_t, Asc_f]), hs.cast (by first | rfl | simp only [List.take, List.drop, List.cons_append, List.nil_append, List.set_cons_zero, List.set_cons_succ, List.eraseIdx, u0_, u1_, u2_, u3_, u4_, u5_, u6_, u7_, u8_, p0_, p1_, p2_, p3_, p4_, q8_, cnd_t, cnd_f, Asc_t, Asc_f])⟩
   ·
    intro D t w hD hp hcl hI rest hk
    obtain ⟨O, ht, hs⟩ := hI
    obtain ⟨p6_, p7_, p0_, p1_, p2_, p3_, p4_, p5_, _, _, _⟩ := hp
    have u0_ : upd D 8 0 = D 0 := rfl; have u1_ : upd D 8 1 = D 1 := rfl; have u2_ : upd D 8 2 = D 2 := rfl; have u3_ : upd D 8 3 = D 3 := rfl; have u4_ : upd D 8 4 = D 4 := rfl; have u5_ : upd D 8 5 = D 5 := rfl; have u6_ : upd D 8 6 = D 6 := rfl; have u7_ : upd D 8 7 = D 7 := rfl; have u8_ : upd D 8 8 = true := rfl
    simp only [hD, p0_, p1_, p2_, p3_, p4_, p5_, p6_, p7_, cnd_t, cnd_f, Asc_t, Asc_f] at ht hs
    subst ht
    refine g_op (v := Value.int .u16 a4.f_Near) rfl rfl rfl ?_
    show G _ _ _ _ [_, _, _, _, _, _, _, _, _, _, _, _, _, _, _, _, _, _, _, _, _, _] _
    exact hk _ _ ⟨O, (by simp only [u0_, u1_, u2_, u3_, u4_, u5_, u6_, u7_, u8_, p0_, p1_, p2_, p3_, p4_, p5_, p6_, p7_, cnd_t, cnd_f, Asc_t, Asc_f]), hs.cast (by first | rfl | simp only [List.take, List.drop, List.cons_append, List.nil_append, List.set_cons_zero, List.set_cons_succ, List.eraseIdx, u0_, u1_, u2_, u3_, u4_, u5_, u6_, u7_, u8_, p0_, p1_, p2_, p3_, p4_, p5_, p6_, p7_, cnd_t, cnd_f, Asc_t, Asc_f])⟩
   ·
    intro D t w hall hI
    obtain ⟨O, ht, hs⟩ := hI
    have p0_ : D 0 = true := hall 0 (by decide)
    have p1_ : D 1 = true := hall 1 (by decide)
    have p2_ : D 2 = true := hall 2 (by decide)
    have p3_ : D 3 = true := hall 3 (by decide)
    have p4_ : D 4 = true := hall 4 (by decide)
    have p5_ : D 5 = true := hall 5 (by decide)
    have p6_ : D 6 = true := hall 6 (by decide)
    have p7_ : D 7 = true := hall 7 (by decide)
    have p8_ : D 8 = true := hall 8 (by decide)
    simp only [p0_, p1_, p2_, p3_, p4_, p5_, p6_, p7_, p8_, cnd_t, cnd_f, Asc_t, Asc_f] at ht hs
    subst ht
    obtain rfl := Option.some.inj H
    refine g_ret Try.func72 (v := Value.tuple #[Value.int .u16 (bAndNot .u16 r9 a4.f_Near), Value.int .u16 a4.f_Near]) (resN (l := Try.f72.results.toList) (vs := [Value.int .u16 (bAndNot .u16 r9 a4.f_Near), Value.int .u16 a4.f_Near]) rfl ⟨rfl, rfl, trivial⟩ (by simp)) ?_
    have hs : St _ [] _ := St.take (Γ' := [_, _]) hs
    exact ⟨_, rfl, rfl, hs⟩
  ·
   rw [if_neg hb1_] at H
   refine s_load1 rfl rfl (v := Value.bool false) rfl rfl (fun _ => rfl) (cells_load (hs.cells 0 rfl) 1 1 (Eq.trans (b := [Value.bool a4.f_Far]) rfl (congrArg (fun b => [Value.bool b]) (Bool.eq_false_iff.2 hb1_)))) ?_
   show G _ _ _ _ [_, _, _, _, _, _, _, _, _, _, _, _, _, _, _, _, _, _, _, _, _, _] _
   refine g_ops_nil ?_
   refine g_cond_false rfl ?_
   refine g_skip ?_
   refine g_seq ?_
   obtain ⟨r10, Hr10, H⟩ := bind_get H
   refine g_name ?_
   intro T hT
   refine g_any (n := 9) rfl [0, 1, 2, 3, 4, 5, 6, 7, 8] [0, 1, 2, 3, 5, 6, 7, 4, 8] rfl rfl (Inv := fun D t w => ∃ O : Nat → Value, t = [Value.agg (([Value.int .i8 a1.f_Things, Value.int .i8 a1.f_Boat, v2] : List Value)).toArray, Value.agg (enc_S_impl_Bank a4).toArray, Value.pointer (some ⟨b5, 0, none⟩), Value.pointer (some ⟨b7, 0, none⟩), cnd (D 7) (Value.int .u16 a4.f_Near) (Value.int .u16 0), cnd (D 8) (Value.int .u16 (bAndNot .u16 r10 a4.f_Near)) (Value.int .u16 0), Value.pointer (some ⟨b7, 1, none⟩), Value.bool false, O 8, O 9, O 10, O 11, O 12, O 13, O 14, cnd (D 0) (Value.pointer (some ⟨b7, 0, none⟩)) (O 15), cnd (D 1) (Value.int .u16 a4.f_Near) (O 16), cnd (D 2) (Value.agg (([Value.int .i8 a1.f_Things, Value.int .i8 a1.f_Boat, v2] : List Value)).toArray) (O 17), cnd (D 3) (Value.int .u16 r10) (O 18), cnd (D 4) (Value.pointer (some ⟨b7, 0, none⟩)) (O 19), cnd (D 5) (Value.int .u16 a4.f_Near) (O 20), cnd (D 6) (Value.int .u16 (bAndNot .u16 r10 a4.f_Near)) (O 21)] ∧ St w0 [Cells b7 (enc_S_impl_Bank a4) 29, Cells b5 (([Value.int .i8 a1.f_Things, Value.int .i8 a1.f_Boat, v2] : List Value)) 32] w) ?_ ⟨⟨⟨⟨⟨⟨⟨⟨⟨trivial, ?_⟩, ?_⟩, ?_⟩, ?_⟩, ?_⟩, ?_⟩, ?_⟩, ?_⟩, ?_⟩ ?_
   ·
    intro w hh hbw
    have hs := hs.samew hh hbw
    exact ⟨fun i => T.getD i undef, (by subst hT; rfl), hs⟩
   ·
    intro D t w hD hp hcl hI rest hk
    obtain ⟨O, ht, hs⟩ := hI
    have q1_ : D 1 = false := not_yet (hcl.get 1 (by decide)) 0 0 rfl hD
    have q7_ : D 7 = false := not_yet (hcl.get 7 (by decide)) 0 1 rfl q1_
    have q8_ : D 8 = false := not_yet (hcl.get 8 (by decide)) 1 7 rfl q7_
    have u0_ : upd D 0 0 = true := rfl; have u1_ : upd D 0 1 = D 1 := rfl; have u2_ : upd D 0 2 = D 2 := rfl; have u3_ : upd D 0 3 = D 3 := rfl; have u4_ : upd D 0 4 = D 4 := rfl; have u5_ : upd D 0 5 = D 5 := rfl; have u6_ : upd D 0 6 = D 6 := rfl; have u7_ : upd D 0 7 = D 7 := rfl; have u8_ : upd D 0 8 = D 8 := rfl
    simp only [hD, q1_, q7_, q8_, cnd_t, cnd_f, Asc_t, Asc_f] at ht hs
    subst ht
    refine g_op (v := Value.pointer (some ⟨b7, 0, none⟩)) rfl rfl rfl ?_
    show G _ _ _ _ [_, _, _, _, _, _, _, _, _, _, _, _, _, _, _, _, _, _, _, _, _, _] _
    exact hk _ _ ⟨O, (by simp only [u0_, u1_, u2_, u3_, u4_, u5_, u6_, u7_, u8_, q1_, q7_, q8_, cnd_t, cnd_f, Asc_t, Asc_f]), hs.cast (by first | rfl | simp only [List.take, List.drop, List.cons_append, List.nil_append, List.set_cons_zero, List.set_cons_succ, List.eraseIdx, u0_, u1_, u2_, u3_, u4_, u5_, u6_, u7_, u8_, q1_, q7_, q8_, cnd_t, cnd_f, Asc_t, Asc_f])⟩
   ·
    intro D t w hD hp hcl hI rest hk
    obtain ⟨O, ht, hs⟩ := hI
    obtain ⟨p0_, _⟩ := hp
    have q7_ : D 7 = false := not_yet (hcl.get 7 (by decide)) 0 1 rfl hD
    have q8_ : D 8 = false := not_yet (hcl.get 8 (by decide)) 1 7 rfl q7_
    have u0_ : upd D 1 0 = D 0 := rfl; have u1_ : upd D 1 1 = true := rfl; have u2_ : upd D 1 2 = D 2 := rfl; have u3_ : upd D 1 3 = D 3 := rfl; have u4_ : upd D 1 4 = D 4 := rfl; have u5_ : upd D 1 5 = D 5 := rfl; have u6_ : upd D 1 6 = D 6 := rfl; have u7_ : upd D 1 7 = D 7 := rfl; have u8_ : upd D 1 8 = D 8 := rfl
    simp only [hD, p0_, q7_, q8_, cnd_t, cnd_f, Asc_t, Asc_f] at ht hs
    subst ht
    refine s_load1 rfl rfl (v := Value.int .u16 a4.f_Near) rfl rfl (fun _ => rfl) (cells_load (hs.cells 0 rfl) 0 1 rfl) ?_
    show G _ _ _ _ [_, _, _, _, _, _, _, _, _, _, _, _, _, _, _, _, _, _, _, _, _, _] _
    exact hk _ _ ⟨O, (by simp only [u0_, u1_, u2_, u3_, u4_, u5_, u6_, u7_, u8_, p0_, q7_, q8_, cnd_t, cnd_f, Asc_t, Asc_f]), hs.cast (by first | rfl | simp only [List.take, List.drop, List.cons_append, List.nil_append, List.set_cons_zero, List.set_cons_succ, List.eraseIdx, u0_, u1_, u2_, u3_, u4_, u5_, u6_, u7_, u8_, p0_, q7_, q8_, cnd_t, cnd_f, Asc_t, Asc_f])⟩
   ·
    intro D t w hD hp hcl hI rest hk
    obtain ⟨O, ht, hs⟩ := hI
    have q3_ : D 3 = false := not_yet (hcl.get 3 (by decide)) 0 2 rfl hD
    have q6_ : D 6 = false := not_yet (hcl.get 6 (by decide)) 0 3 rfl q3_
    have q7_ : D 7 = false := not_yet (hcl.get 7 (by decide)) 1 3 rfl q3_
    have q8_ : D 8 = false := not_yet (hcl.get 8 (by decide)) 0 6 rfl q6_
    have u0_ : upd D 2 0 = D 0 := rfl; have u1_ : upd D 2 1 = D 1 := rfl; have u2_ : upd D 2 2 = true := rfl; have u3_ : upd D 2 3 = D 3 := rfl; have u4_ : upd D 2 4 = D 4 := rfl; have u5_ : upd D 2 5 = D 5 := rfl; have u6_ : upd D 2 6 = D 6 := rfl; have u7_ : upd D 2 7 = D 7 := rfl; have u8_ : upd D 2 8 = D 8 := rfl
    simp only [hD, q3_, q6_, q7_, q8_, cnd_t, cnd_f, Asc_t, Asc_f] at ht hs
    subst ht
    refine s_loadA rfl rfl (es := (([Value.int .i8 a1.f_Things, Value.int .i8 a1.f_Boat, v2] : List Value))) rfl rfl (fun _ => rfl) (n := 3) (fun _ => rfl) rfl (cells_all (hs.cells 1 rfl)) ?_
    show G _ _ _ _ [_, _, _, _, _, _, _, _, _, _, _, _, _, _, _, _, _, _, _, _, _, _] _
    exact hk _ _ ⟨O, (by simp only [u0_, u1_, u2_, u3_, u4_, u5_, u6_, u7_, u8_, q3_, q6_, q7_, q8_, cnd_t, cnd_f, Asc_t, Asc_f]), hs.cast (by first | rfl | simp only [List.take, List.drop, List.cons_append, List.nil_append, List.set_cons_zero, List.set_cons_succ, List.eraseIdx, u0_, u1_, u2_, u3_, u4_, u5_, u6_, u7_, u8_, q3_, q6_, q7_, q8_, cnd_t, cnd_f, Asc_t, Asc_f])⟩
   ·
    intro D t w hD hp hcl hI rest hk
    obtain ⟨O, ht, hs⟩ := hI
    obtain ⟨p2_, _⟩ := hp
    have q6_ : D 6 = false := not_yet (hcl.get 6 (by decide)) 0 3 rfl hD
    have q7_ : D 7 = false := not_yet (hcl.get 7 (by decide)) 1 3 rfl hD
    have q8_ : D 8 = false := not_yet (hcl.get 8 (by decide)) 0 6 rfl q6_
    have u0_ : upd D 3 0 = D 0 := rfl; have u1_ : upd D 3 1 = D 1 := rfl; have u2_ : upd D 3 2 = D 2 := rfl; have u3_ : upd D 3 3 = true := rfl; have u4_ : upd D 3 4 = D 4 := rfl; have u5_ : upd D 3 5 = D 5 := rfl; have u6_ : upd D 3 6 = D 6 := rfl; have u7_ : upd D 3 7 = D 7 := rfl; have u8_ : upd D 3 8 = D 8 := rfl
    simp only [hD, p2_, q6_, q7_, q8_, cnd_t, cnd_f, Asc_t, Asc_f] at ht hs
    subst ht
    refine s_call (args := [Value.agg (([Value.int .i8 a1.f_Things, Value.int .i8 a1.f_Boat, v2] : List Value)).toArray]) rfl rfl (x_call rfl (callFunc_enter Try.func46 rfl rfl) rfl) (_impl_Ferry_all.calls (a1 := (⟨a1.f_Things, a1.f_Boat, a1.f_Rules⟩ : S_laws_Ferry)) (hs.rd hr3) Hr10) ?_
    rintro _ w ⟨rfl, hs2⟩
    have hs : St _ [_, _] _ := hs.call hs2
    show G _ _ _ _ [_, _, _, _, _, _, _, _, _, _, _, _, _, _, _, _, _, _, _, _, _, _] _
    exact hk _ _ ⟨O, (by simp only [u0_, u1_, u2_, u3_, u4_, u5_, u6_, u7_, u8_, p2_, q6_, q7_, q8_, cnd_t, cnd_f, Asc_t, Asc_f]), hs.cast (by first | rfl | simp only [List.take, List.drop, List.cons_append, List.nil_append, List.set_cons_zero, List.set_cons_succ, List.eraseIdx, u0_, u1_, u2_, u3_, u4_, u5_, u6_, u7_, u8_, p2_, q6_, q7_, q8_, cnd_t, cnd_f, Asc_t, Asc_f])⟩
   ·
    intro D t w hD hp hcl hI rest hk
    obtain ⟨O, ht, hs⟩ := hI
    have q5_ : D 5 = false := not_yet (hcl.get 5 (by decide)) 0 4 rfl hD
    have q6_ : D 6 = false := not_yet (hcl.get 6 (by decide)) 1 5 rfl q5_
    have q8_ : D 8 = false := not_yet (hcl.get 8 (by decide)) 0 6 rfl q6_
    have u0_ : upd D 4 0 = D 0 := rfl; have u1_ : upd D 4 1 = D 1 := rfl; have u2_ : upd D 4 2 = D 2 := rfl; have u3_ : upd D 4 3 = D 3 := rfl; have u4_ : upd D 4 4 = true := rfl; have u5_ : upd D 4 5 = D 5 := rfl; have u6_ : upd D 4 6 = D 6 := rfl; have u7_ : upd D 4 7 = D 7 := rfl; have u8_ : upd D 4 8 = D 8 := rfl
    simp only [hD, q5_, q6_, q8_, cnd_t, cnd_f, Asc_t, Asc_f] at ht hs
    subst ht
    refine g_op (v := Value.pointer (some ⟨b7, 0, none⟩)) rfl rfl rfl ?_
    show G _ _ _ _ [_, _, _, _, _, _, _, _, _, _, _, _, _, _, _, _, _, _, _, _, _, _] _
    exact hk _ _ ⟨O, (by simp only [u0_, u1_, u2_, u3_, u4_, u5_, u6_, u7_, u8_, q5_, q6_, q8_, cnd_t, cnd_f, Asc_t, Asc_f]), hs.cast (by first | rfl | simp only [List.take, List.drop, List.cons_append, List.nil_append, List.set_cons_zero, List.set_cons_succ, List.eraseIdx, u0_, u1_, u2_, u3_, u4_, u5_, u6_, u7_, u8_, q5_, q6_, q8_, cnd_t, cnd_f, Asc_t, Asc_f])⟩
   ·
    intro D t w hD hp hcl hI rest hk
    obtain ⟨O, ht, hs⟩ := hI
    obtain ⟨p4_, _⟩ := hp
    have q6_ : D 6 = false := not_yet (hcl.get 6 (by decide)) 1 5 rfl hD
    have q8_ : D 8 = false := not_yet (hcl.get 8 (by decide)) 0 6 rfl q6_
    have u0_ : upd D 5 0 = D 0 := rfl; have u1_ : upd D 5 1 = D 1 := rfl; have u2_ : upd D 5 2 = D 2 := rfl; have u3_ : upd D 5 3 = D 3 := rfl; have u4_ : upd D 5 4 = D 4 := rfl; have u5_ : upd D 5 5 = true := rfl; have u6_ : upd D 5 6 = D 6 := rfl; have u7_ : upd D 5 7 = D 7 := rfl; have u8_ : upd D 5 8 = D 8 := rfl
    simp only [hD, p4_, q6_, q8_, cnd_t, cnd_f, Asc_t, Asc_f] at ht hs
    subst ht
    refine s_load1 rfl rfl (v := Value.int .u16 a4.f_Near) rfl rfl (fun _ => rfl) (cells_load (hs.cells 0 rfl) 0 1 rfl) ?_
    show G _ _ _ _ [_, _, _, _, _, _, _, _, _, _, _, _, _, _, _, _, _, _, _, _, _, _] _
    exact hk _ _ ⟨O, (by simp only [u0_, u1_, u2_, u3_, u4_, u5_, u6_, u7_, u8_, p4_, q6_, q8_, cnd_t, cnd_f, Asc_t, Asc_f]), hs.cast (by first | rfl | simp only [List.take, List.drop, List.cons_append, List.nil_append, List.set_cons_zero, List.set_cons_succ, List.eraseIdx, u0_, u1_, u2_, u3_, u4_, u5_, u6_, u7_, u8_, p4_, q6_, q8_, cnd_t, cnd_f, Asc_t, Asc_f])⟩
   ·
    intro D t w hD hp hcl hI rest hk
    obtain ⟨O, ht, hs⟩ := hI
    obtain ⟨p3_, p5_, _⟩ := hp
    obtain ⟨p4_, _⟩ := (hcl.get 5 (by decide)) p5_
    obtain ⟨p2_, _⟩ := (hcl.get 3 (by decide)) p3_
    have q8_ : D 8 = false := not_yet (hcl.get 8 (by decide)) 0 6 rfl hD
    have u0_ : upd D 6 0 = D 0 := rfl; have u1_ : upd D 6 1 = D 1 := rfl; have u2_ : upd D 6 2 = D 2 := rfl; have u3_ : upd D 6 3 = D 3 := rfl; have u4_ : upd D 6 4 = D 4 := rfl; have u5_ : upd D 6 5 = D 5 := rfl; have u6_ : upd D 6 6 = true := rfl; have u7_ : upd D 6 7 = D 7 := rfl; have u8_ : upd D 6 8 = D 8 := rfl
    simp only [hD, p2_, p3_, p4_, p5_, q8_, cnd_t, cnd_f, Asc_t, Asc_f] at ht hs
    subst ht
    refine g_op (v := Value.int .u16 (bAndNot .u16 r10 a4.f_Near)) rfl rfl rfl ?_
    show G _ _ _ _ [_, _, _, _, _, _, _, _, _, _, _, _, _, _, _, _, _, _, _, _, _, _] _
    exact hk _ _ ⟨O, (by simp only [u0_, u1_, u2_, u3_, u4_, u5_, u6_, u7_, u8_, p2_, p3_, p4_, p5_, q8_, cnd_t, cnd_f, Asc_t, Asc_f]), hs.cast (by first | rfl | simp only [List.take, List.drop, List.cons_append, List.nil_append, List.set_cons_zero, List.set_cons_succ, List.eraseIdx, u0_, u1_, u2_, u3_, u4_, u5_, u6_, u7_, u8_, p2_, p3_, p4_, p5_, q8_, cnd_t, cnd_f, Asc_t, Asc_f])⟩
   ·
    intro D t w hD hp hcl hI rest hk
    obtain ⟨O, ht, hs⟩ := hI
    obtain ⟨p1_, p3_, p0_, _, _⟩ := hp
    obtain ⟨p2_, _⟩ := (hcl.get 3 (by decide)) p3_
    have q8_ : D 8 = false := not_yet (hcl.get 8 (by decide)) 1 7 rfl hD
    have u0_ : upd D 7 0 = D 0 := rfl; have u1_ : upd D 7 1 = D 1 := rfl; have u2_ : upd D 7 2 = D 2 := rfl; have u3_ : upd D 7 3 = D 3 := rfl; have u4_ : upd D 7 4 = D 4 := rfl; have u5_ : upd D 7 5 = D 5 := rfl; have u6_ : upd D 7 6 = D 6 := rfl; have u7_ : upd D 7 7 = true := rfl; have u8_ : upd D 7 8 = D 8 := rfl
    simp only [hD, p0_, p1_, p2_, p3_, q8_, cnd_t, cnd_f, Asc_t, Asc_f] at ht hs
    subst ht
    refine g_op (v := Value.int .u16 a4.f_Near) rfl rfl rfl ?_
    show G _ _ _ _ [_, _, _, _, _, _, _, _, _, _, _, _, _, _, _, _, _, _, _, _, _, _] _
    exact hk _ _ ⟨O, (by simp only [u0_, u1_, u2_, u3_, u4_, u5_, u6_, u7_, u8_, p0_, p1_, p2_, p3_, q8_, cnd_t, cnd_f, Asc_t, Asc_f]), hs.cast (by first | rfl | simp only [List.take, List.drop, List.cons_append, List.nil_append, List.set_cons_zero, List.set_cons_succ, List.eraseIdx, u0_, u1_, u2_, u3_, u4_, u5_, u6_, u7_, u8_, p0_, p1_, p2_, p3_, q8_, cnd_t, cnd_f, Asc_t, Asc_f])⟩
   ·
    intro D t w hD hp hcl hI rest hk
    obtain ⟨O, ht, hs⟩ := hI
    obtain ⟨p6_, p7_, p0_, p1_, p2_, p3_, p4_, p5_, _, _, _⟩ := hp
    have u0_ : upd D 8 0 = D 0 := rfl; have u1_ : upd D 8 1 = D 1 := rfl; have u2_ : upd D 8 2 = D 2 := rfl; have u3_ : upd D 8 3 = D 3 := rfl; have u4_ : upd D 8 4 = D 4 := rfl; have u5_ : upd D 8 5 = D 5 := rfl; have u6_ : upd D 8 6 = D 6 := rfl; have u7_ : upd D 8 7 = D 7 := rfl; have u8_ : upd D 8 8 = true := rfl
    simp only [hD, p0_, p1_, p2_, p3_, p4_, p5_, p6_, p7_, cnd_t, cnd_f, Asc_t, Asc_f] at ht hs
    subst ht
    refine g_op (v := Value.int .u16 (bAndNot .u16 r10 a4.f_Near)) rfl rfl rfl ?_
    show G _ _ _ _ [_, _, _, _, _, _, _, _, _, _, _, _, _, _, _, _, _, _, _, _, _, _] _
    exact hk _ _ ⟨O, (by simp only [u0_, u1_, u2_, u3_, u4_, u5_, u6_, u7_, u8_, p0_, p1_, p2_, p3_, p4_, p5_, p6_, p7_, cnd_t, cnd_f, Asc_t, Asc_f]), hs.cast (by first | rfl | simp only [List.take, List.drop, List.cons_append, List.nil_append, List.set_cons_zero, List.set_cons_succ, List.eraseIdx, u0_, u1_, u2_, u3_, u4_, u5_, u6_, u7_, u8_, p0_, p1_, p2_, p3_, p4_, p5_, p6_, p7_, cnd_t, cnd_f, Asc_t, Asc_f])⟩
   ·
    intro D t w hall hI
    obtain ⟨O, ht, hs⟩ := hI
    have p0_ : D 0 = true := hall 0 (by decide)
    have p1_ : D 1 = true := hall 1 (by decide)
    have p2_ : D 2 = true := hall 2 (by decide)
    have p3_ : D 3 = true := hall 3 (by decide)
    have p4_ : D 4 = true := hall 4 (by decide)
    have p5_ : D 5 = true := hall 5 (by decide)
    have p6_ : D 6 = true := hall 6 (by decide)
    have p7_ : D 7 = true := hall 7 (by decide)
    have p8_ : D 8 = true := hall 8 (by decide)
    simp only [p0_, p1_, p2_, p3_, p4_, p5_, p6_, p7_, p8_, cnd_t, cnd_f, Asc_t, Asc_f] at ht hs
    subst ht
    obtain rfl := Option.some.inj H
    refine g_ret Try.func72 (v := Value.tuple #[Value.int .u16 a4.f_Near, Value.int .u16 (bAndNot .u16 r10 a4.f_Near)]) (resN (l := Try.f72.results.toList) (vs := [Value.int .u16 a4.f_Near, Value.int .u16 (bAndNot .u16 r10 a4.f_Near)]) rfl ⟨rfl, rfl, trivial⟩ (by simp)) ?_
    have hs : St _ [] _ := St.take (Γ' := [_, _]) hs
    exact ⟨_, rfl, rfl, hs⟩

/- function 48 impl_crossed -/
def impl_crossed.post (w0 : World) (r : S_impl_Bank) (v : Value) (w : World) : Prop := v = Value.agg (enc_S_impl_Bank r).toArray ∧ St w0 [] w
set_option maxHeartbeats 8000000 in
set_option maxRecDepth 100000 in
theorem impl_crossed.calls {N : Nat} {a1 : S_impl_Bank} {a2 : Int} {w0 : World} {r : S_impl_Bank} (H : impl_crossed.f N a1 a2 = some r) :
    Calls Try.prog 48 #[Value.agg (enc_S_impl_Bank a1).toArray, Value.int .u16 a2] w0 fun e w => ∃ v, e = .returned v ∧ impl_crossed.post w0 r v w := by
  unfold impl_crossed.f at H
  have hs : St w0 [] w0 := St.refl w0
  refine calls_of_g (n := 11) Try.func48 rfl rfl ?_
  show G _ _ _ _ [_, _, _, _, _, _, _, _, _, _, _, _, _] _
  refine g_seq ?_
  refine g_region ?_
  show G _ _ _ (.inRegion _ [0, 1] :: _) _ _
  refine s_box hs rfl rfl (cs := (enc_S_impl_Bank a1)) rfl rfl ?_
  intro b3 w hs
  show G _ _ _ _ [_, _, _, _, _, _, _, _, _, _, _, _, _] _
  refine s_alloc hs rfl rfl (z := (Value.agg #[Value.int .u16 0, Value.bool false])) (cs := (enc_S_impl_Bank z_S_impl_Bank)) rfl (fun _ => rfl) rfl ?_
  intro b5 w hs
  show G _ _ _ _ [_, _, _, _, _, _, _, _, _, _, _, _, _] _
  refine g_ops_nil ?_
  refine g_seq ?_
  refine g_region ?_
  show G _ _ _ (.inRegion _ [0, 1, 2, 3, 4, 5, 6, 7, 8] :: _) _ _
  refine g_op (v := Value.pointer (some ⟨b3, 0, none⟩)) rfl rfl rfl ?_
  show G _ _ _ _ [_, _, _, _, _, _, _, _, _, _, _, _, _] _
  refine s_load1 rfl rfl (v := Value.int .u16 a1.f_Near) rfl rfl (fun _ => rfl) (cells_load (hs.cells 1 rfl) 0 1 rfl) ?_
  show G _ _ _ _ [_, _, _, _, _, _, _, _, _, _, _, _, _] _
  refine g_op (v := Value.int .u16 a2) rfl rfl rfl ?_
  show G _ _ _ _ [_, _, _, _, _, _, _, _, _, _, _, _, _] _
  refine g_op (v := Value.int .u16 (bXor .u16 a1.f_Near a2)) rfl rfl rfl ?_
  show G _ _ _ _ [_, _, _, _, _, _, _, _, _, _, _, _, _] _
  refine g_op (v := Value.pointer (some ⟨b3, 1, none⟩)) rfl rfl rfl ?_
  show G _ _ _ _ [_, _, _, _, _, _, _, _, _, _, _, _, _] _
  refine s_load1 rfl rfl (v := Value.bool a1.f_Far) rfl rfl (fun _ => rfl) (cells_load (hs.cells 1 rfl) 1 1 rfl) ?_
  show G _ _ _ _ [_, _, _, _, _, _, _, _, _, _, _, _, _] _
  refine g_op (v := Value.bool (!a1.f_Far)) rfl rfl rfl ?_
  show G _ _ _ _ [_, _, _, _, _, _, _, _, _, _, _, _, _] _
  refine g_op (v := Value.agg (enc_S_impl_Bank (⟨bXor .u16 a1.f_Near a2, !a1.f_Far⟩ : S_impl_Bank)).toArray) rfl rfl (x_buildS (cs := (enc_S_impl_Bank (⟨bXor .u16 a1.f_Near a2, !a1.f_Far⟩ : S_impl_Bank))) (segs := [[Value.int .u16 0], [Value.bool false]]) rfl rfl (fun _ => rfl) ⟨rfl, (fun _ => rfl), rfl, (fun _ => rfl), trivial⟩ (by simp only [List.map_cons, List.map_nil, List.forall_mem_cons, List.not_mem_nil, false_implies, implies_true, and_true]; exact ⟨⟨_, rfl, rfl⟩, ⟨_, rfl, rfl⟩⟩) (by first | rfl | (simp [ev, enc_S_impl_Bank]; done) | (simp [ev, enc_S_impl_Bank]; rfl))) ?_
  show G _ _ _ _ [_, _, _, _, _, _, _, _, _, _, _, _, _] _
  refine s_storeAll (n := 2) hs (fk_S_impl_Bank.len _) rfl rfl (vs := (enc_S_impl_Bank (⟨bXor .u16 a1.f_Near a2, !a1.f_Far⟩ : S_impl_Bank))) rfl rfl rfl (fun _ => rfl) (fk_S_impl_Bank.len _) (fk_S_impl_Bank.one _) ?_
  intro w hs
  refine g_ops_nil ?_
  obtain rfl := Option.some.inj H
  refine g_ret Try.func48 (v := Value.agg (enc_S_impl_Bank (⟨bXor .u16 a1.f_Near a2, !a1.f_Far⟩ : S_impl_Bank)).toArray) (resC rfl ⟨⟨_, rfl, (run_loadVar_agg (es := (enc_S_impl_Bank (⟨bXor .u16 a1.f_Near a2, !a1.f_Far⟩ : S_impl_Bank))) rfl (congrArg (Result.ok · _) (fk_S_impl_Bank.len _).symm) (cells_all (hs.cells 0 rfl)))⟩, trivial⟩) ?_
  have hs : St _ [] _ := St.take (Γ' := [_, _]) hs
  exact ⟨_, rfl, rfl, hs⟩

/- function 83 _impl_Ferry_isSafe_1 -/
def _impl_Ferry_isSafe_1.post (w0 : World) (r : Bool) (v : Value) (w : World) : Prop := v = Value.bool r ∧ St w0 [] w
set_option maxHeartbeats 8000000 in
set_option maxRecDepth 100000 in
theorem _impl_Ferry_isSafe_1.calls {N : Nat} {a1 : Int} {a2 : Int} {b3 : Nat} {w0 : World} {r : Bool} (hp1000 : w0.heap[b3]? = some (.cells (((encI .u16) a2) : List Value).toArray 27 (0, 0))) (H : _impl_Ferry_isSafe_1.f N a1 a2 = some r) :
    Calls Try.prog 83 #[Value.int .u16 a1, Value.pointer (some ⟨b3, 0, none⟩)] w0 fun e w => ∃ v, e = .returned v ∧ _impl_Ferry_isSafe_1.post w0 r v w := by
  unfold _impl_Ferry_isSafe_1.f at H
  have hs : St w0 [] w0 := St.refl w0
  refine calls_of_g (n := 5) Try.func83 rfl rfl ?_
  show G _ _ _ _ [_, _, _, _, _, _, _] _
  refine g_seq ?_
  refine g_region ?_
  show G _ _ _ (.inRegion _ [0] :: _) _ _
  refine g_op (v := Value.bool false) rfl rfl rfl ?_
  show G _ _ _ _ [_, _, _, _, _, _, _] _
  refine g_ops_nil ?_
  refine g_seq ?_
  refine g_region ?_
  show G _ _ _ (.inRegion _ [0, 1, 2, 3] :: _) _ _
  refine g_op (v := Value.int .u16 a1) rfl rfl rfl ?_
  show G _ _ _ _ [_, _, _, _, _, _, _] _
  refine s_load1 rfl rfl (v := Value.int .u16 a2) rfl rfl (fun _ => rfl) (cells_load (hs.box hp1000) 0 1 rfl) ?_
  show G _ _ _ _ [_, _, _, _, _, _, _] _
  obtain ⟨r5, Hr5, H⟩ := bind_get H
  refine s_call (args := [Value.int .u16 a1, Value.int .u16 a2]) rfl rfl (x_call rfl (callFunc_enter Try.func70 rfl rfl) rfl) (impl_inside.calls (a1 := a1) (a2 := a2) Hr5) ?_
  rintro _ w ⟨rfl, hs2⟩
  have hs : St _ [] _ := hs.call hs2
  show G _ _ _ _ [_, _, _, _, _, _, _] _
  refine g_op (v := Value.bool r5) rfl rfl rfl ?_
  show G _ _ _ _ [_, _, _, _, _, _, _] _
  refine g_ops_nil ?_
  obtain rfl := Option.some.inj H
  refine g_ret Try.func83 (v := Value.bool r5) (res1 rfl rfl) ?_
  have hs : St _ [] _ := St.take (Γ' := []) hs
  exact ⟨_, rfl, rfl, hs⟩

/- function 80 slices_IndexFunc_uint16_uint16_at__impl_Ferry_isSafe_1 -/
def slices_IndexFunc_uint16_uint16_at__impl_Ferry_isSafe_1.post (w0 : World) (r : Int) (v : Value) (w : World) : Prop := v = Value.int .i64 r ∧ St w0 [] w
set_option maxHeartbeats 8000000 in
set_option maxRecDepth 100000 in
theorem slices_IndexFunc_uint16_uint16_at__impl_Ferry_isSafe_1.calls {N : Nat} {a1 : (List Int)} {a3 : Int} {v2 : Value} {b4 : Nat} {w0 : World} {r : Int} (hr0 : RdRow (K.int .u16) w0 v2 a1) (hp200 : w0.heap[b4]? = some (.cells (((encI .u16) a3) : List Value).toArray 27 (0, 0))) (H : slices_IndexFunc_uint16_uint16_at__impl_Ferry_isSafe_1.f N a1 a3 = some r) :
    Calls Try.prog 80 #[v2, Value.func (Fn.func 83) #[] #[Value.pointer (some ⟨b4, 0, none⟩)]] w0 fun e w => ∃ v, e = .returned v ∧ slices_IndexFunc_uint16_uint16_at__impl_Ferry_isSafe_1.post w0 r v w := by
  unfold slices_IndexFunc_uint16_uint16_at__impl_Ferry_isSafe_1.f at H
  have hs : St w0 [] w0 := St.refl w0
  refine calls_of_g (n := 17) Try.func80 rfl rfl ?_
  show G _ _ _ _ [_, _, _, _, _, _, _, _, _, _, _, _, _, _, _, _, _, _, _] _
  refine g_seq ?_
  refine g_region ?_
  show G _ _ _ (.inRegion _ [0] :: _) _ _
  refine g_op (v := Value.int .i64 0) rfl rfl rfl ?_
  show G _ _ _ _ [_, _, _, _, _, _, _, _, _, _, _, _, _, _, _, _, _, _, _] _
  refine g_ops_nil ?_
  refine g_seq ?_
  refine g_seq ?_
  refine g_region ?_
  show G _ _ _ (.inRegion _ [0, 1, 2] :: _) _ _
  refine g_op (v := v2) rfl rfl rfl ?_
  show G _ _ _ _ [_, _, _, _, _, _, _, _, _, _, _, _, _, _, _, _, _, _, _] _
  refine s_len (hs.rd hr0) rfl rfl rfl rfl rfl ?_
  show G _ _ _ _ [_, _, _, _, _, _, _, _, _, _, _, _, _, _, _, _, _, _, _] _
  refine g_op (v := Value.int .i64 0) rfl rfl rfl ?_
  show G _ _ _ _ [_, _, _, _, _, _, _, _, _, _, _, _, _, _, _, _, _, _, _] _
  refine g_ops_nil ?_
  obtain ⟨o1_, Ho, Hr1_⟩ := bind_get H
  refine g_block_join (J := fun t w => slices_IndexFunc_uint16_uint16_at__impl_Ferry_isSafe_1.a0 N = some r ∧ Fr t (fun O => ([O 0, O 1, O 2, O 3, O 4, O 5, O 6, O 7, O 8, O 9, O 10, O 11, O 12, O 13, O 14, O 15, O 16, O 17, O 18] : List Value)) ∧ St w0 [] w) ?_ ?_
  ·
   rintro t w ⟨H, hf, hs⟩
   obtain ⟨O, rfl⟩ := hf.open
   show G _ _ _ _ [_, _, _, _, _, _, _, _, _, _, _, _, _, _, _, _, _, _, _] _
   unfold slices_IndexFunc_uint16_uint16_at__impl_Ferry_isSafe_1.a0 at H
   refine g_seq ?_
   refine g_region ?_
   show G _ _ _ (.inRegion _ [0] :: _) _ _
   refine g_op (v := Value.int .i64 (-1)) rfl rfl rfl ?_
   show G _ _ _ _ [_, _, _, _, _, _, _, _, _, _, _, _, _, _, _, _, _, _, _] _
   refine g_ops_nil ?_
   obtain rfl := Option.some.inj H
   refine g_ret Try.func80 (v := Value.int .i64 (-1)) (res1 rfl rfl) ?_
   have hs : St _ [] _ := St.take (Γ' := []) hs
   exact ⟨_, rfl, rfl, hs⟩
  ·
   intro ha1_
   have hs : St _ [] _ := St.take (Γ' := []) hs
   refine g_loop_fuel (I := fun n_ t w => ∃ x6 : Int, rounds (fun s => slices_IndexFunc_uint16_uint16_at__impl_Ferry_isSafe_1.b0 N a1 a3 s) n_ x6 = some o1_ ∧ Fr t (fun O => ([v2, Value.func (Fn.func 83) #[] #[Value.pointer (some ⟨b4, 0, none⟩)], O 2, O 3, O 4, O 5, O 6, Value.int .i64 (a1.length : Int), Value.int .i64 x6, O 9, O 10, O 11, O 12, O 13, O 14, O 15, O 16, O 17, O 18] : List Value)) ∧ St w0 [] w) N ⟨0, Ho, rfl, hs⟩ ?_ ?_
   ·
    rintro _ _ ⟨x6, h, _⟩
    exact rounds_zero h
   ·
    intro n_ ih1_
    rintro t w ⟨x6, Ho, hf, hs⟩
    obtain ⟨O, rfl⟩ := hf.open
    show G _ _ _ _ [_, _, _, _, _, _, _, _, _, _, _, _, _, _, _, _, _, _, _] _
    obtain ⟨x2_, H, Hx1_⟩ := rounds_succ Ho
    have H : slices_IndexFunc_uint16_uint16_at__impl_Ferry_isSafe_1.b0 N a1 a3 x6 = some x2_ := H
    unfold slices_IndexFunc_uint16_uint16_at__impl_Ferry_isSafe_1.b0 at H
    refine g_seq ?_
    refine g_region ?_
    show G _ _ _ (.inRegion _ [0] :: _) _ _
    refine g_op_b (B := decide (x6 < (a1.length : Int))) rfl rfl rfl ?_ ?_
    ·
     intro hb
     rw [if_pos (b_dec_t hb)] at H
     show G _ _ _ _ [_, _, _, _, _, _, _, _, _, _, _, _, _, _, _, _, _, _, _] _
     refine g_ops_nil ?_
     refine g_seq ?_
     refine g_cond_true rfl ?_
     refine g_skip ?_
     refine g_seq ?_
     refine g_block ?_
     refine g_seq ?_
     refine g_region ?_
     show G _ _ _ (.inRegion _ [0, 1] :: _) _ _
     refine g_op (v := Value.int .i64 x6) rfl rfl rfl ?_
     show G _ _ _ _ [_, _, _, _, _, _, _, _, _, _, _, _, _, _, _, _, _, _, _] _
     refine g_op (v := Value.int .i64 x6) rfl rfl rfl ?_
     show G _ _ _ _ [_, _, _, _, _, _, _, _, _, _, _, _, _, _, _, _, _, _, _] _
     refine g_ops_nil ?_
     refine g_seq ?_
     refine g_region ?_
     show G _ _ _ (.inRegion _ [0, 1, 2, 3, 4, 5] :: _) _ _
     refine g_op (v := Value.func (Fn.func 83) #[] #[Value.pointer (some ⟨b4, 0, none⟩)]) rfl rfl rfl ?_
     show G _ _ _ _ [_, _, _, _, _, _, _, _, _, _, _, _, _, _, _, _, _, _, _] _
     refine g_op (v := v2) rfl rfl rfl ?_
     show G _ _ _ _ [_, _, _, _, _, _, _, _, _, _, _, _, _, _, _, _, _, _, _] _
     refine g_op (v := Value.int .i64 x6) rfl rfl rfl ?_
     show G _ _ _ _ [_, _, _, _, _, _, _, _, _, _, _, _, _, _, _, _, _, _, _] _
     obtain ⟨g1, H⟩ := ite_get H
     refine s_idx (fkI .u16) 0 (hs.rd hr0) rfl (fun _ => rfl) g1.1 g1.2 rfl rfl rfl rfl rfl ?_
     intro p7 hp7 lp7 op7
     show G _ _ _ _ [_, _, _, _, _, _, _, _, _, _, _, _, _, _, _, _, _, _, _] _
     refine s_load1 rfl rfl (v := Value.int .u16 (rdL a1 x6 0)) rfl rfl (fun _ => rfl) hp7 ?_
     show G _ _ _ _ [_, _, _, _, _, _, _, _, _, _, _, _, _, _, _, _, _, _, _] _
     obtain ⟨r8, Hr8, H⟩ := bind_get H
     refine s_call (args := [Value.int .u16 (rdL a1 x6 0), Value.pointer (some ⟨b4, 0, none⟩)]) rfl rfl (x_callC rfl (callFunc_enter Try.func83 rfl rfl) rfl rfl) (_impl_Ferry_isSafe_1.calls (a1 := rdL a1 x6 0) (a2 := a3) (hs.box hp200) Hr8) ?_
     rintro _ w ⟨rfl, hs2⟩
     have hs : St _ [] _ := hs.call hs2
     cases r8 with
     | true =>
       rw [if_pos rfl] at H
       show G _ _ _ _ [_, _, _, _, _, _, _, _, _, _, _, _, _, _, _, _, _, _, _] _
       refine g_ops_nil ?_
       refine g_cond_true rfl ?_
       refine g_seq ?_
       refine g_region ?_
       show G _ _ _ (.inRegion _ [0, 1] :: _) _ _
       refine g_op (v := Value.int .i64 x6) rfl rfl rfl ?_
       show G _ _ _ _ [_, _, _, _, _, _, _, _, _, _, _, _, _, _, _, _, _, _, _] _
       refine g_op (v := Value.int .i64 x6) rfl rfl rfl ?_
       show G _ _ _ _ [_, _, _, _, _, _, _, _, _, _, _, _, _, _, _, _, _, _, _] _
       refine g_ops_nil ?_
       obtain rfl := Option.some.inj H
       subst Hx1_
       have H := Option.some.inj Hr1_
       subst H
       refine g_ret Try.func80 (v := Value.int .i64 x6) (res1 rfl rfl) ?_
       have hs : St _ [] _ := St.take (Γ' := []) hs
       exact ⟨_, rfl, rfl, hs⟩
     | false =>
       rw [if_neg Bool.false_ne_true] at H
       show G _ _ _ _ [_, _, _, _, _, _, _, _, _, _, _, _, _, _, _, _, _, _, _] _
       refine g_ops_nil ?_
       refine g_cond_false rfl ?_
       refine g_skip ?_
       refine g_inBlock ?_
       refine g_region ?_
       show G _ _ _ (.inRegion _ [0, 1] :: _) _ _
       refine g_op (v := Value.int .i64 (i64w (x6 + 1))) rfl rfl rfl ?_
       show G _ _ _ _ [_, _, _, _, _, _, _, _, _, _, _, _, _, _, _, _, _, _, _] _
       refine g_op (v := Value.int .i64 (i64w (x6 + 1))) rfl rfl rfl ?_
       show G _ _ _ _ [_, _, _, _, _, _, _, _, _, _, _, _, _, _, _, _, _, _, _] _
       refine g_ops_nil ?_
       obtain rfl := Option.some.inj H
       have hs : St _ [] _ := St.take (Γ' := []) hs
       exact ih1_ _ _ ⟨i64w (x6 + 1), Hx1_, rfl, hs⟩
    ·
     intro hb
     rw [if_neg (b_dec_f hb)] at H
     show G _ _ _ _ [_, _, _, _, _, _, _, _, _, _, _, _, _, _, _, _, _, _, _] _
     refine g_ops_nil ?_
     refine g_seq ?_
     refine g_cond_false rfl ?_
     obtain rfl := Option.some.inj H
     subst Hx1_
     have hs : St _ [] _ := St.take (Γ' := []) hs
     refine g_exit rfl ?_
     exact ha1_ _ _ ⟨Hr1_, rfl, hs⟩

/- function 68 slices_ContainsFunc_uint16_uint16_at__impl_Ferry_isSafe_1 -/
def slices_ContainsFunc_uint16_uint16_at__impl_Ferry_isSafe_1.post (w0 : World) (r : Bool) (v : Value) (w : World) : Prop := v = Value.bool r ∧ St w0 [] w
set_option maxHeartbeats 8000000 in
set_option maxRecDepth 100000 in
theorem slices_ContainsFunc_uint16_uint16_at__impl_Ferry_isSafe_1.calls {N : Nat} {a1 : (List Int)} {a3 : Int} {v2 : Value} {b4 : Nat} {w0 : World} {r : Bool} (hr0 : RdRow (K.int .u16) w0 v2 a1) (hp200 : w0.heap[b4]? = some (.cells (((encI .u16) a3) : List Value).toArray 27 (0, 0))) (H : slices_ContainsFunc_uint16_uint16_at__impl_Ferry_isSafe_1.f N a1 a3 = some r) :
    Calls Try.prog 68 #[v2, Value.func (Fn.func 83) #[] #[Value.pointer (some ⟨b4, 0, none⟩)]] w0 fun e w => ∃ v, e = .returned v ∧ slices_ContainsFunc_uint16_uint16_at__impl_Ferry_isSafe_1.post w0 r v w := by
  unfold slices_ContainsFunc_uint16_uint16_at__impl_Ferry_isSafe_1.f at H
  have hs : St w0 [] w0 := St.refl w0
  refine calls_of_g (n := 7) Try.func68 rfl rfl ?_
  show G _ _ _ _ [_, _, _, _, _, _, _, _, _] _
  refine g_seq ?_
  refine g_region ?_
  show G _ _ _ (.inRegion _ [0] :: _) _ _
  refine g_op (v := Value.bool false) rfl rfl rfl ?_
  show G _ _ _ _ [_, _, _, _, _, _, _, _, _] _
  refine g_ops_nil ?_
  refine g_seq ?_
  refine g_region ?_
  show G _ _ _ (.inRegion _ [0, 1, 2, 3, 4] :: _) _ _
  refine g_op (v := v2) rfl rfl rfl ?_
  show G _ _ _ _ [_, _, _, _, _, _, _, _, _] _
  refine g_op (v := Value.func (Fn.func 83) #[] #[Value.pointer (some ⟨b4, 0, none⟩)]) rfl rfl rfl ?_
  show G _ _ _ _ [_, _, _, _, _, _, _, _, _] _
  obtain ⟨r6, Hr6, H⟩ := bind_get H
  refine s_call (args := [v2, Value.func (Fn.func 83) #[] #[Value.pointer (some ⟨b4, 0, none⟩)]]) rfl rfl (x_call rfl (callFunc_enter Try.func80 rfl rfl) rfl) (slices_IndexFunc_uint16_uint16_at__impl_Ferry_isSafe_1.calls (a1 := a1) (a3 := a3) (hs.rd hr0) (hs.box hp200) Hr6) ?_
  rintro _ w ⟨rfl, hs2⟩
  have hs : St _ [] _ := hs.call hs2
  show G _ _ _ _ [_, _, _, _, _, _, _, _, _] _
  refine g_op (v := Value.bool (decide (r6 ≥ 0))) rfl rfl rfl ?_
  show G _ _ _ _ [_, _, _, _, _, _, _, _, _] _
  refine g_op (v := Value.bool (decide (r6 ≥ 0))) rfl rfl rfl ?_
  show G _ _ _ _ [_, _, _, _, _, _, _, _, _] _
  refine g_ops_nil ?_
  obtain rfl := Option.some.inj H
  refine g_ret Try.func68 (v := Value.bool (decide (r6 ≥ 0))) (res1 rfl rfl) ?_
  have hs : St _ [] _ := St.take (Γ' := []) hs
  exact ⟨_, rfl, rfl, hs⟩

/- function 81 _impl_Ferry_isSafe -/
def _impl_Ferry_isSafe.post (w0 : World) (r : Bool) (v : Value) (w : World) : Prop := v = Value.bool r ∧ St w0 [] w
set_option maxHeartbeats 8000000 in
set_option maxRecDepth 100000 in
theorem _impl_Ferry_isSafe.calls {N : Nat} {a1 : S_laws_Ferry} {a4 : Int} {v2 : Value} {w0 : World} {r : Bool} (hr3 : RdRow (K.int .u16) w0 v2 a1.f_Rules) (H : _impl_Ferry_isSafe.f N a1 a4 = some r) :
    Calls Try.prog 81 #[Value.agg (([Value.int .i8 a1.f_Things, Value.int .i8 a1.f_Boat, v2] : List Value)).toArray, Value.int .u16 a4] w0 fun e w => ∃ v, e = .returned v ∧ _impl_Ferry_isSafe.post w0 r v w := by
  unfold _impl_Ferry_isSafe.f at H
  have hs : St w0 [] w0 := St.refl w0
  refine calls_of_g (n := 8) Try.func81 rfl rfl ?_
  show G _ _ _ _ [_, _, _, _, _, _, _, _, _, _] _
  refine g_seq ?_
  refine g_region ?_
  show G _ _ _ (.inRegion _ [0, 1, 2] :: _) _ _
  refine s_box hs rfl rfl (cs := (([Value.int .i8 a1.f_Things, Value.int .i8 a1.f_Boat, v2] : List Value))) rfl rfl ?_
  intro b5 w hs
  show G _ _ _ _ [_, _, _, _, _, _, _, _, _, _] _
  refine s_box hs rfl rfl (cs := ((encI .u16) a4)) rfl rfl ?_
  intro b7 w hs
  show G _ _ _ _ [_, _, _, _, _, _, _, _, _, _] _
  refine g_op (v := Value.bool false) rfl rfl rfl ?_
  show G _ _ _ _ [_, _, _, _, _, _, _, _, _, _] _
  refine g_ops_nil ?_
  refine g_seq ?_
  refine g_region ?_
  show G _ _ _ (.inRegion _ [0, 1, 2, 3, 4, 5] :: _) _ _
  refine g_op (v := Value.pointer (some ⟨b5, 2, none⟩)) rfl rfl rfl ?_
  show G _ _ _ _ [_, _, _, _, _, _, _, _, _, _] _
  refine s_load1 rfl rfl (v := v2) rfl rfl (fun _ => rfl) (cells_load (hs.cells 1 rfl) 2 1 rfl) ?_
  show G _ _ _ _ [_, _, _, _, _, _, _, _, _, _] _
  refine g_op (v := Value.func (Fn.func 83) #[] #[Value.pointer (some ⟨b7, 0, none⟩)]) rfl rfl (x_mkfunc rfl rfl) ?_
  show G _ _ _ _ [_, _, _, _, _, _, _, _, _, _] _
  obtain ⟨r9, Hr9, H⟩ := bind_get H
  refine s_call (args := [v2, Value.func (Fn.func 83) #[] #[Value.pointer (some ⟨b7, 0, none⟩)]]) rfl rfl (x_call rfl (callFunc_enter Try.func68 rfl rfl) rfl) (slices_ContainsFunc_uint16_uint16_at__impl_Ferry_isSafe_1.calls (a1 := a1.f_Rules) (a3 := a4) (hs.rd hr3) (hs.cells 0 rfl) Hr9) ?_
  rintro _ w ⟨rfl, hs2⟩
  have hs : St _ [_, _] _ := hs.call hs2
  show G _ _ _ _ [_, _, _, _, _, _, _, _, _, _] _
  refine g_op (v := Value.bool (!r9)) rfl rfl rfl ?_
  show G _ _ _ _ [_, _, _, _, _, _, _, _, _, _] _
  refine g_op (v := Value.bool (!r9)) rfl rfl rfl ?_
  show G _ _ _ _ [_, _, _, _, _, _, _, _, _, _] _
  refine g_ops_nil ?_
  obtain rfl := Option.some.inj H
  refine g_ret Try.func81 (v := Value.bool (!r9)) (res1 rfl rfl) ?_
  have hs : St _ [] _ := St.take (Γ' := [_, _]) hs
  exact ⟨_, rfl, rfl, hs⟩

end Go.Proofs.YtgoblgmidejdgaaX
