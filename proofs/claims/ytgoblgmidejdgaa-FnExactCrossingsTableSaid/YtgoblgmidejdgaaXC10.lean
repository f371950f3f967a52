/- Contracts, printed by gen.py. -/
import Derived.Test.YtgoblgmidejdgaaXC9
namespace Go.Proofs.YtgoblgmidejdgaaX
open Go Go.RowKit Go.Proofs
set_option linter.unusedVariables false
set_option linter.unusedSimpArgs false
/- function 58 _impl_Ferry_search -/
def _impl_Ferry_search.post (w0 : World) (r : (List S_impl_crossing)) (v : Value) (w : World) : Prop := St w0 [Row 86 k_S_impl_crossing v r] w
set_option maxHeartbeats 8000000 in
set_option maxRecDepth 100000 in
theorem _impl_Ferry_search.calls {N : Nat} {a1 : S_laws_Ferry} {v2 : Value} {w0 : World} {r : (List S_impl_crossing)} (hr3 : RdRow (K.int .u16) w0 v2 a1.f_Rules) (H : _impl_Ferry_search.f N a1 = some r) :
    Calls Try.prog 58 #[Value.agg (([Value.int .i8 a1.f_Things, Value.int .i8 a1.f_Boat, v2] : List Value)).toArray] w0 fun e w => ∃ v, e = .returned v ∧ _impl_Ferry_search.post w0 r v w := by
  unfold _impl_Ferry_search.f at H
  have hs : St w0 [] w0 := St.refl w0
  refine calls_of_g (n := 64) Try.func58 rfl rfl ?_
  show G _ _ _ _ [_, _, _, _, _, _, _, _, _, _, _, _, _, _, _, _, _, _, _, _, _, _, _, _, _, _, _, _, _, _, _, _, _, _, _, _, _, _, _, _, _, _, _, _, _, _, _, _, _, _, _, _, _, _, _, _, _, _, _, _, _, _, _, _, _] _
  refine g_seq ?_
  refine g_region ?_
  show G _ _ _ (.inRegion _ [0, 1] :: _) _ _
  refine s_box hs rfl rfl (cs := (([Value.int .i8 a1.f_Things, Value.int .i8 a1.f_Boat, v2] : List Value))) rfl rfl ?_
  intro b4 w hs
  show G _ _ _ _ [_, _, _, _, _, _, _, _, _, _, _, _, _, _, _, _, _, _, _, _, _, _, _, _, _, _, _, _, _, _, _, _, _, _, _, _, _, _, _, _, _, _, _, _, _, _, _, _, _, _, _, _, _, _, _, _, _, _, _, _, _, _, _, _, _] _
  refine g_op (v := Value.slice none 0 0) rfl rfl rfl ?_
  show G _ _ _ _ [_, _, _, _, _, _, _, _, _, _, _, _, _, _, _, _, _, _, _, _, _, _, _, _, _, _, _, _, _, _, _, _, _, _, _, _, _, _, _, _, _, _, _, _, _, _, _, _, _, _, _, _, _, _, _, _, _, _, _, _, _, _, _, _, _] _
  refine g_ops_nil ?_
  refine g_seq ?_
  refine g_region ?_
  show G _ _ _ (.inRegion _ [0, 1, 2, 3, 4] :: _) _ _
  refine s_loadA rfl rfl (es := (([Value.int .i8 a1.f_Things, Value.int .i8 a1.f_Boat, v2] : List Value))) rfl rfl (fun _ => rfl) (n := 3) (fun _ => rfl) rfl (cells_all (hs.cells 0 rfl)) ?_
  show G _ _ _ _ [_, _, _, _, _, _, _, _, _, _, _, _, _, _, _, _, _, _, _, _, _, _, _, _, _, _, _, _, _, _, _, _, _, _, _, _, _, _, _, _, _, _, _, _, _, _, _, _, _, _, _, _, _, _, _, _, _, _, _, _, _, _, _, _, _] _
  obtain ⟨r6, Hr6, H⟩ := bind_get H
  refine s_call (args := [Value.agg (([Value.int .i8 a1.f_Things, Value.int .i8 a1.f_Boat, v2] : List Value)).toArray]) rfl rfl (x_call rfl (callFunc_enter Try.func46 rfl rfl) rfl) (_impl_Ferry_all.calls (a1 := (⟨a1.f_Things, a1.f_Boat, a1.f_Rules⟩ : S_laws_Ferry)) (hs.rd hr3) Hr6) ?_
  rintro _ w ⟨rfl, hs2⟩
  have hs : St _ [_] _ := hs.call hs2
  show G _ _ _ _ [_, _, _, _, _, _, _, _, _, _, _, _, _, _, _, _, _, _, _, _, _, _, _, _, _, _, _, _, _, _, _, _, _, _, _, _, _, _, _, _, _, _, _, _, _, _, _, _, _, _, _, _, _, _, _, _, _, _, _, _, _, _, _, _, _] _
  refine g_op (v := Value.agg (enc_S_impl_Bank (⟨r6, false⟩ : S_impl_Bank)).toArray) rfl rfl (x_buildS (cs := (enc_S_impl_Bank (⟨r6, false⟩ : S_impl_Bank))) (segs := [[Value.int .u16 0], [Value.bool false]]) rfl rfl (fun _ => rfl) ⟨rfl, (fun _ => rfl), rfl, (fun _ => rfl), trivial⟩ (by simp only [List.map_cons, List.map_nil, List.forall_mem_cons, List.not_mem_nil, false_implies, implies_true, and_true]; exact ⟨_, rfl, rfl⟩) (by first | rfl | (simp [ev, enc_S_impl_Bank]; done) | (simp [ev, enc_S_impl_Bank]; rfl))) ?_
  show G _ _ _ _ [_, _, _, _, _, _, _, _, _, _, _, _, _, _, _, _, _, _, _, _, _, _, _, _, _, _, _, _, _, _, _, _, _, _, _, _, _, _, _, _, _, _, _, _, _, _, _, _, _, _, _, _, _, _, _, _, _, _, _, _, _, _, _, _, _] _
  refine s_alloc hs rfl rfl (z := (Value.agg #[Value.int .u16 0, Value.bool false])) (cs := (enc_S_impl_Bank z_S_impl_Bank)) rfl (fun _ => rfl) rfl ?_
  intro b7 w hs
  show G _ _ _ _ [_, _, _, _, _, _, _, _, _, _, _, _, _, _, _, _, _, _, _, _, _, _, _, _, _, _, _, _, _, _, _, _, _, _, _, _, _, _, _, _, _, _, _, _, _, _, _, _, _, _, _, _, _, _, _, _, _, _, _, _, _, _, _, _, _] _
  refine s_storeAll (n := 2) hs (fk_S_impl_Bank.len _) rfl rfl (vs := (enc_S_impl_Bank (⟨r6, false⟩ : S_impl_Bank))) rfl rfl rfl (fun _ => rfl) (fk_S_impl_Bank.len _) (fk_S_impl_Bank.one _) ?_
  intro w hs
  refine g_ops_nil ?_
  refine g_seq ?_
  refine g_name ?_
  intro T hT
  refine g_any (n := 9) rfl [0, 1, 2, 3, 4, 5, 6, 7, 8] [0, 1, 2, 3, 5, 6, 7, 4, 8] rfl rfl (Inv := fun D t w => ∃ v9 : Value, ∃ b11 : Nat, ∃ O : Nat → Value, t = [Value.agg (([Value.int .i8 a1.f_Things, Value.int .i8 a1.f_Boat, v2] : List Value)).toArray, Value.pointer (some ⟨b4, 0, none⟩), Value.slice none 0 0, Value.pointer (some ⟨b7, 0, none⟩), cnd (D 7) v9 (O 4), cnd (D 8) (Value.map (some b11)) (O 5), O 6, O 7, O 8, O 9, Value.agg (([Value.int .i8 a1.f_Things, Value.int .i8 a1.f_Boat, v2] : List Value)).toArray, Value.int .u16 r6, Value.agg (enc_S_impl_Bank (⟨r6, false⟩ : S_impl_Bank)).toArray, cnd (D 0) (Value.agg (enc_S_impl_Bank (⟨r6, false⟩ : S_impl_Bank)).toArray) (O 13), cnd (D 1) (Value.agg (enc_S_impl_crossing (⟨(⟨r6, false⟩ : S_impl_Bank), (-1), 0, 0⟩ : S_impl_crossing)).toArray) (O 14), cnd (D 2) v9 (O 15), cnd (D 3) (Value.map (some b11)) (O 16), cnd (D 4) (Value.agg (enc_S_impl_Bank (⟨r6, false⟩ : S_impl_Bank)).toArray) (O 17), cnd (D 6) (Value.map (some b11)) (O 18), O 19, O 20, O 21, O 22, O 23, O 24, O 25, O 26, O 27, O 28, O 29, O 30, O 31, O 32, O 33, O 34, O 35, O 36, O 37, O 38, O 39, O 40, O 41, O 42, O 43, O 44, O 45, O 46, O 47, O 48, O 49, O 50, O 51, O 52, O 53, O 54, O 55, O 56, O 57, O 58, O 59, O 60, O 61, O 62, O 63, O 64] ∧ St w0 [Asc (D 2) (Row 86 k_S_impl_crossing v9 ([(⟨(⟨r6, false⟩ : S_impl_Bank), (-1), 0, 0⟩ : S_impl_crossing)])), Asc (D 3) (MapAs b11 ek_S_impl_Bank Value.bool (cnd (D 5) (mSet ([] : (List (S_impl_Bank × Bool))) (⟨r6, false⟩ : S_impl_Bank) true) ([] : (List (S_impl_Bank × Bool))))), Cells b7 (enc_S_impl_Bank (⟨r6, false⟩ : S_impl_Bank)) 29, Cells b4 (([Value.int .i8 a1.f_Things, Value.int .i8 a1.f_Boat, v2] : List Value)) 32] w) ?_ ⟨⟨⟨⟨⟨⟨⟨⟨⟨trivial, ?_⟩, ?_⟩, ?_⟩, ?_⟩, ?_⟩, ?_⟩, ?_⟩, ?_⟩, ?_⟩ ?_
  ·
   intro w hh hbw
   have hs := hs.samew hh hbw
   have hs := hs.emp
   have hs := hs.emp
   exact ⟨undef, 0, fun i => T.getD i undef, (by subst hT; rfl), hs⟩
  ·
   intro D t w hD hp hcl hI rest hk
   obtain ⟨v9, b11, O, ht, hs⟩ := hI
   have q1_ : D 1 = false := not_yet (hcl.get 1 (by decide)) 0 0 rfl hD
   have q2_ : D 2 = false := not_yet (hcl.get 2 (by decide)) 0 1 rfl q1_
   have q7_ : D 7 = false := not_yet (hcl.get 7 (by decide)) 0 2 rfl q2_
   have q8_ : D 8 = false := not_yet (hcl.get 8 (by decide)) 1 7 rfl q7_
   have u0_ : upd D 0 0 = true := rfl; have u1_ : upd D 0 1 = D 1 := rfl; have u2_ : upd D 0 2 = D 2 := rfl; have u3_ : upd D 0 3 = D 3 := rfl; have u4_ : upd D 0 4 = D 4 := rfl; have u5_ : upd D 0 5 = D 5 := rfl; have u6_ : upd D 0 6 = D 6 := rfl; have u7_ : upd D 0 7 = D 7 := rfl; have u8_ : upd D 0 8 = D 8 := rfl
   simp only [hD, q1_, q2_, q7_, q8_, cnd_t, cnd_f, Asc_t, Asc_f] at ht hs
   subst ht
   refine s_loadA rfl rfl (es := (enc_S_impl_Bank (⟨r6, false⟩ : S_impl_Bank))) rfl rfl (fun _ => rfl) (n := 2) (fun _ => rfl) (fk_S_impl_Bank.len _) (cells_all (hs.cells 2 rfl)) ?_
   show G _ _ _ _ [_, _, _, _, _, _, _, _, _, _, _, _, _, _, _, _, _, _, _, _, _, _, _, _, _, _, _, _, _, _, _, _, _, _, _, _, _, _, _, _, _, _, _, _, _, _, _, _, _, _, _, _, _, _, _, _, _, _, _, _, _, _, _, _, _] _
   exact hk _ _ ⟨v9, b11, O, (by simp only [u0_, u1_, u2_, u3_, u4_, u5_, u6_, u7_, u8_, q1_, q2_, q7_, q8_, cnd_t, cnd_f, Asc_t, Asc_f]), hs.cast (by first | rfl | simp only [List.take, List.drop, List.cons_append, List.nil_append, List.set_cons_zero, List.set_cons_succ, List.eraseIdx, u0_, u1_, u2_, u3_, u4_, u5_, u6_, u7_, u8_, q1_, q2_, q7_, q8_, cnd_t, cnd_f, Asc_t, Asc_f])⟩
  ·
   intro D t w hD hp hcl hI rest hk
   obtain ⟨v9, b11, O, ht, hs⟩ := hI
   obtain ⟨p0_, _⟩ := hp
   have q2_ : D 2 = false := not_yet (hcl.get 2 (by decide)) 0 1 rfl hD
   have q7_ : D 7 = false := not_yet (hcl.get 7 (by decide)) 0 2 rfl q2_
   have q8_ : D 8 = false := not_yet (hcl.get 8 (by decide)) 1 7 rfl q7_
   have u0_ : upd D 1 0 = D 0 := rfl; have u1_ : upd D 1 1 = true := rfl; have u2_ : upd D 1 2 = D 2 := rfl; have u3_ : upd D 1 3 = D 3 := rfl; have u4_ : upd D 1 4 = D 4 := rfl; have u5_ : upd D 1 5 = D 5 := rfl; have u6_ : upd D 1 6 = D 6 := rfl; have u7_ : upd D 1 7 = D 7 := rfl; have u8_ : upd D 1 8 = D 8 := rfl
   simp only [hD, p0_, q2_, q7_, q8_, cnd_t, cnd_f, Asc_t, Asc_f] at ht hs
   subst ht
   refine g_op (v := Value.agg (enc_S_impl_crossing (⟨(⟨r6, false⟩ : S_impl_Bank), (-1), 0, 0⟩ : S_impl_crossing)).toArray) rfl rfl (x_buildS (cs := (enc_S_impl_crossing (⟨(⟨r6, false⟩ : S_impl_Bank), (-1), 0, 0⟩ : S_impl_crossing))) (segs := [[Value.int .u16 0, Value.bool false], [Value.int .i64 0], [Value.int .u16 0], [Value.int .i64 0]]) rfl rfl (fun _ => rfl) ⟨rfl, (fun _ => rfl), rfl, (fun _ => rfl), rfl, (fun _ => rfl), rfl, (fun _ => rfl), trivial⟩ (by simp only [List.map_cons, List.map_nil, List.forall_mem_cons, List.not_mem_nil, false_implies, implies_true, and_true]; exact ⟨⟨_, rfl, fk_S_impl_Bank.len _⟩, ⟨_, rfl, rfl⟩⟩) (by first | rfl | (simp [ev, enc_S_impl_crossing]; done) | (simp [ev, enc_S_impl_crossing]; rfl))) ?_
   show G _ _ _ _ [_, _, _, _, _, _, _, _, _, _, _, _, _, _, _, _, _, _, _, _, _, _, _, _, _, _, _, _, _, _, _, _, _, _, _, _, _, _, _, _, _, _, _, _, _, _, _, _, _, _, _, _, _, _, _, _, _, _, _, _, _, _, _, _, _] _
   exact hk _ _ ⟨v9, b11, O, (by simp only [u0_, u1_, u2_, u3_, u4_, u5_, u6_, u7_, u8_, p0_, q2_, q7_, q8_, cnd_t, cnd_f, Asc_t, Asc_f]), hs.cast (by first | rfl | simp only [List.take, List.drop, List.cons_append, List.nil_append, List.set_cons_zero, List.set_cons_succ, List.eraseIdx, u0_, u1_, u2_, u3_, u4_, u5_, u6_, u7_, u8_, p0_, q2_, q7_, q8_, cnd_t, cnd_f, Asc_t, Asc_f])⟩
  ·
   intro D t w hD hp hcl hI rest hk
   obtain ⟨v9, b11, O, ht, hs⟩ := hI
   obtain ⟨p1_, _⟩ := hp
   obtain ⟨p0_, _⟩ := (hcl.get 1 (by decide)) p1_
   have q7_ : D 7 = false := not_yet (hcl.get 7 (by decide)) 0 2 rfl hD
   have q8_ : D 8 = false := not_yet (hcl.get 8 (by decide)) 1 7 rfl q7_
   have u0_ : upd D 2 0 = D 0 := rfl; have u1_ : upd D 2 1 = D 1 := rfl; have u2_ : upd D 2 2 = true := rfl; have u3_ : upd D 2 3 = D 3 := rfl; have u4_ : upd D 2 4 = D 4 := rfl; have u5_ : upd D 2 5 = D 5 := rfl; have u6_ : upd D 2 6 = D 6 := rfl; have u7_ : upd D 2 7 = D 7 := rfl; have u8_ : upd D 2 8 = D 8 := rfl
   simp only [hD, p0_, p1_, q7_, q8_, cnd_t, cnd_f, Asc_t, Asc_f] at ht hs
   subst ht
   refine s_lit1 fk_S_impl_crossing (y := (⟨(⟨r6, false⟩ : S_impl_Bank), (-1), 0, 0⟩ : S_impl_crossing)) hs rfl rfl rfl rfl (fun _ => rfl) (zv := (Value.agg #[Value.int .u16 0, Value.bool false, Value.int .i64 0, Value.int .u16 0, Value.int .i64 0])) (fun _ => rfl) rfl (by decide) (by decide) rfl ?_
   intro v9 w hs
   show G _ _ _ _ [_, _, _, _, _, _, _, _, _, _, _, _, _, _, _, _, _, _, _, _, _, _, _, _, _, _, _, _, _, _, _, _, _, _, _, _, _, _, _, _, _, _, _, _, _, _, _, _, _, _, _, _, _, _, _, _, _, _, _, _, _, _, _, _, _] _
   have hs := hs.fill 0 rfl
   exact hk _ _ ⟨v9, b11, O, (by simp only [u0_, u1_, u2_, u3_, u4_, u5_, u6_, u7_, u8_, p0_, p1_, q7_, q8_, cnd_t, cnd_f, Asc_t, Asc_f]), hs.cast (by first | rfl | simp only [List.take, List.drop, List.cons_append, List.nil_append, List.set_cons_zero, List.set_cons_succ, List.eraseIdx, u0_, u1_, u2_, u3_, u4_, u5_, u6_, u7_, u8_, p0_, p1_, q7_, q8_, cnd_t, cnd_f, Asc_t, Asc_f])⟩
  ·
   intro D t w hD hp hcl hI rest hk
   obtain ⟨v9, b11, O, ht, hs⟩ := hI
   have q5_ : D 5 = false := not_yet (hcl.get 5 (by decide)) 0 3 rfl hD
   have q6_ : D 6 = false := not_yet (hcl.get 6 (by decide)) 0 3 rfl hD
   have q8_ : D 8 = false := not_yet (hcl.get 8 (by decide)) 0 6 rfl q6_
   have u0_ : upd D 3 0 = D 0 := rfl; have u1_ : upd D 3 1 = D 1 := rfl; have u2_ : upd D 3 2 = D 2 := rfl; have u3_ : upd D 3 3 = true := rfl; have u4_ : upd D 3 4 = D 4 := rfl; have u5_ : upd D 3 5 = D 5 := rfl; have u6_ : upd D 3 6 = D 6 := rfl; have u7_ : upd D 3 7 = D 7 := rfl; have u8_ : upd D 3 8 = D 8 := rfl
   simp only [hD, q5_, q6_, q8_, cnd_t, cnd_f, Asc_t, Asc_f] at ht hs
   subst ht
   refine s_makeMap (ek := ek_S_impl_Bank) (en := Value.bool) hs rfl rfl rfl ?_
   intro b11 w hs
   show G _ _ _ _ [_, _, _, _, _, _, _, _, _, _, _, _, _, _, _, _, _, _, _, _, _, _, _, _, _, _, _, _, _, _, _, _, _, _, _, _, _, _, _, _, _, _, _, _, _, _, _, _, _, _, _, _, _, _, _, _, _, _, _, _, _, _, _, _, _] _
   have hs := hs.fill 1 rfl
   exact hk _ _ ⟨v9, b11, O, (by simp only [u0_, u1_, u2_, u3_, u4_, u5_, u6_, u7_, u8_, q5_, q6_, q8_, cnd_t, cnd_f, Asc_t, Asc_f]), hs.cast (by first | rfl | simp only [List.take, List.drop, List.cons_append, List.nil_append, List.set_cons_zero, List.set_cons_succ, List.eraseIdx, u0_, u1_, u2_, u3_, u4_, u5_, u6_, u7_, u8_, q5_, q6_, q8_, cnd_t, cnd_f, Asc_t, Asc_f])⟩
  ·
   intro D t w hD hp hcl hI rest hk
   obtain ⟨v9, b11, O, ht, hs⟩ := hI
   have q5_ : D 5 = false := not_yet (hcl.get 5 (by decide)) 1 4 rfl hD
   have q6_ : D 6 = false := not_yet (hcl.get 6 (by decide)) 1 4 rfl hD
   have q8_ : D 8 = false := not_yet (hcl.get 8 (by decide)) 0 6 rfl q6_
   have u0_ : upd D 4 0 = D 0 := rfl; have u1_ : upd D 4 1 = D 1 := rfl; have u2_ : upd D 4 2 = D 2 := rfl; have u3_ : upd D 4 3 = D 3 := rfl; have u4_ : upd D 4 4 = true := rfl; have u5_ : upd D 4 5 = D 5 := rfl; have u6_ : upd D 4 6 = D 6 := rfl; have u7_ : upd D 4 7 = D 7 := rfl; have u8_ : upd D 4 8 = D 8 := rfl
   simp only [hD, q5_, q6_, q8_, cnd_t, cnd_f, Asc_t, Asc_f] at ht hs
   subst ht
   refine s_loadA rfl rfl (es := (enc_S_impl_Bank (⟨r6, false⟩ : S_impl_Bank))) rfl rfl (fun _ => rfl) (n := 2) (fun _ => rfl) (fk_S_impl_Bank.len _) (cells_all (hs.cells 2 rfl)) ?_
   show G _ _ _ _ [_, _, _, _, _, _, _, _, _, _, _, _, _, _, _, _, _, _, _, _, _, _, _, _, _, _, _, _, _, _, _, _, _, _, _, _, _, _, _, _, _, _, _, _, _, _, _, _, _, _, _, _, _, _, _, _, _, _, _, _, _, _, _, _, _] _
   exact hk _ _ ⟨v9, b11, O, (by simp only [u0_, u1_, u2_, u3_, u4_, u5_, u6_, u7_, u8_, q5_, q6_, q8_, cnd_t, cnd_f, Asc_t, Asc_f]), hs.cast (by first | rfl | simp only [List.take, List.drop, List.cons_append, List.nil_append, List.set_cons_zero, List.set_cons_succ, List.eraseIdx, u0_, u1_, u2_, u3_, u4_, u5_, u6_, u7_, u8_, q5_, q6_, q8_, cnd_t, cnd_f, Asc_t, Asc_f])⟩
  ·
   intro D t w hD hp hcl hI rest hk
   obtain ⟨v9, b11, O, ht, hs⟩ := hI
   obtain ⟨p3_, p4_, _⟩ := hp
   have q6_ : D 6 = false := not_yet (hcl.get 6 (by decide)) 2 5 rfl hD
   have q8_ : D 8 = false := not_yet (hcl.get 8 (by decide)) 0 6 rfl q6_
   have u0_ : upd D 5 0 = D 0 := rfl; have u1_ : upd D 5 1 = D 1 := rfl; have u2_ : upd D 5 2 = D 2 := rfl; have u3_ : upd D 5 3 = D 3 := rfl; have u4_ : upd D 5 4 = D 4 := rfl; have u5_ : upd D 5 5 = true := rfl; have u6_ : upd D 5 6 = D 6 := rfl; have u7_ : upd D 5 7 = D 7 := rfl; have u8_ : upd D 5 8 = D 8 := rfl
   simp only [hD, p3_, p4_, q6_, q8_, cnd_t, cnd_f, Asc_t, Asc_f] at ht hs
   subst ht
   have hs := hs.pull 1 rfl
   have hs : St _ [_, _, _, _] _ := hs
   refine s_mapSet key_S_impl_Bank_29 (a := (⟨r6, false⟩ : S_impl_Bank)) (v := true) hs rfl rfl (.inr rfl) Try.underlying108 rfl rfl rfl ?_
   intro w hs
   show G _ _ _ _ [_, _, _, _, _, _, _, _, _, _, _, _, _, _, _, _, _, _, _, _, _, _, _, _, _, _, _, _, _, _, _, _, _, _, _, _, _, _, _, _, _, _, _, _, _, _, _, _, _, _, _, _, _, _, _, _, _, _, _, _, _, _, _, _, _] _
   have hs := hs.push 1 (by simp)
   exact hk _ _ ⟨v9, b11, O, (by simp only [u0_, u1_, u2_, u3_, u4_, u5_, u6_, u7_, u8_, p3_, p4_, q6_, q8_, cnd_t, cnd_f, Asc_t, Asc_f]), hs.cast (by first | rfl | simp only [List.take, List.drop, List.cons_append, List.nil_append, List.set_cons_zero, List.set_cons_succ, List.eraseIdx, u0_, u1_, u2_, u3_, u4_, u5_, u6_, u7_, u8_, p3_, p4_, q6_, q8_, cnd_t, cnd_f, Asc_t, Asc_f])⟩
  ·
   intro D t w hD hp hcl hI rest hk
   obtain ⟨v9, b11, O, ht, hs⟩ := hI
   obtain ⟨p3_, p4_, p5_, _⟩ := hp
   have q8_ : D 8 = false := not_yet (hcl.get 8 (by decide)) 0 6 rfl hD
   have u0_ : upd D 6 0 = D 0 := rfl; have u1_ : upd D 6 1 = D 1 := rfl; have u2_ : upd D 6 2 = D 2 := rfl; have u3_ : upd D 6 3 = D 3 := rfl; have u4_ : upd D 6 4 = D 4 := rfl; have u5_ : upd D 6 5 = D 5 := rfl; have u6_ : upd D 6 6 = true := rfl; have u7_ : upd D 6 7 = D 7 := rfl; have u8_ : upd D 6 8 = D 8 := rfl
   simp only [hD, p3_, p4_, p5_, q8_, cnd_t, cnd_f, Asc_t, Asc_f] at ht hs
   subst ht
   refine g_op (v := Value.map (some b11)) rfl rfl rfl ?_
   show G _ _ _ _ [_, _, _, _, _, _, _, _, _, _, _, _, _, _, _, _, _, _, _, _, _, _, _, _, _, _, _, _, _, _, _, _, _, _, _, _, _, _, _, _, _, _, _, _, _, _, _, _, _, _, _, _, _, _, _, _, _, _, _, _, _, _, _, _, _] _
   exact hk _ _ ⟨v9, b11, O, (by simp only [u0_, u1_, u2_, u3_, u4_, u5_, u6_, u7_, u8_, p3_, p4_, p5_, q8_, cnd_t, cnd_f, Asc_t, Asc_f]), hs.cast (by first | rfl | simp only [List.take, List.drop, List.cons_append, List.nil_append, List.set_cons_zero, List.set_cons_succ, List.eraseIdx, u0_, u1_, u2_, u3_, u4_, u5_, u6_, u7_, u8_, p3_, p4_, p5_, q8_, cnd_t, cnd_f, Asc_t, Asc_f])⟩
  ·
   intro D t w hD hp hcl hI rest hk
   obtain ⟨v9, b11, O, ht, hs⟩ := hI
   obtain ⟨p2_, p0_, p1_, _, _⟩ := hp
   have q8_ : D 8 = false := not_yet (hcl.get 8 (by decide)) 1 7 rfl hD
   have u0_ : upd D 7 0 = D 0 := rfl; have u1_ : upd D 7 1 = D 1 := rfl; have u2_ : upd D 7 2 = D 2 := rfl; have u3_ : upd D 7 3 = D 3 := rfl; have u4_ : upd D 7 4 = D 4 := rfl; have u5_ : upd D 7 5 = D 5 := rfl; have u6_ : upd D 7 6 = D 6 := rfl; have u7_ : upd D 7 7 = true := rfl; have u8_ : upd D 7 8 = D 8 := rfl
   simp only [hD, p0_, p1_, p2_, q8_, cnd_t, cnd_f, Asc_t, Asc_f] at ht hs
   subst ht
   refine g_op (v := v9) rfl rfl rfl ?_
   show G _ _ _ _ [_, _, _, _, _, _, _, _, _, _, _, _, _, _, _, _, _, _, _, _, _, _, _, _, _, _, _, _, _, _, _, _, _, _, _, _, _, _, _, _, _, _, _, _, _, _, _, _, _, _, _, _, _, _, _, _, _, _, _, _, _, _, _, _, _] _
   exact hk _ _ ⟨v9, b11, O, (by simp only [u0_, u1_, u2_, u3_, u4_, u5_, u6_, u7_, u8_, p0_, p1_, p2_, q8_, cnd_t, cnd_f, Asc_t, Asc_f]), hs.cast (by first | rfl | simp only [List.take, List.drop, List.cons_append, List.nil_append, List.set_cons_zero, List.set_cons_succ, List.eraseIdx, u0_, u1_, u2_, u3_, u4_, u5_, u6_, u7_, u8_, p0_, p1_, p2_, q8_, cnd_t, cnd_f, Asc_t, Asc_f])⟩
  ·
   intro D t w hD hp hcl hI rest hk
   obtain ⟨v9, b11, O, ht, hs⟩ := hI
   obtain ⟨p6_, p7_, p0_, p1_, p2_, p3_, p4_, p5_, _, _, _⟩ := hp
   have u0_ : upd D 8 0 = D 0 := rfl; have u1_ : upd D 8 1 = D 1 := rfl; have u2_ : upd D 8 2 = D 2 := rfl; have u3_ : upd D 8 3 = D 3 := rfl; have u4_ : upd D 8 4 = D 4 := rfl; have u5_ : upd D 8 5 = D 5 := rfl; have u6_ : upd D 8 6 = D 6 := rfl; have u7_ : upd D 8 7 = D 7 := rfl; have u8_ : upd D 8 8 = true := rfl
   simp only [hD, p0_, p1_, p2_, p3_, p4_, p5_, p6_, p7_, cnd_t, cnd_f, Asc_t, Asc_f] at ht hs
   subst ht
   refine g_op (v := Value.map (some b11)) rfl rfl rfl ?_
   show G _ _ _ _ [_, _, _, _, _, _, _, _, _, _, _, _, _, _, _, _, _, _, _, _, _, _, _, _, _, _, _, _, _, _, _, _, _, _, _, _, _, _, _, _, _, _, _, _, _, _, _, _, _, _, _, _, _, _, _, _, _, _, _, _, _, _, _, _, _] _
   exact hk _ _ ⟨v9, b11, O, (by simp only [u0_, u1_, u2_, u3_, u4_, u5_, u6_, u7_, u8_, p0_, p1_, p2_, p3_, p4_, p5_, p6_, p7_, cnd_t, cnd_f, Asc_t, Asc_f]), hs.cast (by first | rfl | simp only [List.take, List.drop, List.cons_append, List.nil_append, List.set_cons_zero, List.set_cons_succ, List.eraseIdx, u0_, u1_, u2_, u3_, u4_, u5_, u6_, u7_, u8_, p0_, p1_, p2_, p3_, p4_, p5_, p6_, p7_, cnd_t, cnd_f, Asc_t, Asc_f])⟩
  ·
   intro D t w hall hI
   obtain ⟨v9, b11, O, ht, hs⟩ := hI
   have p0_ : D 0 = true := hall 0 (by decide)
   have p1_ : D 1 = true := hall 1 (by decide)
   have p2_ : D 2 = true := hall 2 (by decide)
   have p3_ : D 3 = true := hall 3 (by decide)
   have p4_ : D 4 = true := hall 4 (by decide)
   have p5_ : D 5 = true := hall 5 (by decide)
   have p6_ : D 6 = true := hall 6 (by decide)
   have p7_ : D 7 = true := hall 7 (by decide)
   have p8_ : D 8 = true := hall 8 (by decide)
   simp only [p0_, p1_, p2_, p3_, p4_, p5_, p6_, p7_, p8_, cnd_t, cnd_f, Asc_t, Asc_f] at ht hs
   subst ht
   refine g_seq ?_
   refine g_seq ?_
   refine g_region ?_
   show G _ _ _ (.inRegion _ [0] :: _) _ _
   refine g_op (v := Value.int .i64 0) rfl rfl rfl ?_
   show G _ _ _ _ [_, _, _, _, _, _, _, _, _, _, _, _, _, _, _, _, _, _, _, _, _, _, _, _, _, _, _, _, _, _, _, _, _, _, _, _, _, _, _, _, _, _, _, _, _, _, _, _, _, _, _, _, _, _, _, _, _, _, _, _, _, _, _, _, _] _
   refine g_ops_nil ?_
   obtain ⟨o1_, Ho, Hr1_⟩ := bind_get H
   refine g_block_join (J := fun t w => ∃ v122 : Value, ∃ x123 : (List S_impl_crossing), _impl_Ferry_search.a0 N x123 = some r ∧ Fr t (fun O => ([O 0, O 1, O 2, O 3, v122, O 5, O 6, O 7, O 8, O 9, O 10, O 11, O 12, O 13, O 14, O 15, O 16, O 17, O 18, O 19, O 20, O 21, O 22, O 23, O 24, O 25, O 26, O 27, O 28, O 29, O 30, O 31, O 32, O 33, O 34, O 35, O 36, O 37, O 38, O 39, O 40, O 41, O 42, O 43, O 44, O 45, O 46, O 47, O 48, O 49, O 50, O 51, O 52, O 53, O 54, O 55, O 56, O 57, O 58, O 59, O 60, O 61, O 62, O 63, O 64] : List Value)) ∧ St w0 [Row 86 k_S_impl_crossing v122 x123] w) ?_ ?_
   ·
    rintro t w ⟨v122, x123, H, hf, hs⟩
    obtain ⟨O, rfl⟩ := hf.open
    show G _ _ _ _ [_, _, _, _, _, _, _, _, _, _, _, _, _, _, _, _, _, _, _, _, _, _, _, _, _, _, _, _, _, _, _, _, _, _, _, _, _, _, _, _, _, _, _, _, _, _, _, _, _, _, _, _, _, _, _, _, _, _, _, _, _, _, _, _, _] _
    unfold _impl_Ferry_search.a0 at H
    refine g_seq ?_
    refine g_region ?_
    show G _ _ _ (.inRegion _ [0, 1] :: _) _ _
    refine g_op (v := v122) rfl rfl rfl ?_
    refine g_op (v := v122) rfl rfl rfl ?_
    show G _ _ _ _ [_, _, _, _, _, _, _, _, _, _, _, _, _, _, _, _, _, _, _, _, _, _, _, _, _, _, _, _, _, _, _, _, _, _, _, _, _, _, _, _, _, _, _, _, _, _, _, _, _, _, _, _, _, _, _, _, _, _, _, _, _, _, _, _, _] _
    refine g_ops_nil ?_
    obtain rfl := Option.some.inj H
    refine g_ret Try.func58 (v := v122) (res1 rfl rfl) ?_
    have hs := hs.pull 0 rfl
    have hs : St _ [_] _ := St.take (Γ' := []) hs
    exact ⟨_, rfl, hs⟩
   ·
    intro ha1_
    have hs := hs.pull 1 rfl
    have hs := hs.pull 1 rfl
    have hs := hs.pull 3 rfl
    have hs : St _ [_, _, _] _ := St.take (Γ' := [_]) hs
    refine g_loop_fuel (I := fun n_ t w => ∃ v69 : Value, ∃ x70 : (List S_impl_crossing), ∃ x71 : (List (S_impl_Bank × Bool)), ∃ x72 : Int, rounds (fun s => _impl_Ferry_search.b0 N a1 s.1 s.2.1 s.2.2) n_ (x70, x71, x72) = some o1_ ∧ Fr t (fun O => ([O 0, Value.pointer (some ⟨b4, 0, none⟩), O 2, O 3, v69, Value.map (some b11), Value.int .i64 x72, O 7, O 8, O 9, O 10, O 11, O 12, O 13, O 14, O 15, O 16, O 17, O 18, O 19, O 20, O 21, O 22, O 23, O 24, O 25, O 26, O 27, O 28, O 29, O 30, O 31, O 32, O 33, O 34, O 35, O 36, O 37, O 38, O 39, O 40, O 41, O 42, O 43, O 44, O 45, O 46, O 47, O 48, O 49, O 50, O 51, O 52, O 53, O 54, O 55, O 56, O 57, O 58, O 59, O 60, O 61, O 62, O 63, O 64] : List Value)) ∧ St w0 [Cells b4 (([Value.int .i8 a1.f_Things, Value.int .i8 a1.f_Boat, v2] : List Value)) 32, Row 86 k_S_impl_crossing v69 x70, MapAs b11 ek_S_impl_Bank Value.bool x71] w) N ⟨v9, [(⟨(⟨r6, false⟩ : S_impl_Bank), (-1), 0, 0⟩ : S_impl_crossing)], mSet ([] : (List (S_impl_Bank × Bool))) (⟨r6, false⟩ : S_impl_Bank) true, 0, Ho, rfl, hs⟩ ?_ ?_
    ·
     rintro _ _ ⟨v69, x70, x71, x72, h, _⟩
     exact rounds_zero h
    ·
     intro n_ ih1_
     rintro t w ⟨v69, x70, x71, x72, Ho, hf, hs⟩
     obtain ⟨O, rfl⟩ := hf.open
     show G _ _ _ _ [_, _, _, _, _, _, _, _, _, _, _, _, _, _, _, _, _, _, _, _, _, _, _, _, _, _, _, _, _, _, _, _, _, _, _, _, _, _, _, _, _, _, _, _, _, _, _, _, _, _, _, _, _, _, _, _, _, _, _, _, _, _, _, _, _] _
     obtain ⟨x23_, H, Hx1_⟩ := rounds_succ Ho
     have H : _impl_Ferry_search.b0 N a1 x70 x71 x72 = some x23_ := H
     unfold _impl_Ferry_search.b0 at H
     refine g_seq ?_
     refine g_seq ?_
     refine g_region ?_
     show G _ _ _ (.inRegion _ [0, 1, 2, 3] :: _) _ _
     refine g_op (v := Value.int .i64 x72) rfl rfl rfl ?_
     refine g_op (v := v69) rfl rfl rfl ?_
     refine s_len (hs.row 1 rfl) rfl rfl rfl rfl rfl ?_
     show G _ _ _ _ [_, _, _, _, _, _, _, _, _, _, _, _, _, _, _, _, _, _, _, _, _, _, _, _, _, _, _, _, _, _, _, _, _, _, _, _, _, _, _, _, _, _, _, _, _, _, _, _, _, _, _, _, _, _, _, _, _, _, _, _, _, _, _, _, _] _
     refine g_op_b (B := decide (x72 < (x70.length : Int))) rfl rfl rfl ?_ ?_
     ·
      intro hb
      rw [if_pos (b_dec_t hb)] at H
      show G _ _ _ _ [_, _, _, _, _, _, _, _, _, _, _, _, _, _, _, _, _, _, _, _, _, _, _, _, _, _, _, _, _, _, _, _, _, _, _, _, _, _, _, _, _, _, _, _, _, _, _, _, _, _, _, _, _, _, _, _, _, _, _, _, _, _, _, _, _] _
      refine g_ops_nil ?_
      refine g_cond_true rfl ?_
      refine g_skip ?_
      refine g_seq ?_
      refine g_block ?_
      refine g_seq ?_
      obtain ⟨gd12, H⟩ := ite_get H
      obtain ⟨ad13_, ad13_N, ad13_C, had13_⟩ := sl_at (hs.row 1 rfl) gd12.1 gd12.2
      obtain ⟨r73, Hr73, H⟩ := bind_get H
      refine g_name ?_
      intro T hT
      refine g_any (n := 9) rfl [0, 1, 2, 3, 4, 5, 6, 7, 8] [0, 1, 2, 3, 4, 5, 6, 7, 8] rfl rfl (Inv := fun D t w => ∃ v74 : Value, ∃ O : Nat → Value, t = [O 0, Value.pointer (some ⟨b4, 0, none⟩), O 2, O 3, v69, Value.map (some b11), Value.int .i64 x72, O 7, O 8, O 9, O 10, O 11, O 12, O 13, O 14, O 15, O 16, O 17, O 18, Value.int .i64 x72, v69, Value.int .i64 (x70.length : Int), Value.bool true, O 23, O 24, cnd (D 0) (Value.agg (([Value.int .i8 a1.f_Things, Value.int .i8 a1.f_Boat, v2] : List Value)).toArray) (O 25), cnd (D 1) v69 (O 26), cnd (D 2) (Value.int .i64 x72) (O 27), cnd (D 3) (Value.pointer (some (ad13_.add (x72.toNat * 5)))) (O 28), cnd (D 4) (Value.pointer (some ((ad13_.add (x72.toNat * 5)).add 0))) (O 29), cnd (D 5) (Value.agg (enc_S_impl_Bank ((rdL x70 x72 z_S_impl_crossing).f_bank)).toArray) (O 30), cnd (D 6) v74 (O 31), cnd (D 7) (Value.int .i64 (r73.length : Int)) (O 32), cnd (D 8) (Value.int .i64 0) (O 33), O 34, O 35, O 36, O 37, O 38, O 39, O 40, O 41, O 42, O 43, O 44, O 45, O 46, O 47, O 48, O 49, O 50, O 51, O 52, O 53, O 54, O 55, O 56, O 57, O 58, O 59, O 60, O 61, O 62, O 63, O 64] ∧ St w0 [Asc (D 6) (Row 27 (K.int .u16) v74 r73), Cells b4 (([Value.int .i8 a1.f_Things, Value.int .i8 a1.f_Boat, v2] : List Value)) 32, Row 86 k_S_impl_crossing v69 x70, MapAs b11 ek_S_impl_Bank Value.bool x71] w) ?_ ⟨⟨⟨⟨⟨⟨⟨⟨⟨trivial, ?_⟩, ?_⟩, ?_⟩, ?_⟩, ?_⟩, ?_⟩, ?_⟩, ?_⟩, ?_⟩ ?_
      ·
       intro w hh hbw
       have hs := hs.samew hh hbw
       have hs := hs.emp
       exact ⟨undef, fun i => T.getD i undef, (by subst hT; rfl), hs⟩
      ·
       intro D t w hD hp hcl hI rest hk
       obtain ⟨v74, O, ht, hs⟩ := hI
       have q6_ : D 6 = false := not_yet (hcl.get 6 (by decide)) 0 0 rfl hD
       have q7_ : D 7 = false := not_yet (hcl.get 7 (by decide)) 0 6 rfl q6_
       have u0_ : upd D 0 0 = true := rfl; have u1_ : upd D 0 1 = D 1 := rfl; have u2_ : upd D 0 2 = D 2 := rfl; have u3_ : upd D 0 3 = D 3 := rfl; have u4_ : upd D 0 4 = D 4 := rfl; have u5_ : upd D 0 5 = D 5 := rfl; have u6_ : upd D 0 6 = D 6 := rfl; have u7_ : upd D 0 7 = D 7 := rfl; have u8_ : upd D 0 8 = D 8 := rfl
       simp only [hD, q6_, q7_, cnd_t, cnd_f, Asc_t, Asc_f] at ht hs
       subst ht
       refine s_loadA rfl rfl (es := (([Value.int .i8 a1.f_Things, Value.int .i8 a1.f_Boat, v2] : List Value))) rfl rfl (fun _ => rfl) (n := 3) (fun _ => rfl) rfl (cells_all (hs.cells 1 rfl)) ?_
       show G _ _ _ _ [_, _, _, _, _, _, _, _, _, _, _, _, _, _, _, _, _, _, _, _, _, _, _, _, _, _, _, _, _, _, _, _, _, _, _, _, _, _, _, _, _, _, _, _, _, _, _, _, _, _, _, _, _, _, _, _, _, _, _, _, _, _, _, _, _] _
       exact hk _ _ ⟨v74, O, (by simp only [u0_, u1_, u2_, u3_, u4_, u5_, u6_, u7_, u8_, q6_, q7_, cnd_t, cnd_f, Asc_t, Asc_f]), hs.cast (by first | rfl | simp only [List.take, List.drop, List.cons_append, List.nil_append, List.set_cons_zero, List.set_cons_succ, List.eraseIdx, u0_, u1_, u2_, u3_, u4_, u5_, u6_, u7_, u8_, q6_, q7_, cnd_t, cnd_f, Asc_t, Asc_f])⟩
      ·
       intro D t w hD hp hcl hI rest hk
       obtain ⟨v74, O, ht, hs⟩ := hI
       have q3_ : D 3 = false := not_yet (hcl.get 3 (by decide)) 0 1 rfl hD
       have q4_ : D 4 = false := not_yet (hcl.get 4 (by decide)) 0 3 rfl q3_
       have q5_ : D 5 = false := not_yet (hcl.get 5 (by decide)) 0 4 rfl q4_
       have q6_ : D 6 = false := not_yet (hcl.get 6 (by decide)) 1 5 rfl q5_
       have q7_ : D 7 = false := not_yet (hcl.get 7 (by decide)) 0 6 rfl q6_
       have u0_ : upd D 1 0 = D 0 := rfl; have u1_ : upd D 1 1 = true := rfl; have u2_ : upd D 1 2 = D 2 := rfl; have u3_ : upd D 1 3 = D 3 := rfl; have u4_ : upd D 1 4 = D 4 := rfl; have u5_ : upd D 1 5 = D 5 := rfl; have u6_ : upd D 1 6 = D 6 := rfl; have u7_ : upd D 1 7 = D 7 := rfl; have u8_ : upd D 1 8 = D 8 := rfl
       simp only [hD, q3_, q4_, q5_, q6_, q7_, cnd_t, cnd_f, Asc_t, Asc_f] at ht hs
       subst ht
       refine g_op (v := v69) rfl rfl rfl ?_
       show G _ _ _ _ [_, _, _, _, _, _, _, _, _, _, _, _, _, _, _, _, _, _, _, _, _, _, _, _, _, _, _, _, _, _, _, _, _, _, _, _, _, _, _, _, _, _, _, _, _, _, _, _, _, _, _, _, _, _, _, _, _, _, _, _, _, _, _, _, _] _
       exact hk _ _ ⟨v74, O, (by simp only [u0_, u1_, u2_, u3_, u4_, u5_, u6_, u7_, u8_, q3_, q4_, q5_, q6_, q7_, cnd_t, cnd_f, Asc_t, Asc_f]), hs.cast (by first | rfl | simp only [List.take, List.drop, List.cons_append, List.nil_append, List.set_cons_zero, List.set_cons_succ, List.eraseIdx, u0_, u1_, u2_, u3_, u4_, u5_, u6_, u7_, u8_, q3_, q4_, q5_, q6_, q7_, cnd_t, cnd_f, Asc_t, Asc_f])⟩
      ·
       intro D t w hD hp hcl hI rest hk
       obtain ⟨v74, O, ht, hs⟩ := hI
       have q3_ : D 3 = false := not_yet (hcl.get 3 (by decide)) 1 2 rfl hD
       have q4_ : D 4 = false := not_yet (hcl.get 4 (by decide)) 0 3 rfl q3_
       have q5_ : D 5 = false := not_yet (hcl.get 5 (by decide)) 0 4 rfl q4_
       have q6_ : D 6 = false := not_yet (hcl.get 6 (by decide)) 1 5 rfl q5_
       have q7_ : D 7 = false := not_yet (hcl.get 7 (by decide)) 0 6 rfl q6_
       have u0_ : upd D 2 0 = D 0 := rfl; have u1_ : upd D 2 1 = D 1 := rfl; have u2_ : upd D 2 2 = true := rfl; have u3_ : upd D 2 3 = D 3 := rfl; have u4_ : upd D 2 4 = D 4 := rfl; have u5_ : upd D 2 5 = D 5 := rfl; have u6_ : upd D 2 6 = D 6 := rfl; have u7_ : upd D 2 7 = D 7 := rfl; have u8_ : upd D 2 8 = D 8 := rfl
       simp only [hD, q3_, q4_, q5_, q6_, q7_, cnd_t, cnd_f, Asc_t, Asc_f] at ht hs
       subst ht
       refine g_op (v := Value.int .i64 x72) rfl rfl rfl ?_
       show G _ _ _ _ [_, _, _, _, _, _, _, _, _, _, _, _, _, _, _, _, _, _, _, _, _, _, _, _, _, _, _, _, _, _, _, _, _, _, _, _, _, _, _, _, _, _, _, _, _, _, _, _, _, _, _, _, _, _, _, _, _, _, _, _, _, _, _, _, _] _
       exact hk _ _ ⟨v74, O, (by simp only [u0_, u1_, u2_, u3_, u4_, u5_, u6_, u7_, u8_, q3_, q4_, q5_, q6_, q7_, cnd_t, cnd_f, Asc_t, Asc_f]), hs.cast (by first | rfl | simp only [List.take, List.drop, List.cons_append, List.nil_append, List.set_cons_zero, List.set_cons_succ, List.eraseIdx, u0_, u1_, u2_, u3_, u4_, u5_, u6_, u7_, u8_, q3_, q4_, q5_, q6_, q7_, cnd_t, cnd_f, Asc_t, Asc_f])⟩
      ·
       intro D t w hD hp hcl hI rest hk
       obtain ⟨v74, O, ht, hs⟩ := hI
       obtain ⟨p1_, p2_, _⟩ := hp
       have q4_ : D 4 = false := not_yet (hcl.get 4 (by decide)) 0 3 rfl hD
       have q5_ : D 5 = false := not_yet (hcl.get 5 (by decide)) 0 4 rfl q4_
       have q6_ : D 6 = false := not_yet (hcl.get 6 (by decide)) 1 5 rfl q5_
       have q7_ : D 7 = false := not_yet (hcl.get 7 (by decide)) 0 6 rfl q6_
       have u0_ : upd D 3 0 = D 0 := rfl; have u1_ : upd D 3 1 = D 1 := rfl; have u2_ : upd D 3 2 = D 2 := rfl; have u3_ : upd D 3 3 = true := rfl; have u4_ : upd D 3 4 = D 4 := rfl; have u5_ : upd D 3 5 = D 5 := rfl; have u6_ : upd D 3 6 = D 6 := rfl; have u7_ : upd D 3 7 = D 7 := rfl; have u8_ : upd D 3 8 = D 8 := rfl
       simp only [hD, p1_, p2_, q4_, q5_, q6_, q7_, cnd_t, cnd_f, Asc_t, Asc_f] at ht hs
       subst ht
       refine s_idxD (κ := k_S_impl_crossing) (m := 5) rfl (hs.row 2 rfl) rfl (fun _ => rfl) gd12.1 gd12.2 had13_ rfl rfl rfl rfl rfl ?_
       show G _ _ _ _ [_, _, _, _, _, _, _, _, _, _, _, _, _, _, _, _, _, _, _, _, _, _, _, _, _, _, _, _, _, _, _, _, _, _, _, _, _, _, _, _, _, _, _, _, _, _, _, _, _, _, _, _, _, _, _, _, _, _, _, _, _, _, _, _, _] _
       exact hk _ _ ⟨v74, O, (by simp only [u0_, u1_, u2_, u3_, u4_, u5_, u6_, u7_, u8_, p1_, p2_, q4_, q5_, q6_, q7_, cnd_t, cnd_f, Asc_t, Asc_f]), hs.cast (by first | rfl | simp only [List.take, List.drop, List.cons_append, List.nil_append, List.set_cons_zero, List.set_cons_succ, List.eraseIdx, u0_, u1_, u2_, u3_, u4_, u5_, u6_, u7_, u8_, p1_, p2_, q4_, q5_, q6_, q7_, cnd_t, cnd_f, Asc_t, Asc_f])⟩
      ·
       intro D t w hD hp hcl hI rest hk
       obtain ⟨v74, O, ht, hs⟩ := hI
       obtain ⟨p3_, _⟩ := hp
       obtain ⟨p1_, p2_, _⟩ := (hcl.get 3 (by decide)) p3_
       have q5_ : D 5 = false := not_yet (hcl.get 5 (by decide)) 0 4 rfl hD
       have q6_ : D 6 = false := not_yet (hcl.get 6 (by decide)) 1 5 rfl q5_
       have q7_ : D 7 = false := not_yet (hcl.get 7 (by decide)) 0 6 rfl q6_
       have u0_ : upd D 4 0 = D 0 := rfl; have u1_ : upd D 4 1 = D 1 := rfl; have u2_ : upd D 4 2 = D 2 := rfl; have u3_ : upd D 4 3 = D 3 := rfl; have u4_ : upd D 4 4 = true := rfl; have u5_ : upd D 4 5 = D 5 := rfl; have u6_ : upd D 4 6 = D 6 := rfl; have u7_ : upd D 4 7 = D 7 := rfl; have u8_ : upd D 4 8 = D 8 := rfl
       simp only [hD, p1_, p2_, p3_, q5_, q6_, q7_, cnd_t, cnd_f, Asc_t, Asc_f] at ht hs
       subst ht
       refine g_op (v := Value.pointer (some ((ad13_.add (x72.toNat * 5)).add 0))) rfl rfl (x_fieldAt rfl rfl rfl rfl rfl (m := 2) (fun _ => rfl) (by decide)) ?_
       show G _ _ _ _ [_, _, _, _, _, _, _, _, _, _, _, _, _, _, _, _, _, _, _, _, _, _, _, _, _, _, _, _, _, _, _, _, _, _, _, _, _, _, _, _, _, _, _, _, _, _, _, _, _, _, _, _, _, _, _, _, _, _, _, _, _, _, _, _, _] _
       exact hk _ _ ⟨v74, O, (by simp only [u0_, u1_, u2_, u3_, u4_, u5_, u6_, u7_, u8_, p1_, p2_, p3_, q5_, q6_, q7_, cnd_t, cnd_f, Asc_t, Asc_f]), hs.cast (by first | rfl | simp only [List.take, List.drop, List.cons_append, List.nil_append, List.set_cons_zero, List.set_cons_succ, List.eraseIdx, u0_, u1_, u2_, u3_, u4_, u5_, u6_, u7_, u8_, p1_, p2_, p3_, q5_, q6_, q7_, cnd_t, cnd_f, Asc_t, Asc_f])⟩
      ·
       intro D t w hD hp hcl hI rest hk
       obtain ⟨v74, O, ht, hs⟩ := hI
       obtain ⟨p4_, _⟩ := hp
       obtain ⟨p3_, _⟩ := (hcl.get 4 (by decide)) p4_
       obtain ⟨p1_, p2_, _⟩ := (hcl.get 3 (by decide)) p3_
       have q6_ : D 6 = false := not_yet (hcl.get 6 (by decide)) 1 5 rfl hD
       have q7_ : D 7 = false := not_yet (hcl.get 7 (by decide)) 0 6 rfl q6_
       have u0_ : upd D 5 0 = D 0 := rfl; have u1_ : upd D 5 1 = D 1 := rfl; have u2_ : upd D 5 2 = D 2 := rfl; have u3_ : upd D 5 3 = D 3 := rfl; have u4_ : upd D 5 4 = D 4 := rfl; have u5_ : upd D 5 5 = true := rfl; have u6_ : upd D 5 6 = D 6 := rfl; have u7_ : upd D 5 7 = D 7 := rfl; have u8_ : upd D 5 8 = D 8 := rfl
       simp only [hD, p1_, p2_, p3_, p4_, q6_, q7_, cnd_t, cnd_f, Asc_t, Asc_f] at ht hs
       subst ht
       refine s_loadA rfl rfl (es := (enc_S_impl_Bank ((rdL x70 x72 z_S_impl_crossing).f_bank))) rfl rfl (fun _ => rfl) (n := 2) (fun _ => rfl) (fk_S_impl_Bank.len _) (CellsAt.sub (cellsAt_of fk_S_impl_crossing z_S_impl_crossing (hs.row 2 rfl) had13_ gd12.1 gd12.2) 0 2 (by first | rfl | (simp [List.drop_append, List.take_append, encA_len]))) ?_
       show G _ _ _ _ [_, _, _, _, _, _, _, _, _, _, _, _, _, _, _, _, _, _, _, _, _, _, _, _, _, _, _, _, _, _, _, _, _, _, _, _, _, _, _, _, _, _, _, _, _, _, _, _, _, _, _, _, _, _, _, _, _, _, _, _, _, _, _, _, _] _
       exact hk _ _ ⟨v74, O, (by simp only [u0_, u1_, u2_, u3_, u4_, u5_, u6_, u7_, u8_, p1_, p2_, p3_, p4_, q6_, q7_, cnd_t, cnd_f, Asc_t, Asc_f]), hs.cast (by first | rfl | simp only [List.take, List.drop, List.cons_append, List.nil_append, List.set_cons_zero, List.set_cons_succ, List.eraseIdx, u0_, u1_, u2_, u3_, u4_, u5_, u6_, u7_, u8_, p1_, p2_, p3_, p4_, q6_, q7_, cnd_t, cnd_f, Asc_t, Asc_f])⟩
      ·
       intro D t w hD hp hcl hI rest hk
       obtain ⟨v74, O, ht, hs⟩ := hI
       obtain ⟨p0_, p5_, _⟩ := hp
       obtain ⟨p4_, _⟩ := (hcl.get 5 (by decide)) p5_
       obtain ⟨p3_, _⟩ := (hcl.get 4 (by decide)) p4_
       obtain ⟨p1_, p2_, _⟩ := (hcl.get 3 (by decide)) p3_
       have q7_ : D 7 = false := not_yet (hcl.get 7 (by decide)) 0 6 rfl hD
       have u0_ : upd D 6 0 = D 0 := rfl; have u1_ : upd D 6 1 = D 1 := rfl; have u2_ : upd D 6 2 = D 2 := rfl; have u3_ : upd D 6 3 = D 3 := rfl; have u4_ : upd D 6 4 = D 4 := rfl; have u5_ : upd D 6 5 = D 5 := rfl; have u6_ : upd D 6 6 = true := rfl; have u7_ : upd D 6 7 = D 7 := rfl; have u8_ : upd D 6 8 = D 8 := rfl
       simp only [hD, p0_, p1_, p2_, p3_, p4_, p5_, q7_, cnd_t, cnd_f, Asc_t, Asc_f] at ht hs
       subst ht
       refine s_call (args := [Value.agg (([Value.int .i8 a1.f_Things, Value.int .i8 a1.f_Boat, v2] : List Value)).toArray, Value.agg (enc_S_impl_Bank ((rdL x70 x72 z_S_impl_crossing).f_bank)).toArray]) rfl rfl (x_call rfl (callFunc_enter Try.func52 rfl rfl) rfl) (_impl_Ferry_loads.calls (a1 := (⟨a1.f_Things, a1.f_Boat, a1.f_Rules⟩ : S_laws_Ferry)) (a4 := (rdL x70 x72 z_S_impl_crossing).f_bank) (hs.rd hr3) Hr73) ?_
       intro v74 w hs2
       have hs : St _ [_, _, _, _, _] _ := hs.call hs2
       show G _ _ _ _ [_, _, _, _, _, _, _, _, _, _, _, _, _, _, _, _, _, _, _, _, _, _, _, _, _, _, _, _, _, _, _, _, _, _, _, _, _, _, _, _, _, _, _, _, _, _, _, _, _, _, _, _, _, _, _, _, _, _, _, _, _, _, _, _, _] _
       have hs := hs.fill 0 rfl
       exact hk _ _ ⟨v74, O, (by simp only [u0_, u1_, u2_, u3_, u4_, u5_, u6_, u7_, u8_, p0_, p1_, p2_, p3_, p4_, p5_, q7_, cnd_t, cnd_f, Asc_t, Asc_f]), hs.cast (by first | rfl | simp only [List.take, List.drop, List.cons_append, List.nil_append, List.set_cons_zero, List.set_cons_succ, List.eraseIdx, u0_, u1_, u2_, u3_, u4_, u5_, u6_, u7_, u8_, p0_, p1_, p2_, p3_, p4_, p5_, q7_, cnd_t, cnd_f, Asc_t, Asc_f])⟩
      ·
       intro D t w hD hp hcl hI rest hk
       obtain ⟨v74, O, ht, hs⟩ := hI
       obtain ⟨p6_, _⟩ := hp
       obtain ⟨p0_, p5_, _⟩ := (hcl.get 6 (by decide)) p6_
       obtain ⟨p4_, _⟩ := (hcl.get 5 (by decide)) p5_
       obtain ⟨p3_, _⟩ := (hcl.get 4 (by decide)) p4_
       obtain ⟨p1_, p2_, _⟩ := (hcl.get 3 (by decide)) p3_
       have u0_ : upd D 7 0 = D 0 := rfl; have u1_ : upd D 7 1 = D 1 := rfl; have u2_ : upd D 7 2 = D 2 := rfl; have u3_ : upd D 7 3 = D 3 := rfl; have u4_ : upd D 7 4 = D 4 := rfl; have u5_ : upd D 7 5 = D 5 := rfl; have u6_ : upd D 7 6 = D 6 := rfl; have u7_ : upd D 7 7 = true := rfl; have u8_ : upd D 7 8 = D 8 := rfl
       simp only [hD, p0_, p1_, p2_, p3_, p4_, p5_, p6_, cnd_t, cnd_f, Asc_t, Asc_f] at ht hs
       subst ht
       refine s_len (hs.row 0 rfl) rfl rfl rfl rfl rfl ?_
       show G _ _ _ _ [_, _, _, _, _, _, _, _, _, _, _, _, _, _, _, _, _, _, _, _, _, _, _, _, _, _, _, _, _, _, _, _, _, _, _, _, _, _, _, _, _, _, _, _, _, _, _, _, _, _, _, _, _, _, _, _, _, _, _, _, _, _, _, _, _] _
       exact hk _ _ ⟨v74, O, (by simp only [u0_, u1_, u2_, u3_, u4_, u5_, u6_, u7_, u8_, p0_, p1_, p2_, p3_, p4_, p5_, p6_, cnd_t, cnd_f, Asc_t, Asc_f]), hs.cast (by first | rfl | simp only [List.take, List.drop, List.cons_append, List.nil_append, List.set_cons_zero, List.set_cons_succ, List.eraseIdx, u0_, u1_, u2_, u3_, u4_, u5_, u6_, u7_, u8_, p0_, p1_, p2_, p3_, p4_, p5_, p6_, cnd_t, cnd_f, Asc_t, Asc_f])⟩
      ·
       intro D t w hD hp hcl hI rest hk
       obtain ⟨v74, O, ht, hs⟩ := hI
       have u0_ : upd D 8 0 = D 0 := rfl; have u1_ : upd D 8 1 = D 1 := rfl; have u2_ : upd D 8 2 = D 2 := rfl; have u3_ : upd D 8 3 = D 3 := rfl; have u4_ : upd D 8 4 = D 4 := rfl; have u5_ : upd D 8 5 = D 5 := rfl; have u6_ : upd D 8 6 = D 6 := rfl; have u7_ : upd D 8 7 = D 7 := rfl; have u8_ : upd D 8 8 = true := rfl
       simp only [hD, cnd_t, cnd_f, Asc_t, Asc_f] at ht hs
       subst ht
       refine g_op (v := Value.int .i64 0) rfl rfl rfl ?_
       show G _ _ _ _ [_, _, _, _, _, _, _, _, _, _, _, _, _, _, _, _, _, _, _, _, _, _, _, _, _, _, _, _, _, _, _, _, _, _, _, _, _, _, _, _, _, _, _, _, _, _, _, _, _, _, _, _, _, _, _, _, _, _, _, _, _, _, _, _, _] _
       exact hk _ _ ⟨v74, O, (by simp only [u0_, u1_, u2_, u3_, u4_, u5_, u6_, u7_, u8_, cnd_t, cnd_f, Asc_t, Asc_f]), hs.cast (by first | rfl | simp only [List.take, List.drop, List.cons_append, List.nil_append, List.set_cons_zero, List.set_cons_succ, List.eraseIdx, u0_, u1_, u2_, u3_, u4_, u5_, u6_, u7_, u8_, cnd_t, cnd_f, Asc_t, Asc_f])⟩
      ·
       intro D t w hall hI
       obtain ⟨v74, O, ht, hs⟩ := hI
       have p0_ : D 0 = true := hall 0 (by decide)
       have p1_ : D 1 = true := hall 1 (by decide)
       have p2_ : D 2 = true := hall 2 (by decide)
       have p3_ : D 3 = true := hall 3 (by decide)
       have p4_ : D 4 = true := hall 4 (by decide)
       have p5_ : D 5 = true := hall 5 (by decide)
       have p6_ : D 6 = true := hall 6 (by decide)
       have p7_ : D 7 = true := hall 7 (by decide)
       have p8_ : D 8 = true := hall 8 (by decide)
       simp only [p0_, p1_, p2_, p3_, p4_, p5_, p6_, p7_, p8_, cnd_t, cnd_f, Asc_t, Asc_f] at ht hs
       subst ht
       obtain ⟨o2_, Ho, Hr2_⟩ := bind_get H
       refine g_block_join (J := fun t w => ∃ v118 : Value, ∃ x119 : (List S_impl_crossing), ∃ x121 : (List (S_impl_Bank × Bool)), _impl_Ferry_search.a2 N x72 x119 x121 = some x23_ ∧ Fr t (fun O => ([O 0, Value.pointer (some ⟨b4, 0, none⟩), O 2, O 3, v118, Value.map (some b11), Value.int .i64 x72, O 7, O 8, O 9, O 10, O 11, O 12, O 13, O 14, O 15, O 16, O 17, O 18, O 19, O 20, O 21, O 22, O 23, O 24, O 25, O 26, O 27, O 28, O 29, O 30, O 31, O 32, O 33, O 34, O 35, O 36, O 37, O 38, O 39, O 40, O 41, O 42, O 43, O 44, O 45, O 46, O 47, O 48, O 49, O 50, O 51, O 52, O 53, O 54, O 55, O 56, O 57, O 58, O 59, O 60, O 61, O 62, O 63, O 64] : List Value)) ∧ St w0 [Cells b4 (([Value.int .i8 a1.f_Things, Value.int .i8 a1.f_Boat, v2] : List Value)) 32, Row 86 k_S_impl_crossing v118 x119, MapAs b11 ek_S_impl_Bank Value.bool x121] w) ?_ ?_
       ·
        rintro t w ⟨v118, x119, x121, H, hf, hs⟩
        obtain ⟨O, rfl⟩ := hf.open
        show G _ _ _ _ [_, _, _, _, _, _, _, _, _, _, _, _, _, _, _, _, _, _, _, _, _, _, _, _, _, _, _, _, _, _, _, _, _, _, _, _, _, _, _, _, _, _, _, _, _, _, _, _, _, _, _, _, _, _, _, _, _, _, _, _, _, _, _, _, _] _
        unfold _impl_Ferry_search.a2 at H
        refine g_inBlock ?_
        refine g_region ?_
        show G _ _ _ (.inRegion _ [0, 1, 2] :: _) _ _
        refine g_op (v := Value.int .i64 x72) rfl rfl rfl ?_
        refine g_op (v := Value.int .i64 (i64w (x72 + 1))) rfl rfl rfl ?_
        show G _ _ _ _ [_, _, _, _, _, _, _, _, _, _, _, _, _, _, _, _, _, _, _, _, _, _, _, _, _, _, _, _, _, _, _, _, _, _, _, _, _, _, _, _, _, _, _, _, _, _, _, _, _, _, _, _, _, _, _, _, _, _, _, _, _, _, _, _, _] _
        refine g_op (v := Value.int .i64 (i64w (x72 + 1))) rfl rfl rfl ?_
        show G _ _ _ _ [_, _, _, _, _, _, _, _, _, _, _, _, _, _, _, _, _, _, _, _, _, _, _, _, _, _, _, _, _, _, _, _, _, _, _, _, _, _, _, _, _, _, _, _, _, _, _, _, _, _, _, _, _, _, _, _, _, _, _, _, _, _, _, _, _] _
        refine g_ops_nil ?_
        obtain rfl := Option.some.inj H
        have hs := hs.pull 2 rfl
        have hs := hs.pull 2 rfl
        have hs := hs.pull 2 rfl
        have hs : St _ [_, _, _] _ := St.take (Γ' := []) hs
        exact ih1_ _ _ ⟨v118, x119, x121, i64w (x72 + 1), Hx1_, rfl, hs⟩
       ·
        intro ha2_
        have hs := hs.pull 0 rfl
        have hs := hs.pull 3 rfl
        have hs := hs.pull 3 rfl
        have hs := hs.pull 3 rfl
        have hs : St _ [_, _, _, _] _ := St.take (Γ' := []) hs
        refine g_loop_fuel (I := fun n_ t w => ∃ v98 : Value, ∃ x99 : (List S_impl_crossing), ∃ x100 : (List (S_impl_Bank × Bool)), ∃ x101 : Int, rounds (fun s => _impl_Ferry_search.b2 N r73 x72 s.1 s.2.1 s.2.2) n_ (x99, x100, x101) = some o2_ ∧ Fr t (fun O => ([O 0, Value.pointer (some ⟨b4, 0, none⟩), O 2, O 3, v98, Value.map (some b11), Value.int .i64 x72, O 7, O 8, O 9, O 10, O 11, O 12, O 13, O 14, O 15, O 16, O 17, O 18, O 19, O 20, O 21, O 22, O 23, O 24, O 25, O 26, O 27, O 28, O 29, O 30, v74, Value.int .i64 (r73.length : Int), Value.int .i64 x101, O 34, O 35, O 36, O 37, O 38, O 39, O 40, O 41, O 42, O 43, O 44, O 45, O 46, O 47, O 48, O 49, O 50, O 51, O 52, O 53, O 54, O 55, O 56, O 57, O 58, O 59, O 60, O 61, O 62, O 63, O 64] : List Value)) ∧ St w0 [Cells b4 (([Value.int .i8 a1.f_Things, Value.int .i8 a1.f_Boat, v2] : List Value)) 32, Row 86 k_S_impl_crossing v98 x99, MapAs b11 ek_S_impl_Bank Value.bool x100, Row 27 (K.int .u16) v74 r73] w) N ⟨v69, x70, x71, 0, Ho, rfl, hs⟩ ?_ ?_
        ·
         rintro _ _ ⟨v98, x99, x100, x101, h, _⟩
         exact rounds_zero h
        ·
         intro n_ ih2_
         rintro t w ⟨v98, x99, x100, x101, Ho, hf, hs⟩
         obtain ⟨O, rfl⟩ := hf.open
         show G _ _ _ _ [_, _, _, _, _, _, _, _, _, _, _, _, _, _, _, _, _, _, _, _, _, _, _, _, _, _, _, _, _, _, _, _, _, _, _, _, _, _, _, _, _, _, _, _, _, _, _, _, _, _, _, _, _, _, _, _, _, _, _, _, _, _, _, _, _] _
         obtain ⟨x22_, H, Hx2_⟩ := rounds_succ Ho
         have H : _impl_Ferry_search.b2 N r73 x72 x99 x100 x101 = some x22_ := H
         unfold _impl_Ferry_search.b2 at H
         refine g_seq ?_
         refine g_region ?_
         show G _ _ _ (.inRegion _ [0] :: _) _ _
         refine g_op_b (B := decide (x101 < (r73.length : Int))) rfl rfl rfl ?_ ?_
         ·
          intro hb
          rw [if_pos (b_dec_t hb)] at H
          show G _ _ _ _ [_, _, _, _, _, _, _, _, _, _, _, _, _, _, _, _, _, _, _, _, _, _, _, _, _, _, _, _, _, _, _, _, _, _, _, _, _, _, _, _, _, _, _, _, _, _, _, _, _, _, _, _, _, _, _, _, _, _, _, _, _, _, _, _, _] _
          refine g_ops_nil ?_
          refine g_seq ?_
          refine g_cond_true rfl ?_
          refine g_skip ?_
          refine g_seq ?_
          refine g_block_join (J := (fun t w => ∃ v113 : Value, ∃ x114 : (List S_impl_crossing), ∃ x116 : (List (S_impl_Bank × Bool)), _impl_Ferry_search.j4 N x101 x114 x116 = some x22_ ∧ Fr t (fun O => ([O 0, Value.pointer (some ⟨b4, 0, none⟩), O 2, O 3, v113, Value.map (some b11), Value.int .i64 x72, O 7, O 8, O 9, O 10, O 11, O 12, O 13, O 14, O 15, O 16, O 17, O 18, O 19, O 20, O 21, O 22, O 23, O 24, O 25, O 26, O 27, O 28, O 29, O 30, v74, Value.int .i64 (r73.length : Int), Value.int .i64 x101, O 34, O 35, O 36, O 37, O 38, O 39, O 40, O 41, O 42, O 43, O 44, O 45, O 46, O 47, O 48, O 49, O 50, O 51, O 52, O 53, O 54, O 55, O 56, O 57, O 58, O 59, O 60, O 61, O 62, O 63, O 64] : List Value)) ∧ St w0 [Cells b4 (([Value.int .i8 a1.f_Things, Value.int .i8 a1.f_Boat, v2] : List Value)) 32, Row 86 k_S_impl_crossing v113 x114, MapAs b11 ek_S_impl_Bank Value.bool x116, Row 27 (K.int .u16) v74 r73] w)) ?_ ?_
          ·
           rintro t w ⟨v113, x114, x116, H, hf, hs⟩
           obtain ⟨O, rfl⟩ := hf.open
           show G _ _ _ _ [_, _, _, _, _, _, _, _, _, _, _, _, _, _, _, _, _, _, _, _, _, _, _, _, _, _, _, _, _, _, _, _, _, _, _, _, _, _, _, _, _, _, _, _, _, _, _, _, _, _, _, _, _, _, _, _, _, _, _, _, _, _, _, _, _] _
           unfold _impl_Ferry_search.j4 at H
           refine g_region ?_
           show G _ _ _ (.inRegion _ [0, 1] :: _) _ _
           refine g_op (v := Value.int .i64 (i64w (x101 + 1))) rfl rfl rfl ?_
           show G _ _ _ _ [_, _, _, _, _, _, _, _, _, _, _, _, _, _, _, _, _, _, _, _, _, _, _, _, _, _, _, _, _, _, _, _, _, _, _, _, _, _, _, _, _, _, _, _, _, _, _, _, _, _, _, _, _, _, _, _, _, _, _, _, _, _, _, _, _] _
           refine g_op (v := Value.int .i64 (i64w (x101 + 1))) rfl rfl rfl ?_
           refine g_ops_nil ?_
           obtain rfl := Option.some.inj H
           have hs := hs.pull 3 rfl
           have hs := hs.pull 3 rfl
           have hs := hs.pull 3 rfl
           have hs := hs.pull 3 rfl
           have hs : St _ [_, _, _, _] _ := St.take (Γ' := []) hs
           exact ih2_ _ _ ⟨v113, x114, x116, i64w (x101 + 1), Hx2_, rfl, hs⟩
          ·
           intro ha
           refine g_seq ?_
           refine g_region ?_
           show G _ _ _ (.inRegion _ [0, 1, 2] :: _) _ _
           obtain ⟨g18, H⟩ := ite_get H
           refine s_idx (fkI .u16) 0 (hs.row 3 rfl) rfl (fun _ => rfl) g18.1 g18.2 rfl rfl rfl rfl rfl ?_
           intro p102 hp102 lp102 op102
           show G _ _ _ _ [_, _, _, _, _, _, _, _, _, _, _, _, _, _, _, _, _, _, _, _, _, _, _, _, _, _, _, _, _, _, _, _, _, _, _, _, _, _, _, _, _, _, _, _, _, _, _, _, _, _, _, _, _, _, _, _, _, _, _, _, _, _, _, _, _] _
           refine s_load1 rfl rfl (v := Value.int .u16 (rdL r73 x101 0)) rfl rfl (fun _ => rfl) hp102 ?_
           show G _ _ _ _ [_, _, _, _, _, _, _, _, _, _, _, _, _, _, _, _, _, _, _, _, _, _, _, _, _, _, _, _, _, _, _, _, _, _, _, _, _, _, _, _, _, _, _, _, _, _, _, _, _, _, _, _, _, _, _, _, _, _, _, _, _, _, _, _, _] _
           refine g_op (v := Value.int .u16 (rdL r73 x101 0)) rfl rfl rfl ?_
           show G _ _ _ _ [_, _, _, _, _, _, _, _, _, _, _, _, _, _, _, _, _, _, _, _, _, _, _, _, _, _, _, _, _, _, _, _, _, _, _, _, _, _, _, _, _, _, _, _, _, _, _, _, _, _, _, _, _, _, _, _, _, _, _, _, _, _, _, _, _] _
           refine g_ops_nil ?_
           refine g_seq ?_
           refine g_region ?_
           show G _ _ _ (.inRegion _ [0, 1, 2, 3, 4, 5, 6, 7, 8] :: _) _ _
           refine g_op (v := v98) rfl rfl rfl ?_
           refine g_op (v := Value.int .i64 x72) rfl rfl rfl ?_
           obtain ⟨g19, H⟩ := ite_get H
           refine s_idx fk_S_impl_crossing z_S_impl_crossing (hs.row 1 rfl) rfl (fun _ => rfl) g19.1 g19.2 rfl rfl rfl rfl rfl ?_
           intro p103 hp103 lp103 op103
           show G _ _ _ _ [_, _, _, _, _, _, _, _, _, _, _, _, _, _, _, _, _, _, _, _, _, _, _, _, _, _, _, _, _, _, _, _, _, _, _, _, _, _, _, _, _, _, _, _, _, _, _, _, _, _, _, _, _, _, _, _, _, _, _, _, _, _, _, _, _] _
           refine g_op (v := Value.pointer (some (p103.add 0))) rfl rfl (x_fieldAt rfl rfl rfl rfl rfl (m := 2) (fun _ => rfl) (by decide)) ?_
           refine s_loadA rfl rfl (es := (enc_S_impl_Bank ((rdL x99 x72 z_S_impl_crossing).f_bank))) rfl rfl (fun _ => rfl) (n := 2) (fun _ => rfl) (fk_S_impl_Bank.len _) (CellsAt.sub hp103 0 2 (by first | rfl | (simp [List.drop_append, List.take_append, encA_len]))) ?_
           show G _ _ _ _ [_, _, _, _, _, _, _, _, _, _, _, _, _, _, _, _, _, _, _, _, _, _, _, _, _, _, _, _, _, _, _, _, _, _, _, _, _, _, _, _, _, _, _, _, _, _, _, _, _, _, _, _, _, _, _, _, _, _, _, _, _, _, _, _, _] _
           refine g_op (v := Value.int .u16 (rdL r73 x101 0)) rfl rfl rfl ?_
           obtain ⟨r104, Hr104, H⟩ := bind_get H
           refine s_call (args := [Value.agg (enc_S_impl_Bank ((rdL x99 x72 z_S_impl_crossing).f_bank)).toArray, Value.int .u16 (rdL r73 x101 0)]) rfl rfl (x_call rfl (callFunc_enter Try.func48 rfl rfl) rfl) (impl_crossed.calls (a1 := (rdL x99 x72 z_S_impl_crossing).f_bank) (a2 := rdL r73 x101 0) Hr104) ?_
           rintro _ w ⟨rfl, hs2⟩
           have hs : St _ [_, _, _, _] _ := hs.call hs2
           show G _ _ _ _ [_, _, _, _, _, _, _, _, _, _, _, _, _, _, _, _, _, _, _, _, _, _, _, _, _, _, _, _, _, _, _, _, _, _, _, _, _, _, _, _, _, _, _, _, _, _, _, _, _, _, _, _, _, _, _, _, _, _, _, _, _, _, _, _, _] _
           refine s_alloc hs rfl rfl (z := (Value.agg #[Value.int .u16 0, Value.bool false])) (cs := (enc_S_impl_Bank z_S_impl_Bank)) rfl (fun _ => rfl) rfl ?_
           intro b105 w hs
           show G _ _ _ _ [_, _, _, _, _, _, _, _, _, _, _, _, _, _, _, _, _, _, _, _, _, _, _, _, _, _, _, _, _, _, _, _, _, _, _, _, _, _, _, _, _, _, _, _, _, _, _, _, _, _, _, _, _, _, _, _, _, _, _, _, _, _, _, _, _] _
           refine s_storeAll (n := 2) hs (fk_S_impl_Bank.len _) rfl rfl (vs := (enc_S_impl_Bank r104)) rfl rfl rfl (fun _ => rfl) (fk_S_impl_Bank.len _) (fk_S_impl_Bank.one _) ?_
           intro w hs
           refine g_ops_nil ?_
           refine g_seq ?_
           refine g_region ?_
           show G _ _ _ (.inRegion _ [0, 1, 2, 3] :: _) _ _
           refine g_op (v := Value.map (some b11)) rfl rfl rfl ?_
           refine s_loadA rfl rfl (es := (enc_S_impl_Bank r104)) rfl rfl (fun _ => rfl) (n := 2) (fun _ => rfl) (fk_S_impl_Bank.len _) (cells_all (hs.cells 0 rfl)) ?_
           show G _ _ _ _ [_, _, _, _, _, _, _, _, _, _, _, _, _, _, _, _, _, _, _, _, _, _, _, _, _, _, _, _, _, _, _, _, _, _, _, _, _, _, _, _, _, _, _, _, _, _, _, _, _, _, _, _, _, _, _, _, _, _, _, _, _, _, _, _, _] _
           refine g_op_b (B := mGet x100 r104 false) rfl rfl (x_lookup key_S_impl_Bank_29 (a := r104) (z := false) (hs.mp 3 rfl) rfl Try.underlying108 rfl rfl (fun _ => rfl)) ?_ ?_
           ·
            intro hb
            rw [if_pos (b_var_t hb)] at H
            show G _ _ _ _ [_, _, _, _, _, _, _, _, _, _, _, _, _, _, _, _, _, _, _, _, _, _, _, _, _, _, _, _, _, _, _, _, _, _, _, _, _, _, _, _, _, _, _, _, _, _, _, _, _, _, _, _, _, _, _, _, _, _, _, _, _, _, _, _, _] _
            refine g_op (v := Value.bool false) rfl rfl rfl ?_
            show G _ _ _ _ [_, _, _, _, _, _, _, _, _, _, _, _, _, _, _, _, _, _, _, _, _, _, _, _, _, _, _, _, _, _, _, _, _, _, _, _, _, _, _, _, _, _, _, _, _, _, _, _, _, _, _, _, _, _, _, _, _, _, _, _, _, _, _, _, _] _
            refine g_ops_nil ?_
            refine g_cond_false rfl ?_
            refine g_skip ?_
            refine g_inBlock ?_
            have hs := hs.pull 4 rfl
            have hs := hs.pull 4 rfl
            have hs := hs.pull 4 rfl
            have hs := hs.pull 4 rfl
            have hs : St _ [_, _, _, _] _ := St.take (Γ' := [_]) hs
            exact ha _ _ ⟨v98, x99, x100, H, rfl, hs⟩
           ·
            intro hb
            rw [if_neg (b_var_f hb)] at H
            show G _ _ _ _ [_, _, _, _, _, _, _, _, _, _, _, _, _, _, _, _, _, _, _, _, _, _, _, _, _, _, _, _, _, _, _, _, _, _, _, _, _, _, _, _, _, _, _, _, _, _, _, _, _, _, _, _, _, _, _, _, _, _, _, _, _, _, _, _, _] _
            refine g_op (v := Value.bool true) rfl rfl rfl ?_
            show G _ _ _ _ [_, _, _, _, _, _, _, _, _, _, _, _, _, _, _, _, _, _, _, _, _, _, _, _, _, _, _, _, _, _, _, _, _, _, _, _, _, _, _, _, _, _, _, _, _, _, _, _, _, _, _, _, _, _, _, _, _, _, _, _, _, _, _, _, _] _
            refine g_ops_nil ?_
            refine g_cond_true rfl ?_
            refine g_seq ?_
            refine g_region ?_
            show G _ _ _ (.inRegion _ [0, 1, 2] :: _) _ _
            refine g_op (v := Value.map (some b11)) rfl rfl rfl ?_
            refine s_loadA rfl rfl (es := (enc_S_impl_Bank r104)) rfl rfl (fun _ => rfl) (n := 2) (fun _ => rfl) (fk_S_impl_Bank.len _) (cells_all (hs.cells 0 rfl)) ?_
            show G _ _ _ _ [_, _, _, _, _, _, _, _, _, _, _, _, _, _, _, _, _, _, _, _, _, _, _, _, _, _, _, _, _, _, _, _, _, _, _, _, _, _, _, _, _, _, _, _, _, _, _, _, _, _, _, _, _, _, _, _, _, _, _, _, _, _, _, _, _] _
            have hs := hs.pull 3 rfl
            have hs : St _ [_, _, _, _, _] _ := hs
            refine s_mapSet key_S_impl_Bank_29 (a := r104) (v := true) hs rfl rfl (.inl rfl) Try.underlying108 rfl rfl rfl ?_
            intro w hs
            refine g_ops_nil ?_
            obtain ⟨gd20, H⟩ := ite_get H
            obtain ⟨ad21_, ad21_N, ad21_C, had21_⟩ := sl_at (hs.row 3 rfl) gd20.1 gd20.2
            obtain ⟨gq12_, H⟩ := ite_get H
            refine g_name ?_
            intro T hT
            refine g_any (n := 14) rfl [0, 1, 2, 3, 4, 5, 6, 7, 8, 9, 10, 11, 12, 13] [0, 1, 2, 3, 4, 5, 6, 7, 8, 9, 10, 11, 12, 13] rfl rfl (Inv := fun D t w => ∃ v107 : Value, ∃ v109 : Value, ∃ O : Nat → Value, t = [O 0, Value.pointer (some ⟨b4, 0, none⟩), O 2, O 3, cnd (D 13) v109 v98, Value.map (some b11), Value.int .i64 x72, O 7, Value.int .u16 (rdL r73 x101 0), Value.pointer (some ⟨b105, 0, none⟩), O 10, O 11, O 12, O 13, O 14, O 15, O 16, O 17, O 18, O 19, O 20, O 21, O 22, O 23, O 24, O 25, O 26, O 27, O 28, O 29, O 30, v74, Value.int .i64 (r73.length : Int), Value.int .i64 x101, Value.bool true, Value.pointer (some p102), Value.int .u16 (rdL r73 x101 0), v98, Value.int .i64 x72, Value.pointer (some p103), Value.pointer (some (p103.add 0)), Value.agg (enc_S_impl_Bank ((rdL x99 x72 z_S_impl_crossing).f_bank)).toArray, Value.int .u16 (rdL r73 x101 0), Value.agg (enc_S_impl_Bank r104).toArray, Value.map (some b11), Value.agg (enc_S_impl_Bank r104).toArray, Value.bool false, Value.bool true, Value.map (some b11), Value.agg (enc_S_impl_Bank r104).toArray, cnd (D 0) v98 (O 50), cnd (D 1) (Value.agg (enc_S_impl_Bank r104).toArray) (O 51), cnd (D 2) (Value.int .i64 x72) (O 52), cnd (D 3) (Value.int .u16 (rdL r73 x101 0)) (O 53), cnd (D 4) v98 (O 54), cnd (D 5) (Value.int .i64 x72) (O 55), cnd (D 6) (Value.pointer (some (ad21_.add (x72.toNat * 5)))) (O 56), cnd (D 7) (Value.pointer (some ((ad21_.add (x72.toNat * 5)).add 4))) (O 57), cnd (D 8) (Value.int .i64 ((rdL x99 x72 z_S_impl_crossing).f_many)) (O 58), cnd (D 9) (Value.int .i64 (i64w (((rdL x99 x72 z_S_impl_crossing).f_many) + 1))) (O 59), cnd (D 10) (Value.agg (enc_S_impl_crossing (⟨r104, x72, rdL r73 x101 0, i64w (((rdL x99 x72 z_S_impl_crossing).f_many) + 1)⟩ : S_impl_crossing)).toArray) (O 60), cnd (D 11) v107 (O 61), cnd (D 12) v109 (O 62), O 63, O 64] ∧ St w0 [Asc (D 11) (Row 86 k_S_impl_crossing v107 ([(⟨r104, x72, rdL r73 x101 0, i64w (((rdL x99 x72 z_S_impl_crossing).f_many) + 1)⟩ : S_impl_crossing)])), MapAs b11 ek_S_impl_Bank Value.bool (mSet x100 r104 true), Cells b105 (enc_S_impl_Bank r104) 29, Cells b4 (([Value.int .i8 a1.f_Things, Value.int .i8 a1.f_Boat, v2] : List Value)) 32, Row 86 k_S_impl_crossing (cnd (D 12) v109 v98) (cnd (D 12) (x99 ++ ([(⟨r104, x72, rdL r73 x101 0, i64w (((rdL x99 x72 z_S_impl_crossing).f_many) + 1)⟩ : S_impl_crossing)])) x99), Row 27 (K.int .u16) v74 r73] w) ?_ ⟨⟨⟨⟨⟨⟨⟨⟨⟨⟨⟨⟨⟨⟨trivial, ?_⟩, ?_⟩, ?_⟩, ?_⟩, ?_⟩, ?_⟩, ?_⟩, ?_⟩, ?_⟩, ?_⟩, ?_⟩, ?_⟩, ?_⟩, ?_⟩ ?_
            ·
             intro w hh hbw
             have hs := hs.samew hh hbw
             have hs := hs.emp
             exact ⟨undef, undef, fun i => T.getD i undef, (by subst hT; rfl), hs⟩
            ·
             intro D t w hD hp hcl hI rest hk
             obtain ⟨v107, v109, O, ht, hs⟩ := hI
             have q12_ : D 12 = false := not_yet (hcl.get 12 (by decide)) 0 0 rfl hD
             have q13_ : D 13 = false := not_yet (hcl.get 13 (by decide)) 0 12 rfl q12_
             have u0_ : upd D 0 0 = true := rfl; have u1_ : upd D 0 1 = D 1 := rfl; have u2_ : upd D 0 2 = D 2 := rfl; have u3_ : upd D 0 3 = D 3 := rfl; have u4_ : upd D 0 4 = D 4 := rfl; have u5_ : upd D 0 5 = D 5 := rfl; have u6_ : upd D 0 6 = D 6 := rfl; have u7_ : upd D 0 7 = D 7 := rfl; have u8_ : upd D 0 8 = D 8 := rfl; have u9_ : upd D 0 9 = D 9 := rfl; have u10_ : upd D 0 10 = D 10 := rfl; have u11_ : upd D 0 11 = D 11 := rfl; have u12_ : upd D 0 12 = D 12 := rfl; have u13_ : upd D 0 13 = D 13 := rfl
             simp only [hD, q12_, q13_, cnd_t, cnd_f, Asc_t, Asc_f] at ht hs
             subst ht
             refine g_op (v := v98) rfl rfl rfl ?_
             show G _ _ _ _ [_, _, _, _, _, _, _, _, _, _, _, _, _, _, _, _, _, _, _, _, _, _, _, _, _, _, _, _, _, _, _, _, _, _, _, _, _, _, _, _, _, _, _, _, _, _, _, _, _, _, _, _, _, _, _, _, _, _, _, _, _, _, _, _, _] _
             exact hk _ _ ⟨v107, v109, O, (by simp only [u0_, u1_, u2_, u3_, u4_, u5_, u6_, u7_, u8_, u9_, u10_, u11_, u12_, u13_, q12_, q13_, cnd_t, cnd_f, Asc_t, Asc_f]), hs.cast (by first | rfl | simp only [List.take, List.drop, List.cons_append, List.nil_append, List.set_cons_zero, List.set_cons_succ, List.eraseIdx, u0_, u1_, u2_, u3_, u4_, u5_, u6_, u7_, u8_, u9_, u10_, u11_, u12_, u13_, q12_, q13_, cnd_t, cnd_f, Asc_t, Asc_f])⟩
            ·
             intro D t w hD hp hcl hI rest hk
             obtain ⟨v107, v109, O, ht, hs⟩ := hI
             have q10_ : D 10 = false := not_yet (hcl.get 10 (by decide)) 0 1 rfl hD
             have q11_ : D 11 = false := not_yet (hcl.get 11 (by decide)) 0 10 rfl q10_
             have q12_ : D 12 = false := not_yet (hcl.get 12 (by decide)) 1 11 rfl q11_
             have q13_ : D 13 = false := not_yet (hcl.get 13 (by decide)) 0 12 rfl q12_
             have u0_ : upd D 1 0 = D 0 := rfl; have u1_ : upd D 1 1 = true := rfl; have u2_ : upd D 1 2 = D 2 := rfl; have u3_ : upd D 1 3 = D 3 := rfl; have u4_ : upd D 1 4 = D 4 := rfl; have u5_ : upd D 1 5 = D 5 := rfl; have u6_ : upd D 1 6 = D 6 := rfl; have u7_ : upd D 1 7 = D 7 := rfl; have u8_ : upd D 1 8 = D 8 := rfl; have u9_ : upd D 1 9 = D 9 := rfl; have u10_ : upd D 1 10 = D 10 := rfl; have u11_ : upd D 1 11 = D 11 := rfl; have u12_ : upd D 1 12 = D 12 := rfl; have u13_ : upd D 1 13 = D 13 := rfl
             simp only [hD, q10_, q11_, q12_, q13_, cnd_t, cnd_f, Asc_t, Asc_f] at ht hs
             subst ht
             refine s_loadA rfl rfl (es := (enc_S_impl_Bank r104)) rfl rfl (fun _ => rfl) (n := 2) (fun _ => rfl) (fk_S_impl_Bank.len _) (cells_all (hs.cells 2 rfl)) ?_
             show G _ _ _ _ [_, _, _, _, _, _, _, _, _, _, _, _, _, _, _, _, _, _, _, _, _, _, _, _, _, _, _, _, _, _, _, _, _, _, _, _, _, _, _, _, _, _, _, _, _, _, _, _, _, _, _, _, _, _, _, _, _, _, _, _, _, _, _, _, _] _
             exact hk _ _ ⟨v107, v109, O, (by simp only [u0_, u1_, u2_, u3_, u4_, u5_, u6_, u7_, u8_, u9_, u10_, u11_, u12_, u13_, q10_, q11_, q12_, q13_, cnd_t, cnd_f, Asc_t, Asc_f]), hs.cast (by first | rfl | simp only [List.take, List.drop, List.cons_append, List.nil_append, List.set_cons_zero, List.set_cons_succ, List.eraseIdx, u0_, u1_, u2_, u3_, u4_, u5_, u6_, u7_, u8_, u9_, u10_, u11_, u12_, u13_, q10_, q11_, q12_, q13_, cnd_t, cnd_f, Asc_t, Asc_f])⟩
            ·
             intro D t w hD hp hcl hI rest hk
             obtain ⟨v107, v109, O, ht, hs⟩ := hI
             have q10_ : D 10 = false := not_yet (hcl.get 10 (by decide)) 1 2 rfl hD
             have q11_ : D 11 = false := not_yet (hcl.get 11 (by decide)) 0 10 rfl q10_
             have q12_ : D 12 = false := not_yet (hcl.get 12 (by decide)) 1 11 rfl q11_
             have q13_ : D 13 = false := not_yet (hcl.get 13 (by decide)) 0 12 rfl q12_
             have u0_ : upd D 2 0 = D 0 := rfl; have u1_ : upd D 2 1 = D 1 := rfl; have u2_ : upd D 2 2 = true := rfl; have u3_ : upd D 2 3 = D 3 := rfl; have u4_ : upd D 2 4 = D 4 := rfl; have u5_ : upd D 2 5 = D 5 := rfl; have u6_ : upd D 2 6 = D 6 := rfl; have u7_ : upd D 2 7 = D 7 := rfl; have u8_ : upd D 2 8 = D 8 := rfl; have u9_ : upd D 2 9 = D 9 := rfl; have u10_ : upd D 2 10 = D 10 := rfl; have u11_ : upd D 2 11 = D 11 := rfl; have u12_ : upd D 2 12 = D 12 := rfl; have u13_ : upd D 2 13 = D 13 := rfl
             simp only [hD, q10_, q11_, q12_, q13_, cnd_t, cnd_f, Asc_t, Asc_f] at ht hs
             subst ht
             refine g_op (v := Value.int .i64 x72) rfl rfl rfl ?_
             show G _ _ _ _ [_, _, _, _, _, _, _, _, _, _, _, _, _, _, _, _, _, _, _, _, _, _, _, _, _, _, _, _, _, _, _, _, _, _, _, _, _, _, _, _, _, _, _, _, _, _, _, _, _, _, _, _, _, _, _, _, _, _, _, _, _, _, _, _, _] _
             exact hk _ _ ⟨v107, v109, O, (by simp only [u0_, u1_, u2_, u3_, u4_, u5_, u6_, u7_, u8_, u9_, u10_, u11_, u12_, u13_, q10_, q11_, q12_, q13_, cnd_t, cnd_f, Asc_t, Asc_f]), hs.cast (by first | rfl | simp only [List.take, List.drop, List.cons_append, List.nil_append, List.set_cons_zero, List.set_cons_succ, List.eraseIdx, u0_, u1_, u2_, u3_, u4_, u5_, u6_, u7_, u8_, u9_, u10_, u11_, u12_, u13_, q10_, q11_, q12_, q13_, cnd_t, cnd_f, Asc_t, Asc_f])⟩
            ·
             intro D t w hD hp hcl hI rest hk
             obtain ⟨v107, v109, O, ht, hs⟩ := hI
             have q10_ : D 10 = false := not_yet (hcl.get 10 (by decide)) 2 3 rfl hD
             have q11_ : D 11 = false := not_yet (hcl.get 11 (by decide)) 0 10 rfl q10_
             have q12_ : D 12 = false := not_yet (hcl.get 12 (by decide)) 1 11 rfl q11_
             have q13_ : D 13 = false := not_yet (hcl.get 13 (by decide)) 0 12 rfl q12_
             have u0_ : upd D 3 0 = D 0 := rfl; have u1_ : upd D 3 1 = D 1 := rfl; have u2_ : upd D 3 2 = D 2 := rfl; have u3_ : upd D 3 3 = true := rfl; have u4_ : upd D 3 4 = D 4 := rfl; have u5_ : upd D 3 5 = D 5 := rfl; have u6_ : upd D 3 6 = D 6 := rfl; have u7_ : upd D 3 7 = D 7 := rfl; have u8_ : upd D 3 8 = D 8 := rfl; have u9_ : upd D 3 9 = D 9 := rfl; have u10_ : upd D 3 10 = D 10 := rfl; have u11_ : upd D 3 11 = D 11 := rfl; have u12_ : upd D 3 12 = D 12 := rfl; have u13_ : upd D 3 13 = D 13 := rfl
             simp only [hD, q10_, q11_, q12_, q13_, cnd_t, cnd_f, Asc_t, Asc_f] at ht hs
             subst ht
             refine g_op (v := Value.int .u16 (rdL r73 x101 0)) rfl rfl rfl ?_
             show G _ _ _ _ [_, _, _, _, _, _, _, _, _, _, _, _, _, _, _, _, _, _, _, _, _, _, _, _, _, _, _, _, _, _, _, _, _, _, _, _, _, _, _, _, _, _, _, _, _, _, _, _, _, _, _, _, _, _, _, _, _, _, _, _, _, _, _, _, _] _
             exact hk _ _ ⟨v107, v109, O, (by simp only [u0_, u1_, u2_, u3_, u4_, u5_, u6_, u7_, u8_, u9_, u10_, u11_, u12_, u13_, q10_, q11_, q12_, q13_, cnd_t, cnd_f, Asc_t, Asc_f]), hs.cast (by first | rfl | simp only [List.take, List.drop, List.cons_append, List.nil_append, List.set_cons_zero, List.set_cons_succ, List.eraseIdx, u0_, u1_, u2_, u3_, u4_, u5_, u6_, u7_, u8_, u9_, u10_, u11_, u12_, u13_, q10_, q11_, q12_, q13_, cnd_t, cnd_f, Asc_t, Asc_f])⟩
            ·
             intro D t w hD hp hcl hI rest hk
             obtain ⟨v107, v109, O, ht, hs⟩ := hI
             have q6_ : D 6 = false := not_yet (hcl.get 6 (by decide)) 0 4 rfl hD
             have q7_ : D 7 = false := not_yet (hcl.get 7 (by decide)) 0 6 rfl q6_
             have q8_ : D 8 = false := not_yet (hcl.get 8 (by decide)) 0 7 rfl q7_
             have q9_ : D 9 = false := not_yet (hcl.get 9 (by decide)) 0 8 rfl q8_
             have q10_ : D 10 = false := not_yet (hcl.get 10 (by decide)) 3 9 rfl q9_
             have q11_ : D 11 = false := not_yet (hcl.get 11 (by decide)) 0 10 rfl q10_
             have q12_ : D 12 = false := not_yet (hcl.get 12 (by decide)) 1 11 rfl q11_
             have q13_ : D 13 = false := not_yet (hcl.get 13 (by decide)) 0 12 rfl q12_
             have u0_ : upd D 4 0 = D 0 := rfl; have u1_ : upd D 4 1 = D 1 := rfl; have u2_ : upd D 4 2 = D 2 := rfl; have u3_ : upd D 4 3 = D 3 := rfl; have u4_ : upd D 4 4 = true := rfl; have u5_ : upd D 4 5 = D 5 := rfl; have u6_ : upd D 4 6 = D 6 := rfl; have u7_ : upd D 4 7 = D 7 := rfl; have u8_ : upd D 4 8 = D 8 := rfl; have u9_ : upd D 4 9 = D 9 := rfl; have u10_ : upd D 4 10 = D 10 := rfl; have u11_ : upd D 4 11 = D 11 := rfl; have u12_ : upd D 4 12 = D 12 := rfl; have u13_ : upd D 4 13 = D 13 := rfl
             simp only [hD, q6_, q7_, q8_, q9_, q10_, q11_, q12_, q13_, cnd_t, cnd_f, Asc_t, Asc_f] at ht hs
             subst ht
             refine g_op (v := v98) rfl rfl rfl ?_
             show G _ _ _ _ [_, _, _, _, _, _, _, _, _, _, _, _, _, _, _, _, _, _, _, _, _, _, _, _, _, _, _, _, _, _, _, _, _, _, _, _, _, _, _, _, _, _, _, _, _, _, _, _, _, _, _, _, _, _, _, _, _, _, _, _, _, _, _, _, _] _
             exact hk _ _ ⟨v107, v109, O, (by simp only [u0_, u1_, u2_, u3_, u4_, u5_, u6_, u7_, u8_, u9_, u10_, u11_, u12_, u13_, q6_, q7_, q8_, q9_, q10_, q11_, q12_, q13_, cnd_t, cnd_f, Asc_t, Asc_f]), hs.cast (by first | rfl | simp only [List.take, List.drop, List.cons_append, List.nil_append, List.set_cons_zero, List.set_cons_succ, List.eraseIdx, u0_, u1_, u2_, u3_, u4_, u5_, u6_, u7_, u8_, u9_, u10_, u11_, u12_, u13_, q6_, q7_, q8_, q9_, q10_, q11_, q12_, q13_, cnd_t, cnd_f, Asc_t, Asc_f])⟩
            ·
             intro D t w hD hp hcl hI rest hk
             obtain ⟨v107, v109, O, ht, hs⟩ := hI
             have q6_ : D 6 = false := not_yet (hcl.get 6 (by decide)) 1 5 rfl hD
             have q7_ : D 7 = false := not_yet (hcl.get 7 (by decide)) 0 6 rfl q6_
             have q8_ : D 8 = false := not_yet (hcl.get 8 (by decide)) 0 7 rfl q7_
             have q9_ : D 9 = false := not_yet (hcl.get 9 (by decide)) 0 8 rfl q8_
             have q10_ : D 10 = false := not_yet (hcl.get 10 (by decide)) 3 9 rfl q9_
             have q11_ : D 11 = false := not_yet (hcl.get 11 (by decide)) 0 10 rfl q10_
             have q12_ : D 12 = false := not_yet (hcl.get 12 (by decide)) 1 11 rfl q11_
             have q13_ : D 13 = false := not_yet (hcl.get 13 (by decide)) 0 12 rfl q12_
             have u0_ : upd D 5 0 = D 0 := rfl; have u1_ : upd D 5 1 = D 1 := rfl; have u2_ : upd D 5 2 = D 2 := rfl; have u3_ : upd D 5 3 = D 3 := rfl; have u4_ : upd D 5 4 = D 4 := rfl; have u5_ : upd D 5 5 = true := rfl; have u6_ : upd D 5 6 = D 6 := rfl; have u7_ : upd D 5 7 = D 7 := rfl; have u8_ : upd D 5 8 = D 8 := rfl; have u9_ : upd D 5 9 = D 9 := rfl; have u10_ : upd D 5 10 = D 10 := rfl; have u11_ : upd D 5 11 = D 11 := rfl; have u12_ : upd D 5 12 = D 12 := rfl; have u13_ : upd D 5 13 = D 13 := rfl
             simp only [hD, q6_, q7_, q8_, q9_, q10_, q11_, q12_, q13_, cnd_t, cnd_f, Asc_t, Asc_f] at ht hs
             subst ht
             refine g_op (v := Value.int .i64 x72) rfl rfl rfl ?_
             show G _ _ _ _ [_, _, _, _, _, _, _, _, _, _, _, _, _, _, _, _, _, _, _, _, _, _, _, _, _, _, _, _, _, _, _, _, _, _, _, _, _, _, _, _, _, _, _, _, _, _, _, _, _, _, _, _, _, _, _, _, _, _, _, _, _, _, _, _, _] _
             exact hk _ _ ⟨v107, v109, O, (by simp only [u0_, u1_, u2_, u3_, u4_, u5_, u6_, u7_, u8_, u9_, u10_, u11_, u12_, u13_, q6_, q7_, q8_, q9_, q10_, q11_, q12_, q13_, cnd_t, cnd_f, Asc_t, Asc_f]), hs.cast (by first | rfl | simp only [List.take, List.drop, List.cons_append, List.nil_append, List.set_cons_zero, List.set_cons_succ, List.eraseIdx, u0_, u1_, u2_, u3_, u4_, u5_, u6_, u7_, u8_, u9_, u10_, u11_, u12_, u13_, q6_, q7_, q8_, q9_, q10_, q11_, q12_, q13_, cnd_t, cnd_f, Asc_t, Asc_f])⟩
            ·
             intro D t w hD hp hcl hI rest hk
             obtain ⟨v107, v109, O, ht, hs⟩ := hI
             obtain ⟨p4_, p5_, _⟩ := hp
             have q7_ : D 7 = false := not_yet (hcl.get 7 (by decide)) 0 6 rfl hD
             have q8_ : D 8 = false := not_yet (hcl.get 8 (by decide)) 0 7 rfl q7_
             have q9_ : D 9 = false := not_yet (hcl.get 9 (by decide)) 0 8 rfl q8_
             have q10_ : D 10 = false := not_yet (hcl.get 10 (by decide)) 3 9 rfl q9_
             have q11_ : D 11 = false := not_yet (hcl.get 11 (by decide)) 0 10 rfl q10_
             have q12_ : D 12 = false := not_yet (hcl.get 12 (by decide)) 1 11 rfl q11_
             have q13_ : D 13 = false := not_yet (hcl.get 13 (by decide)) 0 12 rfl q12_
             have u0_ : upd D 6 0 = D 0 := rfl; have u1_ : upd D 6 1 = D 1 := rfl; have u2_ : upd D 6 2 = D 2 := rfl; have u3_ : upd D 6 3 = D 3 := rfl; have u4_ : upd D 6 4 = D 4 := rfl; have u5_ : upd D 6 5 = D 5 := rfl; have u6_ : upd D 6 6 = true := rfl; have u7_ : upd D 6 7 = D 7 := rfl; have u8_ : upd D 6 8 = D 8 := rfl; have u9_ : upd D 6 9 = D 9 := rfl; have u10_ : upd D 6 10 = D 10 := rfl; have u11_ : upd D 6 11 = D 11 := rfl; have u12_ : upd D 6 12 = D 12 := rfl; have u13_ : upd D 6 13 = D 13 := rfl
             simp only [hD, p4_, p5_, q7_, q8_, q9_, q10_, q11_, q12_, q13_, cnd_t, cnd_f, Asc_t, Asc_f] at ht hs
             subst ht
             refine s_idxD (κ := k_S_impl_crossing) (m := 5) rfl (hs.row 4 rfl) rfl (fun _ => rfl) gd20.1 gd20.2 had21_ rfl rfl rfl rfl rfl ?_
             show G _ _ _ _ [_, _, _, _, _, _, _, _, _, _, _, _, _, _, _, _, _, _, _, _, _, _, _, _, _, _, _, _, _, _, _, _, _, _, _, _, _, _, _, _, _, _, _, _, _, _, _, _, _, _, _, _, _, _, _, _, _, _, _, _, _, _, _, _, _] _
             exact hk _ _ ⟨v107, v109, O, (by simp only [u0_, u1_, u2_, u3_, u4_, u5_, u6_, u7_, u8_, u9_, u10_, u11_, u12_, u13_, p4_, p5_, q7_, q8_, q9_, q10_, q11_, q12_, q13_, cnd_t, cnd_f, Asc_t, Asc_f]), hs.cast (by first | rfl | simp only [List.take, List.drop, List.cons_append, List.nil_append, List.set_cons_zero, List.set_cons_succ, List.eraseIdx, u0_, u1_, u2_, u3_, u4_, u5_, u6_, u7_, u8_, u9_, u10_, u11_, u12_, u13_, p4_, p5_, q7_, q8_, q9_, q10_, q11_, q12_, q13_, cnd_t, cnd_f, Asc_t, Asc_f])⟩
            ·
             intro D t w hD hp hcl hI rest hk
             obtain ⟨v107, v109, O, ht, hs⟩ := hI
             obtain ⟨p6_, _⟩ := hp
             obtain ⟨p4_, p5_, _⟩ := (hcl.get 6 (by decide)) p6_
             have q8_ : D 8 = false := not_yet (hcl.get 8 (by decide)) 0 7 rfl hD
             have q9_ : D 9 = false := not_yet (hcl.get 9 (by decide)) 0 8 rfl q8_
             have q10_ : D 10 = false := not_yet (hcl.get 10 (by decide)) 3 9 rfl q9_
             have q11_ : D 11 = false := not_yet (hcl.get 11 (by decide)) 0 10 rfl q10_
             have q12_ : D 12 = false := not_yet (hcl.get 12 (by decide)) 1 11 rfl q11_
             have q13_ : D 13 = false := not_yet (hcl.get 13 (by decide)) 0 12 rfl q12_
             have u0_ : upd D 7 0 = D 0 := rfl; have u1_ : upd D 7 1 = D 1 := rfl; have u2_ : upd D 7 2 = D 2 := rfl; have u3_ : upd D 7 3 = D 3 := rfl; have u4_ : upd D 7 4 = D 4 := rfl; have u5_ : upd D 7 5 = D 5 := rfl; have u6_ : upd D 7 6 = D 6 := rfl; have u7_ : upd D 7 7 = true := rfl; have u8_ : upd D 7 8 = D 8 := rfl; have u9_ : upd D 7 9 = D 9 := rfl; have u10_ : upd D 7 10 = D 10 := rfl; have u11_ : upd D 7 11 = D 11 := rfl; have u12_ : upd D 7 12 = D 12 := rfl; have u13_ : upd D 7 13 = D 13 := rfl
             simp only [hD, p4_, p5_, p6_, q8_, q9_, q10_, q11_, q12_, q13_, cnd_t, cnd_f, Asc_t, Asc_f] at ht hs
             subst ht
             refine g_op (v := Value.pointer (some ((ad21_.add (x72.toNat * 5)).add 4))) rfl rfl (x_fieldAt rfl rfl rfl rfl rfl (m := 1) (fun _ => rfl) (by decide)) ?_
             show G _ _ _ _ [_, _, _, _, _, _, _, _, _, _, _, _, _, _, _, _, _, _, _, _, _, _, _, _, _, _, _, _, _, _, _, _, _, _, _, _, _, _, _, _, _, _, _, _, _, _, _, _, _, _, _, _, _, _, _, _, _, _, _, _, _, _, _, _, _] _
             exact hk _ _ ⟨v107, v109, O, (by simp only [u0_, u1_, u2_, u3_, u4_, u5_, u6_, u7_, u8_, u9_, u10_, u11_, u12_, u13_, p4_, p5_, p6_, q8_, q9_, q10_, q11_, q12_, q13_, cnd_t, cnd_f, Asc_t, Asc_f]), hs.cast (by first | rfl | simp only [List.take, List.drop, List.cons_append, List.nil_append, List.set_cons_zero, List.set_cons_succ, List.eraseIdx, u0_, u1_, u2_, u3_, u4_, u5_, u6_, u7_, u8_, u9_, u10_, u11_, u12_, u13_, p4_, p5_, p6_, q8_, q9_, q10_, q11_, q12_, q13_, cnd_t, cnd_f, Asc_t, Asc_f])⟩
            ·
             intro D t w hD hp hcl hI rest hk
             obtain ⟨v107, v109, O, ht, hs⟩ := hI
             obtain ⟨p7_, _⟩ := hp
             obtain ⟨p6_, _⟩ := (hcl.get 7 (by decide)) p7_
             obtain ⟨p4_, p5_, _⟩ := (hcl.get 6 (by decide)) p6_
             have q9_ : D 9 = false := not_yet (hcl.get 9 (by decide)) 0 8 rfl hD
             have q10_ : D 10 = false := not_yet (hcl.get 10 (by decide)) 3 9 rfl q9_
             have q11_ : D 11 = false := not_yet (hcl.get 11 (by decide)) 0 10 rfl q10_
             have q12_ : D 12 = false := not_yet (hcl.get 12 (by decide)) 1 11 rfl q11_
             have q13_ : D 13 = false := not_yet (hcl.get 13 (by decide)) 0 12 rfl q12_
             have u0_ : upd D 8 0 = D 0 := rfl; have u1_ : upd D 8 1 = D 1 := rfl; have u2_ : upd D 8 2 = D 2 := rfl; have u3_ : upd D 8 3 = D 3 := rfl; have u4_ : upd D 8 4 = D 4 := rfl; have u5_ : upd D 8 5 = D 5 := rfl; have u6_ : upd D 8 6 = D 6 := rfl; have u7_ : upd D 8 7 = D 7 := rfl; have u8_ : upd D 8 8 = true := rfl; have u9_ : upd D 8 9 = D 9 := rfl; have u10_ : upd D 8 10 = D 10 := rfl; have u11_ : upd D 8 11 = D 11 := rfl; have u12_ : upd D 8 12 = D 12 := rfl; have u13_ : upd D 8 13 = D 13 := rfl
             simp only [hD, p4_, p5_, p6_, p7_, q9_, q10_, q11_, q12_, q13_, cnd_t, cnd_f, Asc_t, Asc_f] at ht hs
             subst ht
             refine s_load1 rfl rfl (v := Value.int .i64 ((rdL x99 x72 z_S_impl_crossing).f_many)) rfl rfl (fun _ => rfl) (CellsAt.sub (cellsAt_of fk_S_impl_crossing z_S_impl_crossing (hs.row 4 rfl) had21_ gd20.1 gd20.2) 4 1 (by first | rfl | (simp [List.drop_append, List.take_append, encA_len]))) ?_
             show G _ _ _ _ [_, _, _, _, _, _, _, _, _, _, _, _, _, _, _, _, _, _, _, _, _, _, _, _, _, _, _, _, _, _, _, _, _, _, _, _, _, _, _, _, _, _, _, _, _, _, _, _, _, _, _, _, _, _, _, _, _, _, _, _, _, _, _, _, _] _
             exact hk _ _ ⟨v107, v109, O, (by simp only [u0_, u1_, u2_, u3_, u4_, u5_, u6_, u7_, u8_, u9_, u10_, u11_, u12_, u13_, p4_, p5_, p6_, p7_, q9_, q10_, q11_, q12_, q13_, cnd_t, cnd_f, Asc_t, Asc_f]), hs.cast (by first | rfl | simp only [List.take, List.drop, List.cons_append, List.nil_append, List.set_cons_zero, List.set_cons_succ, List.eraseIdx, u0_, u1_, u2_, u3_, u4_, u5_, u6_, u7_, u8_, u9_, u10_, u11_, u12_, u13_, p4_, p5_, p6_, p7_, q9_, q10_, q11_, q12_, q13_, cnd_t, cnd_f, Asc_t, Asc_f])⟩
            ·
             intro D t w hD hp hcl hI rest hk
             obtain ⟨v107, v109, O, ht, hs⟩ := hI
             obtain ⟨p8_, _⟩ := hp
             obtain ⟨p7_, _⟩ := (hcl.get 8 (by decide)) p8_
             obtain ⟨p6_, _⟩ := (hcl.get 7 (by decide)) p7_
             obtain ⟨p4_, p5_, _⟩ := (hcl.get 6 (by decide)) p6_
             have q10_ : D 10 = false := not_yet (hcl.get 10 (by decide)) 3 9 rfl hD
             have q11_ : D 11 = false := not_yet (hcl.get 11 (by decide)) 0 10 rfl q10_
             have q12_ : D 12 = false := not_yet (hcl.get 12 (by decide)) 1 11 rfl q11_
             have q13_ : D 13 = false := not_yet (hcl.get 13 (by decide)) 0 12 rfl q12_
             have u0_ : upd D 9 0 = D 0 := rfl; have u1_ : upd D 9 1 = D 1 := rfl; have u2_ : upd D 9 2 = D 2 := rfl; have u3_ : upd D 9 3 = D 3 := rfl; have u4_ : upd D 9 4 = D 4 := rfl; have u5_ : upd D 9 5 = D 5 := rfl; have u6_ : upd D 9 6 = D 6 := rfl; have u7_ : upd D 9 7 = D 7 := rfl; have u8_ : upd D 9 8 = D 8 := rfl; have u9_ : upd D 9 9 = true := rfl; have u10_ : upd D 9 10 = D 10 := rfl; have u11_ : upd D 9 11 = D 11 := rfl; have u12_ : upd D 9 12 = D 12 := rfl; have u13_ : upd D 9 13 = D 13 := rfl
             simp only [hD, p4_, p5_, p6_, p7_, p8_, q10_, q11_, q12_, q13_, cnd_t, cnd_f, Asc_t, Asc_f] at ht hs
             subst ht
             refine g_op (v := Value.int .i64 (i64w (((rdL x99 x72 z_S_impl_crossing).f_many) + 1))) rfl rfl rfl ?_
             show G _ _ _ _ [_, _, _, _, _, _, _, _, _, _, _, _, _, _, _, _, _, _, _, _, _, _, _, _, _, _, _, _, _, _, _, _, _, _, _, _, _, _, _, _, _, _, _, _, _, _, _, _, _, _, _, _, _, _, _, _, _, _, _, _, _, _, _, _, _] _
             exact hk _ _ ⟨v107, v109, O, (by simp only [u0_, u1_, u2_, u3_, u4_, u5_, u6_, u7_, u8_, u9_, u10_, u11_, u12_, u13_, p4_, p5_, p6_, p7_, p8_, q10_, q11_, q12_, q13_, cnd_t, cnd_f, Asc_t, Asc_f]), hs.cast (by first | rfl | simp only [List.take, List.drop, List.cons_append, List.nil_append, List.set_cons_zero, List.set_cons_succ, List.eraseIdx, u0_, u1_, u2_, u3_, u4_, u5_, u6_, u7_, u8_, u9_, u10_, u11_, u12_, u13_, p4_, p5_, p6_, p7_, p8_, q10_, q11_, q12_, q13_, cnd_t, cnd_f, Asc_t, Asc_f])⟩
            ·
             intro D t w hD hp hcl hI rest hk
             obtain ⟨v107, v109, O, ht, hs⟩ := hI
             obtain ⟨p1_, p2_, p3_, p9_, _⟩ := hp
             obtain ⟨p8_, _⟩ := (hcl.get 9 (by decide)) p9_
             obtain ⟨p7_, _⟩ := (hcl.get 8 (by decide)) p8_
             obtain ⟨p6_, _⟩ := (hcl.get 7 (by decide)) p7_
             obtain ⟨p4_, p5_, _⟩ := (hcl.get 6 (by decide)) p6_
             have q11_ : D 11 = false := not_yet (hcl.get 11 (by decide)) 0 10 rfl hD
             have q12_ : D 12 = false := not_yet (hcl.get 12 (by decide)) 1 11 rfl q11_
             have q13_ : D 13 = false := not_yet (hcl.get 13 (by decide)) 0 12 rfl q12_
             have u0_ : upd D 10 0 = D 0 := rfl; have u1_ : upd D 10 1 = D 1 := rfl; have u2_ : upd D 10 2 = D 2 := rfl; have u3_ : upd D 10 3 = D 3 := rfl; have u4_ : upd D 10 4 = D 4 := rfl; have u5_ : upd D 10 5 = D 5 := rfl; have u6_ : upd D 10 6 = D 6 := rfl; have u7_ : upd D 10 7 = D 7 := rfl; have u8_ : upd D 10 8 = D 8 := rfl; have u9_ : upd D 10 9 = D 9 := rfl; have u10_ : upd D 10 10 = true := rfl; have u11_ : upd D 10 11 = D 11 := rfl; have u12_ : upd D 10 12 = D 12 := rfl; have u13_ : upd D 10 13 = D 13 := rfl
             simp only [hD, p1_, p2_, p3_, p4_, p5_, p6_, p7_, p8_, p9_, q11_, q12_, q13_, cnd_t, cnd_f, Asc_t, Asc_f] at ht hs
             subst ht
             refine g_op (v := Value.agg (enc_S_impl_crossing (⟨r104, x72, rdL r73 x101 0, i64w (((rdL x99 x72 z_S_impl_crossing).f_many) + 1)⟩ : S_impl_crossing)).toArray) rfl rfl (x_buildS (cs := (enc_S_impl_crossing (⟨r104, x72, rdL r73 x101 0, i64w (((rdL x99 x72 z_S_impl_crossing).f_many) + 1)⟩ : S_impl_crossing))) (segs := [[Value.int .u16 0, Value.bool false], [Value.int .i64 0], [Value.int .u16 0], [Value.int .i64 0]]) rfl rfl (fun _ => rfl) ⟨rfl, (fun _ => rfl), rfl, (fun _ => rfl), rfl, (fun _ => rfl), rfl, (fun _ => rfl), trivial⟩ (by simp only [List.map_cons, List.map_nil, List.forall_mem_cons, List.not_mem_nil, false_implies, implies_true, and_true]; exact ⟨⟨_, rfl, fk_S_impl_Bank.len _⟩, ⟨_, rfl, rfl⟩, ⟨_, rfl, rfl⟩, ⟨_, rfl, rfl⟩⟩) (by first | rfl | (simp [ev, enc_S_impl_crossing]; done) | (simp [ev, enc_S_impl_crossing]; rfl))) ?_
             show G _ _ _ _ [_, _, _, _, _, _, _, _, _, _, _, _, _, _, _, _, _, _, _, _, _, _, _, _, _, _, _, _, _, _, _, _, _, _, _, _, _, _, _, _, _, _, _, _, _, _, _, _, _, _, _, _, _, _, _, _, _, _, _, _, _, _, _, _, _] _
             exact hk _ _ ⟨v107, v109, O, (by simp only [u0_, u1_, u2_, u3_, u4_, u5_, u6_, u7_, u8_, u9_, u10_, u11_, u12_, u13_, p1_, p2_, p3_, p4_, p5_, p6_, p7_, p8_, p9_, q11_, q12_, q13_, cnd_t, cnd_f, Asc_t, Asc_f]), hs.cast (by first | rfl | simp only [List.take, List.drop, List.cons_append, List.nil_append, List.set_cons_zero, List.set_cons_succ, List.eraseIdx, u0_, u1_, u2_, u3_, u4_, u5_, u6_, u7_, u8_, u9_, u10_, u11_, u12_, u13_, p1_, p2_, p3_, p4_, p5_, p6_, p7_, p8_, p9_, q11_, q12_, q13_, cnd_t, cnd_f, Asc_t, Asc_f])⟩
            ·
             intro D t w hD hp hcl hI rest hk
             obtain ⟨v107, v109, O, ht, hs⟩ := hI
             obtain ⟨p10_, _⟩ := hp
             obtain ⟨p1_, p2_, p3_, p9_, _⟩ := (hcl.get 10 (by decide)) p10_
             obtain ⟨p8_, _⟩ := (hcl.get 9 (by decide)) p9_
             obtain ⟨p7_, _⟩ := (hcl.get 8 (by decide)) p8_
             obtain ⟨p6_, _⟩ := (hcl.get 7 (by decide)) p7_
             obtain ⟨p4_, p5_, _⟩ := (hcl.get 6 (by decide)) p6_
             have q12_ : D 12 = false := not_yet (hcl.get 12 (by decide)) 1 11 rfl hD
             have q13_ : D 13 = false := not_yet (hcl.get 13 (by decide)) 0 12 rfl q12_
             have u0_ : upd D 11 0 = D 0 := rfl; have u1_ : upd D 11 1 = D 1 := rfl; have u2_ : upd D 11 2 = D 2 := rfl; have u3_ : upd D 11 3 = D 3 := rfl; have u4_ : upd D 11 4 = D 4 := rfl; have u5_ : upd D 11 5 = D 5 := rfl; have u6_ : upd D 11 6 = D 6 := rfl; have u7_ : upd D 11 7 = D 7 := rfl; have u8_ : upd D 11 8 = D 8 := rfl; have u9_ : upd D 11 9 = D 9 := rfl; have u10_ : upd D 11 10 = D 10 := rfl; have u11_ : upd D 11 11 = true := rfl; have u12_ : upd D 11 12 = D 12 := rfl; have u13_ : upd D 11 13 = D 13 := rfl
             simp only [hD, p1_, p2_, p3_, p4_, p5_, p6_, p7_, p8_, p9_, p10_, q12_, q13_, cnd_t, cnd_f, Asc_t, Asc_f] at ht hs
             subst ht
             refine s_lit1 fk_S_impl_crossing (y := (⟨r104, x72, rdL r73 x101 0, i64w (((rdL x99 x72 z_S_impl_crossing).f_many) + 1)⟩ : S_impl_crossing)) hs rfl rfl rfl rfl (fun _ => rfl) (zv := (Value.agg #[Value.int .u16 0, Value.bool false, Value.int .i64 0, Value.int .u16 0, Value.int .i64 0])) (fun _ => rfl) rfl (by decide) (by decide) rfl ?_
             intro v107 w hs
             show G _ _ _ _ [_, _, _, _, _, _, _, _, _, _, _, _, _, _, _, _, _, _, _, _, _, _, _, _, _, _, _, _, _, _, _, _, _, _, _, _, _, _, _, _, _, _, _, _, _, _, _, _, _, _, _, _, _, _, _, _, _, _, _, _, _, _, _, _, _] _
             have hs := hs.fill 0 rfl
             exact hk _ _ ⟨v107, v109, O, (by simp only [u0_, u1_, u2_, u3_, u4_, u5_, u6_, u7_, u8_, u9_, u10_, u11_, u12_, u13_, p1_, p2_, p3_, p4_, p5_, p6_, p7_, p8_, p9_, p10_, q12_, q13_, cnd_t, cnd_f, Asc_t, Asc_f]), hs.cast (by first | rfl | simp only [List.take, List.drop, List.cons_append, List.nil_append, List.set_cons_zero, List.set_cons_succ, List.eraseIdx, u0_, u1_, u2_, u3_, u4_, u5_, u6_, u7_, u8_, u9_, u10_, u11_, u12_, u13_, p1_, p2_, p3_, p4_, p5_, p6_, p7_, p8_, p9_, p10_, q12_, q13_, cnd_t, cnd_f, Asc_t, Asc_f])⟩
            ·
             intro D t w hD hp hcl hI rest hk
             obtain ⟨v107, v109, O, ht, hs⟩ := hI
             obtain ⟨p0_, p11_, _⟩ := hp
             obtain ⟨p10_, _⟩ := (hcl.get 11 (by decide)) p11_
             obtain ⟨p1_, p2_, p3_, p9_, _⟩ := (hcl.get 10 (by decide)) p10_
             obtain ⟨p8_, _⟩ := (hcl.get 9 (by decide)) p9_
             obtain ⟨p7_, _⟩ := (hcl.get 8 (by decide)) p8_
             obtain ⟨p6_, _⟩ := (hcl.get 7 (by decide)) p7_
             obtain ⟨p4_, p5_, _⟩ := (hcl.get 6 (by decide)) p6_
             have q13_ : D 13 = false := not_yet (hcl.get 13 (by decide)) 0 12 rfl hD
             have u0_ : upd D 12 0 = D 0 := rfl; have u1_ : upd D 12 1 = D 1 := rfl; have u2_ : upd D 12 2 = D 2 := rfl; have u3_ : upd D 12 3 = D 3 := rfl; have u4_ : upd D 12 4 = D 4 := rfl; have u5_ : upd D 12 5 = D 5 := rfl; have u6_ : upd D 12 6 = D 6 := rfl; have u7_ : upd D 12 7 = D 7 := rfl; have u8_ : upd D 12 8 = D 8 := rfl; have u9_ : upd D 12 9 = D 9 := rfl; have u10_ : upd D 12 10 = D 10 := rfl; have u11_ : upd D 12 11 = D 11 := rfl; have u12_ : upd D 12 12 = true := rfl; have u13_ : upd D 12 13 = D 13 := rfl
             simp only [hD, p0_, p1_, p2_, p3_, p4_, p5_, p6_, p7_, p8_, p9_, p10_, p11_, q13_, cnd_t, cnd_f, Asc_t, Asc_f] at ht hs
             subst ht
             have hs := hs.pull 4 rfl
             have hs : St _ [_, _, _, _, _, _] _ := hs
             refine s_append fk_S_impl_crossing (zv := (Value.agg #[Value.int .u16 0, Value.bool false, Value.int .i64 0, Value.int .u16 0, Value.int .i64 0])) (B := 32) hs (hs.row 1 rfl) rfl rfl rfl rfl rfl rfl rfl rfl rfl (by decide) rfl rfl (by decide) (by have := gq12_; omega) ?_
             intro v109 w hs
             show G _ _ _ _ [_, _, _, _, _, _, _, _, _, _, _, _, _, _, _, _, _, _, _, _, _, _, _, _, _, _, _, _, _, _, _, _, _, _, _, _, _, _, _, _, _, _, _, _, _, _, _, _, _, _, _, _, _, _, _, _, _, _, _, _, _, _, _, _, _] _
             have hs := hs.push 4 (by simp)
             exact hk _ _ ⟨v107, v109, O, (by simp only [u0_, u1_, u2_, u3_, u4_, u5_, u6_, u7_, u8_, u9_, u10_, u11_, u12_, u13_, p0_, p1_, p2_, p3_, p4_, p5_, p6_, p7_, p8_, p9_, p10_, p11_, q13_, cnd_t, cnd_f, Asc_t, Asc_f]), hs.cast (by first | rfl | simp only [List.take, List.drop, List.cons_append, List.nil_append, List.set_cons_zero, List.set_cons_succ, List.eraseIdx, u0_, u1_, u2_, u3_, u4_, u5_, u6_, u7_, u8_, u9_, u10_, u11_, u12_, u13_, p0_, p1_, p2_, p3_, p4_, p5_, p6_, p7_, p8_, p9_, p10_, p11_, q13_, cnd_t, cnd_f, Asc_t, Asc_f])⟩
            ·
             intro D t w hD hp hcl hI rest hk
             obtain ⟨v107, v109, O, ht, hs⟩ := hI
             obtain ⟨p12_, _, p0_, p1_, p2_, p3_, p4_, p5_, p6_, p7_, p8_, p9_, p10_, p11_, _, _⟩ := hp
             have u0_ : upd D 13 0 = D 0 := rfl; have u1_ : upd D 13 1 = D 1 := rfl; have u2_ : upd D 13 2 = D 2 := rfl; have u3_ : upd D 13 3 = D 3 := rfl; have u4_ : upd D 13 4 = D 4 := rfl; have u5_ : upd D 13 5 = D 5 := rfl; have u6_ : upd D 13 6 = D 6 := rfl; have u7_ : upd D 13 7 = D 7 := rfl; have u8_ : upd D 13 8 = D 8 := rfl; have u9_ : upd D 13 9 = D 9 := rfl; have u10_ : upd D 13 10 = D 10 := rfl; have u11_ : upd D 13 11 = D 11 := rfl; have u12_ : upd D 13 12 = D 12 := rfl; have u13_ : upd D 13 13 = true := rfl
             simp only [hD, p0_, p1_, p2_, p3_, p4_, p5_, p6_, p7_, p8_, p9_, p10_, p11_, p12_, cnd_t, cnd_f, Asc_t, Asc_f] at ht hs
             subst ht
             refine g_op (v := v109) rfl rfl rfl ?_
             show G _ _ _ _ [_, _, _, _, _, _, _, _, _, _, _, _, _, _, _, _, _, _, _, _, _, _, _, _, _, _, _, _, _, _, _, _, _, _, _, _, _, _, _, _, _, _, _, _, _, _, _, _, _, _, _, _, _, _, _, _, _, _, _, _, _, _, _, _, _] _
             exact hk _ _ ⟨v107, v109, O, (by simp only [u0_, u1_, u2_, u3_, u4_, u5_, u6_, u7_, u8_, u9_, u10_, u11_, u12_, u13_, p0_, p1_, p2_, p3_, p4_, p5_, p6_, p7_, p8_, p9_, p10_, p11_, p12_, cnd_t, cnd_f, Asc_t, Asc_f]), hs.cast (by first | rfl | simp only [List.take, List.drop, List.cons_append, List.nil_append, List.set_cons_zero, List.set_cons_succ, List.eraseIdx, u0_, u1_, u2_, u3_, u4_, u5_, u6_, u7_, u8_, u9_, u10_, u11_, u12_, u13_, p0_, p1_, p2_, p3_, p4_, p5_, p6_, p7_, p8_, p9_, p10_, p11_, p12_, cnd_t, cnd_f, Asc_t, Asc_f])⟩
            ·
             intro D t w hall hI
             obtain ⟨v107, v109, O, ht, hs⟩ := hI
             have p0_ : D 0 = true := hall 0 (by decide)
             have p1_ : D 1 = true := hall 1 (by decide)
             have p2_ : D 2 = true := hall 2 (by decide)
             have p3_ : D 3 = true := hall 3 (by decide)
             have p4_ : D 4 = true := hall 4 (by decide)
             have p5_ : D 5 = true := hall 5 (by decide)
             have p6_ : D 6 = true := hall 6 (by decide)
             have p7_ : D 7 = true := hall 7 (by decide)
             have p8_ : D 8 = true := hall 8 (by decide)
             have p9_ : D 9 = true := hall 9 (by decide)
             have p10_ : D 10 = true := hall 10 (by decide)
             have p11_ : D 11 = true := hall 11 (by decide)
             have p12_ : D 12 = true := hall 12 (by decide)
             have p13_ : D 13 = true := hall 13 (by decide)
             simp only [p0_, p1_, p2_, p3_, p4_, p5_, p6_, p7_, p8_, p9_, p10_, p11_, p12_, p13_, cnd_t, cnd_f, Asc_t, Asc_f] at ht hs
             subst ht
             refine g_inBlock ?_
             have hs := hs.pull 5 rfl
             have hs := hs.pull 2 rfl
             have hs := hs.pull 5 rfl
             have hs := hs.pull 5 rfl
             have hs : St _ [_, _, _, _] _ := St.take (Γ' := [_, _]) hs
             exact ha _ _ ⟨v109, x99 ++ ([(⟨r104, x72, rdL r73 x101 0, i64w (((rdL x99 x72 z_S_impl_crossing).f_many) + 1)⟩ : S_impl_crossing)]), mSet x100 r104 true, H, rfl, hs⟩
         ·
          intro hb
          rw [if_neg (b_dec_f hb)] at H
          show G _ _ _ _ [_, _, _, _, _, _, _, _, _, _, _, _, _, _, _, _, _, _, _, _, _, _, _, _, _, _, _, _, _, _, _, _, _, _, _, _, _, _, _, _, _, _, _, _, _, _, _, _, _, _, _, _, _, _, _, _, _, _, _, _, _, _, _, _, _] _
          refine g_ops_nil ?_
          refine g_seq ?_
          refine g_cond_false rfl ?_
          obtain rfl := Option.some.inj H
          subst Hx2_
          have hs := hs.pull 2 rfl
          have hs := hs.pull 2 rfl
          have hs := hs.pull 2 rfl
          have hs : St _ [_, _, _] _ := St.take (Γ' := [_]) hs
          refine g_exit rfl ?_
          exact ha2_ _ _ ⟨v98, x99, x100, Hr2_, rfl, hs⟩
     ·
      intro hb
      rw [if_neg (b_dec_f hb)] at H
      show G _ _ _ _ [_, _, _, _, _, _, _, _, _, _, _, _, _, _, _, _, _, _, _, _, _, _, _, _, _, _, _, _, _, _, _, _, _, _, _, _, _, _, _, _, _, _, _, _, _, _, _, _, _, _, _, _, _, _, _, _, _, _, _, _, _, _, _, _, _] _
      refine g_ops_nil ?_
      refine g_cond_false rfl ?_
      obtain rfl := Option.some.inj H
      subst Hx1_
      have hs := hs.pull 1 rfl
      have hs : St _ [_] _ := St.take (Γ' := [_, _]) hs
      refine g_exit rfl ?_
      exact ha1_ _ _ ⟨v69, x70, Hr1_, rfl, hs⟩

end Go.Proofs.YtgoblgmidejdgaaX
