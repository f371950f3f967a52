/- Contracts, printed by gen.py. -/
import Derived.Test.YtgoblgmidejdgaaXC14
namespace Go.Proofs.YtgoblgmidejdgaaX
open Go Go.RowKit Go.Proofs
set_option linter.unusedVariables false
set_option linter.unusedSimpArgs false
/- function 57 _impl_Ferry_isProof -/
def _impl_Ferry_isProof.post (w0 : World) (r : Bool) (v : Value) (w : World) : Prop := v = Value.bool r ∧ St w0 [] w
set_option maxHeartbeats 400000 in
set_option maxRecDepth 100000 in
theorem _impl_Ferry_isProof.calls {N : Nat} {a1 : S_laws_Ferry} {a4 : (List Int)} {v2 : Value} {v5 : Value} {w0 : World} {r : Bool} (hr3 : RdRow (K.int .u16) w0 v2 a1.f_Rules) (hr1 : RdRow (K.int .i16) w0 v5 a4) (H : _impl_Ferry_isProof.f N a1 a4 = some r) :
    Calls Try.prog 57 #[Value.agg (([Value.int .i8 a1.f_Things, Value.int .i8 a1.f_Boat, v2] : List Value)).toArray, v5] w0 fun e w => ∃ v, e = .returned v ∧ _impl_Ferry_isProof.post w0 r v w := by
  unfold _impl_Ferry_isProof.f at H
  have hs : St w0 [] w0 := St.refl w0
  refine calls_of_g (n := 66) Try.func57 rfl rfl ?_
  show G _ _ _ _ [_, _, _, _, _, _, _, _, _, _, _, _, _, _, _, _, _, _, _, _, _, _, _, _, _, _, _, _, _, _, _, _, _, _, _, _, _, _, _, _, _, _, _, _, _, _, _, _, _, _, _, _, _, _, _, _, _, _, _, _, _, _, _, _, _, _, _, _] _
  refine g_seq ?_
  refine g_region ?_
  show G _ _ _ (.inRegion _ [0, 1] :: _) _ _
  refine s_box hs rfl rfl (cs := (([Value.int .i8 a1.f_Things, Value.int .i8 a1.f_Boat, v2] : List Value))) rfl rfl ?_
  intro b6 w hs
  show G _ _ _ _ [_, _, _, _, _, _, _, _, _, _, _, _, _, _, _, _, _, _, _, _, _, _, _, _, _, _, _, _, _, _, _, _, _, _, _, _, _, _, _, _, _, _, _, _, _, _, _, _, _, _, _, _, _, _, _, _, _, _, _, _, _, _, _, _, _, _, _, _] _
  refine g_op (v := Value.bool false) rfl rfl rfl ?_
  show G _ _ _ _ [_, _, _, _, _, _, _, _, _, _, _, _, _, _, _, _, _, _, _, _, _, _, _, _, _, _, _, _, _, _, _, _, _, _, _, _, _, _, _, _, _, _, _, _, _, _, _, _, _, _, _, _, _, _, _, _, _, _, _, _, _, _, _, _, _, _, _, _] _
  refine g_ops_nil ?_
  refine g_seq ?_
  refine g_seq ?_
  refine g_lay (n := 9) rfl [0, 1, 2, 3, 4, 5, 6, 7, 8] [0, 1, 2, 3, 4, 5, 6, 7, 8] rfl rfl ?_
  intro rest w hh hbw hO
  have hs := hs.samew hh hbw
  show G _ _ _ _ [_, _, _, _, _, _, _, _, _, _, _, _, _, _, _, _, _, _, _, _, _, _, _, _, _, _, _, _, _, _, _, _, _, _, _, _, _, _, _, _, _, _, _, _, _, _, _, _, _, _, _, _, _, _, _, _, _, _, _, _, _, _, _, _, _, _, _, _] _
  obtain ⟨r8, Hr8, H⟩ := bind_get H
  obtain ⟨r9, Hr9, H⟩ := bind_get H
  refine g_name ?_
  intro T hT
  refine g_layer (m0 := 0) hO rfl 63 [0, 1, 2, 3, 4, 5] [0, 0, 0, 4, 12, 30, 63, 127, 255] (by decide +kernel) (fun D t w => ∃ O : Nat → Value, t = [Value.agg (([Value.int .i8 a1.f_Things, Value.int .i8 a1.f_Boat, v2] : List Value)).toArray, v5, Value.pointer (some ⟨b6, 0, none⟩), O 3, Value.bool false, O 5, O 6, O 7, O 8, O 9, O 10, cnd (D 0) v5 (O 11), cnd (D 1) (Value.agg (([Value.int .i8 a1.f_Things, Value.int .i8 a1.f_Boat, v2] : List Value)).toArray) (O 12), cnd (D 2) (Value.agg (([Value.int .i8 a1.f_Things, Value.int .i8 a1.f_Boat, v2] : List Value)).toArray) (O 13), cnd (D 3) (Value.int .u16 r8) (O 14), cnd (D 4) (Value.agg (enc_S_impl_Bank (⟨r8, false⟩ : S_impl_Bank)).toArray) (O 15), cnd (D 5) (Value.int .i64 r9) (O 16), O 17, O 18, O 19, O 20, O 21, O 22, O 23, O 24, O 25, O 26, O 27, O 28, O 29, O 30, O 31, O 32, O 33, O 34, O 35, O 36, O 37, O 38, O 39, O 40, O 41, O 42, O 43, O 44, O 45, O 46, O 47, O 48, O 49, O 50, O 51, O 52, O 53, O 54, O 55, O 56, O 57, O 58, O 59, O 60, O 61, O 62, O 63, O 64, O 65, O 66, O 67] ∧ St w0 [Cells b6 (([Value.int .i8 a1.f_Things, Value.int .i8 a1.f_Boat, v2] : List Value)) 32] w) ?_ ⟨?_, ⟨?_, ⟨?_, ⟨?_, ⟨?_, ⟨?_, trivial⟩⟩⟩⟩⟩⟩ ?_
  · exact ⟨fun i => T.getD i undef, (by subst hT; rfl), hs⟩
  · intro D t w hD hp hcl hI rest hk
    obtain ⟨O, ht, hs⟩ := hI
    have hp : AllDone D [] := hp
    have u0_ : upd D 0 0 = true := rfl
    have u1_ : upd D 0 1 = D 1 := rfl
    have u2_ : upd D 0 2 = D 2 := rfl
    have u3_ : upd D 0 3 = D 3 := rfl
    have u4_ : upd D 0 4 = D 4 := rfl
    have u5_ : upd D 0 5 = D 5 := rfl
    simp only [hD, cnd_t, cnd_f, Asc_t, Asc_f] at ht hs
    subst ht
    refine g_op (v := v5) rfl rfl rfl ?_
    show G _ _ _ _ [_, _, _, _, _, _, _, _, _, _, _, _, _, _, _, _, _, _, _, _, _, _, _, _, _, _, _, _, _, _, _, _, _, _, _, _, _, _, _, _, _, _, _, _, _, _, _, _, _, _, _, _, _, _, _, _, _, _, _, _, _, _, _, _, _, _, _, _] _
    exact hk _ _ ⟨O, (by simp only [u0_, u1_, u2_, u3_, u4_, u5_, cnd_t, cnd_f, Asc_t, Asc_f]), hs.cast (by first | rfl | simp only [List.take, List.drop, List.cons_append, List.nil_append, List.set_cons_zero, List.set_cons_succ, List.eraseIdx, u0_, u1_, u2_, u3_, u4_, u5_, cnd_t, cnd_f, Asc_t, Asc_f])⟩
  · intro D t w hD hp hcl hI rest hk
    obtain ⟨O, ht, hs⟩ := hI
    have hp : AllDone D [] := hp
    have q5_ : D 5 = false := not_yet (show D 5 = true → AllDone D [1, 4, 3] from hcl 5 (by decide)) 0 1 rfl hD
    have u0_ : upd D 1 0 = D 0 := rfl
    have u1_ : upd D 1 1 = true := rfl
    have u2_ : upd D 1 2 = D 2 := rfl
    have u3_ : upd D 1 3 = D 3 := rfl
    have u4_ : upd D 1 4 = D 4 := rfl
    have u5_ : upd D 1 5 = D 5 := rfl
    simp only [hD, q5_, cnd_t, cnd_f, Asc_t, Asc_f] at ht hs
    subst ht
    refine s_loadA rfl rfl (es := (([Value.int .i8 a1.f_Things, Value.int .i8 a1.f_Boat, v2] : List Value))) rfl rfl (fun _ => rfl) (n := 3) (fun _ => rfl) rfl (cells_all (hs.cells 0 rfl)) ?_
    show G _ _ _ _ [_, _, _, _, _, _, _, _, _, _, _, _, _, _, _, _, _, _, _, _, _, _, _, _, _, _, _, _, _, _, _, _, _, _, _, _, _, _, _, _, _, _, _, _, _, _, _, _, _, _, _, _, _, _, _, _, _, _, _, _, _, _, _, _, _, _, _, _] _
    exact hk _ _ ⟨O, (by simp only [u0_, u1_, u2_, u3_, u4_, u5_, q5_, cnd_t, cnd_f, Asc_t, Asc_f]), hs.cast (by first | rfl | simp only [List.take, List.drop, List.cons_append, List.nil_append, List.set_cons_zero, List.set_cons_succ, List.eraseIdx, u0_, u1_, u2_, u3_, u4_, u5_, q5_, cnd_t, cnd_f, Asc_t, Asc_f])⟩
  · intro D t w hD hp hcl hI rest hk
    obtain ⟨O, ht, hs⟩ := hI
    have hp : AllDone D [] := hp
    have q3_ : D 3 = false := not_yet (show D 3 = true → AllDone D [2] from hcl 3 (by decide)) 0 2 rfl hD
    have q4_ : D 4 = false := not_yet (show D 4 = true → AllDone D [3] from hcl 4 (by decide)) 0 3 rfl q3_
    have q5_ : D 5 = false := not_yet (show D 5 = true → AllDone D [1, 4, 3] from hcl 5 (by decide)) 1 4 rfl q4_
    have u0_ : upd D 2 0 = D 0 := rfl
    have u1_ : upd D 2 1 = D 1 := rfl
    have u2_ : upd D 2 2 = true := rfl
    have u3_ : upd D 2 3 = D 3 := rfl
    have u4_ : upd D 2 4 = D 4 := rfl
    have u5_ : upd D 2 5 = D 5 := rfl
    simp only [hD, q3_, q4_, q5_, cnd_t, cnd_f, Asc_t, Asc_f] at ht hs
    subst ht
    refine s_loadA rfl rfl (es := (([Value.int .i8 a1.f_Things, Value.int .i8 a1.f_Boat, v2] : List Value))) rfl rfl (fun _ => rfl) (n := 3) (fun _ => rfl) rfl (cells_all (hs.cells 0 rfl)) ?_
    show G _ _ _ _ [_, _, _, _, _, _, _, _, _, _, _, _, _, _, _, _, _, _, _, _, _, _, _, _, _, _, _, _, _, _, _, _, _, _, _, _, _, _, _, _, _, _, _, _, _, _, _, _, _, _, _, _, _, _, _, _, _, _, _, _, _, _, _, _, _, _, _, _] _
    exact hk _ _ ⟨O, (by simp only [u0_, u1_, u2_, u3_, u4_, u5_, q3_, q4_, q5_, cnd_t, cnd_f, Asc_t, Asc_f]), hs.cast (by first | rfl | simp only [List.take, List.drop, List.cons_append, List.nil_append, List.set_cons_zero, List.set_cons_succ, List.eraseIdx, u0_, u1_, u2_, u3_, u4_, u5_, q3_, q4_, q5_, cnd_t, cnd_f, Asc_t, Asc_f])⟩
  · intro D t w hD hp hcl hI rest hk
    obtain ⟨O, ht, hs⟩ := hI
    have hp : AllDone D [2] := hp
    obtain ⟨p2_, _⟩ := hp
    have q4_ : D 4 = false := not_yet (show D 4 = true → AllDone D [3] from hcl 4 (by decide)) 0 3 rfl hD
    have q5_ : D 5 = false := not_yet (show D 5 = true → AllDone D [1, 4, 3] from hcl 5 (by decide)) 1 4 rfl q4_
    have u0_ : upd D 3 0 = D 0 := rfl
    have u1_ : upd D 3 1 = D 1 := rfl
    have u2_ : upd D 3 2 = D 2 := rfl
    have u3_ : upd D 3 3 = true := rfl
    have u4_ : upd D 3 4 = D 4 := rfl
    have u5_ : upd D 3 5 = D 5 := rfl
    simp only [hD, p2_, q4_, q5_, cnd_t, cnd_f, Asc_t, Asc_f] at ht hs
    subst ht
    refine s_call (args := [Value.agg (([Value.int .i8 a1.f_Things, Value.int .i8 a1.f_Boat, v2] : List Value)).toArray]) rfl rfl (x_call rfl (callFunc_enter Try.func46 rfl rfl) rfl) (_impl_Ferry_all.calls (a1 := (⟨a1.f_Things, a1.f_Boat, a1.f_Rules⟩ : S_laws_Ferry)) (hs.rd hr3) Hr8) ?_
    rintro _ w ⟨rfl, hs2⟩
    have hs : St _ [_] _ := hs.call hs2
    show G _ _ _ _ [_, _, _, _, _, _, _, _, _, _, _, _, _, _, _, _, _, _, _, _, _, _, _, _, _, _, _, _, _, _, _, _, _, _, _, _, _, _, _, _, _, _, _, _, _, _, _, _, _, _, _, _, _, _, _, _, _, _, _, _, _, _, _, _, _, _, _, _] _
    exact hk _ _ ⟨O, (by simp only [u0_, u1_, u2_, u3_, u4_, u5_, p2_, q4_, q5_, cnd_t, cnd_f, Asc_t, Asc_f]), hs.cast (by first | rfl | simp only [List.take, List.drop, List.cons_append, List.nil_append, List.set_cons_zero, List.set_cons_succ, List.eraseIdx, u0_, u1_, u2_, u3_, u4_, u5_, p2_, q4_, q5_, cnd_t, cnd_f, Asc_t, Asc_f])⟩
  · intro D t w hD hp hcl hI rest hk
    obtain ⟨O, ht, hs⟩ := hI
    have hp : AllDone D [3] := hp
    obtain ⟨p3_, _⟩ := hp
    obtain ⟨p2_, _⟩ := (show D 3 = true → AllDone D [2] from hcl 3 (by decide)) p3_
    have q5_ : D 5 = false := not_yet (show D 5 = true → AllDone D [1, 4, 3] from hcl 5 (by decide)) 1 4 rfl hD
    have u0_ : upd D 4 0 = D 0 := rfl
    have u1_ : upd D 4 1 = D 1 := rfl
    have u2_ : upd D 4 2 = D 2 := rfl
    have u3_ : upd D 4 3 = D 3 := rfl
    have u4_ : upd D 4 4 = true := rfl
    have u5_ : upd D 4 5 = D 5 := rfl
    simp only [hD, p2_, p3_, q5_, cnd_t, cnd_f, Asc_t, Asc_f] at ht hs
    subst ht
    refine g_op (v := Value.agg (enc_S_impl_Bank (⟨r8, false⟩ : S_impl_Bank)).toArray) rfl rfl (x_buildS (cs := (enc_S_impl_Bank (⟨r8, false⟩ : S_impl_Bank))) (segs := [[Value.int .u16 0], [Value.bool false]]) rfl rfl (fun _ => rfl) ⟨rfl, (fun _ => rfl), rfl, (fun _ => rfl), trivial⟩ (by simp only [List.map_cons, List.map_nil, List.forall_mem_cons, List.not_mem_nil, false_implies, implies_true, and_true]; exact ⟨_, rfl, rfl⟩) (by first | rfl | (simp [ev, enc_S_impl_Bank]; done) | (simp [ev, enc_S_impl_Bank]; rfl))) ?_
    show G _ _ _ _ [_, _, _, _, _, _, _, _, _, _, _, _, _, _, _, _, _, _, _, _, _, _, _, _, _, _, _, _, _, _, _, _, _, _, _, _, _, _, _, _, _, _, _, _, _, _, _, _, _, _, _, _, _, _, _, _, _, _, _, _, _, _, _, _, _, _, _, _] _
    exact hk _ _ ⟨O, (by simp only [u0_, u1_, u2_, u3_, u4_, u5_, p2_, p3_, q5_, cnd_t, cnd_f, Asc_t, Asc_f]), hs.cast (by first | rfl | simp only [List.take, List.drop, List.cons_append, List.nil_append, List.set_cons_zero, List.set_cons_succ, List.eraseIdx, u0_, u1_, u2_, u3_, u4_, u5_, p2_, p3_, q5_, cnd_t, cnd_f, Asc_t, Asc_f])⟩
  · intro D t w hD hp hcl hI rest hk
    obtain ⟨O, ht, hs⟩ := hI
    have hp : AllDone D [1, 4, 3] := hp
    obtain ⟨p1_, p4_, p3_, _⟩ := hp
    obtain ⟨p2_, _⟩ := (show D 3 = true → AllDone D [2] from hcl 3 (by decide)) p3_
    have u0_ : upd D 5 0 = D 0 := rfl
    have u1_ : upd D 5 1 = D 1 := rfl
    have u2_ : upd D 5 2 = D 2 := rfl
    have u3_ : upd D 5 3 = D 3 := rfl
    have u4_ : upd D 5 4 = D 4 := rfl
    have u5_ : upd D 5 5 = true := rfl
    simp only [hD, p1_, p2_, p3_, p4_, cnd_t, cnd_f, Asc_t, Asc_f] at ht hs
    subst ht
    refine s_call (args := [Value.agg (([Value.int .i8 a1.f_Things, Value.int .i8 a1.f_Boat, v2] : List Value)).toArray, Value.agg (enc_S_impl_Bank (⟨r8, false⟩ : S_impl_Bank)).toArray]) rfl rfl (x_call rfl (callFunc_enter Try.func62 rfl rfl) rfl) (_impl_Ferry_number.calls (a1 := (⟨a1.f_Things, a1.f_Boat, a1.f_Rules⟩ : S_laws_Ferry)) (a4 := (⟨r8, false⟩ : S_impl_Bank)) (hs.rd hr3) Hr9) ?_
    rintro _ w ⟨rfl, hs2⟩
    have hs : St _ [_] _ := hs.call hs2
    show G _ _ _ _ [_, _, _, _, _, _, _, _, _, _, _, _, _, _, _, _, _, _, _, _, _, _, _, _, _, _, _, _, _, _, _, _, _, _, _, _, _, _, _, _, _, _, _, _, _, _, _, _, _, _, _, _, _, _, _, _, _, _, _, _, _, _, _, _, _, _, _, _] _
    exact hk _ _ ⟨O, (by simp only [u0_, u1_, u2_, u3_, u4_, u5_, p1_, p2_, p3_, p4_, cnd_t, cnd_f, Asc_t, Asc_f]), hs.cast (by first | rfl | simp only [List.take, List.drop, List.cons_append, List.nil_append, List.set_cons_zero, List.set_cons_succ, List.eraseIdx, u0_, u1_, u2_, u3_, u4_, u5_, p1_, p2_, p3_, p4_, cnd_t, cnd_f, Asc_t, Asc_f])⟩
  · intro D t w rest hall hO1_ hI
    obtain ⟨O, ht, hs⟩ := hI
    have p0_ : D 0 = true := hall 0 (by decide) rfl
    have p1_ : D 1 = true := hall 1 (by decide) rfl
    have p2_ : D 2 = true := hall 2 (by decide) rfl
    have p3_ : D 3 = true := hall 3 (by decide) rfl
    have p4_ : D 4 = true := hall 4 (by decide) rfl
    have p5_ : D 5 = true := hall 5 (by decide) rfl
    simp only [p0_, p1_, p2_, p3_, p4_, p5_, cnd_t, cnd_f, Asc_t, Asc_f] at ht hs
    subst ht
    obtain ⟨rest, rfl, hO2_⟩ := ord_one (m := 63) hO1_ rfl 6 (m' := 127) (by decide +kernel) rfl
    clear hO1_
    obtain ⟨g3, H⟩ := ite_get H
    refine s_idx (fkI .i16) 0 (hs.rd hr1) rfl (fun _ => rfl) g3.1 g3.2 rfl rfl rfl rfl rfl ?_
    intro p10 hp10 lp10 op10
    show G _ _ _ _ [_, _, _, _, _, _, _, _, _, _, _, _, _, _, _, _, _, _, _, _, _, _, _, _, _, _, _, _, _, _, _, _, _, _, _, _, _, _, _, _, _, _, _, _, _, _, _, _, _, _, _, _, _, _, _, _, _, _, _, _, _, _, _, _, _, _, _, _] _
    obtain ⟨rest, rfl, hO4_⟩ := ord_one (m := 127) hO2_ rfl 7 (m' := 255) (by decide +kernel) rfl
    clear hO2_
    refine s_load1 rfl rfl (v := Value.int .i16 (rdL a4 r9 0)) rfl rfl (fun _ => rfl) hp10 ?_
    show G _ _ _ _ [_, _, _, _, _, _, _, _, _, _, _, _, _, _, _, _, _, _, _, _, _, _, _, _, _, _, _, _, _, _, _, _, _, _, _, _, _, _, _, _, _, _, _, _, _, _, _, _, _, _, _, _, _, _, _, _, _, _, _, _, _, _, _, _, _, _, _, _] _
    obtain ⟨rest, rfl, hO5_⟩ := ord_one (m := 255) hO4_ rfl 8 (m' := 511) (by decide +kernel) rfl
    clear hO4_
    refine g_op_b (B := (rdL a4 r9 0) != 0) rfl rfl rfl ?_ ?_
    · intro hb
      rw [if_neg (b_bne_t hb)] at H
      show G _ _ _ _ [_, _, _, _, _, _, _, _, _, _, _, _, _, _, _, _, _, _, _, _, _, _, _, _, _, _, _, _, _, _, _, _, _, _, _, _, _, _, _, _, _, _, _, _, _, _, _, _, _, _, _, _, _, _, _, _, _, _, _, _, _, _, _, _, _, _, _, _] _
      obtain rfl := ord_end hO5_ rfl (by decide +kernel)
      refine g_ops_nil ?_
      refine g_cond_true rfl ?_
      refine g_seq ?_
      refine g_region ?_
      show G _ _ _ (.inRegion _ [0] :: _) _ _
      refine g_op (v := Value.bool false) rfl rfl rfl ?_
      show G _ _ _ _ [_, _, _, _, _, _, _, _, _, _, _, _, _, _, _, _, _, _, _, _, _, _, _, _, _, _, _, _, _, _, _, _, _, _, _, _, _, _, _, _, _, _, _, _, _, _, _, _, _, _, _, _, _, _, _, _, _, _, _, _, _, _, _, _, _, _, _, _] _
      refine g_ops_nil ?_
      obtain rfl := Option.some.inj H
      refine g_ret Try.func57 (v := Value.bool false) (res1 rfl rfl) ?_
      have hs : St _ [] _ := St.take (Γ' := [_]) hs
      exact ⟨_, rfl, rfl, hs⟩
    · intro hb
      rw [if_pos (b_bne_f hb)] at H
      show G _ _ _ _ [_, _, _, _, _, _, _, _, _, _, _, _, _, _, _, _, _, _, _, _, _, _, _, _, _, _, _, _, _, _, _, _, _, _, _, _, _, _, _, _, _, _, _, _, _, _, _, _, _, _, _, _, _, _, _, _, _, _, _, _, _, _, _, _, _, _, _, _] _
      obtain rfl := ord_end hO5_ rfl (by decide +kernel)
      refine g_ops_nil ?_
      refine g_cond_false rfl ?_
      refine g_skip ?_
      refine g_seq ?_
      refine g_seq ?_
      refine g_region ?_
      show G _ _ _ (.inRegion _ [0, 1, 2] :: _) _ _
      refine g_op (v := v5) rfl rfl rfl ?_
      show G _ _ _ _ [_, _, _, _, _, _, _, _, _, _, _, _, _, _, _, _, _, _, _, _, _, _, _, _, _, _, _, _, _, _, _, _, _, _, _, _, _, _, _, _, _, _, _, _, _, _, _, _, _, _, _, _, _, _, _, _, _, _, _, _, _, _, _, _, _, _, _, _] _
      refine s_len (hs.rd hr1) rfl rfl rfl rfl rfl ?_
      show G _ _ _ _ [_, _, _, _, _, _, _, _, _, _, _, _, _, _, _, _, _, _, _, _, _, _, _, _, _, _, _, _, _, _, _, _, _, _, _, _, _, _, _, _, _, _, _, _, _, _, _, _, _, _, _, _, _, _, _, _, _, _, _, _, _, _, _, _, _, _, _, _] _
      refine g_op (v := Value.int .i64 0) rfl rfl rfl ?_
      show G _ _ _ _ [_, _, _, _, _, _, _, _, _, _, _, _, _, _, _, _, _, _, _, _, _, _, _, _, _, _, _, _, _, _, _, _, _, _, _, _, _, _, _, _, _, _, _, _, _, _, _, _, _, _, _, _, _, _, _, _, _, _, _, _, _, _, _, _, _, _, _, _] _
      refine g_ops_nil ?_
      obtain ⟨o1_, Ho, Hr1_⟩ := bind_get H
      refine g_block_join (J := fun t w => _impl_Ferry_isProof.a0 N = some r ∧ Fr t (fun O => ([O 0, O 1, O 2, O 3, O 4, O 5, O 6, O 7, O 8, O 9, O 10, O 11, O 12, O 13, O 14, O 15, O 16, O 17, O 18, O 19, O 20, O 21, O 22, O 23, O 24, O 25, O 26, O 27, O 28, O 29, O 30, O 31, O 32, O 33, O 34, O 35, O 36, O 37, O 38, O 39, O 40, O 41, O 42, O 43, O 44, O 45, O 46, O 47, O 48, O 49, O 50, O 51, O 52, O 53, O 54, O 55, O 56, O 57, O 58, O 59, O 60, O 61, O 62, O 63, O 64, O 65, O 66, O 67] : List Value)) ∧ St w0 [] w) ?_ ?_
      · rintro t w ⟨H, hf, hs⟩
        obtain ⟨O, rfl⟩ := hf.open
        show G _ _ _ _ [_, _, _, _, _, _, _, _, _, _, _, _, _, _, _, _, _, _, _, _, _, _, _, _, _, _, _, _, _, _, _, _, _, _, _, _, _, _, _, _, _, _, _, _, _, _, _, _, _, _, _, _, _, _, _, _, _, _, _, _, _, _, _, _, _, _, _, _] _
        unfold _impl_Ferry_isProof.a0 at H
        refine g_seq ?_
        refine g_region ?_
        show G _ _ _ (.inRegion _ [0] :: _) _ _
        refine g_op (v := Value.bool true) rfl rfl rfl ?_
        show G _ _ _ _ [_, _, _, _, _, _, _, _, _, _, _, _, _, _, _, _, _, _, _, _, _, _, _, _, _, _, _, _, _, _, _, _, _, _, _, _, _, _, _, _, _, _, _, _, _, _, _, _, _, _, _, _, _, _, _, _, _, _, _, _, _, _, _, _, _, _, _, _] _
        refine g_ops_nil ?_
        obtain rfl := Option.some.inj H
        refine g_ret Try.func57 (v := Value.bool true) (res1 rfl rfl) ?_
        have hs : St _ [] _ := St.take (Γ' := []) hs
        exact ⟨_, rfl, rfl, hs⟩
      · intro ha1_
        have hs := hs.pull 0 rfl
        have hs : St _ [_] _ := St.take (Γ' := []) hs
        refine g_loop_fuel (I := fun n_ t w => ∃ x11 : Int, rounds (fun s => _impl_Ferry_isProof.b0 N a4 a1 s) n_ x11 = some o1_ ∧ Fr t (fun O => ([O 0, v5, Value.pointer (some ⟨b6, 0, none⟩), O 3, O 4, O 5, O 6, O 7, O 8, O 9, O 10, O 11, O 12, O 13, O 14, O 15, O 16, O 17, O 18, O 19, v5, Value.int .i64 (a4.length : Int), Value.int .i64 x11, O 23, O 24, O 25, O 26, O 27, O 28, O 29, O 30, O 31, O 32, O 33, O 34, O 35, O 36, O 37, O 38, O 39, O 40, O 41, O 42, O 43, O 44, O 45, O 46, O 47, O 48, O 49, O 50, O 51, O 52, O 53, O 54, O 55, O 56, O 57, O 58, O 59, O 60, O 61, O 62, O 63, O 64, O 65, O 66, O 67] : List Value)) ∧ St w0 [Cells b6 (([Value.int .i8 a1.f_Things, Value.int .i8 a1.f_Boat, v2] : List Value)) 32] w) N ⟨0, Ho, rfl, hs⟩ ?_ ?_
        · rintro _ _ ⟨x11, h, _⟩
          exact rounds_zero h
        · intro n_ ih1_
          rintro t w ⟨x11, Ho, hf, hs⟩
          obtain ⟨O, rfl⟩ := hf.open
          show G _ _ _ _ [_, _, _, _, _, _, _, _, _, _, _, _, _, _, _, _, _, _, _, _, _, _, _, _, _, _, _, _, _, _, _, _, _, _, _, _, _, _, _, _, _, _, _, _, _, _, _, _, _, _, _, _, _, _, _, _, _, _, _, _, _, _, _, _, _, _, _, _] _
          obtain ⟨x11_, H, Hx1_⟩ := rounds_succ Ho
          have H : _impl_Ferry_isProof.b0 N a4 a1 x11 = some x11_ := H
          unfold _impl_Ferry_isProof.b0 at H
          refine g_seq ?_
          refine g_region ?_
          show G _ _ _ (.inRegion _ [0] :: _) _ _
          refine g_op_b (B := decide (x11 < (a4.length : Int))) rfl rfl rfl ?_ ?_
          · intro hb
            rw [if_pos (b_dec_t hb)] at H
            show G _ _ _ _ [_, _, _, _, _, _, _, _, _, _, _, _, _, _, _, _, _, _, _, _, _, _, _, _, _, _, _, _, _, _, _, _, _, _, _, _, _, _, _, _, _, _, _, _, _, _, _, _, _, _, _, _, _, _, _, _, _, _, _, _, _, _, _, _, _, _, _, _] _
            refine g_ops_nil ?_
            refine g_seq ?_
            refine g_cond_true rfl ?_
            refine g_skip ?_
            refine g_seq ?_
            refine g_block_join (J := (fun t w => _impl_Ferry_isProof.j2 N x11 = some x11_ ∧ Fr t (fun O => ([O 0, v5, Value.pointer (some ⟨b6, 0, none⟩), O 3, O 4, O 5, O 6, O 7, O 8, O 9, O 10, O 11, O 12, O 13, O 14, O 15, O 16, O 17, O 18, O 19, v5, Value.int .i64 (a4.length : Int), Value.int .i64 x11, O 23, O 24, O 25, O 26, O 27, O 28, O 29, O 30, O 31, O 32, O 33, O 34, O 35, O 36, O 37, O 38, O 39, O 40, O 41, O 42, O 43, O 44, O 45, O 46, O 47, O 48, O 49, O 50, O 51, O 52, O 53, O 54, O 55, O 56, O 57, O 58, O 59, O 60, O 61, O 62, O 63, O 64, O 65, O 66, O 67] : List Value)) ∧ St w0 [Cells b6 (([Value.int .i8 a1.f_Things, Value.int .i8 a1.f_Boat, v2] : List Value)) 32] w)) ?_ ?_
            · rintro t w ⟨H, hf, hs⟩
              obtain ⟨O, rfl⟩ := hf.open
              show G _ _ _ _ [_, _, _, _, _, _, _, _, _, _, _, _, _, _, _, _, _, _, _, _, _, _, _, _, _, _, _, _, _, _, _, _, _, _, _, _, _, _, _, _, _, _, _, _, _, _, _, _, _, _, _, _, _, _, _, _, _, _, _, _, _, _, _, _, _, _, _, _] _
              unfold _impl_Ferry_isProof.j2 at H
              refine g_region ?_
              show G _ _ _ (.inRegion _ [0, 1] :: _) _ _
              refine g_op (v := Value.int .i64 (i64w (x11 + 1))) rfl rfl rfl ?_
              show G _ _ _ _ [_, _, _, _, _, _, _, _, _, _, _, _, _, _, _, _, _, _, _, _, _, _, _, _, _, _, _, _, _, _, _, _, _, _, _, _, _, _, _, _, _, _, _, _, _, _, _, _, _, _, _, _, _, _, _, _, _, _, _, _, _, _, _, _, _, _, _, _] _
              refine g_op (v := Value.int .i64 (i64w (x11 + 1))) rfl rfl rfl ?_
              show G _ _ _ _ [_, _, _, _, _, _, _, _, _, _, _, _, _, _, _, _, _, _, _, _, _, _, _, _, _, _, _, _, _, _, _, _, _, _, _, _, _, _, _, _, _, _, _, _, _, _, _, _, _, _, _, _, _, _, _, _, _, _, _, _, _, _, _, _, _, _, _, _] _
              refine g_ops_nil ?_
              obtain rfl := Option.some.inj H
              have hs := hs.pull 0 rfl
              have hs : St _ [_] _ := St.take (Γ' := []) hs
              exact ih1_ _ _ ⟨i64w (x11 + 1), Hx1_, rfl, hs⟩
            · intro ha
              refine g_seq ?_
              refine g_region ?_
              show G _ _ _ (.inRegion _ [0, 1, 2, 3, 4] :: _) _ _
              refine g_op (v := Value.int .i64 x11) rfl rfl rfl ?_
              show G _ _ _ _ [_, _, _, _, _, _, _, _, _, _, _, _, _, _, _, _, _, _, _, _, _, _, _, _, _, _, _, _, _, _, _, _, _, _, _, _, _, _, _, _, _, _, _, _, _, _, _, _, _, _, _, _, _, _, _, _, _, _, _, _, _, _, _, _, _, _, _, _] _
              obtain ⟨g6, H⟩ := ite_get H
              refine s_idx (fkI .i16) 0 (hs.rd hr1) rfl (fun _ => rfl) g6.1 g6.2 rfl rfl rfl rfl rfl ?_
              intro p12 hp12 lp12 op12
              show G _ _ _ _ [_, _, _, _, _, _, _, _, _, _, _, _, _, _, _, _, _, _, _, _, _, _, _, _, _, _, _, _, _, _, _, _, _, _, _, _, _, _, _, _, _, _, _, _, _, _, _, _, _, _, _, _, _, _, _, _, _, _, _, _, _, _, _, _, _, _, _, _] _
              refine s_load1 rfl rfl (v := Value.int .i16 (rdL a4 x11 0)) rfl rfl (fun _ => rfl) hp12 ?_
              show G _ _ _ _ [_, _, _, _, _, _, _, _, _, _, _, _, _, _, _, _, _, _, _, _, _, _, _, _, _, _, _, _, _, _, _, _, _, _, _, _, _, _, _, _, _, _, _, _, _, _, _, _, _, _, _, _, _, _, _, _, _, _, _, _, _, _, _, _, _, _, _, _] _
              refine g_op (v := Value.int .i64 x11) rfl rfl rfl ?_
              show G _ _ _ _ [_, _, _, _, _, _, _, _, _, _, _, _, _, _, _, _, _, _, _, _, _, _, _, _, _, _, _, _, _, _, _, _, _, _, _, _, _, _, _, _, _, _, _, _, _, _, _, _, _, _, _, _, _, _, _, _, _, _, _, _, _, _, _, _, _, _, _, _] _
              refine g_op (v := Value.int .i16 (rdL a4 x11 0)) rfl rfl rfl ?_
              show G _ _ _ _ [_, _, _, _, _, _, _, _, _, _, _, _, _, _, _, _, _, _, _, _, _, _, _, _, _, _, _, _, _, _, _, _, _, _, _, _, _, _, _, _, _, _, _, _, _, _, _, _, _, _, _, _, _, _, _, _, _, _, _, _, _, _, _, _, _, _, _, _] _
              refine g_ops_nil ?_
              refine g_seq ?_
              refine g_seq ?_
              refine g_region ?_
              show G _ _ _ (.inRegion _ [0, 1] :: _) _ _
              refine g_op (v := Value.int .i16 (rdL a4 x11 0)) rfl rfl rfl ?_
              show G _ _ _ _ [_, _, _, _, _, _, _, _, _, _, _, _, _, _, _, _, _, _, _, _, _, _, _, _, _, _, _, _, _, _, _, _, _, _, _, _, _, _, _, _, _, _, _, _, _, _, _, _, _, _, _, _, _, _, _, _, _, _, _, _, _, _, _, _, _, _, _, _] _
              refine g_op_b (B := decide ((rdL a4 x11 0) < (-1))) rfl rfl rfl ?_ ?_
              · intro hb
                rw [if_pos (b_dec_t hb)] at H
                show G _ _ _ _ [_, _, _, _, _, _, _, _, _, _, _, _, _, _, _, _, _, _, _, _, _, _, _, _, _, _, _, _, _, _, _, _, _, _, _, _, _, _, _, _, _, _, _, _, _, _, _, _, _, _, _, _, _, _, _, _, _, _, _, _, _, _, _, _, _, _, _, _] _
                refine g_ops_nil ?_
                refine g_cond_true rfl ?_
                refine g_seq ?_
                refine g_region ?_
                show G _ _ _ (.inRegion _ [0] :: _) _ _
                refine g_op (v := Value.bool false) rfl rfl rfl ?_
                show G _ _ _ _ [_, _, _, _, _, _, _, _, _, _, _, _, _, _, _, _, _, _, _, _, _, _, _, _, _, _, _, _, _, _, _, _, _, _, _, _, _, _, _, _, _, _, _, _, _, _, _, _, _, _, _, _, _, _, _, _, _, _, _, _, _, _, _, _, _, _, _, _] _
                refine g_ops_nil ?_
                obtain rfl := Option.some.inj H
                subst Hx1_
                have H := Option.some.inj Hr1_
                subst H
                refine g_ret Try.func57 (v := Value.bool false) (res1 rfl rfl) ?_
                have hs : St _ [] _ := St.take (Γ' := [_]) hs
                exact ⟨_, rfl, rfl, hs⟩
              · intro hb
                rw [if_neg (b_dec_f hb)] at H
                show G _ _ _ _ [_, _, _, _, _, _, _, _, _, _, _, _, _, _, _, _, _, _, _, _, _, _, _, _, _, _, _, _, _, _, _, _, _, _, _, _, _, _, _, _, _, _, _, _, _, _, _, _, _, _, _, _, _, _, _, _, _, _, _, _, _, _, _, _, _, _, _, _] _
                refine g_ops_nil ?_
                refine g_cond_false rfl ?_
                refine g_skip ?_
                refine g_seq ?_
                refine g_region ?_
                show G _ _ _ (.inRegion _ [0, 1, 2, 3, 4] :: _) _ _
                refine s_loadA rfl rfl (es := (([Value.int .i8 a1.f_Things, Value.int .i8 a1.f_Boat, v2] : List Value))) rfl rfl (fun _ => rfl) (n := 3) (fun _ => rfl) rfl (cells_all (hs.cells 0 rfl)) ?_
                show G _ _ _ _ [_, _, _, _, _, _, _, _, _, _, _, _, _, _, _, _, _, _, _, _, _, _, _, _, _, _, _, _, _, _, _, _, _, _, _, _, _, _, _, _, _, _, _, _, _, _, _, _, _, _, _, _, _, _, _, _, _, _, _, _, _, _, _, _, _, _, _, _] _
                refine g_op (v := Value.int .i64 x11) rfl rfl rfl ?_
                show G _ _ _ _ [_, _, _, _, _, _, _, _, _, _, _, _, _, _, _, _, _, _, _, _, _, _, _, _, _, _, _, _, _, _, _, _, _, _, _, _, _, _, _, _, _, _, _, _, _, _, _, _, _, _, _, _, _, _, _, _, _, _, _, _, _, _, _, _, _, _, _, _] _
                obtain ⟨r13, Hr13, H⟩ := bind_get H
                refine s_call (args := [Value.agg (([Value.int .i8 a1.f_Things, Value.int .i8 a1.f_Boat, v2] : List Value)).toArray, Value.int .i64 x11]) rfl rfl (x_call rfl (callFunc_enter Try.func78 rfl rfl) rfl) (_impl_Ferry_bank.calls (a1 := (⟨a1.f_Things, a1.f_Boat, a1.f_Rules⟩ : S_laws_Ferry)) (a4 := x11) (hs.rd hr3) Hr13) ?_
                rintro _ w ⟨rfl, hs2⟩
                have hs : St _ [_] _ := hs.call hs2
                show G _ _ _ _ [_, _, _, _, _, _, _, _, _, _, _, _, _, _, _, _, _, _, _, _, _, _, _, _, _, _, _, _, _, _, _, _, _, _, _, _, _, _, _, _, _, _, _, _, _, _, _, _, _, _, _, _, _, _, _, _, _, _, _, _, _, _, _, _, _, _, _, _] _
                refine s_alloc hs rfl rfl (z := (Value.agg #[Value.int .u16 0, Value.bool false])) (cs := (enc_S_impl_Bank z_S_impl_Bank)) rfl (fun _ => rfl) rfl ?_
                intro b14 w hs
                show G _ _ _ _ [_, _, _, _, _, _, _, _, _, _, _, _, _, _, _, _, _, _, _, _, _, _, _, _, _, _, _, _, _, _, _, _, _, _, _, _, _, _, _, _, _, _, _, _, _, _, _, _, _, _, _, _, _, _, _, _, _, _, _, _, _, _, _, _, _, _, _, _] _
                refine s_storeAll (n := 2) hs (fk_S_impl_Bank.len _) rfl rfl (vs := (enc_S_impl_Bank r13)) rfl rfl rfl (fun _ => rfl) (fk_S_impl_Bank.len _) (fk_S_impl_Bank.one _) ?_
                intro w hs
                refine g_ops_nil ?_
                refine g_seq ?_
                refine g_seq ?_
                refine g_region ?_
                show G _ _ _ (.inRegion _ [0, 1, 2, 3, 4, 5, 6, 7] :: _) _ _
                refine g_op (v := Value.int .i16 (rdL a4 x11 0)) rfl rfl rfl ?_
                show G _ _ _ _ [_, _, _, _, _, _, _, _, _, _, _, _, _, _, _, _, _, _, _, _, _, _, _, _, _, _, _, _, _, _, _, _, _, _, _, _, _, _, _, _, _, _, _, _, _, _, _, _, _, _, _, _, _, _, _, _, _, _, _, _, _, _, _, _, _, _, _, _] _
                refine g_op_b (B := (rdL a4 x11 0) == (-1)) rfl rfl rfl ?_ ?_
                · intro hb
                  rw [if_pos (b_beq_t hb)] at H
                  show G _ _ _ _ [_, _, _, _, _, _, _, _, _, _, _, _, _, _, _, _, _, _, _, _, _, _, _, _, _, _, _, _, _, _, _, _, _, _, _, _, _, _, _, _, _, _, _, _, _, _, _, _, _, _, _, _, _, _, _, _, _, _, _, _, _, _, _, _, _, _, _, _] _
                  refine g_op (v := Value.bool true) rfl rfl rfl ?_
                  show G _ _ _ _ [_, _, _, _, _, _, _, _, _, _, _, _, _, _, _, _, _, _, _, _, _, _, _, _, _, _, _, _, _, _, _, _, _, _, _, _, _, _, _, _, _, _, _, _, _, _, _, _, _, _, _, _, _, _, _, _, _, _, _, _, _, _, _, _, _, _, _, _] _
                  refine g_op_not rfl rfl ?_
                  show G _ _ _ _ [_, _, _, _, _, _, _, _, _, _, _, _, _, _, _, _, _, _, _, _, _, _, _, _, _, _, _, _, _, _, _, _, _, _, _, _, _, _, _, _, _, _, _, _, _, _, _, _, _, _, _, _, _, _, _, _, _, _, _, _, _, _, _, _, _, _, _, _] _
                  refine g_op_not rfl rfl ?_
                  show G _ _ _ _ [_, _, _, _, _, _, _, _, _, _, _, _, _, _, _, _, _, _, _, _, _, _, _, _, _, _, _, _, _, _, _, _, _, _, _, _, _, _, _, _, _, _, _, _, _, _, _, _, _, _, _, _, _, _, _, _, _, _, _, _, _, _, _, _, _, _, _, _] _
                  refine g_op_not rfl rfl ?_
                  show G _ _ _ _ [_, _, _, _, _, _, _, _, _, _, _, _, _, _, _, _, _, _, _, _, _, _, _, _, _, _, _, _, _, _, _, _, _, _, _, _, _, _, _, _, _, _, _, _, _, _, _, _, _, _, _, _, _, _, _, _, _, _, _, _, _, _, _, _, _, _, _, _] _
                  refine g_op_not rfl rfl ?_
                  show G _ _ _ _ [_, _, _, _, _, _, _, _, _, _, _, _, _, _, _, _, _, _, _, _, _, _, _, _, _, _, _, _, _, _, _, _, _, _, _, _, _, _, _, _, _, _, _, _, _, _, _, _, _, _, _, _, _, _, _, _, _, _, _, _, _, _, _, _, _, _, _, _] _
                  refine g_op (v := Value.bool true) rfl rfl rfl ?_
                  show G _ _ _ _ [_, _, _, _, _, _, _, _, _, _, _, _, _, _, _, _, _, _, _, _, _, _, _, _, _, _, _, _, _, _, _, _, _, _, _, _, _, _, _, _, _, _, _, _, _, _, _, _, _, _, _, _, _, _, _, _, _, _, _, _, _, _, _, _, _, _, _, _] _
                  refine g_ops_nil ?_
                  refine g_cond_true rfl ?_
                  refine g_exit rfl ?_
                  have hs := hs.pull 1 rfl
                  have hs : St _ [_] _ := St.take (Γ' := [_]) hs
                  exact ha _ _ ⟨H, rfl, hs⟩
                · intro hb
                  rw [if_neg (b_beq_f hb)] at H
                  show G _ _ _ _ [_, _, _, _, _, _, _, _, _, _, _, _, _, _, _, _, _, _, _, _, _, _, _, _, _, _, _, _, _, _, _, _, _, _, _, _, _, _, _, _, _, _, _, _, _, _, _, _, _, _, _, _, _, _, _, _, _, _, _, _, _, _, _, _, _, _, _, _] _
                  refine g_op (v := Value.bool false) rfl rfl rfl ?_
                  show G _ _ _ _ [_, _, _, _, _, _, _, _, _, _, _, _, _, _, _, _, _, _, _, _, _, _, _, _, _, _, _, _, _, _, _, _, _, _, _, _, _, _, _, _, _, _, _, _, _, _, _, _, _, _, _, _, _, _, _, _, _, _, _, _, _, _, _, _, _, _, _, _] _
                  refine s_loadA rfl rfl (es := (([Value.int .i8 a1.f_Things, Value.int .i8 a1.f_Boat, v2] : List Value))) rfl rfl (fun _ => rfl) (n := 3) (fun _ => rfl) rfl (cells_all (hs.cells 1 rfl)) ?_
                  show G _ _ _ _ [_, _, _, _, _, _, _, _, _, _, _, _, _, _, _, _, _, _, _, _, _, _, _, _, _, _, _, _, _, _, _, _, _, _, _, _, _, _, _, _, _, _, _, _, _, _, _, _, _, _, _, _, _, _, _, _, _, _, _, _, _, _, _, _, _, _, _, _] _
                  refine s_loadA rfl rfl (es := (enc_S_impl_Bank r13)) rfl rfl (fun _ => rfl) (n := 2) (fun _ => rfl) (fk_S_impl_Bank.len _) (cells_all (hs.cells 0 rfl)) ?_
                  show G _ _ _ _ [_, _, _, _, _, _, _, _, _, _, _, _, _, _, _, _, _, _, _, _, _, _, _, _, _, _, _, _, _, _, _, _, _, _, _, _, _, _, _, _, _, _, _, _, _, _, _, _, _, _, _, _, _, _, _, _, _, _, _, _, _, _, _, _, _, _, _, _] _
                  obtain ⟨r16, Hr16, H⟩ := bind_get H
                  refine s_call (args := [Value.agg (([Value.int .i8 a1.f_Things, Value.int .i8 a1.f_Boat, v2] : List Value)).toArray, Value.agg (enc_S_impl_Bank r13).toArray]) rfl rfl (x_call rfl (callFunc_enter Try.func74 rfl rfl) rfl) (_impl_Ferry_isBank.calls (a1 := (⟨a1.f_Things, a1.f_Boat, a1.f_Rules⟩ : S_laws_Ferry)) (a4 := r13) (hs.rd hr3) Hr16) ?_
                  rintro _ w ⟨rfl, hs2⟩
                  have hs : St _ [_, _] _ := hs.call hs2
                  cases r16 with
                  | true =>
                    rw [if_pos rfl] at H
                    show G _ _ _ _ [_, _, _, _, _, _, _, _, _, _, _, _, _, _, _, _, _, _, _, _, _, _, _, _, _, _, _, _, _, _, _, _, _, _, _, _, _, _, _, _, _, _, _, _, _, _, _, _, _, _, _, _, _, _, _, _, _, _, _, _, _, _, _, _, _, _, _, _] _
                    refine g_op (v := Value.bool false) rfl rfl rfl ?_
                    show G _ _ _ _ [_, _, _, _, _, _, _, _, _, _, _, _, _, _, _, _, _, _, _, _, _, _, _, _, _, _, _, _, _, _, _, _, _, _, _, _, _, _, _, _, _, _, _, _, _, _, _, _, _, _, _, _, _, _, _, _, _, _, _, _, _, _, _, _, _, _, _, _] _
                    refine g_op (v := Value.bool false) rfl rfl rfl ?_
                    show G _ _ _ _ [_, _, _, _, _, _, _, _, _, _, _, _, _, _, _, _, _, _, _, _, _, _, _, _, _, _, _, _, _, _, _, _, _, _, _, _, _, _, _, _, _, _, _, _, _, _, _, _, _, _, _, _, _, _, _, _, _, _, _, _, _, _, _, _, _, _, _, _] _
                    refine g_ops_nil ?_
                    refine g_cond_false rfl ?_
                    refine g_skip ?_
                    refine g_seq ?_
                    refine g_region ?_
                    show G _ _ _ (.inRegion _ [0, 1, 2, 3, 4] :: _) _ _
                    refine s_loadA rfl rfl (es := (([Value.int .i8 a1.f_Things, Value.int .i8 a1.f_Boat, v2] : List Value))) rfl rfl (fun _ => rfl) (n := 3) (fun _ => rfl) rfl (cells_all (hs.cells 1 rfl)) ?_
                    show G _ _ _ _ [_, _, _, _, _, _, _, _, _, _, _, _, _, _, _, _, _, _, _, _, _, _, _, _, _, _, _, _, _, _, _, _, _, _, _, _, _, _, _, _, _, _, _, _, _, _, _, _, _, _, _, _, _, _, _, _, _, _, _, _, _, _, _, _, _, _, _, _] _
                    refine s_loadA rfl rfl (es := (enc_S_impl_Bank r13)) rfl rfl (fun _ => rfl) (n := 2) (fun _ => rfl) (fk_S_impl_Bank.len _) (cells_all (hs.cells 0 rfl)) ?_
                    show G _ _ _ _ [_, _, _, _, _, _, _, _, _, _, _, _, _, _, _, _, _, _, _, _, _, _, _, _, _, _, _, _, _, _, _, _, _, _, _, _, _, _, _, _, _, _, _, _, _, _, _, _, _, _, _, _, _, _, _, _, _, _, _, _, _, _, _, _, _, _, _, _] _
                    obtain ⟨r17, Hr17, H⟩ := bind_get H
                    refine s_call (args := [Value.agg (([Value.int .i8 a1.f_Things, Value.int .i8 a1.f_Boat, v2] : List Value)).toArray, Value.agg (enc_S_impl_Bank r13).toArray]) rfl rfl (x_call rfl (callFunc_enter Try.func52 rfl rfl) rfl) (_impl_Ferry_loads.calls (a1 := (⟨a1.f_Things, a1.f_Boat, a1.f_Rules⟩ : S_laws_Ferry)) (a4 := r13) (hs.rd hr3) Hr17) ?_
                    intro v18 w hs2
                    have hs : St _ [_, _, _] _ := hs.call hs2
                    show G _ _ _ _ [_, _, _, _, _, _, _, _, _, _, _, _, _, _, _, _, _, _, _, _, _, _, _, _, _, _, _, _, _, _, _, _, _, _, _, _, _, _, _, _, _, _, _, _, _, _, _, _, _, _, _, _, _, _, _, _, _, _, _, _, _, _, _, _, _, _, _, _] _
                    refine s_len (hs.row 0 rfl) rfl rfl rfl rfl rfl ?_
                    show G _ _ _ _ [_, _, _, _, _, _, _, _, _, _, _, _, _, _, _, _, _, _, _, _, _, _, _, _, _, _, _, _, _, _, _, _, _, _, _, _, _, _, _, _, _, _, _, _, _, _, _, _, _, _, _, _, _, _, _, _, _, _, _, _, _, _, _, _, _, _, _, _] _
                    refine g_op (v := Value.int .i64 0) rfl rfl rfl ?_
                    show G _ _ _ _ [_, _, _, _, _, _, _, _, _, _, _, _, _, _, _, _, _, _, _, _, _, _, _, _, _, _, _, _, _, _, _, _, _, _, _, _, _, _, _, _, _, _, _, _, _, _, _, _, _, _, _, _, _, _, _, _, _, _, _, _, _, _, _, _, _, _, _, _] _
                    refine g_ops_nil ?_
                    obtain ⟨o2_, Ho, Hr2_⟩ := bind_get H
                    refine g_block_join (J := fun t w => _impl_Ferry_isProof.a3 N x11 = some x11_ ∧ Fr t (fun O => ([O 0, v5, Value.pointer (some ⟨b6, 0, none⟩), O 3, O 4, O 5, O 6, O 7, O 8, O 9, O 10, O 11, O 12, O 13, O 14, O 15, O 16, O 17, O 18, O 19, v5, Value.int .i64 (a4.length : Int), Value.int .i64 x11, O 23, O 24, O 25, O 26, O 27, O 28, O 29, O 30, O 31, O 32, O 33, O 34, Value.agg (([Value.int .i8 a1.f_Things, Value.int .i8 a1.f_Boat, v2] : List Value)).toArray, Value.agg (enc_S_impl_Bank r13).toArray, Value.bool true, Value.bool false, O 39, O 40, O 41, O 42, O 43, O 44, O 45, O 46, O 47, O 48, O 49, O 50, O 51, O 52, O 53, O 54, O 55, O 56, O 57, O 58, O 59, O 60, O 61, O 62, O 63, O 64, O 65, O 66, O 67] : List Value)) ∧ St w0 [Cells b6 (([Value.int .i8 a1.f_Things, Value.int .i8 a1.f_Boat, v2] : List Value)) 32] w) ?_ ?_
                    · rintro t w ⟨H, hf, hs⟩
                      obtain ⟨O, rfl⟩ := hf.open
                      show G _ _ _ _ [_, _, _, _, _, _, _, _, _, _, _, _, _, _, _, _, _, _, _, _, _, _, _, _, _, _, _, _, _, _, _, _, _, _, _, _, _, _, _, _, _, _, _, _, _, _, _, _, _, _, _, _, _, _, _, _, _, _, _, _, _, _, _, _, _, _, _, _] _
                      unfold _impl_Ferry_isProof.a3 at H
                      refine g_inBlock ?_
                      have hs := hs.pull 0 rfl
                      have hs : St _ [_] _ := St.take (Γ' := []) hs
                      exact ha _ _ ⟨H, rfl, hs⟩
                    · intro ha2_
                      have hs := hs.pull 0 rfl
                      have hs := hs.pull 1 rfl
                      have hs := hs.pull 2 rfl
                      have hs : St _ [_, _, _] _ := St.take (Γ' := []) hs
                      refine g_loop_fuel (I := fun n_ t w => ∃ x20 : Int, rounds (fun s => _impl_Ferry_isProof.b3 N r17 r13 a1 a4 x11 s) n_ x20 = some o2_ ∧ Fr t (fun O => ([O 0, v5, Value.pointer (some ⟨b6, 0, none⟩), O 3, O 4, O 5, Value.int .i16 (rdL a4 x11 0), Value.pointer (some ⟨b14, 0, none⟩), O 8, O 9, O 10, O 11, O 12, O 13, O 14, O 15, O 16, O 17, O 18, O 19, v5, Value.int .i64 (a4.length : Int), Value.int .i64 x11, O 23, O 24, O 25, O 26, O 27, O 28, O 29, O 30, O 31, O 32, O 33, O 34, Value.agg (([Value.int .i8 a1.f_Things, Value.int .i8 a1.f_Boat, v2] : List Value)).toArray, Value.agg (enc_S_impl_Bank r13).toArray, Value.bool true, Value.bool false, O 39, O 40, O 41, v18, Value.int .i64 (r17.length : Int), Value.int .i64 x20, O 45, O 46, O 47, O 48, O 49, O 50, O 51, O 52, O 53, O 54, O 55, O 56, O 57, O 58, O 59, O 60, O 61, O 62, O 63, O 64, O 65, O 66, O 67] : List Value)) ∧ St w0 [Cells b6 (([Value.int .i8 a1.f_Things, Value.int .i8 a1.f_Boat, v2] : List Value)) 32, Cells b14 (enc_S_impl_Bank r13) 29, Row 27 (K.int .u16) v18 r17] w) N ⟨0, Ho, rfl, hs⟩ ?_ ?_
                      · rintro _ _ ⟨x20, h, _⟩
                        exact rounds_zero h
                      · intro n_ ih2_
                        rintro t w ⟨x20, Ho, hf, hs⟩
                        obtain ⟨O, rfl⟩ := hf.open
                        show G _ _ _ _ [_, _, _, _, _, _, _, _, _, _, _, _, _, _, _, _, _, _, _, _, _, _, _, _, _, _, _, _, _, _, _, _, _, _, _, _, _, _, _, _, _, _, _, _, _, _, _, _, _, _, _, _, _, _, _, _, _, _, _, _, _, _, _, _, _, _, _, _] _
                        obtain ⟨x10_, H, Hx2_⟩ := rounds_succ Ho
                        have H : _impl_Ferry_isProof.b3 N r17 r13 a1 a4 x11 x20 = some x10_ := H
                        unfold _impl_Ferry_isProof.b3 at H
                        refine g_seq ?_
                        refine g_region ?_
                        show G _ _ _ (.inRegion _ [0] :: _) _ _
                        refine g_op_b (B := decide (x20 < (r17.length : Int))) rfl rfl rfl ?_ ?_
                        · intro hb
                          rw [if_pos (b_dec_t hb)] at H
                          show G _ _ _ _ [_, _, _, _, _, _, _, _, _, _, _, _, _, _, _, _, _, _, _, _, _, _, _, _, _, _, _, _, _, _, _, _, _, _, _, _, _, _, _, _, _, _, _, _, _, _, _, _, _, _, _, _, _, _, _, _, _, _, _, _, _, _, _, _, _, _, _, _] _
                          refine g_ops_nil ?_
                          refine g_seq ?_
                          refine g_cond_true rfl ?_
                          refine g_skip ?_
                          refine g_seq ?_
                          refine g_block ?_
                          refine g_seq ?_
                          refine g_region ?_
                          show G _ _ _ (.inRegion _ [0, 1, 2] :: _) _ _
                          obtain ⟨g7, H⟩ := ite_get H
                          refine s_idx (fkI .u16) 0 (hs.row 2 rfl) rfl (fun _ => rfl) g7.1 g7.2 rfl rfl rfl rfl rfl ?_
                          intro p21 hp21 lp21 op21
                          show G _ _ _ _ [_, _, _, _, _, _, _, _, _, _, _, _, _, _, _, _, _, _, _, _, _, _, _, _, _, _, _, _, _, _, _, _, _, _, _, _, _, _, _, _, _, _, _, _, _, _, _, _, _, _, _, _, _, _, _, _, _, _, _, _, _, _, _, _, _, _, _, _] _
                          refine s_load1 rfl rfl (v := Value.int .u16 (rdL r17 x20 0)) rfl rfl (fun _ => rfl) hp21 ?_
                          show G _ _ _ _ [_, _, _, _, _, _, _, _, _, _, _, _, _, _, _, _, _, _, _, _, _, _, _, _, _, _, _, _, _, _, _, _, _, _, _, _, _, _, _, _, _, _, _, _, _, _, _, _, _, _, _, _, _, _, _, _, _, _, _, _, _, _, _, _, _, _, _, _] _
                          refine g_op (v := Value.int .u16 (rdL r17 x20 0)) rfl rfl rfl ?_
                          show G _ _ _ _ [_, _, _, _, _, _, _, _, _, _, _, _, _, _, _, _, _, _, _, _, _, _, _, _, _, _, _, _, _, _, _, _, _, _, _, _, _, _, _, _, _, _, _, _, _, _, _, _, _, _, _, _, _, _, _, _, _, _, _, _, _, _, _, _, _, _, _, _] _
                          refine g_ops_nil ?_
                          refine g_seq ?_
                          obtain ⟨r22, Hr22, H⟩ := bind_get H
                          obtain ⟨r23, Hr23, H⟩ := bind_get H
                          obtain ⟨gd8, H⟩ := ite_get H
                          obtain ⟨ad9_, ad9_N, ad9_C, had9_⟩ := sl_at (hs.rd hr1) gd8.1 gd8.2
                          refine g_name ?_
                          intro T hT
                          refine g_any (n := 9) rfl [0, 1, 2, 3, 4, 5, 6, 7, 8] [0, 1, 2, 3, 4, 5, 6, 7, 8] rfl rfl (Inv := fun D t w => ∃ O : Nat → Value, t = [O 0, v5, Value.pointer (some ⟨b6, 0, none⟩), O 3, O 4, O 5, Value.int .i16 (rdL a4 x11 0), Value.pointer (some ⟨b14, 0, none⟩), O 8, Value.int .u16 (rdL r17 x20 0), cnd (D 8) (Value.int .i16 (rdL a4 r23 0)) (O 10), O 11, O 12, O 13, O 14, O 15, O 16, O 17, O 18, O 19, v5, Value.int .i64 (a4.length : Int), Value.int .i64 x11, O 23, O 24, O 25, O 26, O 27, O 28, O 29, O 30, O 31, O 32, O 33, O 34, Value.agg (([Value.int .i8 a1.f_Things, Value.int .i8 a1.f_Boat, v2] : List Value)).toArray, Value.agg (enc_S_impl_Bank r13).toArray, Value.bool true, Value.bool false, O 39, O 40, O 41, v18, Value.int .i64 (r17.length : Int), Value.int .i64 x20, Value.bool true, Value.pointer (some p21), Value.int .u16 (rdL r17 x20 0), cnd (D 0) v5 (O 48), cnd (D 1) (Value.agg (([Value.int .i8 a1.f_Things, Value.int .i8 a1.f_Boat, v2] : List Value)).toArray) (O 49), cnd (D 2) (Value.agg (enc_S_impl_Bank r13).toArray) (O 50), cnd (D 3) (Value.int .u16 (rdL r17 x20 0)) (O 51), cnd (D 4) (Value.agg (enc_S_impl_Bank r22).toArray) (O 52), cnd (D 5) (Value.int .i64 r23) (O 53), cnd (D 6) (Value.pointer (some (ad9_.add (r23.toNat * 1)))) (O 54), cnd (D 7) (Value.int .i16 (rdL a4 r23 0)) (O 55), O 56, O 57, O 58, O 59, O 60, O 61, O 62, O 63, O 64, O 65, O 66, O 67] ∧ St w0 [Cells b6 (([Value.int .i8 a1.f_Things, Value.int .i8 a1.f_Boat, v2] : List Value)) 32, Cells b14 (enc_S_impl_Bank r13) 29, Row 27 (K.int .u16) v18 r17] w) ?_ ⟨⟨⟨⟨⟨⟨⟨⟨⟨trivial, ?_⟩, ?_⟩, ?_⟩, ?_⟩, ?_⟩, ?_⟩, ?_⟩, ?_⟩, ?_⟩ ?_
                          · intro w hh hbw
                            have hs := hs.samew hh hbw
                            exact ⟨fun i => T.getD i undef, (by subst hT; rfl), hs⟩
                          · intro D t w hD hp hcl hI rest hk
                            obtain ⟨O, ht, hs⟩ := hI
                            have q6_ : D 6 = false := not_yet (hcl.get 6 (by decide)) 0 0 rfl hD
                            have q7_ : D 7 = false := not_yet (hcl.get 7 (by decide)) 0 6 rfl q6_
                            have q8_ : D 8 = false := not_yet (hcl.get 8 (by decide)) 0 7 rfl q7_
                            have u0_ : upd D 0 0 = true := rfl
                            have u1_ : upd D 0 1 = D 1 := rfl
                            have u2_ : upd D 0 2 = D 2 := rfl
                            have u3_ : upd D 0 3 = D 3 := rfl
                            have u4_ : upd D 0 4 = D 4 := rfl
                            have u5_ : upd D 0 5 = D 5 := rfl
                            have u6_ : upd D 0 6 = D 6 := rfl
                            have u7_ : upd D 0 7 = D 7 := rfl
                            have u8_ : upd D 0 8 = D 8 := rfl
                            simp only [hD, q6_, q7_, q8_, cnd_t, cnd_f, Asc_t, Asc_f] at ht hs
                            subst ht
                            refine g_op (v := v5) rfl rfl rfl ?_
                            show G _ _ _ _ [_, _, _, _, _, _, _, _, _, _, _, _, _, _, _, _, _, _, _, _, _, _, _, _, _, _, _, _, _, _, _, _, _, _, _, _, _, _, _, _, _, _, _, _, _, _, _, _, _, _, _, _, _, _, _, _, _, _, _, _, _, _, _, _, _, _, _, _] _
                            exact hk _ _ ⟨O, (by simp only [u0_, u1_, u2_, u3_, u4_, u5_, u6_, u7_, u8_, q6_, q7_, q8_, cnd_t, cnd_f, Asc_t, Asc_f]), hs.cast (by first | rfl | simp only [List.take, List.drop, List.cons_append, List.nil_append, List.set_cons_zero, List.set_cons_succ, List.eraseIdx, u0_, u1_, u2_, u3_, u4_, u5_, u6_, u7_, u8_, q6_, q7_, q8_, cnd_t, cnd_f, Asc_t, Asc_f])⟩
                          · intro D t w hD hp hcl hI rest hk
                            obtain ⟨O, ht, hs⟩ := hI
                            have q5_ : D 5 = false := not_yet (hcl.get 5 (by decide)) 0 1 rfl hD
                            have q6_ : D 6 = false := not_yet (hcl.get 6 (by decide)) 1 5 rfl q5_
                            have q7_ : D 7 = false := not_yet (hcl.get 7 (by decide)) 0 6 rfl q6_
                            have q8_ : D 8 = false := not_yet (hcl.get 8 (by decide)) 0 7 rfl q7_
                            have u0_ : upd D 1 0 = D 0 := rfl
                            have u1_ : upd D 1 1 = true := rfl
                            have u2_ : upd D 1 2 = D 2 := rfl
                            have u3_ : upd D 1 3 = D 3 := rfl
                            have u4_ : upd D 1 4 = D 4 := rfl
                            have u5_ : upd D 1 5 = D 5 := rfl
                            have u6_ : upd D 1 6 = D 6 := rfl
                            have u7_ : upd D 1 7 = D 7 := rfl
                            have u8_ : upd D 1 8 = D 8 := rfl
                            simp only [hD, q5_, q6_, q7_, q8_, cnd_t, cnd_f, Asc_t, Asc_f] at ht hs
                            subst ht
                            refine s_loadA rfl rfl (es := (([Value.int .i8 a1.f_Things, Value.int .i8 a1.f_Boat, v2] : List Value))) rfl rfl (fun _ => rfl) (n := 3) (fun _ => rfl) rfl (cells_all (hs.cells 0 rfl)) ?_
                            show G _ _ _ _ [_, _, _, _, _, _, _, _, _, _, _, _, _, _, _, _, _, _, _, _, _, _, _, _, _, _, _, _, _, _, _, _, _, _, _, _, _, _, _, _, _, _, _, _, _, _, _, _, _, _, _, _, _, _, _, _, _, _, _, _, _, _, _, _, _, _, _, _] _
                            exact hk _ _ ⟨O, (by simp only [u0_, u1_, u2_, u3_, u4_, u5_, u6_, u7_, u8_, q5_, q6_, q7_, q8_, cnd_t, cnd_f, Asc_t, Asc_f]), hs.cast (by first | rfl | simp only [List.take, List.drop, List.cons_append, List.nil_append, List.set_cons_zero, List.set_cons_succ, List.eraseIdx, u0_, u1_, u2_, u3_, u4_, u5_, u6_, u7_, u8_, q5_, q6_, q7_, q8_, cnd_t, cnd_f, Asc_t, Asc_f])⟩
                          · intro D t w hD hp hcl hI rest hk
                            obtain ⟨O, ht, hs⟩ := hI
                            have q4_ : D 4 = false := not_yet (hcl.get 4 (by decide)) 0 2 rfl hD
                            have q5_ : D 5 = false := not_yet (hcl.get 5 (by decide)) 1 4 rfl q4_
                            have q6_ : D 6 = false := not_yet (hcl.get 6 (by decide)) 1 5 rfl q5_
                            have q7_ : D 7 = false := not_yet (hcl.get 7 (by decide)) 0 6 rfl q6_
                            have q8_ : D 8 = false := not_yet (hcl.get 8 (by decide)) 0 7 rfl q7_
                            have u0_ : upd D 2 0 = D 0 := rfl
                            have u1_ : upd D 2 1 = D 1 := rfl
                            have u2_ : upd D 2 2 = true := rfl
                            have u3_ : upd D 2 3 = D 3 := rfl
                            have u4_ : upd D 2 4 = D 4 := rfl
                            have u5_ : upd D 2 5 = D 5 := rfl
                            have u6_ : upd D 2 6 = D 6 := rfl
                            have u7_ : upd D 2 7 = D 7 := rfl
                            have u8_ : upd D 2 8 = D 8 := rfl
                            simp only [hD, q4_, q5_, q6_, q7_, q8_, cnd_t, cnd_f, Asc_t, Asc_f] at ht hs
                            subst ht
                            refine s_loadA rfl rfl (es := (enc_S_impl_Bank r13)) rfl rfl (fun _ => rfl) (n := 2) (fun _ => rfl) (fk_S_impl_Bank.len _) (cells_all (hs.cells 1 rfl)) ?_
                            show G _ _ _ _ [_, _, _, _, _, _, _, _, _, _, _, _, _, _, _, _, _, _, _, _, _, _, _, _, _, _, _, _, _, _, _, _, _, _, _, _, _, _, _, _, _, _, _, _, _, _, _, _, _, _, _, _, _, _, _, _, _, _, _, _, _, _, _, _, _, _, _, _] _
                            exact hk _ _ ⟨O, (by simp only [u0_, u1_, u2_, u3_, u4_, u5_, u6_, u7_, u8_, q4_, q5_, q6_, q7_, q8_, cnd_t, cnd_f, Asc_t, Asc_f]), hs.cast (by first | rfl | simp only [List.take, List.drop, List.cons_append, List.nil_append, List.set_cons_zero, List.set_cons_succ, List.eraseIdx, u0_, u1_, u2_, u3_, u4_, u5_, u6_, u7_, u8_, q4_, q5_, q6_, q7_, q8_, cnd_t, cnd_f, Asc_t, Asc_f])⟩
                          · intro D t w hD hp hcl hI rest hk
                            obtain ⟨O, ht, hs⟩ := hI
                            have q4_ : D 4 = false := not_yet (hcl.get 4 (by decide)) 1 3 rfl hD
                            have q5_ : D 5 = false := not_yet (hcl.get 5 (by decide)) 1 4 rfl q4_
                            have q6_ : D 6 = false := not_yet (hcl.get 6 (by decide)) 1 5 rfl q5_
                            have q7_ : D 7 = false := not_yet (hcl.get 7 (by decide)) 0 6 rfl q6_
                            have q8_ : D 8 = false := not_yet (hcl.get 8 (by decide)) 0 7 rfl q7_
                            have u0_ : upd D 3 0 = D 0 := rfl
                            have u1_ : upd D 3 1 = D 1 := rfl
                            have u2_ : upd D 3 2 = D 2 := rfl
                            have u3_ : upd D 3 3 = true := rfl
                            have u4_ : upd D 3 4 = D 4 := rfl
                            have u5_ : upd D 3 5 = D 5 := rfl
                            have u6_ : upd D 3 6 = D 6 := rfl
                            have u7_ : upd D 3 7 = D 7 := rfl
                            have u8_ : upd D 3 8 = D 8 := rfl
                            simp only [hD, q4_, q5_, q6_, q7_, q8_, cnd_t, cnd_f, Asc_t, Asc_f] at ht hs
                            subst ht
                            refine g_op (v := Value.int .u16 (rdL r17 x20 0)) rfl rfl rfl ?_
                            show G _ _ _ _ [_, _, _, _, _, _, _, _, _, _, _, _, _, _, _, _, _, _, _, _, _, _, _, _, _, _, _, _, _, _, _, _, _, _, _, _, _, _, _, _, _, _, _, _, _, _, _, _, _, _, _, _, _, _, _, _, _, _, _, _, _, _, _, _, _, _, _, _] _
                            exact hk _ _ ⟨O, (by simp only [u0_, u1_, u2_, u3_, u4_, u5_, u6_, u7_, u8_, q4_, q5_, q6_, q7_, q8_, cnd_t, cnd_f, Asc_t, Asc_f]), hs.cast (by first | rfl | simp only [List.take, List.drop, List.cons_append, List.nil_append, List.set_cons_zero, List.set_cons_succ, List.eraseIdx, u0_, u1_, u2_, u3_, u4_, u5_, u6_, u7_, u8_, q4_, q5_, q6_, q7_, q8_, cnd_t, cnd_f, Asc_t, Asc_f])⟩
                          · intro D t w hD hp hcl hI rest hk
                            obtain ⟨O, ht, hs⟩ := hI
                            obtain ⟨p2_, p3_, _⟩ := hp
                            have q5_ : D 5 = false := not_yet (hcl.get 5 (by decide)) 1 4 rfl hD
                            have q6_ : D 6 = false := not_yet (hcl.get 6 (by decide)) 1 5 rfl q5_
                            have q7_ : D 7 = false := not_yet (hcl.get 7 (by decide)) 0 6 rfl q6_
                            have q8_ : D 8 = false := not_yet (hcl.get 8 (by decide)) 0 7 rfl q7_
                            have u0_ : upd D 4 0 = D 0 := rfl
                            have u1_ : upd D 4 1 = D 1 := rfl
                            have u2_ : upd D 4 2 = D 2 := rfl
                            have u3_ : upd D 4 3 = D 3 := rfl
                            have u4_ : upd D 4 4 = true := rfl
                            have u5_ : upd D 4 5 = D 5 := rfl
                            have u6_ : upd D 4 6 = D 6 := rfl
                            have u7_ : upd D 4 7 = D 7 := rfl
                            have u8_ : upd D 4 8 = D 8 := rfl
                            simp only [hD, p2_, p3_, q5_, q6_, q7_, q8_, cnd_t, cnd_f, Asc_t, Asc_f] at ht hs
                            subst ht
                            refine s_call (args := [Value.agg (enc_S_impl_Bank r13).toArray, Value.int .u16 (rdL r17 x20 0)]) rfl rfl (x_call rfl (callFunc_enter Try.func48 rfl rfl) rfl) (impl_crossed.calls (a1 := r13) (a2 := rdL r17 x20 0) Hr22) ?_
                            rintro _ w ⟨rfl, hs2⟩
                            have hs : St _ [_, _, _] _ := hs.call hs2
                            show G _ _ _ _ [_, _, _, _, _, _, _, _, _, _, _, _, _, _, _, _, _, _, _, _, _, _, _, _, _, _, _, _, _, _, _, _, _, _, _, _, _, _, _, _, _, _, _, _, _, _, _, _, _, _, _, _, _, _, _, _, _, _, _, _, _, _, _, _, _, _, _, _] _
                            exact hk _ _ ⟨O, (by simp only [u0_, u1_, u2_, u3_, u4_, u5_, u6_, u7_, u8_, p2_, p3_, q5_, q6_, q7_, q8_, cnd_t, cnd_f, Asc_t, Asc_f]), hs.cast (by first | rfl | simp only [List.take, List.drop, List.cons_append, List.nil_append, List.set_cons_zero, List.set_cons_succ, List.eraseIdx, u0_, u1_, u2_, u3_, u4_, u5_, u6_, u7_, u8_, p2_, p3_, q5_, q6_, q7_, q8_, cnd_t, cnd_f, Asc_t, Asc_f])⟩
                          · intro D t w hD hp hcl hI rest hk
                            obtain ⟨O, ht, hs⟩ := hI
                            obtain ⟨p1_, p4_, _, _⟩ := hp
                            obtain ⟨p2_, p3_, _⟩ := (hcl.get 4 (by decide)) p4_
                            have q6_ : D 6 = false := not_yet (hcl.get 6 (by decide)) 1 5 rfl hD
                            have q7_ : D 7 = false := not_yet (hcl.get 7 (by decide)) 0 6 rfl q6_
                            have q8_ : D 8 = false := not_yet (hcl.get 8 (by decide)) 0 7 rfl q7_
                            have u0_ : upd D 5 0 = D 0 := rfl
                            have u1_ : upd D 5 1 = D 1 := rfl
                            have u2_ : upd D 5 2 = D 2 := rfl
                            have u3_ : upd D 5 3 = D 3 := rfl
                            have u4_ : upd D 5 4 = D 4 := rfl
                            have u5_ : upd D 5 5 = true := rfl
                            have u6_ : upd D 5 6 = D 6 := rfl
                            have u7_ : upd D 5 7 = D 7 := rfl
                            have u8_ : upd D 5 8 = D 8 := rfl
                            simp only [hD, p1_, p2_, p3_, p4_, q6_, q7_, q8_, cnd_t, cnd_f, Asc_t, Asc_f] at ht hs
                            subst ht
                            refine s_call (args := [Value.agg (([Value.int .i8 a1.f_Things, Value.int .i8 a1.f_Boat, v2] : List Value)).toArray, Value.agg (enc_S_impl_Bank r22).toArray]) rfl rfl (x_call rfl (callFunc_enter Try.func62 rfl rfl) rfl) (_impl_Ferry_number.calls (a1 := (⟨a1.f_Things, a1.f_Boat, a1.f_Rules⟩ : S_laws_Ferry)) (a4 := r22) (hs.rd hr3) Hr23) ?_
                            rintro _ w ⟨rfl, hs2⟩
                            have hs : St _ [_, _, _] _ := hs.call hs2
                            show G _ _ _ _ [_, _, _, _, _, _, _, _, _, _, _, _, _, _, _, _, _, _, _, _, _, _, _, _, _, _, _, _, _, _, _, _, _, _, _, _, _, _, _, _, _, _, _, _, _, _, _, _, _, _, _, _, _, _, _, _, _, _, _, _, _, _, _, _, _, _, _, _] _
                            exact hk _ _ ⟨O, (by simp only [u0_, u1_, u2_, u3_, u4_, u5_, u6_, u7_, u8_, p1_, p2_, p3_, p4_, q6_, q7_, q8_, cnd_t, cnd_f, Asc_t, Asc_f]), hs.cast (by first | rfl | simp only [List.take, List.drop, List.cons_append, List.nil_append, List.set_cons_zero, List.set_cons_succ, List.eraseIdx, u0_, u1_, u2_, u3_, u4_, u5_, u6_, u7_, u8_, p1_, p2_, p3_, p4_, q6_, q7_, q8_, cnd_t, cnd_f, Asc_t, Asc_f])⟩
                          · intro D t w hD hp hcl hI rest hk
                            obtain ⟨O, ht, hs⟩ := hI
                            obtain ⟨p0_, p5_, _⟩ := hp
                            obtain ⟨p1_, p4_, _, _⟩ := (hcl.get 5 (by decide)) p5_
                            obtain ⟨p2_, p3_, _⟩ := (hcl.get 4 (by decide)) p4_
                            have q7_ : D 7 = false := not_yet (hcl.get 7 (by decide)) 0 6 rfl hD
                            have q8_ : D 8 = false := not_yet (hcl.get 8 (by decide)) 0 7 rfl q7_
                            have u0_ : upd D 6 0 = D 0 := rfl
                            have u1_ : upd D 6 1 = D 1 := rfl
                            have u2_ : upd D 6 2 = D 2 := rfl
                            have u3_ : upd D 6 3 = D 3 := rfl
                            have u4_ : upd D 6 4 = D 4 := rfl
                            have u5_ : upd D 6 5 = D 5 := rfl
                            have u6_ : upd D 6 6 = true := rfl
                            have u7_ : upd D 6 7 = D 7 := rfl
                            have u8_ : upd D 6 8 = D 8 := rfl
                            simp only [hD, p0_, p1_, p2_, p3_, p4_, p5_, q7_, q8_, cnd_t, cnd_f, Asc_t, Asc_f] at ht hs
                            subst ht
                            refine s_idxD (κ := (K.int .i16)) (m := 1) rfl (hs.rd hr1) rfl (fun _ => rfl) gd8.1 gd8.2 had9_ rfl rfl rfl rfl rfl ?_
                            show G _ _ _ _ [_, _, _, _, _, _, _, _, _, _, _, _, _, _, _, _, _, _, _, _, _, _, _, _, _, _, _, _, _, _, _, _, _, _, _, _, _, _, _, _, _, _, _, _, _, _, _, _, _, _, _, _, _, _, _, _, _, _, _, _, _, _, _, _, _, _, _, _] _
                            exact hk _ _ ⟨O, (by simp only [u0_, u1_, u2_, u3_, u4_, u5_, u6_, u7_, u8_, p0_, p1_, p2_, p3_, p4_, p5_, q7_, q8_, cnd_t, cnd_f, Asc_t, Asc_f]), hs.cast (by first | rfl | simp only [List.take, List.drop, List.cons_append, List.nil_append, List.set_cons_zero, List.set_cons_succ, List.eraseIdx, u0_, u1_, u2_, u3_, u4_, u5_, u6_, u7_, u8_, p0_, p1_, p2_, p3_, p4_, p5_, q7_, q8_, cnd_t, cnd_f, Asc_t, Asc_f])⟩
                          · intro D t w hD hp hcl hI rest hk
                            obtain ⟨O, ht, hs⟩ := hI
                            obtain ⟨p6_, _⟩ := hp
                            obtain ⟨p0_, p5_, _⟩ := (hcl.get 6 (by decide)) p6_
                            obtain ⟨p1_, p4_, _, _⟩ := (hcl.get 5 (by decide)) p5_
                            obtain ⟨p2_, p3_, _⟩ := (hcl.get 4 (by decide)) p4_
                            have q8_ : D 8 = false := not_yet (hcl.get 8 (by decide)) 0 7 rfl hD
                            have u0_ : upd D 7 0 = D 0 := rfl
                            have u1_ : upd D 7 1 = D 1 := rfl
                            have u2_ : upd D 7 2 = D 2 := rfl
                            have u3_ : upd D 7 3 = D 3 := rfl
                            have u4_ : upd D 7 4 = D 4 := rfl
                            have u5_ : upd D 7 5 = D 5 := rfl
                            have u6_ : upd D 7 6 = D 6 := rfl
                            have u7_ : upd D 7 7 = true := rfl
                            have u8_ : upd D 7 8 = D 8 := rfl
                            simp only [hD, p0_, p1_, p2_, p3_, p4_, p5_, p6_, q8_, cnd_t, cnd_f, Asc_t, Asc_f] at ht hs
                            subst ht
                            refine s_load1 rfl rfl (v := Value.int .i16 (rdL a4 r23 0)) rfl rfl (fun _ => rfl) (cellsAt_of (fkI .i16) 0 (hs.rd hr1) had9_ gd8.1 gd8.2) ?_
                            show G _ _ _ _ [_, _, _, _, _, _, _, _, _, _, _, _, _, _, _, _, _, _, _, _, _, _, _, _, _, _, _, _, _, _, _, _, _, _, _, _, _, _, _, _, _, _, _, _, _, _, _, _, _, _, _, _, _, _, _, _, _, _, _, _, _, _, _, _, _, _, _, _] _
                            exact hk _ _ ⟨O, (by simp only [u0_, u1_, u2_, u3_, u4_, u5_, u6_, u7_, u8_, p0_, p1_, p2_, p3_, p4_, p5_, p6_, q8_, cnd_t, cnd_f, Asc_t, Asc_f]), hs.cast (by first | rfl | simp only [List.take, List.drop, List.cons_append, List.nil_append, List.set_cons_zero, List.set_cons_succ, List.eraseIdx, u0_, u1_, u2_, u3_, u4_, u5_, u6_, u7_, u8_, p0_, p1_, p2_, p3_, p4_, p5_, p6_, q8_, cnd_t, cnd_f, Asc_t, Asc_f])⟩
                          · intro D t w hD hp hcl hI rest hk
                            obtain ⟨O, ht, hs⟩ := hI
                            obtain ⟨p7_, p5_, p0_, p1_, p2_, p3_, p4_, _, p6_, _, _⟩ := hp
                            have u0_ : upd D 8 0 = D 0 := rfl
                            have u1_ : upd D 8 1 = D 1 := rfl
                            have u2_ : upd D 8 2 = D 2 := rfl
                            have u3_ : upd D 8 3 = D 3 := rfl
                            have u4_ : upd D 8 4 = D 4 := rfl
                            have u5_ : upd D 8 5 = D 5 := rfl
                            have u6_ : upd D 8 6 = D 6 := rfl
                            have u7_ : upd D 8 7 = D 7 := rfl
                            have u8_ : upd D 8 8 = true := rfl
                            simp only [hD, p0_, p1_, p2_, p3_, p4_, p5_, p6_, p7_, cnd_t, cnd_f, Asc_t, Asc_f] at ht hs
                            subst ht
                            refine g_op (v := Value.int .i16 (rdL a4 r23 0)) rfl rfl rfl ?_
                            show G _ _ _ _ [_, _, _, _, _, _, _, _, _, _, _, _, _, _, _, _, _, _, _, _, _, _, _, _, _, _, _, _, _, _, _, _, _, _, _, _, _, _, _, _, _, _, _, _, _, _, _, _, _, _, _, _, _, _, _, _, _, _, _, _, _, _, _, _, _, _, _, _] _
                            exact hk _ _ ⟨O, (by simp only [u0_, u1_, u2_, u3_, u4_, u5_, u6_, u7_, u8_, p0_, p1_, p2_, p3_, p4_, p5_, p6_, p7_, cnd_t, cnd_f, Asc_t, Asc_f]), hs.cast (by first | rfl | simp only [List.take, List.drop, List.cons_append, List.nil_append, List.set_cons_zero, List.set_cons_succ, List.eraseIdx, u0_, u1_, u2_, u3_, u4_, u5_, u6_, u7_, u8_, p0_, p1_, p2_, p3_, p4_, p5_, p6_, p7_, cnd_t, cnd_f, Asc_t, Asc_f])⟩
                          · intro D t w hall hI
                            obtain ⟨O, ht, hs⟩ := hI
                            have p0_ : D 0 = true := hall 0 (by decide)
                            have p1_ : D 1 = true := hall 1 (by decide)
                            have p2_ : D 2 = true := hall 2 (by decide)
                            have p3_ : D 3 = true := hall 3 (by decide)
                            have p4_ : D 4 = true := hall 4 (by decide)
                            have p5_ : D 5 = true := hall 5 (by decide)
                            have p6_ : D 6 = true := hall 6 (by decide)
                            have p7_ : D 7 = true := hall 7 (by decide)
                            have p8_ : D 8 = true := hall 8 (by decide)
                            simp only [p0_, p1_, p2_, p3_, p4_, p5_, p6_, p7_, p8_, cnd_t, cnd_f, Asc_t, Asc_f] at ht hs
                            subst ht
                            refine g_seq ?_
                            refine g_region ?_
                            show G _ _ _ (.inRegion _ [0, 1, 2, 3, 4, 5, 6, 7, 8, 9] :: _) _ _
                            refine g_op (v := Value.int .i16 (rdL a4 r23 0)) rfl rfl rfl ?_
                            show G _ _ _ _ [_, _, _, _, _, _, _, _, _, _, _, _, _, _, _, _, _, _, _, _, _, _, _, _, _, _, _, _, _, _, _, _, _, _, _, _, _, _, _, _, _, _, _, _, _, _, _, _, _, _, _, _, _, _, _, _, _, _, _, _, _, _, _, _, _, _, _, _] _
                            refine g_op_b (B := (rdL a4 r23 0) == (-1)) rfl rfl rfl ?_ ?_
                            · intro hb
                              rw [if_pos (b_beq_t hb)] at H
                              show G _ _ _ _ [_, _, _, _, _, _, _, _, _, _, _, _, _, _, _, _, _, _, _, _, _, _, _, _, _, _, _, _, _, _, _, _, _, _, _, _, _, _, _, _, _, _, _, _, _, _, _, _, _, _, _, _, _, _, _, _, _, _, _, _, _, _, _, _, _, _, _, _] _
                              refine g_op (v := Value.bool true) rfl rfl rfl ?_
                              show G _ _ _ _ [_, _, _, _, _, _, _, _, _, _, _, _, _, _, _, _, _, _, _, _, _, _, _, _, _, _, _, _, _, _, _, _, _, _, _, _, _, _, _, _, _, _, _, _, _, _, _, _, _, _, _, _, _, _, _, _, _, _, _, _, _, _, _, _, _, _, _, _] _
                              refine g_op_not rfl rfl ?_
                              show G _ _ _ _ [_, _, _, _, _, _, _, _, _, _, _, _, _, _, _, _, _, _, _, _, _, _, _, _, _, _, _, _, _, _, _, _, _, _, _, _, _, _, _, _, _, _, _, _, _, _, _, _, _, _, _, _, _, _, _, _, _, _, _, _, _, _, _, _, _, _, _, _] _
                              refine g_op_not rfl rfl ?_
                              show G _ _ _ _ [_, _, _, _, _, _, _, _, _, _, _, _, _, _, _, _, _, _, _, _, _, _, _, _, _, _, _, _, _, _, _, _, _, _, _, _, _, _, _, _, _, _, _, _, _, _, _, _, _, _, _, _, _, _, _, _, _, _, _, _, _, _, _, _, _, _, _, _] _
                              refine g_op_not rfl rfl ?_
                              show G _ _ _ _ [_, _, _, _, _, _, _, _, _, _, _, _, _, _, _, _, _, _, _, _, _, _, _, _, _, _, _, _, _, _, _, _, _, _, _, _, _, _, _, _, _, _, _, _, _, _, _, _, _, _, _, _, _, _, _, _, _, _, _, _, _, _, _, _, _, _, _, _] _
                              refine g_op_not rfl rfl ?_
                              show G _ _ _ _ [_, _, _, _, _, _, _, _, _, _, _, _, _, _, _, _, _, _, _, _, _, _, _, _, _, _, _, _, _, _, _, _, _, _, _, _, _, _, _, _, _, _, _, _, _, _, _, _, _, _, _, _, _, _, _, _, _, _, _, _, _, _, _, _, _, _, _, _] _
                              refine g_op_not rfl rfl ?_
                              show G _ _ _ _ [_, _, _, _, _, _, _, _, _, _, _, _, _, _, _, _, _, _, _, _, _, _, _, _, _, _, _, _, _, _, _, _, _, _, _, _, _, _, _, _, _, _, _, _, _, _, _, _, _, _, _, _, _, _, _, _, _, _, _, _, _, _, _, _, _, _, _, _] _
                              refine g_op_not rfl rfl ?_
                              show G _ _ _ _ [_, _, _, _, _, _, _, _, _, _, _, _, _, _, _, _, _, _, _, _, _, _, _, _, _, _, _, _, _, _, _, _, _, _, _, _, _, _, _, _, _, _, _, _, _, _, _, _, _, _, _, _, _, _, _, _, _, _, _, _, _, _, _, _, _, _, _, _] _
                              refine g_op (v := Value.bool true) rfl rfl rfl ?_
                              show G _ _ _ _ [_, _, _, _, _, _, _, _, _, _, _, _, _, _, _, _, _, _, _, _, _, _, _, _, _, _, _, _, _, _, _, _, _, _, _, _, _, _, _, _, _, _, _, _, _, _, _, _, _, _, _, _, _, _, _, _, _, _, _, _, _, _, _, _, _, _, _, _] _
                              refine g_ops_nil ?_
                              refine g_cond_true rfl ?_
                              refine g_seq ?_
                              refine g_region ?_
                              show G _ _ _ (.inRegion _ [0] :: _) _ _
                              refine g_op (v := Value.bool false) rfl rfl rfl ?_
                              show G _ _ _ _ [_, _, _, _, _, _, _, _, _, _, _, _, _, _, _, _, _, _, _, _, _, _, _, _, _, _, _, _, _, _, _, _, _, _, _, _, _, _, _, _, _, _, _, _, _, _, _, _, _, _, _, _, _, _, _, _, _, _, _, _, _, _, _, _, _, _, _, _] _
                              refine g_ops_nil ?_
                              obtain rfl := Option.some.inj H
                              subst Hx2_
                              have H := Option.some.inj Hr2_
                              subst H
                              subst Hx1_
                              have H := Option.some.inj Hr1_
                              subst H
                              refine g_ret Try.func57 (v := Value.bool false) (res1 rfl rfl) ?_
                              have hs : St _ [] _ := St.take (Γ' := [_, _, _]) hs
                              exact ⟨_, rfl, rfl, hs⟩
                            · intro hb
                              rw [if_neg (b_beq_f hb)] at H
                              show G _ _ _ _ [_, _, _, _, _, _, _, _, _, _, _, _, _, _, _, _, _, _, _, _, _, _, _, _, _, _, _, _, _, _, _, _, _, _, _, _, _, _, _, _, _, _, _, _, _, _, _, _, _, _, _, _, _, _, _, _, _, _, _, _, _, _, _, _, _, _, _, _] _
                              refine g_op (v := Value.bool false) rfl rfl rfl ?_
                              show G _ _ _ _ [_, _, _, _, _, _, _, _, _, _, _, _, _, _, _, _, _, _, _, _, _, _, _, _, _, _, _, _, _, _, _, _, _, _, _, _, _, _, _, _, _, _, _, _, _, _, _, _, _, _, _, _, _, _, _, _, _, _, _, _, _, _, _, _, _, _, _, _] _
                              refine g_op (v := Value.int .i16 (rdL a4 r23 0)) rfl rfl rfl ?_
                              show G _ _ _ _ [_, _, _, _, _, _, _, _, _, _, _, _, _, _, _, _, _, _, _, _, _, _, _, _, _, _, _, _, _, _, _, _, _, _, _, _, _, _, _, _, _, _, _, _, _, _, _, _, _, _, _, _, _, _, _, _, _, _, _, _, _, _, _, _, _, _, _, _] _
                              refine g_op (v := Value.int .i64 (i64w (rdL a4 r23 0))) rfl rfl rfl ?_
                              show G _ _ _ _ [_, _, _, _, _, _, _, _, _, _, _, _, _, _, _, _, _, _, _, _, _, _, _, _, _, _, _, _, _, _, _, _, _, _, _, _, _, _, _, _, _, _, _, _, _, _, _, _, _, _, _, _, _, _, _, _, _, _, _, _, _, _, _, _, _, _, _, _] _
                              refine g_op (v := Value.int .i16 (rdL a4 x11 0)) rfl rfl rfl ?_
                              show G _ _ _ _ [_, _, _, _, _, _, _, _, _, _, _, _, _, _, _, _, _, _, _, _, _, _, _, _, _, _, _, _, _, _, _, _, _, _, _, _, _, _, _, _, _, _, _, _, _, _, _, _, _, _, _, _, _, _, _, _, _, _, _, _, _, _, _, _, _, _, _, _] _
                              refine g_op (v := Value.int .i64 (i64w (rdL a4 x11 0))) rfl rfl rfl ?_
                              show G _ _ _ _ [_, _, _, _, _, _, _, _, _, _, _, _, _, _, _, _, _, _, _, _, _, _, _, _, _, _, _, _, _, _, _, _, _, _, _, _, _, _, _, _, _, _, _, _, _, _, _, _, _, _, _, _, _, _, _, _, _, _, _, _, _, _, _, _, _, _, _, _] _
                              refine g_op (v := Value.int .i64 (i64w ((i64w (rdL a4 x11 0)) + 1))) rfl rfl rfl ?_
                              show G _ _ _ _ [_, _, _, _, _, _, _, _, _, _, _, _, _, _, _, _, _, _, _, _, _, _, _, _, _, _, _, _, _, _, _, _, _, _, _, _, _, _, _, _, _, _, _, _, _, _, _, _, _, _, _, _, _, _, _, _, _, _, _, _, _, _, _, _, _, _, _, _] _
                              refine g_op_b (B := decide ((i64w (rdL a4 r23 0)) > (i64w ((i64w (rdL a4 x11 0)) + 1)))) rfl rfl rfl ?_ ?_
                              · intro hb
                                rw [if_pos (b_dec_t hb)] at H
                                show G _ _ _ _ [_, _, _, _, _, _, _, _, _, _, _, _, _, _, _, _, _, _, _, _, _, _, _, _, _, _, _, _, _, _, _, _, _, _, _, _, _, _, _, _, _, _, _, _, _, _, _, _, _, _, _, _, _, _, _, _, _, _, _, _, _, _, _, _, _, _, _, _] _
                                refine g_op (v := Value.bool true) rfl rfl rfl ?_
                                show G _ _ _ _ [_, _, _, _, _, _, _, _, _, _, _, _, _, _, _, _, _, _, _, _, _, _, _, _, _, _, _, _, _, _, _, _, _, _, _, _, _, _, _, _, _, _, _, _, _, _, _, _, _, _, _, _, _, _, _, _, _, _, _, _, _, _, _, _, _, _, _, _] _
                                refine g_ops_nil ?_
                                refine g_cond_true rfl ?_
                                refine g_seq ?_
                                refine g_region ?_
                                show G _ _ _ (.inRegion _ [0] :: _) _ _
                                refine g_op (v := Value.bool false) rfl rfl rfl ?_
                                show G _ _ _ _ [_, _, _, _, _, _, _, _, _, _, _, _, _, _, _, _, _, _, _, _, _, _, _, _, _, _, _, _, _, _, _, _, _, _, _, _, _, _, _, _, _, _, _, _, _, _, _, _, _, _, _, _, _, _, _, _, _, _, _, _, _, _, _, _, _, _, _, _] _
                                refine g_ops_nil ?_
                                obtain rfl := Option.some.inj H
                                subst Hx2_
                                have H := Option.some.inj Hr2_
                                subst H
                                subst Hx1_
                                have H := Option.some.inj Hr1_
                                subst H
                                refine g_ret Try.func57 (v := Value.bool false) (res1 rfl rfl) ?_
                                have hs : St _ [] _ := St.take (Γ' := [_, _, _]) hs
                                exact ⟨_, rfl, rfl, hs⟩
                              · intro hb
                                rw [if_neg (b_dec_f hb)] at H
                                show G _ _ _ _ [_, _, _, _, _, _, _, _, _, _, _, _, _, _, _, _, _, _, _, _, _, _, _, _, _, _, _, _, _, _, _, _, _, _, _, _, _, _, _, _, _, _, _, _, _, _, _, _, _, _, _, _, _, _, _, _, _, _, _, _, _, _, _, _, _, _, _, _] _
                                refine g_op (v := Value.bool false) rfl rfl rfl ?_
                                show G _ _ _ _ [_, _, _, _, _, _, _, _, _, _, _, _, _, _, _, _, _, _, _, _, _, _, _, _, _, _, _, _, _, _, _, _, _, _, _, _, _, _, _, _, _, _, _, _, _, _, _, _, _, _, _, _, _, _, _, _, _, _, _, _, _, _, _, _, _, _, _, _] _
                                refine g_ops_nil ?_
                                refine g_cond_false rfl ?_
                                refine g_skip ?_
                                refine g_inBlock ?_
                                refine g_region ?_
                                show G _ _ _ (.inRegion _ [0, 1] :: _) _ _
                                refine g_op (v := Value.int .i64 (i64w (x20 + 1))) rfl rfl rfl ?_
                                show G _ _ _ _ [_, _, _, _, _, _, _, _, _, _, _, _, _, _, _, _, _, _, _, _, _, _, _, _, _, _, _, _, _, _, _, _, _, _, _, _, _, _, _, _, _, _, _, _, _, _, _, _, _, _, _, _, _, _, _, _, _, _, _, _, _, _, _, _, _, _, _, _] _
                                refine g_op (v := Value.int .i64 (i64w (x20 + 1))) rfl rfl rfl ?_
                                show G _ _ _ _ [_, _, _, _, _, _, _, _, _, _, _, _, _, _, _, _, _, _, _, _, _, _, _, _, _, _, _, _, _, _, _, _, _, _, _, _, _, _, _, _, _, _, _, _, _, _, _, _, _, _, _, _, _, _, _, _, _, _, _, _, _, _, _, _, _, _, _, _] _
                                refine g_ops_nil ?_
                                obtain rfl := Option.some.inj H
                                have hs := hs.pull 2 rfl
                                have hs := hs.pull 2 rfl
                                have hs := hs.pull 2 rfl
                                have hs : St _ [_, _, _] _ := St.take (Γ' := []) hs
                                exact ih2_ _ _ ⟨i64w (x20 + 1), Hx2_, rfl, hs⟩
                        · intro hb
                          rw [if_neg (b_dec_f hb)] at H
                          show G _ _ _ _ [_, _, _, _, _, _, _, _, _, _, _, _, _, _, _, _, _, _, _, _, _, _, _, _, _, _, _, _, _, _, _, _, _, _, _, _, _, _, _, _, _, _, _, _, _, _, _, _, _, _, _, _, _, _, _, _, _, _, _, _, _, _, _, _, _, _, _, _] _
                          refine g_ops_nil ?_
                          refine g_seq ?_
                          refine g_cond_false rfl ?_
                          obtain rfl := Option.some.inj H
                          subst Hx2_
                          have hs := hs.pull 0 rfl
                          have hs : St _ [_] _ := St.take (Γ' := [_, _]) hs
                          refine g_exit rfl ?_
                          exact ha2_ _ _ ⟨Hr2_, rfl, hs⟩
                  | false =>
                    rw [if_neg Bool.false_ne_true] at H
                    show G _ _ _ _ [_, _, _, _, _, _, _, _, _, _, _, _, _, _, _, _, _, _, _, _, _, _, _, _, _, _, _, _, _, _, _, _, _, _, _, _, _, _, _, _, _, _, _, _, _, _, _, _, _, _, _, _, _, _, _, _, _, _, _, _, _, _, _, _, _, _, _, _] _
                    refine g_op (v := Value.bool true) rfl rfl rfl ?_
                    show G _ _ _ _ [_, _, _, _, _, _, _, _, _, _, _, _, _, _, _, _, _, _, _, _, _, _, _, _, _, _, _, _, _, _, _, _, _, _, _, _, _, _, _, _, _, _, _, _, _, _, _, _, _, _, _, _, _, _, _, _, _, _, _, _, _, _, _, _, _, _, _, _] _
                    refine g_op (v := Value.bool true) rfl rfl rfl ?_
                    show G _ _ _ _ [_, _, _, _, _, _, _, _, _, _, _, _, _, _, _, _, _, _, _, _, _, _, _, _, _, _, _, _, _, _, _, _, _, _, _, _, _, _, _, _, _, _, _, _, _, _, _, _, _, _, _, _, _, _, _, _, _, _, _, _, _, _, _, _, _, _, _, _] _
                    refine g_ops_nil ?_
                    refine g_cond_true rfl ?_
                    refine g_exit rfl ?_
                    have hs := hs.pull 1 rfl
                    have hs : St _ [_] _ := St.take (Γ' := [_]) hs
                    exact ha _ _ ⟨H, rfl, hs⟩
          · intro hb
            rw [if_neg (b_dec_f hb)] at H
            show G _ _ _ _ [_, _, _, _, _, _, _, _, _, _, _, _, _, _, _, _, _, _, _, _, _, _, _, _, _, _, _, _, _, _, _, _, _, _, _, _, _, _, _, _, _, _, _, _, _, _, _, _, _, _, _, _, _, _, _, _, _, _, _, _, _, _, _, _, _, _, _, _] _
            refine g_ops_nil ?_
            refine g_seq ?_
            refine g_cond_false rfl ?_
            obtain rfl := Option.some.inj H
            subst Hx1_
            have hs : St _ [] _ := St.take (Γ' := [_]) hs
            refine g_exit rfl ?_
            exact ha1_ _ _ ⟨Hr1_, rfl, hs⟩

end Go.Proofs.YtgoblgmidejdgaaX
