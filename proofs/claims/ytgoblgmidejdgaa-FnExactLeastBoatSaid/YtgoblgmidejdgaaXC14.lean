/- Contracts, printed by gen.py. -/
import Derived.Test.YtgoblgmidejdgaaXC13
namespace Go.Proofs.YtgoblgmidejdgaaX
open Go Go.RowKit Go.Proofs
set_option linter.unusedVariables false
set_option linter.unusedSimpArgs false
/- function 25 spec_LeastBoat -/
def spec_LeastBoat.post (w0 : World) (r : (Int × Int)) (v : Value) (w : World) : Prop := v = Value.tuple #[Value.int .i64 r.1, Value.int .i64 r.2] ∧ St w0 [] w
set_option maxHeartbeats 8000000 in
set_option maxRecDepth 100000 in
theorem spec_LeastBoat.calls {N : Nat} {a1 : S_laws_Ferry} {v2 : Value} {w0 : World} {r : (Int × Int)} (hr3 : RdRow (K.int .u16) w0 v2 a1.f_Rules) (H : spec_LeastBoat.f N a1 = some r) :
    Calls Try.prog 25 #[Value.agg (([Value.int .i8 a1.f_Things, Value.int .i8 a1.f_Boat, v2] : List Value)).toArray] w0 fun e w => ∃ v, e = .returned v ∧ spec_LeastBoat.post w0 r v w := by
  unfold spec_LeastBoat.f at H
  have hs : St w0 [] w0 := St.refl w0
  refine calls_of_g (n := 25) Try.func25 rfl rfl ?_
  show G _ _ _ _ [_, _, _, _, _, _, _, _, _, _, _, _, _, _, _, _, _, _, _, _, _, _, _, _, _, _] _
  refine g_seq ?_
  refine g_region ?_
  show G _ _ _ (.inRegion _ [0, 1, 2] :: _) _ _
  refine s_box hs rfl rfl (cs := (([Value.int .i8 a1.f_Things, Value.int .i8 a1.f_Boat, v2] : List Value))) rfl rfl ?_
  intro b4 w hs
  show G _ _ _ _ [_, _, _, _, _, _, _, _, _, _, _, _, _, _, _, _, _, _, _, _, _, _, _, _, _, _] _
  refine g_op (v := Value.int .i64 0) rfl rfl rfl ?_
  show G _ _ _ _ [_, _, _, _, _, _, _, _, _, _, _, _, _, _, _, _, _, _, _, _, _, _, _, _, _, _] _
  refine g_op (v := Value.int .i64 0) rfl rfl rfl ?_
  show G _ _ _ _ [_, _, _, _, _, _, _, _, _, _, _, _, _, _, _, _, _, _, _, _, _, _, _, _, _, _] _
  refine g_ops_nil ?_
  refine g_seq ?_
  refine g_seq ?_
  refine g_region ?_
  show G _ _ _ (.inRegion _ [0, 1] :: _) _ _
  obtain ⟨r6, Hr6, H⟩ := bind_get H
  refine s_call (args := [Value.pointer (some ⟨b4, 0, none⟩)]) rfl rfl (x_call rfl (callFunc_enter Try.func42 rfl rfl) rfl) (spec_l05Ok.calls (a1 := (⟨a1.f_Things, a1.f_Boat, a1.f_Rules⟩ : S_laws_Ferry)) (hs.rd hr3) (hs.cells 0 rfl) Hr6) ?_
  rintro _ w ⟨rfl, hs2⟩
  have hs : St _ [_] _ := hs.call hs2
  cases r6 with
  | true =>
    rw [if_pos rfl] at H
    show G _ _ _ _ [_, _, _, _, _, _, _, _, _, _, _, _, _, _, _, _, _, _, _, _, _, _, _, _, _, _] _
    refine g_op (v := Value.bool false) rfl rfl rfl ?_
    show G _ _ _ _ [_, _, _, _, _, _, _, _, _, _, _, _, _, _, _, _, _, _, _, _, _, _, _, _, _, _] _
    refine g_ops_nil ?_
    refine g_cond_false rfl ?_
    refine g_skip ?_
    refine g_seq ?_
    refine g_region ?_
    show G _ _ _ (.inRegion _ [0] :: _) _ _
    refine g_op (v := Value.int .i8 0) rfl rfl rfl ?_
    show G _ _ _ _ [_, _, _, _, _, _, _, _, _, _, _, _, _, _, _, _, _, _, _, _, _, _, _, _, _, _] _
    refine g_ops_nil ?_
    obtain ⟨o1_, Ho, Hr1_⟩ := bind_get H
    refine g_block_join (J := fun t w => spec_LeastBoat.a0 N = some r ∧ Fr t (fun O => ([O 0, O 1, O 2, O 3, O 4, O 5, O 6, O 7, O 8, O 9, O 10, O 11, O 12, O 13, O 14, O 15, O 16, O 17, O 18, O 19, O 20, O 21, O 22, O 23, O 24, O 25] : List Value)) ∧ St w0 [] w) ?_ ?_
    ·
     rintro t w ⟨H, hf, hs⟩
     obtain ⟨O, rfl⟩ := hf.open
     show G _ _ _ _ [_, _, _, _, _, _, _, _, _, _, _, _, _, _, _, _, _, _, _, _, _, _, _, _, _, _] _
     unfold spec_LeastBoat.a0 at H
     cases H
    ·
     intro ha1_
     have hs := hs.pull 0 rfl
     have hs : St _ [_] _ := St.take (Γ' := []) hs
     refine g_loop_fuel (I := fun n_ t w => ∃ x7 : Int, rounds (fun s => spec_LeastBoat.b0 N a1 s) n_ x7 = some o1_ ∧ Fr t (fun O => ([O 0, Value.pointer (some ⟨b4, 0, none⟩), O 2, O 3, Value.int .i8 x7, O 5, O 6, O 7, O 8, O 9, O 10, O 11, O 12, O 13, O 14, O 15, O 16, O 17, O 18, O 19, O 20, O 21, O 22, O 23, O 24, O 25] : List Value)) ∧ St w0 [Cells b4 (([Value.int .i8 a1.f_Things, Value.int .i8 a1.f_Boat, v2] : List Value)) 32] w) N ⟨0, Ho, rfl, hs⟩ ?_ ?_
     ·
      rintro _ _ ⟨x7, h, _⟩
      exact rounds_zero h
     ·
      intro n_ ih1_
      rintro t w ⟨x7, Ho, hf, hs⟩
      obtain ⟨O, rfl⟩ := hf.open
      show G _ _ _ _ [_, _, _, _, _, _, _, _, _, _, _, _, _, _, _, _, _, _, _, _, _, _, _, _, _, _] _
      obtain ⟨x7_, H, Hx1_⟩ := rounds_succ Ho
      have H : spec_LeastBoat.b0 N a1 x7 = some x7_ := H
      unfold spec_LeastBoat.b0 at H
      refine g_block ?_
      refine g_seq ?_
      refine g_region ?_
      show G _ _ _ (.inRegion _ [0, 1, 2, 3, 4, 5, 6, 7] :: _) _ _
      refine g_op (v := Value.pointer (some ⟨b4, 0, none⟩)) rfl rfl rfl ?_
      refine s_load1 rfl rfl (v := Value.int .i8 a1.f_Things) rfl rfl (fun _ => rfl) (cells_load (hs.cells 0 rfl) 0 1 rfl) ?_
      show G _ _ _ _ [_, _, _, _, _, _, _, _, _, _, _, _, _, _, _, _, _, _, _, _, _, _, _, _, _, _] _
      refine g_op (v := Value.int .i8 x7) rfl rfl rfl ?_
      refine g_op (v := Value.pointer (some ⟨b4, 2, none⟩)) rfl rfl rfl ?_
      refine s_load1 rfl rfl (v := v2) rfl rfl (fun _ => rfl) (cells_load (hs.cells 0 rfl) 2 1 rfl) ?_
      show G _ _ _ _ [_, _, _, _, _, _, _, _, _, _, _, _, _, _, _, _, _, _, _, _, _, _, _, _, _, _] _
      refine g_op (v := Value.agg (([Value.int .i8 a1.f_Things, Value.int .i8 x7, v2] : List Value)).toArray) rfl rfl (x_buildS (cs := (([Value.int .i8 a1.f_Things, Value.int .i8 x7, v2] : List Value))) (segs := [[Value.int .i8 0], [Value.int .i8 0], [Value.slice none 0 0]]) rfl rfl (fun _ => rfl) ⟨rfl, (fun _ => rfl), rfl, (fun _ => rfl), rfl, (fun _ => rfl), trivial⟩ (by simp only [List.map_cons, List.map_nil, List.forall_mem_cons, List.not_mem_nil, false_implies, implies_true, and_true]; exact ⟨⟨_, rfl, rfl⟩, ⟨_, rfl, rfl⟩, ⟨_, rfl, slSize (hs.rd hr3)⟩⟩) (by first | rfl | (simp [ev, encA, slCells (hs.rd hr3)]; done) | (simp [ev, encA, slCells (hs.rd hr3)]; rfl))) ?_
      show G _ _ _ _ [_, _, _, _, _, _, _, _, _, _, _, _, _, _, _, _, _, _, _, _, _, _, _, _, _, _] _
      refine s_alloc hs rfl rfl (z := (Value.agg #[Value.int .i8 0, Value.int .i8 0, Value.slice none 0 0])) (cs := (([Value.int .i8 0, Value.int .i8 0, Value.slice none 0 0] : List Value))) rfl (fun _ => rfl) rfl ?_
      intro b8 w hs
      show G _ _ _ _ [_, _, _, _, _, _, _, _, _, _, _, _, _, _, _, _, _, _, _, _, _, _, _, _, _, _] _
      refine s_storeAll (n := 3) hs rfl rfl rfl (vs := (([Value.int .i8 a1.f_Things, Value.int .i8 x7, v2] : List Value))) rfl rfl rfl (fun _ => rfl) rfl (by intro v hv; simp only [List.mem_append, List.mem_cons, List.not_mem_nil, or_false] at hv; repeat (first | (subst hv; first | rfl | exact slOne (hs.rd hr3)) | (rcases hv with hv | hv))) ?_
      intro w hs
      refine g_ops_nil ?_
      refine g_seq ?_
      refine g_seq ?_
      refine g_lay (n := 8) rfl [0, 1, 2, 3, 4, 5, 6, 7] [0, 1, 2, 3, 4, 5, 6, 7] rfl rfl ?_
      intro rest w hh hbw hO
      have hs := hs.samew hh hbw
      show G _ _ _ _ [_, _, _, _, _, _, _, _, _, _, _, _, _, _, _, _, _, _, _, _, _, _, _, _, _, _] _
      obtain ⟨rest, rfl, hO1_⟩ := ord_one (m := 0) hO rfl 0 (m' := 1) (by decide +kernel) rfl
      clear hO
      obtain ⟨r10, Hr10, H⟩ := bind_get H
      refine s_call (args := [Value.pointer (some ⟨b8, 0, none⟩)]) rfl rfl (x_call rfl (callFunc_enter Try.func53 rfl rfl) rfl) (spec_l05Find.calls (a1 := (⟨a1.f_Things, x7, a1.f_Rules⟩ : S_laws_Ferry)) (hs.rd hr3) (hs.cells 0 rfl) Hr10) ?_
      rintro _ w ⟨b11, v12, v13, v14, v15, rfl, hs2⟩
      have hs : St _ [_, _, _, _, _, _, _] _ := hs.call hs2
      show G _ _ _ _ [_, _, _, _, _, _, _, _, _, _, _, _, _, _, _, _, _, _, _, _, _, _, _, _, _, _] _
      obtain ⟨r21, Hr21, H⟩ := bind_get H
      refine g_name ?_
      intro T hT
      refine g_layer (m0 := 1) hO1_ rfl 31 [1, 2, 3, 4] [0, 1, 3, 7, 1, 31, 63, 127] (by decide +kernel) (fun D t w => ∃ O : Nat → Value, t = [O 0, Value.pointer (some ⟨b4, 0, none⟩), O 2, O 3, Value.int .i8 x7, Value.pointer (some ⟨b8, 0, none⟩), O 6, O 7, Value.pointer (some ⟨b4, 0, none⟩), Value.int .i8 a1.f_Things, Value.int .i8 x7, Value.pointer (some ⟨b4, 2, none⟩), v2, Value.agg (([Value.int .i8 a1.f_Things, Value.int .i8 x7, v2] : List Value)).toArray, Value.pointer (some ⟨b11, 0, none⟩), cnd (D 1) (Value.pointer (some ⟨b11, 0, none⟩)) (O 15), cnd (D 2) (Value.pointer (some ⟨b11, 0, none⟩)) (O 16), cnd (D 3) v12 (O 17), cnd (D 4) (Value.int .i64 r21) (O 18), O 19, O 20, O 21, O 22, O 23, O 24, O 25] ∧ St w0 [Cells b11 (([v12, v13, v14, v15] : List Value)) 75, Row 72 (K.int .i16) v12 r10.f_table, Row 2 (K.int .i64) v13 r10.f_ways, Row 2 (K.int .i64) v14 r10.f_from, Row 27 (K.int .u16) v15 r10.f_by, Cells b8 (([Value.int .i8 a1.f_Things, Value.int .i8 x7, v2] : List Value)) 32, Cells b4 (([Value.int .i8 a1.f_Things, Value.int .i8 a1.f_Boat, v2] : List Value)) 32] w) ?_ ⟨?_, ⟨?_, ⟨?_, ⟨?_, trivial⟩⟩⟩⟩ ?_
      · exact ⟨fun i => T.getD i undef, (by subst hT; rfl), hs⟩
      ·
       intro D t w hD hp hcl hI rest hk
       obtain ⟨O, ht, hs⟩ := hI
       have hp : AllDone D [0] := hp
       obtain ⟨p0_, _⟩ := hp
       have q2_ : D 2 = false := not_yet (show D 2 = true → AllDone D [1] from hcl 2 (by decide)) 0 1 rfl hD
       have q3_ : D 3 = false := not_yet (show D 3 = true → AllDone D [2] from hcl 3 (by decide)) 0 2 rfl q2_
       have u1_ : upd D 1 1 = true := rfl; have u2_ : upd D 1 2 = D 2 := rfl; have u3_ : upd D 1 3 = D 3 := rfl; have u4_ : upd D 1 4 = D 4 := rfl
       simp only [hD, q2_, q3_, cnd_t, cnd_f, Asc_t, Asc_f] at ht hs
       subst ht
       refine g_op (v := Value.pointer (some ⟨b11, 0, none⟩)) rfl rfl rfl ?_
       show G _ _ _ _ [_, _, _, _, _, _, _, _, _, _, _, _, _, _, _, _, _, _, _, _, _, _, _, _, _, _] _
       exact hk _ _ ⟨O, (by simp only [u1_, u2_, u3_, u4_, q2_, q3_, cnd_t, cnd_f, Asc_t, Asc_f]), hs.cast (by first | rfl | simp only [List.take, List.drop, List.cons_append, List.nil_append, List.set_cons_zero, List.set_cons_succ, List.eraseIdx, u1_, u2_, u3_, u4_, q2_, q3_, cnd_t, cnd_f, Asc_t, Asc_f])⟩
      ·
       intro D t w hD hp hcl hI rest hk
       obtain ⟨O, ht, hs⟩ := hI
       have hp : AllDone D [1] := hp
       obtain ⟨p1_, _⟩ := hp
       have q3_ : D 3 = false := not_yet (show D 3 = true → AllDone D [2] from hcl 3 (by decide)) 0 2 rfl hD
       have u1_ : upd D 2 1 = D 1 := rfl; have u2_ : upd D 2 2 = true := rfl; have u3_ : upd D 2 3 = D 3 := rfl; have u4_ : upd D 2 4 = D 4 := rfl
       simp only [hD, p1_, q3_, cnd_t, cnd_f, Asc_t, Asc_f] at ht hs
       subst ht
       refine g_op (v := Value.pointer (some ⟨b11, 0, none⟩)) rfl rfl rfl ?_
       show G _ _ _ _ [_, _, _, _, _, _, _, _, _, _, _, _, _, _, _, _, _, _, _, _, _, _, _, _, _, _] _
       exact hk _ _ ⟨O, (by simp only [u1_, u2_, u3_, u4_, p1_, q3_, cnd_t, cnd_f, Asc_t, Asc_f]), hs.cast (by first | rfl | simp only [List.take, List.drop, List.cons_append, List.nil_append, List.set_cons_zero, List.set_cons_succ, List.eraseIdx, u1_, u2_, u3_, u4_, p1_, q3_, cnd_t, cnd_f, Asc_t, Asc_f])⟩
      ·
       intro D t w hD hp hcl hI rest hk
       obtain ⟨O, ht, hs⟩ := hI
       have hp : AllDone D [2] := hp
       obtain ⟨p2_, _⟩ := hp
       obtain ⟨p1_, _⟩ := (show D 2 = true → AllDone D [1] from hcl 2 (by decide)) p2_
       have u1_ : upd D 3 1 = D 1 := rfl; have u2_ : upd D 3 2 = D 2 := rfl; have u3_ : upd D 3 3 = true := rfl; have u4_ : upd D 3 4 = D 4 := rfl
       simp only [hD, p1_, p2_, cnd_t, cnd_f, Asc_t, Asc_f] at ht hs
       subst ht
       refine s_load1 rfl rfl (v := v12) rfl rfl (fun _ => rfl) (cells_load (hs.cells 0 rfl) 0 1 rfl) ?_
       show G _ _ _ _ [_, _, _, _, _, _, _, _, _, _, _, _, _, _, _, _, _, _, _, _, _, _, _, _, _, _] _
       exact hk _ _ ⟨O, (by simp only [u1_, u2_, u3_, u4_, p1_, p2_, cnd_t, cnd_f, Asc_t, Asc_f]), hs.cast (by first | rfl | simp only [List.take, List.drop, List.cons_append, List.nil_append, List.set_cons_zero, List.set_cons_succ, List.eraseIdx, u1_, u2_, u3_, u4_, p1_, p2_, cnd_t, cnd_f, Asc_t, Asc_f])⟩
      ·
       intro D t w hD hp hcl hI rest hk
       obtain ⟨O, ht, hs⟩ := hI
       have hp : AllDone D [0] := hp
       obtain ⟨p0_, _⟩ := hp
       have u1_ : upd D 4 1 = D 1 := rfl; have u2_ : upd D 4 2 = D 2 := rfl; have u3_ : upd D 4 3 = D 3 := rfl; have u4_ : upd D 4 4 = true := rfl
       simp only [hD, cnd_t, cnd_f, Asc_t, Asc_f] at ht hs
       subst ht
       refine s_call (args := [Value.pointer (some ⟨b8, 0, none⟩)]) rfl rfl (x_call rfl (callFunc_enter Try.func54 rfl rfl) rfl) (spec_l05Last.calls (a1 := (⟨a1.f_Things, x7, a1.f_Rules⟩ : S_laws_Ferry)) (hs.rd hr3) (hs.cells 5 rfl) Hr21) ?_
       rintro _ w ⟨rfl, hs2⟩
       have hs : St _ [_, _, _, _, _, _, _] _ := hs.call hs2
       show G _ _ _ _ [_, _, _, _, _, _, _, _, _, _, _, _, _, _, _, _, _, _, _, _, _, _, _, _, _, _] _
       exact hk _ _ ⟨O, (by simp only [u1_, u2_, u3_, u4_, cnd_t, cnd_f, Asc_t, Asc_f]), hs.cast (by first | rfl | simp only [List.take, List.drop, List.cons_append, List.nil_append, List.set_cons_zero, List.set_cons_succ, List.eraseIdx, u1_, u2_, u3_, u4_, cnd_t, cnd_f, Asc_t, Asc_f])⟩
      ·
       intro D t w rest hall hO2_ hI
       obtain ⟨O, ht, hs⟩ := hI
       have p1_ : D 1 = true := hall 1 (by decide) rfl
       have p2_ : D 2 = true := hall 2 (by decide) rfl
       have p3_ : D 3 = true := hall 3 (by decide) rfl
       have p4_ : D 4 = true := hall 4 (by decide) rfl
       simp only [p1_, p2_, p3_, p4_, cnd_t, cnd_f, Asc_t, Asc_f] at ht hs
       subst ht
       obtain ⟨rest, rfl, hO3_⟩ := ord_one (m := 31) hO2_ rfl 5 (m' := 63) (by decide +kernel) rfl
       clear hO2_
       obtain ⟨g4, H⟩ := ite_get H
       refine s_idx (fkI .i16) 0 (hs.row 1 rfl) rfl (fun _ => rfl) g4.1 g4.2 rfl rfl rfl rfl rfl ?_
       intro p22 hp22 lp22 op22
       show G _ _ _ _ [_, _, _, _, _, _, _, _, _, _, _, _, _, _, _, _, _, _, _, _, _, _, _, _, _, _] _
       obtain ⟨rest, rfl, hO5_⟩ := ord_one (m := 63) hO3_ rfl 6 (m' := 127) (by decide +kernel) rfl
       clear hO3_
       refine s_load1 rfl rfl (v := Value.int .i16 (rdL r10.f_table r21 0)) rfl rfl (fun _ => rfl) hp22 ?_
       show G _ _ _ _ [_, _, _, _, _, _, _, _, _, _, _, _, _, _, _, _, _, _, _, _, _, _, _, _, _, _] _
       obtain ⟨rest, rfl, hO6_⟩ := ord_one (m := 127) hO5_ rfl 7 (m' := 255) (by decide +kernel) rfl
       clear hO5_
       refine g_op_b (B := decide ((rdL r10.f_table r21 0) ≥ 0)) rfl rfl rfl ?_ ?_
       ·
        intro hb
        rw [if_pos (b_dec_t hb)] at H
        show G _ _ _ _ [_, _, _, _, _, _, _, _, _, _, _, _, _, _, _, _, _, _, _, _, _, _, _, _, _, _] _
        obtain rfl := ord_end hO6_ rfl (by decide +kernel)
        refine g_ops_nil ?_
        refine g_cond_true rfl ?_
        refine g_seq ?_
        refine g_region ?_
        show G _ _ _ (.inRegion _ [0, 1, 2, 3] :: _) _ _
        refine g_op (v := Value.int .i8 x7) rfl rfl rfl ?_
        refine g_op (v := Value.int .i64 (i64w x7)) rfl rfl rfl ?_
        refine g_op (v := Value.int .i64 (i64w x7)) rfl rfl rfl ?_
        show G _ _ _ _ [_, _, _, _, _, _, _, _, _, _, _, _, _, _, _, _, _, _, _, _, _, _, _, _, _, _] _
        refine g_op (v := Value.int .i64 0) rfl rfl rfl ?_
        show G _ _ _ _ [_, _, _, _, _, _, _, _, _, _, _, _, _, _, _, _, _, _, _, _, _, _, _, _, _, _] _
        refine g_ops_nil ?_
        obtain rfl := Option.some.inj H
        subst Hx1_
        have H := Option.some.inj Hr1_
        subst H
        refine g_ret Try.func25 (v := Value.tuple #[Value.int .i64 (i64w x7), Value.int .i64 0]) (resN (l := Try.f25.results.toList) (vs := [Value.int .i64 (i64w x7), Value.int .i64 0]) rfl ⟨rfl, rfl, trivial⟩ (by simp)) ?_
        have hs : St _ [] _ := St.take (Γ' := [_, _, _, _, _, _, _]) hs
        exact ⟨_, rfl, rfl, hs⟩
       ·
        intro hb
        rw [if_neg (b_dec_f hb)] at H
        show G _ _ _ _ [_, _, _, _, _, _, _, _, _, _, _, _, _, _, _, _, _, _, _, _, _, _, _, _, _, _] _
        obtain rfl := ord_end hO6_ rfl (by decide +kernel)
        refine g_ops_nil ?_
        refine g_cond_false rfl ?_
        refine g_skip ?_
        refine g_region ?_
        show G _ _ _ (.inRegion _ [0, 1, 2] :: _) _ _
        refine g_op (v := Value.int .i8 x7) rfl rfl rfl ?_
        refine g_op (v := Value.int .i8 (i8w (x7 + 1))) rfl rfl rfl ?_
        show G _ _ _ _ [_, _, _, _, _, _, _, _, _, _, _, _, _, _, _, _, _, _, _, _, _, _, _, _, _, _] _
        refine g_op (v := Value.int .i8 (i8w (x7 + 1))) rfl rfl rfl ?_
        show G _ _ _ _ [_, _, _, _, _, _, _, _, _, _, _, _, _, _, _, _, _, _, _, _, _, _, _, _, _, _] _
        refine g_ops_nil ?_
        refine g_inBlock ?_
        obtain rfl := Option.some.inj H
        have hs := hs.pull 6 rfl
        have hs : St _ [_] _ := St.take (Γ' := [_, _, _, _, _, _]) hs
        exact ih1_ _ _ ⟨i8w (x7 + 1), Hx1_, rfl, hs⟩
  | false =>
    rw [if_neg Bool.false_ne_true] at H
    show G _ _ _ _ [_, _, _, _, _, _, _, _, _, _, _, _, _, _, _, _, _, _, _, _, _, _, _, _, _, _] _
    refine g_op (v := Value.bool true) rfl rfl rfl ?_
    show G _ _ _ _ [_, _, _, _, _, _, _, _, _, _, _, _, _, _, _, _, _, _, _, _, _, _, _, _, _, _] _
    refine g_ops_nil ?_
    refine g_cond_true rfl ?_
    refine g_seq ?_
    refine g_region ?_
    show G _ _ _ (.inRegion _ [0, 1] :: _) _ _
    refine g_op (v := Value.int .i64 0) rfl rfl rfl ?_
    show G _ _ _ _ [_, _, _, _, _, _, _, _, _, _, _, _, _, _, _, _, _, _, _, _, _, _, _, _, _, _] _
    refine g_op (v := Value.int .i64 1) rfl rfl rfl ?_
    show G _ _ _ _ [_, _, _, _, _, _, _, _, _, _, _, _, _, _, _, _, _, _, _, _, _, _, _, _, _, _] _
    refine g_ops_nil ?_
    obtain rfl := Option.some.inj H
    refine g_ret Try.func25 (v := Value.tuple #[Value.int .i64 0, Value.int .i64 1]) (resN (l := Try.f25.results.toList) (vs := [Value.int .i64 0, Value.int .i64 1]) rfl ⟨rfl, rfl, trivial⟩ (by simp)) ?_
    have hs : St _ [] _ := St.take (Γ' := [_]) hs
    exact ⟨_, rfl, rfl, hs⟩

/- function 26 impl_LeastBoat -/
def impl_LeastBoat.post (w0 : World) (r : (Int × Int)) (v : Value) (w : World) : Prop := v = Value.tuple #[Value.int .i64 r.1, Value.int .i64 r.2] ∧ St w0 [] w
set_option maxHeartbeats 8000000 in
set_option maxRecDepth 100000 in
theorem impl_LeastBoat.calls {N : Nat} {a1 : S_laws_Ferry} {v2 : Value} {w0 : World} {r : (Int × Int)} (hr3 : RdRow (K.int .u16) w0 v2 a1.f_Rules) (H : impl_LeastBoat.f N a1 = some r) :
    Calls Try.prog 26 #[Value.agg (([Value.int .i8 a1.f_Things, Value.int .i8 a1.f_Boat, v2] : List Value)).toArray] w0 fun e w => ∃ v, e = .returned v ∧ impl_LeastBoat.post w0 r v w := by
  unfold impl_LeastBoat.f at H
  have hs : St w0 [] w0 := St.refl w0
  refine calls_of_g (n := 30) Try.func26 rfl rfl ?_
  show G _ _ _ _ [_, _, _, _, _, _, _, _, _, _, _, _, _, _, _, _, _, _, _, _, _, _, _, _, _, _, _, _, _, _, _] _
  refine g_seq ?_
  refine g_region ?_
  show G _ _ _ (.inRegion _ [0, 1, 2] :: _) _ _
  refine s_box hs rfl rfl (cs := (([Value.int .i8 a1.f_Things, Value.int .i8 a1.f_Boat, v2] : List Value))) rfl rfl ?_
  intro b4 w hs
  show G _ _ _ _ [_, _, _, _, _, _, _, _, _, _, _, _, _, _, _, _, _, _, _, _, _, _, _, _, _, _, _, _, _, _, _] _
  refine g_op (v := Value.int .i64 0) rfl rfl rfl ?_
  show G _ _ _ _ [_, _, _, _, _, _, _, _, _, _, _, _, _, _, _, _, _, _, _, _, _, _, _, _, _, _, _, _, _, _, _] _
  refine g_op (v := Value.int .i64 0) rfl rfl rfl ?_
  show G _ _ _ _ [_, _, _, _, _, _, _, _, _, _, _, _, _, _, _, _, _, _, _, _, _, _, _, _, _, _, _, _, _, _, _] _
  refine g_ops_nil ?_
  refine g_seq ?_
  refine g_seq ?_
  refine g_region ?_
  show G _ _ _ (.inRegion _ [0, 1, 2] :: _) _ _
  refine s_loadA rfl rfl (es := (([Value.int .i8 a1.f_Things, Value.int .i8 a1.f_Boat, v2] : List Value))) rfl rfl (fun _ => rfl) (n := 3) (fun _ => rfl) rfl (cells_all (hs.cells 0 rfl)) ?_
  show G _ _ _ _ [_, _, _, _, _, _, _, _, _, _, _, _, _, _, _, _, _, _, _, _, _, _, _, _, _, _, _, _, _, _, _] _
  obtain ⟨r6, Hr6, H⟩ := bind_get H
  refine s_call (args := [Value.agg (([Value.int .i8 a1.f_Things, Value.int .i8 a1.f_Boat, v2] : List Value)).toArray]) rfl rfl (x_call rfl (callFunc_enter Try.func45 rfl rfl) rfl) (impl_ValidFerry.calls (a1 := (⟨a1.f_Things, a1.f_Boat, a1.f_Rules⟩ : S_laws_Ferry)) (hs.rd hr3) Hr6) ?_
  rintro _ w ⟨rfl, hs2⟩
  have hs : St _ [_] _ := hs.call hs2
  cases r6 with
  | true =>
    rw [if_pos rfl] at H
    show G _ _ _ _ [_, _, _, _, _, _, _, _, _, _, _, _, _, _, _, _, _, _, _, _, _, _, _, _, _, _, _, _, _, _, _] _
    refine g_op (v := Value.bool false) rfl rfl rfl ?_
    show G _ _ _ _ [_, _, _, _, _, _, _, _, _, _, _, _, _, _, _, _, _, _, _, _, _, _, _, _, _, _, _, _, _, _, _] _
    refine g_ops_nil ?_
    refine g_cond_false rfl ?_
    refine g_skip ?_
    refine g_seq ?_
    refine g_seq ?_
    refine g_region ?_
    show G _ _ _ (.inRegion _ [0, 1, 2, 3] :: _) _ _
    refine g_op (v := Value.pointer (some ⟨b4, 0, none⟩)) rfl rfl rfl ?_
    refine s_load1 rfl rfl (v := Value.int .i8 a1.f_Things) rfl rfl (fun _ => rfl) (cells_load (hs.cells 0 rfl) 0 1 rfl) ?_
    show G _ _ _ _ [_, _, _, _, _, _, _, _, _, _, _, _, _, _, _, _, _, _, _, _, _, _, _, _, _, _, _, _, _, _, _] _
    refine g_op (v := Value.int .i8 (i8w (a1.f_Things + 1))) rfl rfl rfl ?_
    show G _ _ _ _ [_, _, _, _, _, _, _, _, _, _, _, _, _, _, _, _, _, _, _, _, _, _, _, _, _, _, _, _, _, _, _] _
    refine g_op (v := Value.int .i8 0) rfl rfl rfl ?_
    refine g_ops_nil ?_
    obtain ⟨o1_, Ho, Hr1_⟩ := bind_get H
    refine g_block_join (J := fun t w => impl_LeastBoat.a0 N = some r ∧ Fr t (fun O => ([O 0, O 1, O 2, O 3, O 4, O 5, O 6, O 7, O 8, O 9, O 10, O 11, O 12, O 13, O 14, O 15, O 16, O 17, O 18, O 19, O 20, O 21, O 22, O 23, O 24, O 25, O 26, O 27, O 28, O 29, O 30] : List Value)) ∧ St w0 [] w) ?_ ?_
    ·
     rintro t w ⟨H, hf, hs⟩
     obtain ⟨O, rfl⟩ := hf.open
     show G _ _ _ _ [_, _, _, _, _, _, _, _, _, _, _, _, _, _, _, _, _, _, _, _, _, _, _, _, _, _, _, _, _, _, _] _
     unfold impl_LeastBoat.a0 at H
     refine g_seq ?_
     refine g_region ?_
     show G _ _ _ (.inRegion _ [0, 1] :: _) _ _
     refine g_op (v := Value.int .i64 0) rfl rfl rfl ?_
     show G _ _ _ _ [_, _, _, _, _, _, _, _, _, _, _, _, _, _, _, _, _, _, _, _, _, _, _, _, _, _, _, _, _, _, _] _
     refine g_op (v := Value.int .i64 6) rfl rfl rfl ?_
     show G _ _ _ _ [_, _, _, _, _, _, _, _, _, _, _, _, _, _, _, _, _, _, _, _, _, _, _, _, _, _, _, _, _, _, _] _
     refine g_ops_nil ?_
     obtain rfl := Option.some.inj H
     refine g_ret Try.func26 (v := Value.tuple #[Value.int .i64 0, Value.int .i64 6]) (resN (l := Try.f26.results.toList) (vs := [Value.int .i64 0, Value.int .i64 6]) rfl ⟨rfl, rfl, trivial⟩ (by simp)) ?_
     have hs : St _ [] _ := St.take (Γ' := []) hs
     exact ⟨_, rfl, rfl, hs⟩
    ·
     intro ha1_
     have hs := hs.pull 0 rfl
     have hs : St _ [_] _ := St.take (Γ' := []) hs
     refine g_loop_fuel (I := fun n_ t w => ∃ x7 : Int, rounds (fun s => impl_LeastBoat.b0 N a1 s) n_ x7 = some o1_ ∧ Fr t (fun O => ([O 0, Value.pointer (some ⟨b4, 0, none⟩), O 2, O 3, O 4, O 5, O 6, O 7, O 8, O 9, O 10, O 11, Value.int .i8 (i8w (a1.f_Things + 1)), Value.int .i8 x7, O 14, O 15, O 16, O 17, O 18, O 19, O 20, O 21, O 22, O 23, O 24, O 25, O 26, O 27, O 28, O 29, O 30] : List Value)) ∧ St w0 [Cells b4 (([Value.int .i8 a1.f_Things, Value.int .i8 a1.f_Boat, v2] : List Value)) 32] w) N ⟨0, Ho, rfl, hs⟩ ?_ ?_
     ·
      rintro _ _ ⟨x7, h, _⟩
      exact rounds_zero h
     ·
      intro n_ ih1_
      rintro t w ⟨x7, Ho, hf, hs⟩
      obtain ⟨O, rfl⟩ := hf.open
      show G _ _ _ _ [_, _, _, _, _, _, _, _, _, _, _, _, _, _, _, _, _, _, _, _, _, _, _, _, _, _, _, _, _, _, _] _
      obtain ⟨x1_, H, Hx1_⟩ := rounds_succ Ho
      have H : impl_LeastBoat.b0 N a1 x7 = some x1_ := H
      unfold impl_LeastBoat.b0 at H
      refine g_seq ?_
      refine g_region ?_
      show G _ _ _ (.inRegion _ [0] :: _) _ _
      refine g_op_b (B := decide (x7 < (i8w (a1.f_Things + 1)))) rfl rfl rfl ?_ ?_
      ·
       intro hb
       rw [if_pos (b_dec_t hb)] at H
       show G _ _ _ _ [_, _, _, _, _, _, _, _, _, _, _, _, _, _, _, _, _, _, _, _, _, _, _, _, _, _, _, _, _, _, _] _
       refine g_ops_nil ?_
       refine g_seq ?_
       refine g_cond_true rfl ?_
       refine g_skip ?_
       refine g_seq ?_
       refine g_block ?_
       refine g_seq ?_
       refine g_region ?_
       show G _ _ _ (.inRegion _ [0, 1] :: _) _ _
       refine g_op (v := Value.int .i8 x7) rfl rfl rfl ?_
       refine g_op (v := Value.int .i8 x7) rfl rfl rfl ?_
       show G _ _ _ _ [_, _, _, _, _, _, _, _, _, _, _, _, _, _, _, _, _, _, _, _, _, _, _, _, _, _, _, _, _, _, _] _
       refine g_ops_nil ?_
       refine g_seq ?_
       refine g_region ?_
       show G _ _ _ (.inRegion _ [0, 1, 2, 3, 4, 5, 6, 7, 8, 9, 10, 11] :: _) _ _
       refine g_op (v := Value.pointer (some ⟨b4, 0, none⟩)) rfl rfl rfl ?_
       refine s_load1 rfl rfl (v := Value.int .i8 a1.f_Things) rfl rfl (fun _ => rfl) (cells_load (hs.cells 0 rfl) 0 1 rfl) ?_
       show G _ _ _ _ [_, _, _, _, _, _, _, _, _, _, _, _, _, _, _, _, _, _, _, _, _, _, _, _, _, _, _, _, _, _, _] _
       refine g_op (v := Value.int .i8 x7) rfl rfl rfl ?_
       refine g_op (v := Value.pointer (some ⟨b4, 2, none⟩)) rfl rfl rfl ?_
       refine s_load1 rfl rfl (v := v2) rfl rfl (fun _ => rfl) (cells_load (hs.cells 0 rfl) 2 1 rfl) ?_
       show G _ _ _ _ [_, _, _, _, _, _, _, _, _, _, _, _, _, _, _, _, _, _, _, _, _, _, _, _, _, _, _, _, _, _, _] _
       refine g_op (v := Value.agg (([Value.int .i8 a1.f_Things, Value.int .i8 x7, v2] : List Value)).toArray) rfl rfl (x_buildS (cs := (([Value.int .i8 a1.f_Things, Value.int .i8 x7, v2] : List Value))) (segs := [[Value.int .i8 0], [Value.int .i8 0], [Value.slice none 0 0]]) rfl rfl (fun _ => rfl) ⟨rfl, (fun _ => rfl), rfl, (fun _ => rfl), rfl, (fun _ => rfl), trivial⟩ (by simp only [List.map_cons, List.map_nil, List.forall_mem_cons, List.not_mem_nil, false_implies, implies_true, and_true]; exact ⟨⟨_, rfl, rfl⟩, ⟨_, rfl, rfl⟩, ⟨_, rfl, slSize (hs.rd hr3)⟩⟩) (by first | rfl | (simp [ev, encA, slCells (hs.rd hr3)]; done) | (simp [ev, encA, slCells (hs.rd hr3)]; rfl))) ?_
       show G _ _ _ _ [_, _, _, _, _, _, _, _, _, _, _, _, _, _, _, _, _, _, _, _, _, _, _, _, _, _, _, _, _, _, _] _
       obtain ⟨r8, Hr8, H⟩ := bind_get H
       refine s_call (args := [Value.agg (([Value.int .i8 a1.f_Things, Value.int .i8 x7, v2] : List Value)).toArray]) rfl rfl (x_call rfl (callFunc_enter Try.func32 rfl rfl) rfl) (impl_ShortestCrossing.calls (a1 := (⟨a1.f_Things, x7, a1.f_Rules⟩ : S_laws_Ferry)) (hs.rd hr3) Hr8) ?_
       rintro _ w ⟨v9, rfl, hs2⟩
       have hs : St _ [_, _] _ := hs.call hs2
       show G _ _ _ _ [_, _, _, _, _, _, _, _, _, _, _, _, _, _, _, _, _, _, _, _, _, _, _, _, _, _, _, _, _, _, _] _
       refine g_op (v := Value.tuple #[v9, Value.int .i64 r8.2]) rfl rfl rfl ?_
       refine g_op (v := v9) rfl rfl rfl ?_
       refine g_op (v := Value.int .i64 r8.2) rfl rfl rfl ?_
       refine g_op (v := v9) rfl rfl rfl ?_
       show G _ _ _ _ [_, _, _, _, _, _, _, _, _, _, _, _, _, _, _, _, _, _, _, _, _, _, _, _, _, _, _, _, _, _, _] _
       refine g_op (v := Value.int .i64 r8.2) rfl rfl rfl ?_
       show G _ _ _ _ [_, _, _, _, _, _, _, _, _, _, _, _, _, _, _, _, _, _, _, _, _, _, _, _, _, _, _, _, _, _, _] _
       refine g_ops_nil ?_
       refine g_seq ?_
       refine g_region ?_
       show G _ _ _ (.inRegion _ [0, 1] :: _) _ _
       refine g_op (v := Value.int .i64 r8.2) rfl rfl rfl ?_
       refine g_op_b (B := r8.2 == 0) rfl rfl rfl ?_ ?_
       ·
        intro hb
        rw [if_pos (b_beq_t hb)] at H
        show G _ _ _ _ [_, _, _, _, _, _, _, _, _, _, _, _, _, _, _, _, _, _, _, _, _, _, _, _, _, _, _, _, _, _, _] _
        refine g_ops_nil ?_
        refine g_cond_true rfl ?_
        refine g_seq ?_
        refine g_region ?_
        show G _ _ _ (.inRegion _ [0, 1, 2, 3] :: _) _ _
        refine g_op (v := Value.int .i8 x7) rfl rfl rfl ?_
        refine g_op (v := Value.int .i64 (i64w x7)) rfl rfl rfl ?_
        refine g_op (v := Value.int .i64 (i64w x7)) rfl rfl rfl ?_
        show G _ _ _ _ [_, _, _, _, _, _, _, _, _, _, _, _, _, _, _, _, _, _, _, _, _, _, _, _, _, _, _, _, _, _, _] _
        refine g_op (v := Value.int .i64 0) rfl rfl rfl ?_
        show G _ _ _ _ [_, _, _, _, _, _, _, _, _, _, _, _, _, _, _, _, _, _, _, _, _, _, _, _, _, _, _, _, _, _, _] _
        refine g_ops_nil ?_
        obtain rfl := Option.some.inj H
        subst Hx1_
        have H := Option.some.inj Hr1_
        subst H
        refine g_ret Try.func26 (v := Value.tuple #[Value.int .i64 (i64w x7), Value.int .i64 0]) (resN (l := Try.f26.results.toList) (vs := [Value.int .i64 (i64w x7), Value.int .i64 0]) rfl ⟨rfl, rfl, trivial⟩ (by simp)) ?_
        have hs : St _ [] _ := St.take (Γ' := [_, _]) hs
        exact ⟨_, rfl, rfl, hs⟩
       ·
        intro hb
        rw [if_neg (b_beq_f hb)] at H
        show G _ _ _ _ [_, _, _, _, _, _, _, _, _, _, _, _, _, _, _, _, _, _, _, _, _, _, _, _, _, _, _, _, _, _, _] _
        refine g_ops_nil ?_
        refine g_cond_false rfl ?_
        refine g_skip ?_
        refine g_inBlock ?_
        refine g_region ?_
        show G _ _ _ (.inRegion _ [0, 1] :: _) _ _
        refine g_op (v := Value.int .i8 (i8w (x7 + 1))) rfl rfl rfl ?_
        show G _ _ _ _ [_, _, _, _, _, _, _, _, _, _, _, _, _, _, _, _, _, _, _, _, _, _, _, _, _, _, _, _, _, _, _] _
        refine g_op (v := Value.int .i8 (i8w (x7 + 1))) rfl rfl rfl ?_
        refine g_ops_nil ?_
        obtain rfl := Option.some.inj H
        have hs := hs.pull 1 rfl
        have hs : St _ [_] _ := St.take (Γ' := [_]) hs
        exact ih1_ _ _ ⟨i8w (x7 + 1), Hx1_, rfl, hs⟩
      ·
       intro hb
       rw [if_neg (b_dec_f hb)] at H
       show G _ _ _ _ [_, _, _, _, _, _, _, _, _, _, _, _, _, _, _, _, _, _, _, _, _, _, _, _, _, _, _, _, _, _, _] _
       refine g_ops_nil ?_
       refine g_seq ?_
       refine g_cond_false rfl ?_
       obtain rfl := Option.some.inj H
       subst Hx1_
       have hs : St _ [] _ := St.take (Γ' := [_]) hs
       refine g_exit rfl ?_
       exact ha1_ _ _ ⟨Hr1_, rfl, hs⟩
  | false =>
    rw [if_neg Bool.false_ne_true] at H
    show G _ _ _ _ [_, _, _, _, _, _, _, _, _, _, _, _, _, _, _, _, _, _, _, _, _, _, _, _, _, _, _, _, _, _, _] _
    refine g_op (v := Value.bool true) rfl rfl rfl ?_
    show G _ _ _ _ [_, _, _, _, _, _, _, _, _, _, _, _, _, _, _, _, _, _, _, _, _, _, _, _, _, _, _, _, _, _, _] _
    refine g_ops_nil ?_
    refine g_cond_true rfl ?_
    refine g_seq ?_
    refine g_region ?_
    show G _ _ _ (.inRegion _ [0, 1] :: _) _ _
    refine g_op (v := Value.int .i64 0) rfl rfl rfl ?_
    show G _ _ _ _ [_, _, _, _, _, _, _, _, _, _, _, _, _, _, _, _, _, _, _, _, _, _, _, _, _, _, _, _, _, _, _] _
    refine g_op (v := Value.int .i64 1) rfl rfl rfl ?_
    show G _ _ _ _ [_, _, _, _, _, _, _, _, _, _, _, _, _, _, _, _, _, _, _, _, _, _, _, _, _, _, _, _, _, _, _] _
    refine g_ops_nil ?_
    obtain rfl := Option.some.inj H
    refine g_ret Try.func26 (v := Value.tuple #[Value.int .i64 0, Value.int .i64 1]) (resN (l := Try.f26.results.toList) (vs := [Value.int .i64 0, Value.int .i64 1]) rfl ⟨rfl, rfl, trivial⟩ (by simp)) ?_
    have hs : St _ [] _ := St.take (Γ' := [_]) hs
    exact ⟨_, rfl, rfl, hs⟩

/- function 5 laws_FnExactLeastBoat -/
def laws_FnExactLeastBoat.post (w0 : World) (r : Bool) (v : Value) (w : World) : Prop := v = Value.bool r ∧ St w0 [] w
set_option maxHeartbeats 8000000 in
set_option maxRecDepth 100000 in
theorem laws_FnExactLeastBoat.calls {N : Nat} {a1 : S_laws_Ferry} {v2 : Value} {w0 : World} {r : Bool} (hr3 : RdRow (K.int .u16) w0 v2 a1.f_Rules) (H : laws_FnExactLeastBoat.f N a1 = some r) :
    Calls Try.prog 5 #[Value.agg (([Value.int .i8 a1.f_Things, Value.int .i8 a1.f_Boat, v2] : List Value)).toArray] w0 fun e w => ∃ v, e = .returned v ∧ laws_FnExactLeastBoat.post w0 r v w := by
  unfold laws_FnExactLeastBoat.f at H
  have hs : St w0 [] w0 := St.refl w0
  refine calls_of_g (n := 39) Try.func5 rfl rfl ?_
  show G _ _ _ _ [_, _, _, _, _, _, _, _, _, _, _, _, _, _, _, _, _, _, _, _, _, _, _, _, _, _, _, _, _, _, _, _, _, _, _, _, _, _, _, _] _
  refine g_seq ?_
  refine g_region ?_
  show G _ _ _ (.inRegion _ [0, 1] :: _) _ _
  refine s_box hs rfl rfl (cs := (([Value.int .i8 a1.f_Things, Value.int .i8 a1.f_Boat, v2] : List Value))) rfl rfl ?_
  intro b4 w hs
  show G _ _ _ _ [_, _, _, _, _, _, _, _, _, _, _, _, _, _, _, _, _, _, _, _, _, _, _, _, _, _, _, _, _, _, _, _, _, _, _, _, _, _, _, _] _
  refine g_op (v := Value.bool false) rfl rfl rfl ?_
  show G _ _ _ _ [_, _, _, _, _, _, _, _, _, _, _, _, _, _, _, _, _, _, _, _, _, _, _, _, _, _, _, _, _, _, _, _, _, _, _, _, _, _, _, _] _
  refine g_ops_nil ?_
  refine g_seq ?_
  refine g_region ?_
  show G _ _ _ (.inRegion _ [0] :: _) _ _
  refine g_op (v := Value.int .i64 1048576) rfl rfl rfl ?_
  show G _ _ _ _ [_, _, _, _, _, _, _, _, _, _, _, _, _, _, _, _, _, _, _, _, _, _, _, _, _, _, _, _, _, _, _, _, _, _, _, _, _, _, _, _] _
  refine g_ops_nil ?_
  refine g_seq ?_
  refine g_region ?_
  show G _ _ _ (.inRegion _ [0, 1, 2, 3] :: _) _ _
  refine s_loadA rfl rfl (es := (([Value.int .i8 a1.f_Things, Value.int .i8 a1.f_Boat, v2] : List Value))) rfl rfl (fun _ => rfl) (n := 3) (fun _ => rfl) rfl (cells_all (hs.cells 0 rfl)) ?_
  show G _ _ _ _ [_, _, _, _, _, _, _, _, _, _, _, _, _, _, _, _, _, _, _, _, _, _, _, _, _, _, _, _, _, _, _, _, _, _, _, _, _, _, _, _] _
  refine g_op (v := Value.int .i64 1048576) rfl rfl rfl ?_
  obtain ⟨r6, Hr6, H⟩ := bind_get H
  refine s_call (args := [Value.agg (([Value.int .i8 a1.f_Things, Value.int .i8 a1.f_Boat, v2] : List Value)).toArray, Value.int .i64 1048576]) rfl rfl (x_call rfl (callFunc_enter Try.func11 rfl rfl) rfl) (laws_szFerry.calls (a1 := (⟨a1.f_Things, a1.f_Boat, a1.f_Rules⟩ : S_laws_Ferry)) (a4 := 1048576) (hs.rd hr3) Hr6) ?_
  rintro _ w ⟨rfl, hs2⟩
  have hs : St _ [_] _ := hs.call hs2
  show G _ _ _ _ [_, _, _, _, _, _, _, _, _, _, _, _, _, _, _, _, _, _, _, _, _, _, _, _, _, _, _, _, _, _, _, _, _, _, _, _, _, _, _, _] _
  refine g_op (v := Value.int .i64 r6) rfl rfl rfl ?_
  show G _ _ _ _ [_, _, _, _, _, _, _, _, _, _, _, _, _, _, _, _, _, _, _, _, _, _, _, _, _, _, _, _, _, _, _, _, _, _, _, _, _, _, _, _] _
  refine g_ops_nil ?_
  refine g_seq ?_
  refine g_seq ?_
  refine g_region ?_
  show G _ _ _ (.inRegion _ [0, 1] :: _) _ _
  refine g_op (v := Value.int .i64 r6) rfl rfl rfl ?_
  refine g_op_b (B := decide (r6 < 0)) rfl rfl rfl ?_ ?_
  ·
   intro hb
   rw [if_pos (b_dec_t hb)] at H
   show G _ _ _ _ [_, _, _, _, _, _, _, _, _, _, _, _, _, _, _, _, _, _, _, _, _, _, _, _, _, _, _, _, _, _, _, _, _, _, _, _, _, _, _, _] _
   refine g_ops_nil ?_
   refine g_cond_true rfl ?_
   refine g_seq ?_
   refine g_region ?_
   show G _ _ _ (.inRegion _ [0] :: _) _ _
   refine g_op (v := Value.bool true) rfl rfl rfl ?_
   show G _ _ _ _ [_, _, _, _, _, _, _, _, _, _, _, _, _, _, _, _, _, _, _, _, _, _, _, _, _, _, _, _, _, _, _, _, _, _, _, _, _, _, _, _] _
   refine g_ops_nil ?_
   obtain rfl := Option.some.inj H
   refine g_ret Try.func5 (v := Value.bool true) (res1 rfl rfl) ?_
   have hs : St _ [] _ := St.take (Γ' := [_]) hs
   exact ⟨_, rfl, rfl, hs⟩
  ·
   intro hb
   rw [if_neg (b_dec_f hb)] at H
   show G _ _ _ _ [_, _, _, _, _, _, _, _, _, _, _, _, _, _, _, _, _, _, _, _, _, _, _, _, _, _, _, _, _, _, _, _, _, _, _, _, _, _, _, _] _
   refine g_ops_nil ?_
   refine g_cond_false rfl ?_
   refine g_skip ?_
   refine g_seq ?_
   refine g_region ?_
   show G _ _ _ (.inRegion _ [0, 1, 2, 3, 4, 5, 6, 7] :: _) _ _
   refine s_loadA rfl rfl (es := (([Value.int .i8 a1.f_Things, Value.int .i8 a1.f_Boat, v2] : List Value))) rfl rfl (fun _ => rfl) (n := 3) (fun _ => rfl) rfl (cells_all (hs.cells 0 rfl)) ?_
   show G _ _ _ _ [_, _, _, _, _, _, _, _, _, _, _, _, _, _, _, _, _, _, _, _, _, _, _, _, _, _, _, _, _, _, _, _, _, _, _, _, _, _, _, _] _
   obtain ⟨r7, Hr7, H⟩ := bind_get H
   refine s_call (args := [Value.agg (([Value.int .i8 a1.f_Things, Value.int .i8 a1.f_Boat, v2] : List Value)).toArray]) rfl rfl (x_call rfl (callFunc_enter Try.func13 rfl rfl) rfl) (laws_toFerry.calls (a1 := (⟨a1.f_Things, a1.f_Boat, a1.f_Rules⟩ : S_laws_Ferry)) (hs.rd hr3) Hr7) ?_
   rintro _ w ⟨v8, rfl, hs2⟩
   have hs : St _ [_, _] _ := hs.call hs2
   show G _ _ _ _ [_, _, _, _, _, _, _, _, _, _, _, _, _, _, _, _, _, _, _, _, _, _, _, _, _, _, _, _, _, _, _, _, _, _, _, _, _, _, _, _] _
   obtain ⟨r10, Hr10, H⟩ := bind_get H
   refine s_call (args := [Value.agg (([Value.int .i8 r7.f_Things, Value.int .i8 r7.f_Boat, v8] : List Value)).toArray]) rfl rfl (x_call rfl (callFunc_enter Try.func25 rfl rfl) rfl) (spec_LeastBoat.calls (a1 := (⟨r7.f_Things, r7.f_Boat, r7.f_Rules⟩ : S_laws_Ferry)) (hs.row 0 rfl) Hr10) ?_
   rintro _ w ⟨rfl, hs2⟩
   have hs : St _ [_, _] _ := hs.call hs2
   show G _ _ _ _ [_, _, _, _, _, _, _, _, _, _, _, _, _, _, _, _, _, _, _, _, _, _, _, _, _, _, _, _, _, _, _, _, _, _, _, _, _, _, _, _] _
   refine g_op (v := Value.tuple #[Value.int .i64 r10.1, Value.int .i64 r10.2]) rfl rfl rfl ?_
   refine g_op (v := Value.int .i64 r10.1) rfl rfl rfl ?_
   refine g_op (v := Value.int .i64 r10.2) rfl rfl rfl ?_
   refine g_op (v := Value.int .i64 r10.1) rfl rfl rfl ?_
   show G _ _ _ _ [_, _, _, _, _, _, _, _, _, _, _, _, _, _, _, _, _, _, _, _, _, _, _, _, _, _, _, _, _, _, _, _, _, _, _, _, _, _, _, _] _
   refine g_op (v := Value.int .i64 r10.2) rfl rfl rfl ?_
   show G _ _ _ _ [_, _, _, _, _, _, _, _, _, _, _, _, _, _, _, _, _, _, _, _, _, _, _, _, _, _, _, _, _, _, _, _, _, _, _, _, _, _, _, _] _
   refine g_ops_nil ?_
   refine g_seq ?_
   refine g_region ?_
   show G _ _ _ (.inRegion _ [0, 1, 2, 3] :: _) _ _
   refine s_loadA rfl rfl (es := (([Value.int .i8 a1.f_Things, Value.int .i8 a1.f_Boat, v2] : List Value))) rfl rfl (fun _ => rfl) (n := 3) (fun _ => rfl) rfl (cells_all (hs.cells 1 rfl)) ?_
   show G _ _ _ _ [_, _, _, _, _, _, _, _, _, _, _, _, _, _, _, _, _, _, _, _, _, _, _, _, _, _, _, _, _, _, _, _, _, _, _, _, _, _, _, _] _
   obtain ⟨r11, Hr11, H⟩ := bind_get H
   refine s_call (args := [Value.agg (([Value.int .i8 a1.f_Things, Value.int .i8 a1.f_Boat, v2] : List Value)).toArray]) rfl rfl (x_call rfl (callFunc_enter Try.func13 rfl rfl) rfl) (laws_toFerry.calls (a1 := (⟨a1.f_Things, a1.f_Boat, a1.f_Rules⟩ : S_laws_Ferry)) (hs.rd hr3) Hr11) ?_
   rintro _ w ⟨v12, rfl, hs2⟩
   have hs : St _ [_, _, _] _ := hs.call hs2
   show G _ _ _ _ [_, _, _, _, _, _, _, _, _, _, _, _, _, _, _, _, _, _, _, _, _, _, _, _, _, _, _, _, _, _, _, _, _, _, _, _, _, _, _, _] _
   refine s_alloc hs rfl rfl (z := (Value.agg #[Value.int .i8 0, Value.int .i8 0, Value.slice none 0 0])) (cs := (([Value.int .i8 0, Value.int .i8 0, Value.slice none 0 0] : List Value))) rfl (fun _ => rfl) rfl ?_
   intro b14 w hs
   show G _ _ _ _ [_, _, _, _, _, _, _, _, _, _, _, _, _, _, _, _, _, _, _, _, _, _, _, _, _, _, _, _, _, _, _, _, _, _, _, _, _, _, _, _] _
   refine s_storeAll (n := 3) hs rfl rfl rfl (vs := (([Value.int .i8 r11.f_Things, Value.int .i8 r11.f_Boat, v12] : List Value))) rfl rfl rfl (fun _ => rfl) rfl (by intro v hv; simp only [List.mem_append, List.mem_cons, List.not_mem_nil, or_false] at hv; repeat (first | (subst hv; first | rfl | exact slOne (hs.row 1 rfl)) | (rcases hv with hv | hv))) ?_
   intro w hs
   refine g_ops_nil ?_
   refine g_seq ?_
   refine g_region ?_
   show G _ _ _ (.inRegion _ [0, 1, 2, 3, 4, 5, 6] :: _) _ _
   refine s_loadA rfl rfl (es := (([Value.int .i8 r11.f_Things, Value.int .i8 r11.f_Boat, v12] : List Value))) rfl rfl (fun _ => rfl) (n := 3) (fun _ => rfl) rfl (cells_all (hs.cells 0 rfl)) ?_
   show G _ _ _ _ [_, _, _, _, _, _, _, _, _, _, _, _, _, _, _, _, _, _, _, _, _, _, _, _, _, _, _, _, _, _, _, _, _, _, _, _, _, _, _, _] _
   obtain ⟨r16, Hr16, H⟩ := bind_get H
   refine s_call (args := [Value.agg (([Value.int .i8 r11.f_Things, Value.int .i8 r11.f_Boat, v12] : List Value)).toArray]) rfl rfl (x_call rfl (callFunc_enter Try.func26 rfl rfl) rfl) (impl_LeastBoat.calls (a1 := (⟨r11.f_Things, r11.f_Boat, r11.f_Rules⟩ : S_laws_Ferry)) (hs.row 1 rfl) Hr16) ?_
   rintro _ w ⟨rfl, hs2⟩
   have hs : St _ [_, _, _, _] _ := hs.call hs2
   show G _ _ _ _ [_, _, _, _, _, _, _, _, _, _, _, _, _, _, _, _, _, _, _, _, _, _, _, _, _, _, _, _, _, _, _, _, _, _, _, _, _, _, _, _] _
   refine g_op (v := Value.tuple #[Value.int .i64 r16.1, Value.int .i64 r16.2]) rfl rfl rfl ?_
   refine g_op (v := Value.int .i64 r16.1) rfl rfl rfl ?_
   refine g_op (v := Value.int .i64 r16.2) rfl rfl rfl ?_
   refine g_op (v := Value.int .i64 r16.1) rfl rfl rfl ?_
   show G _ _ _ _ [_, _, _, _, _, _, _, _, _, _, _, _, _, _, _, _, _, _, _, _, _, _, _, _, _, _, _, _, _, _, _, _, _, _, _, _, _, _, _, _] _
   refine g_op (v := Value.int .i64 r16.2) rfl rfl rfl ?_
   show G _ _ _ _ [_, _, _, _, _, _, _, _, _, _, _, _, _, _, _, _, _, _, _, _, _, _, _, _, _, _, _, _, _, _, _, _, _, _, _, _, _, _, _, _] _
   refine g_ops_nil ?_
   refine g_seq ?_
   refine g_seq ?_
   refine g_region ?_
   show G _ _ _ (.inRegion _ [0, 1, 2, 3, 4, 5, 6, 7] :: _) _ _
   refine g_op (v := Value.int .i64 r16.1) rfl rfl rfl ?_
   refine g_op (v := Value.int .i64 r10.1) rfl rfl rfl ?_
   refine g_op_b (B := r16.1 != r10.1) rfl rfl rfl ?_ ?_
   ·
    intro hb
    rw [if_neg (b_bne_t hb)] at H
    show G _ _ _ _ [_, _, _, _, _, _, _, _, _, _, _, _, _, _, _, _, _, _, _, _, _, _, _, _, _, _, _, _, _, _, _, _, _, _, _, _, _, _, _, _] _
    refine g_op (v := Value.bool true) rfl rfl rfl ?_
    refine g_op_not rfl rfl ?_
    refine g_op_not rfl rfl ?_
    refine g_op_not rfl rfl ?_
    show G _ _ _ _ [_, _, _, _, _, _, _, _, _, _, _, _, _, _, _, _, _, _, _, _, _, _, _, _, _, _, _, _, _, _, _, _, _, _, _, _, _, _, _, _] _
    refine g_op (v := Value.bool true) rfl rfl rfl ?_
    show G _ _ _ _ [_, _, _, _, _, _, _, _, _, _, _, _, _, _, _, _, _, _, _, _, _, _, _, _, _, _, _, _, _, _, _, _, _, _, _, _, _, _, _, _] _
    refine g_ops_nil ?_
    refine g_cond_true rfl ?_
    refine g_seq ?_
    refine g_region ?_
    show G _ _ _ (.inRegion _ [0] :: _) _ _
    refine g_op (v := Value.bool false) rfl rfl rfl ?_
    show G _ _ _ _ [_, _, _, _, _, _, _, _, _, _, _, _, _, _, _, _, _, _, _, _, _, _, _, _, _, _, _, _, _, _, _, _, _, _, _, _, _, _, _, _] _
    refine g_ops_nil ?_
    obtain rfl := Option.some.inj H
    refine g_ret Try.func5 (v := Value.bool false) (res1 rfl rfl) ?_
    have hs : St _ [] _ := St.take (Γ' := [_, _, _, _]) hs
    exact ⟨_, rfl, rfl, hs⟩
   ·
    intro hb
    rw [if_pos (b_bne_f hb)] at H
    show G _ _ _ _ [_, _, _, _, _, _, _, _, _, _, _, _, _, _, _, _, _, _, _, _, _, _, _, _, _, _, _, _, _, _, _, _, _, _, _, _, _, _, _, _] _
    refine g_op (v := Value.bool false) rfl rfl rfl ?_
    refine g_op (v := Value.int .i64 r16.2) rfl rfl rfl ?_
    refine g_op (v := Value.int .i64 r10.2) rfl rfl rfl ?_
    refine g_op_b (B := r16.2 != r10.2) rfl rfl rfl ?_ ?_
    ·
     intro hb
     rw [if_neg (b_bne_t hb)] at H
     show G _ _ _ _ [_, _, _, _, _, _, _, _, _, _, _, _, _, _, _, _, _, _, _, _, _, _, _, _, _, _, _, _, _, _, _, _, _, _, _, _, _, _, _, _] _
     refine g_op (v := Value.bool true) rfl rfl rfl ?_
     show G _ _ _ _ [_, _, _, _, _, _, _, _, _, _, _, _, _, _, _, _, _, _, _, _, _, _, _, _, _, _, _, _, _, _, _, _, _, _, _, _, _, _, _, _] _
     refine g_ops_nil ?_
     refine g_cond_true rfl ?_
     refine g_seq ?_
     refine g_region ?_
     show G _ _ _ (.inRegion _ [0] :: _) _ _
     refine g_op (v := Value.bool false) rfl rfl rfl ?_
     show G _ _ _ _ [_, _, _, _, _, _, _, _, _, _, _, _, _, _, _, _, _, _, _, _, _, _, _, _, _, _, _, _, _, _, _, _, _, _, _, _, _, _, _, _] _
     refine g_ops_nil ?_
     obtain rfl := Option.some.inj H
     refine g_ret Try.func5 (v := Value.bool false) (res1 rfl rfl) ?_
     have hs : St _ [] _ := St.take (Γ' := [_, _, _, _]) hs
     exact ⟨_, rfl, rfl, hs⟩
    ·
     intro hb
     rw [if_pos (b_bne_f hb)] at H
     show G _ _ _ _ [_, _, _, _, _, _, _, _, _, _, _, _, _, _, _, _, _, _, _, _, _, _, _, _, _, _, _, _, _, _, _, _, _, _, _, _, _, _, _, _] _
     refine g_op (v := Value.bool false) rfl rfl rfl ?_
     show G _ _ _ _ [_, _, _, _, _, _, _, _, _, _, _, _, _, _, _, _, _, _, _, _, _, _, _, _, _, _, _, _, _, _, _, _, _, _, _, _, _, _, _, _] _
     refine g_ops_nil ?_
     refine g_cond_false rfl ?_
     refine g_skip ?_
     refine g_seq ?_
     refine g_seq ?_
     refine g_lay (n := 5) rfl [0, 1, 2, 3, 4] [0, 1, 2, 3, 4] rfl rfl ?_
     intro rest w hh hbw hO
     have hs := hs.samew hh hbw
     show G _ _ _ _ [_, _, _, _, _, _, _, _, _, _, _, _, _, _, _, _, _, _, _, _, _, _, _, _, _, _, _, _, _, _, _, _, _, _, _, _, _, _, _, _] _
     obtain ⟨r17, Hr17, H⟩ := bind_get H
     refine g_name ?_
     intro T hT
     refine g_layer (m0 := 0) hO rfl 7 [0, 1, 2] [0, 0, 2, 7, 15] (by decide +kernel) (fun D t w => ∃ v18 : Value, ∃ O : Nat → Value, t = [Value.agg (([Value.int .i8 a1.f_Things, Value.int .i8 a1.f_Boat, v2] : List Value)).toArray, Value.pointer (some ⟨b4, 0, none⟩), Value.bool false, Value.int .i64 r6, Value.int .i64 r10.1, Value.int .i64 r10.2, Value.pointer (some ⟨b14, 0, none⟩), Value.int .i64 r16.1, Value.int .i64 r16.2, Value.agg (([Value.int .i8 a1.f_Things, Value.int .i8 a1.f_Boat, v2] : List Value)).toArray, Value.int .i64 1048576, Value.int .i64 r6, Value.int .i64 r6, Value.bool false, Value.tuple #[Value.int .i64 r10.1, Value.int .i64 r10.2], Value.agg (([Value.int .i8 a1.f_Things, Value.int .i8 a1.f_Boat, v2] : List Value)).toArray, Value.agg (([Value.int .i8 r7.f_Things, Value.int .i8 r7.f_Boat, v8] : List Value)).toArray, Value.tuple #[Value.int .i64 r10.1, Value.int .i64 r10.2], Value.int .i64 r10.1, Value.int .i64 r10.2, Value.agg (([Value.int .i8 a1.f_Things, Value.int .i8 a1.f_Boat, v2] : List Value)).toArray, Value.agg (([Value.int .i8 r11.f_Things, Value.int .i8 r11.f_Boat, v12] : List Value)).toArray, Value.tuple #[Value.int .i64 r16.1, Value.int .i64 r16.2], Value.agg (([Value.int .i8 r11.f_Things, Value.int .i8 r11.f_Boat, v12] : List Value)).toArray, Value.tuple #[Value.int .i64 r16.1, Value.int .i64 r16.2], Value.int .i64 r16.1, Value.int .i64 r16.2, Value.int .i64 r16.1, Value.int .i64 r10.1, Value.bool false, Value.bool false, Value.int .i64 r16.2, Value.int .i64 r10.2, Value.bool false, Value.bool false, cnd (D 0) (Value.agg (([Value.int .i8 r11.f_Things, Value.int .i8 r11.f_Boat, v12] : List Value)).toArray) (O 35), cnd (D 1) (Value.agg (([Value.int .i8 a1.f_Things, Value.int .i8 a1.f_Boat, v2] : List Value)).toArray) (O 36), cnd (D 2) (Value.agg (([Value.int .i8 r17.f_Things, Value.int .i8 r17.f_Boat, v18] : List Value)).toArray) (O 37), O 38, O 39] ∧ St w0 [Asc (D 2) (Row 27 (K.int .u16) v18 r17.f_Rules), Cells b14 (([Value.int .i8 r11.f_Things, Value.int .i8 r11.f_Boat, v12] : List Value)) 32, Row 27 (K.int .u16) v12 r11.f_Rules, Row 27 (K.int .u16) v8 r7.f_Rules, Cells b4 (([Value.int .i8 a1.f_Things, Value.int .i8 a1.f_Boat, v2] : List Value)) 25] w) ?_ ⟨?_, ⟨?_, ⟨?_, trivial⟩⟩⟩ ?_
     ·
      have hs := hs.emp
      exact ⟨undef, fun i => T.getD i undef, (by subst hT; rfl), hs⟩
     ·
      intro D t w hD hp hcl hI rest hk
      obtain ⟨v18, O, ht, hs⟩ := hI
      have hp : AllDone D [] := hp
      have u0_ : upd D 0 0 = true := rfl; have u1_ : upd D 0 1 = D 1 := rfl; have u2_ : upd D 0 2 = D 2 := rfl
      simp only [hD, cnd_t, cnd_f, Asc_t, Asc_f] at ht hs
      subst ht
      refine s_loadA rfl rfl (es := (([Value.int .i8 r11.f_Things, Value.int .i8 r11.f_Boat, v12] : List Value))) rfl rfl (fun _ => rfl) (n := 3) (fun _ => rfl) rfl (cells_all (hs.cells 1 rfl)) ?_
      show G _ _ _ _ [_, _, _, _, _, _, _, _, _, _, _, _, _, _, _, _, _, _, _, _, _, _, _, _, _, _, _, _, _, _, _, _, _, _, _, _, _, _, _, _] _
      exact hk _ _ ⟨v18, O, (by simp only [u0_, u1_, u2_, cnd_t, cnd_f, Asc_t, Asc_f]), hs.cast (by first | rfl | simp only [List.take, List.drop, List.cons_append, List.nil_append, List.set_cons_zero, List.set_cons_succ, List.eraseIdx, u0_, u1_, u2_, cnd_t, cnd_f, Asc_t, Asc_f])⟩
     ·
      intro D t w hD hp hcl hI rest hk
      obtain ⟨v18, O, ht, hs⟩ := hI
      have hp : AllDone D [] := hp
      have q2_ : D 2 = false := not_yet (show D 2 = true → AllDone D [1] from hcl 2 (by decide)) 0 1 rfl hD
      have u0_ : upd D 1 0 = D 0 := rfl; have u1_ : upd D 1 1 = true := rfl; have u2_ : upd D 1 2 = D 2 := rfl
      simp only [hD, q2_, cnd_t, cnd_f, Asc_t, Asc_f] at ht hs
      subst ht
      refine s_loadA rfl rfl (es := (([Value.int .i8 a1.f_Things, Value.int .i8 a1.f_Boat, v2] : List Value))) rfl rfl (fun _ => rfl) (n := 3) (fun _ => rfl) rfl (cells_all (hs.cells 4 rfl)) ?_
      show G _ _ _ _ [_, _, _, _, _, _, _, _, _, _, _, _, _, _, _, _, _, _, _, _, _, _, _, _, _, _, _, _, _, _, _, _, _, _, _, _, _, _, _, _] _
      exact hk _ _ ⟨v18, O, (by simp only [u0_, u1_, u2_, q2_, cnd_t, cnd_f, Asc_t, Asc_f]), hs.cast (by first | rfl | simp only [List.take, List.drop, List.cons_append, List.nil_append, List.set_cons_zero, List.set_cons_succ, List.eraseIdx, u0_, u1_, u2_, q2_, cnd_t, cnd_f, Asc_t, Asc_f])⟩
     ·
      intro D t w hD hp hcl hI rest hk
      obtain ⟨v18, O, ht, hs⟩ := hI
      have hp : AllDone D [1] := hp
      obtain ⟨p1_, _⟩ := hp
      have u0_ : upd D 2 0 = D 0 := rfl; have u1_ : upd D 2 1 = D 1 := rfl; have u2_ : upd D 2 2 = true := rfl
      simp only [hD, p1_, cnd_t, cnd_f, Asc_t, Asc_f] at ht hs
      subst ht
      refine s_call (args := [Value.agg (([Value.int .i8 a1.f_Things, Value.int .i8 a1.f_Boat, v2] : List Value)).toArray]) rfl rfl (x_call rfl (callFunc_enter Try.func13 rfl rfl) rfl) (laws_toFerry.calls (a1 := (⟨a1.f_Things, a1.f_Boat, a1.f_Rules⟩ : S_laws_Ferry)) (hs.rd hr3) Hr17) ?_
      rintro _ w ⟨v18, rfl, hs2⟩
      have hs : St _ [_, _, _, _, _, _] _ := hs.call hs2
      show G _ _ _ _ [_, _, _, _, _, _, _, _, _, _, _, _, _, _, _, _, _, _, _, _, _, _, _, _, _, _, _, _, _, _, _, _, _, _, _, _, _, _, _, _] _
      have hs := hs.fill 0 rfl
      exact hk _ _ ⟨v18, O, (by simp only [u0_, u1_, u2_, p1_, cnd_t, cnd_f, Asc_t, Asc_f]), hs.cast (by first | rfl | simp only [List.take, List.drop, List.cons_append, List.nil_append, List.set_cons_zero, List.set_cons_succ, List.eraseIdx, u0_, u1_, u2_, p1_, cnd_t, cnd_f, Asc_t, Asc_f])⟩
     ·
      intro D t w rest hall hO1_ hI
      obtain ⟨v18, O, ht, hs⟩ := hI
      have p0_ : D 0 = true := hall 0 (by decide) rfl
      have p1_ : D 1 = true := hall 1 (by decide) rfl
      have p2_ : D 2 = true := hall 2 (by decide) rfl
      simp only [p0_, p1_, p2_, cnd_t, cnd_f, Asc_t, Asc_f] at ht hs
      subst ht
      obtain ⟨rest, rfl, hO2_⟩ := ord_one (m := 7) hO1_ rfl 3 (m' := 15) (by decide +kernel) rfl
      clear hO1_
      obtain ⟨r21, Hr21, H⟩ := bind_get H
      refine s_call (args := [Value.agg (([Value.int .i8 r11.f_Things, Value.int .i8 r11.f_Boat, v12] : List Value)).toArray, Value.agg (([Value.int .i8 r17.f_Things, Value.int .i8 r17.f_Boat, v18] : List Value)).toArray]) rfl rfl (x_call rfl (callFunc_enter Try.func17 rfl rfl) rfl) (laws_eqFerry.calls (a1 := (⟨r11.f_Things, r11.f_Boat, r11.f_Rules⟩ : S_laws_Ferry)) (a4 := (⟨r17.f_Things, r17.f_Boat, r17.f_Rules⟩ : S_laws_Ferry)) (hs.row 2 rfl) (hs.row 0 rfl) Hr21) ?_
      rintro _ w ⟨rfl, hs2⟩
      have hs : St _ [_, _, _, _, _] _ := hs.call hs2
      cases r21 with
      | true =>
        rw [if_pos rfl] at H
        show G _ _ _ _ [_, _, _, _, _, _, _, _, _, _, _, _, _, _, _, _, _, _, _, _, _, _, _, _, _, _, _, _, _, _, _, _, _, _, _, _, _, _, _, _] _
        obtain ⟨rest, rfl, hO3_⟩ := ord_one (m := 15) hO2_ rfl 4 (m' := 31) (by decide +kernel) rfl
        clear hO2_
        refine g_op (v := Value.bool false) rfl rfl rfl ?_
        show G _ _ _ _ [_, _, _, _, _, _, _, _, _, _, _, _, _, _, _, _, _, _, _, _, _, _, _, _, _, _, _, _, _, _, _, _, _, _, _, _, _, _, _, _] _
        obtain rfl := ord_end hO3_ rfl (by decide +kernel)
        refine g_ops_nil ?_
        refine g_cond_false rfl ?_
        refine g_skip ?_
        refine g_seq ?_
        refine g_region ?_
        show G _ _ _ (.inRegion _ [0] :: _) _ _
        refine g_op (v := Value.bool true) rfl rfl rfl ?_
        show G _ _ _ _ [_, _, _, _, _, _, _, _, _, _, _, _, _, _, _, _, _, _, _, _, _, _, _, _, _, _, _, _, _, _, _, _, _, _, _, _, _, _, _, _] _
        refine g_ops_nil ?_
        obtain rfl := Option.some.inj H
        refine g_ret Try.func5 (v := Value.bool true) (res1 rfl rfl) ?_
        have hs : St _ [] _ := St.take (Γ' := [_, _, _, _, _]) hs
        exact ⟨_, rfl, rfl, hs⟩
      | false =>
        rw [if_neg Bool.false_ne_true] at H
        show G _ _ _ _ [_, _, _, _, _, _, _, _, _, _, _, _, _, _, _, _, _, _, _, _, _, _, _, _, _, _, _, _, _, _, _, _, _, _, _, _, _, _, _, _] _
        obtain ⟨rest, rfl, hO4_⟩ := ord_one (m := 15) hO2_ rfl 4 (m' := 31) (by decide +kernel) rfl
        clear hO2_
        refine g_op (v := Value.bool true) rfl rfl rfl ?_
        show G _ _ _ _ [_, _, _, _, _, _, _, _, _, _, _, _, _, _, _, _, _, _, _, _, _, _, _, _, _, _, _, _, _, _, _, _, _, _, _, _, _, _, _, _] _
        obtain rfl := ord_end hO4_ rfl (by decide +kernel)
        refine g_ops_nil ?_
        refine g_cond_true rfl ?_
        refine g_seq ?_
        refine g_region ?_
        show G _ _ _ (.inRegion _ [0] :: _) _ _
        refine g_op (v := Value.bool false) rfl rfl rfl ?_
        show G _ _ _ _ [_, _, _, _, _, _, _, _, _, _, _, _, _, _, _, _, _, _, _, _, _, _, _, _, _, _, _, _, _, _, _, _, _, _, _, _, _, _, _, _] _
        refine g_ops_nil ?_
        obtain rfl := Option.some.inj H
        refine g_ret Try.func5 (v := Value.bool false) (res1 rfl rfl) ?_
        have hs : St _ [] _ := St.take (Γ' := [_, _, _, _, _]) hs
        exact ⟨_, rfl, rfl, hs⟩

end Go.Proofs.YtgoblgmidejdgaaX
