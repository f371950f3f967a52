/- Contracts, printed by gen.py. -/
import Derived.Test.YtcocgeodfbiehaaXC2
namespace Go.Proofs.YtcocgeodfbiehaaX
open Go Go.RowKit Go.Proofs
set_option linter.unusedVariables false
set_option linter.unusedSimpArgs false
/- function 46 spec_l03Split -/
def spec_l03Split.post (w0 : World) (r : (Ar (List S_impl_Case) 3)) (v : Value) (w : World) : Prop := ∃ u1 : Value, ∃ u2 : Value, ∃ u3 : Value, v = Value.agg (([u1, u2, u3] : List Value)).toArray ∧ St w0 [Row 84 k_S_impl_Case u1 (r.get 0 []), Row 84 k_S_impl_Case u2 (r.get 1 []), Row 84 k_S_impl_Case u3 (r.get 2 [])] w
set_option maxHeartbeats 8000000 in
set_option maxRecDepth 100000 in
theorem spec_l03Split.calls {N : Nat} {a1 : (Ar Int 14)} {a2 : (List S_impl_Case)} {v3 : Value} {w0 : World} {r : (Ar (List S_impl_Case) 3)} (hr1 : RdRow k_S_impl_Case w0 v3 a2) (H : spec_l03Split.f N a1 a2 = some r) :
    Calls Try.prog 46 #[Value.agg ((encA (encI .i8)) a1).toArray, v3] w0 fun e w => ∃ v, e = .returned v ∧ spec_l03Split.post w0 r v w := by
  unfold spec_l03Split.f at H
  have hs : St w0 [] w0 := St.refl w0
  refine calls_of_g (n := 35) Try.func46 rfl rfl ?_
  show G _ _ _ _ [_, _, _, _, _, _, _, _, _, _, _, _, _, _, _, _, _, _, _, _, _, _, _, _, _, _, _, _, _, _, _, _, _, _, _, _, _] _
  refine g_seq ?_
  refine g_region ?_
  show G _ _ _ (.inRegion _ [0, 1] :: _) _ _
  refine s_box hs rfl rfl (cs := ((encA (encI .i8)) a1)) rfl rfl ?_
  intro b4 w hs
  show G _ _ _ _ [_, _, _, _, _, _, _, _, _, _, _, _, _, _, _, _, _, _, _, _, _, _, _, _, _, _, _, _, _, _, _, _, _, _, _, _, _] _
  refine s_alloc hs rfl rfl (z := (Value.agg #[Value.slice none 0 0, Value.slice none 0 0, Value.slice none 0 0])) (cs := (([Value.slice none 0 0, Value.slice none 0 0, Value.slice none 0 0] : List Value))) rfl (fun _ => rfl) rfl ?_
  intro b6 w hs
  show G _ _ _ _ [_, _, _, _, _, _, _, _, _, _, _, _, _, _, _, _, _, _, _, _, _, _, _, _, _, _, _, _, _, _, _, _, _, _, _, _, _] _
  refine g_ops_nil ?_
  refine g_seq ?_
  refine g_region ?_
  show G _ _ _ (.inRegion _ [0, 1, 2, 3, 4, 5] :: _) _ _
  refine s_lit0 (κ := k_S_impl_Case) hs rfl rfl rfl rfl (fun _ => rfl) ?_
  intro v8 w hs
  show G _ _ _ _ [_, _, _, _, _, _, _, _, _, _, _, _, _, _, _, _, _, _, _, _, _, _, _, _, _, _, _, _, _, _, _, _, _, _, _, _, _] _
  refine s_lit0 (κ := k_S_impl_Case) hs rfl rfl rfl rfl (fun _ => rfl) ?_
  intro v10 w hs
  show G _ _ _ _ [_, _, _, _, _, _, _, _, _, _, _, _, _, _, _, _, _, _, _, _, _, _, _, _, _, _, _, _, _, _, _, _, _, _, _, _, _] _
  refine s_lit0 (κ := k_S_impl_Case) hs rfl rfl rfl rfl (fun _ => rfl) ?_
  intro v12 w hs
  show G _ _ _ _ [_, _, _, _, _, _, _, _, _, _, _, _, _, _, _, _, _, _, _, _, _, _, _, _, _, _, _, _, _, _, _, _, _, _, _, _, _] _
  refine g_op (v := Value.agg (([v8, v10, v12] : List Value)).toArray) rfl rfl (x_buildA (cs := ([v8, v10, v12] : List Value)) (zs := [Value.slice none 0 0, Value.slice none 0 0, Value.slice none 0 0]) rfl rfl (fun _ => rfl) (fun _ => rfl) (by simp [ev, Instr.fill, slCells (hs.row 2 rfl), slCells (hs.row 1 rfl), slCells (hs.row 0 rfl)])) ?_
  show G _ _ _ _ [_, _, _, _, _, _, _, _, _, _, _, _, _, _, _, _, _, _, _, _, _, _, _, _, _, _, _, _, _, _, _, _, _, _, _, _, _] _
  refine s_alloc hs rfl rfl (z := (Value.agg #[Value.slice none 0 0, Value.slice none 0 0, Value.slice none 0 0])) (cs := (([Value.slice none 0 0, Value.slice none 0 0, Value.slice none 0 0] : List Value))) rfl (fun _ => rfl) rfl ?_
  intro b14 w hs
  show G _ _ _ _ [_, _, _, _, _, _, _, _, _, _, _, _, _, _, _, _, _, _, _, _, _, _, _, _, _, _, _, _, _, _, _, _, _, _, _, _, _] _
  refine s_storeAll (n := 3) hs rfl rfl rfl (vs := (([v8, v10, v12] : List Value))) rfl rfl rfl (fun _ => rfl) rfl (by intro v hv; simp only [List.mem_append, List.mem_cons, List.not_mem_nil, or_false] at hv; repeat (first | (subst hv; first | rfl | exact slOne (hs.row 3 rfl) | exact slOne (hs.row 2 rfl) | exact slOne (hs.row 1 rfl)) | (rcases hv with hv | hv))) ?_
  intro w hs
  refine g_ops_nil ?_
  refine g_seq ?_
  refine g_seq ?_
  refine g_region ?_
  show G _ _ _ (.inRegion _ [0] :: _) _ _
  refine g_op (v := Value.int .i64 0) rfl rfl rfl ?_
  show G _ _ _ _ [_, _, _, _, _, _, _, _, _, _, _, _, _, _, _, _, _, _, _, _, _, _, _, _, _, _, _, _, _, _, _, _, _, _, _, _, _] _
  refine g_ops_nil ?_
  obtain ⟨o1_, Ho, Hr1_⟩ := bind_get H
  refine g_block_join (J := fun t w => ∃ v83 : Value, ∃ x84 : (List S_impl_Case), ∃ v86 : Value, ∃ x87 : (List S_impl_Case), ∃ v89 : Value, ∃ x90 : (List S_impl_Case), spec_l03Split.a0 N x84 x87 x90 = some r ∧ Fr t (fun O => ([O 0, O 1, O 2, O 3, Value.pointer (some ⟨b6, 0, none⟩), Value.pointer (some ⟨b14, 0, none⟩), O 6, O 7, O 8, O 9, O 10, O 11, O 12, O 13, O 14, O 15, O 16, O 17, O 18, O 19, O 20, O 21, O 22, O 23, O 24, O 25, O 26, O 27, O 28, O 29, O 30, O 31, O 32, O 33, O 34, O 35, O 36] : List Value)) ∧ St w0 [Cells b6 (([Value.slice none 0 0, Value.slice none 0 0, Value.slice none 0 0] : List Value)) 47, Cells b14 (([v83, v86, v89] : List Value)) 47, Row 84 k_S_impl_Case v83 x84, Row 84 k_S_impl_Case v86 x87, Row 84 k_S_impl_Case v89 x90] w) ?_ ?_
  ·
   rintro t w ⟨v83, x84, v86, x87, v89, x90, H, hf, hs⟩
   obtain ⟨O, rfl⟩ := hf.open
   show G _ _ _ _ [_, _, _, _, _, _, _, _, _, _, _, _, _, _, _, _, _, _, _, _, _, _, _, _, _, _, _, _, _, _, _, _, _, _, _, _, _] _
   unfold spec_l03Split.a0 at H
   refine g_seq ?_
   refine g_region ?_
   show G _ _ _ (.inRegion _ [0, 1] :: _) _ _
   refine s_loadA rfl rfl (es := (([v83, v86, v89] : List Value))) rfl rfl (fun _ => rfl) (n := 3) (fun _ => rfl) rfl (cells_all (hs.cells 1 rfl)) ?_
   show G _ _ _ _ [_, _, _, _, _, _, _, _, _, _, _, _, _, _, _, _, _, _, _, _, _, _, _, _, _, _, _, _, _, _, _, _, _, _, _, _, _] _
   refine s_storeAll (n := 3) hs rfl rfl rfl (vs := (([v83, v86, v89] : List Value))) rfl rfl rfl (fun _ => rfl) rfl (by intro v hv; simp only [List.mem_append, List.mem_cons, List.not_mem_nil, or_false] at hv; repeat (first | (subst hv; first | rfl | exact slOne (hs.row 2 rfl) | exact slOne (hs.row 3 rfl) | exact slOne (hs.row 4 rfl)) | (rcases hv with hv | hv))) ?_
   intro w hs
   refine g_ops_nil ?_
   obtain rfl := Option.some.inj H
   refine g_ret Try.func46 (v := Value.agg (([v83, v86, v89] : List Value)).toArray) (resC rfl ⟨⟨_, rfl, (run_loadVar_agg (es := (([v83, v86, v89] : List Value))) rfl rfl (cells_all (hs.cells 0 rfl)))⟩, trivial⟩) ?_
   have hs := hs.pull 4 rfl
   have hs := hs.pull 4 rfl
   have hs := hs.pull 4 rfl
   have hs : St _ [_, _, _] _ := St.take (Γ' := [_, _]) hs
   exact ⟨_, rfl, v83, v86, v89, rfl, hs⟩
  ·
   intro ha1_
   have hs := hs.pull 0 rfl
   have hs := hs.pull 1 rfl
   have hs := hs.pull 2 rfl
   have hs := hs.pull 3 rfl
   have hs := hs.pull 4 rfl
   have hs := hs.pull 5 rfl
   have hs : St _ [_, _, _, _, _, _] _ := St.take (Γ' := []) hs
   refine g_loop_fuel (I := fun n_ t w => ∃ v46 : Value, ∃ x47 : (List S_impl_Case), ∃ v49 : Value, ∃ x50 : (List S_impl_Case), ∃ v52 : Value, ∃ x53 : (List S_impl_Case), ∃ x54 : Int, rounds (fun s => spec_l03Split.b0 N a2 a1 s.1 s.2.1 s.2.2.1 s.2.2.2) n_ (x47, x50, x53, x54) = some o1_ ∧ Fr t (fun O => ([O 0, v3, Value.pointer (some ⟨b4, 0, none⟩), O 3, Value.pointer (some ⟨b6, 0, none⟩), Value.pointer (some ⟨b14, 0, none⟩), Value.int .i64 x54, O 7, O 8, O 9, O 10, O 11, O 12, O 13, O 14, O 15, O 16, O 17, O 18, O 19, O 20, O 21, O 22, O 23, O 24, O 25, O 26, O 27, O 28, O 29, O 30, O 31, O 32, O 33, O 34, O 35, O 36] : List Value)) ∧ St w0 [Cells b4 ((encA (encI .i8)) a1) 52, Cells b6 (([Value.slice none 0 0, Value.slice none 0 0, Value.slice none 0 0] : List Value)) 47, Row 84 k_S_impl_Case v46 x47, Row 84 k_S_impl_Case v49 x50, Row 84 k_S_impl_Case v52 x53, Cells b14 (([v46, v49, v52] : List Value)) 47] w) N ⟨v8, ([] : List S_impl_Case), v10, ([] : List S_impl_Case), v12, ([] : List S_impl_Case), 0, Ho, rfl, hs⟩ ?_ ?_
   ·
    rintro _ _ ⟨v46, x47, v49, x50, v52, x53, x54, h, _⟩
    exact rounds_zero h
   ·
    intro n_ ih1_
    rintro t w ⟨v46, x47, v49, x50, v52, x53, x54, Ho, hf, hs⟩
    obtain ⟨O, rfl⟩ := hf.open
    show G _ _ _ _ [_, _, _, _, _, _, _, _, _, _, _, _, _, _, _, _, _, _, _, _, _, _, _, _, _, _, _, _, _, _, _, _, _, _, _, _, _] _
    obtain ⟨x23_, H, Hx1_⟩ := rounds_succ Ho
    have H : spec_l03Split.b0 N a2 a1 x47 x50 x53 x54 = some x23_ := H
    unfold spec_l03Split.b0 at H
    refine g_seq ?_
    refine g_seq ?_
    refine g_region ?_
    show G _ _ _ (.inRegion _ [0, 1, 2, 3] :: _) _ _
    refine g_op (v := Value.int .i64 x54) rfl rfl rfl ?_
    refine g_op (v := v3) rfl rfl rfl ?_
    refine s_len (hs.rd hr1) rfl rfl rfl rfl rfl ?_
    show G _ _ _ _ [_, _, _, _, _, _, _, _, _, _, _, _, _, _, _, _, _, _, _, _, _, _, _, _, _, _, _, _, _, _, _, _, _, _, _, _, _] _
    refine g_op_b (B := decide (x54 < (a2.length : Int))) rfl rfl rfl ?_ ?_
    ·
     intro hb
     rw [if_pos (b_dec_t hb)] at H
     show G _ _ _ _ [_, _, _, _, _, _, _, _, _, _, _, _, _, _, _, _, _, _, _, _, _, _, _, _, _, _, _, _, _, _, _, _, _, _, _, _, _] _
     refine g_ops_nil ?_
     refine g_cond_true rfl ?_
     refine g_skip ?_
     refine g_seq ?_
     refine g_block_join (J := (fun t w => ∃ v74 : Value, ∃ x75 : (List S_impl_Case), ∃ v77 : Value, ∃ x78 : (List S_impl_Case), ∃ v80 : Value, ∃ x81 : (List S_impl_Case), spec_l03Split.j2 N x54 x75 x78 x81 = some x23_ ∧ Fr t (fun O => ([O 0, v3, Value.pointer (some ⟨b4, 0, none⟩), O 3, Value.pointer (some ⟨b6, 0, none⟩), Value.pointer (some ⟨b14, 0, none⟩), Value.int .i64 x54, O 7, O 8, O 9, O 10, O 11, O 12, O 13, O 14, O 15, O 16, O 17, O 18, O 19, O 20, O 21, O 22, O 23, O 24, O 25, O 26, O 27, O 28, O 29, O 30, O 31, O 32, O 33, O 34, O 35, O 36] : List Value)) ∧ St w0 [Cells b4 ((encA (encI .i8)) a1) 52, Cells b6 (([Value.slice none 0 0, Value.slice none 0 0, Value.slice none 0 0] : List Value)) 47, Cells b14 (([v74, v77, v80] : List Value)) 47, Row 84 k_S_impl_Case v74 x75, Row 84 k_S_impl_Case v77 x78, Row 84 k_S_impl_Case v80 x81] w)) ?_ ?_
     ·
      rintro t w ⟨v74, x75, v77, x78, v80, x81, H, hf, hs⟩
      obtain ⟨O, rfl⟩ := hf.open
      show G _ _ _ _ [_, _, _, _, _, _, _, _, _, _, _, _, _, _, _, _, _, _, _, _, _, _, _, _, _, _, _, _, _, _, _, _, _, _, _, _, _] _
      unfold spec_l03Split.j2 at H
      refine g_region ?_
      show G _ _ _ (.inRegion _ [0, 1, 2] :: _) _ _
      refine g_op (v := Value.int .i64 x54) rfl rfl rfl ?_
      refine g_op (v := Value.int .i64 (i64w (x54 + 1))) rfl rfl rfl ?_
      show G _ _ _ _ [_, _, _, _, _, _, _, _, _, _, _, _, _, _, _, _, _, _, _, _, _, _, _, _, _, _, _, _, _, _, _, _, _, _, _, _, _] _
      refine g_op (v := Value.int .i64 (i64w (x54 + 1))) rfl rfl rfl ?_
      show G _ _ _ _ [_, _, _, _, _, _, _, _, _, _, _, _, _, _, _, _, _, _, _, _, _, _, _, _, _, _, _, _, _, _, _, _, _, _, _, _, _] _
      refine g_ops_nil ?_
      obtain rfl := Option.some.inj H
      have hs := hs.pull 2 rfl
      have hs := hs.pull 5 rfl
      have hs := hs.pull 5 rfl
      have hs := hs.pull 5 rfl
      have hs := hs.pull 5 rfl
      have hs := hs.pull 5 rfl
      have hs : St _ [_, _, _, _, _, _] _ := St.take (Γ' := []) hs
      exact ih1_ _ _ ⟨v74, x75, v77, x78, v80, x81, i64w (x54 + 1), Hx1_, rfl, hs⟩
     ·
      intro ha
      refine g_seq ?_
      obtain ⟨gd12, H⟩ := ite_get H
      obtain ⟨ad13_, ad13_N, ad13_C, had13_⟩ := sl_at (hs.rd hr1) gd12.1 gd12.2
      obtain ⟨r55, Hr55, H⟩ := bind_get H
      refine g_name ?_
      intro T hT
      refine g_any (n := 8) rfl [0, 1, 2, 3, 4, 5, 6, 7] [0, 1, 2, 3, 4, 5, 6, 7] rfl rfl (Inv := fun D t w => ∃ O : Nat → Value, t = [O 0, v3, Value.pointer (some ⟨b4, 0, none⟩), O 3, Value.pointer (some ⟨b6, 0, none⟩), Value.pointer (some ⟨b14, 0, none⟩), Value.int .i64 x54, cnd (D 7) (Value.int .i64 (i64w (r55 + 1))) (O 7), O 8, O 9, O 10, O 11, Value.int .i64 x54, v3, Value.int .i64 (a2.length : Int), Value.bool true, O 16, O 17, cnd (D 0) (Value.agg ((encA (encI .i8)) a1).toArray) (O 18), cnd (D 1) v3 (O 19), cnd (D 2) (Value.int .i64 x54) (O 20), cnd (D 3) (Value.pointer (some (ad13_.add (x54.toNat * 2)))) (O 21), cnd (D 4) (Value.agg (enc_S_impl_Case (rdL a2 x54 z_S_impl_Case)).toArray) (O 22), cnd (D 5) (Value.int .i64 r55) (O 23), cnd (D 6) (Value.int .i64 (i64w (r55 + 1))) (O 24), O 25, O 26, O 27, O 28, O 29, O 30, O 31, O 32, O 33, O 34, O 35, O 36] ∧ St w0 [Cells b4 ((encA (encI .i8)) a1) 52, Cells b6 (([Value.slice none 0 0, Value.slice none 0 0, Value.slice none 0 0] : List Value)) 47, Row 84 k_S_impl_Case v46 x47, Row 84 k_S_impl_Case v49 x50, Row 84 k_S_impl_Case v52 x53, Cells b14 (([v46, v49, v52] : List Value)) 47] w) ?_ ⟨⟨⟨⟨⟨⟨⟨⟨trivial, ?_⟩, ?_⟩, ?_⟩, ?_⟩, ?_⟩, ?_⟩, ?_⟩, ?_⟩ ?_
      ·
       intro w hh hbw
       have hs := hs.samew hh hbw
       exact ⟨fun i => T.getD i undef, (by subst hT; rfl), hs⟩
      ·
       intro D t w hD hp hcl hI rest hk
       obtain ⟨O, ht, hs⟩ := hI
       have q5_ : D 5 = false := not_yet (hcl.get 5 (by decide)) 0 0 rfl hD
       have q6_ : D 6 = false := not_yet (hcl.get 6 (by decide)) 0 5 rfl q5_
       have q7_ : D 7 = false := not_yet (hcl.get 7 (by decide)) 0 6 rfl q6_
       have u0_ : upd D 0 0 = true := rfl; have u1_ : upd D 0 1 = D 1 := rfl; have u2_ : upd D 0 2 = D 2 := rfl; have u3_ : upd D 0 3 = D 3 := rfl; have u4_ : upd D 0 4 = D 4 := rfl; have u5_ : upd D 0 5 = D 5 := rfl; have u6_ : upd D 0 6 = D 6 := rfl; have u7_ : upd D 0 7 = D 7 := rfl
       simp only [hD, q5_, q6_, q7_, cnd_t, cnd_f, Asc_t, Asc_f] at ht hs
       subst ht
       refine s_loadA rfl rfl (es := ((encA (encI .i8)) a1)) rfl rfl (fun _ => rfl) (n := 14) (fun _ => rfl) ((fkA (n := 14) (he := (fkI .i8).len) (h1 := (fkI .i8).one)).len _) (cells_all (hs.cells 0 rfl)) ?_
       show G _ _ _ _ [_, _, _, _, _, _, _, _, _, _, _, _, _, _, _, _, _, _, _, _, _, _, _, _, _, _, _, _, _, _, _, _, _, _, _, _, _] _
       exact hk _ _ ⟨O, (by simp only [u0_, u1_, u2_, u3_, u4_, u5_, u6_, u7_, q5_, q6_, q7_, cnd_t, cnd_f, Asc_t, Asc_f]), hs.cast (by first | rfl | simp only [List.take, List.drop, List.cons_append, List.nil_append, List.set_cons_zero, List.set_cons_succ, List.eraseIdx, u0_, u1_, u2_, u3_, u4_, u5_, u6_, u7_, q5_, q6_, q7_, cnd_t, cnd_f, Asc_t, Asc_f])⟩
      ·
       intro D t w hD hp hcl hI rest hk
       obtain ⟨O, ht, hs⟩ := hI
       have q3_ : D 3 = false := not_yet (hcl.get 3 (by decide)) 0 1 rfl hD
       have q4_ : D 4 = false := not_yet (hcl.get 4 (by decide)) 0 3 rfl q3_
       have q5_ : D 5 = false := not_yet (hcl.get 5 (by decide)) 1 4 rfl q4_
       have q6_ : D 6 = false := not_yet (hcl.get 6 (by decide)) 0 5 rfl q5_
       have q7_ : D 7 = false := not_yet (hcl.get 7 (by decide)) 0 6 rfl q6_
       have u0_ : upd D 1 0 = D 0 := rfl; have u1_ : upd D 1 1 = true := rfl; have u2_ : upd D 1 2 = D 2 := rfl; have u3_ : upd D 1 3 = D 3 := rfl; have u4_ : upd D 1 4 = D 4 := rfl; have u5_ : upd D 1 5 = D 5 := rfl; have u6_ : upd D 1 6 = D 6 := rfl; have u7_ : upd D 1 7 = D 7 := rfl
       simp only [hD, q3_, q4_, q5_, q6_, q7_, cnd_t, cnd_f, Asc_t, Asc_f] at ht hs
       subst ht
       refine g_op (v := v3) rfl rfl rfl ?_
       show G _ _ _ _ [_, _, _, _, _, _, _, _, _, _, _, _, _, _, _, _, _, _, _, _, _, _, _, _, _, _, _, _, _, _, _, _, _, _, _, _, _] _
       exact hk _ _ ⟨O, (by simp only [u0_, u1_, u2_, u3_, u4_, u5_, u6_, u7_, q3_, q4_, q5_, q6_, q7_, cnd_t, cnd_f, Asc_t, Asc_f]), hs.cast (by first | rfl | simp only [List.take, List.drop, List.cons_append, List.nil_append, List.set_cons_zero, List.set_cons_succ, List.eraseIdx, u0_, u1_, u2_, u3_, u4_, u5_, u6_, u7_, q3_, q4_, q5_, q6_, q7_, cnd_t, cnd_f, Asc_t, Asc_f])⟩
      ·
       intro D t w hD hp hcl hI rest hk
       obtain ⟨O, ht, hs⟩ := hI
       have q3_ : D 3 = false := not_yet (hcl.get 3 (by decide)) 1 2 rfl hD
       have q4_ : D 4 = false := not_yet (hcl.get 4 (by decide)) 0 3 rfl q3_
       have q5_ : D 5 = false := not_yet (hcl.get 5 (by decide)) 1 4 rfl q4_
       have q6_ : D 6 = false := not_yet (hcl.get 6 (by decide)) 0 5 rfl q5_
       have q7_ : D 7 = false := not_yet (hcl.get 7 (by decide)) 0 6 rfl q6_
       have u0_ : upd D 2 0 = D 0 := rfl; have u1_ : upd D 2 1 = D 1 := rfl; have u2_ : upd D 2 2 = true := rfl; have u3_ : upd D 2 3 = D 3 := rfl; have u4_ : upd D 2 4 = D 4 := rfl; have u5_ : upd D 2 5 = D 5 := rfl; have u6_ : upd D 2 6 = D 6 := rfl; have u7_ : upd D 2 7 = D 7 := rfl
       simp only [hD, q3_, q4_, q5_, q6_, q7_, cnd_t, cnd_f, Asc_t, Asc_f] at ht hs
       subst ht
       refine g_op (v := Value.int .i64 x54) rfl rfl rfl ?_
       show G _ _ _ _ [_, _, _, _, _, _, _, _, _, _, _, _, _, _, _, _, _, _, _, _, _, _, _, _, _, _, _, _, _, _, _, _, _, _, _, _, _] _
       exact hk _ _ ⟨O, (by simp only [u0_, u1_, u2_, u3_, u4_, u5_, u6_, u7_, q3_, q4_, q5_, q6_, q7_, cnd_t, cnd_f, Asc_t, Asc_f]), hs.cast (by first | rfl | simp only [List.take, List.drop, List.cons_append, List.nil_append, List.set_cons_zero, List.set_cons_succ, List.eraseIdx, u0_, u1_, u2_, u3_, u4_, u5_, u6_, u7_, q3_, q4_, q5_, q6_, q7_, cnd_t, cnd_f, Asc_t, Asc_f])⟩
      ·
       intro D t w hD hp hcl hI rest hk
       obtain ⟨O, ht, hs⟩ := hI
       obtain ⟨p1_, p2_, _⟩ := hp
       have q4_ : D 4 = false := not_yet (hcl.get 4 (by decide)) 0 3 rfl hD
       have q5_ : D 5 = false := not_yet (hcl.get 5 (by decide)) 1 4 rfl q4_
       have q6_ : D 6 = false := not_yet (hcl.get 6 (by decide)) 0 5 rfl q5_
       have q7_ : D 7 = false := not_yet (hcl.get 7 (by decide)) 0 6 rfl q6_
       have u0_ : upd D 3 0 = D 0 := rfl; have u1_ : upd D 3 1 = D 1 := rfl; have u2_ : upd D 3 2 = D 2 := rfl; have u3_ : upd D 3 3 = true := rfl; have u4_ : upd D 3 4 = D 4 := rfl; have u5_ : upd D 3 5 = D 5 := rfl; have u6_ : upd D 3 6 = D 6 := rfl; have u7_ : upd D 3 7 = D 7 := rfl
       simp only [hD, p1_, p2_, q4_, q5_, q6_, q7_, cnd_t, cnd_f, Asc_t, Asc_f] at ht hs
       subst ht
       refine s_idxD (κ := k_S_impl_Case) (m := 2) rfl (hs.rd hr1) rfl (fun _ => rfl) gd12.1 gd12.2 had13_ rfl rfl rfl rfl rfl ?_
       show G _ _ _ _ [_, _, _, _, _, _, _, _, _, _, _, _, _, _, _, _, _, _, _, _, _, _, _, _, _, _, _, _, _, _, _, _, _, _, _, _, _] _
       exact hk _ _ ⟨O, (by simp only [u0_, u1_, u2_, u3_, u4_, u5_, u6_, u7_, p1_, p2_, q4_, q5_, q6_, q7_, cnd_t, cnd_f, Asc_t, Asc_f]), hs.cast (by first | rfl | simp only [List.take, List.drop, List.cons_append, List.nil_append, List.set_cons_zero, List.set_cons_succ, List.eraseIdx, u0_, u1_, u2_, u3_, u4_, u5_, u6_, u7_, p1_, p2_, q4_, q5_, q6_, q7_, cnd_t, cnd_f, Asc_t, Asc_f])⟩
      ·
       intro D t w hD hp hcl hI rest hk
       obtain ⟨O, ht, hs⟩ := hI
       obtain ⟨p3_, _⟩ := hp
       obtain ⟨p1_, p2_, _⟩ := (hcl.get 3 (by decide)) p3_
       have q5_ : D 5 = false := not_yet (hcl.get 5 (by decide)) 1 4 rfl hD
       have q6_ : D 6 = false := not_yet (hcl.get 6 (by decide)) 0 5 rfl q5_
       have q7_ : D 7 = false := not_yet (hcl.get 7 (by decide)) 0 6 rfl q6_
       have u0_ : upd D 4 0 = D 0 := rfl; have u1_ : upd D 4 1 = D 1 := rfl; have u2_ : upd D 4 2 = D 2 := rfl; have u3_ : upd D 4 3 = D 3 := rfl; have u4_ : upd D 4 4 = true := rfl; have u5_ : upd D 4 5 = D 5 := rfl; have u6_ : upd D 4 6 = D 6 := rfl; have u7_ : upd D 4 7 = D 7 := rfl
       simp only [hD, p1_, p2_, p3_, q5_, q6_, q7_, cnd_t, cnd_f, Asc_t, Asc_f] at ht hs
       subst ht
       refine s_loadA rfl rfl (es := (enc_S_impl_Case (rdL a2 x54 z_S_impl_Case))) rfl rfl (fun _ => rfl) (n := 2) (fun _ => rfl) (fk_S_impl_Case.len _) (cellsAt_of fk_S_impl_Case z_S_impl_Case (hs.rd hr1) had13_ gd12.1 gd12.2) ?_
       show G _ _ _ _ [_, _, _, _, _, _, _, _, _, _, _, _, _, _, _, _, _, _, _, _, _, _, _, _, _, _, _, _, _, _, _, _, _, _, _, _, _] _
       exact hk _ _ ⟨O, (by simp only [u0_, u1_, u2_, u3_, u4_, u5_, u6_, u7_, p1_, p2_, p3_, q5_, q6_, q7_, cnd_t, cnd_f, Asc_t, Asc_f]), hs.cast (by first | rfl | simp only [List.take, List.drop, List.cons_append, List.nil_append, List.set_cons_zero, List.set_cons_succ, List.eraseIdx, u0_, u1_, u2_, u3_, u4_, u5_, u6_, u7_, p1_, p2_, p3_, q5_, q6_, q7_, cnd_t, cnd_f, Asc_t, Asc_f])⟩
      ·
       intro D t w hD hp hcl hI rest hk
       obtain ⟨O, ht, hs⟩ := hI
       obtain ⟨p0_, p4_, _⟩ := hp
       obtain ⟨p3_, _⟩ := (hcl.get 4 (by decide)) p4_
       obtain ⟨p1_, p2_, _⟩ := (hcl.get 3 (by decide)) p3_
       have q6_ : D 6 = false := not_yet (hcl.get 6 (by decide)) 0 5 rfl hD
       have q7_ : D 7 = false := not_yet (hcl.get 7 (by decide)) 0 6 rfl q6_
       have u0_ : upd D 5 0 = D 0 := rfl; have u1_ : upd D 5 1 = D 1 := rfl; have u2_ : upd D 5 2 = D 2 := rfl; have u3_ : upd D 5 3 = D 3 := rfl; have u4_ : upd D 5 4 = D 4 := rfl; have u5_ : upd D 5 5 = true := rfl; have u6_ : upd D 5 6 = D 6 := rfl; have u7_ : upd D 5 7 = D 7 := rfl
       simp only [hD, p0_, p1_, p2_, p3_, p4_, q6_, q7_, cnd_t, cnd_f, Asc_t, Asc_f] at ht hs
       subst ht
       refine s_call (args := [Value.agg ((encA (encI .i8)) a1).toArray, Value.agg (enc_S_impl_Case (rdL a2 x54 z_S_impl_Case)).toArray]) rfl rfl (x_call rfl (callFunc_enter Try.func73 rfl rfl) rfl) (spec_l03Result.calls (a1 := a1) (a2 := rdL a2 x54 z_S_impl_Case) Hr55) ?_
       rintro _ w ⟨rfl, hs2⟩
       have hs : St _ [_, _, _, _, _, _] _ := hs.call hs2
       show G _ _ _ _ [_, _, _, _, _, _, _, _, _, _, _, _, _, _, _, _, _, _, _, _, _, _, _, _, _, _, _, _, _, _, _, _, _, _, _, _, _] _
       exact hk _ _ ⟨O, (by simp only [u0_, u1_, u2_, u3_, u4_, u5_, u6_, u7_, p0_, p1_, p2_, p3_, p4_, q6_, q7_, cnd_t, cnd_f, Asc_t, Asc_f]), hs.cast (by first | rfl | simp only [List.take, List.drop, List.cons_append, List.nil_append, List.set_cons_zero, List.set_cons_succ, List.eraseIdx, u0_, u1_, u2_, u3_, u4_, u5_, u6_, u7_, p0_, p1_, p2_, p3_, p4_, q6_, q7_, cnd_t, cnd_f, Asc_t, Asc_f])⟩
      ·
       intro D t w hD hp hcl hI rest hk
       obtain ⟨O, ht, hs⟩ := hI
       obtain ⟨p5_, _⟩ := hp
       obtain ⟨p0_, p4_, _⟩ := (hcl.get 5 (by decide)) p5_
       obtain ⟨p3_, _⟩ := (hcl.get 4 (by decide)) p4_
       obtain ⟨p1_, p2_, _⟩ := (hcl.get 3 (by decide)) p3_
       have q7_ : D 7 = false := not_yet (hcl.get 7 (by decide)) 0 6 rfl hD
       have u0_ : upd D 6 0 = D 0 := rfl; have u1_ : upd D 6 1 = D 1 := rfl; have u2_ : upd D 6 2 = D 2 := rfl; have u3_ : upd D 6 3 = D 3 := rfl; have u4_ : upd D 6 4 = D 4 := rfl; have u5_ : upd D 6 5 = D 5 := rfl; have u6_ : upd D 6 6 = true := rfl; have u7_ : upd D 6 7 = D 7 := rfl
       simp only [hD, p0_, p1_, p2_, p3_, p4_, p5_, q7_, cnd_t, cnd_f, Asc_t, Asc_f] at ht hs
       subst ht
       refine g_op (v := Value.int .i64 (i64w (r55 + 1))) rfl rfl rfl ?_
       show G _ _ _ _ [_, _, _, _, _, _, _, _, _, _, _, _, _, _, _, _, _, _, _, _, _, _, _, _, _, _, _, _, _, _, _, _, _, _, _, _, _] _
       exact hk _ _ ⟨O, (by simp only [u0_, u1_, u2_, u3_, u4_, u5_, u6_, u7_, p0_, p1_, p2_, p3_, p4_, p5_, q7_, cnd_t, cnd_f, Asc_t, Asc_f]), hs.cast (by first | rfl | simp only [List.take, List.drop, List.cons_append, List.nil_append, List.set_cons_zero, List.set_cons_succ, List.eraseIdx, u0_, u1_, u2_, u3_, u4_, u5_, u6_, u7_, p0_, p1_, p2_, p3_, p4_, p5_, q7_, cnd_t, cnd_f, Asc_t, Asc_f])⟩
      ·
       intro D t w hD hp hcl hI rest hk
       obtain ⟨O, ht, hs⟩ := hI
       obtain ⟨p6_, p5_, p0_, p1_, p2_, p3_, p4_, _, _, _⟩ := hp
       have u0_ : upd D 7 0 = D 0 := rfl; have u1_ : upd D 7 1 = D 1 := rfl; have u2_ : upd D 7 2 = D 2 := rfl; have u3_ : upd D 7 3 = D 3 := rfl; have u4_ : upd D 7 4 = D 4 := rfl; have u5_ : upd D 7 5 = D 5 := rfl; have u6_ : upd D 7 6 = D 6 := rfl; have u7_ : upd D 7 7 = true := rfl
       simp only [hD, p0_, p1_, p2_, p3_, p4_, p5_, p6_, cnd_t, cnd_f, Asc_t, Asc_f] at ht hs
       subst ht
       refine g_op (v := Value.int .i64 (i64w (r55 + 1))) rfl rfl rfl ?_
       show G _ _ _ _ [_, _, _, _, _, _, _, _, _, _, _, _, _, _, _, _, _, _, _, _, _, _, _, _, _, _, _, _, _, _, _, _, _, _, _, _, _] _
       exact hk _ _ ⟨O, (by simp only [u0_, u1_, u2_, u3_, u4_, u5_, u6_, u7_, p0_, p1_, p2_, p3_, p4_, p5_, p6_, cnd_t, cnd_f, Asc_t, Asc_f]), hs.cast (by first | rfl | simp only [List.take, List.drop, List.cons_append, List.nil_append, List.set_cons_zero, List.set_cons_succ, List.eraseIdx, u0_, u1_, u2_, u3_, u4_, u5_, u6_, u7_, p0_, p1_, p2_, p3_, p4_, p5_, p6_, cnd_t, cnd_f, Asc_t, Asc_f])⟩
      ·
       intro D t w hall hI
       obtain ⟨O, ht, hs⟩ := hI
       have p0_ : D 0 = true := hall 0 (by decide)
       have p1_ : D 1 = true := hall 1 (by decide)
       have p2_ : D 2 = true := hall 2 (by decide)
       have p3_ : D 3 = true := hall 3 (by decide)
       have p4_ : D 4 = true := hall 4 (by decide)
       have p5_ : D 5 = true := hall 5 (by decide)
       have p6_ : D 6 = true := hall 6 (by decide)
       have p7_ : D 7 = true := hall 7 (by decide)
       simp only [p0_, p1_, p2_, p3_, p4_, p5_, p6_, p7_, cnd_t, cnd_f, Asc_t, Asc_f] at ht hs
       subst ht
       by_cases hk14_ : i64w (r55 + 1) = 0
       ·
        rw [if_pos hk14_] at H
        obtain ⟨gd15, H⟩ := ite_get H
        obtain ⟨ad16_, ad16_N, ad16_C, had16_⟩ := sl_at (hs.rd hr1) gd15.1 gd15.2
        obtain ⟨gq9_, H⟩ := ite_get H
        refine g_name ?_
        intro T hT
        refine g_any (n := 12) rfl [0, 1, 2, 3, 4, 5, 6, 7, 8, 9, 10, 11] [0, 1, 2, 3, 4, 5, 6, 7, 8, 9, 10, 11] rfl rfl (Inv := fun D t w => ∃ v56 : Value, ∃ v58 : Value, ∃ O : Nat → Value, t = [O 0, v3, Value.pointer (some ⟨b4, 0, none⟩), O 3, Value.pointer (some ⟨b6, 0, none⟩), Value.pointer (some ⟨b14, 0, none⟩), Value.int .i64 x54, Value.int .i64 (i64w (r55 + 1)), O 8, O 9, O 10, O 11, Value.int .i64 x54, v3, Value.int .i64 (a2.length : Int), Value.bool true, O 16, O 17, Value.agg ((encA (encI .i8)) a1).toArray, v3, Value.int .i64 x54, Value.pointer (some (ad13_.add (x54.toNat * 2))), Value.agg (enc_S_impl_Case (rdL a2 x54 z_S_impl_Case)).toArray, Value.int .i64 r55, Value.int .i64 (i64w (r55 + 1)), cnd (D 0) (Value.int .i64 (i64w (r55 + 1))) (O 25), cnd (D 1) (Value.int .i64 (i64w (r55 + 1))) (O 26), cnd (D 2) (Value.pointer (some ⟨b14, 0 + 0 * 1, none⟩)) (O 27), cnd (D 3) v46 (O 28), cnd (D 4) v3 (O 29), cnd (D 5) (Value.int .i64 x54) (O 30), cnd (D 6) (Value.pointer (some (ad16_.add (x54.toNat * 2)))) (O 31), cnd (D 7) (Value.agg (enc_S_impl_Case (rdL a2 x54 z_S_impl_Case)).toArray) (O 32), cnd (D 8) v56 (O 33), cnd (D 9) v58 (O 34), cnd (D 10) (Value.pointer (some ⟨b14, 0 + 0 * 1, none⟩)) (O 35), O 36] ∧ St w0 [Asc (D 8) (Row 84 k_S_impl_Case v56 ([rdL a2 x54 z_S_impl_Case])), Cells b4 ((encA (encI .i8)) a1) 52, Cells b6 (([Value.slice none 0 0, Value.slice none 0 0, Value.slice none 0 0] : List Value)) 47, Row 84 k_S_impl_Case (cnd (D 9) v58 v46) (cnd (D 9) (x47 ++ ([rdL a2 x54 z_S_impl_Case])) x47), Row 84 k_S_impl_Case v49 x50, Row 84 k_S_impl_Case v52 x53, Cells b14 (cnd (D 11) (([v58, v49, v52] : List Value)) (([v46, v49, v52] : List Value))) 47] w) ?_ ⟨⟨⟨⟨⟨⟨⟨⟨⟨⟨⟨⟨trivial, ?_⟩, ?_⟩, ?_⟩, ?_⟩, ?_⟩, ?_⟩, ?_⟩, ?_⟩, ?_⟩, ?_⟩, ?_⟩, ?_⟩ ?_
        ·
         intro w hh hbw
         have hs := hs.samew hh hbw
         have hs := hs.emp
         exact ⟨undef, undef, fun i => T.getD i undef, (by subst hT; rfl), hs⟩
        ·
         intro D t w hD hp hcl hI rest hk
         obtain ⟨v56, v58, O, ht, hs⟩ := hI
         have q10_ : D 10 = false := not_yet (hcl.get 10 (by decide)) 0 0 rfl hD
         have q11_ : D 11 = false := not_yet (hcl.get 11 (by decide)) 0 10 rfl q10_
         have u0_ : upd D 0 0 = true := rfl; have u1_ : upd D 0 1 = D 1 := rfl; have u2_ : upd D 0 2 = D 2 := rfl; have u3_ : upd D 0 3 = D 3 := rfl; have u4_ : upd D 0 4 = D 4 := rfl; have u5_ : upd D 0 5 = D 5 := rfl; have u6_ : upd D 0 6 = D 6 := rfl; have u7_ : upd D 0 7 = D 7 := rfl; have u8_ : upd D 0 8 = D 8 := rfl; have u9_ : upd D 0 9 = D 9 := rfl; have u10_ : upd D 0 10 = D 10 := rfl; have u11_ : upd D 0 11 = D 11 := rfl
         simp only [hD, q10_, q11_, cnd_t, cnd_f, Asc_t, Asc_f] at ht hs
         subst ht
         refine g_op (v := Value.int .i64 (i64w (r55 + 1))) rfl rfl rfl ?_
         show G _ _ _ _ [_, _, _, _, _, _, _, _, _, _, _, _, _, _, _, _, _, _, _, _, _, _, _, _, _, _, _, _, _, _, _, _, _, _, _, _, _] _
         exact hk _ _ ⟨v56, v58, O, (by simp only [u0_, u1_, u2_, u3_, u4_, u5_, u6_, u7_, u8_, u9_, u10_, u11_, q10_, q11_, cnd_t, cnd_f, Asc_t, Asc_f]), hs.cast (by first | rfl | simp only [List.take, List.drop, List.cons_append, List.nil_append, List.set_cons_zero, List.set_cons_succ, List.eraseIdx, u0_, u1_, u2_, u3_, u4_, u5_, u6_, u7_, u8_, u9_, u10_, u11_, q10_, q11_, cnd_t, cnd_f, Asc_t, Asc_f])⟩
        ·
         intro D t w hD hp hcl hI rest hk
         obtain ⟨v56, v58, O, ht, hs⟩ := hI
         have q2_ : D 2 = false := not_yet (hcl.get 2 (by decide)) 0 1 rfl hD
         have q3_ : D 3 = false := not_yet (hcl.get 3 (by decide)) 0 2 rfl q2_
         have q9_ : D 9 = false := not_yet (hcl.get 9 (by decide)) 0 3 rfl q3_
         have q10_ : D 10 = false := not_yet (hcl.get 10 (by decide)) 2 1 rfl hD
         have q11_ : D 11 = false := not_yet (hcl.get 11 (by decide)) 0 10 rfl q10_
         have u0_ : upd D 1 0 = D 0 := rfl; have u1_ : upd D 1 1 = true := rfl; have u2_ : upd D 1 2 = D 2 := rfl; have u3_ : upd D 1 3 = D 3 := rfl; have u4_ : upd D 1 4 = D 4 := rfl; have u5_ : upd D 1 5 = D 5 := rfl; have u6_ : upd D 1 6 = D 6 := rfl; have u7_ : upd D 1 7 = D 7 := rfl; have u8_ : upd D 1 8 = D 8 := rfl; have u9_ : upd D 1 9 = D 9 := rfl; have u10_ : upd D 1 10 = D 10 := rfl; have u11_ : upd D 1 11 = D 11 := rfl
         simp only [hD, q2_, q3_, q9_, q10_, q11_, cnd_t, cnd_f, Asc_t, Asc_f] at ht hs
         subst ht
         refine g_op (v := Value.int .i64 (i64w (r55 + 1))) rfl rfl rfl ?_
         show G _ _ _ _ [_, _, _, _, _, _, _, _, _, _, _, _, _, _, _, _, _, _, _, _, _, _, _, _, _, _, _, _, _, _, _, _, _, _, _, _, _] _
         exact hk _ _ ⟨v56, v58, O, (by simp only [u0_, u1_, u2_, u3_, u4_, u5_, u6_, u7_, u8_, u9_, u10_, u11_, q2_, q3_, q9_, q10_, q11_, cnd_t, cnd_f, Asc_t, Asc_f]), hs.cast (by first | rfl | simp only [List.take, List.drop, List.cons_append, List.nil_append, List.set_cons_zero, List.set_cons_succ, List.eraseIdx, u0_, u1_, u2_, u3_, u4_, u5_, u6_, u7_, u8_, u9_, u10_, u11_, q2_, q3_, q9_, q10_, q11_, cnd_t, cnd_f, Asc_t, Asc_f])⟩
        ·
         intro D t w hD hp hcl hI rest hk
         obtain ⟨v56, v58, O, ht, hs⟩ := hI
         obtain ⟨p1_, _⟩ := hp
         have q3_ : D 3 = false := not_yet (hcl.get 3 (by decide)) 0 2 rfl hD
         have q9_ : D 9 = false := not_yet (hcl.get 9 (by decide)) 0 3 rfl q3_
         have q10_ : D 10 = false := not_yet (hcl.get 10 (by decide)) 3 2 rfl hD
         have q11_ : D 11 = false := not_yet (hcl.get 11 (by decide)) 0 10 rfl q10_
         have u0_ : upd D 2 0 = D 0 := rfl; have u1_ : upd D 2 1 = D 1 := rfl; have u2_ : upd D 2 2 = true := rfl; have u3_ : upd D 2 3 = D 3 := rfl; have u4_ : upd D 2 4 = D 4 := rfl; have u5_ : upd D 2 5 = D 5 := rfl; have u6_ : upd D 2 6 = D 6 := rfl; have u7_ : upd D 2 7 = D 7 := rfl; have u8_ : upd D 2 8 = D 8 := rfl; have u9_ : upd D 2 9 = D 9 := rfl; have u10_ : upd D 2 10 = D 10 := rfl; have u11_ : upd D 2 11 = D 11 := rfl
         simp only [hD, p1_, q3_, q9_, q10_, q11_, cnd_t, cnd_f, Asc_t, Asc_f] at ht hs
         subst ht
         refine s_idxJ (m := 1) 0 hk14_ (by decide) rfl (fun _ => rfl) rfl rfl rfl rfl rfl ?_
         show G _ _ _ _ [_, _, _, _, _, _, _, _, _, _, _, _, _, _, _, _, _, _, _, _, _, _, _, _, _, _, _, _, _, _, _, _, _, _, _, _, _] _
         exact hk _ _ ⟨v56, v58, O, (by simp only [u0_, u1_, u2_, u3_, u4_, u5_, u6_, u7_, u8_, u9_, u10_, u11_, p1_, q3_, q9_, q10_, q11_, cnd_t, cnd_f, Asc_t, Asc_f]), hs.cast (by first | rfl | simp only [List.take, List.drop, List.cons_append, List.nil_append, List.set_cons_zero, List.set_cons_succ, List.eraseIdx, u0_, u1_, u2_, u3_, u4_, u5_, u6_, u7_, u8_, u9_, u10_, u11_, p1_, q3_, q9_, q10_, q11_, cnd_t, cnd_f, Asc_t, Asc_f])⟩
        ·
         intro D t w hD hp hcl hI rest hk
         obtain ⟨v56, v58, O, ht, hs⟩ := hI
         obtain ⟨p2_, _⟩ := hp
         obtain ⟨p1_, _⟩ := (hcl.get 2 (by decide)) p2_
         have q9_ : D 9 = false := not_yet (hcl.get 9 (by decide)) 0 3 rfl hD
         have q10_ : D 10 = false := not_yet (hcl.get 10 (by decide)) 4 3 rfl hD
         have q11_ : D 11 = false := not_yet (hcl.get 11 (by decide)) 0 10 rfl q10_
         have u0_ : upd D 3 0 = D 0 := rfl; have u1_ : upd D 3 1 = D 1 := rfl; have u2_ : upd D 3 2 = D 2 := rfl; have u3_ : upd D 3 3 = true := rfl; have u4_ : upd D 3 4 = D 4 := rfl; have u5_ : upd D 3 5 = D 5 := rfl; have u6_ : upd D 3 6 = D 6 := rfl; have u7_ : upd D 3 7 = D 7 := rfl; have u8_ : upd D 3 8 = D 8 := rfl; have u9_ : upd D 3 9 = D 9 := rfl; have u10_ : upd D 3 10 = D 10 := rfl; have u11_ : upd D 3 11 = D 11 := rfl
         simp only [hD, p1_, p2_, q9_, q10_, q11_, cnd_t, cnd_f, Asc_t, Asc_f] at ht hs
         subst ht
         refine s_load1 rfl rfl (v := v46) rfl rfl (fun _ => rfl) (cells_load (hs.cells 6 rfl) 0 1 rfl) ?_
         show G _ _ _ _ [_, _, _, _, _, _, _, _, _, _, _, _, _, _, _, _, _, _, _, _, _, _, _, _, _, _, _, _, _, _, _, _, _, _, _, _, _] _
         exact hk _ _ ⟨v56, v58, O, (by simp only [u0_, u1_, u2_, u3_, u4_, u5_, u6_, u7_, u8_, u9_, u10_, u11_, p1_, p2_, q9_, q10_, q11_, cnd_t, cnd_f, Asc_t, Asc_f]), hs.cast (by first | rfl | simp only [List.take, List.drop, List.cons_append, List.nil_append, List.set_cons_zero, List.set_cons_succ, List.eraseIdx, u0_, u1_, u2_, u3_, u4_, u5_, u6_, u7_, u8_, u9_, u10_, u11_, p1_, p2_, q9_, q10_, q11_, cnd_t, cnd_f, Asc_t, Asc_f])⟩
        ·
         intro D t w hD hp hcl hI rest hk
         obtain ⟨v56, v58, O, ht, hs⟩ := hI
         have q6_ : D 6 = false := not_yet (hcl.get 6 (by decide)) 0 4 rfl hD
         have q7_ : D 7 = false := not_yet (hcl.get 7 (by decide)) 0 6 rfl q6_
         have q8_ : D 8 = false := not_yet (hcl.get 8 (by decide)) 0 7 rfl q7_
         have q9_ : D 9 = false := not_yet (hcl.get 9 (by decide)) 1 8 rfl q8_
         have q10_ : D 10 = false := not_yet (hcl.get 10 (by decide)) 5 4 rfl hD
         have q11_ : D 11 = false := not_yet (hcl.get 11 (by decide)) 0 10 rfl q10_
         have u0_ : upd D 4 0 = D 0 := rfl; have u1_ : upd D 4 1 = D 1 := rfl; have u2_ : upd D 4 2 = D 2 := rfl; have u3_ : upd D 4 3 = D 3 := rfl; have u4_ : upd D 4 4 = true := rfl; have u5_ : upd D 4 5 = D 5 := rfl; have u6_ : upd D 4 6 = D 6 := rfl; have u7_ : upd D 4 7 = D 7 := rfl; have u8_ : upd D 4 8 = D 8 := rfl; have u9_ : upd D 4 9 = D 9 := rfl; have u10_ : upd D 4 10 = D 10 := rfl; have u11_ : upd D 4 11 = D 11 := rfl
         simp only [hD, q6_, q7_, q8_, q9_, q10_, q11_, cnd_t, cnd_f, Asc_t, Asc_f] at ht hs
         subst ht
         refine g_op (v := v3) rfl rfl rfl ?_
         show G _ _ _ _ [_, _, _, _, _, _, _, _, _, _, _, _, _, _, _, _, _, _, _, _, _, _, _, _, _, _, _, _, _, _, _, _, _, _, _, _, _] _
         exact hk _ _ ⟨v56, v58, O, (by simp only [u0_, u1_, u2_, u3_, u4_, u5_, u6_, u7_, u8_, u9_, u10_, u11_, q6_, q7_, q8_, q9_, q10_, q11_, cnd_t, cnd_f, Asc_t, Asc_f]), hs.cast (by first | rfl | simp only [List.take, List.drop, List.cons_append, List.nil_append, List.set_cons_zero, List.set_cons_succ, List.eraseIdx, u0_, u1_, u2_, u3_, u4_, u5_, u6_, u7_, u8_, u9_, u10_, u11_, q6_, q7_, q8_, q9_, q10_, q11_, cnd_t, cnd_f, Asc_t, Asc_f])⟩
        ·
         intro D t w hD hp hcl hI rest hk
         obtain ⟨v56, v58, O, ht, hs⟩ := hI
         have q6_ : D 6 = false := not_yet (hcl.get 6 (by decide)) 1 5 rfl hD
         have q7_ : D 7 = false := not_yet (hcl.get 7 (by decide)) 0 6 rfl q6_
         have q8_ : D 8 = false := not_yet (hcl.get 8 (by decide)) 0 7 rfl q7_
         have q9_ : D 9 = false := not_yet (hcl.get 9 (by decide)) 1 8 rfl q8_
         have q10_ : D 10 = false := not_yet (hcl.get 10 (by decide)) 6 5 rfl hD
         have q11_ : D 11 = false := not_yet (hcl.get 11 (by decide)) 0 10 rfl q10_
         have u0_ : upd D 5 0 = D 0 := rfl; have u1_ : upd D 5 1 = D 1 := rfl; have u2_ : upd D 5 2 = D 2 := rfl; have u3_ : upd D 5 3 = D 3 := rfl; have u4_ : upd D 5 4 = D 4 := rfl; have u5_ : upd D 5 5 = true := rfl; have u6_ : upd D 5 6 = D 6 := rfl; have u7_ : upd D 5 7 = D 7 := rfl; have u8_ : upd D 5 8 = D 8 := rfl; have u9_ : upd D 5 9 = D 9 := rfl; have u10_ : upd D 5 10 = D 10 := rfl; have u11_ : upd D 5 11 = D 11 := rfl
         simp only [hD, q6_, q7_, q8_, q9_, q10_, q11_, cnd_t, cnd_f, Asc_t, Asc_f] at ht hs
         subst ht
         refine g_op (v := Value.int .i64 x54) rfl rfl rfl ?_
         show G _ _ _ _ [_, _, _, _, _, _, _, _, _, _, _, _, _, _, _, _, _, _, _, _, _, _, _, _, _, _, _, _, _, _, _, _, _, _, _, _, _] _
         exact hk _ _ ⟨v56, v58, O, (by simp only [u0_, u1_, u2_, u3_, u4_, u5_, u6_, u7_, u8_, u9_, u10_, u11_, q6_, q7_, q8_, q9_, q10_, q11_, cnd_t, cnd_f, Asc_t, Asc_f]), hs.cast (by first | rfl | simp only [List.take, List.drop, List.cons_append, List.nil_append, List.set_cons_zero, List.set_cons_succ, List.eraseIdx, u0_, u1_, u2_, u3_, u4_, u5_, u6_, u7_, u8_, u9_, u10_, u11_, q6_, q7_, q8_, q9_, q10_, q11_, cnd_t, cnd_f, Asc_t, Asc_f])⟩
        ·
         intro D t w hD hp hcl hI rest hk
         obtain ⟨v56, v58, O, ht, hs⟩ := hI
         obtain ⟨p4_, p5_, _⟩ := hp
         have q7_ : D 7 = false := not_yet (hcl.get 7 (by decide)) 0 6 rfl hD
         have q8_ : D 8 = false := not_yet (hcl.get 8 (by decide)) 0 7 rfl q7_
         have q9_ : D 9 = false := not_yet (hcl.get 9 (by decide)) 1 8 rfl q8_
         have q10_ : D 10 = false := not_yet (hcl.get 10 (by decide)) 7 6 rfl hD
         have q11_ : D 11 = false := not_yet (hcl.get 11 (by decide)) 0 10 rfl q10_
         have u0_ : upd D 6 0 = D 0 := rfl; have u1_ : upd D 6 1 = D 1 := rfl; have u2_ : upd D 6 2 = D 2 := rfl; have u3_ : upd D 6 3 = D 3 := rfl; have u4_ : upd D 6 4 = D 4 := rfl; have u5_ : upd D 6 5 = D 5 := rfl; have u6_ : upd D 6 6 = true := rfl; have u7_ : upd D 6 7 = D 7 := rfl; have u8_ : upd D 6 8 = D 8 := rfl; have u9_ : upd D 6 9 = D 9 := rfl; have u10_ : upd D 6 10 = D 10 := rfl; have u11_ : upd D 6 11 = D 11 := rfl
         simp only [hD, p4_, p5_, q7_, q8_, q9_, q10_, q11_, cnd_t, cnd_f, Asc_t, Asc_f] at ht hs
         subst ht
         refine s_idxD (κ := k_S_impl_Case) (m := 2) rfl (hs.rd hr1) rfl (fun _ => rfl) gd15.1 gd15.2 had16_ rfl rfl rfl rfl rfl ?_
         show G _ _ _ _ [_, _, _, _, _, _, _, _, _, _, _, _, _, _, _, _, _, _, _, _, _, _, _, _, _, _, _, _, _, _, _, _, _, _, _, _, _] _
         exact hk _ _ ⟨v56, v58, O, (by simp only [u0_, u1_, u2_, u3_, u4_, u5_, u6_, u7_, u8_, u9_, u10_, u11_, p4_, p5_, q7_, q8_, q9_, q10_, q11_, cnd_t, cnd_f, Asc_t, Asc_f]), hs.cast (by first | rfl | simp only [List.take, List.drop, List.cons_append, List.nil_append, List.set_cons_zero, List.set_cons_succ, List.eraseIdx, u0_, u1_, u2_, u3_, u4_, u5_, u6_, u7_, u8_, u9_, u10_, u11_, p4_, p5_, q7_, q8_, q9_, q10_, q11_, cnd_t, cnd_f, Asc_t, Asc_f])⟩
        ·
         intro D t w hD hp hcl hI rest hk
         obtain ⟨v56, v58, O, ht, hs⟩ := hI
         obtain ⟨p6_, _⟩ := hp
         obtain ⟨p4_, p5_, _⟩ := (hcl.get 6 (by decide)) p6_
         have q8_ : D 8 = false := not_yet (hcl.get 8 (by decide)) 0 7 rfl hD
         have q9_ : D 9 = false := not_yet (hcl.get 9 (by decide)) 1 8 rfl q8_
         have q10_ : D 10 = false := not_yet (hcl.get 10 (by decide)) 8 7 rfl hD
         have q11_ : D 11 = false := not_yet (hcl.get 11 (by decide)) 0 10 rfl q10_
         have u0_ : upd D 7 0 = D 0 := rfl; have u1_ : upd D 7 1 = D 1 := rfl; have u2_ : upd D 7 2 = D 2 := rfl; have u3_ : upd D 7 3 = D 3 := rfl; have u4_ : upd D 7 4 = D 4 := rfl; have u5_ : upd D 7 5 = D 5 := rfl; have u6_ : upd D 7 6 = D 6 := rfl; have u7_ : upd D 7 7 = true := rfl; have u8_ : upd D 7 8 = D 8 := rfl; have u9_ : upd D 7 9 = D 9 := rfl; have u10_ : upd D 7 10 = D 10 := rfl; have u11_ : upd D 7 11 = D 11 := rfl
         simp only [hD, p4_, p5_, p6_, q8_, q9_, q10_, q11_, cnd_t, cnd_f, Asc_t, Asc_f] at ht hs
         subst ht
         refine s_loadA rfl rfl (es := (enc_S_impl_Case (rdL a2 x54 z_S_impl_Case))) rfl rfl (fun _ => rfl) (n := 2) (fun _ => rfl) (fk_S_impl_Case.len _) (cellsAt_of fk_S_impl_Case z_S_impl_Case (hs.rd hr1) had16_ gd15.1 gd15.2) ?_
         show G _ _ _ _ [_, _, _, _, _, _, _, _, _, _, _, _, _, _, _, _, _, _, _, _, _, _, _, _, _, _, _, _, _, _, _, _, _, _, _, _, _] _
         exact hk _ _ ⟨v56, v58, O, (by simp only [u0_, u1_, u2_, u3_, u4_, u5_, u6_, u7_, u8_, u9_, u10_, u11_, p4_, p5_, p6_, q8_, q9_, q10_, q11_, cnd_t, cnd_f, Asc_t, Asc_f]), hs.cast (by first | rfl | simp only [List.take, List.drop, List.cons_append, List.nil_append, List.set_cons_zero, List.set_cons_succ, List.eraseIdx, u0_, u1_, u2_, u3_, u4_, u5_, u6_, u7_, u8_, u9_, u10_, u11_, p4_, p5_, p6_, q8_, q9_, q10_, q11_, cnd_t, cnd_f, Asc_t, Asc_f])⟩
        ·
         intro D t w hD hp hcl hI rest hk
         obtain ⟨v56, v58, O, ht, hs⟩ := hI
         obtain ⟨p7_, _⟩ := hp
         obtain ⟨p6_, _⟩ := (hcl.get 7 (by decide)) p7_
         obtain ⟨p4_, p5_, _⟩ := (hcl.get 6 (by decide)) p6_
         have q9_ : D 9 = false := not_yet (hcl.get 9 (by decide)) 1 8 rfl hD
         have q10_ : D 10 = false := not_yet (hcl.get 10 (by decide)) 9 8 rfl hD
         have q11_ : D 11 = false := not_yet (hcl.get 11 (by decide)) 0 10 rfl q10_
         have u0_ : upd D 8 0 = D 0 := rfl; have u1_ : upd D 8 1 = D 1 := rfl; have u2_ : upd D 8 2 = D 2 := rfl; have u3_ : upd D 8 3 = D 3 := rfl; have u4_ : upd D 8 4 = D 4 := rfl; have u5_ : upd D 8 5 = D 5 := rfl; have u6_ : upd D 8 6 = D 6 := rfl; have u7_ : upd D 8 7 = D 7 := rfl; have u8_ : upd D 8 8 = true := rfl; have u9_ : upd D 8 9 = D 9 := rfl; have u10_ : upd D 8 10 = D 10 := rfl; have u11_ : upd D 8 11 = D 11 := rfl
         simp only [hD, p4_, p5_, p6_, p7_, q9_, q10_, q11_, cnd_t, cnd_f, Asc_t, Asc_f] at ht hs
         subst ht
         refine s_lit1 fk_S_impl_Case (y := rdL a2 x54 z_S_impl_Case) hs rfl rfl rfl rfl (fun _ => rfl) (zv := (Value.agg #[Value.int .i8 0, Value.bool false])) (fun _ => rfl) rfl (by decide) (by decide) rfl ?_
         intro v56 w hs
         show G _ _ _ _ [_, _, _, _, _, _, _, _, _, _, _, _, _, _, _, _, _, _, _, _, _, _, _, _, _, _, _, _, _, _, _, _, _, _, _, _, _] _
         have hs := hs.fill 0 rfl
         exact hk _ _ ⟨v56, v58, O, (by simp only [u0_, u1_, u2_, u3_, u4_, u5_, u6_, u7_, u8_, u9_, u10_, u11_, p4_, p5_, p6_, p7_, q9_, q10_, q11_, cnd_t, cnd_f, Asc_t, Asc_f]), hs.cast (by first | rfl | simp only [List.take, List.drop, List.cons_append, List.nil_append, List.set_cons_zero, List.set_cons_succ, List.eraseIdx, u0_, u1_, u2_, u3_, u4_, u5_, u6_, u7_, u8_, u9_, u10_, u11_, p4_, p5_, p6_, p7_, q9_, q10_, q11_, cnd_t, cnd_f, Asc_t, Asc_f])⟩
        ·
         intro D t w hD hp hcl hI rest hk
         obtain ⟨v56, v58, O, ht, hs⟩ := hI
         obtain ⟨p3_, p8_, _⟩ := hp
         obtain ⟨p7_, _⟩ := (hcl.get 8 (by decide)) p8_
         obtain ⟨p6_, _⟩ := (hcl.get 7 (by decide)) p7_
         obtain ⟨p4_, p5_, _⟩ := (hcl.get 6 (by decide)) p6_
         obtain ⟨p2_, _⟩ := (hcl.get 3 (by decide)) p3_
         obtain ⟨p1_, _⟩ := (hcl.get 2 (by decide)) p2_
         have q10_ : D 10 = false := not_yet (hcl.get 10 (by decide)) 10 9 rfl hD
         have q11_ : D 11 = false := not_yet (hcl.get 11 (by decide)) 0 10 rfl q10_
         have u0_ : upd D 9 0 = D 0 := rfl; have u1_ : upd D 9 1 = D 1 := rfl; have u2_ : upd D 9 2 = D 2 := rfl; have u3_ : upd D 9 3 = D 3 := rfl; have u4_ : upd D 9 4 = D 4 := rfl; have u5_ : upd D 9 5 = D 5 := rfl; have u6_ : upd D 9 6 = D 6 := rfl; have u7_ : upd D 9 7 = D 7 := rfl; have u8_ : upd D 9 8 = D 8 := rfl; have u9_ : upd D 9 9 = true := rfl; have u10_ : upd D 9 10 = D 10 := rfl; have u11_ : upd D 9 11 = D 11 := rfl
         simp only [hD, p1_, p2_, p3_, p4_, p5_, p6_, p7_, p8_, q10_, q11_, cnd_t, cnd_f, Asc_t, Asc_f] at ht hs
         subst ht
         have hs := hs.pull 3 rfl
         have hs : St _ [_, _, _, _, _, _, _] _ := hs
         refine s_append fk_S_impl_Case (zv := (Value.agg #[Value.int .i8 0, Value.bool false])) (B := 2) hs (hs.row 1 rfl) rfl rfl rfl rfl rfl rfl rfl rfl rfl (by decide) rfl rfl (by decide) (by have := gq9_; omega) ?_
         intro v58 w hs
         show G _ _ _ _ [_, _, _, _, _, _, _, _, _, _, _, _, _, _, _, _, _, _, _, _, _, _, _, _, _, _, _, _, _, _, _, _, _, _, _, _, _] _
         have hs := hs.push 3 (by simp)
         exact hk _ _ ⟨v56, v58, O, (by simp only [u0_, u1_, u2_, u3_, u4_, u5_, u6_, u7_, u8_, u9_, u10_, u11_, p1_, p2_, p3_, p4_, p5_, p6_, p7_, p8_, q10_, q11_, cnd_t, cnd_f, Asc_t, Asc_f]), hs.cast (by first | rfl | simp only [List.take, List.drop, List.cons_append, List.nil_append, List.set_cons_zero, List.set_cons_succ, List.eraseIdx, u0_, u1_, u2_, u3_, u4_, u5_, u6_, u7_, u8_, u9_, u10_, u11_, p1_, p2_, p3_, p4_, p5_, p6_, p7_, p8_, q10_, q11_, cnd_t, cnd_f, Asc_t, Asc_f])⟩
        ·
         intro D t w hD hp hcl hI rest hk
         obtain ⟨v56, v58, O, ht, hs⟩ := hI
         obtain ⟨p0_, _, p1_, p2_, p3_, p4_, p5_, p6_, p7_, p8_, p9_, _⟩ := hp
         have q11_ : D 11 = false := not_yet (hcl.get 11 (by decide)) 0 10 rfl hD
         have u0_ : upd D 10 0 = D 0 := rfl; have u1_ : upd D 10 1 = D 1 := rfl; have u2_ : upd D 10 2 = D 2 := rfl; have u3_ : upd D 10 3 = D 3 := rfl; have u4_ : upd D 10 4 = D 4 := rfl; have u5_ : upd D 10 5 = D 5 := rfl; have u6_ : upd D 10 6 = D 6 := rfl; have u7_ : upd D 10 7 = D 7 := rfl; have u8_ : upd D 10 8 = D 8 := rfl; have u9_ : upd D 10 9 = D 9 := rfl; have u10_ : upd D 10 10 = true := rfl; have u11_ : upd D 10 11 = D 11 := rfl
         simp only [hD, p0_, p1_, p2_, p3_, p4_, p5_, p6_, p7_, p8_, p9_, q11_, cnd_t, cnd_f, Asc_t, Asc_f] at ht hs
         subst ht
         refine s_idxJ (m := 1) 0 hk14_ (by decide) rfl (fun _ => rfl) rfl rfl rfl rfl rfl ?_
         show G _ _ _ _ [_, _, _, _, _, _, _, _, _, _, _, _, _, _, _, _, _, _, _, _, _, _, _, _, _, _, _, _, _, _, _, _, _, _, _, _, _] _
         exact hk _ _ ⟨v56, v58, O, (by simp only [u0_, u1_, u2_, u3_, u4_, u5_, u6_, u7_, u8_, u9_, u10_, u11_, p0_, p1_, p2_, p3_, p4_, p5_, p6_, p7_, p8_, p9_, q11_, cnd_t, cnd_f, Asc_t, Asc_f]), hs.cast (by first | rfl | simp only [List.take, List.drop, List.cons_append, List.nil_append, List.set_cons_zero, List.set_cons_succ, List.eraseIdx, u0_, u1_, u2_, u3_, u4_, u5_, u6_, u7_, u8_, u9_, u10_, u11_, p0_, p1_, p2_, p3_, p4_, p5_, p6_, p7_, p8_, p9_, q11_, cnd_t, cnd_f, Asc_t, Asc_f])⟩
        ·
         intro D t w hD hp hcl hI rest hk
         obtain ⟨v56, v58, O, ht, hs⟩ := hI
         obtain ⟨p10_, p9_, _, p0_, p1_, p2_, p3_, p4_, p5_, p6_, p7_, p8_, _, _⟩ := hp
         have u0_ : upd D 11 0 = D 0 := rfl; have u1_ : upd D 11 1 = D 1 := rfl; have u2_ : upd D 11 2 = D 2 := rfl; have u3_ : upd D 11 3 = D 3 := rfl; have u4_ : upd D 11 4 = D 4 := rfl; have u5_ : upd D 11 5 = D 5 := rfl; have u6_ : upd D 11 6 = D 6 := rfl; have u7_ : upd D 11 7 = D 7 := rfl; have u8_ : upd D 11 8 = D 8 := rfl; have u9_ : upd D 11 9 = D 9 := rfl; have u10_ : upd D 11 10 = D 10 := rfl; have u11_ : upd D 11 11 = true := rfl
         simp only [hD, p0_, p1_, p2_, p3_, p4_, p5_, p6_, p7_, p8_, p9_, p10_, cnd_t, cnd_f, Asc_t, Asc_f] at ht hs
         subst ht
         have hs := hs.pull 6 rfl
         have hs : St _ [_, _, _, _, _, _, _] _ := hs
         refine s_store hs rfl rfl (vs := [v58]) (cs' := (([v58, v49, v52] : List Value))) rfl rfl (slCells (hs.row 4 rfl)) (n := 1) (fun _ => rfl) rfl (by first | exact Nat.le_of_ble_eq_true rfl | simp [encA_len]) (by intro v hv; simp only [List.mem_cons, List.not_mem_nil, or_false] at hv; subst hv; exact slOne (hs.row 4 rfl)) rfl ?_
         intro w hs
         show G _ _ _ _ [_, _, _, _, _, _, _, _, _, _, _, _, _, _, _, _, _, _, _, _, _, _, _, _, _, _, _, _, _, _, _, _, _, _, _, _, _] _
         have hs := hs.push 6 (by simp)
         exact hk _ _ ⟨v56, v58, O, (by simp only [u0_, u1_, u2_, u3_, u4_, u5_, u6_, u7_, u8_, u9_, u10_, u11_, p0_, p1_, p2_, p3_, p4_, p5_, p6_, p7_, p8_, p9_, p10_, cnd_t, cnd_f, Asc_t, Asc_f]), hs.cast (by first | rfl | simp only [List.take, List.drop, List.cons_append, List.nil_append, List.set_cons_zero, List.set_cons_succ, List.eraseIdx, u0_, u1_, u2_, u3_, u4_, u5_, u6_, u7_, u8_, u9_, u10_, u11_, p0_, p1_, p2_, p3_, p4_, p5_, p6_, p7_, p8_, p9_, p10_, cnd_t, cnd_f, Asc_t, Asc_f])⟩
        ·
         intro D t w hall hI
         obtain ⟨v56, v58, O, ht, hs⟩ := hI
         have p0_ : D 0 = true := hall 0 (by decide)
         have p1_ : D 1 = true := hall 1 (by decide)
         have p2_ : D 2 = true := hall 2 (by decide)
         have p3_ : D 3 = true := hall 3 (by decide)
         have p4_ : D 4 = true := hall 4 (by decide)
         have p5_ : D 5 = true := hall 5 (by decide)
         have p6_ : D 6 = true := hall 6 (by decide)
         have p7_ : D 7 = true := hall 7 (by decide)
         have p8_ : D 8 = true := hall 8 (by decide)
         have p9_ : D 9 = true := hall 9 (by decide)
         have p10_ : D 10 = true := hall 10 (by decide)
         have p11_ : D 11 = true := hall 11 (by decide)
         simp only [p0_, p1_, p2_, p3_, p4_, p5_, p6_, p7_, p8_, p9_, p10_, p11_, cnd_t, cnd_f, Asc_t, Asc_f] at ht hs
         subst ht
         refine g_inBlock ?_
         have hs := hs.pull 5 rfl
         have hs := hs.pull 5 rfl
         have hs := hs.pull 5 rfl
         have hs := hs.pull 6 rfl
         have hs := hs.pull 6 rfl
         have hs := hs.pull 6 rfl
         have hs : St _ [_, _, _, _, _, _] _ := St.take (Γ' := [_]) hs
         exact ha _ _ ⟨v58, x47 ++ ([rdL a2 x54 z_S_impl_Case]), v49, x50, v52, x53, H, rfl, hs⟩
       ·
        rw [if_neg hk14_] at H
        by_cases hk17_ : i64w (r55 + 1) = 1
        ·
         rw [if_pos hk17_] at H
         obtain ⟨gd18, H⟩ := ite_get H
         obtain ⟨ad19_, ad19_N, ad19_C, had19_⟩ := sl_at (hs.rd hr1) gd18.1 gd18.2
         obtain ⟨gq9_, H⟩ := ite_get H
         refine g_name ?_
         intro T hT
         refine g_any (n := 12) rfl [0, 1, 2, 3, 4, 5, 6, 7, 8, 9, 10, 11] [0, 1, 2, 3, 4, 5, 6, 7, 8, 9, 10, 11] rfl rfl (Inv := fun D t w => ∃ v62 : Value, ∃ v64 : Value, ∃ O : Nat → Value, t = [O 0, v3, Value.pointer (some ⟨b4, 0, none⟩), O 3, Value.pointer (some ⟨b6, 0, none⟩), Value.pointer (some ⟨b14, 0, none⟩), Value.int .i64 x54, Value.int .i64 (i64w (r55 + 1)), O 8, O 9, O 10, O 11, Value.int .i64 x54, v3, Value.int .i64 (a2.length : Int), Value.bool true, O 16, O 17, Value.agg ((encA (encI .i8)) a1).toArray, v3, Value.int .i64 x54, Value.pointer (some (ad13_.add (x54.toNat * 2))), Value.agg (enc_S_impl_Case (rdL a2 x54 z_S_impl_Case)).toArray, Value.int .i64 r55, Value.int .i64 (i64w (r55 + 1)), cnd (D 0) (Value.int .i64 (i64w (r55 + 1))) (O 25), cnd (D 1) (Value.int .i64 (i64w (r55 + 1))) (O 26), cnd (D 2) (Value.pointer (some ⟨b14, 0 + 1 * 1, none⟩)) (O 27), cnd (D 3) v49 (O 28), cnd (D 4) v3 (O 29), cnd (D 5) (Value.int .i64 x54) (O 30), cnd (D 6) (Value.pointer (some (ad19_.add (x54.toNat * 2)))) (O 31), cnd (D 7) (Value.agg (enc_S_impl_Case (rdL a2 x54 z_S_impl_Case)).toArray) (O 32), cnd (D 8) v62 (O 33), cnd (D 9) v64 (O 34), cnd (D 10) (Value.pointer (some ⟨b14, 0 + 1 * 1, none⟩)) (O 35), O 36] ∧ St w0 [Asc (D 8) (Row 84 k_S_impl_Case v62 ([rdL a2 x54 z_S_impl_Case])), Cells b4 ((encA (encI .i8)) a1) 52, Cells b6 (([Value.slice none 0 0, Value.slice none 0 0, Value.slice none 0 0] : List Value)) 47, Row 84 k_S_impl_Case v46 x47, Row 84 k_S_impl_Case (cnd (D 9) v64 v49) (cnd (D 9) (x50 ++ ([rdL a2 x54 z_S_impl_Case])) x50), Row 84 k_S_impl_Case v52 x53, Cells b14 (cnd (D 11) (([v46, v64, v52] : List Value)) (([v46, v49, v52] : List Value))) 47] w) ?_ ⟨⟨⟨⟨⟨⟨⟨⟨⟨⟨⟨⟨trivial, ?_⟩, ?_⟩, ?_⟩, ?_⟩, ?_⟩, ?_⟩, ?_⟩, ?_⟩, ?_⟩, ?_⟩, ?_⟩, ?_⟩ ?_
         ·
          intro w hh hbw
          have hs := hs.samew hh hbw
          have hs := hs.emp
          exact ⟨undef, undef, fun i => T.getD i undef, (by subst hT; rfl), hs⟩
         ·
          intro D t w hD hp hcl hI rest hk
          obtain ⟨v62, v64, O, ht, hs⟩ := hI
          have q10_ : D 10 = false := not_yet (hcl.get 10 (by decide)) 0 0 rfl hD
          have q11_ : D 11 = false := not_yet (hcl.get 11 (by decide)) 0 10 rfl q10_
          have u0_ : upd D 0 0 = true := rfl; have u1_ : upd D 0 1 = D 1 := rfl; have u2_ : upd D 0 2 = D 2 := rfl; have u3_ : upd D 0 3 = D 3 := rfl; have u4_ : upd D 0 4 = D 4 := rfl; have u5_ : upd D 0 5 = D 5 := rfl; have u6_ : upd D 0 6 = D 6 := rfl; have u7_ : upd D 0 7 = D 7 := rfl; have u8_ : upd D 0 8 = D 8 := rfl; have u9_ : upd D 0 9 = D 9 := rfl; have u10_ : upd D 0 10 = D 10 := rfl; have u11_ : upd D 0 11 = D 11 := rfl
          simp only [hD, q10_, q11_, cnd_t, cnd_f, Asc_t, Asc_f] at ht hs
          subst ht
          refine g_op (v := Value.int .i64 (i64w (r55 + 1))) rfl rfl rfl ?_
          show G _ _ _ _ [_, _, _, _, _, _, _, _, _, _, _, _, _, _, _, _, _, _, _, _, _, _, _, _, _, _, _, _, _, _, _, _, _, _, _, _, _] _
          exact hk _ _ ⟨v62, v64, O, (by simp only [u0_, u1_, u2_, u3_, u4_, u5_, u6_, u7_, u8_, u9_, u10_, u11_, q10_, q11_, cnd_t, cnd_f, Asc_t, Asc_f]), hs.cast (by first | rfl | simp only [List.take, List.drop, List.cons_append, List.nil_append, List.set_cons_zero, List.set_cons_succ, List.eraseIdx, u0_, u1_, u2_, u3_, u4_, u5_, u6_, u7_, u8_, u9_, u10_, u11_, q10_, q11_, cnd_t, cnd_f, Asc_t, Asc_f])⟩
         ·
          intro D t w hD hp hcl hI rest hk
          obtain ⟨v62, v64, O, ht, hs⟩ := hI
          have q2_ : D 2 = false := not_yet (hcl.get 2 (by decide)) 0 1 rfl hD
          have q3_ : D 3 = false := not_yet (hcl.get 3 (by decide)) 0 2 rfl q2_
          have q9_ : D 9 = false := not_yet (hcl.get 9 (by decide)) 0 3 rfl q3_
          have q10_ : D 10 = false := not_yet (hcl.get 10 (by decide)) 2 1 rfl hD
          have q11_ : D 11 = false := not_yet (hcl.get 11 (by decide)) 0 10 rfl q10_
          have u0_ : upd D 1 0 = D 0 := rfl; have u1_ : upd D 1 1 = true := rfl; have u2_ : upd D 1 2 = D 2 := rfl; have u3_ : upd D 1 3 = D 3 := rfl; have u4_ : upd D 1 4 = D 4 := rfl; have u5_ : upd D 1 5 = D 5 := rfl; have u6_ : upd D 1 6 = D 6 := rfl; have u7_ : upd D 1 7 = D 7 := rfl; have u8_ : upd D 1 8 = D 8 := rfl; have u9_ : upd D 1 9 = D 9 := rfl; have u10_ : upd D 1 10 = D 10 := rfl; have u11_ : upd D 1 11 = D 11 := rfl
          simp only [hD, q2_, q3_, q9_, q10_, q11_, cnd_t, cnd_f, Asc_t, Asc_f] at ht hs
          subst ht
          refine g_op (v := Value.int .i64 (i64w (r55 + 1))) rfl rfl rfl ?_
          show G _ _ _ _ [_, _, _, _, _, _, _, _, _, _, _, _, _, _, _, _, _, _, _, _, _, _, _, _, _, _, _, _, _, _, _, _, _, _, _, _, _] _
          exact hk _ _ ⟨v62, v64, O, (by simp only [u0_, u1_, u2_, u3_, u4_, u5_, u6_, u7_, u8_, u9_, u10_, u11_, q2_, q3_, q9_, q10_, q11_, cnd_t, cnd_f, Asc_t, Asc_f]), hs.cast (by first | rfl | simp only [List.take, List.drop, List.cons_append, List.nil_append, List.set_cons_zero, List.set_cons_succ, List.eraseIdx, u0_, u1_, u2_, u3_, u4_, u5_, u6_, u7_, u8_, u9_, u10_, u11_, q2_, q3_, q9_, q10_, q11_, cnd_t, cnd_f, Asc_t, Asc_f])⟩
         ·
          intro D t w hD hp hcl hI rest hk
          obtain ⟨v62, v64, O, ht, hs⟩ := hI
          obtain ⟨p1_, _⟩ := hp
          have q3_ : D 3 = false := not_yet (hcl.get 3 (by decide)) 0 2 rfl hD
          have q9_ : D 9 = false := not_yet (hcl.get 9 (by decide)) 0 3 rfl q3_
          have q10_ : D 10 = false := not_yet (hcl.get 10 (by decide)) 3 2 rfl hD
          have q11_ : D 11 = false := not_yet (hcl.get 11 (by decide)) 0 10 rfl q10_
          have u0_ : upd D 2 0 = D 0 := rfl; have u1_ : upd D 2 1 = D 1 := rfl; have u2_ : upd D 2 2 = true := rfl; have u3_ : upd D 2 3 = D 3 := rfl; have u4_ : upd D 2 4 = D 4 := rfl; have u5_ : upd D 2 5 = D 5 := rfl; have u6_ : upd D 2 6 = D 6 := rfl; have u7_ : upd D 2 7 = D 7 := rfl; have u8_ : upd D 2 8 = D 8 := rfl; have u9_ : upd D 2 9 = D 9 := rfl; have u10_ : upd D 2 10 = D 10 := rfl; have u11_ : upd D 2 11 = D 11 := rfl
          simp only [hD, p1_, q3_, q9_, q10_, q11_, cnd_t, cnd_f, Asc_t, Asc_f] at ht hs
          subst ht
          refine s_idxJ (m := 1) 1 hk17_ (by decide) rfl (fun _ => rfl) rfl rfl rfl rfl rfl ?_
          show G _ _ _ _ [_, _, _, _, _, _, _, _, _, _, _, _, _, _, _, _, _, _, _, _, _, _, _, _, _, _, _, _, _, _, _, _, _, _, _, _, _] _
          exact hk _ _ ⟨v62, v64, O, (by simp only [u0_, u1_, u2_, u3_, u4_, u5_, u6_, u7_, u8_, u9_, u10_, u11_, p1_, q3_, q9_, q10_, q11_, cnd_t, cnd_f, Asc_t, Asc_f]), hs.cast (by first | rfl | simp only [List.take, List.drop, List.cons_append, List.nil_append, List.set_cons_zero, List.set_cons_succ, List.eraseIdx, u0_, u1_, u2_, u3_, u4_, u5_, u6_, u7_, u8_, u9_, u10_, u11_, p1_, q3_, q9_, q10_, q11_, cnd_t, cnd_f, Asc_t, Asc_f])⟩
         ·
          intro D t w hD hp hcl hI rest hk
          obtain ⟨v62, v64, O, ht, hs⟩ := hI
          obtain ⟨p2_, _⟩ := hp
          obtain ⟨p1_, _⟩ := (hcl.get 2 (by decide)) p2_
          have q9_ : D 9 = false := not_yet (hcl.get 9 (by decide)) 0 3 rfl hD
          have q10_ : D 10 = false := not_yet (hcl.get 10 (by decide)) 4 3 rfl hD
          have q11_ : D 11 = false := not_yet (hcl.get 11 (by decide)) 0 10 rfl q10_
          have u0_ : upd D 3 0 = D 0 := rfl; have u1_ : upd D 3 1 = D 1 := rfl; have u2_ : upd D 3 2 = D 2 := rfl; have u3_ : upd D 3 3 = true := rfl; have u4_ : upd D 3 4 = D 4 := rfl; have u5_ : upd D 3 5 = D 5 := rfl; have u6_ : upd D 3 6 = D 6 := rfl; have u7_ : upd D 3 7 = D 7 := rfl; have u8_ : upd D 3 8 = D 8 := rfl; have u9_ : upd D 3 9 = D 9 := rfl; have u10_ : upd D 3 10 = D 10 := rfl; have u11_ : upd D 3 11 = D 11 := rfl
          simp only [hD, p1_, p2_, q9_, q10_, q11_, cnd_t, cnd_f, Asc_t, Asc_f] at ht hs
          subst ht
          refine s_load1 rfl rfl (v := v49) rfl rfl (fun _ => rfl) (cells_load (hs.cells 6 rfl) 1 1 rfl) ?_
          show G _ _ _ _ [_, _, _, _, _, _, _, _, _, _, _, _, _, _, _, _, _, _, _, _, _, _, _, _, _, _, _, _, _, _, _, _, _, _, _, _, _] _
          exact hk _ _ ⟨v62, v64, O, (by simp only [u0_, u1_, u2_, u3_, u4_, u5_, u6_, u7_, u8_, u9_, u10_, u11_, p1_, p2_, q9_, q10_, q11_, cnd_t, cnd_f, Asc_t, Asc_f]), hs.cast (by first | rfl | simp only [List.take, List.drop, List.cons_append, List.nil_append, List.set_cons_zero, List.set_cons_succ, List.eraseIdx, u0_, u1_, u2_, u3_, u4_, u5_, u6_, u7_, u8_, u9_, u10_, u11_, p1_, p2_, q9_, q10_, q11_, cnd_t, cnd_f, Asc_t, Asc_f])⟩
         ·
          intro D t w hD hp hcl hI rest hk
          obtain ⟨v62, v64, O, ht, hs⟩ := hI
          have q6_ : D 6 = false := not_yet (hcl.get 6 (by decide)) 0 4 rfl hD
          have q7_ : D 7 = false := not_yet (hcl.get 7 (by decide)) 0 6 rfl q6_
          have q8_ : D 8 = false := not_yet (hcl.get 8 (by decide)) 0 7 rfl q7_
          have q9_ : D 9 = false := not_yet (hcl.get 9 (by decide)) 1 8 rfl q8_
          have q10_ : D 10 = false := not_yet (hcl.get 10 (by decide)) 5 4 rfl hD
          have q11_ : D 11 = false := not_yet (hcl.get 11 (by decide)) 0 10 rfl q10_
          have u0_ : upd D 4 0 = D 0 := rfl; have u1_ : upd D 4 1 = D 1 := rfl; have u2_ : upd D 4 2 = D 2 := rfl; have u3_ : upd D 4 3 = D 3 := rfl; have u4_ : upd D 4 4 = true := rfl; have u5_ : upd D 4 5 = D 5 := rfl; have u6_ : upd D 4 6 = D 6 := rfl; have u7_ : upd D 4 7 = D 7 := rfl; have u8_ : upd D 4 8 = D 8 := rfl; have u9_ : upd D 4 9 = D 9 := rfl; have u10_ : upd D 4 10 = D 10 := rfl; have u11_ : upd D 4 11 = D 11 := rfl
          simp only [hD, q6_, q7_, q8_, q9_, q10_, q11_, cnd_t, cnd_f, Asc_t, Asc_f] at ht hs
          subst ht
          refine g_op (v := v3) rfl rfl rfl ?_
          show G _ _ _ _ [_, _, _, _, _, _, _, _, _, _, _, _, _, _, _, _, _, _, _, _, _, _, _, _, _, _, _, _, _, _, _, _, _, _, _, _, _] _
          exact hk _ _ ⟨v62, v64, O, (by simp only [u0_, u1_, u2_, u3_, u4_, u5_, u6_, u7_, u8_, u9_, u10_, u11_, q6_, q7_, q8_, q9_, q10_, q11_, cnd_t, cnd_f, Asc_t, Asc_f]), hs.cast (by first | rfl | simp only [List.take, List.drop, List.cons_append, List.nil_append, List.set_cons_zero, List.set_cons_succ, List.eraseIdx, u0_, u1_, u2_, u3_, u4_, u5_, u6_, u7_, u8_, u9_, u10_, u11_, q6_, q7_, q8_, q9_, q10_, q11_, cnd_t, cnd_f, Asc_t, Asc_f])⟩
         ·
          intro D t w hD hp hcl hI rest hk
          obtain ⟨v62, v64, O, ht, hs⟩ := hI
          have q6_ : D 6 = false := not_yet (hcl.get 6 (by decide)) 1 5 rfl hD
          have q7_ : D 7 = false := not_yet (hcl.get 7 (by decide)) 0 6 rfl q6_
          have q8_ : D 8 = false := not_yet (hcl.get 8 (by decide)) 0 7 rfl q7_
          have q9_ : D 9 = false := not_yet (hcl.get 9 (by decide)) 1 8 rfl q8_
          have q10_ : D 10 = false := not_yet (hcl.get 10 (by decide)) 6 5 rfl hD
          have q11_ : D 11 = false := not_yet (hcl.get 11 (by decide)) 0 10 rfl q10_
          have u0_ : upd D 5 0 = D 0 := rfl; have u1_ : upd D 5 1 = D 1 := rfl; have u2_ : upd D 5 2 = D 2 := rfl; have u3_ : upd D 5 3 = D 3 := rfl; have u4_ : upd D 5 4 = D 4 := rfl; have u5_ : upd D 5 5 = true := rfl; have u6_ : upd D 5 6 = D 6 := rfl; have u7_ : upd D 5 7 = D 7 := rfl; have u8_ : upd D 5 8 = D 8 := rfl; have u9_ : upd D 5 9 = D 9 := rfl; have u10_ : upd D 5 10 = D 10 := rfl; have u11_ : upd D 5 11 = D 11 := rfl
          simp only [hD, q6_, q7_, q8_, q9_, q10_, q11_, cnd_t, cnd_f, Asc_t, Asc_f] at ht hs
          subst ht
          refine g_op (v := Value.int .i64 x54) rfl rfl rfl ?_
          show G _ _ _ _ [_, _, _, _, _, _, _, _, _, _, _, _, _, _, _, _, _, _, _, _, _, _, _, _, _, _, _, _, _, _, _, _, _, _, _, _, _] _
          exact hk _ _ ⟨v62, v64, O, (by simp only [u0_, u1_, u2_, u3_, u4_, u5_, u6_, u7_, u8_, u9_, u10_, u11_, q6_, q7_, q8_, q9_, q10_, q11_, cnd_t, cnd_f, Asc_t, Asc_f]), hs.cast (by first | rfl | simp only [List.take, List.drop, List.cons_append, List.nil_append, List.set_cons_zero, List.set_cons_succ, List.eraseIdx, u0_, u1_, u2_, u3_, u4_, u5_, u6_, u7_, u8_, u9_, u10_, u11_, q6_, q7_, q8_, q9_, q10_, q11_, cnd_t, cnd_f, Asc_t, Asc_f])⟩
         ·
          intro D t w hD hp hcl hI rest hk
          obtain ⟨v62, v64, O, ht, hs⟩ := hI
          obtain ⟨p4_, p5_, _⟩ := hp
          have q7_ : D 7 = false := not_yet (hcl.get 7 (by decide)) 0 6 rfl hD
          have q8_ : D 8 = false := not_yet (hcl.get 8 (by decide)) 0 7 rfl q7_
          have q9_ : D 9 = false := not_yet (hcl.get 9 (by decide)) 1 8 rfl q8_
          have q10_ : D 10 = false := not_yet (hcl.get 10 (by decide)) 7 6 rfl hD
          have q11_ : D 11 = false := not_yet (hcl.get 11 (by decide)) 0 10 rfl q10_
          have u0_ : upd D 6 0 = D 0 := rfl; have u1_ : upd D 6 1 = D 1 := rfl; have u2_ : upd D 6 2 = D 2 := rfl; have u3_ : upd D 6 3 = D 3 := rfl; have u4_ : upd D 6 4 = D 4 := rfl; have u5_ : upd D 6 5 = D 5 := rfl; have u6_ : upd D 6 6 = true := rfl; have u7_ : upd D 6 7 = D 7 := rfl; have u8_ : upd D 6 8 = D 8 := rfl; have u9_ : upd D 6 9 = D 9 := rfl; have u10_ : upd D 6 10 = D 10 := rfl; have u11_ : upd D 6 11 = D 11 := rfl
          simp only [hD, p4_, p5_, q7_, q8_, q9_, q10_, q11_, cnd_t, cnd_f, Asc_t, Asc_f] at ht hs
          subst ht
          refine s_idxD (κ := k_S_impl_Case) (m := 2) rfl (hs.rd hr1) rfl (fun _ => rfl) gd18.1 gd18.2 had19_ rfl rfl rfl rfl rfl ?_
          show G _ _ _ _ [_, _, _, _, _, _, _, _, _, _, _, _, _, _, _, _, _, _, _, _, _, _, _, _, _, _, _, _, _, _, _, _, _, _, _, _, _] _
          exact hk _ _ ⟨v62, v64, O, (by simp only [u0_, u1_, u2_, u3_, u4_, u5_, u6_, u7_, u8_, u9_, u10_, u11_, p4_, p5_, q7_, q8_, q9_, q10_, q11_, cnd_t, cnd_f, Asc_t, Asc_f]), hs.cast (by first | rfl | simp only [List.take, List.drop, List.cons_append, List.nil_append, List.set_cons_zero, List.set_cons_succ, List.eraseIdx, u0_, u1_, u2_, u3_, u4_, u5_, u6_, u7_, u8_, u9_, u10_, u11_, p4_, p5_, q7_, q8_, q9_, q10_, q11_, cnd_t, cnd_f, Asc_t, Asc_f])⟩
         ·
          intro D t w hD hp hcl hI rest hk
          obtain ⟨v62, v64, O, ht, hs⟩ := hI
          obtain ⟨p6_, _⟩ := hp
          obtain ⟨p4_, p5_, _⟩ := (hcl.get 6 (by decide)) p6_
          have q8_ : D 8 = false := not_yet (hcl.get 8 (by decide)) 0 7 rfl hD
          have q9_ : D 9 = false := not_yet (hcl.get 9 (by decide)) 1 8 rfl q8_
          have q10_ : D 10 = false := not_yet (hcl.get 10 (by decide)) 8 7 rfl hD
          have q11_ : D 11 = false := not_yet (hcl.get 11 (by decide)) 0 10 rfl q10_
          have u0_ : upd D 7 0 = D 0 := rfl; have u1_ : upd D 7 1 = D 1 := rfl; have u2_ : upd D 7 2 = D 2 := rfl; have u3_ : upd D 7 3 = D 3 := rfl; have u4_ : upd D 7 4 = D 4 := rfl; have u5_ : upd D 7 5 = D 5 := rfl; have u6_ : upd D 7 6 = D 6 := rfl; have u7_ : upd D 7 7 = true := rfl; have u8_ : upd D 7 8 = D 8 := rfl; have u9_ : upd D 7 9 = D 9 := rfl; have u10_ : upd D 7 10 = D 10 := rfl; have u11_ : upd D 7 11 = D 11 := rfl
          simp only [hD, p4_, p5_, p6_, q8_, q9_, q10_, q11_, cnd_t, cnd_f, Asc_t, Asc_f] at ht hs
          subst ht
          refine s_loadA rfl rfl (es := (enc_S_impl_Case (rdL a2 x54 z_S_impl_Case))) rfl rfl (fun _ => rfl) (n := 2) (fun _ => rfl) (fk_S_impl_Case.len _) (cellsAt_of fk_S_impl_Case z_S_impl_Case (hs.rd hr1) had19_ gd18.1 gd18.2) ?_
          show G _ _ _ _ [_, _, _, _, _, _, _, _, _, _, _, _, _, _, _, _, _, _, _, _, _, _, _, _, _, _, _, _, _, _, _, _, _, _, _, _, _] _
          exact hk _ _ ⟨v62, v64, O, (by simp only [u0_, u1_, u2_, u3_, u4_, u5_, u6_, u7_, u8_, u9_, u10_, u11_, p4_, p5_, p6_, q8_, q9_, q10_, q11_, cnd_t, cnd_f, Asc_t, Asc_f]), hs.cast (by first | rfl | simp only [List.take, List.drop, List.cons_append, List.nil_append, List.set_cons_zero, List.set_cons_succ, List.eraseIdx, u0_, u1_, u2_, u3_, u4_, u5_, u6_, u7_, u8_, u9_, u10_, u11_, p4_, p5_, p6_, q8_, q9_, q10_, q11_, cnd_t, cnd_f, Asc_t, Asc_f])⟩
         ·
          intro D t w hD hp hcl hI rest hk
          obtain ⟨v62, v64, O, ht, hs⟩ := hI
          obtain ⟨p7_, _⟩ := hp
          obtain ⟨p6_, _⟩ := (hcl.get 7 (by decide)) p7_
          obtain ⟨p4_, p5_, _⟩ := (hcl.get 6 (by decide)) p6_
          have q9_ : D 9 = false := not_yet (hcl.get 9 (by decide)) 1 8 rfl hD
          have q10_ : D 10 = false := not_yet (hcl.get 10 (by decide)) 9 8 rfl hD
          have q11_ : D 11 = false := not_yet (hcl.get 11 (by decide)) 0 10 rfl q10_
          have u0_ : upd D 8 0 = D 0 := rfl; have u1_ : upd D 8 1 = D 1 := rfl; have u2_ : upd D 8 2 = D 2 := rfl; have u3_ : upd D 8 3 = D 3 := rfl; have u4_ : upd D 8 4 = D 4 := rfl; have u5_ : upd D 8 5 = D 5 := rfl; have u6_ : upd D 8 6 = D 6 := rfl; have u7_ : upd D 8 7 = D 7 := rfl; have u8_ : upd D 8 8 = true := rfl; have u9_ : upd D 8 9 = D 9 := rfl; have u10_ : upd D 8 10 = D 10 := rfl; have u11_ : upd D 8 11 = D 11 := rfl
          simp only [hD, p4_, p5_, p6_, p7_, q9_, q10_, q11_, cnd_t, cnd_f, Asc_t, Asc_f] at ht hs
          subst ht
          refine s_lit1 fk_S_impl_Case (y := rdL a2 x54 z_S_impl_Case) hs rfl rfl rfl rfl (fun _ => rfl) (zv := (Value.agg #[Value.int .i8 0, Value.bool false])) (fun _ => rfl) rfl (by decide) (by decide) rfl ?_
          intro v62 w hs
          show G _ _ _ _ [_, _, _, _, _, _, _, _, _, _, _, _, _, _, _, _, _, _, _, _, _, _, _, _, _, _, _, _, _, _, _, _, _, _, _, _, _] _
          have hs := hs.fill 0 rfl
          exact hk _ _ ⟨v62, v64, O, (by simp only [u0_, u1_, u2_, u3_, u4_, u5_, u6_, u7_, u8_, u9_, u10_, u11_, p4_, p5_, p6_, p7_, q9_, q10_, q11_, cnd_t, cnd_f, Asc_t, Asc_f]), hs.cast (by first | rfl | simp only [List.take, List.drop, List.cons_append, List.nil_append, List.set_cons_zero, List.set_cons_succ, List.eraseIdx, u0_, u1_, u2_, u3_, u4_, u5_, u6_, u7_, u8_, u9_, u10_, u11_, p4_, p5_, p6_, p7_, q9_, q10_, q11_, cnd_t, cnd_f, Asc_t, Asc_f])⟩
         ·
          intro D t w hD hp hcl hI rest hk
          obtain ⟨v62, v64, O, ht, hs⟩ := hI
          obtain ⟨p3_, p8_, _⟩ := hp
          obtain ⟨p7_, _⟩ := (hcl.get 8 (by decide)) p8_
          obtain ⟨p6_, _⟩ := (hcl.get 7 (by decide)) p7_
          obtain ⟨p4_, p5_, _⟩ := (hcl.get 6 (by decide)) p6_
          obtain ⟨p2_, _⟩ := (hcl.get 3 (by decide)) p3_
          obtain ⟨p1_, _⟩ := (hcl.get 2 (by decide)) p2_
          have q10_ : D 10 = false := not_yet (hcl.get 10 (by decide)) 10 9 rfl hD
          have q11_ : D 11 = false := not_yet (hcl.get 11 (by decide)) 0 10 rfl q10_
          have u0_ : upd D 9 0 = D 0 := rfl; have u1_ : upd D 9 1 = D 1 := rfl; have u2_ : upd D 9 2 = D 2 := rfl; have u3_ : upd D 9 3 = D 3 := rfl; have u4_ : upd D 9 4 = D 4 := rfl; have u5_ : upd D 9 5 = D 5 := rfl; have u6_ : upd D 9 6 = D 6 := rfl; have u7_ : upd D 9 7 = D 7 := rfl; have u8_ : upd D 9 8 = D 8 := rfl; have u9_ : upd D 9 9 = true := rfl; have u10_ : upd D 9 10 = D 10 := rfl; have u11_ : upd D 9 11 = D 11 := rfl
          simp only [hD, p1_, p2_, p3_, p4_, p5_, p6_, p7_, p8_, q10_, q11_, cnd_t, cnd_f, Asc_t, Asc_f] at ht hs
          subst ht
          have hs := hs.pull 4 rfl
          have hs : St _ [_, _, _, _, _, _, _] _ := hs
          refine s_append fk_S_impl_Case (zv := (Value.agg #[Value.int .i8 0, Value.bool false])) (B := 2) hs (hs.row 1 rfl) rfl rfl rfl rfl rfl rfl rfl rfl rfl (by decide) rfl rfl (by decide) (by have := gq9_; omega) ?_
          intro v64 w hs
          show G _ _ _ _ [_, _, _, _, _, _, _, _, _, _, _, _, _, _, _, _, _, _, _, _, _, _, _, _, _, _, _, _, _, _, _, _, _, _, _, _, _] _
          have hs := hs.push 4 (by simp)
          exact hk _ _ ⟨v62, v64, O, (by simp only [u0_, u1_, u2_, u3_, u4_, u5_, u6_, u7_, u8_, u9_, u10_, u11_, p1_, p2_, p3_, p4_, p5_, p6_, p7_, p8_, q10_, q11_, cnd_t, cnd_f, Asc_t, Asc_f]), hs.cast (by first | rfl | simp only [List.take, List.drop, List.cons_append, List.nil_append, List.set_cons_zero, List.set_cons_succ, List.eraseIdx, u0_, u1_, u2_, u3_, u4_, u5_, u6_, u7_, u8_, u9_, u10_, u11_, p1_, p2_, p3_, p4_, p5_, p6_, p7_, p8_, q10_, q11_, cnd_t, cnd_f, Asc_t, Asc_f])⟩
         ·
          intro D t w hD hp hcl hI rest hk
          obtain ⟨v62, v64, O, ht, hs⟩ := hI
          obtain ⟨p0_, _, p1_, p2_, p3_, p4_, p5_, p6_, p7_, p8_, p9_, _⟩ := hp
          have q11_ : D 11 = false := not_yet (hcl.get 11 (by decide)) 0 10 rfl hD
          have u0_ : upd D 10 0 = D 0 := rfl; have u1_ : upd D 10 1 = D 1 := rfl; have u2_ : upd D 10 2 = D 2 := rfl; have u3_ : upd D 10 3 = D 3 := rfl; have u4_ : upd D 10 4 = D 4 := rfl; have u5_ : upd D 10 5 = D 5 := rfl; have u6_ : upd D 10 6 = D 6 := rfl; have u7_ : upd D 10 7 = D 7 := rfl; have u8_ : upd D 10 8 = D 8 := rfl; have u9_ : upd D 10 9 = D 9 := rfl; have u10_ : upd D 10 10 = true := rfl; have u11_ : upd D 10 11 = D 11 := rfl
          simp only [hD, p0_, p1_, p2_, p3_, p4_, p5_, p6_, p7_, p8_, p9_, q11_, cnd_t, cnd_f, Asc_t, Asc_f] at ht hs
          subst ht
          refine s_idxJ (m := 1) 1 hk17_ (by decide) rfl (fun _ => rfl) rfl rfl rfl rfl rfl ?_
          show G _ _ _ _ [_, _, _, _, _, _, _, _, _, _, _, _, _, _, _, _, _, _, _, _, _, _, _, _, _, _, _, _, _, _, _, _, _, _, _, _, _] _
          exact hk _ _ ⟨v62, v64, O, (by simp only [u0_, u1_, u2_, u3_, u4_, u5_, u6_, u7_, u8_, u9_, u10_, u11_, p0_, p1_, p2_, p3_, p4_, p5_, p6_, p7_, p8_, p9_, q11_, cnd_t, cnd_f, Asc_t, Asc_f]), hs.cast (by first | rfl | simp only [List.take, List.drop, List.cons_append, List.nil_append, List.set_cons_zero, List.set_cons_succ, List.eraseIdx, u0_, u1_, u2_, u3_, u4_, u5_, u6_, u7_, u8_, u9_, u10_, u11_, p0_, p1_, p2_, p3_, p4_, p5_, p6_, p7_, p8_, p9_, q11_, cnd_t, cnd_f, Asc_t, Asc_f])⟩
         ·
          intro D t w hD hp hcl hI rest hk
          obtain ⟨v62, v64, O, ht, hs⟩ := hI
          obtain ⟨p10_, p9_, _, p0_, p1_, p2_, p3_, p4_, p5_, p6_, p7_, p8_, _, _⟩ := hp
          have u0_ : upd D 11 0 = D 0 := rfl; have u1_ : upd D 11 1 = D 1 := rfl; have u2_ : upd D 11 2 = D 2 := rfl; have u3_ : upd D 11 3 = D 3 := rfl; have u4_ : upd D 11 4 = D 4 := rfl; have u5_ : upd D 11 5 = D 5 := rfl; have u6_ : upd D 11 6 = D 6 := rfl; have u7_ : upd D 11 7 = D 7 := rfl; have u8_ : upd D 11 8 = D 8 := rfl; have u9_ : upd D 11 9 = D 9 := rfl; have u10_ : upd D 11 10 = D 10 := rfl; have u11_ : upd D 11 11 = true := rfl
          simp only [hD, p0_, p1_, p2_, p3_, p4_, p5_, p6_, p7_, p8_, p9_, p10_, cnd_t, cnd_f, Asc_t, Asc_f] at ht hs
          subst ht
          have hs := hs.pull 6 rfl
          have hs : St _ [_, _, _, _, _, _, _] _ := hs
          refine s_store hs rfl rfl (vs := [v64]) (cs' := (([v46, v64, v52] : List Value))) rfl rfl (slCells (hs.row 5 rfl)) (n := 1) (fun _ => rfl) rfl (by first | exact Nat.le_of_ble_eq_true rfl | simp [encA_len]) (by intro v hv; simp only [List.mem_cons, List.not_mem_nil, or_false] at hv; subst hv; exact slOne (hs.row 5 rfl)) rfl ?_
          intro w hs
          show G _ _ _ _ [_, _, _, _, _, _, _, _, _, _, _, _, _, _, _, _, _, _, _, _, _, _, _, _, _, _, _, _, _, _, _, _, _, _, _, _, _] _
          have hs := hs.push 6 (by simp)
          exact hk _ _ ⟨v62, v64, O, (by simp only [u0_, u1_, u2_, u3_, u4_, u5_, u6_, u7_, u8_, u9_, u10_, u11_, p0_, p1_, p2_, p3_, p4_, p5_, p6_, p7_, p8_, p9_, p10_, cnd_t, cnd_f, Asc_t, Asc_f]), hs.cast (by first | rfl | simp only [List.take, List.drop, List.cons_append, List.nil_append, List.set_cons_zero, List.set_cons_succ, List.eraseIdx, u0_, u1_, u2_, u3_, u4_, u5_, u6_, u7_, u8_, u9_, u10_, u11_, p0_, p1_, p2_, p3_, p4_, p5_, p6_, p7_, p8_, p9_, p10_, cnd_t, cnd_f, Asc_t, Asc_f])⟩
         ·
          intro D t w hall hI
          obtain ⟨v62, v64, O, ht, hs⟩ := hI
          have p0_ : D 0 = true := hall 0 (by decide)
          have p1_ : D 1 = true := hall 1 (by decide)
          have p2_ : D 2 = true := hall 2 (by decide)
          have p3_ : D 3 = true := hall 3 (by decide)
          have p4_ : D 4 = true := hall 4 (by decide)
          have p5_ : D 5 = true := hall 5 (by decide)
          have p6_ : D 6 = true := hall 6 (by decide)
          have p7_ : D 7 = true := hall 7 (by decide)
          have p8_ : D 8 = true := hall 8 (by decide)
          have p9_ : D 9 = true := hall 9 (by decide)
          have p10_ : D 10 = true := hall 10 (by decide)
          have p11_ : D 11 = true := hall 11 (by decide)
          simp only [p0_, p1_, p2_, p3_, p4_, p5_, p6_, p7_, p8_, p9_, p10_, p11_, cnd_t, cnd_f, Asc_t, Asc_f] at ht hs
          subst ht
          refine g_inBlock ?_
          have hs := hs.pull 5 rfl
          have hs := hs.pull 5 rfl
          have hs := hs.pull 5 rfl
          have hs := hs.pull 6 rfl
          have hs := hs.pull 6 rfl
          have hs := hs.pull 6 rfl
          have hs : St _ [_, _, _, _, _, _] _ := St.take (Γ' := [_]) hs
          exact ha _ _ ⟨v46, x47, v64, x50 ++ ([rdL a2 x54 z_S_impl_Case]), v52, x53, H, rfl, hs⟩
        ·
         rw [if_neg hk17_] at H
         by_cases hk20_ : i64w (r55 + 1) = 2
         ·
          rw [if_pos hk20_] at H
          obtain ⟨gd21, H⟩ := ite_get H
          obtain ⟨ad22_, ad22_N, ad22_C, had22_⟩ := sl_at (hs.rd hr1) gd21.1 gd21.2
          obtain ⟨gq9_, H⟩ := ite_get H
          refine g_name ?_
          intro T hT
          refine g_any (n := 12) rfl [0, 1, 2, 3, 4, 5, 6, 7, 8, 9, 10, 11] [0, 1, 2, 3, 4, 5, 6, 7, 8, 9, 10, 11] rfl rfl (Inv := fun D t w => ∃ v68 : Value, ∃ v70 : Value, ∃ O : Nat → Value, t = [O 0, v3, Value.pointer (some ⟨b4, 0, none⟩), O 3, Value.pointer (some ⟨b6, 0, none⟩), Value.pointer (some ⟨b14, 0, none⟩), Value.int .i64 x54, Value.int .i64 (i64w (r55 + 1)), O 8, O 9, O 10, O 11, Value.int .i64 x54, v3, Value.int .i64 (a2.length : Int), Value.bool true, O 16, O 17, Value.agg ((encA (encI .i8)) a1).toArray, v3, Value.int .i64 x54, Value.pointer (some (ad13_.add (x54.toNat * 2))), Value.agg (enc_S_impl_Case (rdL a2 x54 z_S_impl_Case)).toArray, Value.int .i64 r55, Value.int .i64 (i64w (r55 + 1)), cnd (D 0) (Value.int .i64 (i64w (r55 + 1))) (O 25), cnd (D 1) (Value.int .i64 (i64w (r55 + 1))) (O 26), cnd (D 2) (Value.pointer (some ⟨b14, 0 + 2 * 1, none⟩)) (O 27), cnd (D 3) v52 (O 28), cnd (D 4) v3 (O 29), cnd (D 5) (Value.int .i64 x54) (O 30), cnd (D 6) (Value.pointer (some (ad22_.add (x54.toNat * 2)))) (O 31), cnd (D 7) (Value.agg (enc_S_impl_Case (rdL a2 x54 z_S_impl_Case)).toArray) (O 32), cnd (D 8) v68 (O 33), cnd (D 9) v70 (O 34), cnd (D 10) (Value.pointer (some ⟨b14, 0 + 2 * 1, none⟩)) (O 35), O 36] ∧ St w0 [Asc (D 8) (Row 84 k_S_impl_Case v68 ([rdL a2 x54 z_S_impl_Case])), Cells b4 ((encA (encI .i8)) a1) 52, Cells b6 (([Value.slice none 0 0, Value.slice none 0 0, Value.slice none 0 0] : List Value)) 47, Row 84 k_S_impl_Case v46 x47, Row 84 k_S_impl_Case v49 x50, Row 84 k_S_impl_Case (cnd (D 9) v70 v52) (cnd (D 9) (x53 ++ ([rdL a2 x54 z_S_impl_Case])) x53), Cells b14 (cnd (D 11) (([v46, v49, v70] : List Value)) (([v46, v49, v52] : List Value))) 47] w) ?_ ⟨⟨⟨⟨⟨⟨⟨⟨⟨⟨⟨⟨trivial, ?_⟩, ?_⟩, ?_⟩, ?_⟩, ?_⟩, ?_⟩, ?_⟩, ?_⟩, ?_⟩, ?_⟩, ?_⟩, ?_⟩ ?_
          ·
           intro w hh hbw
           have hs := hs.samew hh hbw
           have hs := hs.emp
           exact ⟨undef, undef, fun i => T.getD i undef, (by subst hT; rfl), hs⟩
          ·
           intro D t w hD hp hcl hI rest hk
           obtain ⟨v68, v70, O, ht, hs⟩ := hI
           have q10_ : D 10 = false := not_yet (hcl.get 10 (by decide)) 0 0 rfl hD
           have q11_ : D 11 = false := not_yet (hcl.get 11 (by decide)) 0 10 rfl q10_
           have u0_ : upd D 0 0 = true := rfl; have u1_ : upd D 0 1 = D 1 := rfl; have u2_ : upd D 0 2 = D 2 := rfl; have u3_ : upd D 0 3 = D 3 := rfl; have u4_ : upd D 0 4 = D 4 := rfl; have u5_ : upd D 0 5 = D 5 := rfl; have u6_ : upd D 0 6 = D 6 := rfl; have u7_ : upd D 0 7 = D 7 := rfl; have u8_ : upd D 0 8 = D 8 := rfl; have u9_ : upd D 0 9 = D 9 := rfl; have u10_ : upd D 0 10 = D 10 := rfl; have u11_ : upd D 0 11 = D 11 := rfl
           simp only [hD, q10_, q11_, cnd_t, cnd_f, Asc_t, Asc_f] at ht hs
           subst ht
           refine g_op (v := Value.int .i64 (i64w (r55 + 1))) rfl rfl rfl ?_
           show G _ _ _ _ [_, _, _, _, _, _, _, _, _, _, _, _, _, _, _, _, _, _, _, _, _, _, _, _, _, _, _, _, _, _, _, _, _, _, _, _, _] _
           exact hk _ _ ⟨v68, v70, O, (by simp only [u0_, u1_, u2_, u3_, u4_, u5_, u6_, u7_, u8_, u9_, u10_, u11_, q10_, q11_, cnd_t, cnd_f, Asc_t, Asc_f]), hs.cast (by first | rfl | simp only [List.take, List.drop, List.cons_append, List.nil_append, List.set_cons_zero, List.set_cons_succ, List.eraseIdx, u0_, u1_, u2_, u3_, u4_, u5_, u6_, u7_, u8_, u9_, u10_, u11_, q10_, q11_, cnd_t, cnd_f, Asc_t, Asc_f])⟩
          ·
           intro D t w hD hp hcl hI rest hk
           obtain ⟨v68, v70, O, ht, hs⟩ := hI
           have q2_ : D 2 = false := not_yet (hcl.get 2 (by decide)) 0 1 rfl hD
           have q3_ : D 3 = false := not_yet (hcl.get 3 (by decide)) 0 2 rfl q2_
           have q9_ : D 9 = false := not_yet (hcl.get 9 (by decide)) 0 3 rfl q3_
           have q10_ : D 10 = false := not_yet (hcl.get 10 (by decide)) 2 1 rfl hD
           have q11_ : D 11 = false := not_yet (hcl.get 11 (by decide)) 0 10 rfl q10_
           have u0_ : upd D 1 0 = D 0 := rfl; have u1_ : upd D 1 1 = true := rfl; have u2_ : upd D 1 2 = D 2 := rfl; have u3_ : upd D 1 3 = D 3 := rfl; have u4_ : upd D 1 4 = D 4 := rfl; have u5_ : upd D 1 5 = D 5 := rfl; have u6_ : upd D 1 6 = D 6 := rfl; have u7_ : upd D 1 7 = D 7 := rfl; have u8_ : upd D 1 8 = D 8 := rfl; have u9_ : upd D 1 9 = D 9 := rfl; have u10_ : upd D 1 10 = D 10 := rfl; have u11_ : upd D 1 11 = D 11 := rfl
           simp only [hD, q2_, q3_, q9_, q10_, q11_, cnd_t, cnd_f, Asc_t, Asc_f] at ht hs
           subst ht
           refine g_op (v := Value.int .i64 (i64w (r55 + 1))) rfl rfl rfl ?_
           show G _ _ _ _ [_, _, _, _, _, _, _, _, _, _, _, _, _, _, _, _, _, _, _, _, _, _, _, _, _, _, _, _, _, _, _, _, _, _, _, _, _] _
           exact hk _ _ ⟨v68, v70, O, (by simp only [u0_, u1_, u2_, u3_, u4_, u5_, u6_, u7_, u8_, u9_, u10_, u11_, q2_, q3_, q9_, q10_, q11_, cnd_t, cnd_f, Asc_t, Asc_f]), hs.cast (by first | rfl | simp only [List.take, List.drop, List.cons_append, List.nil_append, List.set_cons_zero, List.set_cons_succ, List.eraseIdx, u0_, u1_, u2_, u3_, u4_, u5_, u6_, u7_, u8_, u9_, u10_, u11_, q2_, q3_, q9_, q10_, q11_, cnd_t, cnd_f, Asc_t, Asc_f])⟩
          ·
           intro D t w hD hp hcl hI rest hk
           obtain ⟨v68, v70, O, ht, hs⟩ := hI
           obtain ⟨p1_, _⟩ := hp
           have q3_ : D 3 = false := not_yet (hcl.get 3 (by decide)) 0 2 rfl hD
           have q9_ : D 9 = false := not_yet (hcl.get 9 (by decide)) 0 3 rfl q3_
           have q10_ : D 10 = false := not_yet (hcl.get 10 (by decide)) 3 2 rfl hD
           have q11_ : D 11 = false := not_yet (hcl.get 11 (by decide)) 0 10 rfl q10_
           have u0_ : upd D 2 0 = D 0 := rfl; have u1_ : upd D 2 1 = D 1 := rfl; have u2_ : upd D 2 2 = true := rfl; have u3_ : upd D 2 3 = D 3 := rfl; have u4_ : upd D 2 4 = D 4 := rfl; have u5_ : upd D 2 5 = D 5 := rfl; have u6_ : upd D 2 6 = D 6 := rfl; have u7_ : upd D 2 7 = D 7 := rfl; have u8_ : upd D 2 8 = D 8 := rfl; have u9_ : upd D 2 9 = D 9 := rfl; have u10_ : upd D 2 10 = D 10 := rfl; have u11_ : upd D 2 11 = D 11 := rfl
           simp only [hD, p1_, q3_, q9_, q10_, q11_, cnd_t, cnd_f, Asc_t, Asc_f] at ht hs
           subst ht
           refine s_idxJ (m := 1) 2 hk20_ (by decide) rfl (fun _ => rfl) rfl rfl rfl rfl rfl ?_
           show G _ _ _ _ [_, _, _, _, _, _, _, _, _, _, _, _, _, _, _, _, _, _, _, _, _, _, _, _, _, _, _, _, _, _, _, _, _, _, _, _, _] _
           exact hk _ _ ⟨v68, v70, O, (by simp only [u0_, u1_, u2_, u3_, u4_, u5_, u6_, u7_, u8_, u9_, u10_, u11_, p1_, q3_, q9_, q10_, q11_, cnd_t, cnd_f, Asc_t, Asc_f]), hs.cast (by first | rfl | simp only [List.take, List.drop, List.cons_append, List.nil_append, List.set_cons_zero, List.set_cons_succ, List.eraseIdx, u0_, u1_, u2_, u3_, u4_, u5_, u6_, u7_, u8_, u9_, u10_, u11_, p1_, q3_, q9_, q10_, q11_, cnd_t, cnd_f, Asc_t, Asc_f])⟩
          ·
           intro D t w hD hp hcl hI rest hk
           obtain ⟨v68, v70, O, ht, hs⟩ := hI
           obtain ⟨p2_, _⟩ := hp
           obtain ⟨p1_, _⟩ := (hcl.get 2 (by decide)) p2_
           have q9_ : D 9 = false := not_yet (hcl.get 9 (by decide)) 0 3 rfl hD
           have q10_ : D 10 = false := not_yet (hcl.get 10 (by decide)) 4 3 rfl hD
           have q11_ : D 11 = false := not_yet (hcl.get 11 (by decide)) 0 10 rfl q10_
           have u0_ : upd D 3 0 = D 0 := rfl; have u1_ : upd D 3 1 = D 1 := rfl; have u2_ : upd D 3 2 = D 2 := rfl; have u3_ : upd D 3 3 = true := rfl; have u4_ : upd D 3 4 = D 4 := rfl; have u5_ : upd D 3 5 = D 5 := rfl; have u6_ : upd D 3 6 = D 6 := rfl; have u7_ : upd D 3 7 = D 7 := rfl; have u8_ : upd D 3 8 = D 8 := rfl; have u9_ : upd D 3 9 = D 9 := rfl; have u10_ : upd D 3 10 = D 10 := rfl; have u11_ : upd D 3 11 = D 11 := rfl
           simp only [hD, p1_, p2_, q9_, q10_, q11_, cnd_t, cnd_f, Asc_t, Asc_f] at ht hs
           subst ht
           refine s_load1 rfl rfl (v := v52) rfl rfl (fun _ => rfl) (cells_load (hs.cells 6 rfl) 2 1 rfl) ?_
           show G _ _ _ _ [_, _, _, _, _, _, _, _, _, _, _, _, _, _, _, _, _, _, _, _, _, _, _, _, _, _, _, _, _, _, _, _, _, _, _, _, _] _
           exact hk _ _ ⟨v68, v70, O, (by simp only [u0_, u1_, u2_, u3_, u4_, u5_, u6_, u7_, u8_, u9_, u10_, u11_, p1_, p2_, q9_, q10_, q11_, cnd_t, cnd_f, Asc_t, Asc_f]), hs.cast (by first | rfl | simp only [List.take, List.drop, List.cons_append, List.nil_append, List.set_cons_zero, List.set_cons_succ, List.eraseIdx, u0_, u1_, u2_, u3_, u4_, u5_, u6_, u7_, u8_, u9_, u10_, u11_, p1_, p2_, q9_, q10_, q11_, cnd_t, cnd_f, Asc_t, Asc_f])⟩
          ·
           intro D t w hD hp hcl hI rest hk
           obtain ⟨v68, v70, O, ht, hs⟩ := hI
           have q6_ : D 6 = false := not_yet (hcl.get 6 (by decide)) 0 4 rfl hD
           have q7_ : D 7 = false := not_yet (hcl.get 7 (by decide)) 0 6 rfl q6_
           have q8_ : D 8 = false := not_yet (hcl.get 8 (by decide)) 0 7 rfl q7_
           have q9_ : D 9 = false := not_yet (hcl.get 9 (by decide)) 1 8 rfl q8_
           have q10_ : D 10 = false := not_yet (hcl.get 10 (by decide)) 5 4 rfl hD
           have q11_ : D 11 = false := not_yet (hcl.get 11 (by decide)) 0 10 rfl q10_
           have u0_ : upd D 4 0 = D 0 := rfl; have u1_ : upd D 4 1 = D 1 := rfl; have u2_ : upd D 4 2 = D 2 := rfl; have u3_ : upd D 4 3 = D 3 := rfl; have u4_ : upd D 4 4 = true := rfl; have u5_ : upd D 4 5 = D 5 := rfl; have u6_ : upd D 4 6 = D 6 := rfl; have u7_ : upd D 4 7 = D 7 := rfl; have u8_ : upd D 4 8 = D 8 := rfl; have u9_ : upd D 4 9 = D 9 := rfl; have u10_ : upd D 4 10 = D 10 := rfl; have u11_ : upd D 4 11 = D 11 := rfl
           simp only [hD, q6_, q7_, q8_, q9_, q10_, q11_, cnd_t, cnd_f, Asc_t, Asc_f] at ht hs
           subst ht
           refine g_op (v := v3) rfl rfl rfl ?_
           show G _ _ _ _ [_, _, _, _, _, _, _, _, _, _, _, _, _, _, _, _, _, _, _, _, _, _, _, _, _, _, _, _, _, _, _, _, _, _, _, _, _] _
           exact hk _ _ ⟨v68, v70, O, (by simp only [u0_, u1_, u2_, u3_, u4_, u5_, u6_, u7_, u8_, u9_, u10_, u11_, q6_, q7_, q8_, q9_, q10_, q11_, cnd_t, cnd_f, Asc_t, Asc_f]), hs.cast (by first | rfl | simp only [List.take, List.drop, List.cons_append, List.nil_append, List.set_cons_zero, List.set_cons_succ, List.eraseIdx, u0_, u1_, u2_, u3_, u4_, u5_, u6_, u7_, u8_, u9_, u10_, u11_, q6_, q7_, q8_, q9_, q10_, q11_, cnd_t, cnd_f, Asc_t, Asc_f])⟩
          ·
           intro D t w hD hp hcl hI rest hk
           obtain ⟨v68, v70, O, ht, hs⟩ := hI
           have q6_ : D 6 = false := not_yet (hcl.get 6 (by decide)) 1 5 rfl hD
           have q7_ : D 7 = false := not_yet (hcl.get 7 (by decide)) 0 6 rfl q6_
           have q8_ : D 8 = false := not_yet (hcl.get 8 (by decide)) 0 7 rfl q7_
           have q9_ : D 9 = false := not_yet (hcl.get 9 (by decide)) 1 8 rfl q8_
           have q10_ : D 10 = false := not_yet (hcl.get 10 (by decide)) 6 5 rfl hD
           have q11_ : D 11 = false := not_yet (hcl.get 11 (by decide)) 0 10 rfl q10_
           have u0_ : upd D 5 0 = D 0 := rfl; have u1_ : upd D 5 1 = D 1 := rfl; have u2_ : upd D 5 2 = D 2 := rfl; have u3_ : upd D 5 3 = D 3 := rfl; have u4_ : upd D 5 4 = D 4 := rfl; have u5_ : upd D 5 5 = true := rfl; have u6_ : upd D 5 6 = D 6 := rfl; have u7_ : upd D 5 7 = D 7 := rfl; have u8_ : upd D 5 8 = D 8 := rfl; have u9_ : upd D 5 9 = D 9 := rfl; have u10_ : upd D 5 10 = D 10 := rfl; have u11_ : upd D 5 11 = D 11 := rfl
           simp only [hD, q6_, q7_, q8_, q9_, q10_, q11_, cnd_t, cnd_f, Asc_t, Asc_f] at ht hs
           subst ht
           refine g_op (v := Value.int .i64 x54) rfl rfl rfl ?_
           show G _ _ _ _ [_, _, _, _, _, _, _, _, _, _, _, _, _, _, _, _, _, _, _, _, _, _, _, _, _, _, _, _, _, _, _, _, _, _, _, _, _] _
           exact hk _ _ ⟨v68, v70, O, (by simp only [u0_, u1_, u2_, u3_, u4_, u5_, u6_, u7_, u8_, u9_, u10_, u11_, q6_, q7_, q8_, q9_, q10_, q11_, cnd_t, cnd_f, Asc_t, Asc_f]), hs.cast (by first | rfl | simp only [List.take, List.drop, List.cons_append, List.nil_append, List.set_cons_zero, List.set_cons_succ, List.eraseIdx, u0_, u1_, u2_, u3_, u4_, u5_, u6_, u7_, u8_, u9_, u10_, u11_, q6_, q7_, q8_, q9_, q10_, q11_, cnd_t, cnd_f, Asc_t, Asc_f])⟩
          ·
           intro D t w hD hp hcl hI rest hk
           obtain ⟨v68, v70, O, ht, hs⟩ := hI
           obtain ⟨p4_, p5_, _⟩ := hp
           have q7_ : D 7 = false := not_yet (hcl.get 7 (by decide)) 0 6 rfl hD
           have q8_ : D 8 = false := not_yet (hcl.get 8 (by decide)) 0 7 rfl q7_
           have q9_ : D 9 = false := not_yet (hcl.get 9 (by decide)) 1 8 rfl q8_
           have q10_ : D 10 = false := not_yet (hcl.get 10 (by decide)) 7 6 rfl hD
           have q11_ : D 11 = false := not_yet (hcl.get 11 (by decide)) 0 10 rfl q10_
           have u0_ : upd D 6 0 = D 0 := rfl; have u1_ : upd D 6 1 = D 1 := rfl; have u2_ : upd D 6 2 = D 2 := rfl; have u3_ : upd D 6 3 = D 3 := rfl; have u4_ : upd D 6 4 = D 4 := rfl; have u5_ : upd D 6 5 = D 5 := rfl; have u6_ : upd D 6 6 = true := rfl; have u7_ : upd D 6 7 = D 7 := rfl; have u8_ : upd D 6 8 = D 8 := rfl; have u9_ : upd D 6 9 = D 9 := rfl; have u10_ : upd D 6 10 = D 10 := rfl; have u11_ : upd D 6 11 = D 11 := rfl
           simp only [hD, p4_, p5_, q7_, q8_, q9_, q10_, q11_, cnd_t, cnd_f, Asc_t, Asc_f] at ht hs
           subst ht
           refine s_idxD (κ := k_S_impl_Case) (m := 2) rfl (hs.rd hr1) rfl (fun _ => rfl) gd21.1 gd21.2 had22_ rfl rfl rfl rfl rfl ?_
           show G _ _ _ _ [_, _, _, _, _, _, _, _, _, _, _, _, _, _, _, _, _, _, _, _, _, _, _, _, _, _, _, _, _, _, _, _, _, _, _, _, _] _
           exact hk _ _ ⟨v68, v70, O, (by simp only [u0_, u1_, u2_, u3_, u4_, u5_, u6_, u7_, u8_, u9_, u10_, u11_, p4_, p5_, q7_, q8_, q9_, q10_, q11_, cnd_t, cnd_f, Asc_t, Asc_f]), hs.cast (by first | rfl | simp only [List.take, List.drop, List.cons_append, List.nil_append, List.set_cons_zero, List.set_cons_succ, List.eraseIdx, u0_, u1_, u2_, u3_, u4_, u5_, u6_, u7_, u8_, u9_, u10_, u11_, p4_, p5_, q7_, q8_, q9_, q10_, q11_, cnd_t, cnd_f, Asc_t, Asc_f])⟩
          ·
           intro D t w hD hp hcl hI rest hk
           obtain ⟨v68, v70, O, ht, hs⟩ := hI
           obtain ⟨p6_, _⟩ := hp
           obtain ⟨p4_, p5_, _⟩ := (hcl.get 6 (by decide)) p6_
           have q8_ : D 8 = false := not_yet (hcl.get 8 (by decide)) 0 7 rfl hD
           have q9_ : D 9 = false := not_yet (hcl.get 9 (by decide)) 1 8 rfl q8_
           have q10_ : D 10 = false := not_yet (hcl.get 10 (by decide)) 8 7 rfl hD
           have q11_ : D 11 = false := not_yet (hcl.get 11 (by decide)) 0 10 rfl q10_
           have u0_ : upd D 7 0 = D 0 := rfl; have u1_ : upd D 7 1 = D 1 := rfl; have u2_ : upd D 7 2 = D 2 := rfl; have u3_ : upd D 7 3 = D 3 := rfl; have u4_ : upd D 7 4 = D 4 := rfl; have u5_ : upd D 7 5 = D 5 := rfl; have u6_ : upd D 7 6 = D 6 := rfl; have u7_ : upd D 7 7 = true := rfl; have u8_ : upd D 7 8 = D 8 := rfl; have u9_ : upd D 7 9 = D 9 := rfl; have u10_ : upd D 7 10 = D 10 := rfl; have u11_ : upd D 7 11 = D 11 := rfl
           simp only [hD, p4_, p5_, p6_, q8_, q9_, q10_, q11_, cnd_t, cnd_f, Asc_t, Asc_f] at ht hs
           subst ht
           refine s_loadA rfl rfl (es := (enc_S_impl_Case (rdL a2 x54 z_S_impl_Case))) rfl rfl (fun _ => rfl) (n := 2) (fun _ => rfl) (fk_S_impl_Case.len _) (cellsAt_of fk_S_impl_Case z_S_impl_Case (hs.rd hr1) had22_ gd21.1 gd21.2) ?_
           show G _ _ _ _ [_, _, _, _, _, _, _, _, _, _, _, _, _, _, _, _, _, _, _, _, _, _, _, _, _, _, _, _, _, _, _, _, _, _, _, _, _] _
           exact hk _ _ ⟨v68, v70, O, (by simp only [u0_, u1_, u2_, u3_, u4_, u5_, u6_, u7_, u8_, u9_, u10_, u11_, p4_, p5_, p6_, q8_, q9_, q10_, q11_, cnd_t, cnd_f, Asc_t, Asc_f]), hs.cast (by first | rfl | simp only [List.take, List.drop, List.cons_append, List.nil_append, List.set_cons_zero, List.set_cons_succ, List.eraseIdx, u0_, u1_, u2_, u3_, u4_, u5_, u6_, u7_, u8_, u9_, u10_, u11_, p4_, p5_, p6_, q8_, q9_, q10_, q11_, cnd_t, cnd_f, Asc_t, Asc_f])⟩
          ·
           intro D t w hD hp hcl hI rest hk
           obtain ⟨v68, v70, O, ht, hs⟩ := hI
           obtain ⟨p7_, _⟩ := hp
           obtain ⟨p6_, _⟩ := (hcl.get 7 (by decide)) p7_
           obtain ⟨p4_, p5_, _⟩ := (hcl.get 6 (by decide)) p6_
           have q9_ : D 9 = false := not_yet (hcl.get 9 (by decide)) 1 8 rfl hD
           have q10_ : D 10 = false := not_yet (hcl.get 10 (by decide)) 9 8 rfl hD
           have q11_ : D 11 = false := not_yet (hcl.get 11 (by decide)) 0 10 rfl q10_
           have u0_ : upd D 8 0 = D 0 := rfl; have u1_ : upd D 8 1 = D 1 := rfl; have u2_ : upd D 8 2 = D 2 := rfl; have u3_ : upd D 8 3 = D 3 := rfl; have u4_ : upd D 8 4 = D 4 := rfl; have u5_ : upd D 8 5 = D 5 := rfl; have u6_ : upd D 8 6 = D 6 := rfl; have u7_ : upd D 8 7 = D 7 := rfl; have u8_ : upd D 8 8 = true := rfl; have u9_ : upd D 8 9 = D 9 := rfl; have u10_ : upd D 8 10 = D 10 := rfl; have u11_ : upd D 8 11 = D 11 := rfl
           simp only [hD, p4_, p5_, p6_, p7_, q9_, q10_, q11_, cnd_t, cnd_f, Asc_t, Asc_f] at ht hs
           subst ht
           refine s_lit1 fk_S_impl_Case (y := rdL a2 x54 z_S_impl_Case) hs rfl rfl rfl rfl (fun _ => rfl) (zv := (Value.agg #[Value.int .i8 0, Value.bool false])) (fun _ => rfl) rfl (by decide) (by decide) rfl ?_
           intro v68 w hs
           show G _ _ _ _ [_, _, _, _, _, _, _, _, _, _, _, _, _, _, _, _, _, _, _, _, _, _, _, _, _, _, _, _, _, _, _, _, _, _, _, _, _] _
           have hs := hs.fill 0 rfl
           exact hk _ _ ⟨v68, v70, O, (by simp only [u0_, u1_, u2_, u3_, u4_, u5_, u6_, u7_, u8_, u9_, u10_, u11_, p4_, p5_, p6_, p7_, q9_, q10_, q11_, cnd_t, cnd_f, Asc_t, Asc_f]), hs.cast (by first | rfl | simp only [List.take, List.drop, List.cons_append, List.nil_append, List.set_cons_zero, List.set_cons_succ, List.eraseIdx, u0_, u1_, u2_, u3_, u4_, u5_, u6_, u7_, u8_, u9_, u10_, u11_, p4_, p5_, p6_, p7_, q9_, q10_, q11_, cnd_t, cnd_f, Asc_t, Asc_f])⟩
          ·
           intro D t w hD hp hcl hI rest hk
           obtain ⟨v68, v70, O, ht, hs⟩ := hI
           obtain ⟨p3_, p8_, _⟩ := hp
           obtain ⟨p7_, _⟩ := (hcl.get 8 (by decide)) p8_
           obtain ⟨p6_, _⟩ := (hcl.get 7 (by decide)) p7_
           obtain ⟨p4_, p5_, _⟩ := (hcl.get 6 (by decide)) p6_
           obtain ⟨p2_, _⟩ := (hcl.get 3 (by decide)) p3_
           obtain ⟨p1_, _⟩ := (hcl.get 2 (by decide)) p2_
           have q10_ : D 10 = false := not_yet (hcl.get 10 (by decide)) 10 9 rfl hD
           have q11_ : D 11 = false := not_yet (hcl.get 11 (by decide)) 0 10 rfl q10_
           have u0_ : upd D 9 0 = D 0 := rfl; have u1_ : upd D 9 1 = D 1 := rfl; have u2_ : upd D 9 2 = D 2 := rfl; have u3_ : upd D 9 3 = D 3 := rfl; have u4_ : upd D 9 4 = D 4 := rfl; have u5_ : upd D 9 5 = D 5 := rfl; have u6_ : upd D 9 6 = D 6 := rfl; have u7_ : upd D 9 7 = D 7 := rfl; have u8_ : upd D 9 8 = D 8 := rfl; have u9_ : upd D 9 9 = true := rfl; have u10_ : upd D 9 10 = D 10 := rfl; have u11_ : upd D 9 11 = D 11 := rfl
           simp only [hD, p1_, p2_, p3_, p4_, p5_, p6_, p7_, p8_, q10_, q11_, cnd_t, cnd_f, Asc_t, Asc_f] at ht hs
           subst ht
           have hs := hs.pull 5 rfl
           have hs : St _ [_, _, _, _, _, _, _] _ := hs
           refine s_append fk_S_impl_Case (zv := (Value.agg #[Value.int .i8 0, Value.bool false])) (B := 2) hs (hs.row 1 rfl) rfl rfl rfl rfl rfl rfl rfl rfl rfl (by decide) rfl rfl (by decide) (by have := gq9_; omega) ?_
           intro v70 w hs
           show G _ _ _ _ [_, _, _, _, _, _, _, _, _, _, _, _, _, _, _, _, _, _, _, _, _, _, _, _, _, _, _, _, _, _, _, _, _, _, _, _, _] _
           have hs := hs.push 5 (by simp)
           exact hk _ _ ⟨v68, v70, O, (by simp only [u0_, u1_, u2_, u3_, u4_, u5_, u6_, u7_, u8_, u9_, u10_, u11_, p1_, p2_, p3_, p4_, p5_, p6_, p7_, p8_, q10_, q11_, cnd_t, cnd_f, Asc_t, Asc_f]), hs.cast (by first | rfl | simp only [List.take, List.drop, List.cons_append, List.nil_append, List.set_cons_zero, List.set_cons_succ, List.eraseIdx, u0_, u1_, u2_, u3_, u4_, u5_, u6_, u7_, u8_, u9_, u10_, u11_, p1_, p2_, p3_, p4_, p5_, p6_, p7_, p8_, q10_, q11_, cnd_t, cnd_f, Asc_t, Asc_f])⟩
          ·
           intro D t w hD hp hcl hI rest hk
           obtain ⟨v68, v70, O, ht, hs⟩ := hI
           obtain ⟨p0_, _, p1_, p2_, p3_, p4_, p5_, p6_, p7_, p8_, p9_, _⟩ := hp
           have q11_ : D 11 = false := not_yet (hcl.get 11 (by decide)) 0 10 rfl hD
           have u0_ : upd D 10 0 = D 0 := rfl; have u1_ : upd D 10 1 = D 1 := rfl; have u2_ : upd D 10 2 = D 2 := rfl; have u3_ : upd D 10 3 = D 3 := rfl; have u4_ : upd D 10 4 = D 4 := rfl; have u5_ : upd D 10 5 = D 5 := rfl; have u6_ : upd D 10 6 = D 6 := rfl; have u7_ : upd D 10 7 = D 7 := rfl; have u8_ : upd D 10 8 = D 8 := rfl; have u9_ : upd D 10 9 = D 9 := rfl; have u10_ : upd D 10 10 = true := rfl; have u11_ : upd D 10 11 = D 11 := rfl
           simp only [hD, p0_, p1_, p2_, p3_, p4_, p5_, p6_, p7_, p8_, p9_, q11_, cnd_t, cnd_f, Asc_t, Asc_f] at ht hs
           subst ht
           refine s_idxJ (m := 1) 2 hk20_ (by decide) rfl (fun _ => rfl) rfl rfl rfl rfl rfl ?_
           show G _ _ _ _ [_, _, _, _, _, _, _, _, _, _, _, _, _, _, _, _, _, _, _, _, _, _, _, _, _, _, _, _, _, _, _, _, _, _, _, _, _] _
           exact hk _ _ ⟨v68, v70, O, (by simp only [u0_, u1_, u2_, u3_, u4_, u5_, u6_, u7_, u8_, u9_, u10_, u11_, p0_, p1_, p2_, p3_, p4_, p5_, p6_, p7_, p8_, p9_, q11_, cnd_t, cnd_f, Asc_t, Asc_f]), hs.cast (by first | rfl | simp only [List.take, List.drop, List.cons_append, List.nil_append, List.set_cons_zero, List.set_cons_succ, List.eraseIdx, u0_, u1_, u2_, u3_, u4_, u5_, u6_, u7_, u8_, u9_, u10_, u11_, p0_, p1_, p2_, p3_, p4_, p5_, p6_, p7_, p8_, p9_, q11_, cnd_t, cnd_f, Asc_t, Asc_f])⟩
          ·
           intro D t w hD hp hcl hI rest hk
           obtain ⟨v68, v70, O, ht, hs⟩ := hI
           obtain ⟨p10_, p9_, _, p0_, p1_, p2_, p3_, p4_, p5_, p6_, p7_, p8_, _, _⟩ := hp
           have u0_ : upd D 11 0 = D 0 := rfl; have u1_ : upd D 11 1 = D 1 := rfl; have u2_ : upd D 11 2 = D 2 := rfl; have u3_ : upd D 11 3 = D 3 := rfl; have u4_ : upd D 11 4 = D 4 := rfl; have u5_ : upd D 11 5 = D 5 := rfl; have u6_ : upd D 11 6 = D 6 := rfl; have u7_ : upd D 11 7 = D 7 := rfl; have u8_ : upd D 11 8 = D 8 := rfl; have u9_ : upd D 11 9 = D 9 := rfl; have u10_ : upd D 11 10 = D 10 := rfl; have u11_ : upd D 11 11 = true := rfl
           simp only [hD, p0_, p1_, p2_, p3_, p4_, p5_, p6_, p7_, p8_, p9_, p10_, cnd_t, cnd_f, Asc_t, Asc_f] at ht hs
           subst ht
           have hs := hs.pull 6 rfl
           have hs : St _ [_, _, _, _, _, _, _] _ := hs
           refine s_store hs rfl rfl (vs := [v70]) (cs' := (([v46, v49, v70] : List Value))) rfl rfl (slCells (hs.row 6 rfl)) (n := 1) (fun _ => rfl) rfl (by first | exact Nat.le_of_ble_eq_true rfl | simp [encA_len]) (by intro v hv; simp only [List.mem_cons, List.not_mem_nil, or_false] at hv; subst hv; exact slOne (hs.row 6 rfl)) rfl ?_
           intro w hs
           show G _ _ _ _ [_, _, _, _, _, _, _, _, _, _, _, _, _, _, _, _, _, _, _, _, _, _, _, _, _, _, _, _, _, _, _, _, _, _, _, _, _] _
           have hs := hs.push 6 (by simp)
           exact hk _ _ ⟨v68, v70, O, (by simp only [u0_, u1_, u2_, u3_, u4_, u5_, u6_, u7_, u8_, u9_, u10_, u11_, p0_, p1_, p2_, p3_, p4_, p5_, p6_, p7_, p8_, p9_, p10_, cnd_t, cnd_f, Asc_t, Asc_f]), hs.cast (by first | rfl | simp only [List.take, List.drop, List.cons_append, List.nil_append, List.set_cons_zero, List.set_cons_succ, List.eraseIdx, u0_, u1_, u2_, u3_, u4_, u5_, u6_, u7_, u8_, u9_, u10_, u11_, p0_, p1_, p2_, p3_, p4_, p5_, p6_, p7_, p8_, p9_, p10_, cnd_t, cnd_f, Asc_t, Asc_f])⟩
          ·
           intro D t w hall hI
           obtain ⟨v68, v70, O, ht, hs⟩ := hI
           have p0_ : D 0 = true := hall 0 (by decide)
           have p1_ : D 1 = true := hall 1 (by decide)
           have p2_ : D 2 = true := hall 2 (by decide)
           have p3_ : D 3 = true := hall 3 (by decide)
           have p4_ : D 4 = true := hall 4 (by decide)
           have p5_ : D 5 = true := hall 5 (by decide)
           have p6_ : D 6 = true := hall 6 (by decide)
           have p7_ : D 7 = true := hall 7 (by decide)
           have p8_ : D 8 = true := hall 8 (by decide)
           have p9_ : D 9 = true := hall 9 (by decide)
           have p10_ : D 10 = true := hall 10 (by decide)
           have p11_ : D 11 = true := hall 11 (by decide)
           simp only [p0_, p1_, p2_, p3_, p4_, p5_, p6_, p7_, p8_, p9_, p10_, p11_, cnd_t, cnd_f, Asc_t, Asc_f] at ht hs
           subst ht
           refine g_inBlock ?_
           have hs := hs.pull 5 rfl
           have hs := hs.pull 5 rfl
           have hs := hs.pull 5 rfl
           have hs := hs.pull 6 rfl
           have hs := hs.pull 6 rfl
           have hs := hs.pull 6 rfl
           have hs : St _ [_, _, _, _, _, _] _ := St.take (Γ' := [_]) hs
           exact ha _ _ ⟨v46, x47, v49, x50, v70, x53 ++ ([rdL a2 x54 z_S_impl_Case]), H, rfl, hs⟩
         ·
          rw [if_neg hk20_] at H
          cases H
    ·
     intro hb
     rw [if_neg (b_dec_f hb)] at H
     show G _ _ _ _ [_, _, _, _, _, _, _, _, _, _, _, _, _, _, _, _, _, _, _, _, _, _, _, _, _, _, _, _, _, _, _, _, _, _, _, _, _] _
     refine g_ops_nil ?_
     refine g_cond_false rfl ?_
     obtain rfl := Option.some.inj H
     subst Hx1_
     have hs := hs.pull 4 rfl
     have hs := hs.pull 4 rfl
     have hs := hs.pull 4 rfl
     have hs := hs.pull 5 rfl
     have hs := hs.pull 5 rfl
     have hs : St _ [_, _, _, _, _] _ := St.take (Γ' := [_]) hs
     refine g_exit rfl ?_
     exact ha1_ _ _ ⟨v46, x47, v49, x50, v52, x53, Hr1_, rfl, hs⟩

end Go.Proofs.YtcocgeodfbiehaaX
