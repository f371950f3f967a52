/- Contracts, printed by gen.py. -/
import Derived.Test.YtcocgeodfbiehaaXC6
namespace Go.Proofs.YtcocgeodfbiehaaX
open Go Go.RowKit Go.Proofs
set_option linter.unusedVariables false
set_option linter.unusedSimpArgs false
/- function 49 impl_split -/
def impl_split.post (w0 : World) (r : (Ar (List S_impl_Case) 3)) (v : Value) (w : World) : Prop := ∃ u1 : Value, ∃ u2 : Value, ∃ u3 : Value, v = Value.agg (([u1, u2, u3] : List Value)).toArray ∧ St w0 [Row 84 k_S_impl_Case u1 (r.get 0 []), Row 84 k_S_impl_Case u2 (r.get 1 []), Row 84 k_S_impl_Case u3 (r.get 2 [])] w
set_option maxHeartbeats 8000000 in
set_option maxRecDepth 100000 in
theorem impl_split.calls {N : Nat} {a1 : (Ar Int 14)} {a2 : (List S_impl_Case)} {v3 : Value} {w0 : World} {r : (Ar (List S_impl_Case) 3)} (hr1 : RdRow k_S_impl_Case w0 v3 a2) (H : impl_split.f N a1 a2 = some r) :
    Calls Try.prog 49 #[Value.agg ((encA (encI .i8)) a1).toArray, v3] w0 fun e w => ∃ v, e = .returned v ∧ impl_split.post w0 r v w := by
  unfold impl_split.f at H
  have hs : St w0 [] w0 := St.refl w0
  refine calls_of_g (n := 28) Try.func49 rfl rfl ?_
  show G _ _ _ _ [_, _, _, _, _, _, _, _, _, _, _, _, _, _, _, _, _, _, _, _, _, _, _, _, _, _, _, _, _, _] _
  refine g_seq ?_
  refine g_region ?_
  show G _ _ _ (.inRegion _ [0, 1] :: _) _ _
  refine s_box hs rfl rfl (cs := ((encA (encI .i8)) a1)) rfl rfl ?_
  intro b4 w hs
  show G _ _ _ _ [_, _, _, _, _, _, _, _, _, _, _, _, _, _, _, _, _, _, _, _, _, _, _, _, _, _, _, _, _, _] _
  refine s_alloc hs rfl rfl (z := (Value.agg #[Value.slice none 0 0, Value.slice none 0 0, Value.slice none 0 0])) (cs := (([Value.slice none 0 0, Value.slice none 0 0, Value.slice none 0 0] : List Value))) rfl (fun _ => rfl) rfl ?_
  intro b6 w hs
  show G _ _ _ _ [_, _, _, _, _, _, _, _, _, _, _, _, _, _, _, _, _, _, _, _, _, _, _, _, _, _, _, _, _, _] _
  refine g_ops_nil ?_
  refine g_seq ?_
  refine g_region ?_
  show G _ _ _ (.inRegion _ [0, 1, 2] :: _) _ _
  refine g_op (v := Value.agg (([Value.slice none 0 0, Value.slice none 0 0, Value.slice none 0 0] : List Value)).toArray) rfl rfl (x_build rfl rfl) ?_
  show G _ _ _ _ [_, _, _, _, _, _, _, _, _, _, _, _, _, _, _, _, _, _, _, _, _, _, _, _, _, _, _, _, _, _] _
  refine s_alloc hs rfl rfl (z := (Value.agg #[Value.slice none 0 0, Value.slice none 0 0, Value.slice none 0 0])) (cs := (([Value.slice none 0 0, Value.slice none 0 0, Value.slice none 0 0] : List Value))) rfl (fun _ => rfl) rfl ?_
  intro b8 w hs
  show G _ _ _ _ [_, _, _, _, _, _, _, _, _, _, _, _, _, _, _, _, _, _, _, _, _, _, _, _, _, _, _, _, _, _] _
  refine s_storeAll (n := 3) hs rfl rfl rfl (vs := (([Value.slice none 0 0, Value.slice none 0 0, Value.slice none 0 0] : List Value))) rfl rfl rfl (fun _ => rfl) rfl (by simp [Value.oneCell']) ?_
  intro w hs
  refine g_ops_nil ?_
  refine g_seq ?_
  refine g_seq ?_
  refine g_region ?_
  show G _ _ _ (.inRegion _ [0, 1, 2] :: _) _ _
  refine g_op (v := v3) rfl rfl rfl ?_
  refine s_len (hs.rd hr1) rfl rfl rfl rfl rfl ?_
  show G _ _ _ _ [_, _, _, _, _, _, _, _, _, _, _, _, _, _, _, _, _, _, _, _, _, _, _, _, _, _, _, _, _, _] _
  refine g_op (v := Value.int .i64 0) rfl rfl rfl ?_
  refine g_ops_nil ?_
  obtain ⟨o1_, Ho, Hr1_⟩ := bind_get H
  refine g_block_join (J := fun t w => ∃ v89 : Value, ∃ x90 : (List S_impl_Case), ∃ v92 : Value, ∃ x93 : (List S_impl_Case), ∃ v95 : Value, ∃ x96 : (List S_impl_Case), impl_split.a0 N x90 x93 x96 = some r ∧ Fr t (fun O => ([O 0, O 1, O 2, O 3, Value.pointer (some ⟨b6, 0, none⟩), Value.pointer (some ⟨b8, 0, none⟩), O 6, O 7, O 8, O 9, O 10, O 11, O 12, O 13, O 14, O 15, O 16, O 17, O 18, O 19, O 20, O 21, O 22, O 23, O 24, O 25, O 26, O 27, O 28, O 29] : List Value)) ∧ St w0 [Cells b6 (([Value.slice none 0 0, Value.slice none 0 0, Value.slice none 0 0] : List Value)) 47, Cells b8 (([v89, v92, v95] : List Value)) 47, Row 84 k_S_impl_Case v89 x90, Row 84 k_S_impl_Case v92 x93, Row 84 k_S_impl_Case v95 x96] w) ?_ ?_
  ·
   rintro t w ⟨v89, x90, v92, x93, v95, x96, H, hf, hs⟩
   obtain ⟨O, rfl⟩ := hf.open
   show G _ _ _ _ [_, _, _, _, _, _, _, _, _, _, _, _, _, _, _, _, _, _, _, _, _, _, _, _, _, _, _, _, _, _] _
   unfold impl_split.a0 at H
   refine g_seq ?_
   refine g_region ?_
   show G _ _ _ (.inRegion _ [0, 1] :: _) _ _
   refine s_loadA rfl rfl (es := (([v89, v92, v95] : List Value))) rfl rfl (fun _ => rfl) (n := 3) (fun _ => rfl) rfl (cells_all (hs.cells 1 rfl)) ?_
   show G _ _ _ _ [_, _, _, _, _, _, _, _, _, _, _, _, _, _, _, _, _, _, _, _, _, _, _, _, _, _, _, _, _, _] _
   refine s_storeAll (n := 3) hs rfl rfl rfl (vs := (([v89, v92, v95] : List Value))) rfl rfl rfl (fun _ => rfl) rfl (by intro v hv; simp only [List.mem_append, List.mem_cons, List.not_mem_nil, or_false] at hv; repeat (first | (subst hv; first | rfl | exact slOne (hs.row 2 rfl) | exact slOne (hs.row 3 rfl) | exact slOne (hs.row 4 rfl)) | (rcases hv with hv | hv))) ?_
   intro w hs
   refine g_ops_nil ?_
   obtain rfl := Option.some.inj H
   refine g_ret Try.func49 (v := Value.agg (([v89, v92, v95] : List Value)).toArray) (resC rfl ⟨⟨_, rfl, (run_loadVar_agg (es := (([v89, v92, v95] : List Value))) rfl rfl (cells_all (hs.cells 0 rfl)))⟩, trivial⟩) ?_
   have hs := hs.pull 4 rfl
   have hs := hs.pull 4 rfl
   have hs := hs.pull 4 rfl
   have hs : St _ [_, _, _] _ := St.take (Γ' := [_, _]) hs
   exact ⟨_, rfl, v89, v92, v95, rfl, hs⟩
  ·
   intro ha1_
   have hs := hs.nil 84 k_S_impl_Case
   have hs := hs.nil 84 k_S_impl_Case
   have hs := hs.nil 84 k_S_impl_Case
   have hs := hs.pull 3 rfl
   have hs := hs.pull 1 rfl
   have hs := hs.pull 2 rfl
   have hs := hs.pull 3 rfl
   have hs := hs.pull 4 rfl
   have hs := hs.pull 5 rfl
   have hs : St _ [_, _, _, _, _, _] _ := St.take (Γ' := []) hs
   refine g_loop_fuel (I := fun n_ t w => ∃ v49 : Value, ∃ x50 : (List S_impl_Case), ∃ v52 : Value, ∃ x53 : (List S_impl_Case), ∃ v55 : Value, ∃ x56 : (List S_impl_Case), ∃ x57 : Int, rounds (fun s => impl_split.b0 N a2 a1 s.1 s.2.1 s.2.2.1 s.2.2.2) n_ (x50, x53, x56, x57) = some o1_ ∧ Fr t (fun O => ([O 0, O 1, Value.pointer (some ⟨b4, 0, none⟩), O 3, Value.pointer (some ⟨b6, 0, none⟩), Value.pointer (some ⟨b8, 0, none⟩), O 6, O 7, O 8, O 9, v3, Value.int .i64 (a2.length : Int), Value.int .i64 x57, O 13, O 14, O 15, O 16, O 17, O 18, O 19, O 20, O 21, O 22, O 23, O 24, O 25, O 26, O 27, O 28, O 29] : List Value)) ∧ St w0 [Cells b4 ((encA (encI .i8)) a1) 52, Cells b6 (([Value.slice none 0 0, Value.slice none 0 0, Value.slice none 0 0] : List Value)) 47, Row 84 k_S_impl_Case v49 x50, Row 84 k_S_impl_Case v52 x53, Row 84 k_S_impl_Case v55 x56, Cells b8 (([v49, v52, v55] : List Value)) 47] w) N ⟨Value.slice none 0 0, [], Value.slice none 0 0, [], Value.slice none 0 0, [], 0, Ho, rfl, hs⟩ ?_ ?_
   ·
    rintro _ _ ⟨v49, x50, v52, x53, v55, x56, x57, h, _⟩
    exact rounds_zero h
   ·
    intro n_ ih1_
    rintro t w ⟨v49, x50, v52, x53, v55, x56, x57, Ho, hf, hs⟩
    obtain ⟨O, rfl⟩ := hf.open
    show G _ _ _ _ [_, _, _, _, _, _, _, _, _, _, _, _, _, _, _, _, _, _, _, _, _, _, _, _, _, _, _, _, _, _] _
    obtain ⟨x9_, H, Hx1_⟩ := rounds_succ Ho
    have H : impl_split.b0 N a2 a1 x50 x53 x56 x57 = some x9_ := H
    unfold impl_split.b0 at H
    refine g_seq ?_
    refine g_region ?_
    show G _ _ _ (.inRegion _ [0] :: _) _ _
    refine g_op_b (B := decide (x57 < (a2.length : Int))) rfl rfl rfl ?_ ?_
    ·
     intro hb
     rw [if_pos (b_dec_t hb)] at H
     show G _ _ _ _ [_, _, _, _, _, _, _, _, _, _, _, _, _, _, _, _, _, _, _, _, _, _, _, _, _, _, _, _, _, _] _
     refine g_ops_nil ?_
     refine g_seq ?_
     refine g_cond_true rfl ?_
     refine g_skip ?_
     refine g_seq ?_
     refine g_block_join (J := (fun t w => ∃ v80 : Value, ∃ x81 : (List S_impl_Case), ∃ v83 : Value, ∃ x84 : (List S_impl_Case), ∃ v86 : Value, ∃ x87 : (List S_impl_Case), impl_split.j2 N x57 x81 x84 x87 = some x9_ ∧ Fr t (fun O => ([O 0, O 1, Value.pointer (some ⟨b4, 0, none⟩), O 3, Value.pointer (some ⟨b6, 0, none⟩), Value.pointer (some ⟨b8, 0, none⟩), O 6, O 7, O 8, O 9, v3, Value.int .i64 (a2.length : Int), Value.int .i64 x57, O 13, O 14, O 15, O 16, O 17, O 18, O 19, O 20, O 21, O 22, O 23, O 24, O 25, O 26, O 27, O 28, O 29] : List Value)) ∧ St w0 [Cells b4 ((encA (encI .i8)) a1) 52, Cells b6 (([Value.slice none 0 0, Value.slice none 0 0, Value.slice none 0 0] : List Value)) 47, Cells b8 (([v80, v83, v86] : List Value)) 47, Row 84 k_S_impl_Case v80 x81, Row 84 k_S_impl_Case v83 x84, Row 84 k_S_impl_Case v86 x87] w)) ?_ ?_
     ·
      rintro t w ⟨v80, x81, v83, x84, v86, x87, H, hf, hs⟩
      obtain ⟨O, rfl⟩ := hf.open
      show G _ _ _ _ [_, _, _, _, _, _, _, _, _, _, _, _, _, _, _, _, _, _, _, _, _, _, _, _, _, _, _, _, _, _] _
      unfold impl_split.j2 at H
      refine g_region ?_
      show G _ _ _ (.inRegion _ [0, 1] :: _) _ _
      refine g_op (v := Value.int .i64 (i64w (x57 + 1))) rfl rfl rfl ?_
      show G _ _ _ _ [_, _, _, _, _, _, _, _, _, _, _, _, _, _, _, _, _, _, _, _, _, _, _, _, _, _, _, _, _, _] _
      refine g_op (v := Value.int .i64 (i64w (x57 + 1))) rfl rfl rfl ?_
      refine g_ops_nil ?_
      obtain rfl := Option.some.inj H
      have hs := hs.pull 2 rfl
      have hs := hs.pull 5 rfl
      have hs := hs.pull 5 rfl
      have hs := hs.pull 5 rfl
      have hs := hs.pull 5 rfl
      have hs := hs.pull 5 rfl
      have hs : St _ [_, _, _, _, _, _] _ := St.take (Γ' := []) hs
      exact ih1_ _ _ ⟨v80, x81, v83, x84, v86, x87, i64w (x57 + 1), Hx1_, rfl, hs⟩
     ·
      intro ha
      refine g_seq ?_
      refine g_region ?_
      show G _ _ _ (.inRegion _ [0, 1, 2, 3] :: _) _ _
      obtain ⟨g5, H⟩ := ite_get H
      refine s_idx fk_S_impl_Case z_S_impl_Case (hs.rd hr1) rfl (fun _ => rfl) g5.1 g5.2 rfl rfl rfl rfl rfl ?_
      intro p58 hp58 lp58 op58
      show G _ _ _ _ [_, _, _, _, _, _, _, _, _, _, _, _, _, _, _, _, _, _, _, _, _, _, _, _, _, _, _, _, _, _] _
      refine s_loadA rfl rfl (es := (enc_S_impl_Case (rdL a2 x57 z_S_impl_Case))) rfl rfl (fun _ => rfl) (n := 2) (fun _ => rfl) (fk_S_impl_Case.len _) hp58 ?_
      show G _ _ _ _ [_, _, _, _, _, _, _, _, _, _, _, _, _, _, _, _, _, _, _, _, _, _, _, _, _, _, _, _, _, _] _
      refine s_alloc hs rfl rfl (z := (Value.agg #[Value.int .i8 0, Value.bool false])) (cs := (enc_S_impl_Case z_S_impl_Case)) rfl (fun _ => rfl) rfl ?_
      intro b59 w hs
      show G _ _ _ _ [_, _, _, _, _, _, _, _, _, _, _, _, _, _, _, _, _, _, _, _, _, _, _, _, _, _, _, _, _, _] _
      refine s_storeAll (n := 2) hs (fk_S_impl_Case.len _) rfl rfl (vs := (enc_S_impl_Case (rdL a2 x57 z_S_impl_Case))) rfl rfl rfl (fun _ => rfl) (fk_S_impl_Case.len _) (fk_S_impl_Case.one _) ?_
      intro w hs
      refine g_ops_nil ?_
      refine g_seq ?_
      refine g_region ?_
      show G _ _ _ (.inRegion _ [0, 1, 2, 3, 4] :: _) _ _
      refine s_loadA rfl rfl (es := ((encA (encI .i8)) a1)) rfl rfl (fun _ => rfl) (n := 14) (fun _ => rfl) ((fkA (n := 14) (he := (fkI .i8).len) (h1 := (fkI .i8).one)).len _) (cells_all (hs.cells 1 rfl)) ?_
      show G _ _ _ _ [_, _, _, _, _, _, _, _, _, _, _, _, _, _, _, _, _, _, _, _, _, _, _, _, _, _, _, _, _, _] _
      refine s_loadA rfl rfl (es := (enc_S_impl_Case (rdL a2 x57 z_S_impl_Case))) rfl rfl (fun _ => rfl) (n := 2) (fun _ => rfl) (fk_S_impl_Case.len _) (cells_all (hs.cells 0 rfl)) ?_
      show G _ _ _ _ [_, _, _, _, _, _, _, _, _, _, _, _, _, _, _, _, _, _, _, _, _, _, _, _, _, _, _, _, _, _] _
      obtain ⟨r61, Hr61, H⟩ := bind_get H
      refine s_call (args := [Value.agg ((encA (encI .i8)) a1).toArray, Value.agg (enc_S_impl_Case (rdL a2 x57 z_S_impl_Case)).toArray]) rfl rfl (x_call rfl (callFunc_enter Try.func82 rfl rfl) rfl) (impl_resultOf.calls (a1 := a1) (a2 := rdL a2 x57 z_S_impl_Case) Hr61) ?_
      rintro _ w ⟨rfl, hs2⟩
      have hs : St _ [_, _, _, _, _, _, _] _ := hs.call hs2
      show G _ _ _ _ [_, _, _, _, _, _, _, _, _, _, _, _, _, _, _, _, _, _, _, _, _, _, _, _, _, _, _, _, _, _] _
      refine g_op (v := Value.int .i64 (i64w (r61 + 1))) rfl rfl rfl ?_
      show G _ _ _ _ [_, _, _, _, _, _, _, _, _, _, _, _, _, _, _, _, _, _, _, _, _, _, _, _, _, _, _, _, _, _] _
      refine g_op (v := Value.int .i64 (i64w (r61 + 1))) rfl rfl rfl ?_
      show G _ _ _ _ [_, _, _, _, _, _, _, _, _, _, _, _, _, _, _, _, _, _, _, _, _, _, _, _, _, _, _, _, _, _] _
      refine g_ops_nil ?_
      by_cases hk6_ : i64w (r61 + 1) = 0
      ·
       rw [if_pos hk6_] at H
       obtain ⟨gq6_, H⟩ := ite_get H
       refine g_name ?_
       intro T hT
       refine g_any (n := 9) rfl [0, 1, 2, 3, 4, 5, 6, 7, 8] [0, 1, 2, 3, 4, 5, 6, 7, 8] rfl rfl (Inv := fun D t w => ∃ v62 : Value, ∃ v64 : Value, ∃ O : Nat → Value, t = [O 0, O 1, Value.pointer (some ⟨b4, 0, none⟩), O 3, Value.pointer (some ⟨b6, 0, none⟩), Value.pointer (some ⟨b8, 0, none⟩), O 6, Value.pointer (some ⟨b59, 0, none⟩), Value.int .i64 (i64w (r61 + 1)), O 9, v3, Value.int .i64 (a2.length : Int), Value.int .i64 x57, Value.bool true, Value.pointer (some p58), Value.agg (enc_S_impl_Case (rdL a2 x57 z_S_impl_Case)).toArray, Value.agg ((encA (encI .i8)) a1).toArray, Value.agg (enc_S_impl_Case (rdL a2 x57 z_S_impl_Case)).toArray, Value.int .i64 r61, Value.int .i64 (i64w (r61 + 1)), cnd (D 0) (Value.int .i64 (i64w (r61 + 1))) (O 20), cnd (D 1) (Value.int .i64 (i64w (r61 + 1))) (O 21), cnd (D 2) (Value.pointer (some ⟨b8, 0 + 0 * 1, none⟩)) (O 22), cnd (D 3) v49 (O 23), cnd (D 4) (Value.agg (enc_S_impl_Case (rdL a2 x57 z_S_impl_Case)).toArray) (O 24), cnd (D 5) v62 (O 25), cnd (D 6) v64 (O 26), cnd (D 7) (Value.pointer (some ⟨b8, 0 + 0 * 1, none⟩)) (O 27), O 28, O 29] ∧ St w0 [Asc (D 5) (Row 84 k_S_impl_Case v62 ([rdL a2 x57 z_S_impl_Case])), Cells b59 (enc_S_impl_Case (rdL a2 x57 z_S_impl_Case)) 84, Cells b4 ((encA (encI .i8)) a1) 52, Cells b6 (([Value.slice none 0 0, Value.slice none 0 0, Value.slice none 0 0] : List Value)) 47, Row 84 k_S_impl_Case (cnd (D 6) v64 v49) (cnd (D 6) (x50 ++ ([rdL a2 x57 z_S_impl_Case])) x50), Row 84 k_S_impl_Case v52 x53, Row 84 k_S_impl_Case v55 x56, Cells b8 (cnd (D 8) (([v64, v52, v55] : List Value)) (([v49, v52, v55] : List Value))) 47] w) ?_ ⟨⟨⟨⟨⟨⟨⟨⟨⟨trivial, ?_⟩, ?_⟩, ?_⟩, ?_⟩, ?_⟩, ?_⟩, ?_⟩, ?_⟩, ?_⟩ ?_
       ·
        intro w hh hbw
        have hs := hs.samew hh hbw
        have hs := hs.emp
        exact ⟨undef, undef, fun i => T.getD i undef, (by subst hT; rfl), hs⟩
       ·
        intro D t w hD hp hcl hI rest hk
        obtain ⟨v62, v64, O, ht, hs⟩ := hI
        have q7_ : D 7 = false := not_yet (hcl.get 7 (by decide)) 0 0 rfl hD
        have q8_ : D 8 = false := not_yet (hcl.get 8 (by decide)) 0 7 rfl q7_
        have u0_ : upd D 0 0 = true := rfl; have u1_ : upd D 0 1 = D 1 := rfl; have u2_ : upd D 0 2 = D 2 := rfl; have u3_ : upd D 0 3 = D 3 := rfl; have u4_ : upd D 0 4 = D 4 := rfl; have u5_ : upd D 0 5 = D 5 := rfl; have u6_ : upd D 0 6 = D 6 := rfl; have u7_ : upd D 0 7 = D 7 := rfl; have u8_ : upd D 0 8 = D 8 := rfl
        simp only [hD, q7_, q8_, cnd_t, cnd_f, Asc_t, Asc_f] at ht hs
        subst ht
        refine g_op (v := Value.int .i64 (i64w (r61 + 1))) rfl rfl rfl ?_
        show G _ _ _ _ [_, _, _, _, _, _, _, _, _, _, _, _, _, _, _, _, _, _, _, _, _, _, _, _, _, _, _, _, _, _] _
        exact hk _ _ ⟨v62, v64, O, (by simp only [u0_, u1_, u2_, u3_, u4_, u5_, u6_, u7_, u8_, q7_, q8_, cnd_t, cnd_f, Asc_t, Asc_f]), hs.cast (by first | rfl | simp only [List.take, List.drop, List.cons_append, List.nil_append, List.set_cons_zero, List.set_cons_succ, List.eraseIdx, u0_, u1_, u2_, u3_, u4_, u5_, u6_, u7_, u8_, q7_, q8_, cnd_t, cnd_f, Asc_t, Asc_f])⟩
       ·
        intro D t w hD hp hcl hI rest hk
        obtain ⟨v62, v64, O, ht, hs⟩ := hI
        have q2_ : D 2 = false := not_yet (hcl.get 2 (by decide)) 0 1 rfl hD
        have q3_ : D 3 = false := not_yet (hcl.get 3 (by decide)) 0 2 rfl q2_
        have q6_ : D 6 = false := not_yet (hcl.get 6 (by decide)) 0 3 rfl q3_
        have q7_ : D 7 = false := not_yet (hcl.get 7 (by decide)) 2 1 rfl hD
        have q8_ : D 8 = false := not_yet (hcl.get 8 (by decide)) 0 7 rfl q7_
        have u0_ : upd D 1 0 = D 0 := rfl; have u1_ : upd D 1 1 = true := rfl; have u2_ : upd D 1 2 = D 2 := rfl; have u3_ : upd D 1 3 = D 3 := rfl; have u4_ : upd D 1 4 = D 4 := rfl; have u5_ : upd D 1 5 = D 5 := rfl; have u6_ : upd D 1 6 = D 6 := rfl; have u7_ : upd D 1 7 = D 7 := rfl; have u8_ : upd D 1 8 = D 8 := rfl
        simp only [hD, q2_, q3_, q6_, q7_, q8_, cnd_t, cnd_f, Asc_t, Asc_f] at ht hs
        subst ht
        refine g_op (v := Value.int .i64 (i64w (r61 + 1))) rfl rfl rfl ?_
        show G _ _ _ _ [_, _, _, _, _, _, _, _, _, _, _, _, _, _, _, _, _, _, _, _, _, _, _, _, _, _, _, _, _, _] _
        exact hk _ _ ⟨v62, v64, O, (by simp only [u0_, u1_, u2_, u3_, u4_, u5_, u6_, u7_, u8_, q2_, q3_, q6_, q7_, q8_, cnd_t, cnd_f, Asc_t, Asc_f]), hs.cast (by first | rfl | simp only [List.take, List.drop, List.cons_append, List.nil_append, List.set_cons_zero, List.set_cons_succ, List.eraseIdx, u0_, u1_, u2_, u3_, u4_, u5_, u6_, u7_, u8_, q2_, q3_, q6_, q7_, q8_, cnd_t, cnd_f, Asc_t, Asc_f])⟩
       ·
        intro D t w hD hp hcl hI rest hk
        obtain ⟨v62, v64, O, ht, hs⟩ := hI
        obtain ⟨p1_, _⟩ := hp
        have q3_ : D 3 = false := not_yet (hcl.get 3 (by decide)) 0 2 rfl hD
        have q6_ : D 6 = false := not_yet (hcl.get 6 (by decide)) 0 3 rfl q3_
        have q7_ : D 7 = false := not_yet (hcl.get 7 (by decide)) 3 2 rfl hD
        have q8_ : D 8 = false := not_yet (hcl.get 8 (by decide)) 0 7 rfl q7_
        have u0_ : upd D 2 0 = D 0 := rfl; have u1_ : upd D 2 1 = D 1 := rfl; have u2_ : upd D 2 2 = true := rfl; have u3_ : upd D 2 3 = D 3 := rfl; have u4_ : upd D 2 4 = D 4 := rfl; have u5_ : upd D 2 5 = D 5 := rfl; have u6_ : upd D 2 6 = D 6 := rfl; have u7_ : upd D 2 7 = D 7 := rfl; have u8_ : upd D 2 8 = D 8 := rfl
        simp only [hD, p1_, q3_, q6_, q7_, q8_, cnd_t, cnd_f, Asc_t, Asc_f] at ht hs
        subst ht
        refine s_idxJ (m := 1) 0 hk6_ (by decide) rfl (fun _ => rfl) rfl rfl rfl rfl rfl ?_
        show G _ _ _ _ [_, _, _, _, _, _, _, _, _, _, _, _, _, _, _, _, _, _, _, _, _, _, _, _, _, _, _, _, _, _] _
        exact hk _ _ ⟨v62, v64, O, (by simp only [u0_, u1_, u2_, u3_, u4_, u5_, u6_, u7_, u8_, p1_, q3_, q6_, q7_, q8_, cnd_t, cnd_f, Asc_t, Asc_f]), hs.cast (by first | rfl | simp only [List.take, List.drop, List.cons_append, List.nil_append, List.set_cons_zero, List.set_cons_succ, List.eraseIdx, u0_, u1_, u2_, u3_, u4_, u5_, u6_, u7_, u8_, p1_, q3_, q6_, q7_, q8_, cnd_t, cnd_f, Asc_t, Asc_f])⟩
       ·
        intro D t w hD hp hcl hI rest hk
        obtain ⟨v62, v64, O, ht, hs⟩ := hI
        obtain ⟨p2_, _⟩ := hp
        obtain ⟨p1_, _⟩ := (hcl.get 2 (by decide)) p2_
        have q6_ : D 6 = false := not_yet (hcl.get 6 (by decide)) 0 3 rfl hD
        have q7_ : D 7 = false := not_yet (hcl.get 7 (by decide)) 4 3 rfl hD
        have q8_ : D 8 = false := not_yet (hcl.get 8 (by decide)) 0 7 rfl q7_
        have u0_ : upd D 3 0 = D 0 := rfl; have u1_ : upd D 3 1 = D 1 := rfl; have u2_ : upd D 3 2 = D 2 := rfl; have u3_ : upd D 3 3 = true := rfl; have u4_ : upd D 3 4 = D 4 := rfl; have u5_ : upd D 3 5 = D 5 := rfl; have u6_ : upd D 3 6 = D 6 := rfl; have u7_ : upd D 3 7 = D 7 := rfl; have u8_ : upd D 3 8 = D 8 := rfl
        simp only [hD, p1_, p2_, q6_, q7_, q8_, cnd_t, cnd_f, Asc_t, Asc_f] at ht hs
        subst ht
        refine s_load1 rfl rfl (v := v49) rfl rfl (fun _ => rfl) (cells_load (hs.cells 7 rfl) 0 1 rfl) ?_
        show G _ _ _ _ [_, _, _, _, _, _, _, _, _, _, _, _, _, _, _, _, _, _, _, _, _, _, _, _, _, _, _, _, _, _] _
        exact hk _ _ ⟨v62, v64, O, (by simp only [u0_, u1_, u2_, u3_, u4_, u5_, u6_, u7_, u8_, p1_, p2_, q6_, q7_, q8_, cnd_t, cnd_f, Asc_t, Asc_f]), hs.cast (by first | rfl | simp only [List.take, List.drop, List.cons_append, List.nil_append, List.set_cons_zero, List.set_cons_succ, List.eraseIdx, u0_, u1_, u2_, u3_, u4_, u5_, u6_, u7_, u8_, p1_, p2_, q6_, q7_, q8_, cnd_t, cnd_f, Asc_t, Asc_f])⟩
       ·
        intro D t w hD hp hcl hI rest hk
        obtain ⟨v62, v64, O, ht, hs⟩ := hI
        have q5_ : D 5 = false := not_yet (hcl.get 5 (by decide)) 0 4 rfl hD
        have q6_ : D 6 = false := not_yet (hcl.get 6 (by decide)) 1 5 rfl q5_
        have q7_ : D 7 = false := not_yet (hcl.get 7 (by decide)) 5 4 rfl hD
        have q8_ : D 8 = false := not_yet (hcl.get 8 (by decide)) 0 7 rfl q7_
        have u0_ : upd D 4 0 = D 0 := rfl; have u1_ : upd D 4 1 = D 1 := rfl; have u2_ : upd D 4 2 = D 2 := rfl; have u3_ : upd D 4 3 = D 3 := rfl; have u4_ : upd D 4 4 = true := rfl; have u5_ : upd D 4 5 = D 5 := rfl; have u6_ : upd D 4 6 = D 6 := rfl; have u7_ : upd D 4 7 = D 7 := rfl; have u8_ : upd D 4 8 = D 8 := rfl
        simp only [hD, q5_, q6_, q7_, q8_, cnd_t, cnd_f, Asc_t, Asc_f] at ht hs
        subst ht
        refine s_loadA rfl rfl (es := (enc_S_impl_Case (rdL a2 x57 z_S_impl_Case))) rfl rfl (fun _ => rfl) (n := 2) (fun _ => rfl) (fk_S_impl_Case.len _) (cells_all (hs.cells 1 rfl)) ?_
        show G _ _ _ _ [_, _, _, _, _, _, _, _, _, _, _, _, _, _, _, _, _, _, _, _, _, _, _, _, _, _, _, _, _, _] _
        exact hk _ _ ⟨v62, v64, O, (by simp only [u0_, u1_, u2_, u3_, u4_, u5_, u6_, u7_, u8_, q5_, q6_, q7_, q8_, cnd_t, cnd_f, Asc_t, Asc_f]), hs.cast (by first | rfl | simp only [List.take, List.drop, List.cons_append, List.nil_append, List.set_cons_zero, List.set_cons_succ, List.eraseIdx, u0_, u1_, u2_, u3_, u4_, u5_, u6_, u7_, u8_, q5_, q6_, q7_, q8_, cnd_t, cnd_f, Asc_t, Asc_f])⟩
       ·
        intro D t w hD hp hcl hI rest hk
        obtain ⟨v62, v64, O, ht, hs⟩ := hI
        obtain ⟨p4_, _⟩ := hp
        have q6_ : D 6 = false := not_yet (hcl.get 6 (by decide)) 1 5 rfl hD
        have q7_ : D 7 = false := not_yet (hcl.get 7 (by decide)) 6 5 rfl hD
        have q8_ : D 8 = false := not_yet (hcl.get 8 (by decide)) 0 7 rfl q7_
        have u0_ : upd D 5 0 = D 0 := rfl; have u1_ : upd D 5 1 = D 1 := rfl; have u2_ : upd D 5 2 = D 2 := rfl; have u3_ : upd D 5 3 = D 3 := rfl; have u4_ : upd D 5 4 = D 4 := rfl; have u5_ : upd D 5 5 = true := rfl; have u6_ : upd D 5 6 = D 6 := rfl; have u7_ : upd D 5 7 = D 7 := rfl; have u8_ : upd D 5 8 = D 8 := rfl
        simp only [hD, p4_, q6_, q7_, q8_, cnd_t, cnd_f, Asc_t, Asc_f] at ht hs
        subst ht
        refine s_lit1 fk_S_impl_Case (y := rdL a2 x57 z_S_impl_Case) hs rfl rfl rfl rfl (fun _ => rfl) (zv := (Value.agg #[Value.int .i8 0, Value.bool false])) (fun _ => rfl) rfl (by decide) (by decide) rfl ?_
        intro v62 w hs
        show G _ _ _ _ [_, _, _, _, _, _, _, _, _, _, _, _, _, _, _, _, _, _, _, _, _, _, _, _, _, _, _, _, _, _] _
        have hs := hs.fill 0 rfl
        exact hk _ _ ⟨v62, v64, O, (by simp only [u0_, u1_, u2_, u3_, u4_, u5_, u6_, u7_, u8_, p4_, q6_, q7_, q8_, cnd_t, cnd_f, Asc_t, Asc_f]), hs.cast (by first | rfl | simp only [List.take, List.drop, List.cons_append, List.nil_append, List.set_cons_zero, List.set_cons_succ, List.eraseIdx, u0_, u1_, u2_, u3_, u4_, u5_, u6_, u7_, u8_, p4_, q6_, q7_, q8_, cnd_t, cnd_f, Asc_t, Asc_f])⟩
       ·
        intro D t w hD hp hcl hI rest hk
        obtain ⟨v62, v64, O, ht, hs⟩ := hI
        obtain ⟨p3_, p5_, _⟩ := hp
        obtain ⟨p4_, _⟩ := (hcl.get 5 (by decide)) p5_
        obtain ⟨p2_, _⟩ := (hcl.get 3 (by decide)) p3_
        obtain ⟨p1_, _⟩ := (hcl.get 2 (by decide)) p2_
        have q7_ : D 7 = false := not_yet (hcl.get 7 (by decide)) 7 6 rfl hD
        have q8_ : D 8 = false := not_yet (hcl.get 8 (by decide)) 0 7 rfl q7_
        have u0_ : upd D 6 0 = D 0 := rfl; have u1_ : upd D 6 1 = D 1 := rfl; have u2_ : upd D 6 2 = D 2 := rfl; have u3_ : upd D 6 3 = D 3 := rfl; have u4_ : upd D 6 4 = D 4 := rfl; have u5_ : upd D 6 5 = D 5 := rfl; have u6_ : upd D 6 6 = true := rfl; have u7_ : upd D 6 7 = D 7 := rfl; have u8_ : upd D 6 8 = D 8 := rfl
        simp only [hD, p1_, p2_, p3_, p4_, p5_, q7_, q8_, cnd_t, cnd_f, Asc_t, Asc_f] at ht hs
        subst ht
        have hs := hs.pull 4 rfl
        have hs : St _ [_, _, _, _, _, _, _, _] _ := hs
        refine s_append fk_S_impl_Case (zv := (Value.agg #[Value.int .i8 0, Value.bool false])) (B := 2) hs (hs.row 1 rfl) rfl rfl rfl rfl rfl rfl rfl rfl rfl (by decide) rfl rfl (by decide) (by have := gq6_; omega) ?_
        intro v64 w hs
        show G _ _ _ _ [_, _, _, _, _, _, _, _, _, _, _, _, _, _, _, _, _, _, _, _, _, _, _, _, _, _, _, _, _, _] _
        have hs := hs.push 4 (by simp)
        exact hk _ _ ⟨v62, v64, O, (by simp only [u0_, u1_, u2_, u3_, u4_, u5_, u6_, u7_, u8_, p1_, p2_, p3_, p4_, p5_, q7_, q8_, cnd_t, cnd_f, Asc_t, Asc_f]), hs.cast (by first | rfl | simp only [List.take, List.drop, List.cons_append, List.nil_append, List.set_cons_zero, List.set_cons_succ, List.eraseIdx, u0_, u1_, u2_, u3_, u4_, u5_, u6_, u7_, u8_, p1_, p2_, p3_, p4_, p5_, q7_, q8_, cnd_t, cnd_f, Asc_t, Asc_f])⟩
       ·
        intro D t w hD hp hcl hI rest hk
        obtain ⟨v62, v64, O, ht, hs⟩ := hI
        obtain ⟨p0_, _, p1_, p2_, p3_, p4_, p5_, p6_, _⟩ := hp
        have q8_ : D 8 = false := not_yet (hcl.get 8 (by decide)) 0 7 rfl hD
        have u0_ : upd D 7 0 = D 0 := rfl; have u1_ : upd D 7 1 = D 1 := rfl; have u2_ : upd D 7 2 = D 2 := rfl; have u3_ : upd D 7 3 = D 3 := rfl; have u4_ : upd D 7 4 = D 4 := rfl; have u5_ : upd D 7 5 = D 5 := rfl; have u6_ : upd D 7 6 = D 6 := rfl; have u7_ : upd D 7 7 = true := rfl; have u8_ : upd D 7 8 = D 8 := rfl
        simp only [hD, p0_, p1_, p2_, p3_, p4_, p5_, p6_, q8_, cnd_t, cnd_f, Asc_t, Asc_f] at ht hs
        subst ht
        refine s_idxJ (m := 1) 0 hk6_ (by decide) rfl (fun _ => rfl) rfl rfl rfl rfl rfl ?_
        show G _ _ _ _ [_, _, _, _, _, _, _, _, _, _, _, _, _, _, _, _, _, _, _, _, _, _, _, _, _, _, _, _, _, _] _
        exact hk _ _ ⟨v62, v64, O, (by simp only [u0_, u1_, u2_, u3_, u4_, u5_, u6_, u7_, u8_, p0_, p1_, p2_, p3_, p4_, p5_, p6_, q8_, cnd_t, cnd_f, Asc_t, Asc_f]), hs.cast (by first | rfl | simp only [List.take, List.drop, List.cons_append, List.nil_append, List.set_cons_zero, List.set_cons_succ, List.eraseIdx, u0_, u1_, u2_, u3_, u4_, u5_, u6_, u7_, u8_, p0_, p1_, p2_, p3_, p4_, p5_, p6_, q8_, cnd_t, cnd_f, Asc_t, Asc_f])⟩
       ·
        intro D t w hD hp hcl hI rest hk
        obtain ⟨v62, v64, O, ht, hs⟩ := hI
        obtain ⟨p7_, p6_, _, p0_, p1_, p2_, p3_, p4_, p5_, _, _⟩ := hp
        have u0_ : upd D 8 0 = D 0 := rfl; have u1_ : upd D 8 1 = D 1 := rfl; have u2_ : upd D 8 2 = D 2 := rfl; have u3_ : upd D 8 3 = D 3 := rfl; have u4_ : upd D 8 4 = D 4 := rfl; have u5_ : upd D 8 5 = D 5 := rfl; have u6_ : upd D 8 6 = D 6 := rfl; have u7_ : upd D 8 7 = D 7 := rfl; have u8_ : upd D 8 8 = true := rfl
        simp only [hD, p0_, p1_, p2_, p3_, p4_, p5_, p6_, p7_, cnd_t, cnd_f, Asc_t, Asc_f] at ht hs
        subst ht
        have hs := hs.pull 7 rfl
        have hs : St _ [_, _, _, _, _, _, _, _] _ := hs
        refine s_store hs rfl rfl (vs := [v64]) (cs' := (([v64, v52, v55] : List Value))) rfl rfl (slCells (hs.row 5 rfl)) (n := 1) (fun _ => rfl) rfl (by first | exact Nat.le_of_ble_eq_true rfl | simp [encA_len]) (by intro v hv; simp only [List.mem_cons, List.not_mem_nil, or_false] at hv; subst hv; exact slOne (hs.row 5 rfl)) rfl ?_
        intro w hs
        show G _ _ _ _ [_, _, _, _, _, _, _, _, _, _, _, _, _, _, _, _, _, _, _, _, _, _, _, _, _, _, _, _, _, _] _
        have hs := hs.push 7 (by simp)
        exact hk _ _ ⟨v62, v64, O, (by simp only [u0_, u1_, u2_, u3_, u4_, u5_, u6_, u7_, u8_, p0_, p1_, p2_, p3_, p4_, p5_, p6_, p7_, cnd_t, cnd_f, Asc_t, Asc_f]), hs.cast (by first | rfl | simp only [List.take, List.drop, List.cons_append, List.nil_append, List.set_cons_zero, List.set_cons_succ, List.eraseIdx, u0_, u1_, u2_, u3_, u4_, u5_, u6_, u7_, u8_, p0_, p1_, p2_, p3_, p4_, p5_, p6_, p7_, cnd_t, cnd_f, Asc_t, Asc_f])⟩
       ·
        intro D t w hall hI
        obtain ⟨v62, v64, O, ht, hs⟩ := hI
        have p0_ : D 0 = true := hall 0 (by decide)
        have p1_ : D 1 = true := hall 1 (by decide)
        have p2_ : D 2 = true := hall 2 (by decide)
        have p3_ : D 3 = true := hall 3 (by decide)
        have p4_ : D 4 = true := hall 4 (by decide)
        have p5_ : D 5 = true := hall 5 (by decide)
        have p6_ : D 6 = true := hall 6 (by decide)
        have p7_ : D 7 = true := hall 7 (by decide)
        have p8_ : D 8 = true := hall 8 (by decide)
        simp only [p0_, p1_, p2_, p3_, p4_, p5_, p6_, p7_, p8_, cnd_t, cnd_f, Asc_t, Asc_f] at ht hs
        subst ht
        refine g_inBlock ?_
        have hs := hs.pull 6 rfl
        have hs := hs.pull 6 rfl
        have hs := hs.pull 6 rfl
        have hs := hs.pull 7 rfl
        have hs := hs.pull 7 rfl
        have hs := hs.pull 7 rfl
        have hs : St _ [_, _, _, _, _, _] _ := St.take (Γ' := [_, _]) hs
        exact ha _ _ ⟨v64, x50 ++ ([rdL a2 x57 z_S_impl_Case]), v52, x53, v55, x56, H, rfl, hs⟩
      ·
       rw [if_neg hk6_] at H
       by_cases hk7_ : i64w (r61 + 1) = 1
       ·
        rw [if_pos hk7_] at H
        obtain ⟨gq6_, H⟩ := ite_get H
        refine g_name ?_
        intro T hT
        refine g_any (n := 9) rfl [0, 1, 2, 3, 4, 5, 6, 7, 8] [0, 1, 2, 3, 4, 5, 6, 7, 8] rfl rfl (Inv := fun D t w => ∃ v68 : Value, ∃ v70 : Value, ∃ O : Nat → Value, t = [O 0, O 1, Value.pointer (some ⟨b4, 0, none⟩), O 3, Value.pointer (some ⟨b6, 0, none⟩), Value.pointer (some ⟨b8, 0, none⟩), O 6, Value.pointer (some ⟨b59, 0, none⟩), Value.int .i64 (i64w (r61 + 1)), O 9, v3, Value.int .i64 (a2.length : Int), Value.int .i64 x57, Value.bool true, Value.pointer (some p58), Value.agg (enc_S_impl_Case (rdL a2 x57 z_S_impl_Case)).toArray, Value.agg ((encA (encI .i8)) a1).toArray, Value.agg (enc_S_impl_Case (rdL a2 x57 z_S_impl_Case)).toArray, Value.int .i64 r61, Value.int .i64 (i64w (r61 + 1)), cnd (D 0) (Value.int .i64 (i64w (r61 + 1))) (O 20), cnd (D 1) (Value.int .i64 (i64w (r61 + 1))) (O 21), cnd (D 2) (Value.pointer (some ⟨b8, 0 + 1 * 1, none⟩)) (O 22), cnd (D 3) v52 (O 23), cnd (D 4) (Value.agg (enc_S_impl_Case (rdL a2 x57 z_S_impl_Case)).toArray) (O 24), cnd (D 5) v68 (O 25), cnd (D 6) v70 (O 26), cnd (D 7) (Value.pointer (some ⟨b8, 0 + 1 * 1, none⟩)) (O 27), O 28, O 29] ∧ St w0 [Asc (D 5) (Row 84 k_S_impl_Case v68 ([rdL a2 x57 z_S_impl_Case])), Cells b59 (enc_S_impl_Case (rdL a2 x57 z_S_impl_Case)) 84, Cells b4 ((encA (encI .i8)) a1) 52, Cells b6 (([Value.slice none 0 0, Value.slice none 0 0, Value.slice none 0 0] : List Value)) 47, Row 84 k_S_impl_Case v49 x50, Row 84 k_S_impl_Case (cnd (D 6) v70 v52) (cnd (D 6) (x53 ++ ([rdL a2 x57 z_S_impl_Case])) x53), Row 84 k_S_impl_Case v55 x56, Cells b8 (cnd (D 8) (([v49, v70, v55] : List Value)) (([v49, v52, v55] : List Value))) 47] w) ?_ ⟨⟨⟨⟨⟨⟨⟨⟨⟨trivial, ?_⟩, ?_⟩, ?_⟩, ?_⟩, ?_⟩, ?_⟩, ?_⟩, ?_⟩, ?_⟩ ?_
        ·
         intro w hh hbw
         have hs := hs.samew hh hbw
         have hs := hs.emp
         exact ⟨undef, undef, fun i => T.getD i undef, (by subst hT; rfl), hs⟩
        ·
         intro D t w hD hp hcl hI rest hk
         obtain ⟨v68, v70, O, ht, hs⟩ := hI
         have q7_ : D 7 = false := not_yet (hcl.get 7 (by decide)) 0 0 rfl hD
         have q8_ : D 8 = false := not_yet (hcl.get 8 (by decide)) 0 7 rfl q7_
         have u0_ : upd D 0 0 = true := rfl; have u1_ : upd D 0 1 = D 1 := rfl; have u2_ : upd D 0 2 = D 2 := rfl; have u3_ : upd D 0 3 = D 3 := rfl; have u4_ : upd D 0 4 = D 4 := rfl; have u5_ : upd D 0 5 = D 5 := rfl; have u6_ : upd D 0 6 = D 6 := rfl; have u7_ : upd D 0 7 = D 7 := rfl; have u8_ : upd D 0 8 = D 8 := rfl
         simp only [hD, q7_, q8_, cnd_t, cnd_f, Asc_t, Asc_f] at ht hs
         subst ht
         refine g_op (v := Value.int .i64 (i64w (r61 + 1))) rfl rfl rfl ?_
         show G _ _ _ _ [_, _, _, _, _, _, _, _, _, _, _, _, _, _, _, _, _, _, _, _, _, _, _, _, _, _, _, _, _, _] _
         exact hk _ _ ⟨v68, v70, O, (by simp only [u0_, u1_, u2_, u3_, u4_, u5_, u6_, u7_, u8_, q7_, q8_, cnd_t, cnd_f, Asc_t, Asc_f]), hs.cast (by first | rfl | simp only [List.take, List.drop, List.cons_append, List.nil_append, List.set_cons_zero, List.set_cons_succ, List.eraseIdx, u0_, u1_, u2_, u3_, u4_, u5_, u6_, u7_, u8_, q7_, q8_, cnd_t, cnd_f, Asc_t, Asc_f])⟩
        ·
         intro D t w hD hp hcl hI rest hk
         obtain ⟨v68, v70, O, ht, hs⟩ := hI
         have q2_ : D 2 = false := not_yet (hcl.get 2 (by decide)) 0 1 rfl hD
         have q3_ : D 3 = false := not_yet (hcl.get 3 (by decide)) 0 2 rfl q2_
         have q6_ : D 6 = false := not_yet (hcl.get 6 (by decide)) 0 3 rfl q3_
         have q7_ : D 7 = false := not_yet (hcl.get 7 (by decide)) 2 1 rfl hD
         have q8_ : D 8 = false := not_yet (hcl.get 8 (by decide)) 0 7 rfl q7_
         have u0_ : upd D 1 0 = D 0 := rfl; have u1_ : upd D 1 1 = true := rfl; have u2_ : upd D 1 2 = D 2 := rfl; have u3_ : upd D 1 3 = D 3 := rfl; have u4_ : upd D 1 4 = D 4 := rfl; have u5_ : upd D 1 5 = D 5 := rfl; have u6_ : upd D 1 6 = D 6 := rfl; have u7_ : upd D 1 7 = D 7 := rfl; have u8_ : upd D 1 8 = D 8 := rfl
         simp only [hD, q2_, q3_, q6_, q7_, q8_, cnd_t, cnd_f, Asc_t, Asc_f] at ht hs
         subst ht
         refine g_op (v := Value.int .i64 (i64w (r61 + 1))) rfl rfl rfl ?_
         show G _ _ _ _ [_, _, _, _, _, _, _, _, _, _, _, _, _, _, _, _, _, _, _, _, _, _, _, _, _, _, _, _, _, _] _
         exact hk _ _ ⟨v68, v70, O, (by simp only [u0_, u1_, u2_, u3_, u4_, u5_, u6_, u7_, u8_, q2_, q3_, q6_, q7_, q8_, cnd_t, cnd_f, Asc_t, Asc_f]), hs.cast (by first | rfl | simp only [List.take, List.drop, List.cons_append, List.nil_append, List.set_cons_zero, List.set_cons_succ, List.eraseIdx, u0_, u1_, u2_, u3_, u4_, u5_, u6_, u7_, u8_, q2_, q3_, q6_, q7_, q8_, cnd_t, cnd_f, Asc_t, Asc_f])⟩
        ·
         intro D t w hD hp hcl hI rest hk
         obtain ⟨v68, v70, O, ht, hs⟩ := hI
         obtain ⟨p1_, _⟩ := hp
         have q3_ : D 3 = false := not_yet (hcl.get 3 (by decide)) 0 2 rfl hD
         have q6_ : D 6 = false := not_yet (hcl.get 6 (by decide)) 0 3 rfl q3_
         have q7_ : D 7 = false := not_yet (hcl.get 7 (by decide)) 3 2 rfl hD
         have q8_ : D 8 = false := not_yet (hcl.get 8 (by decide)) 0 7 rfl q7_
         have u0_ : upd D 2 0 = D 0 := rfl; have u1_ : upd D 2 1 = D 1 := rfl; have u2_ : upd D 2 2 = true := rfl; have u3_ : upd D 2 3 = D 3 := rfl; have u4_ : upd D 2 4 = D 4 := rfl; have u5_ : upd D 2 5 = D 5 := rfl; have u6_ : upd D 2 6 = D 6 := rfl; have u7_ : upd D 2 7 = D 7 := rfl; have u8_ : upd D 2 8 = D 8 := rfl
         simp only [hD, p1_, q3_, q6_, q7_, q8_, cnd_t, cnd_f, Asc_t, Asc_f] at ht hs
         subst ht
         refine s_idxJ (m := 1) 1 hk7_ (by decide) rfl (fun _ => rfl) rfl rfl rfl rfl rfl ?_
         show G _ _ _ _ [_, _, _, _, _, _, _, _, _, _, _, _, _, _, _, _, _, _, _, _, _, _, _, _, _, _, _, _, _, _] _
         exact hk _ _ ⟨v68, v70, O, (by simp only [u0_, u1_, u2_, u3_, u4_, u5_, u6_, u7_, u8_, p1_, q3_, q6_, q7_, q8_, cnd_t, cnd_f, Asc_t, Asc_f]), hs.cast (by first | rfl | simp only [List.take, List.drop, List.cons_append, List.nil_append, List.set_cons_zero, List.set_cons_succ, List.eraseIdx, u0_, u1_, u2_, u3_, u4_, u5_, u6_, u7_, u8_, p1_, q3_, q6_, q7_, q8_, cnd_t, cnd_f, Asc_t, Asc_f])⟩
        ·
         intro D t w hD hp hcl hI rest hk
         obtain ⟨v68, v70, O, ht, hs⟩ := hI
         obtain ⟨p2_, _⟩ := hp
         obtain ⟨p1_, _⟩ := (hcl.get 2 (by decide)) p2_
         have q6_ : D 6 = false := not_yet (hcl.get 6 (by decide)) 0 3 rfl hD
         have q7_ : D 7 = false := not_yet (hcl.get 7 (by decide)) 4 3 rfl hD
         have q8_ : D 8 = false := not_yet (hcl.get 8 (by decide)) 0 7 rfl q7_
         have u0_ : upd D 3 0 = D 0 := rfl; have u1_ : upd D 3 1 = D 1 := rfl; have u2_ : upd D 3 2 = D 2 := rfl; have u3_ : upd D 3 3 = true := rfl; have u4_ : upd D 3 4 = D 4 := rfl; have u5_ : upd D 3 5 = D 5 := rfl; have u6_ : upd D 3 6 = D 6 := rfl; have u7_ : upd D 3 7 = D 7 := rfl; have u8_ : upd D 3 8 = D 8 := rfl
         simp only [hD, p1_, p2_, q6_, q7_, q8_, cnd_t, cnd_f, Asc_t, Asc_f] at ht hs
         subst ht
         refine s_load1 rfl rfl (v := v52) rfl rfl (fun _ => rfl) (cells_load (hs.cells 7 rfl) 1 1 rfl) ?_
         show G _ _ _ _ [_, _, _, _, _, _, _, _, _, _, _, _, _, _, _, _, _, _, _, _, _, _, _, _, _, _, _, _, _, _] _
         exact hk _ _ ⟨v68, v70, O, (by simp only [u0_, u1_, u2_, u3_, u4_, u5_, u6_, u7_, u8_, p1_, p2_, q6_, q7_, q8_, cnd_t, cnd_f, Asc_t, Asc_f]), hs.cast (by first | rfl | simp only [List.take, List.drop, List.cons_append, List.nil_append, List.set_cons_zero, List.set_cons_succ, List.eraseIdx, u0_, u1_, u2_, u3_, u4_, u5_, u6_, u7_, u8_, p1_, p2_, q6_, q7_, q8_, cnd_t, cnd_f, Asc_t, Asc_f])⟩
        ·
         intro D t w hD hp hcl hI rest hk
         obtain ⟨v68, v70, O, ht, hs⟩ := hI
         have q5_ : D 5 = false := not_yet (hcl.get 5 (by decide)) 0 4 rfl hD
         have q6_ : D 6 = false := not_yet (hcl.get 6 (by decide)) 1 5 rfl q5_
         have q7_ : D 7 = false := not_yet (hcl.get 7 (by decide)) 5 4 rfl hD
         have q8_ : D 8 = false := not_yet (hcl.get 8 (by decide)) 0 7 rfl q7_
         have u0_ : upd D 4 0 = D 0 := rfl; have u1_ : upd D 4 1 = D 1 := rfl; have u2_ : upd D 4 2 = D 2 := rfl; have u3_ : upd D 4 3 = D 3 := rfl; have u4_ : upd D 4 4 = true := rfl; have u5_ : upd D 4 5 = D 5 := rfl; have u6_ : upd D 4 6 = D 6 := rfl; have u7_ : upd D 4 7 = D 7 := rfl; have u8_ : upd D 4 8 = D 8 := rfl
         simp only [hD, q5_, q6_, q7_, q8_, cnd_t, cnd_f, Asc_t, Asc_f] at ht hs
         subst ht
         refine s_loadA rfl rfl (es := (enc_S_impl_Case (rdL a2 x57 z_S_impl_Case))) rfl rfl (fun _ => rfl) (n := 2) (fun _ => rfl) (fk_S_impl_Case.len _) (cells_all (hs.cells 1 rfl)) ?_
         show G _ _ _ _ [_, _, _, _, _, _, _, _, _, _, _, _, _, _, _, _, _, _, _, _, _, _, _, _, _, _, _, _, _, _] _
         exact hk _ _ ⟨v68, v70, O, (by simp only [u0_, u1_, u2_, u3_, u4_, u5_, u6_, u7_, u8_, q5_, q6_, q7_, q8_, cnd_t, cnd_f, Asc_t, Asc_f]), hs.cast (by first | rfl | simp only [List.take, List.drop, List.cons_append, List.nil_append, List.set_cons_zero, List.set_cons_succ, List.eraseIdx, u0_, u1_, u2_, u3_, u4_, u5_, u6_, u7_, u8_, q5_, q6_, q7_, q8_, cnd_t, cnd_f, Asc_t, Asc_f])⟩
        ·
         intro D t w hD hp hcl hI rest hk
         obtain ⟨v68, v70, O, ht, hs⟩ := hI
         obtain ⟨p4_, _⟩ := hp
         have q6_ : D 6 = false := not_yet (hcl.get 6 (by decide)) 1 5 rfl hD
         have q7_ : D 7 = false := not_yet (hcl.get 7 (by decide)) 6 5 rfl hD
         have q8_ : D 8 = false := not_yet (hcl.get 8 (by decide)) 0 7 rfl q7_
         have u0_ : upd D 5 0 = D 0 := rfl; have u1_ : upd D 5 1 = D 1 := rfl; have u2_ : upd D 5 2 = D 2 := rfl; have u3_ : upd D 5 3 = D 3 := rfl; have u4_ : upd D 5 4 = D 4 := rfl; have u5_ : upd D 5 5 = true := rfl; have u6_ : upd D 5 6 = D 6 := rfl; have u7_ : upd D 5 7 = D 7 := rfl; have u8_ : upd D 5 8 = D 8 := rfl
         simp only [hD, p4_, q6_, q7_, q8_, cnd_t, cnd_f, Asc_t, Asc_f] at ht hs
         subst ht
         refine s_lit1 fk_S_impl_Case (y := rdL a2 x57 z_S_impl_Case) hs rfl rfl rfl rfl (fun _ => rfl) (zv := (Value.agg #[Value.int .i8 0, Value.bool false])) (fun _ => rfl) rfl (by decide) (by decide) rfl ?_
         intro v68 w hs
         show G _ _ _ _ [_, _, _, _, _, _, _, _, _, _, _, _, _, _, _, _, _, _, _, _, _, _, _, _, _, _, _, _, _, _] _
         have hs := hs.fill 0 rfl
         exact hk _ _ ⟨v68, v70, O, (by simp only [u0_, u1_, u2_, u3_, u4_, u5_, u6_, u7_, u8_, p4_, q6_, q7_, q8_, cnd_t, cnd_f, Asc_t, Asc_f]), hs.cast (by first | rfl | simp only [List.take, List.drop, List.cons_append, List.nil_append, List.set_cons_zero, List.set_cons_succ, List.eraseIdx, u0_, u1_, u2_, u3_, u4_, u5_, u6_, u7_, u8_, p4_, q6_, q7_, q8_, cnd_t, cnd_f, Asc_t, Asc_f])⟩
        ·
         intro D t w hD hp hcl hI rest hk
         obtain ⟨v68, v70, O, ht, hs⟩ := hI
         obtain ⟨p3_, p5_, _⟩ := hp
         obtain ⟨p4_, _⟩ := (hcl.get 5 (by decide)) p5_
         obtain ⟨p2_, _⟩ := (hcl.get 3 (by decide)) p3_
         obtain ⟨p1_, _⟩ := (hcl.get 2 (by decide)) p2_
         have q7_ : D 7 = false := not_yet (hcl.get 7 (by decide)) 7 6 rfl hD
         have q8_ : D 8 = false := not_yet (hcl.get 8 (by decide)) 0 7 rfl q7_
         have u0_ : upd D 6 0 = D 0 := rfl; have u1_ : upd D 6 1 = D 1 := rfl; have u2_ : upd D 6 2 = D 2 := rfl; have u3_ : upd D 6 3 = D 3 := rfl; have u4_ : upd D 6 4 = D 4 := rfl; have u5_ : upd D 6 5 = D 5 := rfl; have u6_ : upd D 6 6 = true := rfl; have u7_ : upd D 6 7 = D 7 := rfl; have u8_ : upd D 6 8 = D 8 := rfl
         simp only [hD, p1_, p2_, p3_, p4_, p5_, q7_, q8_, cnd_t, cnd_f, Asc_t, Asc_f] at ht hs
         subst ht
         have hs := hs.pull 5 rfl
         have hs : St _ [_, _, _, _, _, _, _, _] _ := hs
         refine s_append fk_S_impl_Case (zv := (Value.agg #[Value.int .i8 0, Value.bool false])) (B := 2) hs (hs.row 1 rfl) rfl rfl rfl rfl rfl rfl rfl rfl rfl (by decide) rfl rfl (by decide) (by have := gq6_; omega) ?_
         intro v70 w hs
         show G _ _ _ _ [_, _, _, _, _, _, _, _, _, _, _, _, _, _, _, _, _, _, _, _, _, _, _, _, _, _, _, _, _, _] _
         have hs := hs.push 5 (by simp)
         exact hk _ _ ⟨v68, v70, O, (by simp only [u0_, u1_, u2_, u3_, u4_, u5_, u6_, u7_, u8_, p1_, p2_, p3_, p4_, p5_, q7_, q8_, cnd_t, cnd_f, Asc_t, Asc_f]), hs.cast (by first | rfl | simp only [List.take, List.drop, List.cons_append, List.nil_append, List.set_cons_zero, List.set_cons_succ, List.eraseIdx, u0_, u1_, u2_, u3_, u4_, u5_, u6_, u7_, u8_, p1_, p2_, p3_, p4_, p5_, q7_, q8_, cnd_t, cnd_f, Asc_t, Asc_f])⟩
        ·
         intro D t w hD hp hcl hI rest hk
         obtain ⟨v68, v70, O, ht, hs⟩ := hI
         obtain ⟨p0_, _, p1_, p2_, p3_, p4_, p5_, p6_, _⟩ := hp
         have q8_ : D 8 = false := not_yet (hcl.get 8 (by decide)) 0 7 rfl hD
         have u0_ : upd D 7 0 = D 0 := rfl; have u1_ : upd D 7 1 = D 1 := rfl; have u2_ : upd D 7 2 = D 2 := rfl; have u3_ : upd D 7 3 = D 3 := rfl; have u4_ : upd D 7 4 = D 4 := rfl; have u5_ : upd D 7 5 = D 5 := rfl; have u6_ : upd D 7 6 = D 6 := rfl; have u7_ : upd D 7 7 = true := rfl; have u8_ : upd D 7 8 = D 8 := rfl
         simp only [hD, p0_, p1_, p2_, p3_, p4_, p5_, p6_, q8_, cnd_t, cnd_f, Asc_t, Asc_f] at ht hs
         subst ht
         refine s_idxJ (m := 1) 1 hk7_ (by decide) rfl (fun _ => rfl) rfl rfl rfl rfl rfl ?_
         show G _ _ _ _ [_, _, _, _, _, _, _, _, _, _, _, _, _, _, _, _, _, _, _, _, _, _, _, _, _, _, _, _, _, _] _
         exact hk _ _ ⟨v68, v70, O, (by simp only [u0_, u1_, u2_, u3_, u4_, u5_, u6_, u7_, u8_, p0_, p1_, p2_, p3_, p4_, p5_, p6_, q8_, cnd_t, cnd_f, Asc_t, Asc_f]), hs.cast (by first | rfl | simp only [List.take, List.drop, List.cons_append, List.nil_append, List.set_cons_zero, List.set_cons_succ, List.eraseIdx, u0_, u1_, u2_, u3_, u4_, u5_, u6_, u7_, u8_, p0_, p1_, p2_, p3_, p4_, p5_, p6_, q8_, cnd_t, cnd_f, Asc_t, Asc_f])⟩
        ·
         intro D t w hD hp hcl hI rest hk
         obtain ⟨v68, v70, O, ht, hs⟩ := hI
         obtain ⟨p7_, p6_, _, p0_, p1_, p2_, p3_, p4_, p5_, _, _⟩ := hp
         have u0_ : upd D 8 0 = D 0 := rfl; have u1_ : upd D 8 1 = D 1 := rfl; have u2_ : upd D 8 2 = D 2 := rfl; have u3_ : upd D 8 3 = D 3 := rfl; have u4_ : upd D 8 4 = D 4 := rfl; have u5_ : upd D 8 5 = D 5 := rfl; have u6_ : upd D 8 6 = D 6 := rfl; have u7_ : upd D 8 7 = D 7 := rfl; have u8_ : upd D 8 8 = true := rfl
         simp only [hD, p0_, p1_, p2_, p3_, p4_, p5_, p6_, p7_, cnd_t, cnd_f, Asc_t, Asc_f] at ht hs
         subst ht
         have hs := hs.pull 7 rfl
         have hs : St _ [_, _, _, _, _, _, _, _] _ := hs
         refine s_store hs rfl rfl (vs := [v70]) (cs' := (([v49, v70, v55] : List Value))) rfl rfl (slCells (hs.row 6 rfl)) (n := 1) (fun _ => rfl) rfl (by first | exact Nat.le_of_ble_eq_true rfl | simp [encA_len]) (by intro v hv; simp only [List.mem_cons, List.not_mem_nil, or_false] at hv; subst hv; exact slOne (hs.row 6 rfl)) rfl ?_
         intro w hs
         show G _ _ _ _ [_, _, _, _, _, _, _, _, _, _, _, _, _, _, _, _, _, _, _, _, _, _, _, _, _, _, _, _, _, _] _
         have hs := hs.push 7 (by simp)
         exact hk _ _ ⟨v68, v70, O, (by simp only [u0_, u1_, u2_, u3_, u4_, u5_, u6_, u7_, u8_, p0_, p1_, p2_, p3_, p4_, p5_, p6_, p7_, cnd_t, cnd_f, Asc_t, Asc_f]), hs.cast (by first | rfl | simp only [List.take, List.drop, List.cons_append, List.nil_append, List.set_cons_zero, List.set_cons_succ, List.eraseIdx, u0_, u1_, u2_, u3_, u4_, u5_, u6_, u7_, u8_, p0_, p1_, p2_, p3_, p4_, p5_, p6_, p7_, cnd_t, cnd_f, Asc_t, Asc_f])⟩
        ·
         intro D t w hall hI
         obtain ⟨v68, v70, O, ht, hs⟩ := hI
         have p0_ : D 0 = true := hall 0 (by decide)
         have p1_ : D 1 = true := hall 1 (by decide)
         have p2_ : D 2 = true := hall 2 (by decide)
         have p3_ : D 3 = true := hall 3 (by decide)
         have p4_ : D 4 = true := hall 4 (by decide)
         have p5_ : D 5 = true := hall 5 (by decide)
         have p6_ : D 6 = true := hall 6 (by decide)
         have p7_ : D 7 = true := hall 7 (by decide)
         have p8_ : D 8 = true := hall 8 (by decide)
         simp only [p0_, p1_, p2_, p3_, p4_, p5_, p6_, p7_, p8_, cnd_t, cnd_f, Asc_t, Asc_f] at ht hs
         subst ht
         refine g_inBlock ?_
         have hs := hs.pull 6 rfl
         have hs := hs.pull 6 rfl
         have hs := hs.pull 6 rfl
         have hs := hs.pull 7 rfl
         have hs := hs.pull 7 rfl
         have hs := hs.pull 7 rfl
         have hs : St _ [_, _, _, _, _, _] _ := St.take (Γ' := [_, _]) hs
         exact ha _ _ ⟨v49, x50, v70, x53 ++ ([rdL a2 x57 z_S_impl_Case]), v55, x56, H, rfl, hs⟩
       ·
        rw [if_neg hk7_] at H
        by_cases hk8_ : i64w (r61 + 1) = 2
        ·
         rw [if_pos hk8_] at H
         obtain ⟨gq6_, H⟩ := ite_get H
         refine g_name ?_
         intro T hT
         refine g_any (n := 9) rfl [0, 1, 2, 3, 4, 5, 6, 7, 8] [0, 1, 2, 3, 4, 5, 6, 7, 8] rfl rfl (Inv := fun D t w => ∃ v74 : Value, ∃ v76 : Value, ∃ O : Nat → Value, t = [O 0, O 1, Value.pointer (some ⟨b4, 0, none⟩), O 3, Value.pointer (some ⟨b6, 0, none⟩), Value.pointer (some ⟨b8, 0, none⟩), O 6, Value.pointer (some ⟨b59, 0, none⟩), Value.int .i64 (i64w (r61 + 1)), O 9, v3, Value.int .i64 (a2.length : Int), Value.int .i64 x57, Value.bool true, Value.pointer (some p58), Value.agg (enc_S_impl_Case (rdL a2 x57 z_S_impl_Case)).toArray, Value.agg ((encA (encI .i8)) a1).toArray, Value.agg (enc_S_impl_Case (rdL a2 x57 z_S_impl_Case)).toArray, Value.int .i64 r61, Value.int .i64 (i64w (r61 + 1)), cnd (D 0) (Value.int .i64 (i64w (r61 + 1))) (O 20), cnd (D 1) (Value.int .i64 (i64w (r61 + 1))) (O 21), cnd (D 2) (Value.pointer (some ⟨b8, 0 + 2 * 1, none⟩)) (O 22), cnd (D 3) v55 (O 23), cnd (D 4) (Value.agg (enc_S_impl_Case (rdL a2 x57 z_S_impl_Case)).toArray) (O 24), cnd (D 5) v74 (O 25), cnd (D 6) v76 (O 26), cnd (D 7) (Value.pointer (some ⟨b8, 0 + 2 * 1, none⟩)) (O 27), O 28, O 29] ∧ St w0 [Asc (D 5) (Row 84 k_S_impl_Case v74 ([rdL a2 x57 z_S_impl_Case])), Cells b59 (enc_S_impl_Case (rdL a2 x57 z_S_impl_Case)) 84, Cells b4 ((encA (encI .i8)) a1) 52, Cells b6 (([Value.slice none 0 0, Value.slice none 0 0, Value.slice none 0 0] : List Value)) 47, Row 84 k_S_impl_Case v49 x50, Row 84 k_S_impl_Case v52 x53, Row 84 k_S_impl_Case (cnd (D 6) v76 v55) (cnd (D 6) (x56 ++ ([rdL a2 x57 z_S_impl_Case])) x56), Cells b8 (cnd (D 8) (([v49, v52, v76] : List Value)) (([v49, v52, v55] : List Value))) 47] w) ?_ ⟨⟨⟨⟨⟨⟨⟨⟨⟨trivial, ?_⟩, ?_⟩, ?_⟩, ?_⟩, ?_⟩, ?_⟩, ?_⟩, ?_⟩, ?_⟩ ?_
         ·
          intro w hh hbw
          have hs := hs.samew hh hbw
          have hs := hs.emp
          exact ⟨undef, undef, fun i => T.getD i undef, (by subst hT; rfl), hs⟩
         ·
          intro D t w hD hp hcl hI rest hk
          obtain ⟨v74, v76, O, ht, hs⟩ := hI
          have q7_ : D 7 = false := not_yet (hcl.get 7 (by decide)) 0 0 rfl hD
          have q8_ : D 8 = false := not_yet (hcl.get 8 (by decide)) 0 7 rfl q7_
          have u0_ : upd D 0 0 = true := rfl; have u1_ : upd D 0 1 = D 1 := rfl; have u2_ : upd D 0 2 = D 2 := rfl; have u3_ : upd D 0 3 = D 3 := rfl; have u4_ : upd D 0 4 = D 4 := rfl; have u5_ : upd D 0 5 = D 5 := rfl; have u6_ : upd D 0 6 = D 6 := rfl; have u7_ : upd D 0 7 = D 7 := rfl; have u8_ : upd D 0 8 = D 8 := rfl
          simp only [hD, q7_, q8_, cnd_t, cnd_f, Asc_t, Asc_f] at ht hs
          subst ht
          refine g_op (v := Value.int .i64 (i64w (r61 + 1))) rfl rfl rfl ?_
          show G _ _ _ _ [_, _, _, _, _, _, _, _, _, _, _, _, _, _, _, _, _, _, _, _, _, _, _, _, _, _, _, _, _, _] _
          exact hk _ _ ⟨v74, v76, O, (by simp only [u0_, u1_, u2_, u3_, u4_, u5_, u6_, u7_, u8_, q7_, q8_, cnd_t, cnd_f, Asc_t, Asc_f]), hs.cast (by first | rfl | simp only [List.take, List.drop, List.cons_append, List.nil_append, List.set_cons_zero, List.set_cons_succ, List.eraseIdx, u0_, u1_, u2_, u3_, u4_, u5_, u6_, u7_, u8_, q7_, q8_, cnd_t, cnd_f, Asc_t, Asc_f])⟩
         ·
          intro D t w hD hp hcl hI rest hk
          obtain ⟨v74, v76, O, ht, hs⟩ := hI
          have q2_ : D 2 = false := not_yet (hcl.get 2 (by decide)) 0 1 rfl hD
          have q3_ : D 3 = false := not_yet (hcl.get 3 (by decide)) 0 2 rfl q2_
          have q6_ : D 6 = false := not_yet (hcl.get 6 (by decide)) 0 3 rfl q3_
          have q7_ : D 7 = false := not_yet (hcl.get 7 (by decide)) 2 1 rfl hD
          have q8_ : D 8 = false := not_yet (hcl.get 8 (by decide)) 0 7 rfl q7_
          have u0_ : upd D 1 0 = D 0 := rfl; have u1_ : upd D 1 1 = true := rfl; have u2_ : upd D 1 2 = D 2 := rfl; have u3_ : upd D 1 3 = D 3 := rfl; have u4_ : upd D 1 4 = D 4 := rfl; have u5_ : upd D 1 5 = D 5 := rfl; have u6_ : upd D 1 6 = D 6 := rfl; have u7_ : upd D 1 7 = D 7 := rfl; have u8_ : upd D 1 8 = D 8 := rfl
          simp only [hD, q2_, q3_, q6_, q7_, q8_, cnd_t, cnd_f, Asc_t, Asc_f] at ht hs
          subst ht
          refine g_op (v := Value.int .i64 (i64w (r61 + 1))) rfl rfl rfl ?_
          show G _ _ _ _ [_, _, _, _, _, _, _, _, _, _, _, _, _, _, _, _, _, _, _, _, _, _, _, _, _, _, _, _, _, _] _
          exact hk _ _ ⟨v74, v76, O, (by simp only [u0_, u1_, u2_, u3_, u4_, u5_, u6_, u7_, u8_, q2_, q3_, q6_, q7_, q8_, cnd_t, cnd_f, Asc_t, Asc_f]), hs.cast (by first | rfl | simp only [List.take, List.drop, List.cons_append, List.nil_append, List.set_cons_zero, List.set_cons_succ, List.eraseIdx, u0_, u1_, u2_, u3_, u4_, u5_, u6_, u7_, u8_, q2_, q3_, q6_, q7_, q8_, cnd_t, cnd_f, Asc_t, Asc_f])⟩
         ·
          intro D t w hD hp hcl hI rest hk
          obtain ⟨v74, v76, O, ht, hs⟩ := hI
          obtain ⟨p1_, _⟩ := hp
          have q3_ : D 3 = false := not_yet (hcl.get 3 (by decide)) 0 2 rfl hD
          have q6_ : D 6 = false := not_yet (hcl.get 6 (by decide)) 0 3 rfl q3_
          have q7_ : D 7 = false := not_yet (hcl.get 7 (by decide)) 3 2 rfl hD
          have q8_ : D 8 = false := not_yet (hcl.get 8 (by decide)) 0 7 rfl q7_
          have u0_ : upd D 2 0 = D 0 := rfl; have u1_ : upd D 2 1 = D 1 := rfl; have u2_ : upd D 2 2 = true := rfl; have u3_ : upd D 2 3 = D 3 := rfl; have u4_ : upd D 2 4 = D 4 := rfl; have u5_ : upd D 2 5 = D 5 := rfl; have u6_ : upd D 2 6 = D 6 := rfl; have u7_ : upd D 2 7 = D 7 := rfl; have u8_ : upd D 2 8 = D 8 := rfl
          simp only [hD, p1_, q3_, q6_, q7_, q8_, cnd_t, cnd_f, Asc_t, Asc_f] at ht hs
          subst ht
          refine s_idxJ (m := 1) 2 hk8_ (by decide) rfl (fun _ => rfl) rfl rfl rfl rfl rfl ?_
          show G _ _ _ _ [_, _, _, _, _, _, _, _, _, _, _, _, _, _, _, _, _, _, _, _, _, _, _, _, _, _, _, _, _, _] _
          exact hk _ _ ⟨v74, v76, O, (by simp only [u0_, u1_, u2_, u3_, u4_, u5_, u6_, u7_, u8_, p1_, q3_, q6_, q7_, q8_, cnd_t, cnd_f, Asc_t, Asc_f]), hs.cast (by first | rfl | simp only [List.take, List.drop, List.cons_append, List.nil_append, List.set_cons_zero, List.set_cons_succ, List.eraseIdx, u0_, u1_, u2_, u3_, u4_, u5_, u6_, u7_, u8_, p1_, q3_, q6_, q7_, q8_, cnd_t, cnd_f, Asc_t, Asc_f])⟩
         ·
          intro D t w hD hp hcl hI rest hk
          obtain ⟨v74, v76, O, ht, hs⟩ := hI
          obtain ⟨p2_, _⟩ := hp
          obtain ⟨p1_, _⟩ := (hcl.get 2 (by decide)) p2_
          have q6_ : D 6 = false := not_yet (hcl.get 6 (by decide)) 0 3 rfl hD
          have q7_ : D 7 = false := not_yet (hcl.get 7 (by decide)) 4 3 rfl hD
          have q8_ : D 8 = false := not_yet (hcl.get 8 (by decide)) 0 7 rfl q7_
          have u0_ : upd D 3 0 = D 0 := rfl; have u1_ : upd D 3 1 = D 1 := rfl; have u2_ : upd D 3 2 = D 2 := rfl; have u3_ : upd D 3 3 = true := rfl; have u4_ : upd D 3 4 = D 4 := rfl; have u5_ : upd D 3 5 = D 5 := rfl; have u6_ : upd D 3 6 = D 6 := rfl; have u7_ : upd D 3 7 = D 7 := rfl; have u8_ : upd D 3 8 = D 8 := rfl
          simp only [hD, p1_, p2_, q6_, q7_, q8_, cnd_t, cnd_f, Asc_t, Asc_f] at ht hs
          subst ht
          refine s_load1 rfl rfl (v := v55) rfl rfl (fun _ => rfl) (cells_load (hs.cells 7 rfl) 2 1 rfl) ?_
          show G _ _ _ _ [_, _, _, _, _, _, _, _, _, _, _, _, _, _, _, _, _, _, _, _, _, _, _, _, _, _, _, _, _, _] _
          exact hk _ _ ⟨v74, v76, O, (by simp only [u0_, u1_, u2_, u3_, u4_, u5_, u6_, u7_, u8_, p1_, p2_, q6_, q7_, q8_, cnd_t, cnd_f, Asc_t, Asc_f]), hs.cast (by first | rfl | simp only [List.take, List.drop, List.cons_append, List.nil_append, List.set_cons_zero, List.set_cons_succ, List.eraseIdx, u0_, u1_, u2_, u3_, u4_, u5_, u6_, u7_, u8_, p1_, p2_, q6_, q7_, q8_, cnd_t, cnd_f, Asc_t, Asc_f])⟩
         ·
          intro D t w hD hp hcl hI rest hk
          obtain ⟨v74, v76, O, ht, hs⟩ := hI
          have q5_ : D 5 = false := not_yet (hcl.get 5 (by decide)) 0 4 rfl hD
          have q6_ : D 6 = false := not_yet (hcl.get 6 (by decide)) 1 5 rfl q5_
          have q7_ : D 7 = false := not_yet (hcl.get 7 (by decide)) 5 4 rfl hD
          have q8_ : D 8 = false := not_yet (hcl.get 8 (by decide)) 0 7 rfl q7_
          have u0_ : upd D 4 0 = D 0 := rfl; have u1_ : upd D 4 1 = D 1 := rfl; have u2_ : upd D 4 2 = D 2 := rfl; have u3_ : upd D 4 3 = D 3 := rfl; have u4_ : upd D 4 4 = true := rfl; have u5_ : upd D 4 5 = D 5 := rfl; have u6_ : upd D 4 6 = D 6 := rfl; have u7_ : upd D 4 7 = D 7 := rfl; have u8_ : upd D 4 8 = D 8 := rfl
          simp only [hD, q5_, q6_, q7_, q8_, cnd_t, cnd_f, Asc_t, Asc_f] at ht hs
          subst ht
          refine s_loadA rfl rfl (es := (enc_S_impl_Case (rdL a2 x57 z_S_impl_Case))) rfl rfl (fun _ => rfl) (n := 2) (fun _ => rfl) (fk_S_impl_Case.len _) (cells_all (hs.cells 1 rfl)) ?_
          show G _ _ _ _ [_, _, _, _, _, _, _, _, _, _, _, _, _, _, _, _, _, _, _, _, _, _, _, _, _, _, _, _, _, _] _
          exact hk _ _ ⟨v74, v76, O, (by simp only [u0_, u1_, u2_, u3_, u4_, u5_, u6_, u7_, u8_, q5_, q6_, q7_, q8_, cnd_t, cnd_f, Asc_t, Asc_f]), hs.cast (by first | rfl | simp only [List.take, List.drop, List.cons_append, List.nil_append, List.set_cons_zero, List.set_cons_succ, List.eraseIdx, u0_, u1_, u2_, u3_, u4_, u5_, u6_, u7_, u8_, q5_, q6_, q7_, q8_, cnd_t, cnd_f, Asc_t, Asc_f])⟩
         ·
          intro D t w hD hp hcl hI rest hk
          obtain ⟨v74, v76, O, ht, hs⟩ := hI
          obtain ⟨p4_, _⟩ := hp
          have q6_ : D 6 = false := not_yet (hcl.get 6 (by decide)) 1 5 rfl hD
          have q7_ : D 7 = false := not_yet (hcl.get 7 (by decide)) 6 5 rfl hD
          have q8_ : D 8 = false := not_yet (hcl.get 8 (by decide)) 0 7 rfl q7_
          have u0_ : upd D 5 0 = D 0 := rfl; have u1_ : upd D 5 1 = D 1 := rfl; have u2_ : upd D 5 2 = D 2 := rfl; have u3_ : upd D 5 3 = D 3 := rfl; have u4_ : upd D 5 4 = D 4 := rfl; have u5_ : upd D 5 5 = true := rfl; have u6_ : upd D 5 6 = D 6 := rfl; have u7_ : upd D 5 7 = D 7 := rfl; have u8_ : upd D 5 8 = D 8 := rfl
          simp only [hD, p4_, q6_, q7_, q8_, cnd_t, cnd_f, Asc_t, Asc_f] at ht hs
          subst ht
          refine s_lit1 fk_S_impl_Case (y := rdL a2 x57 z_S_impl_Case) hs rfl rfl rfl rfl (fun _ => rfl) (zv := (Value.agg #[Value.int .i8 0, Value.bool false])) (fun _ => rfl) rfl (by decide) (by decide) rfl ?_
          intro v74 w hs
          show G _ _ _ _ [_, _, _, _, _, _, _, _, _, _, _, _, _, _, _, _, _, _, _, _, _, _, _, _, _, _, _, _, _, _] _
          have hs := hs.fill 0 rfl
          exact hk _ _ ⟨v74, v76, O, (by simp only [u0_, u1_, u2_, u3_, u4_, u5_, u6_, u7_, u8_, p4_, q6_, q7_, q8_, cnd_t, cnd_f, Asc_t, Asc_f]), hs.cast (by first | rfl | simp only [List.take, List.drop, List.cons_append, List.nil_append, List.set_cons_zero, List.set_cons_succ, List.eraseIdx, u0_, u1_, u2_, u3_, u4_, u5_, u6_, u7_, u8_, p4_, q6_, q7_, q8_, cnd_t, cnd_f, Asc_t, Asc_f])⟩
         ·
          intro D t w hD hp hcl hI rest hk
          obtain ⟨v74, v76, O, ht, hs⟩ := hI
          obtain ⟨p3_, p5_, _⟩ := hp
          obtain ⟨p4_, _⟩ := (hcl.get 5 (by decide)) p5_
          obtain ⟨p2_, _⟩ := (hcl.get 3 (by decide)) p3_
          obtain ⟨p1_, _⟩ := (hcl.get 2 (by decide)) p2_
          have q7_ : D 7 = false := not_yet (hcl.get 7 (by decide)) 7 6 rfl hD
          have q8_ : D 8 = false := not_yet (hcl.get 8 (by decide)) 0 7 rfl q7_
          have u0_ : upd D 6 0 = D 0 := rfl; have u1_ : upd D 6 1 = D 1 := rfl; have u2_ : upd D 6 2 = D 2 := rfl; have u3_ : upd D 6 3 = D 3 := rfl; have u4_ : upd D 6 4 = D 4 := rfl; have u5_ : upd D 6 5 = D 5 := rfl; have u6_ : upd D 6 6 = true := rfl; have u7_ : upd D 6 7 = D 7 := rfl; have u8_ : upd D 6 8 = D 8 := rfl
          simp only [hD, p1_, p2_, p3_, p4_, p5_, q7_, q8_, cnd_t, cnd_f, Asc_t, Asc_f] at ht hs
          subst ht
          have hs := hs.pull 6 rfl
          have hs : St _ [_, _, _, _, _, _, _, _] _ := hs
          refine s_append fk_S_impl_Case (zv := (Value.agg #[Value.int .i8 0, Value.bool false])) (B := 2) hs (hs.row 1 rfl) rfl rfl rfl rfl rfl rfl rfl rfl rfl (by decide) rfl rfl (by decide) (by have := gq6_; omega) ?_
          intro v76 w hs
          show G _ _ _ _ [_, _, _, _, _, _, _, _, _, _, _, _, _, _, _, _, _, _, _, _, _, _, _, _, _, _, _, _, _, _] _
          have hs := hs.push 6 (by simp)
          exact hk _ _ ⟨v74, v76, O, (by simp only [u0_, u1_, u2_, u3_, u4_, u5_, u6_, u7_, u8_, p1_, p2_, p3_, p4_, p5_, q7_, q8_, cnd_t, cnd_f, Asc_t, Asc_f]), hs.cast (by first | rfl | simp only [List.take, List.drop, List.cons_append, List.nil_append, List.set_cons_zero, List.set_cons_succ, List.eraseIdx, u0_, u1_, u2_, u3_, u4_, u5_, u6_, u7_, u8_, p1_, p2_, p3_, p4_, p5_, q7_, q8_, cnd_t, cnd_f, Asc_t, Asc_f])⟩
         ·
          intro D t w hD hp hcl hI rest hk
          obtain ⟨v74, v76, O, ht, hs⟩ := hI
          obtain ⟨p0_, _, p1_, p2_, p3_, p4_, p5_, p6_, _⟩ := hp
          have q8_ : D 8 = false := not_yet (hcl.get 8 (by decide)) 0 7 rfl hD
          have u0_ : upd D 7 0 = D 0 := rfl; have u1_ : upd D 7 1 = D 1 := rfl; have u2_ : upd D 7 2 = D 2 := rfl; have u3_ : upd D 7 3 = D 3 := rfl; have u4_ : upd D 7 4 = D 4 := rfl; have u5_ : upd D 7 5 = D 5 := rfl; have u6_ : upd D 7 6 = D 6 := rfl; have u7_ : upd D 7 7 = true := rfl; have u8_ : upd D 7 8 = D 8 := rfl
          simp only [hD, p0_, p1_, p2_, p3_, p4_, p5_, p6_, q8_, cnd_t, cnd_f, Asc_t, Asc_f] at ht hs
          subst ht
          refine s_idxJ (m := 1) 2 hk8_ (by decide) rfl (fun _ => rfl) rfl rfl rfl rfl rfl ?_
          show G _ _ _ _ [_, _, _, _, _, _, _, _, _, _, _, _, _, _, _, _, _, _, _, _, _, _, _, _, _, _, _, _, _, _] _
          exact hk _ _ ⟨v74, v76, O, (by simp only [u0_, u1_, u2_, u3_, u4_, u5_, u6_, u7_, u8_, p0_, p1_, p2_, p3_, p4_, p5_, p6_, q8_, cnd_t, cnd_f, Asc_t, Asc_f]), hs.cast (by first | rfl | simp only [List.take, List.drop, List.cons_append, List.nil_append, List.set_cons_zero, List.set_cons_succ, List.eraseIdx, u0_, u1_, u2_, u3_, u4_, u5_, u6_, u7_, u8_, p0_, p1_, p2_, p3_, p4_, p5_, p6_, q8_, cnd_t, cnd_f, Asc_t, Asc_f])⟩
         ·
          intro D t w hD hp hcl hI rest hk
          obtain ⟨v74, v76, O, ht, hs⟩ := hI
          obtain ⟨p7_, p6_, _, p0_, p1_, p2_, p3_, p4_, p5_, _, _⟩ := hp
          have u0_ : upd D 8 0 = D 0 := rfl; have u1_ : upd D 8 1 = D 1 := rfl; have u2_ : upd D 8 2 = D 2 := rfl; have u3_ : upd D 8 3 = D 3 := rfl; have u4_ : upd D 8 4 = D 4 := rfl; have u5_ : upd D 8 5 = D 5 := rfl; have u6_ : upd D 8 6 = D 6 := rfl; have u7_ : upd D 8 7 = D 7 := rfl; have u8_ : upd D 8 8 = true := rfl
          simp only [hD, p0_, p1_, p2_, p3_, p4_, p5_, p6_, p7_, cnd_t, cnd_f, Asc_t, Asc_f] at ht hs
          subst ht
          have hs := hs.pull 7 rfl
          have hs : St _ [_, _, _, _, _, _, _, _] _ := hs
          refine s_store hs rfl rfl (vs := [v76]) (cs' := (([v49, v52, v76] : List Value))) rfl rfl (slCells (hs.row 7 rfl)) (n := 1) (fun _ => rfl) rfl (by first | exact Nat.le_of_ble_eq_true rfl | simp [encA_len]) (by intro v hv; simp only [List.mem_cons, List.not_mem_nil, or_false] at hv; subst hv; exact slOne (hs.row 7 rfl)) rfl ?_
          intro w hs
          show G _ _ _ _ [_, _, _, _, _, _, _, _, _, _, _, _, _, _, _, _, _, _, _, _, _, _, _, _, _, _, _, _, _, _] _
          have hs := hs.push 7 (by simp)
          exact hk _ _ ⟨v74, v76, O, (by simp only [u0_, u1_, u2_, u3_, u4_, u5_, u6_, u7_, u8_, p0_, p1_, p2_, p3_, p4_, p5_, p6_, p7_, cnd_t, cnd_f, Asc_t, Asc_f]), hs.cast (by first | rfl | simp only [List.take, List.drop, List.cons_append, List.nil_append, List.set_cons_zero, List.set_cons_succ, List.eraseIdx, u0_, u1_, u2_, u3_, u4_, u5_, u6_, u7_, u8_, p0_, p1_, p2_, p3_, p4_, p5_, p6_, p7_, cnd_t, cnd_f, Asc_t, Asc_f])⟩
         ·
          intro D t w hall hI
          obtain ⟨v74, v76, O, ht, hs⟩ := hI
          have p0_ : D 0 = true := hall 0 (by decide)
          have p1_ : D 1 = true := hall 1 (by decide)
          have p2_ : D 2 = true := hall 2 (by decide)
          have p3_ : D 3 = true := hall 3 (by decide)
          have p4_ : D 4 = true := hall 4 (by decide)
          have p5_ : D 5 = true := hall 5 (by decide)
          have p6_ : D 6 = true := hall 6 (by decide)
          have p7_ : D 7 = true := hall 7 (by decide)
          have p8_ : D 8 = true := hall 8 (by decide)
          simp only [p0_, p1_, p2_, p3_, p4_, p5_, p6_, p7_, p8_, cnd_t, cnd_f, Asc_t, Asc_f] at ht hs
          subst ht
          refine g_inBlock ?_
          have hs := hs.pull 6 rfl
          have hs := hs.pull 6 rfl
          have hs := hs.pull 6 rfl
          have hs := hs.pull 7 rfl
          have hs := hs.pull 7 rfl
          have hs := hs.pull 7 rfl
          have hs : St _ [_, _, _, _, _, _] _ := St.take (Γ' := [_, _]) hs
          exact ha _ _ ⟨v49, x50, v52, x53, v76, x56 ++ ([rdL a2 x57 z_S_impl_Case]), H, rfl, hs⟩
        ·
         rw [if_neg hk8_] at H
         cases H
    ·
     intro hb
     rw [if_neg (b_dec_f hb)] at H
     show G _ _ _ _ [_, _, _, _, _, _, _, _, _, _, _, _, _, _, _, _, _, _, _, _, _, _, _, _, _, _, _, _, _, _] _
     refine g_ops_nil ?_
     refine g_seq ?_
     refine g_cond_false rfl ?_
     obtain rfl := Option.some.inj H
     subst Hx1_
     have hs := hs.pull 4 rfl
     have hs := hs.pull 4 rfl
     have hs := hs.pull 4 rfl
     have hs := hs.pull 5 rfl
     have hs := hs.pull 5 rfl
     have hs : St _ [_, _, _, _, _] _ := St.take (Γ' := [_]) hs
     refine g_exit rfl ?_
     exact ha1_ _ _ ⟨v49, x50, v52, x53, v55, x56, Hr1_, rfl, hs⟩

end Go.Proofs.YtcocgeodfbiehaaX
