/- Contracts, printed by gen.py. -/
import Derived.Test.YtcocgeodfbiehaaXC8
namespace Go.Proofs.YtcocgeodfbiehaaX
open Go Go.RowKit Go.Proofs
set_option linter.unusedVariables false
set_option linter.unusedSimpArgs false
/- function 21 laws_eqCaseSA3 -/
def laws_eqCaseSA3.post (w0 : World) (r : Bool) (v : Value) (w : World) : Prop := v = Value.bool r ∧ St w0 [] w
set_option maxHeartbeats 8000000 in
set_option maxRecDepth 100000 in
theorem laws_eqCaseSA3.calls {N : Nat} {a1 : (Ar (List S_impl_Case) 3)} {a8 : (Ar (List S_impl_Case) 3)} {v2 : Value} {v4 : Value} {v6 : Value} {v9 : Value} {v11 : Value} {v13 : Value} {w0 : World} {r : Bool} (hr3 : RdRow k_S_impl_Case w0 v2 (a1.get 0 [])) (hr5 : RdRow k_S_impl_Case w0 v4 (a1.get 1 [])) (hr7 : RdRow k_S_impl_Case w0 v6 (a1.get 2 [])) (hr10 : RdRow k_S_impl_Case w0 v9 (a8.get 0 [])) (hr12 : RdRow k_S_impl_Case w0 v11 (a8.get 1 [])) (hr14 : RdRow k_S_impl_Case w0 v13 (a8.get 2 [])) (H : laws_eqCaseSA3.f N a1 a8 = some r) :
    Calls Try.prog 21 #[Value.agg (([v2, v4, v6] : List Value)).toArray, Value.agg (([v9, v11, v13] : List Value)).toArray] w0 fun e w => ∃ v, e = .returned v ∧ laws_eqCaseSA3.post w0 r v w := by
  unfold laws_eqCaseSA3.f at H
  have hs : St w0 [] w0 := St.refl w0
  refine calls_of_g (n := 16) Try.func21 rfl rfl ?_
  show G _ _ _ _ [_, _, _, _, _, _, _, _, _, _, _, _, _, _, _, _, _, _] _
  refine g_seq ?_
  refine g_region ?_
  show G _ _ _ (.inRegion _ [0, 1, 2] :: _) _ _
  refine s_box hs rfl rfl (cs := (([v2, v4, v6] : List Value))) rfl rfl ?_
  intro b15 w hs
  show G _ _ _ _ [_, _, _, _, _, _, _, _, _, _, _, _, _, _, _, _, _, _] _
  refine s_box hs rfl rfl (cs := (([v9, v11, v13] : List Value))) rfl rfl ?_
  intro b17 w hs
  show G _ _ _ _ [_, _, _, _, _, _, _, _, _, _, _, _, _, _, _, _, _, _] _
  refine g_op (v := Value.bool false) rfl rfl rfl ?_
  show G _ _ _ _ [_, _, _, _, _, _, _, _, _, _, _, _, _, _, _, _, _, _] _
  refine g_ops_nil ?_
  refine g_seq ?_
  refine g_seq ?_
  refine g_region ?_
  show G _ _ _ (.inRegion _ [0] :: _) _ _
  refine g_op (v := Value.int .i64 0) rfl rfl rfl ?_
  show G _ _ _ _ [_, _, _, _, _, _, _, _, _, _, _, _, _, _, _, _, _, _] _
  refine g_ops_nil ?_
  obtain ⟨o1_, Ho, Hr1_⟩ := bind_get H
  refine g_block_join (J := fun t w => laws_eqCaseSA3.a0 N = some r ∧ Fr t (fun O => ([O 0, O 1, O 2, O 3, O 4, O 5, O 6, O 7, O 8, O 9, O 10, O 11, O 12, O 13, O 14, O 15, O 16, O 17] : List Value)) ∧ St w0 [] w) ?_ ?_
  ·
   rintro t w ⟨H, hf, hs⟩
   obtain ⟨O, rfl⟩ := hf.open
   show G _ _ _ _ [_, _, _, _, _, _, _, _, _, _, _, _, _, _, _, _, _, _] _
   unfold laws_eqCaseSA3.a0 at H
   refine g_seq ?_
   refine g_region ?_
   show G _ _ _ (.inRegion _ [0] :: _) _ _
   refine g_op (v := Value.bool true) rfl rfl rfl ?_
   show G _ _ _ _ [_, _, _, _, _, _, _, _, _, _, _, _, _, _, _, _, _, _] _
   refine g_ops_nil ?_
   obtain rfl := Option.some.inj H
   refine g_ret Try.func21 (v := Value.bool true) (res1 rfl rfl) ?_
   have hs : St _ [] _ := St.take (Γ' := []) hs
   exact ⟨_, rfl, rfl, hs⟩
  ·
   intro ha1_
   have hs := hs.pull 0 rfl
   have hs := hs.pull 1 rfl
   have hs : St _ [_, _] _ := St.take (Γ' := []) hs
   refine g_loop_fuel (I := fun n_ t w => ∃ x19 : Int, rounds (fun s => laws_eqCaseSA3.b0 N a1 a8 s) n_ x19 = some o1_ ∧ Fr t (fun O => ([O 0, O 1, Value.pointer (some ⟨b15, 0, none⟩), Value.pointer (some ⟨b17, 0, none⟩), O 4, Value.int .i64 x19, O 6, O 7, O 8, O 9, O 10, O 11, O 12, O 13, O 14, O 15, O 16, O 17] : List Value)) ∧ St w0 [Cells b15 (([v2, v4, v6] : List Value)) 47, Cells b17 (([v9, v11, v13] : List Value)) 47] w) N ⟨0, Ho, rfl, hs⟩ ?_ ?_
   ·
    rintro _ _ ⟨x19, h, _⟩
    exact rounds_zero h
   ·
    intro n_ ih1_
    rintro t w ⟨x19, Ho, hf, hs⟩
    obtain ⟨O, rfl⟩ := hf.open
    show G _ _ _ _ [_, _, _, _, _, _, _, _, _, _, _, _, _, _, _, _, _, _] _
    obtain ⟨x16_, H, Hx1_⟩ := rounds_succ Ho
    have H : laws_eqCaseSA3.b0 N a1 a8 x19 = some x16_ := H
    unfold laws_eqCaseSA3.b0 at H
    refine g_seq ?_
    refine g_seq ?_
    refine g_region ?_
    show G _ _ _ (.inRegion _ [0, 1] :: _) _ _
    refine g_op (v := Value.int .i64 x19) rfl rfl rfl ?_
    show G _ _ _ _ [_, _, _, _, _, _, _, _, _, _, _, _, _, _, _, _, _, _] _
    refine g_op_b (B := decide (x19 < 3)) rfl rfl rfl ?_ ?_
    ·
     intro hb
     rw [if_pos (b_dec_t hb)] at H
     show G _ _ _ _ [_, _, _, _, _, _, _, _, _, _, _, _, _, _, _, _, _, _] _
     refine g_ops_nil ?_
     refine g_cond_true rfl ?_
     refine g_skip ?_
     refine g_seq ?_
     refine g_block_join (J := (fun t w => laws_eqCaseSA3.j2 N x19 = some x16_ ∧ Fr t (fun O => ([O 0, O 1, Value.pointer (some ⟨b15, 0, none⟩), Value.pointer (some ⟨b17, 0, none⟩), O 4, Value.int .i64 x19, O 6, O 7, O 8, O 9, O 10, O 11, O 12, O 13, O 14, O 15, O 16, O 17] : List Value)) ∧ St w0 [Cells b15 (([v2, v4, v6] : List Value)) 47, Cells b17 (([v9, v11, v13] : List Value)) 47] w)) ?_ ?_
     ·
      rintro t w ⟨H, hf, hs⟩
      obtain ⟨O, rfl⟩ := hf.open
      show G _ _ _ _ [_, _, _, _, _, _, _, _, _, _, _, _, _, _, _, _, _, _] _
      unfold laws_eqCaseSA3.j2 at H
      refine g_region ?_
      show G _ _ _ (.inRegion _ [0, 1, 2] :: _) _ _
      refine g_op (v := Value.int .i64 x19) rfl rfl rfl ?_
      show G _ _ _ _ [_, _, _, _, _, _, _, _, _, _, _, _, _, _, _, _, _, _] _
      refine g_op (v := Value.int .i64 (i64w (x19 + 1))) rfl rfl rfl ?_
      show G _ _ _ _ [_, _, _, _, _, _, _, _, _, _, _, _, _, _, _, _, _, _] _
      refine g_op (v := Value.int .i64 (i64w (x19 + 1))) rfl rfl rfl ?_
      show G _ _ _ _ [_, _, _, _, _, _, _, _, _, _, _, _, _, _, _, _, _, _] _
      refine g_ops_nil ?_
      obtain rfl := Option.some.inj H
      have hs := hs.pull 1 rfl
      have hs := hs.pull 1 rfl
      have hs : St _ [_, _] _ := St.take (Γ' := []) hs
      exact ih1_ _ _ ⟨i64w (x19 + 1), Hx1_, rfl, hs⟩
     ·
      intro ha
      refine g_seq ?_
      by_cases hk1_ : x19 = 0
      ·
       rw [if_pos hk1_] at H
       refine g_lay (n := 8) rfl [0, 1, 2, 3, 4, 5, 6, 7] [0, 1, 2, 3, 4, 5, 6, 7] rfl rfl ?_
       intro rest w hh hbw hO
       have hs := hs.samew hh hbw
       show G _ _ _ _ [_, _, _, _, _, _, _, _, _, _, _, _, _, _, _, _, _, _] _
       refine g_name ?_
       intro T hT
       refine g_layer (m0 := 0) hO rfl 63 [0, 1, 2, 3, 4, 5] [0, 1, 3, 0, 8, 24, 63, 127] (by decide +kernel) (fun D t w => ∃ O : Nat → Value, t = [O 0, O 1, Value.pointer (some ⟨b15, 0, none⟩), Value.pointer (some ⟨b17, 0, none⟩), O 4, Value.int .i64 x19, Value.int .i64 x19, Value.bool true, O 8, O 9, cnd (D 0) (Value.int .i64 x19) (O 10), cnd (D 1) (Value.pointer (some ⟨b15, 0 + 0 * 1, none⟩)) (O 11), cnd (D 2) v2 (O 12), cnd (D 3) (Value.int .i64 x19) (O 13), cnd (D 4) (Value.pointer (some ⟨b17, 0 + 0 * 1, none⟩)) (O 14), cnd (D 5) v9 (O 15), O 16, O 17] ∧ St w0 [Cells b15 (([v2, v4, v6] : List Value)) 47, Cells b17 (([v9, v11, v13] : List Value)) 47] w) ?_ ⟨?_, ⟨?_, ⟨?_, ⟨?_, ⟨?_, ⟨?_, trivial⟩⟩⟩⟩⟩⟩ ?_
       · exact ⟨fun i => T.getD i undef, (by subst hT; rfl), hs⟩
       ·
        intro D t w hD hp hcl hI rest hk
        obtain ⟨O, ht, hs⟩ := hI
        have hp : AllDone D [] := hp
        have q1_ : D 1 = false := not_yet (show D 1 = true → AllDone D [0] from hcl 1 (by decide)) 0 0 rfl hD
        have q2_ : D 2 = false := not_yet (show D 2 = true → AllDone D [1] from hcl 2 (by decide)) 0 1 rfl q1_
        have u0_ : upd D 0 0 = true := rfl; have u1_ : upd D 0 1 = D 1 := rfl; have u2_ : upd D 0 2 = D 2 := rfl; have u3_ : upd D 0 3 = D 3 := rfl; have u4_ : upd D 0 4 = D 4 := rfl; have u5_ : upd D 0 5 = D 5 := rfl
        simp only [hD, q1_, q2_, cnd_t, cnd_f, Asc_t, Asc_f] at ht hs
        subst ht
        refine g_op (v := Value.int .i64 x19) rfl rfl rfl ?_
        show G _ _ _ _ [_, _, _, _, _, _, _, _, _, _, _, _, _, _, _, _, _, _] _
        exact hk _ _ ⟨O, (by simp only [u0_, u1_, u2_, u3_, u4_, u5_, q1_, q2_, cnd_t, cnd_f, Asc_t, Asc_f]), hs.cast (by first | rfl | simp only [List.take, List.drop, List.cons_append, List.nil_append, List.set_cons_zero, List.set_cons_succ, List.eraseIdx, u0_, u1_, u2_, u3_, u4_, u5_, q1_, q2_, cnd_t, cnd_f, Asc_t, Asc_f])⟩
       ·
        intro D t w hD hp hcl hI rest hk
        obtain ⟨O, ht, hs⟩ := hI
        have hp : AllDone D [0] := hp
        obtain ⟨p0_, _⟩ := hp
        have q2_ : D 2 = false := not_yet (show D 2 = true → AllDone D [1] from hcl 2 (by decide)) 0 1 rfl hD
        have u0_ : upd D 1 0 = D 0 := rfl; have u1_ : upd D 1 1 = true := rfl; have u2_ : upd D 1 2 = D 2 := rfl; have u3_ : upd D 1 3 = D 3 := rfl; have u4_ : upd D 1 4 = D 4 := rfl; have u5_ : upd D 1 5 = D 5 := rfl
        simp only [hD, p0_, q2_, cnd_t, cnd_f, Asc_t, Asc_f] at ht hs
        subst ht
        refine s_idxJ (m := 1) 0 hk1_ (by decide) rfl (fun _ => rfl) rfl rfl rfl rfl rfl ?_
        show G _ _ _ _ [_, _, _, _, _, _, _, _, _, _, _, _, _, _, _, _, _, _] _
        exact hk _ _ ⟨O, (by simp only [u0_, u1_, u2_, u3_, u4_, u5_, p0_, q2_, cnd_t, cnd_f, Asc_t, Asc_f]), hs.cast (by first | rfl | simp only [List.take, List.drop, List.cons_append, List.nil_append, List.set_cons_zero, List.set_cons_succ, List.eraseIdx, u0_, u1_, u2_, u3_, u4_, u5_, p0_, q2_, cnd_t, cnd_f, Asc_t, Asc_f])⟩
       ·
        intro D t w hD hp hcl hI rest hk
        obtain ⟨O, ht, hs⟩ := hI
        have hp : AllDone D [1] := hp
        obtain ⟨p1_, _⟩ := hp
        obtain ⟨p0_, _⟩ := (show D 1 = true → AllDone D [0] from hcl 1 (by decide)) p1_
        have u0_ : upd D 2 0 = D 0 := rfl; have u1_ : upd D 2 1 = D 1 := rfl; have u2_ : upd D 2 2 = true := rfl; have u3_ : upd D 2 3 = D 3 := rfl; have u4_ : upd D 2 4 = D 4 := rfl; have u5_ : upd D 2 5 = D 5 := rfl
        simp only [hD, p0_, p1_, cnd_t, cnd_f, Asc_t, Asc_f] at ht hs
        subst ht
        refine s_load1 rfl rfl (v := v2) rfl rfl (fun _ => rfl) (cells_load (hs.cells 0 rfl) 0 1 rfl) ?_
        show G _ _ _ _ [_, _, _, _, _, _, _, _, _, _, _, _, _, _, _, _, _, _] _
        exact hk _ _ ⟨O, (by simp only [u0_, u1_, u2_, u3_, u4_, u5_, p0_, p1_, cnd_t, cnd_f, Asc_t, Asc_f]), hs.cast (by first | rfl | simp only [List.take, List.drop, List.cons_append, List.nil_append, List.set_cons_zero, List.set_cons_succ, List.eraseIdx, u0_, u1_, u2_, u3_, u4_, u5_, p0_, p1_, cnd_t, cnd_f, Asc_t, Asc_f])⟩
       ·
        intro D t w hD hp hcl hI rest hk
        obtain ⟨O, ht, hs⟩ := hI
        have hp : AllDone D [] := hp
        have q4_ : D 4 = false := not_yet (show D 4 = true → AllDone D [3] from hcl 4 (by decide)) 0 3 rfl hD
        have q5_ : D 5 = false := not_yet (show D 5 = true → AllDone D [4] from hcl 5 (by decide)) 0 4 rfl q4_
        have u0_ : upd D 3 0 = D 0 := rfl; have u1_ : upd D 3 1 = D 1 := rfl; have u2_ : upd D 3 2 = D 2 := rfl; have u3_ : upd D 3 3 = true := rfl; have u4_ : upd D 3 4 = D 4 := rfl; have u5_ : upd D 3 5 = D 5 := rfl
        simp only [hD, q4_, q5_, cnd_t, cnd_f, Asc_t, Asc_f] at ht hs
        subst ht
        refine g_op (v := Value.int .i64 x19) rfl rfl rfl ?_
        show G _ _ _ _ [_, _, _, _, _, _, _, _, _, _, _, _, _, _, _, _, _, _] _
        exact hk _ _ ⟨O, (by simp only [u0_, u1_, u2_, u3_, u4_, u5_, q4_, q5_, cnd_t, cnd_f, Asc_t, Asc_f]), hs.cast (by first | rfl | simp only [List.take, List.drop, List.cons_append, List.nil_append, List.set_cons_zero, List.set_cons_succ, List.eraseIdx, u0_, u1_, u2_, u3_, u4_, u5_, q4_, q5_, cnd_t, cnd_f, Asc_t, Asc_f])⟩
       ·
        intro D t w hD hp hcl hI rest hk
        obtain ⟨O, ht, hs⟩ := hI
        have hp : AllDone D [3] := hp
        obtain ⟨p3_, _⟩ := hp
        have q5_ : D 5 = false := not_yet (show D 5 = true → AllDone D [4] from hcl 5 (by decide)) 0 4 rfl hD
        have u0_ : upd D 4 0 = D 0 := rfl; have u1_ : upd D 4 1 = D 1 := rfl; have u2_ : upd D 4 2 = D 2 := rfl; have u3_ : upd D 4 3 = D 3 := rfl; have u4_ : upd D 4 4 = true := rfl; have u5_ : upd D 4 5 = D 5 := rfl
        simp only [hD, p3_, q5_, cnd_t, cnd_f, Asc_t, Asc_f] at ht hs
        subst ht
        refine s_idxJ (m := 1) 0 hk1_ (by decide) rfl (fun _ => rfl) rfl rfl rfl rfl rfl ?_
        show G _ _ _ _ [_, _, _, _, _, _, _, _, _, _, _, _, _, _, _, _, _, _] _
        exact hk _ _ ⟨O, (by simp only [u0_, u1_, u2_, u3_, u4_, u5_, p3_, q5_, cnd_t, cnd_f, Asc_t, Asc_f]), hs.cast (by first | rfl | simp only [List.take, List.drop, List.cons_append, List.nil_append, List.set_cons_zero, List.set_cons_succ, List.eraseIdx, u0_, u1_, u2_, u3_, u4_, u5_, p3_, q5_, cnd_t, cnd_f, Asc_t, Asc_f])⟩
       ·
        intro D t w hD hp hcl hI rest hk
        obtain ⟨O, ht, hs⟩ := hI
        have hp : AllDone D [4] := hp
        obtain ⟨p4_, _⟩ := hp
        obtain ⟨p3_, _⟩ := (show D 4 = true → AllDone D [3] from hcl 4 (by decide)) p4_
        have u0_ : upd D 5 0 = D 0 := rfl; have u1_ : upd D 5 1 = D 1 := rfl; have u2_ : upd D 5 2 = D 2 := rfl; have u3_ : upd D 5 3 = D 3 := rfl; have u4_ : upd D 5 4 = D 4 := rfl; have u5_ : upd D 5 5 = true := rfl
        simp only [hD, p3_, p4_, cnd_t, cnd_f, Asc_t, Asc_f] at ht hs
        subst ht
        refine s_load1 rfl rfl (v := v9) rfl rfl (fun _ => rfl) (cells_load (hs.cells 1 rfl) 0 1 rfl) ?_
        show G _ _ _ _ [_, _, _, _, _, _, _, _, _, _, _, _, _, _, _, _, _, _] _
        exact hk _ _ ⟨O, (by simp only [u0_, u1_, u2_, u3_, u4_, u5_, p3_, p4_, cnd_t, cnd_f, Asc_t, Asc_f]), hs.cast (by first | rfl | simp only [List.take, List.drop, List.cons_append, List.nil_append, List.set_cons_zero, List.set_cons_succ, List.eraseIdx, u0_, u1_, u2_, u3_, u4_, u5_, p3_, p4_, cnd_t, cnd_f, Asc_t, Asc_f])⟩
       ·
        intro D t w rest hall hO2_ hI
        obtain ⟨O, ht, hs⟩ := hI
        have p0_ : D 0 = true := hall 0 (by decide) rfl
        have p1_ : D 1 = true := hall 1 (by decide) rfl
        have p2_ : D 2 = true := hall 2 (by decide) rfl
        have p3_ : D 3 = true := hall 3 (by decide) rfl
        have p4_ : D 4 = true := hall 4 (by decide) rfl
        have p5_ : D 5 = true := hall 5 (by decide) rfl
        simp only [p0_, p1_, p2_, p3_, p4_, p5_, cnd_t, cnd_f, Asc_t, Asc_f] at ht hs
        subst ht
        obtain ⟨rest, rfl, hO3_⟩ := ord_one (m := 63) hO2_ rfl 6 (m' := 127) (by decide +kernel) rfl
        clear hO2_
        obtain ⟨r20, Hr20, H⟩ := bind_get H
        refine s_call (args := [v2, v9]) rfl rfl (x_call rfl (callFunc_enter Try.func22 rfl rfl) rfl) (laws_eqCaseS.calls (a1 := (a1.get 0 [])) (a3 := (a8.get 0 [])) (hs.rd hr3) (hs.rd hr10) Hr20) ?_
        rintro _ w ⟨rfl, hs2⟩
        have hs : St _ [_, _] _ := hs.call hs2
        cases r20 with
        | true =>
          rw [if_pos rfl] at H
          show G _ _ _ _ [_, _, _, _, _, _, _, _, _, _, _, _, _, _, _, _, _, _] _
          obtain ⟨rest, rfl, hO4_⟩ := ord_one (m := 127) hO3_ rfl 7 (m' := 255) (by decide +kernel) rfl
          clear hO3_
          refine g_op (v := Value.bool false) rfl rfl rfl ?_
          show G _ _ _ _ [_, _, _, _, _, _, _, _, _, _, _, _, _, _, _, _, _, _] _
          obtain rfl := ord_end hO4_ rfl (by decide +kernel)
          refine g_ops_nil ?_
          refine g_cond_false rfl ?_
          refine g_skip ?_
          refine g_inBlock ?_
          have hs := hs.pull 1 rfl
          have hs := hs.pull 1 rfl
          have hs : St _ [_, _] _ := St.take (Γ' := []) hs
          exact ha _ _ ⟨H, rfl, hs⟩
        | false =>
          rw [if_neg Bool.false_ne_true] at H
          show G _ _ _ _ [_, _, _, _, _, _, _, _, _, _, _, _, _, _, _, _, _, _] _
          obtain ⟨rest, rfl, hO5_⟩ := ord_one (m := 127) hO3_ rfl 7 (m' := 255) (by decide +kernel) rfl
          clear hO3_
          refine g_op (v := Value.bool true) rfl rfl rfl ?_
          show G _ _ _ _ [_, _, _, _, _, _, _, _, _, _, _, _, _, _, _, _, _, _] _
          obtain rfl := ord_end hO5_ rfl (by decide +kernel)
          refine g_ops_nil ?_
          refine g_cond_true rfl ?_
          refine g_seq ?_
          refine g_region ?_
          show G _ _ _ (.inRegion _ [0] :: _) _ _
          refine g_op (v := Value.bool false) rfl rfl rfl ?_
          show G _ _ _ _ [_, _, _, _, _, _, _, _, _, _, _, _, _, _, _, _, _, _] _
          refine g_ops_nil ?_
          obtain rfl := Option.some.inj H
          subst Hx1_
          have H := Option.some.inj Hr1_
          subst H
          refine g_ret Try.func21 (v := Value.bool false) (res1 rfl rfl) ?_
          have hs : St _ [] _ := St.take (Γ' := [_, _]) hs
          exact ⟨_, rfl, rfl, hs⟩
      ·
       rw [if_neg hk1_] at H
       by_cases hk6_ : x19 = 1
       ·
        rw [if_pos hk6_] at H
        refine g_lay (n := 8) rfl [0, 1, 2, 3, 4, 5, 6, 7] [0, 1, 2, 3, 4, 5, 6, 7] rfl rfl ?_
        intro rest w hh hbw hO
        have hs := hs.samew hh hbw
        show G _ _ _ _ [_, _, _, _, _, _, _, _, _, _, _, _, _, _, _, _, _, _] _
        refine g_name ?_
        intro T hT
        refine g_layer (m0 := 0) hO rfl 63 [0, 1, 2, 3, 4, 5] [0, 1, 3, 0, 8, 24, 63, 127] (by decide +kernel) (fun D t w => ∃ O : Nat → Value, t = [O 0, O 1, Value.pointer (some ⟨b15, 0, none⟩), Value.pointer (some ⟨b17, 0, none⟩), O 4, Value.int .i64 x19, Value.int .i64 x19, Value.bool true, O 8, O 9, cnd (D 0) (Value.int .i64 x19) (O 10), cnd (D 1) (Value.pointer (some ⟨b15, 0 + 1 * 1, none⟩)) (O 11), cnd (D 2) v4 (O 12), cnd (D 3) (Value.int .i64 x19) (O 13), cnd (D 4) (Value.pointer (some ⟨b17, 0 + 1 * 1, none⟩)) (O 14), cnd (D 5) v11 (O 15), O 16, O 17] ∧ St w0 [Cells b15 (([v2, v4, v6] : List Value)) 47, Cells b17 (([v9, v11, v13] : List Value)) 47] w) ?_ ⟨?_, ⟨?_, ⟨?_, ⟨?_, ⟨?_, ⟨?_, trivial⟩⟩⟩⟩⟩⟩ ?_
        · exact ⟨fun i => T.getD i undef, (by subst hT; rfl), hs⟩
        ·
         intro D t w hD hp hcl hI rest hk
         obtain ⟨O, ht, hs⟩ := hI
         have hp : AllDone D [] := hp
         have q1_ : D 1 = false := not_yet (show D 1 = true → AllDone D [0] from hcl 1 (by decide)) 0 0 rfl hD
         have q2_ : D 2 = false := not_yet (show D 2 = true → AllDone D [1] from hcl 2 (by decide)) 0 1 rfl q1_
         have u0_ : upd D 0 0 = true := rfl; have u1_ : upd D 0 1 = D 1 := rfl; have u2_ : upd D 0 2 = D 2 := rfl; have u3_ : upd D 0 3 = D 3 := rfl; have u4_ : upd D 0 4 = D 4 := rfl; have u5_ : upd D 0 5 = D 5 := rfl
         simp only [hD, q1_, q2_, cnd_t, cnd_f, Asc_t, Asc_f] at ht hs
         subst ht
         refine g_op (v := Value.int .i64 x19) rfl rfl rfl ?_
         show G _ _ _ _ [_, _, _, _, _, _, _, _, _, _, _, _, _, _, _, _, _, _] _
         exact hk _ _ ⟨O, (by simp only [u0_, u1_, u2_, u3_, u4_, u5_, q1_, q2_, cnd_t, cnd_f, Asc_t, Asc_f]), hs.cast (by first | rfl | simp only [List.take, List.drop, List.cons_append, List.nil_append, List.set_cons_zero, List.set_cons_succ, List.eraseIdx, u0_, u1_, u2_, u3_, u4_, u5_, q1_, q2_, cnd_t, cnd_f, Asc_t, Asc_f])⟩
        ·
         intro D t w hD hp hcl hI rest hk
         obtain ⟨O, ht, hs⟩ := hI
         have hp : AllDone D [0] := hp
         obtain ⟨p0_, _⟩ := hp
         have q2_ : D 2 = false := not_yet (show D 2 = true → AllDone D [1] from hcl 2 (by decide)) 0 1 rfl hD
         have u0_ : upd D 1 0 = D 0 := rfl; have u1_ : upd D 1 1 = true := rfl; have u2_ : upd D 1 2 = D 2 := rfl; have u3_ : upd D 1 3 = D 3 := rfl; have u4_ : upd D 1 4 = D 4 := rfl; have u5_ : upd D 1 5 = D 5 := rfl
         simp only [hD, p0_, q2_, cnd_t, cnd_f, Asc_t, Asc_f] at ht hs
         subst ht
         refine s_idxJ (m := 1) 1 hk6_ (by decide) rfl (fun _ => rfl) rfl rfl rfl rfl rfl ?_
         show G _ _ _ _ [_, _, _, _, _, _, _, _, _, _, _, _, _, _, _, _, _, _] _
         exact hk _ _ ⟨O, (by simp only [u0_, u1_, u2_, u3_, u4_, u5_, p0_, q2_, cnd_t, cnd_f, Asc_t, Asc_f]), hs.cast (by first | rfl | simp only [List.take, List.drop, List.cons_append, List.nil_append, List.set_cons_zero, List.set_cons_succ, List.eraseIdx, u0_, u1_, u2_, u3_, u4_, u5_, p0_, q2_, cnd_t, cnd_f, Asc_t, Asc_f])⟩
        ·
         intro D t w hD hp hcl hI rest hk
         obtain ⟨O, ht, hs⟩ := hI
         have hp : AllDone D [1] := hp
         obtain ⟨p1_, _⟩ := hp
         obtain ⟨p0_, _⟩ := (show D 1 = true → AllDone D [0] from hcl 1 (by decide)) p1_
         have u0_ : upd D 2 0 = D 0 := rfl; have u1_ : upd D 2 1 = D 1 := rfl; have u2_ : upd D 2 2 = true := rfl; have u3_ : upd D 2 3 = D 3 := rfl; have u4_ : upd D 2 4 = D 4 := rfl; have u5_ : upd D 2 5 = D 5 := rfl
         simp only [hD, p0_, p1_, cnd_t, cnd_f, Asc_t, Asc_f] at ht hs
         subst ht
         refine s_load1 rfl rfl (v := v4) rfl rfl (fun _ => rfl) (cells_load (hs.cells 0 rfl) 1 1 rfl) ?_
         show G _ _ _ _ [_, _, _, _, _, _, _, _, _, _, _, _, _, _, _, _, _, _] _
         exact hk _ _ ⟨O, (by simp only [u0_, u1_, u2_, u3_, u4_, u5_, p0_, p1_, cnd_t, cnd_f, Asc_t, Asc_f]), hs.cast (by first | rfl | simp only [List.take, List.drop, List.cons_append, List.nil_append, List.set_cons_zero, List.set_cons_succ, List.eraseIdx, u0_, u1_, u2_, u3_, u4_, u5_, p0_, p1_, cnd_t, cnd_f, Asc_t, Asc_f])⟩
        ·
         intro D t w hD hp hcl hI rest hk
         obtain ⟨O, ht, hs⟩ := hI
         have hp : AllDone D [] := hp
         have q4_ : D 4 = false := not_yet (show D 4 = true → AllDone D [3] from hcl 4 (by decide)) 0 3 rfl hD
         have q5_ : D 5 = false := not_yet (show D 5 = true → AllDone D [4] from hcl 5 (by decide)) 0 4 rfl q4_
         have u0_ : upd D 3 0 = D 0 := rfl; have u1_ : upd D 3 1 = D 1 := rfl; have u2_ : upd D 3 2 = D 2 := rfl; have u3_ : upd D 3 3 = true := rfl; have u4_ : upd D 3 4 = D 4 := rfl; have u5_ : upd D 3 5 = D 5 := rfl
         simp only [hD, q4_, q5_, cnd_t, cnd_f, Asc_t, Asc_f] at ht hs
         subst ht
         refine g_op (v := Value.int .i64 x19) rfl rfl rfl ?_
         show G _ _ _ _ [_, _, _, _, _, _, _, _, _, _, _, _, _, _, _, _, _, _] _
         exact hk _ _ ⟨O, (by simp only [u0_, u1_, u2_, u3_, u4_, u5_, q4_, q5_, cnd_t, cnd_f, Asc_t, Asc_f]), hs.cast (by first | rfl | simp only [List.take, List.drop, List.cons_append, List.nil_append, List.set_cons_zero, List.set_cons_succ, List.eraseIdx, u0_, u1_, u2_, u3_, u4_, u5_, q4_, q5_, cnd_t, cnd_f, Asc_t, Asc_f])⟩
        ·
         intro D t w hD hp hcl hI rest hk
         obtain ⟨O, ht, hs⟩ := hI
         have hp : AllDone D [3] := hp
         obtain ⟨p3_, _⟩ := hp
         have q5_ : D 5 = false := not_yet (show D 5 = true → AllDone D [4] from hcl 5 (by decide)) 0 4 rfl hD
         have u0_ : upd D 4 0 = D 0 := rfl; have u1_ : upd D 4 1 = D 1 := rfl; have u2_ : upd D 4 2 = D 2 := rfl; have u3_ : upd D 4 3 = D 3 := rfl; have u4_ : upd D 4 4 = true := rfl; have u5_ : upd D 4 5 = D 5 := rfl
         simp only [hD, p3_, q5_, cnd_t, cnd_f, Asc_t, Asc_f] at ht hs
         subst ht
         refine s_idxJ (m := 1) 1 hk6_ (by decide) rfl (fun _ => rfl) rfl rfl rfl rfl rfl ?_
         show G _ _ _ _ [_, _, _, _, _, _, _, _, _, _, _, _, _, _, _, _, _, _] _
         exact hk _ _ ⟨O, (by simp only [u0_, u1_, u2_, u3_, u4_, u5_, p3_, q5_, cnd_t, cnd_f, Asc_t, Asc_f]), hs.cast (by first | rfl | simp only [List.take, List.drop, List.cons_append, List.nil_append, List.set_cons_zero, List.set_cons_succ, List.eraseIdx, u0_, u1_, u2_, u3_, u4_, u5_, p3_, q5_, cnd_t, cnd_f, Asc_t, Asc_f])⟩
        ·
         intro D t w hD hp hcl hI rest hk
         obtain ⟨O, ht, hs⟩ := hI
         have hp : AllDone D [4] := hp
         obtain ⟨p4_, _⟩ := hp
         obtain ⟨p3_, _⟩ := (show D 4 = true → AllDone D [3] from hcl 4 (by decide)) p4_
         have u0_ : upd D 5 0 = D 0 := rfl; have u1_ : upd D 5 1 = D 1 := rfl; have u2_ : upd D 5 2 = D 2 := rfl; have u3_ : upd D 5 3 = D 3 := rfl; have u4_ : upd D 5 4 = D 4 := rfl; have u5_ : upd D 5 5 = true := rfl
         simp only [hD, p3_, p4_, cnd_t, cnd_f, Asc_t, Asc_f] at ht hs
         subst ht
         refine s_load1 rfl rfl (v := v11) rfl rfl (fun _ => rfl) (cells_load (hs.cells 1 rfl) 1 1 rfl) ?_
         show G _ _ _ _ [_, _, _, _, _, _, _, _, _, _, _, _, _, _, _, _, _, _] _
         exact hk _ _ ⟨O, (by simp only [u0_, u1_, u2_, u3_, u4_, u5_, p3_, p4_, cnd_t, cnd_f, Asc_t, Asc_f]), hs.cast (by first | rfl | simp only [List.take, List.drop, List.cons_append, List.nil_append, List.set_cons_zero, List.set_cons_succ, List.eraseIdx, u0_, u1_, u2_, u3_, u4_, u5_, p3_, p4_, cnd_t, cnd_f, Asc_t, Asc_f])⟩
        ·
         intro D t w rest hall hO7_ hI
         obtain ⟨O, ht, hs⟩ := hI
         have p0_ : D 0 = true := hall 0 (by decide) rfl
         have p1_ : D 1 = true := hall 1 (by decide) rfl
         have p2_ : D 2 = true := hall 2 (by decide) rfl
         have p3_ : D 3 = true := hall 3 (by decide) rfl
         have p4_ : D 4 = true := hall 4 (by decide) rfl
         have p5_ : D 5 = true := hall 5 (by decide) rfl
         simp only [p0_, p1_, p2_, p3_, p4_, p5_, cnd_t, cnd_f, Asc_t, Asc_f] at ht hs
         subst ht
         obtain ⟨rest, rfl, hO8_⟩ := ord_one (m := 63) hO7_ rfl 6 (m' := 127) (by decide +kernel) rfl
         clear hO7_
         obtain ⟨r21, Hr21, H⟩ := bind_get H
         refine s_call (args := [v4, v11]) rfl rfl (x_call rfl (callFunc_enter Try.func22 rfl rfl) rfl) (laws_eqCaseS.calls (a1 := (a1.get 1 [])) (a3 := (a8.get 1 [])) (hs.rd hr5) (hs.rd hr12) Hr21) ?_
         rintro _ w ⟨rfl, hs2⟩
         have hs : St _ [_, _] _ := hs.call hs2
         cases r21 with
         | true =>
           rw [if_pos rfl] at H
           show G _ _ _ _ [_, _, _, _, _, _, _, _, _, _, _, _, _, _, _, _, _, _] _
           obtain ⟨rest, rfl, hO9_⟩ := ord_one (m := 127) hO8_ rfl 7 (m' := 255) (by decide +kernel) rfl
           clear hO8_
           refine g_op (v := Value.bool false) rfl rfl rfl ?_
           show G _ _ _ _ [_, _, _, _, _, _, _, _, _, _, _, _, _, _, _, _, _, _] _
           obtain rfl := ord_end hO9_ rfl (by decide +kernel)
           refine g_ops_nil ?_
           refine g_cond_false rfl ?_
           refine g_skip ?_
           refine g_inBlock ?_
           have hs := hs.pull 1 rfl
           have hs := hs.pull 1 rfl
           have hs : St _ [_, _] _ := St.take (Γ' := []) hs
           exact ha _ _ ⟨H, rfl, hs⟩
         | false =>
           rw [if_neg Bool.false_ne_true] at H
           show G _ _ _ _ [_, _, _, _, _, _, _, _, _, _, _, _, _, _, _, _, _, _] _
           obtain ⟨rest, rfl, hO10_⟩ := ord_one (m := 127) hO8_ rfl 7 (m' := 255) (by decide +kernel) rfl
           clear hO8_
           refine g_op (v := Value.bool true) rfl rfl rfl ?_
           show G _ _ _ _ [_, _, _, _, _, _, _, _, _, _, _, _, _, _, _, _, _, _] _
           obtain rfl := ord_end hO10_ rfl (by decide +kernel)
           refine g_ops_nil ?_
           refine g_cond_true rfl ?_
           refine g_seq ?_
           refine g_region ?_
           show G _ _ _ (.inRegion _ [0] :: _) _ _
           refine g_op (v := Value.bool false) rfl rfl rfl ?_
           show G _ _ _ _ [_, _, _, _, _, _, _, _, _, _, _, _, _, _, _, _, _, _] _
           refine g_ops_nil ?_
           obtain rfl := Option.some.inj H
           subst Hx1_
           have H := Option.some.inj Hr1_
           subst H
           refine g_ret Try.func21 (v := Value.bool false) (res1 rfl rfl) ?_
           have hs : St _ [] _ := St.take (Γ' := [_, _]) hs
           exact ⟨_, rfl, rfl, hs⟩
       ·
        rw [if_neg hk6_] at H
        by_cases hk11_ : x19 = 2
        ·
         rw [if_pos hk11_] at H
         refine g_lay (n := 8) rfl [0, 1, 2, 3, 4, 5, 6, 7] [0, 1, 2, 3, 4, 5, 6, 7] rfl rfl ?_
         intro rest w hh hbw hO
         have hs := hs.samew hh hbw
         show G _ _ _ _ [_, _, _, _, _, _, _, _, _, _, _, _, _, _, _, _, _, _] _
         refine g_name ?_
         intro T hT
         refine g_layer (m0 := 0) hO rfl 63 [0, 1, 2, 3, 4, 5] [0, 1, 3, 0, 8, 24, 63, 127] (by decide +kernel) (fun D t w => ∃ O : Nat → Value, t = [O 0, O 1, Value.pointer (some ⟨b15, 0, none⟩), Value.pointer (some ⟨b17, 0, none⟩), O 4, Value.int .i64 x19, Value.int .i64 x19, Value.bool true, O 8, O 9, cnd (D 0) (Value.int .i64 x19) (O 10), cnd (D 1) (Value.pointer (some ⟨b15, 0 + 2 * 1, none⟩)) (O 11), cnd (D 2) v6 (O 12), cnd (D 3) (Value.int .i64 x19) (O 13), cnd (D 4) (Value.pointer (some ⟨b17, 0 + 2 * 1, none⟩)) (O 14), cnd (D 5) v13 (O 15), O 16, O 17] ∧ St w0 [Cells b15 (([v2, v4, v6] : List Value)) 47, Cells b17 (([v9, v11, v13] : List Value)) 47] w) ?_ ⟨?_, ⟨?_, ⟨?_, ⟨?_, ⟨?_, ⟨?_, trivial⟩⟩⟩⟩⟩⟩ ?_
         · exact ⟨fun i => T.getD i undef, (by subst hT; rfl), hs⟩
         ·
          intro D t w hD hp hcl hI rest hk
          obtain ⟨O, ht, hs⟩ := hI
          have hp : AllDone D [] := hp
          have q1_ : D 1 = false := not_yet (show D 1 = true → AllDone D [0] from hcl 1 (by decide)) 0 0 rfl hD
          have q2_ : D 2 = false := not_yet (show D 2 = true → AllDone D [1] from hcl 2 (by decide)) 0 1 rfl q1_
          have u0_ : upd D 0 0 = true := rfl; have u1_ : upd D 0 1 = D 1 := rfl; have u2_ : upd D 0 2 = D 2 := rfl; have u3_ : upd D 0 3 = D 3 := rfl; have u4_ : upd D 0 4 = D 4 := rfl; have u5_ : upd D 0 5 = D 5 := rfl
          simp only [hD, q1_, q2_, cnd_t, cnd_f, Asc_t, Asc_f] at ht hs
          subst ht
          refine g_op (v := Value.int .i64 x19) rfl rfl rfl ?_
          show G _ _ _ _ [_, _, _, _, _, _, _, _, _, _, _, _, _, _, _, _, _, _] _
          exact hk _ _ ⟨O, (by simp only [u0_, u1_, u2_, u3_, u4_, u5_, q1_, q2_, cnd_t, cnd_f, Asc_t, Asc_f]), hs.cast (by first | rfl | simp only [List.take, List.drop, List.cons_append, List.nil_append, List.set_cons_zero, List.set_cons_succ, List.eraseIdx, u0_, u1_, u2_, u3_, u4_, u5_, q1_, q2_, cnd_t, cnd_f, Asc_t, Asc_f])⟩
         ·
          intro D t w hD hp hcl hI rest hk
          obtain ⟨O, ht, hs⟩ := hI
          have hp : AllDone D [0] := hp
          obtain ⟨p0_, _⟩ := hp
          have q2_ : D 2 = false := not_yet (show D 2 = true → AllDone D [1] from hcl 2 (by decide)) 0 1 rfl hD
          have u0_ : upd D 1 0 = D 0 := rfl; have u1_ : upd D 1 1 = true := rfl; have u2_ : upd D 1 2 = D 2 := rfl; have u3_ : upd D 1 3 = D 3 := rfl; have u4_ : upd D 1 4 = D 4 := rfl; have u5_ : upd D 1 5 = D 5 := rfl
          simp only [hD, p0_, q2_, cnd_t, cnd_f, Asc_t, Asc_f] at ht hs
          subst ht
          refine s_idxJ (m := 1) 2 hk11_ (by decide) rfl (fun _ => rfl) rfl rfl rfl rfl rfl ?_
          show G _ _ _ _ [_, _, _, _, _, _, _, _, _, _, _, _, _, _, _, _, _, _] _
          exact hk _ _ ⟨O, (by simp only [u0_, u1_, u2_, u3_, u4_, u5_, p0_, q2_, cnd_t, cnd_f, Asc_t, Asc_f]), hs.cast (by first | rfl | simp only [List.take, List.drop, List.cons_append, List.nil_append, List.set_cons_zero, List.set_cons_succ, List.eraseIdx, u0_, u1_, u2_, u3_, u4_, u5_, p0_, q2_, cnd_t, cnd_f, Asc_t, Asc_f])⟩
         ·
          intro D t w hD hp hcl hI rest hk
          obtain ⟨O, ht, hs⟩ := hI
          have hp : AllDone D [1] := hp
          obtain ⟨p1_, _⟩ := hp
          obtain ⟨p0_, _⟩ := (show D 1 = true → AllDone D [0] from hcl 1 (by decide)) p1_
          have u0_ : upd D 2 0 = D 0 := rfl; have u1_ : upd D 2 1 = D 1 := rfl; have u2_ : upd D 2 2 = true := rfl; have u3_ : upd D 2 3 = D 3 := rfl; have u4_ : upd D 2 4 = D 4 := rfl; have u5_ : upd D 2 5 = D 5 := rfl
          simp only [hD, p0_, p1_, cnd_t, cnd_f, Asc_t, Asc_f] at ht hs
          subst ht
          refine s_load1 rfl rfl (v := v6) rfl rfl (fun _ => rfl) (cells_load (hs.cells 0 rfl) 2 1 rfl) ?_
          show G _ _ _ _ [_, _, _, _, _, _, _, _, _, _, _, _, _, _, _, _, _, _] _
          exact hk _ _ ⟨O, (by simp only [u0_, u1_, u2_, u3_, u4_, u5_, p0_, p1_, cnd_t, cnd_f, Asc_t, Asc_f]), hs.cast (by first | rfl | simp only [List.take, List.drop, List.cons_append, List.nil_append, List.set_cons_zero, List.set_cons_succ, List.eraseIdx, u0_, u1_, u2_, u3_, u4_, u5_, p0_, p1_, cnd_t, cnd_f, Asc_t, Asc_f])⟩
         ·
          intro D t w hD hp hcl hI rest hk
          obtain ⟨O, ht, hs⟩ := hI
          have hp : AllDone D [] := hp
          have q4_ : D 4 = false := not_yet (show D 4 = true → AllDone D [3] from hcl 4 (by decide)) 0 3 rfl hD
          have q5_ : D 5 = false := not_yet (show D 5 = true → AllDone D [4] from hcl 5 (by decide)) 0 4 rfl q4_
          have u0_ : upd D 3 0 = D 0 := rfl; have u1_ : upd D 3 1 = D 1 := rfl; have u2_ : upd D 3 2 = D 2 := rfl; have u3_ : upd D 3 3 = true := rfl; have u4_ : upd D 3 4 = D 4 := rfl; have u5_ : upd D 3 5 = D 5 := rfl
          simp only [hD, q4_, q5_, cnd_t, cnd_f, Asc_t, Asc_f] at ht hs
          subst ht
          refine g_op (v := Value.int .i64 x19) rfl rfl rfl ?_
          show G _ _ _ _ [_, _, _, _, _, _, _, _, _, _, _, _, _, _, _, _, _, _] _
          exact hk _ _ ⟨O, (by simp only [u0_, u1_, u2_, u3_, u4_, u5_, q4_, q5_, cnd_t, cnd_f, Asc_t, Asc_f]), hs.cast (by first | rfl | simp only [List.take, List.drop, List.cons_append, List.nil_append, List.set_cons_zero, List.set_cons_succ, List.eraseIdx, u0_, u1_, u2_, u3_, u4_, u5_, q4_, q5_, cnd_t, cnd_f, Asc_t, Asc_f])⟩
         ·
          intro D t w hD hp hcl hI rest hk
          obtain ⟨O, ht, hs⟩ := hI
          have hp : AllDone D [3] := hp
          obtain ⟨p3_, _⟩ := hp
          have q5_ : D 5 = false := not_yet (show D 5 = true → AllDone D [4] from hcl 5 (by decide)) 0 4 rfl hD
          have u0_ : upd D 4 0 = D 0 := rfl; have u1_ : upd D 4 1 = D 1 := rfl; have u2_ : upd D 4 2 = D 2 := rfl; have u3_ : upd D 4 3 = D 3 := rfl; have u4_ : upd D 4 4 = true := rfl; have u5_ : upd D 4 5 = D 5 := rfl
          simp only [hD, p3_, q5_, cnd_t, cnd_f, Asc_t, Asc_f] at ht hs
          subst ht
          refine s_idxJ (m := 1) 2 hk11_ (by decide) rfl (fun _ => rfl) rfl rfl rfl rfl rfl ?_
          show G _ _ _ _ [_, _, _, _, _, _, _, _, _, _, _, _, _, _, _, _, _, _] _
          exact hk _ _ ⟨O, (by simp only [u0_, u1_, u2_, u3_, u4_, u5_, p3_, q5_, cnd_t, cnd_f, Asc_t, Asc_f]), hs.cast (by first | rfl | simp only [List.take, List.drop, List.cons_append, List.nil_append, List.set_cons_zero, List.set_cons_succ, List.eraseIdx, u0_, u1_, u2_, u3_, u4_, u5_, p3_, q5_, cnd_t, cnd_f, Asc_t, Asc_f])⟩
         ·
          intro D t w hD hp hcl hI rest hk
          obtain ⟨O, ht, hs⟩ := hI
          have hp : AllDone D [4] := hp
          obtain ⟨p4_, _⟩ := hp
          obtain ⟨p3_, _⟩ := (show D 4 = true → AllDone D [3] from hcl 4 (by decide)) p4_
          have u0_ : upd D 5 0 = D 0 := rfl; have u1_ : upd D 5 1 = D 1 := rfl; have u2_ : upd D 5 2 = D 2 := rfl; have u3_ : upd D 5 3 = D 3 := rfl; have u4_ : upd D 5 4 = D 4 := rfl; have u5_ : upd D 5 5 = true := rfl
          simp only [hD, p3_, p4_, cnd_t, cnd_f, Asc_t, Asc_f] at ht hs
          subst ht
          refine s_load1 rfl rfl (v := v13) rfl rfl (fun _ => rfl) (cells_load (hs.cells 1 rfl) 2 1 rfl) ?_
          show G _ _ _ _ [_, _, _, _, _, _, _, _, _, _, _, _, _, _, _, _, _, _] _
          exact hk _ _ ⟨O, (by simp only [u0_, u1_, u2_, u3_, u4_, u5_, p3_, p4_, cnd_t, cnd_f, Asc_t, Asc_f]), hs.cast (by first | rfl | simp only [List.take, List.drop, List.cons_append, List.nil_append, List.set_cons_zero, List.set_cons_succ, List.eraseIdx, u0_, u1_, u2_, u3_, u4_, u5_, p3_, p4_, cnd_t, cnd_f, Asc_t, Asc_f])⟩
         ·
          intro D t w rest hall hO12_ hI
          obtain ⟨O, ht, hs⟩ := hI
          have p0_ : D 0 = true := hall 0 (by decide) rfl
          have p1_ : D 1 = true := hall 1 (by decide) rfl
          have p2_ : D 2 = true := hall 2 (by decide) rfl
          have p3_ : D 3 = true := hall 3 (by decide) rfl
          have p4_ : D 4 = true := hall 4 (by decide) rfl
          have p5_ : D 5 = true := hall 5 (by decide) rfl
          simp only [p0_, p1_, p2_, p3_, p4_, p5_, cnd_t, cnd_f, Asc_t, Asc_f] at ht hs
          subst ht
          obtain ⟨rest, rfl, hO13_⟩ := ord_one (m := 63) hO12_ rfl 6 (m' := 127) (by decide +kernel) rfl
          clear hO12_
          obtain ⟨r22, Hr22, H⟩ := bind_get H
          refine s_call (args := [v6, v13]) rfl rfl (x_call rfl (callFunc_enter Try.func22 rfl rfl) rfl) (laws_eqCaseS.calls (a1 := (a1.get 2 [])) (a3 := (a8.get 2 [])) (hs.rd hr7) (hs.rd hr14) Hr22) ?_
          rintro _ w ⟨rfl, hs2⟩
          have hs : St _ [_, _] _ := hs.call hs2
          cases r22 with
          | true =>
            rw [if_pos rfl] at H
            show G _ _ _ _ [_, _, _, _, _, _, _, _, _, _, _, _, _, _, _, _, _, _] _
            obtain ⟨rest, rfl, hO14_⟩ := ord_one (m := 127) hO13_ rfl 7 (m' := 255) (by decide +kernel) rfl
            clear hO13_
            refine g_op (v := Value.bool false) rfl rfl rfl ?_
            show G _ _ _ _ [_, _, _, _, _, _, _, _, _, _, _, _, _, _, _, _, _, _] _
            obtain rfl := ord_end hO14_ rfl (by decide +kernel)
            refine g_ops_nil ?_
            refine g_cond_false rfl ?_
            refine g_skip ?_
            refine g_inBlock ?_
            have hs := hs.pull 1 rfl
            have hs := hs.pull 1 rfl
            have hs : St _ [_, _] _ := St.take (Γ' := []) hs
            exact ha _ _ ⟨H, rfl, hs⟩
          | false =>
            rw [if_neg Bool.false_ne_true] at H
            show G _ _ _ _ [_, _, _, _, _, _, _, _, _, _, _, _, _, _, _, _, _, _] _
            obtain ⟨rest, rfl, hO15_⟩ := ord_one (m := 127) hO13_ rfl 7 (m' := 255) (by decide +kernel) rfl
            clear hO13_
            refine g_op (v := Value.bool true) rfl rfl rfl ?_
            show G _ _ _ _ [_, _, _, _, _, _, _, _, _, _, _, _, _, _, _, _, _, _] _
            obtain rfl := ord_end hO15_ rfl (by decide +kernel)
            refine g_ops_nil ?_
            refine g_cond_true rfl ?_
            refine g_seq ?_
            refine g_region ?_
            show G _ _ _ (.inRegion _ [0] :: _) _ _
            refine g_op (v := Value.bool false) rfl rfl rfl ?_
            show G _ _ _ _ [_, _, _, _, _, _, _, _, _, _, _, _, _, _, _, _, _, _] _
            refine g_ops_nil ?_
            obtain rfl := Option.some.inj H
            subst Hx1_
            have H := Option.some.inj Hr1_
            subst H
            refine g_ret Try.func21 (v := Value.bool false) (res1 rfl rfl) ?_
            have hs : St _ [] _ := St.take (Γ' := [_, _]) hs
            exact ⟨_, rfl, rfl, hs⟩
        ·
         rw [if_neg hk11_] at H
         cases H
    ·
     intro hb
     rw [if_neg (b_dec_f hb)] at H
     show G _ _ _ _ [_, _, _, _, _, _, _, _, _, _, _, _, _, _, _, _, _, _] _
     refine g_ops_nil ?_
     refine g_cond_false rfl ?_
     obtain rfl := Option.some.inj H
     subst Hx1_
     have hs : St _ [] _ := St.take (Γ' := [_, _]) hs
     refine g_exit rfl ?_
     exact ha1_ _ _ ⟨Hr1_, rfl, hs⟩

/- function 23 laws_markCaseS -/
def laws_markCaseS.post (wb : World) (Z : As) (v2 : Value) (r : (Int × (List S_impl_Case))) (v : Value) (w : World) : Prop := v = Value.int .i64 r.1 ∧ St wb [Row 84 k_S_impl_Case v2 r.2, Z] w
set_option maxHeartbeats 8000000 in
set_option maxRecDepth 100000 in
theorem laws_markCaseS.calls {N : Nat} {a1 : (List S_impl_Case)} {a4 : Int} {v2 : Value} {wb : World} {Z : As} {w0 : World} {r : (Int × (List S_impl_Case))} (hs : St wb [Row 84 k_S_impl_Case v2 a1, Z] w0) (H : laws_markCaseS.f N a1 a4 = some r) :
    Calls Try.prog 23 #[v2, Value.int .i64 a4] w0 fun e w => ∃ v, e = .returned v ∧ laws_markCaseS.post wb Z v2 r v w := by
  unfold laws_markCaseS.f at H
  refine calls_of_g (n := 28) Try.func23 rfl rfl ?_
  show G _ _ _ _ [_, _, _, _, _, _, _, _, _, _, _, _, _, _, _, _, _, _, _, _, _, _, _, _, _, _, _, _, _, _] _
  refine g_seq ?_
  refine g_region ?_
  show G _ _ _ (.inRegion _ [0] :: _) _ _
  refine g_op (v := Value.int .i64 0) rfl rfl rfl ?_
  show G _ _ _ _ [_, _, _, _, _, _, _, _, _, _, _, _, _, _, _, _, _, _, _, _, _, _, _, _, _, _, _, _, _, _] _
  refine g_ops_nil ?_
  refine g_seq ?_
  refine g_seq ?_
  refine g_region ?_
  show G _ _ _ (.inRegion _ [0] :: _) _ _
  refine g_op (v := Value.int .i64 0) rfl rfl rfl ?_
  show G _ _ _ _ [_, _, _, _, _, _, _, _, _, _, _, _, _, _, _, _, _, _, _, _, _, _, _, _, _, _, _, _, _, _] _
  refine g_ops_nil ?_
  obtain ⟨o1_, Ho, Hr1_⟩ := bind_get H
  refine g_block_join (J := fun t w => ∃ x14 : Int, ∃ x15 : (List S_impl_Case), laws_markCaseS.a0 N x14 x15 = some r ∧ Fr t (fun O => ([O 0, Value.int .i64 x14, O 2, O 3, O 4, O 5, O 6, O 7, O 8, O 9, O 10, O 11, O 12, O 13, O 14, O 15, O 16, O 17, O 18, O 19, O 20, O 21, O 22, O 23, O 24, O 25, O 26, O 27, O 28, O 29] : List Value)) ∧ St wb [Row 84 k_S_impl_Case v2 x15, Z] w) ?_ ?_
  ·
   rintro t w ⟨x14, x15, H, hf, hs⟩
   obtain ⟨O, rfl⟩ := hf.open
   show G _ _ _ _ [_, _, _, _, _, _, _, _, _, _, _, _, _, _, _, _, _, _, _, _, _, _, _, _, _, _, _, _, _, _] _
   unfold laws_markCaseS.a0 at H
   refine g_seq ?_
   refine g_region ?_
   show G _ _ _ (.inRegion _ [0, 1] :: _) _ _
   refine g_op (v := Value.int .i64 x14) rfl rfl rfl ?_
   refine g_op (v := Value.int .i64 x14) rfl rfl rfl ?_
   show G _ _ _ _ [_, _, _, _, _, _, _, _, _, _, _, _, _, _, _, _, _, _, _, _, _, _, _, _, _, _, _, _, _, _] _
   refine g_ops_nil ?_
   obtain rfl := Option.some.inj H
   refine g_ret Try.func23 (v := Value.int .i64 x14) (res1 rfl rfl) ?_
   have hs := hs.pull 1 rfl
   have hs := hs.pull 1 rfl
   have hs : St _ [_, _] _ := St.take (Γ' := []) hs
   exact ⟨_, rfl, rfl, hs⟩
  ·
   intro ha1_
   have hs := hs.pull 1 rfl
   have hs := hs.pull 1 rfl
   have hs : St _ [_, _] _ := St.take (Γ' := []) hs
   refine g_loop_fuel (I := fun n_ t w => ∃ x9 : (List S_impl_Case), ∃ x10 : Int, ∃ x11 : Int, rounds (fun s => laws_markCaseS.b0 N s.1 s.2.1 s.2.2) n_ (x9, x10, x11) = some o1_ ∧ Fr t (fun O => ([v2, Value.int .i64 x10, O 2, O 3, O 4, Value.int .i64 x11, O 6, O 7, O 8, O 9, O 10, O 11, O 12, O 13, O 14, O 15, O 16, O 17, O 18, O 19, O 20, O 21, O 22, O 23, O 24, O 25, O 26, O 27, O 28, O 29] : List Value)) ∧ St wb [Row 84 k_S_impl_Case v2 x9, Z] w) N ⟨a1, a4, 0, Ho, rfl, hs⟩ ?_ ?_
   ·
    rintro _ _ ⟨x9, x10, x11, h, _⟩
    exact rounds_zero h
   ·
    intro n_ ih1_
    rintro t w ⟨x9, x10, x11, Ho, hf, hs⟩
    obtain ⟨O, rfl⟩ := hf.open
    show G _ _ _ _ [_, _, _, _, _, _, _, _, _, _, _, _, _, _, _, _, _, _, _, _, _, _, _, _, _, _, _, _, _, _] _
    obtain ⟨x5_, H, Hx1_⟩ := rounds_succ Ho
    have H : laws_markCaseS.b0 N x9 x10 x11 = some x5_ := H
    unfold laws_markCaseS.b0 at H
    refine g_seq ?_
    refine g_seq ?_
    refine g_region ?_
    show G _ _ _ (.inRegion _ [0, 1, 2, 3] :: _) _ _
    refine g_op (v := Value.int .i64 x11) rfl rfl rfl ?_
    refine g_op (v := v2) rfl rfl rfl ?_
    refine s_len (hs.row 0 rfl) rfl rfl rfl rfl rfl ?_
    show G _ _ _ _ [_, _, _, _, _, _, _, _, _, _, _, _, _, _, _, _, _, _, _, _, _, _, _, _, _, _, _, _, _, _] _
    refine g_op_b (B := decide (x11 < (x9.length : Int))) rfl rfl rfl ?_ ?_
    ·
     intro hb
     rw [if_pos (b_dec_t hb)] at H
     show G _ _ _ _ [_, _, _, _, _, _, _, _, _, _, _, _, _, _, _, _, _, _, _, _, _, _, _, _, _, _, _, _, _, _] _
     refine g_ops_nil ?_
     refine g_cond_true rfl ?_
     refine g_skip ?_
     refine g_seq ?_
     refine g_block ?_
     refine g_seq ?_
     refine g_region ?_
     show G _ _ _ (.inRegion _ [0, 1, 2, 3, 4, 5, 6] :: _) _ _
     refine g_op (v := v2) rfl rfl rfl ?_
     refine g_op (v := Value.int .i64 x11) rfl rfl rfl ?_
     refine g_op (v := Value.int .i64 x10) rfl rfl rfl ?_
     refine g_op (v := Value.int .i8 (i8w x10)) rfl rfl rfl ?_
     obtain ⟨g3, H⟩ := ite_get H
     refine s_idx fk_S_impl_Case z_S_impl_Case (hs.row 0 rfl) rfl (fun _ => rfl) g3.1 g3.2 rfl rfl rfl rfl rfl ?_
     intro p12 hp12 lp12 op12
     show G _ _ _ _ [_, _, _, _, _, _, _, _, _, _, _, _, _, _, _, _, _, _, _, _, _, _, _, _, _, _, _, _, _, _] _
     refine g_op (v := Value.pointer (some (p12.add 0))) rfl rfl (x_fieldAt rfl rfl rfl rfl rfl (m := 1) (fun _ => rfl) (by decide)) ?_
     refine s_stFld (y := (⟨i8w x10, (rdL x9 x11 z_S_impl_Case).f_Heavy⟩ : S_impl_Case)) (off := 0) (fs := ((encI .i8) (i8w x10))) fk_S_impl_Case z_S_impl_Case g3.1 g3.2 op12 hs rfl rfl rfl rfl rfl (fun _ => rfl) ((fkI .i8).len _) ((fkI .i8).one _) (by decide) (by first | rfl | simp [enc_S_impl_Case, encA_len]) ?_
     intro w hs
     refine g_ops_nil ?_
     refine g_seq ?_
     refine g_region ?_
     show G _ _ _ (.inRegion _ [0, 1, 2] :: _) _ _
     refine g_op (v := Value.int .i64 x10) rfl rfl rfl ?_
     refine g_op (v := Value.int .i64 (i64w (x10 + 1))) rfl rfl rfl ?_
     show G _ _ _ _ [_, _, _, _, _, _, _, _, _, _, _, _, _, _, _, _, _, _, _, _, _, _, _, _, _, _, _, _, _, _] _
     refine g_op (v := Value.int .i64 (i64w (x10 + 1))) rfl rfl rfl ?_
     show G _ _ _ _ [_, _, _, _, _, _, _, _, _, _, _, _, _, _, _, _, _, _, _, _, _, _, _, _, _, _, _, _, _, _] _
     refine g_ops_nil ?_
     refine g_seq ?_
     refine g_region ?_
     show G _ _ _ (.inRegion _ [0, 1, 2, 3, 4, 5, 6, 7] :: _) _ _
     refine g_op (v := v2) rfl rfl rfl ?_
     refine g_op (v := Value.int .i64 x11) rfl rfl rfl ?_
     refine g_op (v := Value.int .i64 (i64w (x10 + 1))) rfl rfl rfl ?_
     refine g_op (v := Value.int .i64 ((i64w (x10 + 1)).tmod 3)) rfl rfl rfl ?_
     show G _ _ _ _ [_, _, _, _, _, _, _, _, _, _, _, _, _, _, _, _, _, _, _, _, _, _, _, _, _, _, _, _, _, _] _
     refine g_op (v := Value.bool (((i64w (x10 + 1)).tmod 3) == 0)) rfl rfl rfl ?_
     show G _ _ _ _ [_, _, _, _, _, _, _, _, _, _, _, _, _, _, _, _, _, _, _, _, _, _, _, _, _, _, _, _, _, _] _
     obtain ⟨g4, H⟩ := ite_get H
     refine s_idx fk_S_impl_Case z_S_impl_Case (hs.row 0 rfl) rfl (fun _ => rfl) g4.1 g4.2 rfl rfl rfl rfl rfl ?_
     intro p13 hp13 lp13 op13
     show G _ _ _ _ [_, _, _, _, _, _, _, _, _, _, _, _, _, _, _, _, _, _, _, _, _, _, _, _, _, _, _, _, _, _] _
     refine g_op (v := Value.pointer (some (p13.add 1))) rfl rfl (x_fieldAt rfl rfl rfl rfl rfl (m := 1) (fun _ => rfl) (by decide)) ?_
     refine s_stFld (y := (⟨(rdL (stL x9 x11 (⟨i8w x10, (rdL x9 x11 z_S_impl_Case).f_Heavy⟩ : S_impl_Case)) x11 z_S_impl_Case).f_Coin, ((i64w (x10 + 1)).tmod 3) == 0⟩ : S_impl_Case)) (off := 1) (fs := (encB (((i64w (x10 + 1)).tmod 3) == 0))) fk_S_impl_Case z_S_impl_Case g4.1 g4.2 op13 hs rfl rfl rfl rfl rfl (fun _ => rfl) (fkB.len _) (fkB.one _) (by decide) (by first | rfl | simp [enc_S_impl_Case, encA_len]) ?_
     intro w hs
     refine g_ops_nil ?_
     refine g_region ?_
     show G _ _ _ (.inRegion _ [0, 1, 2] :: _) _ _
     refine g_op (v := Value.int .i64 (i64w (x10 + 1))) rfl rfl rfl ?_
     refine g_op (v := Value.int .i64 (i64w ((i64w (x10 + 1)) + 1))) rfl rfl rfl ?_
     show G _ _ _ _ [_, _, _, _, _, _, _, _, _, _, _, _, _, _, _, _, _, _, _, _, _, _, _, _, _, _, _, _, _, _] _
     refine g_op (v := Value.int .i64 (i64w ((i64w (x10 + 1)) + 1))) rfl rfl rfl ?_
     show G _ _ _ _ [_, _, _, _, _, _, _, _, _, _, _, _, _, _, _, _, _, _, _, _, _, _, _, _, _, _, _, _, _, _] _
     refine g_ops_nil ?_
     refine g_inBlock ?_
     refine g_region ?_
     show G _ _ _ (.inRegion _ [0, 1, 2] :: _) _ _
     refine g_op (v := Value.int .i64 x11) rfl rfl rfl ?_
     refine g_op (v := Value.int .i64 (i64w (x11 + 1))) rfl rfl rfl ?_
     show G _ _ _ _ [_, _, _, _, _, _, _, _, _, _, _, _, _, _, _, _, _, _, _, _, _, _, _, _, _, _, _, _, _, _] _
     refine g_op (v := Value.int .i64 (i64w (x11 + 1))) rfl rfl rfl ?_
     show G _ _ _ _ [_, _, _, _, _, _, _, _, _, _, _, _, _, _, _, _, _, _, _, _, _, _, _, _, _, _, _, _, _, _] _
     refine g_ops_nil ?_
     obtain rfl := Option.some.inj H
     have hs := hs.pull 1 rfl
     have hs := hs.pull 1 rfl
     have hs : St _ [_, _] _ := St.take (Γ' := []) hs
     exact ih1_ _ _ ⟨stL (stL x9 x11 (⟨i8w x10, (rdL x9 x11 z_S_impl_Case).f_Heavy⟩ : S_impl_Case)) x11 (⟨(rdL (stL x9 x11 (⟨i8w x10, (rdL x9 x11 z_S_impl_Case).f_Heavy⟩ : S_impl_Case)) x11 z_S_impl_Case).f_Coin, ((i64w (x10 + 1)).tmod 3) == 0⟩ : S_impl_Case), i64w ((i64w (x10 + 1)) + 1), i64w (x11 + 1), Hx1_, rfl, hs⟩
    ·
     intro hb
     rw [if_neg (b_dec_f hb)] at H
     show G _ _ _ _ [_, _, _, _, _, _, _, _, _, _, _, _, _, _, _, _, _, _, _, _, _, _, _, _, _, _, _, _, _, _] _
     refine g_ops_nil ?_
     refine g_cond_false rfl ?_
     obtain rfl := Option.some.inj H
     subst Hx1_
     have hs := hs.pull 1 rfl
     have hs := hs.pull 1 rfl
     have hs : St _ [_, _] _ := St.take (Γ' := []) hs
     refine g_exit rfl ?_
     exact ha1_ _ _ ⟨x10, x9, Hr1_, rfl, hs⟩

end Go.Proofs.YtcocgeodfbiehaaX
