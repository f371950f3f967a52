/- Contracts, printed by gen.py. -/
import Derived.Test.YtgachgjcnmeicaaXC2
namespace Go.Proofs.YtgachgjcnmeicaaX
open Go Go.RowKit Go.Proofs
set_option linter.unusedVariables false
set_option linter.unusedSimpArgs false
/- function 69 spec_l07Run -/
def spec_l07Run.post (w0 : World) (r : ((List Int) × (Ar Int 4) × Int)) (v : Value) (w : World) : Prop := ∃ u1 : Value, v = Value.tuple #[u1, Value.agg ((encA (encI .i16)) r.2.1).toArray, Value.int .i64 r.2.2] ∧ St w0 [Row 2 (K.int .i64) u1 r.1] w
set_option maxHeartbeats 400000 in
set_option maxRecDepth 100000 in
theorem spec_l07Run.calls {N : Nat} {a1 : (List Int)} {a3 : (Ar Int 4)} {a4 : (List Int)} {v2 : Value} {v5 : Value} {w0 : World} {r : ((List Int) × (Ar Int 4) × Int)} (hr0 : RdRow (K.int .i16) w0 v2 a1) (hr2 : RdRow (K.int .u8) w0 v5 a4) (H : spec_l07Run.f N a1 a3 a4 = some r) :
    Calls Try.prog 69 #[v2, Value.agg ((encA (encI .i16)) a3).toArray, v5] w0 fun e w => ∃ v, e = .returned v ∧ spec_l07Run.post w0 r v w := by
  unfold spec_l07Run.f at H
  have hs : St w0 [] w0 := St.refl w0
  refine calls_of_g (n := 58) Try.func69 rfl rfl ?_
  show G _ _ _ _ [_, _, _, _, _, _, _, _, _, _, _, _, _, _, _, _, _, _, _, _, _, _, _, _, _, _, _, _, _, _, _, _, _, _, _, _, _, _, _, _, _, _, _, _, _, _, _, _, _, _, _, _, _, _, _, _, _, _, _, _, _] _
  refine g_seq ?_
  refine g_region ?_
  show G _ _ _ (.inRegion _ [0, 1, 2, 3] :: _) _ _
  refine s_box hs rfl rfl (cs := ((encA (encI .i16)) a3)) rfl rfl ?_
  intro b6 w hs
  show G _ _ _ _ [_, _, _, _, _, _, _, _, _, _, _, _, _, _, _, _, _, _, _, _, _, _, _, _, _, _, _, _, _, _, _, _, _, _, _, _, _, _, _, _, _, _, _, _, _, _, _, _, _, _, _, _, _, _, _, _, _, _, _, _, _] _
  refine g_op (v := Value.slice none 0 0) rfl rfl rfl ?_
  show G _ _ _ _ [_, _, _, _, _, _, _, _, _, _, _, _, _, _, _, _, _, _, _, _, _, _, _, _, _, _, _, _, _, _, _, _, _, _, _, _, _, _, _, _, _, _, _, _, _, _, _, _, _, _, _, _, _, _, _, _, _, _, _, _, _] _
  refine s_alloc hs rfl rfl (z := (Value.agg #[Value.int .i16 0, Value.int .i16 0, Value.int .i16 0, Value.int .i16 0])) (cs := ((encA (encI .i16)) (Ar.rep 4 0))) rfl (fun _ => rfl) rfl ?_
  intro b8 w hs
  show G _ _ _ _ [_, _, _, _, _, _, _, _, _, _, _, _, _, _, _, _, _, _, _, _, _, _, _, _, _, _, _, _, _, _, _, _, _, _, _, _, _, _, _, _, _, _, _, _, _, _, _, _, _, _, _, _, _, _, _, _, _, _, _, _, _] _
  refine g_op (v := Value.int .i64 0) rfl rfl rfl ?_
  show G _ _ _ _ [_, _, _, _, _, _, _, _, _, _, _, _, _, _, _, _, _, _, _, _, _, _, _, _, _, _, _, _, _, _, _, _, _, _, _, _, _, _, _, _, _, _, _, _, _, _, _, _, _, _, _, _, _, _, _, _, _, _, _, _, _] _
  refine g_ops_nil ?_
  refine g_seq ?_
  refine g_seq ?_
  refine g_region ?_
  show G _ _ _ (.inRegion _ [0, 1, 2] :: _) _ _
  refine g_op (v := v5) rfl rfl rfl ?_
  show G _ _ _ _ [_, _, _, _, _, _, _, _, _, _, _, _, _, _, _, _, _, _, _, _, _, _, _, _, _, _, _, _, _, _, _, _, _, _, _, _, _, _, _, _, _, _, _, _, _, _, _, _, _, _, _, _, _, _, _, _, _, _, _, _, _] _
  refine s_len (hs.rd hr2) rfl rfl rfl rfl rfl ?_
  show G _ _ _ _ [_, _, _, _, _, _, _, _, _, _, _, _, _, _, _, _, _, _, _, _, _, _, _, _, _, _, _, _, _, _, _, _, _, _, _, _, _, _, _, _, _, _, _, _, _, _, _, _, _, _, _, _, _, _, _, _, _, _, _, _, _] _
  refine g_op_b (B := decide ((a4.length : Int) > 60)) rfl rfl rfl ?_ ?_
  · intro hb
    rw [if_pos (b_dec_t hb)] at H
    show G _ _ _ _ [_, _, _, _, _, _, _, _, _, _, _, _, _, _, _, _, _, _, _, _, _, _, _, _, _, _, _, _, _, _, _, _, _, _, _, _, _, _, _, _, _, _, _, _, _, _, _, _, _, _, _, _, _, _, _, _, _, _, _, _, _] _
    refine g_ops_nil ?_
    refine g_cond_true rfl ?_
    refine g_seq ?_
    refine g_region ?_
    show G _ _ _ (.inRegion _ [0, 1, 2, 3, 4] :: _) _ _
    refine s_lit0 (κ := (K.int .i64)) hs rfl rfl rfl rfl (fun _ => rfl) ?_
    intro v10 w hs
    show G _ _ _ _ [_, _, _, _, _, _, _, _, _, _, _, _, _, _, _, _, _, _, _, _, _, _, _, _, _, _, _, _, _, _, _, _, _, _, _, _, _, _, _, _, _, _, _, _, _, _, _, _, _, _, _, _, _, _, _, _, _, _, _, _, _] _
    refine g_op (v := Value.agg ((encA (encI .i16)) (Ar.rep 4 0)).toArray) rfl rfl (x_build rfl rfl) ?_
    show G _ _ _ _ [_, _, _, _, _, _, _, _, _, _, _, _, _, _, _, _, _, _, _, _, _, _, _, _, _, _, _, _, _, _, _, _, _, _, _, _, _, _, _, _, _, _, _, _, _, _, _, _, _, _, _, _, _, _, _, _, _, _, _, _, _] _
    refine g_op (v := v10) rfl rfl rfl ?_
    show G _ _ _ _ [_, _, _, _, _, _, _, _, _, _, _, _, _, _, _, _, _, _, _, _, _, _, _, _, _, _, _, _, _, _, _, _, _, _, _, _, _, _, _, _, _, _, _, _, _, _, _, _, _, _, _, _, _, _, _, _, _, _, _, _, _] _
    have hs := hs.pull 1 rfl
    have hs : St _ [_, _, _] _ := hs
    refine s_storeAll (n := 4) hs ((fkA (n := 4) (he := (fkI .i16).len) (h1 := (fkI .i16).one)).len _) rfl rfl (vs := ((encA (encI .i16)) (Ar.rep 4 0))) rfl rfl rfl (fun _ => rfl) ((fkA (n := 4) (he := (fkI .i16).len) (h1 := (fkI .i16).one)).len _) ((fkA (n := 4) (he := (fkI .i16).len) (h1 := (fkI .i16).one)).one _) ?_
    intro w hs
    refine g_op (v := Value.int .i64 3) rfl rfl rfl ?_
    show G _ _ _ _ [_, _, _, _, _, _, _, _, _, _, _, _, _, _, _, _, _, _, _, _, _, _, _, _, _, _, _, _, _, _, _, _, _, _, _, _, _, _, _, _, _, _, _, _, _, _, _, _, _, _, _, _, _, _, _, _, _, _, _, _, _] _
    refine g_ops_nil ?_
    obtain rfl := Option.some.inj H
    refine g_ret Try.func69 (v := Value.tuple #[v10, Value.agg ((encA (encI .i16)) (Ar.rep 4 0)).toArray, Value.int .i64 3]) (resN (l := Try.f69.results.toList) (vs := [v10, Value.agg ((encA (encI .i16)) (Ar.rep 4 0)).toArray, Value.int .i64 3]) rfl ⟨rfl, ⟨_, rfl, (run_loadVar_agg (es := ((encA (encI .i16)) (Ar.rep 4 0))) rfl (congrArg (Result.ok · _) ((fkA (n := 4) (he := (fkI .i16).len) (h1 := (fkI .i16).one)).len _).symm) (cells_all (hs.cells 0 rfl)))⟩, rfl, trivial⟩ (by simp)) ?_
    have hs := hs.pull 1 rfl
    have hs : St _ [_] _ := St.take (Γ' := [_, _]) hs
    exact ⟨_, rfl, v10, rfl, hs⟩
  · intro hb
    rw [if_neg (b_dec_f hb)] at H
    show G _ _ _ _ [_, _, _, _, _, _, _, _, _, _, _, _, _, _, _, _, _, _, _, _, _, _, _, _, _, _, _, _, _, _, _, _, _, _, _, _, _, _, _, _, _, _, _, _, _, _, _, _, _, _, _, _, _, _, _, _, _, _, _, _, _] _
    refine g_ops_nil ?_
    refine g_cond_false rfl ?_
    refine g_skip ?_
    refine g_seq ?_
    refine g_region ?_
    show G _ _ _ (.inRegion _ [0, 1] :: _) _ _
    refine s_lit0 (κ := (K.int .i64)) hs rfl rfl rfl rfl (fun _ => rfl) ?_
    intro v12 w hs
    show G _ _ _ _ [_, _, _, _, _, _, _, _, _, _, _, _, _, _, _, _, _, _, _, _, _, _, _, _, _, _, _, _, _, _, _, _, _, _, _, _, _, _, _, _, _, _, _, _, _, _, _, _, _, _, _, _, _, _, _, _, _, _, _, _, _] _
    refine g_op (v := v12) rfl rfl rfl ?_
    show G _ _ _ _ [_, _, _, _, _, _, _, _, _, _, _, _, _, _, _, _, _, _, _, _, _, _, _, _, _, _, _, _, _, _, _, _, _, _, _, _, _, _, _, _, _, _, _, _, _, _, _, _, _, _, _, _, _, _, _, _, _, _, _, _, _] _
    refine g_ops_nil ?_
    refine g_seq ?_
    refine g_region ?_
    show G _ _ _ (.inRegion _ [0] :: _) _ _
    refine g_op (v := Value.int .i64 0) rfl rfl rfl ?_
    show G _ _ _ _ [_, _, _, _, _, _, _, _, _, _, _, _, _, _, _, _, _, _, _, _, _, _, _, _, _, _, _, _, _, _, _, _, _, _, _, _, _, _, _, _, _, _, _, _, _, _, _, _, _, _, _, _, _, _, _, _, _, _, _, _, _] _
    refine g_ops_nil ?_
    refine g_seq ?_
    refine g_seq ?_
    refine g_region ?_
    show G _ _ _ (.inRegion _ [0] :: _) _ _
    refine g_op (v := Value.int .i64 0) rfl rfl rfl ?_
    show G _ _ _ _ [_, _, _, _, _, _, _, _, _, _, _, _, _, _, _, _, _, _, _, _, _, _, _, _, _, _, _, _, _, _, _, _, _, _, _, _, _, _, _, _, _, _, _, _, _, _, _, _, _, _, _, _, _, _, _, _, _, _, _, _, _] _
    refine g_ops_nil ?_
    obtain ⟨o1_, Ho, Hr1_⟩ := bind_get H
    refine g_block_join (J := fun t w => ∃ x53 : (Ar Int 4), ∃ v54 : Value, ∃ x55 : (List Int), spec_l07Run.a0 N x53 x55 = some r ∧ Fr t (fun O => ([O 0, O 1, O 2, O 3, Value.pointer (some ⟨b6, 0, none⟩), O 5, O 6, Value.pointer (some ⟨b8, 0, none⟩), O 8, v54, O 10, O 11, O 12, O 13, O 14, O 15, O 16, O 17, O 18, O 19, O 20, O 21, O 22, O 23, O 24, O 25, O 26, O 27, O 28, O 29, O 30, O 31, O 32, O 33, O 34, O 35, O 36, O 37, O 38, O 39, O 40, O 41, O 42, O 43, O 44, O 45, O 46, O 47, O 48, O 49, O 50, O 51, O 52, O 53, O 54, O 55, O 56, O 57, O 58, O 59, O 60] : List Value)) ∧ St w0 [Cells b6 ((encA (encI .i16)) x53) 37, Cells b8 ((encA (encI .i16)) (Ar.rep 4 0)) 37, Row 2 (K.int .i64) v54 x55] w) ?_ ?_
    · rintro t w ⟨x53, v54, x55, H, hf, hs⟩
      obtain ⟨O, rfl⟩ := hf.open
      show G _ _ _ _ [_, _, _, _, _, _, _, _, _, _, _, _, _, _, _, _, _, _, _, _, _, _, _, _, _, _, _, _, _, _, _, _, _, _, _, _, _, _, _, _, _, _, _, _, _, _, _, _, _, _, _, _, _, _, _, _, _, _, _, _, _] _
      unfold spec_l07Run.a0 at H
      refine g_seq ?_
      refine g_name ?_
      intro T hT
      refine g_any (n := 5) rfl [0, 1, 2, 3, 4] [0, 2, 1, 3, 4] rfl rfl (Inv := fun D t w => ∃ O : Nat → Value, t = [O 0, O 1, O 2, O 3, Value.pointer (some ⟨b6, 0, none⟩), O 5, cnd (D 2) v54 (O 6), Value.pointer (some ⟨b8, 0, none⟩), cnd (D 4) (Value.int .i64 0) (O 8), v54, O 10, O 11, O 12, O 13, O 14, O 15, O 16, O 17, O 18, O 19, O 20, O 21, O 22, O 23, O 24, O 25, O 26, O 27, O 28, O 29, O 30, O 31, O 32, O 33, O 34, O 35, O 36, O 37, O 38, O 39, O 40, O 41, O 42, O 43, O 44, O 45, O 46, O 47, O 48, O 49, O 50, O 51, O 52, O 53, O 54, O 55, O 56, O 57, O 58, cnd (D 0) v54 (O 59), cnd (D 1) (Value.agg ((encA (encI .i16)) x53).toArray) (O 60)] ∧ St w0 [Cells b6 ((encA (encI .i16)) x53) 37, Cells b8 (cnd (D 3) ((encA (encI .i16)) x53) ((encA (encI .i16)) (Ar.rep 4 0))) 37, Row 2 (K.int .i64) v54 x55] w) ?_ ⟨⟨⟨⟨⟨trivial, ?_⟩, ?_⟩, ?_⟩, ?_⟩, ?_⟩ ?_
      · intro w hh hbw
        have hs := hs.samew hh hbw
        exact ⟨fun i => T.getD i undef, (by subst hT; rfl), hs⟩
      · intro D t w hD hp hcl hI rest hk
        obtain ⟨O, ht, hs⟩ := hI
        have q2_ : D 2 = false := not_yet (hcl.get 2 (by decide)) 0 0 rfl hD
        have q3_ : D 3 = false := not_yet (hcl.get 3 (by decide)) 1 2 rfl q2_
        have q4_ : D 4 = false := not_yet (hcl.get 4 (by decide)) 0 3 rfl q3_
        have u0_ : upd D 0 0 = true := rfl
        have u1_ : upd D 0 1 = D 1 := rfl
        have u2_ : upd D 0 2 = D 2 := rfl
        have u3_ : upd D 0 3 = D 3 := rfl
        have u4_ : upd D 0 4 = D 4 := rfl
        simp only [hD, q2_, q3_, q4_, cnd_t, cnd_f, Asc_t, Asc_f] at ht hs
        subst ht
        refine g_op (v := v54) rfl rfl rfl ?_
        show G _ _ _ _ [_, _, _, _, _, _, _, _, _, _, _, _, _, _, _, _, _, _, _, _, _, _, _, _, _, _, _, _, _, _, _, _, _, _, _, _, _, _, _, _, _, _, _, _, _, _, _, _, _, _, _, _, _, _, _, _, _, _, _, _, _] _
        exact hk _ _ ⟨O, (by simp only [u0_, u1_, u2_, u3_, u4_, q2_, q3_, q4_, cnd_t, cnd_f, Asc_t, Asc_f]), hs.cast (by first | rfl | simp only [List.take, List.drop, List.cons_append, List.nil_append, List.set_cons_zero, List.set_cons_succ, List.eraseIdx, u0_, u1_, u2_, u3_, u4_, q2_, q3_, q4_, cnd_t, cnd_f, Asc_t, Asc_f])⟩
      · intro D t w hD hp hcl hI rest hk
        obtain ⟨O, ht, hs⟩ := hI
        have q3_ : D 3 = false := not_yet (hcl.get 3 (by decide)) 0 1 rfl hD
        have q4_ : D 4 = false := not_yet (hcl.get 4 (by decide)) 0 3 rfl q3_
        have u0_ : upd D 1 0 = D 0 := rfl
        have u1_ : upd D 1 1 = true := rfl
        have u2_ : upd D 1 2 = D 2 := rfl
        have u3_ : upd D 1 3 = D 3 := rfl
        have u4_ : upd D 1 4 = D 4 := rfl
        simp only [hD, q3_, q4_, cnd_t, cnd_f, Asc_t, Asc_f] at ht hs
        subst ht
        refine s_loadA rfl rfl (es := ((encA (encI .i16)) x53)) rfl rfl (fun _ => rfl) (n := 4) (fun _ => rfl) ((fkA (n := 4) (he := (fkI .i16).len) (h1 := (fkI .i16).one)).len _) (cells_all (hs.cells 0 rfl)) ?_
        show G _ _ _ _ [_, _, _, _, _, _, _, _, _, _, _, _, _, _, _, _, _, _, _, _, _, _, _, _, _, _, _, _, _, _, _, _, _, _, _, _, _, _, _, _, _, _, _, _, _, _, _, _, _, _, _, _, _, _, _, _, _, _, _, _, _] _
        exact hk _ _ ⟨O, (by simp only [u0_, u1_, u2_, u3_, u4_, q3_, q4_, cnd_t, cnd_f, Asc_t, Asc_f]), hs.cast (by first | rfl | simp only [List.take, List.drop, List.cons_append, List.nil_append, List.set_cons_zero, List.set_cons_succ, List.eraseIdx, u0_, u1_, u2_, u3_, u4_, q3_, q4_, cnd_t, cnd_f, Asc_t, Asc_f])⟩
      · intro D t w hD hp hcl hI rest hk
        obtain ⟨O, ht, hs⟩ := hI
        obtain ⟨p0_, _, _⟩ := hp
        have q3_ : D 3 = false := not_yet (hcl.get 3 (by decide)) 1 2 rfl hD
        have q4_ : D 4 = false := not_yet (hcl.get 4 (by decide)) 0 3 rfl q3_
        have u0_ : upd D 2 0 = D 0 := rfl
        have u1_ : upd D 2 1 = D 1 := rfl
        have u2_ : upd D 2 2 = true := rfl
        have u3_ : upd D 2 3 = D 3 := rfl
        have u4_ : upd D 2 4 = D 4 := rfl
        simp only [hD, p0_, q3_, q4_, cnd_t, cnd_f, Asc_t, Asc_f] at ht hs
        subst ht
        refine g_op (v := v54) rfl rfl rfl ?_
        show G _ _ _ _ [_, _, _, _, _, _, _, _, _, _, _, _, _, _, _, _, _, _, _, _, _, _, _, _, _, _, _, _, _, _, _, _, _, _, _, _, _, _, _, _, _, _, _, _, _, _, _, _, _, _, _, _, _, _, _, _, _, _, _, _, _] _
        exact hk _ _ ⟨O, (by simp only [u0_, u1_, u2_, u3_, u4_, p0_, q3_, q4_, cnd_t, cnd_f, Asc_t, Asc_f]), hs.cast (by first | rfl | simp only [List.take, List.drop, List.cons_append, List.nil_append, List.set_cons_zero, List.set_cons_succ, List.eraseIdx, u0_, u1_, u2_, u3_, u4_, p0_, q3_, q4_, cnd_t, cnd_f, Asc_t, Asc_f])⟩
      · intro D t w hD hp hcl hI rest hk
        obtain ⟨O, ht, hs⟩ := hI
        obtain ⟨p1_, p2_, p0_, _, _, _⟩ := hp
        have q4_ : D 4 = false := not_yet (hcl.get 4 (by decide)) 0 3 rfl hD
        have u0_ : upd D 3 0 = D 0 := rfl
        have u1_ : upd D 3 1 = D 1 := rfl
        have u2_ : upd D 3 2 = D 2 := rfl
        have u3_ : upd D 3 3 = true := rfl
        have u4_ : upd D 3 4 = D 4 := rfl
        simp only [hD, p0_, p1_, p2_, q4_, cnd_t, cnd_f, Asc_t, Asc_f] at ht hs
        subst ht
        have hs := hs.pull 1 rfl
        have hs : St _ [_, _, _] _ := hs
        refine s_storeAll (n := 4) hs ((fkA (n := 4) (he := (fkI .i16).len) (h1 := (fkI .i16).one)).len _) rfl rfl (vs := ((encA (encI .i16)) x53)) rfl rfl rfl (fun _ => rfl) ((fkA (n := 4) (he := (fkI .i16).len) (h1 := (fkI .i16).one)).len _) ((fkA (n := 4) (he := (fkI .i16).len) (h1 := (fkI .i16).one)).one _) ?_
        intro w hs
        show G _ _ _ _ [_, _, _, _, _, _, _, _, _, _, _, _, _, _, _, _, _, _, _, _, _, _, _, _, _, _, _, _, _, _, _, _, _, _, _, _, _, _, _, _, _, _, _, _, _, _, _, _, _, _, _, _, _, _, _, _, _, _, _, _, _] _
        have hs := hs.push 1 (by simp)
        exact hk _ _ ⟨O, (by simp only [u0_, u1_, u2_, u3_, u4_, p0_, p1_, p2_, q4_, cnd_t, cnd_f, Asc_t, Asc_f]), hs.cast (by first | rfl | simp only [List.take, List.drop, List.cons_append, List.nil_append, List.set_cons_zero, List.set_cons_succ, List.eraseIdx, u0_, u1_, u2_, u3_, u4_, p0_, p1_, p2_, q4_, cnd_t, cnd_f, Asc_t, Asc_f])⟩
      · intro D t w hD hp hcl hI rest hk
        obtain ⟨O, ht, hs⟩ := hI
        obtain ⟨p3_, p0_, p1_, p2_, _, _⟩ := hp
        have u0_ : upd D 4 0 = D 0 := rfl
        have u1_ : upd D 4 1 = D 1 := rfl
        have u2_ : upd D 4 2 = D 2 := rfl
        have u3_ : upd D 4 3 = D 3 := rfl
        have u4_ : upd D 4 4 = true := rfl
        simp only [hD, p0_, p1_, p2_, p3_, cnd_t, cnd_f, Asc_t, Asc_f] at ht hs
        subst ht
        refine g_op (v := Value.int .i64 0) rfl rfl rfl ?_
        show G _ _ _ _ [_, _, _, _, _, _, _, _, _, _, _, _, _, _, _, _, _, _, _, _, _, _, _, _, _, _, _, _, _, _, _, _, _, _, _, _, _, _, _, _, _, _, _, _, _, _, _, _, _, _, _, _, _, _, _, _, _, _, _, _, _] _
        exact hk _ _ ⟨O, (by simp only [u0_, u1_, u2_, u3_, u4_, p0_, p1_, p2_, p3_, cnd_t, cnd_f, Asc_t, Asc_f]), hs.cast (by first | rfl | simp only [List.take, List.drop, List.cons_append, List.nil_append, List.set_cons_zero, List.set_cons_succ, List.eraseIdx, u0_, u1_, u2_, u3_, u4_, p0_, p1_, p2_, p3_, cnd_t, cnd_f, Asc_t, Asc_f])⟩
      · intro D t w hall hI
        obtain ⟨O, ht, hs⟩ := hI
        have p0_ := hall 0 (by decide)
        have p1_ := hall 1 (by decide)
        have p2_ := hall 2 (by decide)
        have p3_ := hall 3 (by decide)
        have p4_ := hall 4 (by decide)
        simp only [p0_, p1_, p2_, p3_, p4_, cnd_t, cnd_f, Asc_t, Asc_f] at ht hs
        subst ht
        obtain rfl := Option.some.inj H
        refine g_ret Try.func69 (v := Value.tuple #[v54, Value.agg ((encA (encI .i16)) x53).toArray, Value.int .i64 0]) (resN (l := Try.f69.results.toList) (vs := [v54, Value.agg ((encA (encI .i16)) x53).toArray, Value.int .i64 0]) rfl ⟨rfl, ⟨_, rfl, (run_loadVar_agg (es := ((encA (encI .i16)) x53)) rfl (congrArg (Result.ok · _) ((fkA (n := 4) (he := (fkI .i16).len) (h1 := (fkI .i16).one)).len _).symm) (cells_all (hs.cells 1 rfl)))⟩, rfl, trivial⟩ (by simp)) ?_
        have hs := hs.pull 2 rfl
        have hs : St _ [_] _ := St.take (Γ' := [_, _]) hs
        exact ⟨_, rfl, v54, rfl, hs⟩
    · intro ha1_
      have hs := hs.pull 0 rfl
      have hs := hs.pull 1 rfl
      have hs := hs.pull 2 rfl
      have hs : St _ [_, _, _] _ := St.take (Γ' := []) hs
      refine g_loop_fuel (I := fun n_ t w => ∃ x33 : (Ar Int 4), ∃ v35 : Value, ∃ x36 : (List Int), ∃ x37 : Int, ∃ x38 : Int, rounds (fun s => spec_l07Run.b0 N a4 a1 s.1 s.2.1 s.2.2.1 s.2.2.2) n_ (x33, x36, x37, x38) = some o1_ ∧ Fr t (fun O => ([v2, O 1, v5, O 3, Value.pointer (some ⟨b6, 0, none⟩), O 5, O 6, Value.pointer (some ⟨b8, 0, none⟩), O 8, v35, Value.int .i64 x37, Value.int .i64 x38, O 12, O 13, O 14, O 15, O 16, O 17, O 18, O 19, O 20, O 21, O 22, O 23, O 24, O 25, O 26, O 27, O 28, O 29, O 30, O 31, O 32, O 33, O 34, O 35, O 36, O 37, O 38, O 39, O 40, O 41, O 42, O 43, O 44, O 45, O 46, O 47, O 48, O 49, O 50, O 51, O 52, O 53, O 54, O 55, O 56, O 57, O 58, O 59, O 60] : List Value)) ∧ St w0 [Cells b6 ((encA (encI .i16)) x33) 37, Cells b8 ((encA (encI .i16)) (Ar.rep 4 0)) 37, Row 2 (K.int .i64) v35 x36] w) N ⟨a3, v12, ([] : List Int), 0, 0, Ho, rfl, hs⟩ ?_ ?_
      · rintro _ _ ⟨x33, v35, x36, x37, x38, h, _⟩
        exact rounds_zero h
      · intro n_ ih1_
        rintro t w ⟨x33, v35, x36, x37, x38, Ho, hf, hs⟩
        obtain ⟨O, rfl⟩ := hf.open
        show G _ _ _ _ [_, _, _, _, _, _, _, _, _, _, _, _, _, _, _, _, _, _, _, _, _, _, _, _, _, _, _, _, _, _, _, _, _, _, _, _, _, _, _, _, _, _, _, _, _, _, _, _, _, _, _, _, _, _, _, _, _, _, _, _, _] _
        obtain ⟨x9_, H, Hx1_⟩ := rounds_succ Ho
        have H : spec_l07Run.b0 N a4 a1 x33 x36 x37 x38 = some x9_ := H
        unfold spec_l07Run.b0 at H
        refine g_seq ?_
        refine g_seq ?_
        refine g_region ?_
        show G _ _ _ (.inRegion _ [0, 1, 2, 3] :: _) _ _
        refine g_op (v := Value.int .i64 x38) rfl rfl rfl ?_
        show G _ _ _ _ [_, _, _, _, _, _, _, _, _, _, _, _, _, _, _, _, _, _, _, _, _, _, _, _, _, _, _, _, _, _, _, _, _, _, _, _, _, _, _, _, _, _, _, _, _, _, _, _, _, _, _, _, _, _, _, _, _, _, _, _, _] _
        refine g_op (v := v5) rfl rfl rfl ?_
        show G _ _ _ _ [_, _, _, _, _, _, _, _, _, _, _, _, _, _, _, _, _, _, _, _, _, _, _, _, _, _, _, _, _, _, _, _, _, _, _, _, _, _, _, _, _, _, _, _, _, _, _, _, _, _, _, _, _, _, _, _, _, _, _, _, _] _
        refine s_len (hs.rd hr2) rfl rfl rfl rfl rfl ?_
        show G _ _ _ _ [_, _, _, _, _, _, _, _, _, _, _, _, _, _, _, _, _, _, _, _, _, _, _, _, _, _, _, _, _, _, _, _, _, _, _, _, _, _, _, _, _, _, _, _, _, _, _, _, _, _, _, _, _, _, _, _, _, _, _, _, _] _
        refine g_op_b (B := decide (x38 < (a4.length : Int))) rfl rfl rfl ?_ ?_
        · intro hb
          rw [if_pos (b_dec_t hb)] at H
          show G _ _ _ _ [_, _, _, _, _, _, _, _, _, _, _, _, _, _, _, _, _, _, _, _, _, _, _, _, _, _, _, _, _, _, _, _, _, _, _, _, _, _, _, _, _, _, _, _, _, _, _, _, _, _, _, _, _, _, _, _, _, _, _, _, _] _
          refine g_ops_nil ?_
          refine g_cond_true rfl ?_
          refine g_skip ?_
          refine g_seq ?_
          refine g_block ?_
          refine g_seq ?_
          refine g_seq ?_
          obtain ⟨gd5, H⟩ := ite_get H
          obtain ⟨ad6_, ad6_N, ad6_C, had6_⟩ := sl_at (hs.rd hr2) gd5.1 gd5.2
          obtain ⟨r39, Hr39, H⟩ := bind_get H
          refine g_name ?_
          intro T hT
          refine g_any (n := 8) rfl [0, 1, 2, 3, 4, 5, 6, 7] [0, 1, 2, 3, 4, 5, 6, 7] rfl rfl (Inv := fun D t w => ∃ O : Nat → Value, t = [v2, O 1, v5, O 3, Value.pointer (some ⟨b6, 0, none⟩), O 5, O 6, Value.pointer (some ⟨b8, 0, none⟩), O 8, v35, Value.int .i64 x37, Value.int .i64 x38, O 12, O 13, O 14, O 15, O 16, O 17, O 18, O 19, Value.int .i64 x38, v5, Value.int .i64 (a4.length : Int), Value.bool true, O 24, O 25, cnd (D 0) v5 (O 26), cnd (D 1) (Value.int .i64 x38) (O 27), cnd (D 2) (Value.pointer (some (ad6_.add (x38.toNat * 1)))) (O 28), cnd (D 3) (Value.int .u8 (rdL a4 x38 0)) (O 29), cnd (D 4) (Value.int .i64 (i64w (rdL a4 x38 0))) (O 30), cnd (D 5) v2 (O 31), cnd (D 6) (Value.int .i64 r39) (O 32), cnd (D 7) (Value.bool (decide ((i64w (rdL a4 x38 0)) ≥ r39))) (O 33), O 34, O 35, O 36, O 37, O 38, O 39, O 40, O 41, O 42, O 43, O 44, O 45, O 46, O 47, O 48, O 49, O 50, O 51, O 52, O 53, O 54, O 55, O 56, O 57, O 58, O 59, O 60] ∧ St w0 [Cells b6 ((encA (encI .i16)) x33) 37, Cells b8 ((encA (encI .i16)) (Ar.rep 4 0)) 37, Row 2 (K.int .i64) v35 x36] w) ?_ ⟨⟨⟨⟨⟨⟨⟨⟨trivial, ?_⟩, ?_⟩, ?_⟩, ?_⟩, ?_⟩, ?_⟩, ?_⟩, ?_⟩ ?_
          · intro w hh hbw
            have hs := hs.samew hh hbw
            exact ⟨fun i => T.getD i undef, (by subst hT; rfl), hs⟩
          · intro D t w hD hp hcl hI rest hk
            obtain ⟨O, ht, hs⟩ := hI
            have q2_ : D 2 = false := not_yet (hcl.get 2 (by decide)) 0 0 rfl hD
            have q3_ : D 3 = false := not_yet (hcl.get 3 (by decide)) 0 2 rfl q2_
            have q4_ : D 4 = false := not_yet (hcl.get 4 (by decide)) 0 3 rfl q3_
            have q7_ : D 7 = false := not_yet (hcl.get 7 (by decide)) 0 4 rfl q4_
            have u0_ : upd D 0 0 = true := rfl
            have u1_ : upd D 0 1 = D 1 := rfl
            have u2_ : upd D 0 2 = D 2 := rfl
            have u3_ : upd D 0 3 = D 3 := rfl
            have u4_ : upd D 0 4 = D 4 := rfl
            have u5_ : upd D 0 5 = D 5 := rfl
            have u6_ : upd D 0 6 = D 6 := rfl
            have u7_ : upd D 0 7 = D 7 := rfl
            simp only [hD, q2_, q3_, q4_, q7_, cnd_t, cnd_f, Asc_t, Asc_f] at ht hs
            subst ht
            refine g_op (v := v5) rfl rfl rfl ?_
            show G _ _ _ _ [_, _, _, _, _, _, _, _, _, _, _, _, _, _, _, _, _, _, _, _, _, _, _, _, _, _, _, _, _, _, _, _, _, _, _, _, _, _, _, _, _, _, _, _, _, _, _, _, _, _, _, _, _, _, _, _, _, _, _, _, _] _
            exact hk _ _ ⟨O, (by simp only [u0_, u1_, u2_, u3_, u4_, u5_, u6_, u7_, q2_, q3_, q4_, q7_, cnd_t, cnd_f, Asc_t, Asc_f]), hs.cast (by first | rfl | simp only [List.take, List.drop, List.cons_append, List.nil_append, List.set_cons_zero, List.set_cons_succ, List.eraseIdx, u0_, u1_, u2_, u3_, u4_, u5_, u6_, u7_, q2_, q3_, q4_, q7_, cnd_t, cnd_f, Asc_t, Asc_f])⟩
          · intro D t w hD hp hcl hI rest hk
            obtain ⟨O, ht, hs⟩ := hI
            have q2_ : D 2 = false := not_yet (hcl.get 2 (by decide)) 1 1 rfl hD
            have q3_ : D 3 = false := not_yet (hcl.get 3 (by decide)) 0 2 rfl q2_
            have q4_ : D 4 = false := not_yet (hcl.get 4 (by decide)) 0 3 rfl q3_
            have q7_ : D 7 = false := not_yet (hcl.get 7 (by decide)) 0 4 rfl q4_
            have u0_ : upd D 1 0 = D 0 := rfl
            have u1_ : upd D 1 1 = true := rfl
            have u2_ : upd D 1 2 = D 2 := rfl
            have u3_ : upd D 1 3 = D 3 := rfl
            have u4_ : upd D 1 4 = D 4 := rfl
            have u5_ : upd D 1 5 = D 5 := rfl
            have u6_ : upd D 1 6 = D 6 := rfl
            have u7_ : upd D 1 7 = D 7 := rfl
            simp only [hD, q2_, q3_, q4_, q7_, cnd_t, cnd_f, Asc_t, Asc_f] at ht hs
            subst ht
            refine g_op (v := Value.int .i64 x38) rfl rfl rfl ?_
            show G _ _ _ _ [_, _, _, _, _, _, _, _, _, _, _, _, _, _, _, _, _, _, _, _, _, _, _, _, _, _, _, _, _, _, _, _, _, _, _, _, _, _, _, _, _, _, _, _, _, _, _, _, _, _, _, _, _, _, _, _, _, _, _, _, _] _
            exact hk _ _ ⟨O, (by simp only [u0_, u1_, u2_, u3_, u4_, u5_, u6_, u7_, q2_, q3_, q4_, q7_, cnd_t, cnd_f, Asc_t, Asc_f]), hs.cast (by first | rfl | simp only [List.take, List.drop, List.cons_append, List.nil_append, List.set_cons_zero, List.set_cons_succ, List.eraseIdx, u0_, u1_, u2_, u3_, u4_, u5_, u6_, u7_, q2_, q3_, q4_, q7_, cnd_t, cnd_f, Asc_t, Asc_f])⟩
          · intro D t w hD hp hcl hI rest hk
            obtain ⟨O, ht, hs⟩ := hI
            obtain ⟨p0_, p1_, _⟩ := hp
            have q3_ : D 3 = false := not_yet (hcl.get 3 (by decide)) 0 2 rfl hD
            have q4_ : D 4 = false := not_yet (hcl.get 4 (by decide)) 0 3 rfl q3_
            have q7_ : D 7 = false := not_yet (hcl.get 7 (by decide)) 0 4 rfl q4_
            have u0_ : upd D 2 0 = D 0 := rfl
            have u1_ : upd D 2 1 = D 1 := rfl
            have u2_ : upd D 2 2 = true := rfl
            have u3_ : upd D 2 3 = D 3 := rfl
            have u4_ : upd D 2 4 = D 4 := rfl
            have u5_ : upd D 2 5 = D 5 := rfl
            have u6_ : upd D 2 6 = D 6 := rfl
            have u7_ : upd D 2 7 = D 7 := rfl
            simp only [hD, p0_, p1_, q3_, q4_, q7_, cnd_t, cnd_f, Asc_t, Asc_f] at ht hs
            subst ht
            refine s_idxD (κ := (K.int .u8)) (m := 1) rfl (hs.rd hr2) rfl (fun _ => rfl) gd5.1 gd5.2 had6_ rfl rfl rfl rfl rfl ?_
            show G _ _ _ _ [_, _, _, _, _, _, _, _, _, _, _, _, _, _, _, _, _, _, _, _, _, _, _, _, _, _, _, _, _, _, _, _, _, _, _, _, _, _, _, _, _, _, _, _, _, _, _, _, _, _, _, _, _, _, _, _, _, _, _, _, _] _
            exact hk _ _ ⟨O, (by simp only [u0_, u1_, u2_, u3_, u4_, u5_, u6_, u7_, p0_, p1_, q3_, q4_, q7_, cnd_t, cnd_f, Asc_t, Asc_f]), hs.cast (by first | rfl | simp only [List.take, List.drop, List.cons_append, List.nil_append, List.set_cons_zero, List.set_cons_succ, List.eraseIdx, u0_, u1_, u2_, u3_, u4_, u5_, u6_, u7_, p0_, p1_, q3_, q4_, q7_, cnd_t, cnd_f, Asc_t, Asc_f])⟩
          · intro D t w hD hp hcl hI rest hk
            obtain ⟨O, ht, hs⟩ := hI
            obtain ⟨p2_, _⟩ := hp
            obtain ⟨p0_, p1_, _⟩ := hcl.get 2 (by decide) p2_
            have q4_ : D 4 = false := not_yet (hcl.get 4 (by decide)) 0 3 rfl hD
            have q7_ : D 7 = false := not_yet (hcl.get 7 (by decide)) 0 4 rfl q4_
            have u0_ : upd D 3 0 = D 0 := rfl
            have u1_ : upd D 3 1 = D 1 := rfl
            have u2_ : upd D 3 2 = D 2 := rfl
            have u3_ : upd D 3 3 = true := rfl
            have u4_ : upd D 3 4 = D 4 := rfl
            have u5_ : upd D 3 5 = D 5 := rfl
            have u6_ : upd D 3 6 = D 6 := rfl
            have u7_ : upd D 3 7 = D 7 := rfl
            simp only [hD, p0_, p1_, p2_, q4_, q7_, cnd_t, cnd_f, Asc_t, Asc_f] at ht hs
            subst ht
            refine s_load1 rfl rfl (v := Value.int .u8 (rdL a4 x38 0)) rfl rfl (fun _ => rfl) (cellsAt_of (fkI .u8) 0 (hs.rd hr2) had6_ gd5.1 gd5.2) ?_
            show G _ _ _ _ [_, _, _, _, _, _, _, _, _, _, _, _, _, _, _, _, _, _, _, _, _, _, _, _, _, _, _, _, _, _, _, _, _, _, _, _, _, _, _, _, _, _, _, _, _, _, _, _, _, _, _, _, _, _, _, _, _, _, _, _, _] _
            exact hk _ _ ⟨O, (by simp only [u0_, u1_, u2_, u3_, u4_, u5_, u6_, u7_, p0_, p1_, p2_, q4_, q7_, cnd_t, cnd_f, Asc_t, Asc_f]), hs.cast (by first | rfl | simp only [List.take, List.drop, List.cons_append, List.nil_append, List.set_cons_zero, List.set_cons_succ, List.eraseIdx, u0_, u1_, u2_, u3_, u4_, u5_, u6_, u7_, p0_, p1_, p2_, q4_, q7_, cnd_t, cnd_f, Asc_t, Asc_f])⟩
          · intro D t w hD hp hcl hI rest hk
            obtain ⟨O, ht, hs⟩ := hI
            obtain ⟨p3_, _⟩ := hp
            obtain ⟨p2_, _⟩ := hcl.get 3 (by decide) p3_
            obtain ⟨p0_, p1_, _⟩ := hcl.get 2 (by decide) p2_
            have q7_ : D 7 = false := not_yet (hcl.get 7 (by decide)) 0 4 rfl hD
            have u0_ : upd D 4 0 = D 0 := rfl
            have u1_ : upd D 4 1 = D 1 := rfl
            have u2_ : upd D 4 2 = D 2 := rfl
            have u3_ : upd D 4 3 = D 3 := rfl
            have u4_ : upd D 4 4 = true := rfl
            have u5_ : upd D 4 5 = D 5 := rfl
            have u6_ : upd D 4 6 = D 6 := rfl
            have u7_ : upd D 4 7 = D 7 := rfl
            simp only [hD, p0_, p1_, p2_, p3_, q7_, cnd_t, cnd_f, Asc_t, Asc_f] at ht hs
            subst ht
            refine g_op (v := Value.int .i64 (i64w (rdL a4 x38 0))) rfl rfl rfl ?_
            show G _ _ _ _ [_, _, _, _, _, _, _, _, _, _, _, _, _, _, _, _, _, _, _, _, _, _, _, _, _, _, _, _, _, _, _, _, _, _, _, _, _, _, _, _, _, _, _, _, _, _, _, _, _, _, _, _, _, _, _, _, _, _, _, _, _] _
            exact hk _ _ ⟨O, (by simp only [u0_, u1_, u2_, u3_, u4_, u5_, u6_, u7_, p0_, p1_, p2_, p3_, q7_, cnd_t, cnd_f, Asc_t, Asc_f]), hs.cast (by first | rfl | simp only [List.take, List.drop, List.cons_append, List.nil_append, List.set_cons_zero, List.set_cons_succ, List.eraseIdx, u0_, u1_, u2_, u3_, u4_, u5_, u6_, u7_, p0_, p1_, p2_, p3_, q7_, cnd_t, cnd_f, Asc_t, Asc_f])⟩
          · intro D t w hD hp hcl hI rest hk
            obtain ⟨O, ht, hs⟩ := hI
            have q6_ : D 6 = false := not_yet (hcl.get 6 (by decide)) 0 5 rfl hD
            have q7_ : D 7 = false := not_yet (hcl.get 7 (by decide)) 1 6 rfl q6_
            have u0_ : upd D 5 0 = D 0 := rfl
            have u1_ : upd D 5 1 = D 1 := rfl
            have u2_ : upd D 5 2 = D 2 := rfl
            have u3_ : upd D 5 3 = D 3 := rfl
            have u4_ : upd D 5 4 = D 4 := rfl
            have u5_ : upd D 5 5 = true := rfl
            have u6_ : upd D 5 6 = D 6 := rfl
            have u7_ : upd D 5 7 = D 7 := rfl
            simp only [hD, q6_, q7_, cnd_t, cnd_f, Asc_t, Asc_f] at ht hs
            subst ht
            refine g_op (v := v2) rfl rfl rfl ?_
            show G _ _ _ _ [_, _, _, _, _, _, _, _, _, _, _, _, _, _, _, _, _, _, _, _, _, _, _, _, _, _, _, _, _, _, _, _, _, _, _, _, _, _, _, _, _, _, _, _, _, _, _, _, _, _, _, _, _, _, _, _, _, _, _, _, _] _
            exact hk _ _ ⟨O, (by simp only [u0_, u1_, u2_, u3_, u4_, u5_, u6_, u7_, q6_, q7_, cnd_t, cnd_f, Asc_t, Asc_f]), hs.cast (by first | rfl | simp only [List.take, List.drop, List.cons_append, List.nil_append, List.set_cons_zero, List.set_cons_succ, List.eraseIdx, u0_, u1_, u2_, u3_, u4_, u5_, u6_, u7_, q6_, q7_, cnd_t, cnd_f, Asc_t, Asc_f])⟩
          · intro D t w hD hp hcl hI rest hk
            obtain ⟨O, ht, hs⟩ := hI
            obtain ⟨p5_, _⟩ := hp
            have q7_ : D 7 = false := not_yet (hcl.get 7 (by decide)) 1 6 rfl hD
            have u0_ : upd D 6 0 = D 0 := rfl
            have u1_ : upd D 6 1 = D 1 := rfl
            have u2_ : upd D 6 2 = D 2 := rfl
            have u3_ : upd D 6 3 = D 3 := rfl
            have u4_ : upd D 6 4 = D 4 := rfl
            have u5_ : upd D 6 5 = D 5 := rfl
            have u6_ : upd D 6 6 = true := rfl
            have u7_ : upd D 6 7 = D 7 := rfl
            simp only [hD, p5_, q7_, cnd_t, cnd_f, Asc_t, Asc_f] at ht hs
            subst ht
            refine s_call (args := [v2]) rfl rfl (x_call rfl (callFunc_enter Try.func59 rfl rfl) rfl) (spec_l07Sets.calls (a1 := a1) (hs.rd hr0) Hr39) ?_
            rintro _ w ⟨rfl, hs2⟩
            have hs : St _ [_, _, _] _ := hs.call hs2
            show G _ _ _ _ [_, _, _, _, _, _, _, _, _, _, _, _, _, _, _, _, _, _, _, _, _, _, _, _, _, _, _, _, _, _, _, _, _, _, _, _, _, _, _, _, _, _, _, _, _, _, _, _, _, _, _, _, _, _, _, _, _, _, _, _, _] _
            exact hk _ _ ⟨O, (by simp only [u0_, u1_, u2_, u3_, u4_, u5_, u6_, u7_, p5_, q7_, cnd_t, cnd_f, Asc_t, Asc_f]), hs.cast (by first | rfl | simp only [List.take, List.drop, List.cons_append, List.nil_append, List.set_cons_zero, List.set_cons_succ, List.eraseIdx, u0_, u1_, u2_, u3_, u4_, u5_, u6_, u7_, p5_, q7_, cnd_t, cnd_f, Asc_t, Asc_f])⟩
          · intro D t w hD hp hcl hI rest hk
            obtain ⟨O, ht, hs⟩ := hI
            obtain ⟨p4_, p6_, _⟩ := hp
            obtain ⟨p5_, _⟩ := hcl.get 6 (by decide) p6_
            obtain ⟨p3_, _⟩ := hcl.get 4 (by decide) p4_
            obtain ⟨p2_, _⟩ := hcl.get 3 (by decide) p3_
            obtain ⟨p0_, p1_, _⟩ := hcl.get 2 (by decide) p2_
            have u0_ : upd D 7 0 = D 0 := rfl
            have u1_ : upd D 7 1 = D 1 := rfl
            have u2_ : upd D 7 2 = D 2 := rfl
            have u3_ : upd D 7 3 = D 3 := rfl
            have u4_ : upd D 7 4 = D 4 := rfl
            have u5_ : upd D 7 5 = D 5 := rfl
            have u6_ : upd D 7 6 = D 6 := rfl
            have u7_ : upd D 7 7 = true := rfl
            simp only [hD, p0_, p1_, p2_, p3_, p4_, p5_, p6_, cnd_t, cnd_f, Asc_t, Asc_f] at ht hs
            subst ht
            refine g_op (v := Value.bool (decide ((i64w (rdL a4 x38 0)) ≥ r39))) rfl rfl rfl ?_
            show G _ _ _ _ [_, _, _, _, _, _, _, _, _, _, _, _, _, _, _, _, _, _, _, _, _, _, _, _, _, _, _, _, _, _, _, _, _, _, _, _, _, _, _, _, _, _, _, _, _, _, _, _, _, _, _, _, _, _, _, _, _, _, _, _, _] _
            exact hk _ _ ⟨O, (by simp only [u0_, u1_, u2_, u3_, u4_, u5_, u6_, u7_, p0_, p1_, p2_, p3_, p4_, p5_, p6_, cnd_t, cnd_f, Asc_t, Asc_f]), hs.cast (by first | rfl | simp only [List.take, List.drop, List.cons_append, List.nil_append, List.set_cons_zero, List.set_cons_succ, List.eraseIdx, u0_, u1_, u2_, u3_, u4_, u5_, u6_, u7_, p0_, p1_, p2_, p3_, p4_, p5_, p6_, cnd_t, cnd_f, Asc_t, Asc_f])⟩
          · intro D t w hall hI
            obtain ⟨O, ht, hs⟩ := hI
            have p0_ := hall 0 (by decide)
            have p1_ := hall 1 (by decide)
            have p2_ := hall 2 (by decide)
            have p3_ := hall 3 (by decide)
            have p4_ := hall 4 (by decide)
            have p5_ := hall 5 (by decide)
            have p6_ := hall 6 (by decide)
            have p7_ := hall 7 (by decide)
            simp only [p0_, p1_, p2_, p3_, p4_, p5_, p6_, p7_, cnd_t, cnd_f, Asc_t, Asc_f] at ht hs
            subst ht
            refine g_cond_b (b := decide ((i64w (rdL a4 x38 0)) ≥ r39)) rfl ?_ ?_
            · intro hb
              rw [if_pos (b_dec_t hb)] at H
              refine g_seq ?_
              refine g_region ?_
              show G _ _ _ (.inRegion _ [0, 1, 2, 3, 4] :: _) _ _
              refine s_lit0 (κ := (K.int .i64)) hs rfl rfl rfl rfl (fun _ => rfl) ?_
              intro v40 w hs
              show G _ _ _ _ [_, _, _, _, _, _, _, _, _, _, _, _, _, _, _, _, _, _, _, _, _, _, _, _, _, _, _, _, _, _, _, _, _, _, _, _, _, _, _, _, _, _, _, _, _, _, _, _, _, _, _, _, _, _, _, _, _, _, _, _, _] _
              refine g_op (v := Value.agg ((encA (encI .i16)) (Ar.rep 4 0)).toArray) rfl rfl (x_build rfl rfl) ?_
              show G _ _ _ _ [_, _, _, _, _, _, _, _, _, _, _, _, _, _, _, _, _, _, _, _, _, _, _, _, _, _, _, _, _, _, _, _, _, _, _, _, _, _, _, _, _, _, _, _, _, _, _, _, _, _, _, _, _, _, _, _, _, _, _, _, _] _
              refine g_op (v := v40) rfl rfl rfl ?_
              show G _ _ _ _ [_, _, _, _, _, _, _, _, _, _, _, _, _, _, _, _, _, _, _, _, _, _, _, _, _, _, _, _, _, _, _, _, _, _, _, _, _, _, _, _, _, _, _, _, _, _, _, _, _, _, _, _, _, _, _, _, _, _, _, _, _] _
              have hs := hs.pull 2 rfl
              have hs : St _ [_, _, _, _] _ := hs
              refine s_storeAll (n := 4) hs ((fkA (n := 4) (he := (fkI .i16).len) (h1 := (fkI .i16).one)).len _) rfl rfl (vs := ((encA (encI .i16)) (Ar.rep 4 0))) rfl rfl rfl (fun _ => rfl) ((fkA (n := 4) (he := (fkI .i16).len) (h1 := (fkI .i16).one)).len _) ((fkA (n := 4) (he := (fkI .i16).len) (h1 := (fkI .i16).one)).one _) ?_
              intro w hs
              refine g_op (v := Value.int .i64 2) rfl rfl rfl ?_
              show G _ _ _ _ [_, _, _, _, _, _, _, _, _, _, _, _, _, _, _, _, _, _, _, _, _, _, _, _, _, _, _, _, _, _, _, _, _, _, _, _, _, _, _, _, _, _, _, _, _, _, _, _, _, _, _, _, _, _, _, _, _, _, _, _, _] _
              refine g_ops_nil ?_
              obtain rfl := Option.some.inj H
              subst Hx1_
              have H := Option.some.inj Hr1_
              subst H
              refine g_ret Try.func69 (v := Value.tuple #[v40, Value.agg ((encA (encI .i16)) (Ar.rep 4 0)).toArray, Value.int .i64 2]) (resN (l := Try.f69.results.toList) (vs := [v40, Value.agg ((encA (encI .i16)) (Ar.rep 4 0)).toArray, Value.int .i64 2]) rfl ⟨rfl, ⟨_, rfl, (run_loadVar_agg (es := ((encA (encI .i16)) (Ar.rep 4 0))) rfl (congrArg (Result.ok · _) ((fkA (n := 4) (he := (fkI .i16).len) (h1 := (fkI .i16).one)).len _).symm) (cells_all (hs.cells 0 rfl)))⟩, rfl, trivial⟩ (by simp)) ?_
              have hs := hs.pull 1 rfl
              have hs : St _ [_] _ := St.take (Γ' := [_, _, _]) hs
              exact ⟨_, rfl, v40, rfl, hs⟩
            · intro hb
              rw [if_neg (b_dec_f hb)] at H
              refine g_skip ?_
              refine g_seq ?_
              obtain ⟨gd7, H⟩ := ite_get H
              obtain ⟨ad8_, ad8_N, ad8_C, had8_⟩ := sl_at (hs.rd hr2) gd7.1 gd7.2
              obtain ⟨r42, Hr42, H⟩ := bind_get H
              obtain ⟨r43, Hr43, H⟩ := bind_get H
              refine g_name ?_
              intro T hT
              refine g_any (n := 14) rfl [0, 1, 2, 3, 4, 5, 6, 7, 8, 9, 10, 11, 12, 13] [0, 1, 2, 3, 4, 5, 6, 7, 8, 9, 12, 10, 11, 13] rfl rfl (Inv := fun D t w => ∃ b44 : Nat, ∃ O : Nat → Value, t = [v2, O 1, v5, O 3, Value.pointer (some ⟨b6, 0, none⟩), O 5, O 6, Value.pointer (some ⟨b8, 0, none⟩), O 8, v35, Value.int .i64 x37, Value.int .i64 x38, cnd (D 11) (Value.pointer (some ⟨b44, 0, none⟩)) (O 12), cnd (D 13) (Value.int .i64 r43.2) (O 13), O 14, O 15, O 16, O 17, O 18, O 19, Value.int .i64 x38, v5, Value.int .i64 (a4.length : Int), Value.bool true, O 24, O 25, v5, Value.int .i64 x38, Value.pointer (some (ad6_.add (x38.toNat * 1))), Value.int .u8 (rdL a4 x38 0), Value.int .i64 (i64w (rdL a4 x38 0)), v2, Value.int .i64 r39, Value.bool (decide ((i64w (rdL a4 x38 0)) ≥ r39)), O 34, O 35, cnd (D 8) (Value.tuple #[Value.agg ((encA (encI .i16)) r43.1).toArray, Value.int .i64 r43.2]) (O 36), cnd (D 0) v2 (O 37), cnd (D 1) (Value.agg ((encA (encI .i16)) x33).toArray) (O 38), cnd (D 2) v5 (O 39), cnd (D 3) (Value.int .i64 x38) (O 40), cnd (D 4) (Value.pointer (some (ad8_.add (x38.toNat * 1)))) (O 41), cnd (D 5) (Value.int .u8 (rdL a4 x38 0)) (O 42), cnd (D 6) (Value.agg ((encA (encI .i16)) r42).toArray) (O 43), cnd (D 7) (Value.tuple #[Value.agg ((encA (encI .i16)) r43.1).toArray, Value.int .i64 r43.2]) (O 44), cnd (D 9) (Value.agg ((encA (encI .i16)) r43.1).toArray) (O 45), cnd (D 10) (Value.int .i64 r43.2) (O 46), O 47, O 48, O 49, O 50, O 51, O 52, O 53, O 54, O 55, O 56, O 57, O 58, O 59, O 60] ∧ St w0 [Asc (D 11) (Cells b44 (cnd (D 12) ((encA (encI .i16)) r43.1) ((encA (encI .i16)) (Ar.rep 4 0))) 37), Cells b6 ((encA (encI .i16)) x33) 37, Cells b8 ((encA (encI .i16)) (Ar.rep 4 0)) 37, Row 2 (K.int .i64) v35 x36] w) ?_ ⟨⟨⟨⟨⟨⟨⟨⟨⟨⟨⟨⟨⟨⟨trivial, ?_⟩, ?_⟩, ?_⟩, ?_⟩, ?_⟩, ?_⟩, ?_⟩, ?_⟩, ?_⟩, ?_⟩, ?_⟩, ?_⟩, ?_⟩, ?_⟩ ?_
              · intro w hh hbw
                have hs := hs.samew hh hbw
                have hs := hs.emp
                exact ⟨0, fun i => T.getD i undef, (by subst hT; rfl), hs⟩
              · intro D t w hD hp hcl hI rest hk
                obtain ⟨b44, O, ht, hs⟩ := hI
                have q6_ : D 6 = false := not_yet (hcl.get 6 (by decide)) 0 0 rfl hD
                have q7_ : D 7 = false := not_yet (hcl.get 7 (by decide)) 0 6 rfl q6_
                have q8_ : D 8 = false := not_yet (hcl.get 8 (by decide)) 0 7 rfl q7_
                have q9_ : D 9 = false := not_yet (hcl.get 9 (by decide)) 0 8 rfl q8_
                have q10_ : D 10 = false := not_yet (hcl.get 10 (by decide)) 0 8 rfl q8_
                have q12_ : D 12 = false := not_yet (hcl.get 12 (by decide)) 1 9 rfl q9_
                have q13_ : D 13 = false := not_yet (hcl.get 13 (by decide)) 0 10 rfl q10_
                have u0_ : upd D 0 0 = true := rfl
                have u1_ : upd D 0 1 = D 1 := rfl
                have u2_ : upd D 0 2 = D 2 := rfl
                have u3_ : upd D 0 3 = D 3 := rfl
                have u4_ : upd D 0 4 = D 4 := rfl
                have u5_ : upd D 0 5 = D 5 := rfl
                have u6_ : upd D 0 6 = D 6 := rfl
                have u7_ : upd D 0 7 = D 7 := rfl
                have u8_ : upd D 0 8 = D 8 := rfl
                have u9_ : upd D 0 9 = D 9 := rfl
                have u10_ : upd D 0 10 = D 10 := rfl
                have u11_ : upd D 0 11 = D 11 := rfl
                have u12_ : upd D 0 12 = D 12 := rfl
                have u13_ : upd D 0 13 = D 13 := rfl
                simp only [hD, q6_, q7_, q8_, q9_, q10_, q12_, q13_, cnd_t, cnd_f, Asc_t, Asc_f] at ht hs
                subst ht
                refine g_op (v := v2) rfl rfl rfl ?_
                show G _ _ _ _ [_, _, _, _, _, _, _, _, _, _, _, _, _, _, _, _, _, _, _, _, _, _, _, _, _, _, _, _, _, _, _, _, _, _, _, _, _, _, _, _, _, _, _, _, _, _, _, _, _, _, _, _, _, _, _, _, _, _, _, _, _] _
                exact hk _ _ ⟨b44, O, (by simp only [u0_, u1_, u2_, u3_, u4_, u5_, u6_, u7_, u8_, u9_, u10_, u11_, u12_, u13_, q6_, q7_, q8_, q9_, q10_, q12_, q13_, cnd_t, cnd_f, Asc_t, Asc_f]), hs.cast (by first | rfl | simp only [List.take, List.drop, List.cons_append, List.nil_append, List.set_cons_zero, List.set_cons_succ, List.eraseIdx, u0_, u1_, u2_, u3_, u4_, u5_, u6_, u7_, u8_, u9_, u10_, u11_, u12_, u13_, q6_, q7_, q8_, q9_, q10_, q12_, q13_, cnd_t, cnd_f, Asc_t, Asc_f])⟩
              · intro D t w hD hp hcl hI rest hk
                obtain ⟨b44, O, ht, hs⟩ := hI
                have q6_ : D 6 = false := not_yet (hcl.get 6 (by decide)) 1 1 rfl hD
                have q7_ : D 7 = false := not_yet (hcl.get 7 (by decide)) 0 6 rfl q6_
                have q8_ : D 8 = false := not_yet (hcl.get 8 (by decide)) 0 7 rfl q7_
                have q9_ : D 9 = false := not_yet (hcl.get 9 (by decide)) 0 8 rfl q8_
                have q10_ : D 10 = false := not_yet (hcl.get 10 (by decide)) 0 8 rfl q8_
                have q12_ : D 12 = false := not_yet (hcl.get 12 (by decide)) 1 9 rfl q9_
                have q13_ : D 13 = false := not_yet (hcl.get 13 (by decide)) 0 10 rfl q10_
                have u0_ : upd D 1 0 = D 0 := rfl
                have u1_ : upd D 1 1 = true := rfl
                have u2_ : upd D 1 2 = D 2 := rfl
                have u3_ : upd D 1 3 = D 3 := rfl
                have u4_ : upd D 1 4 = D 4 := rfl
                have u5_ : upd D 1 5 = D 5 := rfl
                have u6_ : upd D 1 6 = D 6 := rfl
                have u7_ : upd D 1 7 = D 7 := rfl
                have u8_ : upd D 1 8 = D 8 := rfl
                have u9_ : upd D 1 9 = D 9 := rfl
                have u10_ : upd D 1 10 = D 10 := rfl
                have u11_ : upd D 1 11 = D 11 := rfl
                have u12_ : upd D 1 12 = D 12 := rfl
                have u13_ : upd D 1 13 = D 13 := rfl
                simp only [hD, q6_, q7_, q8_, q9_, q10_, q12_, q13_, cnd_t, cnd_f, Asc_t, Asc_f] at ht hs
                subst ht
                refine s_loadA rfl rfl (es := ((encA (encI .i16)) x33)) rfl rfl (fun _ => rfl) (n := 4) (fun _ => rfl) ((fkA (n := 4) (he := (fkI .i16).len) (h1 := (fkI .i16).one)).len _) (cells_all (hs.cells 1 rfl)) ?_
                show G _ _ _ _ [_, _, _, _, _, _, _, _, _, _, _, _, _, _, _, _, _, _, _, _, _, _, _, _, _, _, _, _, _, _, _, _, _, _, _, _, _, _, _, _, _, _, _, _, _, _, _, _, _, _, _, _, _, _, _, _, _, _, _, _, _] _
                exact hk _ _ ⟨b44, O, (by simp only [u0_, u1_, u2_, u3_, u4_, u5_, u6_, u7_, u8_, u9_, u10_, u11_, u12_, u13_, q6_, q7_, q8_, q9_, q10_, q12_, q13_, cnd_t, cnd_f, Asc_t, Asc_f]), hs.cast (by first | rfl | simp only [List.take, List.drop, List.cons_append, List.nil_append, List.set_cons_zero, List.set_cons_succ, List.eraseIdx, u0_, u1_, u2_, u3_, u4_, u5_, u6_, u7_, u8_, u9_, u10_, u11_, u12_, u13_, q6_, q7_, q8_, q9_, q10_, q12_, q13_, cnd_t, cnd_f, Asc_t, Asc_f])⟩
              · intro D t w hD hp hcl hI rest hk
                obtain ⟨b44, O, ht, hs⟩ := hI
                have q4_ : D 4 = false := not_yet (hcl.get 4 (by decide)) 0 2 rfl hD
                have q5_ : D 5 = false := not_yet (hcl.get 5 (by decide)) 0 4 rfl q4_
                have q6_ : D 6 = false := not_yet (hcl.get 6 (by decide)) 2 5 rfl q5_
                have q7_ : D 7 = false := not_yet (hcl.get 7 (by decide)) 0 6 rfl q6_
                have q8_ : D 8 = false := not_yet (hcl.get 8 (by decide)) 0 7 rfl q7_
                have q9_ : D 9 = false := not_yet (hcl.get 9 (by decide)) 0 8 rfl q8_
                have q10_ : D 10 = false := not_yet (hcl.get 10 (by decide)) 0 8 rfl q8_
                have q12_ : D 12 = false := not_yet (hcl.get 12 (by decide)) 1 9 rfl q9_
                have q13_ : D 13 = false := not_yet (hcl.get 13 (by decide)) 0 10 rfl q10_
                have u0_ : upd D 2 0 = D 0 := rfl
                have u1_ : upd D 2 1 = D 1 := rfl
                have u2_ : upd D 2 2 = true := rfl
                have u3_ : upd D 2 3 = D 3 := rfl
                have u4_ : upd D 2 4 = D 4 := rfl
                have u5_ : upd D 2 5 = D 5 := rfl
                have u6_ : upd D 2 6 = D 6 := rfl
                have u7_ : upd D 2 7 = D 7 := rfl
                have u8_ : upd D 2 8 = D 8 := rfl
                have u9_ : upd D 2 9 = D 9 := rfl
                have u10_ : upd D 2 10 = D 10 := rfl
                have u11_ : upd D 2 11 = D 11 := rfl
                have u12_ : upd D 2 12 = D 12 := rfl
                have u13_ : upd D 2 13 = D 13 := rfl
                simp only [hD, q4_, q5_, q6_, q7_, q8_, q9_, q10_, q12_, q13_, cnd_t, cnd_f, Asc_t, Asc_f] at ht hs
                subst ht
                refine g_op (v := v5) rfl rfl rfl ?_
                show G _ _ _ _ [_, _, _, _, _, _, _, _, _, _, _, _, _, _, _, _, _, _, _, _, _, _, _, _, _, _, _, _, _, _, _, _, _, _, _, _, _, _, _, _, _, _, _, _, _, _, _, _, _, _, _, _, _, _, _, _, _, _, _, _, _] _
                exact hk _ _ ⟨b44, O, (by simp only [u0_, u1_, u2_, u3_, u4_, u5_, u6_, u7_, u8_, u9_, u10_, u11_, u12_, u13_, q4_, q5_, q6_, q7_, q8_, q9_, q10_, q12_, q13_, cnd_t, cnd_f, Asc_t, Asc_f]), hs.cast (by first | rfl | simp only [List.take, List.drop, List.cons_append, List.nil_append, List.set_cons_zero, List.set_cons_succ, List.eraseIdx, u0_, u1_, u2_, u3_, u4_, u5_, u6_, u7_, u8_, u9_, u10_, u11_, u12_, u13_, q4_, q5_, q6_, q7_, q8_, q9_, q10_, q12_, q13_, cnd_t, cnd_f, Asc_t, Asc_f])⟩
              · intro D t w hD hp hcl hI rest hk
                obtain ⟨b44, O, ht, hs⟩ := hI
                have q4_ : D 4 = false := not_yet (hcl.get 4 (by decide)) 1 3 rfl hD
                have q5_ : D 5 = false := not_yet (hcl.get 5 (by decide)) 0 4 rfl q4_
                have q6_ : D 6 = false := not_yet (hcl.get 6 (by decide)) 2 5 rfl q5_
                have q7_ : D 7 = false := not_yet (hcl.get 7 (by decide)) 0 6 rfl q6_
                have q8_ : D 8 = false := not_yet (hcl.get 8 (by decide)) 0 7 rfl q7_
                have q9_ : D 9 = false := not_yet (hcl.get 9 (by decide)) 0 8 rfl q8_
                have q10_ : D 10 = false := not_yet (hcl.get 10 (by decide)) 0 8 rfl q8_
                have q12_ : D 12 = false := not_yet (hcl.get 12 (by decide)) 1 9 rfl q9_
                have q13_ : D 13 = false := not_yet (hcl.get 13 (by decide)) 0 10 rfl q10_
                have u0_ : upd D 3 0 = D 0 := rfl
                have u1_ : upd D 3 1 = D 1 := rfl
                have u2_ : upd D 3 2 = D 2 := rfl
                have u3_ : upd D 3 3 = true := rfl
                have u4_ : upd D 3 4 = D 4 := rfl
                have u5_ : upd D 3 5 = D 5 := rfl
                have u6_ : upd D 3 6 = D 6 := rfl
                have u7_ : upd D 3 7 = D 7 := rfl
                have u8_ : upd D 3 8 = D 8 := rfl
                have u9_ : upd D 3 9 = D 9 := rfl
                have u10_ : upd D 3 10 = D 10 := rfl
                have u11_ : upd D 3 11 = D 11 := rfl
                have u12_ : upd D 3 12 = D 12 := rfl
                have u13_ : upd D 3 13 = D 13 := rfl
                simp only [hD, q4_, q5_, q6_, q7_, q8_, q9_, q10_, q12_, q13_, cnd_t, cnd_f, Asc_t, Asc_f] at ht hs
                subst ht
                refine g_op (v := Value.int .i64 x38) rfl rfl rfl ?_
                show G _ _ _ _ [_, _, _, _, _, _, _, _, _, _, _, _, _, _, _, _, _, _, _, _, _, _, _, _, _, _, _, _, _, _, _, _, _, _, _, _, _, _, _, _, _, _, _, _, _, _, _, _, _, _, _, _, _, _, _, _, _, _, _, _, _] _
                exact hk _ _ ⟨b44, O, (by simp only [u0_, u1_, u2_, u3_, u4_, u5_, u6_, u7_, u8_, u9_, u10_, u11_, u12_, u13_, q4_, q5_, q6_, q7_, q8_, q9_, q10_, q12_, q13_, cnd_t, cnd_f, Asc_t, Asc_f]), hs.cast (by first | rfl | simp only [List.take, List.drop, List.cons_append, List.nil_append, List.set_cons_zero, List.set_cons_succ, List.eraseIdx, u0_, u1_, u2_, u3_, u4_, u5_, u6_, u7_, u8_, u9_, u10_, u11_, u12_, u13_, q4_, q5_, q6_, q7_, q8_, q9_, q10_, q12_, q13_, cnd_t, cnd_f, Asc_t, Asc_f])⟩
              · intro D t w hD hp hcl hI rest hk
                obtain ⟨b44, O, ht, hs⟩ := hI
                obtain ⟨p2_, p3_, _⟩ := hp
                have q5_ : D 5 = false := not_yet (hcl.get 5 (by decide)) 0 4 rfl hD
                have q6_ : D 6 = false := not_yet (hcl.get 6 (by decide)) 2 5 rfl q5_
                have q7_ : D 7 = false := not_yet (hcl.get 7 (by decide)) 0 6 rfl q6_
                have q8_ : D 8 = false := not_yet (hcl.get 8 (by decide)) 0 7 rfl q7_
                have q9_ : D 9 = false := not_yet (hcl.get 9 (by decide)) 0 8 rfl q8_
                have q10_ : D 10 = false := not_yet (hcl.get 10 (by decide)) 0 8 rfl q8_
                have q12_ : D 12 = false := not_yet (hcl.get 12 (by decide)) 1 9 rfl q9_
                have q13_ : D 13 = false := not_yet (hcl.get 13 (by decide)) 0 10 rfl q10_
                have u0_ : upd D 4 0 = D 0 := rfl
                have u1_ : upd D 4 1 = D 1 := rfl
                have u2_ : upd D 4 2 = D 2 := rfl
                have u3_ : upd D 4 3 = D 3 := rfl
                have u4_ : upd D 4 4 = true := rfl
                have u5_ : upd D 4 5 = D 5 := rfl
                have u6_ : upd D 4 6 = D 6 := rfl
                have u7_ : upd D 4 7 = D 7 := rfl
                have u8_ : upd D 4 8 = D 8 := rfl
                have u9_ : upd D 4 9 = D 9 := rfl
                have u10_ : upd D 4 10 = D 10 := rfl
                have u11_ : upd D 4 11 = D 11 := rfl
                have u12_ : upd D 4 12 = D 12 := rfl
                have u13_ : upd D 4 13 = D 13 := rfl
                simp only [hD, p2_, p3_, q5_, q6_, q7_, q8_, q9_, q10_, q12_, q13_, cnd_t, cnd_f, Asc_t, Asc_f] at ht hs
                subst ht
                refine s_idxD (κ := (K.int .u8)) (m := 1) rfl (hs.rd hr2) rfl (fun _ => rfl) gd7.1 gd7.2 had8_ rfl rfl rfl rfl rfl ?_
                show G _ _ _ _ [_, _, _, _, _, _, _, _, _, _, _, _, _, _, _, _, _, _, _, _, _, _, _, _, _, _, _, _, _, _, _, _, _, _, _, _, _, _, _, _, _, _, _, _, _, _, _, _, _, _, _, _, _, _, _, _, _, _, _, _, _] _
                exact hk _ _ ⟨b44, O, (by simp only [u0_, u1_, u2_, u3_, u4_, u5_, u6_, u7_, u8_, u9_, u10_, u11_, u12_, u13_, p2_, p3_, q5_, q6_, q7_, q8_, q9_, q10_, q12_, q13_, cnd_t, cnd_f, Asc_t, Asc_f]), hs.cast (by first | rfl | simp only [List.take, List.drop, List.cons_append, List.nil_append, List.set_cons_zero, List.set_cons_succ, List.eraseIdx, u0_, u1_, u2_, u3_, u4_, u5_, u6_, u7_, u8_, u9_, u10_, u11_, u12_, u13_, p2_, p3_, q5_, q6_, q7_, q8_, q9_, q10_, q12_, q13_, cnd_t, cnd_f, Asc_t, Asc_f])⟩
              · intro D t w hD hp hcl hI rest hk
                obtain ⟨b44, O, ht, hs⟩ := hI
                obtain ⟨p4_, _⟩ := hp
                obtain ⟨p2_, p3_, _⟩ := hcl.get 4 (by decide) p4_
                have q6_ : D 6 = false := not_yet (hcl.get 6 (by decide)) 2 5 rfl hD
                have q7_ : D 7 = false := not_yet (hcl.get 7 (by decide)) 0 6 rfl q6_
                have q8_ : D 8 = false := not_yet (hcl.get 8 (by decide)) 0 7 rfl q7_
                have q9_ : D 9 = false := not_yet (hcl.get 9 (by decide)) 0 8 rfl q8_
                have q10_ : D 10 = false := not_yet (hcl.get 10 (by decide)) 0 8 rfl q8_
                have q12_ : D 12 = false := not_yet (hcl.get 12 (by decide)) 1 9 rfl q9_
                have q13_ : D 13 = false := not_yet (hcl.get 13 (by decide)) 0 10 rfl q10_
                have u0_ : upd D 5 0 = D 0 := rfl
                have u1_ : upd D 5 1 = D 1 := rfl
                have u2_ : upd D 5 2 = D 2 := rfl
                have u3_ : upd D 5 3 = D 3 := rfl
                have u4_ : upd D 5 4 = D 4 := rfl
                have u5_ : upd D 5 5 = true := rfl
                have u6_ : upd D 5 6 = D 6 := rfl
                have u7_ : upd D 5 7 = D 7 := rfl
                have u8_ : upd D 5 8 = D 8 := rfl
                have u9_ : upd D 5 9 = D 9 := rfl
                have u10_ : upd D 5 10 = D 10 := rfl
                have u11_ : upd D 5 11 = D 11 := rfl
                have u12_ : upd D 5 12 = D 12 := rfl
                have u13_ : upd D 5 13 = D 13 := rfl
                simp only [hD, p2_, p3_, p4_, q6_, q7_, q8_, q9_, q10_, q12_, q13_, cnd_t, cnd_f, Asc_t, Asc_f] at ht hs
                subst ht
                refine s_load1 rfl rfl (v := Value.int .u8 (rdL a4 x38 0)) rfl rfl (fun _ => rfl) (cellsAt_of (fkI .u8) 0 (hs.rd hr2) had8_ gd7.1 gd7.2) ?_
                show G _ _ _ _ [_, _, _, _, _, _, _, _, _, _, _, _, _, _, _, _, _, _, _, _, _, _, _, _, _, _, _, _, _, _, _, _, _, _, _, _, _, _, _, _, _, _, _, _, _, _, _, _, _, _, _, _, _, _, _, _, _, _, _, _, _] _
                exact hk _ _ ⟨b44, O, (by simp only [u0_, u1_, u2_, u3_, u4_, u5_, u6_, u7_, u8_, u9_, u10_, u11_, u12_, u13_, p2_, p3_, p4_, q6_, q7_, q8_, q9_, q10_, q12_, q13_, cnd_t, cnd_f, Asc_t, Asc_f]), hs.cast (by first | rfl | simp only [List.take, List.drop, List.cons_append, List.nil_append, List.set_cons_zero, List.set_cons_succ, List.eraseIdx, u0_, u1_, u2_, u3_, u4_, u5_, u6_, u7_, u8_, u9_, u10_, u11_, u12_, u13_, p2_, p3_, p4_, q6_, q7_, q8_, q9_, q10_, q12_, q13_, cnd_t, cnd_f, Asc_t, Asc_f])⟩
              · intro D t w hD hp hcl hI rest hk
                obtain ⟨b44, O, ht, hs⟩ := hI
                obtain ⟨p0_, p1_, p5_, _⟩ := hp
                obtain ⟨p4_, _⟩ := hcl.get 5 (by decide) p5_
                obtain ⟨p2_, p3_, _⟩ := hcl.get 4 (by decide) p4_
                have q7_ : D 7 = false := not_yet (hcl.get 7 (by decide)) 0 6 rfl hD
                have q8_ : D 8 = false := not_yet (hcl.get 8 (by decide)) 0 7 rfl q7_
                have q9_ : D 9 = false := not_yet (hcl.get 9 (by decide)) 0 8 rfl q8_
                have q10_ : D 10 = false := not_yet (hcl.get 10 (by decide)) 0 8 rfl q8_
                have q12_ : D 12 = false := not_yet (hcl.get 12 (by decide)) 1 9 rfl q9_
                have q13_ : D 13 = false := not_yet (hcl.get 13 (by decide)) 0 10 rfl q10_
                have u0_ : upd D 6 0 = D 0 := rfl
                have u1_ : upd D 6 1 = D 1 := rfl
                have u2_ : upd D 6 2 = D 2 := rfl
                have u3_ : upd D 6 3 = D 3 := rfl
                have u4_ : upd D 6 4 = D 4 := rfl
                have u5_ : upd D 6 5 = D 5 := rfl
                have u6_ : upd D 6 6 = true := rfl
                have u7_ : upd D 6 7 = D 7 := rfl
                have u8_ : upd D 6 8 = D 8 := rfl
                have u9_ : upd D 6 9 = D 9 := rfl
                have u10_ : upd D 6 10 = D 10 := rfl
                have u11_ : upd D 6 11 = D 11 := rfl
                have u12_ : upd D 6 12 = D 12 := rfl
                have u13_ : upd D 6 13 = D 13 := rfl
                simp only [hD, p0_, p1_, p2_, p3_, p4_, p5_, q7_, q8_, q9_, q10_, q12_, q13_, cnd_t, cnd_f, Asc_t, Asc_f] at ht hs
                subst ht
                refine s_call (args := [v2, Value.agg ((encA (encI .i16)) x33).toArray, Value.int .u8 (rdL a4 x38 0)]) rfl rfl (x_call rfl (callFunc_enter Try.func60 rfl rfl) rfl) (spec_l07Turn.calls (a1 := a1) (a3 := x33) (a4 := rdL a4 x38 0) (hs.rd hr0) Hr42) ?_
                rintro _ w ⟨rfl, hs2⟩
                have hs : St _ [_, _, _, _] _ := hs.call hs2
                show G _ _ _ _ [_, _, _, _, _, _, _, _, _, _, _, _, _, _, _, _, _, _, _, _, _, _, _, _, _, _, _, _, _, _, _, _, _, _, _, _, _, _, _, _, _, _, _, _, _, _, _, _, _, _, _, _, _, _, _, _, _, _, _, _, _] _
                exact hk _ _ ⟨b44, O, (by simp only [u0_, u1_, u2_, u3_, u4_, u5_, u6_, u7_, u8_, u9_, u10_, u11_, u12_, u13_, p0_, p1_, p2_, p3_, p4_, p5_, q7_, q8_, q9_, q10_, q12_, q13_, cnd_t, cnd_f, Asc_t, Asc_f]), hs.cast (by first | rfl | simp only [List.take, List.drop, List.cons_append, List.nil_append, List.set_cons_zero, List.set_cons_succ, List.eraseIdx, u0_, u1_, u2_, u3_, u4_, u5_, u6_, u7_, u8_, u9_, u10_, u11_, u12_, u13_, p0_, p1_, p2_, p3_, p4_, p5_, q7_, q8_, q9_, q10_, q12_, q13_, cnd_t, cnd_f, Asc_t, Asc_f])⟩
              · intro D t w hD hp hcl hI rest hk
                obtain ⟨b44, O, ht, hs⟩ := hI
                obtain ⟨p6_, _, _⟩ := hp
                obtain ⟨p0_, p1_, p5_, _⟩ := hcl.get 6 (by decide) p6_
                obtain ⟨p4_, _⟩ := hcl.get 5 (by decide) p5_
                obtain ⟨p2_, p3_, _⟩ := hcl.get 4 (by decide) p4_
                have q8_ : D 8 = false := not_yet (hcl.get 8 (by decide)) 0 7 rfl hD
                have q9_ : D 9 = false := not_yet (hcl.get 9 (by decide)) 0 8 rfl q8_
                have q10_ : D 10 = false := not_yet (hcl.get 10 (by decide)) 0 8 rfl q8_
                have q12_ : D 12 = false := not_yet (hcl.get 12 (by decide)) 1 9 rfl q9_
                have q13_ : D 13 = false := not_yet (hcl.get 13 (by decide)) 0 10 rfl q10_
                have u0_ : upd D 7 0 = D 0 := rfl
                have u1_ : upd D 7 1 = D 1 := rfl
                have u2_ : upd D 7 2 = D 2 := rfl
                have u3_ : upd D 7 3 = D 3 := rfl
                have u4_ : upd D 7 4 = D 4 := rfl
                have u5_ : upd D 7 5 = D 5 := rfl
                have u6_ : upd D 7 6 = D 6 := rfl
                have u7_ : upd D 7 7 = true := rfl
                have u8_ : upd D 7 8 = D 8 := rfl
                have u9_ : upd D 7 9 = D 9 := rfl
                have u10_ : upd D 7 10 = D 10 := rfl
                have u11_ : upd D 7 11 = D 11 := rfl
                have u12_ : upd D 7 12 = D 12 := rfl
                have u13_ : upd D 7 13 = D 13 := rfl
                simp only [hD, p0_, p1_, p2_, p3_, p4_, p5_, p6_, q8_, q9_, q10_, q12_, q13_, cnd_t, cnd_f, Asc_t, Asc_f] at ht hs
                subst ht
                refine s_call (args := [Value.agg ((encA (encI .i16)) r42).toArray]) rfl rfl (x_call rfl (callFunc_enter Try.func63 rfl rfl) rfl) (spec_l07Wait.calls (a1 := r42) Hr43) ?_
                rintro _ w ⟨rfl, hs2⟩
                have hs : St _ [_, _, _, _] _ := hs.call hs2
                show G _ _ _ _ [_, _, _, _, _, _, _, _, _, _, _, _, _, _, _, _, _, _, _, _, _, _, _, _, _, _, _, _, _, _, _, _, _, _, _, _, _, _, _, _, _, _, _, _, _, _, _, _, _, _, _, _, _, _, _, _, _, _, _, _, _] _
                exact hk _ _ ⟨b44, O, (by simp only [u0_, u1_, u2_, u3_, u4_, u5_, u6_, u7_, u8_, u9_, u10_, u11_, u12_, u13_, p0_, p1_, p2_, p3_, p4_, p5_, p6_, q8_, q9_, q10_, q12_, q13_, cnd_t, cnd_f, Asc_t, Asc_f]), hs.cast (by first | rfl | simp only [List.take, List.drop, List.cons_append, List.nil_append, List.set_cons_zero, List.set_cons_succ, List.eraseIdx, u0_, u1_, u2_, u3_, u4_, u5_, u6_, u7_, u8_, u9_, u10_, u11_, u12_, u13_, p0_, p1_, p2_, p3_, p4_, p5_, p6_, q8_, q9_, q10_, q12_, q13_, cnd_t, cnd_f, Asc_t, Asc_f])⟩
              · intro D t w hD hp hcl hI rest hk
                obtain ⟨b44, O, ht, hs⟩ := hI
                obtain ⟨p7_, _⟩ := hp
                obtain ⟨p6_, _, _⟩ := hcl.get 7 (by decide) p7_
                obtain ⟨p0_, p1_, p5_, _⟩ := hcl.get 6 (by decide) p6_
                obtain ⟨p4_, _⟩ := hcl.get 5 (by decide) p5_
                obtain ⟨p2_, p3_, _⟩ := hcl.get 4 (by decide) p4_
                have q9_ : D 9 = false := not_yet (hcl.get 9 (by decide)) 0 8 rfl hD
                have q10_ : D 10 = false := not_yet (hcl.get 10 (by decide)) 0 8 rfl hD
                have q12_ : D 12 = false := not_yet (hcl.get 12 (by decide)) 1 9 rfl q9_
                have q13_ : D 13 = false := not_yet (hcl.get 13 (by decide)) 0 10 rfl q10_
                have u0_ : upd D 8 0 = D 0 := rfl
                have u1_ : upd D 8 1 = D 1 := rfl
                have u2_ : upd D 8 2 = D 2 := rfl
                have u3_ : upd D 8 3 = D 3 := rfl
                have u4_ : upd D 8 4 = D 4 := rfl
                have u5_ : upd D 8 5 = D 5 := rfl
                have u6_ : upd D 8 6 = D 6 := rfl
                have u7_ : upd D 8 7 = D 7 := rfl
                have u8_ : upd D 8 8 = true := rfl
                have u9_ : upd D 8 9 = D 9 := rfl
                have u10_ : upd D 8 10 = D 10 := rfl
                have u11_ : upd D 8 11 = D 11 := rfl
                have u12_ : upd D 8 12 = D 12 := rfl
                have u13_ : upd D 8 13 = D 13 := rfl
                simp only [hD, p0_, p1_, p2_, p3_, p4_, p5_, p6_, p7_, q9_, q10_, q12_, q13_, cnd_t, cnd_f, Asc_t, Asc_f] at ht hs
                subst ht
                refine g_op (v := Value.tuple #[Value.agg ((encA (encI .i16)) r43.1).toArray, Value.int .i64 r43.2]) rfl rfl rfl ?_
                show G _ _ _ _ [_, _, _, _, _, _, _, _, _, _, _, _, _, _, _, _, _, _, _, _, _, _, _, _, _, _, _, _, _, _, _, _, _, _, _, _, _, _, _, _, _, _, _, _, _, _, _, _, _, _, _, _, _, _, _, _, _, _, _, _, _] _
                exact hk _ _ ⟨b44, O, (by simp only [u0_, u1_, u2_, u3_, u4_, u5_, u6_, u7_, u8_, u9_, u10_, u11_, u12_, u13_, p0_, p1_, p2_, p3_, p4_, p5_, p6_, p7_, q9_, q10_, q12_, q13_, cnd_t, cnd_f, Asc_t, Asc_f]), hs.cast (by first | rfl | simp only [List.take, List.drop, List.cons_append, List.nil_append, List.set_cons_zero, List.set_cons_succ, List.eraseIdx, u0_, u1_, u2_, u3_, u4_, u5_, u6_, u7_, u8_, u9_, u10_, u11_, u12_, u13_, p0_, p1_, p2_, p3_, p4_, p5_, p6_, p7_, q9_, q10_, q12_, q13_, cnd_t, cnd_f, Asc_t, Asc_f])⟩
              · intro D t w hD hp hcl hI rest hk
                obtain ⟨b44, O, ht, hs⟩ := hI
                obtain ⟨p8_, _⟩ := hp
                obtain ⟨p7_, _⟩ := hcl.get 8 (by decide) p8_
                obtain ⟨p6_, _, _⟩ := hcl.get 7 (by decide) p7_
                obtain ⟨p0_, p1_, p5_, _⟩ := hcl.get 6 (by decide) p6_
                obtain ⟨p4_, _⟩ := hcl.get 5 (by decide) p5_
                obtain ⟨p2_, p3_, _⟩ := hcl.get 4 (by decide) p4_
                have q12_ : D 12 = false := not_yet (hcl.get 12 (by decide)) 1 9 rfl hD
                have q13_ : D 13 = false := not_yet (hcl.get 13 (by decide)) 1 12 rfl q12_
                have u0_ : upd D 9 0 = D 0 := rfl
                have u1_ : upd D 9 1 = D 1 := rfl
                have u2_ : upd D 9 2 = D 2 := rfl
                have u3_ : upd D 9 3 = D 3 := rfl
                have u4_ : upd D 9 4 = D 4 := rfl
                have u5_ : upd D 9 5 = D 5 := rfl
                have u6_ : upd D 9 6 = D 6 := rfl
                have u7_ : upd D 9 7 = D 7 := rfl
                have u8_ : upd D 9 8 = D 8 := rfl
                have u9_ : upd D 9 9 = true := rfl
                have u10_ : upd D 9 10 = D 10 := rfl
                have u11_ : upd D 9 11 = D 11 := rfl
                have u12_ : upd D 9 12 = D 12 := rfl
                have u13_ : upd D 9 13 = D 13 := rfl
                simp only [hD, p0_, p1_, p2_, p3_, p4_, p5_, p6_, p7_, p8_, q12_, q13_, cnd_t, cnd_f, Asc_t, Asc_f] at ht hs
                subst ht
                refine g_op (v := Value.agg ((encA (encI .i16)) r43.1).toArray) rfl rfl rfl ?_
                show G _ _ _ _ [_, _, _, _, _, _, _, _, _, _, _, _, _, _, _, _, _, _, _, _, _, _, _, _, _, _, _, _, _, _, _, _, _, _, _, _, _, _, _, _, _, _, _, _, _, _, _, _, _, _, _, _, _, _, _, _, _, _, _, _, _] _
                exact hk _ _ ⟨b44, O, (by simp only [u0_, u1_, u2_, u3_, u4_, u5_, u6_, u7_, u8_, u9_, u10_, u11_, u12_, u13_, p0_, p1_, p2_, p3_, p4_, p5_, p6_, p7_, p8_, q12_, q13_, cnd_t, cnd_f, Asc_t, Asc_f]), hs.cast (by first | rfl | simp only [List.take, List.drop, List.cons_append, List.nil_append, List.set_cons_zero, List.set_cons_succ, List.eraseIdx, u0_, u1_, u2_, u3_, u4_, u5_, u6_, u7_, u8_, u9_, u10_, u11_, u12_, u13_, p0_, p1_, p2_, p3_, p4_, p5_, p6_, p7_, p8_, q12_, q13_, cnd_t, cnd_f, Asc_t, Asc_f])⟩
              · intro D t w hD hp hcl hI rest hk
                obtain ⟨b44, O, ht, hs⟩ := hI
                obtain ⟨p8_, _⟩ := hp
                obtain ⟨p7_, _⟩ := hcl.get 8 (by decide) p8_
                obtain ⟨p6_, _, _⟩ := hcl.get 7 (by decide) p7_
                obtain ⟨p0_, p1_, p5_, _⟩ := hcl.get 6 (by decide) p6_
                obtain ⟨p4_, _⟩ := hcl.get 5 (by decide) p5_
                obtain ⟨p2_, p3_, _⟩ := hcl.get 4 (by decide) p4_
                have q13_ : D 13 = false := not_yet (hcl.get 13 (by decide)) 0 10 rfl hD
                have u0_ : upd D 10 0 = D 0 := rfl
                have u1_ : upd D 10 1 = D 1 := rfl
                have u2_ : upd D 10 2 = D 2 := rfl
                have u3_ : upd D 10 3 = D 3 := rfl
                have u4_ : upd D 10 4 = D 4 := rfl
                have u5_ : upd D 10 5 = D 5 := rfl
                have u6_ : upd D 10 6 = D 6 := rfl
                have u7_ : upd D 10 7 = D 7 := rfl
                have u8_ : upd D 10 8 = D 8 := rfl
                have u9_ : upd D 10 9 = D 9 := rfl
                have u10_ : upd D 10 10 = true := rfl
                have u11_ : upd D 10 11 = D 11 := rfl
                have u12_ : upd D 10 12 = D 12 := rfl
                have u13_ : upd D 10 13 = D 13 := rfl
                simp only [hD, p0_, p1_, p2_, p3_, p4_, p5_, p6_, p7_, p8_, q13_, cnd_t, cnd_f, Asc_t, Asc_f] at ht hs
                subst ht
                refine g_op (v := Value.int .i64 r43.2) rfl rfl rfl ?_
                show G _ _ _ _ [_, _, _, _, _, _, _, _, _, _, _, _, _, _, _, _, _, _, _, _, _, _, _, _, _, _, _, _, _, _, _, _, _, _, _, _, _, _, _, _, _, _, _, _, _, _, _, _, _, _, _, _, _, _, _, _, _, _, _, _, _] _
                exact hk _ _ ⟨b44, O, (by simp only [u0_, u1_, u2_, u3_, u4_, u5_, u6_, u7_, u8_, u9_, u10_, u11_, u12_, u13_, p0_, p1_, p2_, p3_, p4_, p5_, p6_, p7_, p8_, q13_, cnd_t, cnd_f, Asc_t, Asc_f]), hs.cast (by first | rfl | simp only [List.take, List.drop, List.cons_append, List.nil_append, List.set_cons_zero, List.set_cons_succ, List.eraseIdx, u0_, u1_, u2_, u3_, u4_, u5_, u6_, u7_, u8_, u9_, u10_, u11_, u12_, u13_, p0_, p1_, p2_, p3_, p4_, p5_, p6_, p7_, p8_, q13_, cnd_t, cnd_f, Asc_t, Asc_f])⟩
              · intro D t w hD hp hcl hI rest hk
                obtain ⟨b44, O, ht, hs⟩ := hI
                have q12_ : D 12 = false := not_yet (hcl.get 12 (by decide)) 0 11 rfl hD
                have q13_ : D 13 = false := not_yet (hcl.get 13 (by decide)) 1 12 rfl q12_
                have u0_ : upd D 11 0 = D 0 := rfl
                have u1_ : upd D 11 1 = D 1 := rfl
                have u2_ : upd D 11 2 = D 2 := rfl
                have u3_ : upd D 11 3 = D 3 := rfl
                have u4_ : upd D 11 4 = D 4 := rfl
                have u5_ : upd D 11 5 = D 5 := rfl
                have u6_ : upd D 11 6 = D 6 := rfl
                have u7_ : upd D 11 7 = D 7 := rfl
                have u8_ : upd D 11 8 = D 8 := rfl
                have u9_ : upd D 11 9 = D 9 := rfl
                have u10_ : upd D 11 10 = D 10 := rfl
                have u11_ : upd D 11 11 = true := rfl
                have u12_ : upd D 11 12 = D 12 := rfl
                have u13_ : upd D 11 13 = D 13 := rfl
                simp only [hD, q12_, q13_, cnd_t, cnd_f, Asc_t, Asc_f] at ht hs
                subst ht
                refine s_alloc hs rfl rfl (z := (Value.agg #[Value.int .i16 0, Value.int .i16 0, Value.int .i16 0, Value.int .i16 0])) (cs := ((encA (encI .i16)) (Ar.rep 4 0))) rfl (fun _ => rfl) rfl ?_
                intro b44 w hs
                show G _ _ _ _ [_, _, _, _, _, _, _, _, _, _, _, _, _, _, _, _, _, _, _, _, _, _, _, _, _, _, _, _, _, _, _, _, _, _, _, _, _, _, _, _, _, _, _, _, _, _, _, _, _, _, _, _, _, _, _, _, _, _, _, _, _] _
                have hs := hs.fill 0 rfl
                exact hk _ _ ⟨b44, O, (by simp only [u0_, u1_, u2_, u3_, u4_, u5_, u6_, u7_, u8_, u9_, u10_, u11_, u12_, u13_, q12_, q13_, cnd_t, cnd_f, Asc_t, Asc_f]), hs.cast (by first | rfl | simp only [List.take, List.drop, List.cons_append, List.nil_append, List.set_cons_zero, List.set_cons_succ, List.eraseIdx, u0_, u1_, u2_, u3_, u4_, u5_, u6_, u7_, u8_, u9_, u10_, u11_, u12_, u13_, q12_, q13_, cnd_t, cnd_f, Asc_t, Asc_f])⟩
              · intro D t w hD hp hcl hI rest hk
                obtain ⟨b44, O, ht, hs⟩ := hI
                obtain ⟨p11_, p9_, p7_, p0_, p1_, p2_, p3_, p4_, p5_, p6_, _, p8_, _, _, _⟩ := hp
                have q13_ : D 13 = false := not_yet (hcl.get 13 (by decide)) 1 12 rfl hD
                have u0_ : upd D 12 0 = D 0 := rfl
                have u1_ : upd D 12 1 = D 1 := rfl
                have u2_ : upd D 12 2 = D 2 := rfl
                have u3_ : upd D 12 3 = D 3 := rfl
                have u4_ : upd D 12 4 = D 4 := rfl
                have u5_ : upd D 12 5 = D 5 := rfl
                have u6_ : upd D 12 6 = D 6 := rfl
                have u7_ : upd D 12 7 = D 7 := rfl
                have u8_ : upd D 12 8 = D 8 := rfl
                have u9_ : upd D 12 9 = D 9 := rfl
                have u10_ : upd D 12 10 = D 10 := rfl
                have u11_ : upd D 12 11 = D 11 := rfl
                have u12_ : upd D 12 12 = true := rfl
                have u13_ : upd D 12 13 = D 13 := rfl
                simp only [hD, p0_, p1_, p2_, p3_, p4_, p5_, p6_, p7_, p8_, p9_, p11_, q13_, cnd_t, cnd_f, Asc_t, Asc_f] at ht hs
                subst ht
                refine s_storeAll (n := 4) hs ((fkA (n := 4) (he := (fkI .i16).len) (h1 := (fkI .i16).one)).len _) rfl rfl (vs := ((encA (encI .i16)) r43.1)) rfl rfl rfl (fun _ => rfl) ((fkA (n := 4) (he := (fkI .i16).len) (h1 := (fkI .i16).one)).len _) ((fkA (n := 4) (he := (fkI .i16).len) (h1 := (fkI .i16).one)).one _) ?_
                intro w hs
                show G _ _ _ _ [_, _, _, _, _, _, _, _, _, _, _, _, _, _, _, _, _, _, _, _, _, _, _, _, _, _, _, _, _, _, _, _, _, _, _, _, _, _, _, _, _, _, _, _, _, _, _, _, _, _, _, _, _, _, _, _, _, _, _, _, _] _
                have hs := hs.push 0 (by simp)
                exact hk _ _ ⟨b44, O, (by simp only [u0_, u1_, u2_, u3_, u4_, u5_, u6_, u7_, u8_, u9_, u10_, u11_, u12_, u13_, p0_, p1_, p2_, p3_, p4_, p5_, p6_, p7_, p8_, p9_, p11_, q13_, cnd_t, cnd_f, Asc_t, Asc_f]), hs.cast (by first | rfl | simp only [List.take, List.drop, List.cons_append, List.nil_append, List.set_cons_zero, List.set_cons_succ, List.eraseIdx, u0_, u1_, u2_, u3_, u4_, u5_, u6_, u7_, u8_, u9_, u10_, u11_, u12_, u13_, p0_, p1_, p2_, p3_, p4_, p5_, p6_, p7_, p8_, p9_, p11_, q13_, cnd_t, cnd_f, Asc_t, Asc_f])⟩
              · intro D t w hD hp hcl hI rest hk
                obtain ⟨b44, O, ht, hs⟩ := hI
                obtain ⟨p10_, p12_, p0_, p1_, p2_, p3_, p4_, p5_, p6_, p7_, p8_, p9_, _, p11_, _, _⟩ := hp
                have u0_ : upd D 13 0 = D 0 := rfl
                have u1_ : upd D 13 1 = D 1 := rfl
                have u2_ : upd D 13 2 = D 2 := rfl
                have u3_ : upd D 13 3 = D 3 := rfl
                have u4_ : upd D 13 4 = D 4 := rfl
                have u5_ : upd D 13 5 = D 5 := rfl
                have u6_ : upd D 13 6 = D 6 := rfl
                have u7_ : upd D 13 7 = D 7 := rfl
                have u8_ : upd D 13 8 = D 8 := rfl
                have u9_ : upd D 13 9 = D 9 := rfl
                have u10_ : upd D 13 10 = D 10 := rfl
                have u11_ : upd D 13 11 = D 11 := rfl
                have u12_ : upd D 13 12 = D 12 := rfl
                have u13_ : upd D 13 13 = true := rfl
                simp only [hD, p0_, p1_, p2_, p3_, p4_, p5_, p6_, p7_, p8_, p9_, p10_, p11_, p12_, cnd_t, cnd_f, Asc_t, Asc_f] at ht hs
                subst ht
                refine g_op (v := Value.int .i64 r43.2) rfl rfl rfl ?_
                show G _ _ _ _ [_, _, _, _, _, _, _, _, _, _, _, _, _, _, _, _, _, _, _, _, _, _, _, _, _, _, _, _, _, _, _, _, _, _, _, _, _, _, _, _, _, _, _, _, _, _, _, _, _, _, _, _, _, _, _, _, _, _, _, _, _] _
                exact hk _ _ ⟨b44, O, (by simp only [u0_, u1_, u2_, u3_, u4_, u5_, u6_, u7_, u8_, u9_, u10_, u11_, u12_, u13_, p0_, p1_, p2_, p3_, p4_, p5_, p6_, p7_, p8_, p9_, p10_, p11_, p12_, cnd_t, cnd_f, Asc_t, Asc_f]), hs.cast (by first | rfl | simp only [List.take, List.drop, List.cons_append, List.nil_append, List.set_cons_zero, List.set_cons_succ, List.eraseIdx, u0_, u1_, u2_, u3_, u4_, u5_, u6_, u7_, u8_, u9_, u10_, u11_, u12_, u13_, p0_, p1_, p2_, p3_, p4_, p5_, p6_, p7_, p8_, p9_, p10_, p11_, p12_, cnd_t, cnd_f, Asc_t, Asc_f])⟩
              · intro D t w hall hI
                obtain ⟨b44, O, ht, hs⟩ := hI
                have p0_ := hall 0 (by decide)
                have p1_ := hall 1 (by decide)
                have p2_ := hall 2 (by decide)
                have p3_ := hall 3 (by decide)
                have p4_ := hall 4 (by decide)
                have p5_ := hall 5 (by decide)
                have p6_ := hall 6 (by decide)
                have p7_ := hall 7 (by decide)
                have p8_ := hall 8 (by decide)
                have p9_ := hall 9 (by decide)
                have p10_ := hall 10 (by decide)
                have p11_ := hall 11 (by decide)
                have p12_ := hall 12 (by decide)
                have p13_ := hall 13 (by decide)
                simp only [p0_, p1_, p2_, p3_, p4_, p5_, p6_, p7_, p8_, p9_, p10_, p11_, p12_, p13_, cnd_t, cnd_f, Asc_t, Asc_f] at ht hs
                subst ht
                refine g_seq ?_
                refine g_seq ?_
                refine g_region ?_
                show G _ _ _ (.inRegion _ [0, 1] :: _) _ _
                refine g_op (v := Value.int .i64 r43.2) rfl rfl rfl ?_
                show G _ _ _ _ [_, _, _, _, _, _, _, _, _, _, _, _, _, _, _, _, _, _, _, _, _, _, _, _, _, _, _, _, _, _, _, _, _, _, _, _, _, _, _, _, _, _, _, _, _, _, _, _, _, _, _, _, _, _, _, _, _, _, _, _, _] _
                refine g_op_b (B := r43.2 == 0) rfl rfl rfl ?_ ?_
                · intro hb
                  rw [if_pos (b_beq_t hb)] at H
                  show G _ _ _ _ [_, _, _, _, _, _, _, _, _, _, _, _, _, _, _, _, _, _, _, _, _, _, _, _, _, _, _, _, _, _, _, _, _, _, _, _, _, _, _, _, _, _, _, _, _, _, _, _, _, _, _, _, _, _, _, _, _, _, _, _, _] _
                  refine g_ops_nil ?_
                  refine g_cond_true rfl ?_
                  refine g_seq ?_
                  refine g_region ?_
                  show G _ _ _ (.inRegion _ [0, 1, 2, 3, 4] :: _) _ _
                  refine s_lit0 (κ := (K.int .i64)) hs rfl rfl rfl rfl (fun _ => rfl) ?_
                  intro v47 w hs
                  show G _ _ _ _ [_, _, _, _, _, _, _, _, _, _, _, _, _, _, _, _, _, _, _, _, _, _, _, _, _, _, _, _, _, _, _, _, _, _, _, _, _, _, _, _, _, _, _, _, _, _, _, _, _, _, _, _, _, _, _, _, _, _, _, _, _] _
                  refine g_op (v := Value.agg ((encA (encI .i16)) (Ar.rep 4 0)).toArray) rfl rfl (x_build rfl rfl) ?_
                  show G _ _ _ _ [_, _, _, _, _, _, _, _, _, _, _, _, _, _, _, _, _, _, _, _, _, _, _, _, _, _, _, _, _, _, _, _, _, _, _, _, _, _, _, _, _, _, _, _, _, _, _, _, _, _, _, _, _, _, _, _, _, _, _, _, _] _
                  refine g_op (v := v47) rfl rfl rfl ?_
                  show G _ _ _ _ [_, _, _, _, _, _, _, _, _, _, _, _, _, _, _, _, _, _, _, _, _, _, _, _, _, _, _, _, _, _, _, _, _, _, _, _, _, _, _, _, _, _, _, _, _, _, _, _, _, _, _, _, _, _, _, _, _, _, _, _, _] _
                  have hs := hs.pull 3 rfl
                  have hs : St _ [_, _, _, _, _] _ := hs
                  refine s_storeAll (n := 4) hs ((fkA (n := 4) (he := (fkI .i16).len) (h1 := (fkI .i16).one)).len _) rfl rfl (vs := ((encA (encI .i16)) (Ar.rep 4 0))) rfl rfl rfl (fun _ => rfl) ((fkA (n := 4) (he := (fkI .i16).len) (h1 := (fkI .i16).one)).len _) ((fkA (n := 4) (he := (fkI .i16).len) (h1 := (fkI .i16).one)).one _) ?_
                  intro w hs
                  refine g_op (v := Value.int .i64 4) rfl rfl rfl ?_
                  show G _ _ _ _ [_, _, _, _, _, _, _, _, _, _, _, _, _, _, _, _, _, _, _, _, _, _, _, _, _, _, _, _, _, _, _, _, _, _, _, _, _, _, _, _, _, _, _, _, _, _, _, _, _, _, _, _, _, _, _, _, _, _, _, _, _] _
                  refine g_ops_nil ?_
                  obtain rfl := Option.some.inj H
                  subst Hx1_
                  have H := Option.some.inj Hr1_
                  subst H
                  refine g_ret Try.func69 (v := Value.tuple #[v47, Value.agg ((encA (encI .i16)) (Ar.rep 4 0)).toArray, Value.int .i64 4]) (resN (l := Try.f69.results.toList) (vs := [v47, Value.agg ((encA (encI .i16)) (Ar.rep 4 0)).toArray, Value.int .i64 4]) rfl ⟨rfl, ⟨_, rfl, (run_loadVar_agg (es := ((encA (encI .i16)) (Ar.rep 4 0))) rfl (congrArg (Result.ok · _) ((fkA (n := 4) (he := (fkI .i16).len) (h1 := (fkI .i16).one)).len _).symm) (cells_all (hs.cells 0 rfl)))⟩, rfl, trivial⟩ (by simp)) ?_
                  have hs := hs.pull 1 rfl
                  have hs : St _ [_] _ := St.take (Γ' := [_, _, _, _]) hs
                  exact ⟨_, rfl, v47, rfl, hs⟩
                · intro hb
                  rw [if_neg (b_beq_f hb)] at H
                  show G _ _ _ _ [_, _, _, _, _, _, _, _, _, _, _, _, _, _, _, _, _, _, _, _, _, _, _, _, _, _, _, _, _, _, _, _, _, _, _, _, _, _, _, _, _, _, _, _, _, _, _, _, _, _, _, _, _, _, _, _, _, _, _, _, _] _
                  refine g_ops_nil ?_
                  refine g_cond_false rfl ?_
                  refine g_skip ?_
                  refine g_seq ?_
                  refine g_region ?_
                  show G _ _ _ (.inRegion _ [0, 1] :: _) _ _
                  refine s_loadA rfl rfl (es := ((encA (encI .i16)) r43.1)) rfl rfl (fun _ => rfl) (n := 4) (fun _ => rfl) ((fkA (n := 4) (he := (fkI .i16).len) (h1 := (fkI .i16).one)).len _) (cells_all (hs.cells 0 rfl)) ?_
                  show G _ _ _ _ [_, _, _, _, _, _, _, _, _, _, _, _, _, _, _, _, _, _, _, _, _, _, _, _, _, _, _, _, _, _, _, _, _, _, _, _, _, _, _, _, _, _, _, _, _, _, _, _, _, _, _, _, _, _, _, _, _, _, _, _, _] _
                  have hs := hs.pull 1 rfl
                  have hs : St _ [_, _, _, _] _ := hs
                  refine s_storeAll (n := 4) hs ((fkA (n := 4) (he := (fkI .i16).len) (h1 := (fkI .i16).one)).len _) rfl rfl (vs := ((encA (encI .i16)) r43.1)) rfl rfl rfl (fun _ => rfl) ((fkA (n := 4) (he := (fkI .i16).len) (h1 := (fkI .i16).one)).len _) ((fkA (n := 4) (he := (fkI .i16).len) (h1 := (fkI .i16).one)).one _) ?_
                  intro w hs
                  refine g_ops_nil ?_
                  refine g_seq ?_
                  refine g_region ?_
                  show G _ _ _ (.inRegion _ [0, 1, 2, 3] :: _) _ _
                  refine g_op (v := Value.int .i64 x37) rfl rfl rfl ?_
                  show G _ _ _ _ [_, _, _, _, _, _, _, _, _, _, _, _, _, _, _, _, _, _, _, _, _, _, _, _, _, _, _, _, _, _, _, _, _, _, _, _, _, _, _, _, _, _, _, _, _, _, _, _, _, _, _, _, _, _, _, _, _, _, _, _, _] _
                  refine g_op (v := Value.int .i64 r43.2) rfl rfl rfl ?_
                  show G _ _ _ _ [_, _, _, _, _, _, _, _, _, _, _, _, _, _, _, _, _, _, _, _, _, _, _, _, _, _, _, _, _, _, _, _, _, _, _, _, _, _, _, _, _, _, _, _, _, _, _, _, _, _, _, _, _, _, _, _, _, _, _, _, _] _
                  refine g_op (v := Value.int .i64 (i64w (x37 + r43.2))) rfl rfl rfl ?_
                  show G _ _ _ _ [_, _, _, _, _, _, _, _, _, _, _, _, _, _, _, _, _, _, _, _, _, _, _, _, _, _, _, _, _, _, _, _, _, _, _, _, _, _, _, _, _, _, _, _, _, _, _, _, _, _, _, _, _, _, _, _, _, _, _, _, _] _
                  refine g_op (v := Value.int .i64 (i64w (x37 + r43.2))) rfl rfl rfl ?_
                  show G _ _ _ _ [_, _, _, _, _, _, _, _, _, _, _, _, _, _, _, _, _, _, _, _, _, _, _, _, _, _, _, _, _, _, _, _, _, _, _, _, _, _, _, _, _, _, _, _, _, _, _, _, _, _, _, _, _, _, _, _, _, _, _, _, _] _
                  refine g_ops_nil ?_
                  refine g_region ?_
                  show G _ _ _ (.inRegion _ [0, 1, 2, 3, 4] :: _) _ _
                  refine g_op (v := v35) rfl rfl rfl ?_
                  show G _ _ _ _ [_, _, _, _, _, _, _, _, _, _, _, _, _, _, _, _, _, _, _, _, _, _, _, _, _, _, _, _, _, _, _, _, _, _, _, _, _, _, _, _, _, _, _, _, _, _, _, _, _, _, _, _, _, _, _, _, _, _, _, _, _] _
                  refine g_op (v := Value.int .i64 (i64w (x37 + r43.2))) rfl rfl rfl ?_
                  show G _ _ _ _ [_, _, _, _, _, _, _, _, _, _, _, _, _, _, _, _, _, _, _, _, _, _, _, _, _, _, _, _, _, _, _, _, _, _, _, _, _, _, _, _, _, _, _, _, _, _, _, _, _, _, _, _, _, _, _, _, _, _, _, _, _] _
                  refine s_lit1 (fkI .i64) (y := i64w (x37 + r43.2)) hs rfl rfl rfl rfl (fun _ => rfl) (zv := (Value.int .i64 0)) (fun _ => rfl) rfl (by decide) (by decide) rfl ?_
                  intro v49 w hs
                  show G _ _ _ _ [_, _, _, _, _, _, _, _, _, _, _, _, _, _, _, _, _, _, _, _, _, _, _, _, _, _, _, _, _, _, _, _, _, _, _, _, _, _, _, _, _, _, _, _, _, _, _, _, _, _, _, _, _, _, _, _, _, _, _, _, _] _
                  have hs := hs.pull 4 rfl
                  have hs : St _ [_, _, _, _, _] _ := hs
                  obtain ⟨g, H⟩ := ite_get H
                  refine s_append (fkI .i64) (zv := (Value.int .i64 0)) (B := 8) hs (hs.row 1 rfl) rfl rfl rfl rfl rfl rfl rfl rfl rfl (by decide) rfl rfl (by decide) (by omega) ?_
                  intro v51 w hs
                  show G _ _ _ _ [_, _, _, _, _, _, _, _, _, _, _, _, _, _, _, _, _, _, _, _, _, _, _, _, _, _, _, _, _, _, _, _, _, _, _, _, _, _, _, _, _, _, _, _, _, _, _, _, _, _, _, _, _, _, _, _, _, _, _, _, _] _
                  refine g_op (v := v51) rfl rfl rfl ?_
                  show G _ _ _ _ [_, _, _, _, _, _, _, _, _, _, _, _, _, _, _, _, _, _, _, _, _, _, _, _, _, _, _, _, _, _, _, _, _, _, _, _, _, _, _, _, _, _, _, _, _, _, _, _, _, _, _, _, _, _, _, _, _, _, _, _, _] _
                  refine g_ops_nil ?_
                  refine g_inBlock ?_
                  refine g_region ?_
                  show G _ _ _ (.inRegion _ [0, 1, 2] :: _) _ _
                  refine g_op (v := Value.int .i64 x38) rfl rfl rfl ?_
                  show G _ _ _ _ [_, _, _, _, _, _, _, _, _, _, _, _, _, _, _, _, _, _, _, _, _, _, _, _, _, _, _, _, _, _, _, _, _, _, _, _, _, _, _, _, _, _, _, _, _, _, _, _, _, _, _, _, _, _, _, _, _, _, _, _, _] _
                  refine g_op (v := Value.int .i64 (i64w (x38 + 1))) rfl rfl rfl ?_
                  show G _ _ _ _ [_, _, _, _, _, _, _, _, _, _, _, _, _, _, _, _, _, _, _, _, _, _, _, _, _, _, _, _, _, _, _, _, _, _, _, _, _, _, _, _, _, _, _, _, _, _, _, _, _, _, _, _, _, _, _, _, _, _, _, _, _] _
                  refine g_op (v := Value.int .i64 (i64w (x38 + 1))) rfl rfl rfl ?_
                  show G _ _ _ _ [_, _, _, _, _, _, _, _, _, _, _, _, _, _, _, _, _, _, _, _, _, _, _, _, _, _, _, _, _, _, _, _, _, _, _, _, _, _, _, _, _, _, _, _, _, _, _, _, _, _, _, _, _, _, _, _, _, _, _, _, _] _
                  refine g_ops_nil ?_
                  obtain rfl := Option.some.inj H
                  have hs := hs.pull 0 rfl
                  have hs := hs.pull 4 rfl
                  have hs := hs.pull 3 rfl
                  have hs : St _ [_, _, _] _ := St.take (Γ' := [_, _]) hs
                  exact ih1_ _ _ ⟨r43.1, v51, x36 ++ ([i64w (x37 + r43.2)]), i64w (x37 + r43.2), i64w (x38 + 1), Hx1_, rfl, hs⟩
        · intro hb
          rw [if_neg (b_dec_f hb)] at H
          show G _ _ _ _ [_, _, _, _, _, _, _, _, _, _, _, _, _, _, _, _, _, _, _, _, _, _, _, _, _, _, _, _, _, _, _, _, _, _, _, _, _, _, _, _, _, _, _, _, _, _, _, _, _, _, _, _, _, _, _, _, _, _, _, _, _] _
          refine g_ops_nil ?_
          refine g_cond_false rfl ?_
          obtain rfl := Option.some.inj H
          subst Hx1_
          have hs := hs.pull 2 rfl
          have hs := hs.pull 2 rfl
          have hs := hs.pull 2 rfl
          have hs : St _ [_, _, _] _ := St.take (Γ' := []) hs
          refine g_exit rfl ?_
          exact ha1_ _ _ ⟨x33, v35, x36, Hr1_, rfl, hs⟩

end Go.Proofs.YtgachgjcnmeicaaX
