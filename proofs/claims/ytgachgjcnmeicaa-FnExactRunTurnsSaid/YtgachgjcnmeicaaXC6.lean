/- Contracts, printed by gen.py. -/
import Derived.Test.YtgachgjcnmeicaaXC5
namespace Go.Proofs.YtgachgjcnmeicaaX
open Go Go.RowKit Go.Proofs
set_option linter.unusedVariables false
set_option linter.unusedSimpArgs false
/- function 38 impl_RunTurns -/
def impl_RunTurns.post (w0 : World) (r : ((List Int) × (Ar Int 4) × Int)) (v : Value) (w : World) : Prop := ∃ u1 : Value, v = Value.tuple #[u1, Value.agg ((encA (encI .i16)) r.2.1).toArray, Value.int .i64 r.2.2] ∧ St w0 [Row 2 (K.int .i64) u1 r.1] w
set_option maxHeartbeats 400000 in
set_option maxRecDepth 100000 in
theorem impl_RunTurns.calls {N : Nat} {a1 : (List Int)} {a3 : (Ar Int 4)} {a4 : (List Int)} {v2 : Value} {v5 : Value} {w0 : World} {r : ((List Int) × (Ar Int 4) × Int)} (hr0 : RdRow (K.int .i16) w0 v2 a1) (hr2 : RdRow (K.int .u8) w0 v5 a4) (H : impl_RunTurns.f N a1 a3 a4 = some r) :
    Calls Try.prog 38 #[v2, Value.agg ((encA (encI .i16)) a3).toArray, v5] w0 fun e w => ∃ v, e = .returned v ∧ impl_RunTurns.post w0 r v w := by
  unfold impl_RunTurns.f at H
  have hs : St w0 [] w0 := St.refl w0
  refine calls_of_g (n := 57) Try.func38 rfl rfl ?_
  show G _ _ _ _ [_, _, _, _, _, _, _, _, _, _, _, _, _, _, _, _, _, _, _, _, _, _, _, _, _, _, _, _, _, _, _, _, _, _, _, _, _, _, _, _, _, _, _, _, _, _, _, _, _, _, _, _, _, _, _, _, _, _, _, _] _
  refine g_seq ?_
  refine g_region ?_
  show G _ _ _ (.inRegion _ [0, 1, 2, 3] :: _) _ _
  refine s_box hs rfl rfl (cs := ((encA (encI .i16)) a3)) rfl rfl ?_
  intro b6 w hs
  show G _ _ _ _ [_, _, _, _, _, _, _, _, _, _, _, _, _, _, _, _, _, _, _, _, _, _, _, _, _, _, _, _, _, _, _, _, _, _, _, _, _, _, _, _, _, _, _, _, _, _, _, _, _, _, _, _, _, _, _, _, _, _, _, _] _
  refine g_op (v := Value.slice none 0 0) rfl rfl rfl ?_
  show G _ _ _ _ [_, _, _, _, _, _, _, _, _, _, _, _, _, _, _, _, _, _, _, _, _, _, _, _, _, _, _, _, _, _, _, _, _, _, _, _, _, _, _, _, _, _, _, _, _, _, _, _, _, _, _, _, _, _, _, _, _, _, _, _] _
  refine s_alloc hs rfl rfl (z := (Value.agg #[Value.int .i16 0, Value.int .i16 0, Value.int .i16 0, Value.int .i16 0])) (cs := ((encA (encI .i16)) (Ar.rep 4 0))) rfl (fun _ => rfl) rfl ?_
  intro b8 w hs
  show G _ _ _ _ [_, _, _, _, _, _, _, _, _, _, _, _, _, _, _, _, _, _, _, _, _, _, _, _, _, _, _, _, _, _, _, _, _, _, _, _, _, _, _, _, _, _, _, _, _, _, _, _, _, _, _, _, _, _, _, _, _, _, _, _] _
  refine g_op (v := Value.int .i64 0) rfl rfl rfl ?_
  show G _ _ _ _ [_, _, _, _, _, _, _, _, _, _, _, _, _, _, _, _, _, _, _, _, _, _, _, _, _, _, _, _, _, _, _, _, _, _, _, _, _, _, _, _, _, _, _, _, _, _, _, _, _, _, _, _, _, _, _, _, _, _, _, _] _
  refine g_ops_nil ?_
  refine g_seq ?_
  refine g_block ?_
  refine g_seq ?_
  refine g_region ?_
  show G _ _ _ (.inRegion _ [0, 1, 2, 3, 4] :: _) _ _
  refine g_op (v := v2) rfl rfl rfl ?_
  show G _ _ _ _ [_, _, _, _, _, _, _, _, _, _, _, _, _, _, _, _, _, _, _, _, _, _, _, _, _, _, _, _, _, _, _, _, _, _, _, _, _, _, _, _, _, _, _, _, _, _, _, _, _, _, _, _, _, _, _, _, _, _, _, _] _
  refine s_loadA rfl rfl (es := ((encA (encI .i16)) a3)) rfl rfl (fun _ => rfl) (n := 4) (fun _ => rfl) ((fkA (n := 4) (he := (fkI .i16).len) (h1 := (fkI .i16).one)).len _) (cells_all (hs.cells 1 rfl)) ?_
  show G _ _ _ _ [_, _, _, _, _, _, _, _, _, _, _, _, _, _, _, _, _, _, _, _, _, _, _, _, _, _, _, _, _, _, _, _, _, _, _, _, _, _, _, _, _, _, _, _, _, _, _, _, _, _, _, _, _, _, _, _, _, _, _, _] _
  obtain ⟨r10, Hr10, H⟩ := bind_get H
  refine s_call (args := [v2, Value.agg ((encA (encI .i16)) a3).toArray]) rfl rfl (x_call rfl (callFunc_enter Try.func23 rfl rfl) rfl) (impl_ValidTops.calls (a1 := a1) (a3 := a3) (hs.rd hr0) Hr10) ?_
  rintro _ w ⟨rfl, hs2⟩
  have hs : St _ [_, _] _ := hs.call hs2
  cases r10 with
  | true =>
    rw [if_pos rfl] at H
    show G _ _ _ _ [_, _, _, _, _, _, _, _, _, _, _, _, _, _, _, _, _, _, _, _, _, _, _, _, _, _, _, _, _, _, _, _, _, _, _, _, _, _, _, _, _, _, _, _, _, _, _, _, _, _, _, _, _, _, _, _, _, _, _, _] _
    refine g_op (v := Value.bool false) rfl rfl rfl ?_
    show G _ _ _ _ [_, _, _, _, _, _, _, _, _, _, _, _, _, _, _, _, _, _, _, _, _, _, _, _, _, _, _, _, _, _, _, _, _, _, _, _, _, _, _, _, _, _, _, _, _, _, _, _, _, _, _, _, _, _, _, _, _, _, _, _] _
    refine g_op (v := Value.bool false) rfl rfl rfl ?_
    show G _ _ _ _ [_, _, _, _, _, _, _, _, _, _, _, _, _, _, _, _, _, _, _, _, _, _, _, _, _, _, _, _, _, _, _, _, _, _, _, _, _, _, _, _, _, _, _, _, _, _, _, _, _, _, _, _, _, _, _, _, _, _, _, _] _
    refine g_ops_nil ?_
    refine g_cond_false rfl ?_
    refine g_seq ?_
    refine g_region ?_
    show G _ _ _ (.inRegion _ [0, 1, 2, 3] :: _) _ _
    refine g_op (v := v5) rfl rfl rfl ?_
    show G _ _ _ _ [_, _, _, _, _, _, _, _, _, _, _, _, _, _, _, _, _, _, _, _, _, _, _, _, _, _, _, _, _, _, _, _, _, _, _, _, _, _, _, _, _, _, _, _, _, _, _, _, _, _, _, _, _, _, _, _, _, _, _, _] _
    refine s_len (hs.rd hr2) rfl rfl rfl rfl rfl ?_
    show G _ _ _ _ [_, _, _, _, _, _, _, _, _, _, _, _, _, _, _, _, _, _, _, _, _, _, _, _, _, _, _, _, _, _, _, _, _, _, _, _, _, _, _, _, _, _, _, _, _, _, _, _, _, _, _, _, _, _, _, _, _, _, _, _] _
    refine g_op_b (B := decide ((a4.length : Int) > 60)) rfl rfl rfl ?_ ?_
    · intro hb
      rw [if_pos (b_dec_t hb)] at H
      show G _ _ _ _ [_, _, _, _, _, _, _, _, _, _, _, _, _, _, _, _, _, _, _, _, _, _, _, _, _, _, _, _, _, _, _, _, _, _, _, _, _, _, _, _, _, _, _, _, _, _, _, _, _, _, _, _, _, _, _, _, _, _, _, _] _
      refine g_op (v := Value.bool true) rfl rfl rfl ?_
      show G _ _ _ _ [_, _, _, _, _, _, _, _, _, _, _, _, _, _, _, _, _, _, _, _, _, _, _, _, _, _, _, _, _, _, _, _, _, _, _, _, _, _, _, _, _, _, _, _, _, _, _, _, _, _, _, _, _, _, _, _, _, _, _, _] _
      refine g_ops_nil ?_
      refine g_cond_true rfl ?_
      refine g_seq ?_
      refine g_region ?_
      show G _ _ _ (.inRegion _ [0, 1, 2, 3] :: _) _ _
      refine g_op (v := Value.agg ((encA (encI .i16)) (Ar.rep 4 0)).toArray) rfl rfl (x_build rfl rfl) ?_
      show G _ _ _ _ [_, _, _, _, _, _, _, _, _, _, _, _, _, _, _, _, _, _, _, _, _, _, _, _, _, _, _, _, _, _, _, _, _, _, _, _, _, _, _, _, _, _, _, _, _, _, _, _, _, _, _, _, _, _, _, _, _, _, _, _] _
      refine g_op (v := Value.slice none 0 0) rfl rfl rfl ?_
      show G _ _ _ _ [_, _, _, _, _, _, _, _, _, _, _, _, _, _, _, _, _, _, _, _, _, _, _, _, _, _, _, _, _, _, _, _, _, _, _, _, _, _, _, _, _, _, _, _, _, _, _, _, _, _, _, _, _, _, _, _, _, _, _, _] _
      refine s_storeAll (n := 4) hs ((fkA (n := 4) (he := (fkI .i16).len) (h1 := (fkI .i16).one)).len _) rfl rfl (vs := ((encA (encI .i16)) (Ar.rep 4 0))) rfl rfl rfl (fun _ => rfl) ((fkA (n := 4) (he := (fkI .i16).len) (h1 := (fkI .i16).one)).len _) ((fkA (n := 4) (he := (fkI .i16).len) (h1 := (fkI .i16).one)).one _) ?_
      intro w hs
      refine g_op (v := Value.int .i64 3) rfl rfl rfl ?_
      show G _ _ _ _ [_, _, _, _, _, _, _, _, _, _, _, _, _, _, _, _, _, _, _, _, _, _, _, _, _, _, _, _, _, _, _, _, _, _, _, _, _, _, _, _, _, _, _, _, _, _, _, _, _, _, _, _, _, _, _, _, _, _, _, _] _
      refine g_ops_nil ?_
      obtain rfl := Option.some.inj H
      refine g_ret Try.func38 (v := Value.tuple #[Value.slice none 0 0, Value.agg ((encA (encI .i16)) (Ar.rep 4 0)).toArray, Value.int .i64 3]) (resN (l := Try.f38.results.toList) (vs := [Value.slice none 0 0, Value.agg ((encA (encI .i16)) (Ar.rep 4 0)).toArray, Value.int .i64 3]) rfl ⟨rfl, ⟨_, rfl, (run_loadVar_agg (es := ((encA (encI .i16)) (Ar.rep 4 0))) rfl (congrArg (Result.ok · _) ((fkA (n := 4) (he := (fkI .i16).len) (h1 := (fkI .i16).one)).len _).symm) (cells_all (hs.cells 0 rfl)))⟩, rfl, trivial⟩ (by simp)) ?_
      have hs := hs.nil 2 (K.int .i64)
      have hs := hs.pull 0 rfl
      have hs : St _ [_] _ := St.take (Γ' := [_, _]) hs
      exact ⟨_, rfl, (Value.slice none 0 0), rfl, hs⟩
    · intro hb
      rw [if_neg (b_dec_f hb)] at H
      show G _ _ _ _ [_, _, _, _, _, _, _, _, _, _, _, _, _, _, _, _, _, _, _, _, _, _, _, _, _, _, _, _, _, _, _, _, _, _, _, _, _, _, _, _, _, _, _, _, _, _, _, _, _, _, _, _, _, _, _, _, _, _, _, _] _
      refine g_op (v := Value.bool false) rfl rfl rfl ?_
      show G _ _ _ _ [_, _, _, _, _, _, _, _, _, _, _, _, _, _, _, _, _, _, _, _, _, _, _, _, _, _, _, _, _, _, _, _, _, _, _, _, _, _, _, _, _, _, _, _, _, _, _, _, _, _, _, _, _, _, _, _, _, _, _, _] _
      refine g_ops_nil ?_
      refine g_cond_false rfl ?_
      refine g_skip ?_
      refine g_inBlock ?_
      refine g_seq ?_
      refine g_region ?_
      show G _ _ _ (.inRegion _ [0, 1, 2] :: _) _ _
      refine s_lit0 (κ := (K.int .i64)) hs rfl rfl rfl rfl (fun _ => rfl) ?_
      intro v12 w hs
      show G _ _ _ _ [_, _, _, _, _, _, _, _, _, _, _, _, _, _, _, _, _, _, _, _, _, _, _, _, _, _, _, _, _, _, _, _, _, _, _, _, _, _, _, _, _, _, _, _, _, _, _, _, _, _, _, _, _, _, _, _, _, _, _, _] _
      refine g_op (v := v12) rfl rfl rfl ?_
      show G _ _ _ _ [_, _, _, _, _, _, _, _, _, _, _, _, _, _, _, _, _, _, _, _, _, _, _, _, _, _, _, _, _, _, _, _, _, _, _, _, _, _, _, _, _, _, _, _, _, _, _, _, _, _, _, _, _, _, _, _, _, _, _, _] _
      refine g_op (v := Value.int .i64 0) rfl rfl rfl ?_
      show G _ _ _ _ [_, _, _, _, _, _, _, _, _, _, _, _, _, _, _, _, _, _, _, _, _, _, _, _, _, _, _, _, _, _, _, _, _, _, _, _, _, _, _, _, _, _, _, _, _, _, _, _, _, _, _, _, _, _, _, _, _, _, _, _] _
      refine g_ops_nil ?_
      refine g_seq ?_
      refine g_seq ?_
      refine g_region ?_
      show G _ _ _ (.inRegion _ [0, 1, 2] :: _) _ _
      refine g_op (v := v5) rfl rfl rfl ?_
      show G _ _ _ _ [_, _, _, _, _, _, _, _, _, _, _, _, _, _, _, _, _, _, _, _, _, _, _, _, _, _, _, _, _, _, _, _, _, _, _, _, _, _, _, _, _, _, _, _, _, _, _, _, _, _, _, _, _, _, _, _, _, _, _, _] _
      refine s_len (hs.rd hr2) rfl rfl rfl rfl rfl ?_
      show G _ _ _ _ [_, _, _, _, _, _, _, _, _, _, _, _, _, _, _, _, _, _, _, _, _, _, _, _, _, _, _, _, _, _, _, _, _, _, _, _, _, _, _, _, _, _, _, _, _, _, _, _, _, _, _, _, _, _, _, _, _, _, _, _] _
      refine g_op (v := Value.int .i64 0) rfl rfl rfl ?_
      show G _ _ _ _ [_, _, _, _, _, _, _, _, _, _, _, _, _, _, _, _, _, _, _, _, _, _, _, _, _, _, _, _, _, _, _, _, _, _, _, _, _, _, _, _, _, _, _, _, _, _, _, _, _, _, _, _, _, _, _, _, _, _, _, _] _
      refine g_ops_nil ?_
      obtain ⟨o1_, Ho, Hr1_⟩ := bind_get H
      refine g_block_join (J := fun t w => ∃ x45 : (Ar Int 4), ∃ v46 : Value, ∃ x47 : (List Int), impl_RunTurns.a0 N x45 x47 = some r ∧ Fr t (fun O => ([O 0, O 1, O 2, O 3, Value.pointer (some ⟨b6, 0, none⟩), O 5, O 6, Value.pointer (some ⟨b8, 0, none⟩), O 8, v46, O 10, O 11, O 12, O 13, O 14, O 15, O 16, O 17, O 18, O 19, O 20, O 21, O 22, O 23, O 24, O 25, O 26, O 27, O 28, O 29, O 30, O 31, O 32, O 33, O 34, O 35, O 36, O 37, O 38, O 39, O 40, O 41, O 42, O 43, O 44, O 45, O 46, O 47, O 48, O 49, O 50, O 51, O 52, O 53, O 54, O 55, O 56, O 57, O 58, O 59] : List Value)) ∧ St w0 [Cells b6 ((encA (encI .i16)) x45) 37, Cells b8 ((encA (encI .i16)) (Ar.rep 4 0)) 37, Row 2 (K.int .i64) v46 x47] w) ?_ ?_
      · rintro t w ⟨x45, v46, x47, H, hf, hs⟩
        obtain ⟨O, rfl⟩ := hf.open
        show G _ _ _ _ [_, _, _, _, _, _, _, _, _, _, _, _, _, _, _, _, _, _, _, _, _, _, _, _, _, _, _, _, _, _, _, _, _, _, _, _, _, _, _, _, _, _, _, _, _, _, _, _, _, _, _, _, _, _, _, _, _, _, _, _] _
        unfold impl_RunTurns.a0 at H
        refine g_seq ?_
        refine g_name ?_
        intro T hT
        refine g_any (n := 5) rfl [0, 1, 2, 3, 4] [0, 2, 1, 3, 4] rfl rfl (Inv := fun D t w => ∃ O : Nat → Value, t = [O 0, O 1, O 2, O 3, Value.pointer (some ⟨b6, 0, none⟩), O 5, cnd (D 2) v46 (O 6), Value.pointer (some ⟨b8, 0, none⟩), cnd (D 4) (Value.int .i64 0) (O 8), v46, O 10, O 11, O 12, O 13, O 14, O 15, O 16, O 17, O 18, O 19, O 20, O 21, O 22, O 23, O 24, O 25, O 26, O 27, O 28, O 29, O 30, O 31, O 32, O 33, O 34, O 35, O 36, O 37, O 38, O 39, O 40, O 41, O 42, O 43, O 44, O 45, O 46, O 47, O 48, O 49, O 50, O 51, O 52, O 53, O 54, O 55, O 56, O 57, cnd (D 0) v46 (O 58), cnd (D 1) (Value.agg ((encA (encI .i16)) x45).toArray) (O 59)] ∧ St w0 [Cells b6 ((encA (encI .i16)) x45) 37, Cells b8 (cnd (D 3) ((encA (encI .i16)) x45) ((encA (encI .i16)) (Ar.rep 4 0))) 37, Row 2 (K.int .i64) v46 x47] w) ?_ ⟨⟨⟨⟨⟨trivial, ?_⟩, ?_⟩, ?_⟩, ?_⟩, ?_⟩ ?_
        · intro w hh hbw
          have hs := hs.samew hh hbw
          exact ⟨fun i => T.getD i undef, (by subst hT; rfl), hs⟩
        · intro D t w hD hp hcl hI rest hk
          obtain ⟨O, ht, hs⟩ := hI
          have q2_ : D 2 = false := not_yet (hcl.get 2 (by decide)) 0 0 rfl hD
          have q3_ : D 3 = false := not_yet (hcl.get 3 (by decide)) 1 2 rfl q2_
          have q4_ : D 4 = false := not_yet (hcl.get 4 (by decide)) 0 3 rfl q3_
          have u0_ : upd D 0 0 = true := rfl
          have u1_ : upd D 0 1 = D 1 := rfl
          have u2_ : upd D 0 2 = D 2 := rfl
          have u3_ : upd D 0 3 = D 3 := rfl
          have u4_ : upd D 0 4 = D 4 := rfl
          simp only [hD, q2_, q3_, q4_, cnd_t, cnd_f, Asc_t, Asc_f] at ht hs
          subst ht
          refine g_op (v := v46) rfl rfl rfl ?_
          show G _ _ _ _ [_, _, _, _, _, _, _, _, _, _, _, _, _, _, _, _, _, _, _, _, _, _, _, _, _, _, _, _, _, _, _, _, _, _, _, _, _, _, _, _, _, _, _, _, _, _, _, _, _, _, _, _, _, _, _, _, _, _, _, _] _
          exact hk _ _ ⟨O, (by simp only [u0_, u1_, u2_, u3_, u4_, q2_, q3_, q4_, cnd_t, cnd_f, Asc_t, Asc_f]), hs.cast (by first | rfl | simp only [List.take, List.drop, List.cons_append, List.nil_append, List.set_cons_zero, List.set_cons_succ, List.eraseIdx, u0_, u1_, u2_, u3_, u4_, q2_, q3_, q4_, cnd_t, cnd_f, Asc_t, Asc_f])⟩
        · intro D t w hD hp hcl hI rest hk
          obtain ⟨O, ht, hs⟩ := hI
          have q3_ : D 3 = false := not_yet (hcl.get 3 (by decide)) 0 1 rfl hD
          have q4_ : D 4 = false := not_yet (hcl.get 4 (by decide)) 0 3 rfl q3_
          have u0_ : upd D 1 0 = D 0 := rfl
          have u1_ : upd D 1 1 = true := rfl
          have u2_ : upd D 1 2 = D 2 := rfl
          have u3_ : upd D 1 3 = D 3 := rfl
          have u4_ : upd D 1 4 = D 4 := rfl
          simp only [hD, q3_, q4_, cnd_t, cnd_f, Asc_t, Asc_f] at ht hs
          subst ht
          refine s_loadA rfl rfl (es := ((encA (encI .i16)) x45)) rfl rfl (fun _ => rfl) (n := 4) (fun _ => rfl) ((fkA (n := 4) (he := (fkI .i16).len) (h1 := (fkI .i16).one)).len _) (cells_all (hs.cells 0 rfl)) ?_
          show G _ _ _ _ [_, _, _, _, _, _, _, _, _, _, _, _, _, _, _, _, _, _, _, _, _, _, _, _, _, _, _, _, _, _, _, _, _, _, _, _, _, _, _, _, _, _, _, _, _, _, _, _, _, _, _, _, _, _, _, _, _, _, _, _] _
          exact hk _ _ ⟨O, (by simp only [u0_, u1_, u2_, u3_, u4_, q3_, q4_, cnd_t, cnd_f, Asc_t, Asc_f]), hs.cast (by first | rfl | simp only [List.take, List.drop, List.cons_append, List.nil_append, List.set_cons_zero, List.set_cons_succ, List.eraseIdx, u0_, u1_, u2_, u3_, u4_, q3_, q4_, cnd_t, cnd_f, Asc_t, Asc_f])⟩
        · intro D t w hD hp hcl hI rest hk
          obtain ⟨O, ht, hs⟩ := hI
          obtain ⟨p0_, _, _⟩ := hp
          have q3_ : D 3 = false := not_yet (hcl.get 3 (by decide)) 1 2 rfl hD
          have q4_ : D 4 = false := not_yet (hcl.get 4 (by decide)) 0 3 rfl q3_
          have u0_ : upd D 2 0 = D 0 := rfl
          have u1_ : upd D 2 1 = D 1 := rfl
          have u2_ : upd D 2 2 = true := rfl
          have u3_ : upd D 2 3 = D 3 := rfl
          have u4_ : upd D 2 4 = D 4 := rfl
          simp only [hD, p0_, q3_, q4_, cnd_t, cnd_f, Asc_t, Asc_f] at ht hs
          subst ht
          refine g_op (v := v46) rfl rfl rfl ?_
          show G _ _ _ _ [_, _, _, _, _, _, _, _, _, _, _, _, _, _, _, _, _, _, _, _, _, _, _, _, _, _, _, _, _, _, _, _, _, _, _, _, _, _, _, _, _, _, _, _, _, _, _, _, _, _, _, _, _, _, _, _, _, _, _, _] _
          exact hk _ _ ⟨O, (by simp only [u0_, u1_, u2_, u3_, u4_, p0_, q3_, q4_, cnd_t, cnd_f, Asc_t, Asc_f]), hs.cast (by first | rfl | simp only [List.take, List.drop, List.cons_append, List.nil_append, List.set_cons_zero, List.set_cons_succ, List.eraseIdx, u0_, u1_, u2_, u3_, u4_, p0_, q3_, q4_, cnd_t, cnd_f, Asc_t, Asc_f])⟩
        · intro D t w hD hp hcl hI rest hk
          obtain ⟨O, ht, hs⟩ := hI
          obtain ⟨p1_, p2_, p0_, _, _, _⟩ := hp
          have q4_ : D 4 = false := not_yet (hcl.get 4 (by decide)) 0 3 rfl hD
          have u0_ : upd D 3 0 = D 0 := rfl
          have u1_ : upd D 3 1 = D 1 := rfl
          have u2_ : upd D 3 2 = D 2 := rfl
          have u3_ : upd D 3 3 = true := rfl
          have u4_ : upd D 3 4 = D 4 := rfl
          simp only [hD, p0_, p1_, p2_, q4_, cnd_t, cnd_f, Asc_t, Asc_f] at ht hs
          subst ht
          have hs := hs.pull 1 rfl
          have hs : St _ [_, _, _] _ := hs
          refine s_storeAll (n := 4) hs ((fkA (n := 4) (he := (fkI .i16).len) (h1 := (fkI .i16).one)).len _) rfl rfl (vs := ((encA (encI .i16)) x45)) rfl rfl rfl (fun _ => rfl) ((fkA (n := 4) (he := (fkI .i16).len) (h1 := (fkI .i16).one)).len _) ((fkA (n := 4) (he := (fkI .i16).len) (h1 := (fkI .i16).one)).one _) ?_
          intro w hs
          show G _ _ _ _ [_, _, _, _, _, _, _, _, _, _, _, _, _, _, _, _, _, _, _, _, _, _, _, _, _, _, _, _, _, _, _, _, _, _, _, _, _, _, _, _, _, _, _, _, _, _, _, _, _, _, _, _, _, _, _, _, _, _, _, _] _
          have hs := hs.push 1 (by simp)
          exact hk _ _ ⟨O, (by simp only [u0_, u1_, u2_, u3_, u4_, p0_, p1_, p2_, q4_, cnd_t, cnd_f, Asc_t, Asc_f]), hs.cast (by first | rfl | simp only [List.take, List.drop, List.cons_append, List.nil_append, List.set_cons_zero, List.set_cons_succ, List.eraseIdx, u0_, u1_, u2_, u3_, u4_, p0_, p1_, p2_, q4_, cnd_t, cnd_f, Asc_t, Asc_f])⟩
        · intro D t w hD hp hcl hI rest hk
          obtain ⟨O, ht, hs⟩ := hI
          obtain ⟨p3_, p0_, p1_, p2_, _, _⟩ := hp
          have u0_ : upd D 4 0 = D 0 := rfl
          have u1_ : upd D 4 1 = D 1 := rfl
          have u2_ : upd D 4 2 = D 2 := rfl
          have u3_ : upd D 4 3 = D 3 := rfl
          have u4_ : upd D 4 4 = true := rfl
          simp only [hD, p0_, p1_, p2_, p3_, cnd_t, cnd_f, Asc_t, Asc_f] at ht hs
          subst ht
          refine g_op (v := Value.int .i64 0) rfl rfl rfl ?_
          show G _ _ _ _ [_, _, _, _, _, _, _, _, _, _, _, _, _, _, _, _, _, _, _, _, _, _, _, _, _, _, _, _, _, _, _, _, _, _, _, _, _, _, _, _, _, _, _, _, _, _, _, _, _, _, _, _, _, _, _, _, _, _, _, _] _
          exact hk _ _ ⟨O, (by simp only [u0_, u1_, u2_, u3_, u4_, p0_, p1_, p2_, p3_, cnd_t, cnd_f, Asc_t, Asc_f]), hs.cast (by first | rfl | simp only [List.take, List.drop, List.cons_append, List.nil_append, List.set_cons_zero, List.set_cons_succ, List.eraseIdx, u0_, u1_, u2_, u3_, u4_, p0_, p1_, p2_, p3_, cnd_t, cnd_f, Asc_t, Asc_f])⟩
        · intro D t w hall hI
          obtain ⟨O, ht, hs⟩ := hI
          have p0_ := hall 0 (by decide)
          have p1_ := hall 1 (by decide)
          have p2_ := hall 2 (by decide)
          have p3_ := hall 3 (by decide)
          have p4_ := hall 4 (by decide)
          simp only [p0_, p1_, p2_, p3_, p4_, cnd_t, cnd_f, Asc_t, Asc_f] at ht hs
          subst ht
          obtain rfl := Option.some.inj H
          refine g_ret Try.func38 (v := Value.tuple #[v46, Value.agg ((encA (encI .i16)) x45).toArray, Value.int .i64 0]) (resN (l := Try.f38.results.toList) (vs := [v46, Value.agg ((encA (encI .i16)) x45).toArray, Value.int .i64 0]) rfl ⟨rfl, ⟨_, rfl, (run_loadVar_agg (es := ((encA (encI .i16)) x45)) rfl (congrArg (Result.ok · _) ((fkA (n := 4) (he := (fkI .i16).len) (h1 := (fkI .i16).one)).len _).symm) (cells_all (hs.cells 1 rfl)))⟩, rfl, trivial⟩ (by simp)) ?_
          have hs := hs.pull 2 rfl
          have hs : St _ [_] _ := St.take (Γ' := [_, _]) hs
          exact ⟨_, rfl, v46, rfl, hs⟩
      · intro ha1_
        have hs := hs.pull 0 rfl
        have hs := hs.pull 1 rfl
        have hs := hs.pull 2 rfl
        have hs : St _ [_, _, _] _ := St.take (Γ' := []) hs
        refine g_loop_fuel (I := fun n_ t w => ∃ x29 : (Ar Int 4), ∃ v31 : Value, ∃ x32 : (List Int), ∃ x33 : Int, ∃ x34 : Int, rounds (fun s => impl_RunTurns.b0 N a4 a1 s.1 s.2.1 s.2.2.1 s.2.2.2) n_ (x29, x32, x33, x34) = some o1_ ∧ Fr t (fun O => ([v2, O 1, O 2, O 3, Value.pointer (some ⟨b6, 0, none⟩), O 5, O 6, Value.pointer (some ⟨b8, 0, none⟩), O 8, v31, Value.int .i64 x33, O 11, O 12, O 13, O 14, O 15, O 16, O 17, O 18, O 19, O 20, O 21, O 22, O 23, O 24, O 25, O 26, v5, Value.int .i64 (a4.length : Int), Value.int .i64 x34, O 30, O 31, O 32, O 33, O 34, O 35, O 36, O 37, O 38, O 39, O 40, O 41, O 42, O 43, O 44, O 45, O 46, O 47, O 48, O 49, O 50, O 51, O 52, O 53, O 54, O 55, O 56, O 57, O 58, O 59] : List Value)) ∧ St w0 [Cells b6 ((encA (encI .i16)) x29) 37, Cells b8 ((encA (encI .i16)) (Ar.rep 4 0)) 37, Row 2 (K.int .i64) v31 x32] w) N ⟨a3, v12, ([] : List Int), 0, 0, Ho, rfl, hs⟩ ?_ ?_
        · rintro _ _ ⟨x29, v31, x32, x33, x34, h, _⟩
          exact rounds_zero h
        · intro n_ ih1_
          rintro t w ⟨x29, v31, x32, x33, x34, Ho, hf, hs⟩
          obtain ⟨O, rfl⟩ := hf.open
          show G _ _ _ _ [_, _, _, _, _, _, _, _, _, _, _, _, _, _, _, _, _, _, _, _, _, _, _, _, _, _, _, _, _, _, _, _, _, _, _, _, _, _, _, _, _, _, _, _, _, _, _, _, _, _, _, _, _, _, _, _, _, _, _, _] _
          obtain ⟨x3_, H, Hx1_⟩ := rounds_succ Ho
          have H : impl_RunTurns.b0 N a4 a1 x29 x32 x33 x34 = some x3_ := H
          unfold impl_RunTurns.b0 at H
          refine g_seq ?_
          refine g_region ?_
          show G _ _ _ (.inRegion _ [0] :: _) _ _
          refine g_op_b (B := decide (x34 < (a4.length : Int))) rfl rfl rfl ?_ ?_
          · intro hb
            rw [if_pos (b_dec_t hb)] at H
            show G _ _ _ _ [_, _, _, _, _, _, _, _, _, _, _, _, _, _, _, _, _, _, _, _, _, _, _, _, _, _, _, _, _, _, _, _, _, _, _, _, _, _, _, _, _, _, _, _, _, _, _, _, _, _, _, _, _, _, _, _, _, _, _, _] _
            refine g_ops_nil ?_
            refine g_seq ?_
            refine g_cond_true rfl ?_
            refine g_skip ?_
            refine g_seq ?_
            refine g_block ?_
            refine g_seq ?_
            refine g_region ?_
            show G _ _ _ (.inRegion _ [0, 1, 2] :: _) _ _
            obtain ⟨g2, H⟩ := ite_get H
            refine s_idx (fkI .u8) 0 (hs.rd hr2) rfl (fun _ => rfl) g2.1 g2.2 rfl rfl rfl rfl rfl ?_
            intro p35 hp35 lp35 op35
            show G _ _ _ _ [_, _, _, _, _, _, _, _, _, _, _, _, _, _, _, _, _, _, _, _, _, _, _, _, _, _, _, _, _, _, _, _, _, _, _, _, _, _, _, _, _, _, _, _, _, _, _, _, _, _, _, _, _, _, _, _, _, _, _, _] _
            refine s_load1 rfl rfl (v := Value.int .u8 (rdL a4 x34 0)) rfl rfl (fun _ => rfl) hp35 ?_
            show G _ _ _ _ [_, _, _, _, _, _, _, _, _, _, _, _, _, _, _, _, _, _, _, _, _, _, _, _, _, _, _, _, _, _, _, _, _, _, _, _, _, _, _, _, _, _, _, _, _, _, _, _, _, _, _, _, _, _, _, _, _, _, _, _] _
            refine g_op (v := Value.int .u8 (rdL a4 x34 0)) rfl rfl rfl ?_
            show G _ _ _ _ [_, _, _, _, _, _, _, _, _, _, _, _, _, _, _, _, _, _, _, _, _, _, _, _, _, _, _, _, _, _, _, _, _, _, _, _, _, _, _, _, _, _, _, _, _, _, _, _, _, _, _, _, _, _, _, _, _, _, _, _] _
            refine g_ops_nil ?_
            refine g_seq ?_
            refine g_seq ?_
            refine g_region ?_
            show G _ _ _ (.inRegion _ [0, 1, 2, 3] :: _) _ _
            refine g_op (v := v2) rfl rfl rfl ?_
            show G _ _ _ _ [_, _, _, _, _, _, _, _, _, _, _, _, _, _, _, _, _, _, _, _, _, _, _, _, _, _, _, _, _, _, _, _, _, _, _, _, _, _, _, _, _, _, _, _, _, _, _, _, _, _, _, _, _, _, _, _, _, _, _, _] _
            refine g_op (v := Value.int .u8 (rdL a4 x34 0)) rfl rfl rfl ?_
            show G _ _ _ _ [_, _, _, _, _, _, _, _, _, _, _, _, _, _, _, _, _, _, _, _, _, _, _, _, _, _, _, _, _, _, _, _, _, _, _, _, _, _, _, _, _, _, _, _, _, _, _, _, _, _, _, _, _, _, _, _, _, _, _, _] _
            obtain ⟨r36, Hr36, H⟩ := bind_get H
            refine s_call (args := [v2, Value.int .u8 (rdL a4 x34 0)]) rfl rfl (x_call rfl (callFunc_enter Try.func61 rfl rfl) rfl) (_impl_Glasses_isSet.calls (a1 := a1) (a3 := rdL a4 x34 0) (hs.rd hr0) Hr36) ?_
            rintro _ w ⟨rfl, hs2⟩
            have hs : St _ [_, _, _] _ := hs.call hs2
            cases r36 with
            | true =>
              rw [if_pos rfl] at H
              show G _ _ _ _ [_, _, _, _, _, _, _, _, _, _, _, _, _, _, _, _, _, _, _, _, _, _, _, _, _, _, _, _, _, _, _, _, _, _, _, _, _, _, _, _, _, _, _, _, _, _, _, _, _, _, _, _, _, _, _, _, _, _, _, _] _
              refine g_op (v := Value.bool false) rfl rfl rfl ?_
              show G _ _ _ _ [_, _, _, _, _, _, _, _, _, _, _, _, _, _, _, _, _, _, _, _, _, _, _, _, _, _, _, _, _, _, _, _, _, _, _, _, _, _, _, _, _, _, _, _, _, _, _, _, _, _, _, _, _, _, _, _, _, _, _, _] _
              refine g_ops_nil ?_
              refine g_cond_false rfl ?_
              refine g_skip ?_
              refine g_seq ?_
              refine g_region ?_
              show G _ _ _ (.inRegion _ [0, 1, 2, 3, 4, 5, 6, 7, 8, 9, 10] :: _) _ _
              refine g_op (v := v2) rfl rfl rfl ?_
              show G _ _ _ _ [_, _, _, _, _, _, _, _, _, _, _, _, _, _, _, _, _, _, _, _, _, _, _, _, _, _, _, _, _, _, _, _, _, _, _, _, _, _, _, _, _, _, _, _, _, _, _, _, _, _, _, _, _, _, _, _, _, _, _, _] _
              refine s_loadA rfl rfl (es := ((encA (encI .i16)) x29)) rfl rfl (fun _ => rfl) (n := 4) (fun _ => rfl) ((fkA (n := 4) (he := (fkI .i16).len) (h1 := (fkI .i16).one)).len _) (cells_all (hs.cells 0 rfl)) ?_
              show G _ _ _ _ [_, _, _, _, _, _, _, _, _, _, _, _, _, _, _, _, _, _, _, _, _, _, _, _, _, _, _, _, _, _, _, _, _, _, _, _, _, _, _, _, _, _, _, _, _, _, _, _, _, _, _, _, _, _, _, _, _, _, _, _] _
              refine g_op (v := Value.int .u8 (rdL a4 x34 0)) rfl rfl rfl ?_
              show G _ _ _ _ [_, _, _, _, _, _, _, _, _, _, _, _, _, _, _, _, _, _, _, _, _, _, _, _, _, _, _, _, _, _, _, _, _, _, _, _, _, _, _, _, _, _, _, _, _, _, _, _, _, _, _, _, _, _, _, _, _, _, _, _] _
              obtain ⟨r37, Hr37, H⟩ := bind_get H
              refine s_call (args := [v2, Value.agg ((encA (encI .i16)) x29).toArray, Value.int .u8 (rdL a4 x34 0)]) rfl rfl (x_call rfl (callFunc_enter Try.func62 rfl rfl) rfl) (_impl_Glasses_turned.calls (a1 := a1) (a3 := x29) (a4 := rdL a4 x34 0) (hs.rd hr0) Hr37) ?_
              rintro _ w ⟨rfl, hs2⟩
              have hs : St _ [_, _, _] _ := hs.call hs2
              show G _ _ _ _ [_, _, _, _, _, _, _, _, _, _, _, _, _, _, _, _, _, _, _, _, _, _, _, _, _, _, _, _, _, _, _, _, _, _, _, _, _, _, _, _, _, _, _, _, _, _, _, _, _, _, _, _, _, _, _, _, _, _, _, _] _
              obtain ⟨r38, Hr38, H⟩ := bind_get H
              refine s_call (args := [Value.agg ((encA (encI .i16)) r37).toArray]) rfl rfl (x_call rfl (callFunc_enter Try.func64 rfl rfl) rfl) (impl_wait.calls (a1 := r37) Hr38) ?_
              rintro _ w ⟨rfl, hs2⟩
              have hs : St _ [_, _, _] _ := hs.call hs2
              show G _ _ _ _ [_, _, _, _, _, _, _, _, _, _, _, _, _, _, _, _, _, _, _, _, _, _, _, _, _, _, _, _, _, _, _, _, _, _, _, _, _, _, _, _, _, _, _, _, _, _, _, _, _, _, _, _, _, _, _, _, _, _, _, _] _
              refine g_op (v := Value.tuple #[Value.agg ((encA (encI .i16)) r38.1).toArray, Value.int .i64 r38.2]) rfl rfl rfl ?_
              show G _ _ _ _ [_, _, _, _, _, _, _, _, _, _, _, _, _, _, _, _, _, _, _, _, _, _, _, _, _, _, _, _, _, _, _, _, _, _, _, _, _, _, _, _, _, _, _, _, _, _, _, _, _, _, _, _, _, _, _, _, _, _, _, _] _
              refine g_op (v := Value.agg ((encA (encI .i16)) r38.1).toArray) rfl rfl rfl ?_
              show G _ _ _ _ [_, _, _, _, _, _, _, _, _, _, _, _, _, _, _, _, _, _, _, _, _, _, _, _, _, _, _, _, _, _, _, _, _, _, _, _, _, _, _, _, _, _, _, _, _, _, _, _, _, _, _, _, _, _, _, _, _, _, _, _] _
              refine g_op (v := Value.int .i64 r38.2) rfl rfl rfl ?_
              show G _ _ _ _ [_, _, _, _, _, _, _, _, _, _, _, _, _, _, _, _, _, _, _, _, _, _, _, _, _, _, _, _, _, _, _, _, _, _, _, _, _, _, _, _, _, _, _, _, _, _, _, _, _, _, _, _, _, _, _, _, _, _, _, _] _
              refine s_alloc hs rfl rfl (z := (Value.agg #[Value.int .i16 0, Value.int .i16 0, Value.int .i16 0, Value.int .i16 0])) (cs := ((encA (encI .i16)) (Ar.rep 4 0))) rfl (fun _ => rfl) rfl ?_
              intro b39 w hs
              show G _ _ _ _ [_, _, _, _, _, _, _, _, _, _, _, _, _, _, _, _, _, _, _, _, _, _, _, _, _, _, _, _, _, _, _, _, _, _, _, _, _, _, _, _, _, _, _, _, _, _, _, _, _, _, _, _, _, _, _, _, _, _, _, _] _
              refine s_storeAll (n := 4) hs ((fkA (n := 4) (he := (fkI .i16).len) (h1 := (fkI .i16).one)).len _) rfl rfl (vs := ((encA (encI .i16)) r38.1)) rfl rfl rfl (fun _ => rfl) ((fkA (n := 4) (he := (fkI .i16).len) (h1 := (fkI .i16).one)).len _) ((fkA (n := 4) (he := (fkI .i16).len) (h1 := (fkI .i16).one)).one _) ?_
              intro w hs
              refine g_op (v := Value.int .i64 r38.2) rfl rfl rfl ?_
              show G _ _ _ _ [_, _, _, _, _, _, _, _, _, _, _, _, _, _, _, _, _, _, _, _, _, _, _, _, _, _, _, _, _, _, _, _, _, _, _, _, _, _, _, _, _, _, _, _, _, _, _, _, _, _, _, _, _, _, _, _, _, _, _, _] _
              refine g_ops_nil ?_
              refine g_seq ?_
              refine g_seq ?_
              refine g_region ?_
              show G _ _ _ (.inRegion _ [0, 1] :: _) _ _
              refine g_op (v := Value.int .i64 r38.2) rfl rfl rfl ?_
              show G _ _ _ _ [_, _, _, _, _, _, _, _, _, _, _, _, _, _, _, _, _, _, _, _, _, _, _, _, _, _, _, _, _, _, _, _, _, _, _, _, _, _, _, _, _, _, _, _, _, _, _, _, _, _, _, _, _, _, _, _, _, _, _, _] _
              refine g_op_b (B := r38.2 == 0) rfl rfl rfl ?_ ?_
              · intro hb
                rw [if_pos (b_beq_t hb)] at H
                show G _ _ _ _ [_, _, _, _, _, _, _, _, _, _, _, _, _, _, _, _, _, _, _, _, _, _, _, _, _, _, _, _, _, _, _, _, _, _, _, _, _, _, _, _, _, _, _, _, _, _, _, _, _, _, _, _, _, _, _, _, _, _, _, _] _
                refine g_ops_nil ?_
                refine g_cond_true rfl ?_
                refine g_seq ?_
                refine g_region ?_
                show G _ _ _ (.inRegion _ [0, 1, 2, 3] :: _) _ _
                refine g_op (v := Value.agg ((encA (encI .i16)) (Ar.rep 4 0)).toArray) rfl rfl (x_build rfl rfl) ?_
                show G _ _ _ _ [_, _, _, _, _, _, _, _, _, _, _, _, _, _, _, _, _, _, _, _, _, _, _, _, _, _, _, _, _, _, _, _, _, _, _, _, _, _, _, _, _, _, _, _, _, _, _, _, _, _, _, _, _, _, _, _, _, _, _, _] _
                refine g_op (v := Value.slice none 0 0) rfl rfl rfl ?_
                show G _ _ _ _ [_, _, _, _, _, _, _, _, _, _, _, _, _, _, _, _, _, _, _, _, _, _, _, _, _, _, _, _, _, _, _, _, _, _, _, _, _, _, _, _, _, _, _, _, _, _, _, _, _, _, _, _, _, _, _, _, _, _, _, _] _
                have hs := hs.pull 2 rfl
                have hs : St _ [_, _, _, _] _ := hs
                refine s_storeAll (n := 4) hs ((fkA (n := 4) (he := (fkI .i16).len) (h1 := (fkI .i16).one)).len _) rfl rfl (vs := ((encA (encI .i16)) (Ar.rep 4 0))) rfl rfl rfl (fun _ => rfl) ((fkA (n := 4) (he := (fkI .i16).len) (h1 := (fkI .i16).one)).len _) ((fkA (n := 4) (he := (fkI .i16).len) (h1 := (fkI .i16).one)).one _) ?_
                intro w hs
                refine g_op (v := Value.int .i64 4) rfl rfl rfl ?_
                show G _ _ _ _ [_, _, _, _, _, _, _, _, _, _, _, _, _, _, _, _, _, _, _, _, _, _, _, _, _, _, _, _, _, _, _, _, _, _, _, _, _, _, _, _, _, _, _, _, _, _, _, _, _, _, _, _, _, _, _, _, _, _, _, _] _
                refine g_ops_nil ?_
                obtain rfl := Option.some.inj H
                subst Hx1_
                have H := Option.some.inj Hr1_
                subst H
                refine g_ret Try.func38 (v := Value.tuple #[Value.slice none 0 0, Value.agg ((encA (encI .i16)) (Ar.rep 4 0)).toArray, Value.int .i64 4]) (resN (l := Try.f38.results.toList) (vs := [Value.slice none 0 0, Value.agg ((encA (encI .i16)) (Ar.rep 4 0)).toArray, Value.int .i64 4]) rfl ⟨rfl, ⟨_, rfl, (run_loadVar_agg (es := ((encA (encI .i16)) (Ar.rep 4 0))) rfl (congrArg (Result.ok · _) ((fkA (n := 4) (he := (fkI .i16).len) (h1 := (fkI .i16).one)).len _).symm) (cells_all (hs.cells 0 rfl)))⟩, rfl, trivial⟩ (by simp)) ?_
                have hs := hs.nil 2 (K.int .i64)
                have hs := hs.pull 0 rfl
                have hs : St _ [_] _ := St.take (Γ' := [_, _, _, _]) hs
                exact ⟨_, rfl, (Value.slice none 0 0), rfl, hs⟩
              · intro hb
                rw [if_neg (b_beq_f hb)] at H
                show G _ _ _ _ [_, _, _, _, _, _, _, _, _, _, _, _, _, _, _, _, _, _, _, _, _, _, _, _, _, _, _, _, _, _, _, _, _, _, _, _, _, _, _, _, _, _, _, _, _, _, _, _, _, _, _, _, _, _, _, _, _, _, _, _] _
                refine g_ops_nil ?_
                refine g_cond_false rfl ?_
                refine g_skip ?_
                refine g_seq ?_
                refine g_region ?_
                show G _ _ _ (.inRegion _ [0, 1, 2, 3, 4, 5] :: _) _ _
                refine s_loadA rfl rfl (es := ((encA (encI .i16)) r38.1)) rfl rfl (fun _ => rfl) (n := 4) (fun _ => rfl) ((fkA (n := 4) (he := (fkI .i16).len) (h1 := (fkI .i16).one)).len _) (cells_all (hs.cells 0 rfl)) ?_
                show G _ _ _ _ [_, _, _, _, _, _, _, _, _, _, _, _, _, _, _, _, _, _, _, _, _, _, _, _, _, _, _, _, _, _, _, _, _, _, _, _, _, _, _, _, _, _, _, _, _, _, _, _, _, _, _, _, _, _, _, _, _, _, _, _] _
                refine g_op (v := Value.int .i64 x33) rfl rfl rfl ?_
                show G _ _ _ _ [_, _, _, _, _, _, _, _, _, _, _, _, _, _, _, _, _, _, _, _, _, _, _, _, _, _, _, _, _, _, _, _, _, _, _, _, _, _, _, _, _, _, _, _, _, _, _, _, _, _, _, _, _, _, _, _, _, _, _, _] _
                refine g_op (v := Value.int .i64 r38.2) rfl rfl rfl ?_
                show G _ _ _ _ [_, _, _, _, _, _, _, _, _, _, _, _, _, _, _, _, _, _, _, _, _, _, _, _, _, _, _, _, _, _, _, _, _, _, _, _, _, _, _, _, _, _, _, _, _, _, _, _, _, _, _, _, _, _, _, _, _, _, _, _] _
                refine g_op (v := Value.int .i64 (i64w (x33 + r38.2))) rfl rfl rfl ?_
                show G _ _ _ _ [_, _, _, _, _, _, _, _, _, _, _, _, _, _, _, _, _, _, _, _, _, _, _, _, _, _, _, _, _, _, _, _, _, _, _, _, _, _, _, _, _, _, _, _, _, _, _, _, _, _, _, _, _, _, _, _, _, _, _, _] _
                have hs := hs.pull 1 rfl
                have hs : St _ [_, _, _, _] _ := hs
                refine s_storeAll (n := 4) hs ((fkA (n := 4) (he := (fkI .i16).len) (h1 := (fkI .i16).one)).len _) rfl rfl (vs := ((encA (encI .i16)) r38.1)) rfl rfl rfl (fun _ => rfl) ((fkA (n := 4) (he := (fkI .i16).len) (h1 := (fkI .i16).one)).len _) ((fkA (n := 4) (he := (fkI .i16).len) (h1 := (fkI .i16).one)).one _) ?_
                intro w hs
                refine g_op (v := Value.int .i64 (i64w (x33 + r38.2))) rfl rfl rfl ?_
                show G _ _ _ _ [_, _, _, _, _, _, _, _, _, _, _, _, _, _, _, _, _, _, _, _, _, _, _, _, _, _, _, _, _, _, _, _, _, _, _, _, _, _, _, _, _, _, _, _, _, _, _, _, _, _, _, _, _, _, _, _, _, _, _, _] _
                refine g_ops_nil ?_
                refine g_region ?_
                show G _ _ _ (.inRegion _ [0, 1, 2, 3, 4] :: _) _ _
                refine g_op (v := v31) rfl rfl rfl ?_
                show G _ _ _ _ [_, _, _, _, _, _, _, _, _, _, _, _, _, _, _, _, _, _, _, _, _, _, _, _, _, _, _, _, _, _, _, _, _, _, _, _, _, _, _, _, _, _, _, _, _, _, _, _, _, _, _, _, _, _, _, _, _, _, _, _] _
                refine g_op (v := Value.int .i64 (i64w (x33 + r38.2))) rfl rfl rfl ?_
                show G _ _ _ _ [_, _, _, _, _, _, _, _, _, _, _, _, _, _, _, _, _, _, _, _, _, _, _, _, _, _, _, _, _, _, _, _, _, _, _, _, _, _, _, _, _, _, _, _, _, _, _, _, _, _, _, _, _, _, _, _, _, _, _, _] _
                refine s_lit1 (fkI .i64) (y := i64w (x33 + r38.2)) hs rfl rfl rfl rfl (fun _ => rfl) (zv := (Value.int .i64 0)) (fun _ => rfl) rfl (by decide) (by decide) rfl ?_
                intro v42 w hs
                show G _ _ _ _ [_, _, _, _, _, _, _, _, _, _, _, _, _, _, _, _, _, _, _, _, _, _, _, _, _, _, _, _, _, _, _, _, _, _, _, _, _, _, _, _, _, _, _, _, _, _, _, _, _, _, _, _, _, _, _, _, _, _, _, _] _
                have hs := hs.pull 4 rfl
                have hs : St _ [_, _, _, _, _] _ := hs
                obtain ⟨g, H⟩ := ite_get H
                refine s_append (fkI .i64) (zv := (Value.int .i64 0)) (B := 8) hs (hs.row 1 rfl) rfl rfl rfl rfl rfl rfl rfl rfl rfl (by decide) rfl rfl (by decide) (by omega) ?_
                intro v44 w hs
                show G _ _ _ _ [_, _, _, _, _, _, _, _, _, _, _, _, _, _, _, _, _, _, _, _, _, _, _, _, _, _, _, _, _, _, _, _, _, _, _, _, _, _, _, _, _, _, _, _, _, _, _, _, _, _, _, _, _, _, _, _, _, _, _, _] _
                refine g_op (v := v44) rfl rfl rfl ?_
                show G _ _ _ _ [_, _, _, _, _, _, _, _, _, _, _, _, _, _, _, _, _, _, _, _, _, _, _, _, _, _, _, _, _, _, _, _, _, _, _, _, _, _, _, _, _, _, _, _, _, _, _, _, _, _, _, _, _, _, _, _, _, _, _, _] _
                refine g_ops_nil ?_
                refine g_inBlock ?_
                refine g_region ?_
                show G _ _ _ (.inRegion _ [0, 1] :: _) _ _
                refine g_op (v := Value.int .i64 (i64w (x34 + 1))) rfl rfl rfl ?_
                show G _ _ _ _ [_, _, _, _, _, _, _, _, _, _, _, _, _, _, _, _, _, _, _, _, _, _, _, _, _, _, _, _, _, _, _, _, _, _, _, _, _, _, _, _, _, _, _, _, _, _, _, _, _, _, _, _, _, _, _, _, _, _, _, _] _
                refine g_op (v := Value.int .i64 (i64w (x34 + 1))) rfl rfl rfl ?_
                show G _ _ _ _ [_, _, _, _, _, _, _, _, _, _, _, _, _, _, _, _, _, _, _, _, _, _, _, _, _, _, _, _, _, _, _, _, _, _, _, _, _, _, _, _, _, _, _, _, _, _, _, _, _, _, _, _, _, _, _, _, _, _, _, _] _
                refine g_ops_nil ?_
                obtain rfl := Option.some.inj H
                have hs := hs.pull 0 rfl
                have hs := hs.pull 4 rfl
                have hs := hs.pull 3 rfl
                have hs : St _ [_, _, _] _ := St.take (Γ' := [_, _]) hs
                exact ih1_ _ _ ⟨r38.1, v44, x32 ++ ([i64w (x33 + r38.2)]), i64w (x33 + r38.2), i64w (x34 + 1), Hx1_, rfl, hs⟩
            | false =>
              rw [if_neg Bool.false_ne_true] at H
              show G _ _ _ _ [_, _, _, _, _, _, _, _, _, _, _, _, _, _, _, _, _, _, _, _, _, _, _, _, _, _, _, _, _, _, _, _, _, _, _, _, _, _, _, _, _, _, _, _, _, _, _, _, _, _, _, _, _, _, _, _, _, _, _, _] _
              refine g_op (v := Value.bool true) rfl rfl rfl ?_
              show G _ _ _ _ [_, _, _, _, _, _, _, _, _, _, _, _, _, _, _, _, _, _, _, _, _, _, _, _, _, _, _, _, _, _, _, _, _, _, _, _, _, _, _, _, _, _, _, _, _, _, _, _, _, _, _, _, _, _, _, _, _, _, _, _] _
              refine g_ops_nil ?_
              refine g_cond_true rfl ?_
              refine g_seq ?_
              refine g_region ?_
              show G _ _ _ (.inRegion _ [0, 1, 2, 3] :: _) _ _
              refine g_op (v := Value.agg ((encA (encI .i16)) (Ar.rep 4 0)).toArray) rfl rfl (x_build rfl rfl) ?_
              show G _ _ _ _ [_, _, _, _, _, _, _, _, _, _, _, _, _, _, _, _, _, _, _, _, _, _, _, _, _, _, _, _, _, _, _, _, _, _, _, _, _, _, _, _, _, _, _, _, _, _, _, _, _, _, _, _, _, _, _, _, _, _, _, _] _
              refine g_op (v := Value.slice none 0 0) rfl rfl rfl ?_
              show G _ _ _ _ [_, _, _, _, _, _, _, _, _, _, _, _, _, _, _, _, _, _, _, _, _, _, _, _, _, _, _, _, _, _, _, _, _, _, _, _, _, _, _, _, _, _, _, _, _, _, _, _, _, _, _, _, _, _, _, _, _, _, _, _] _
              have hs := hs.pull 1 rfl
              have hs : St _ [_, _, _] _ := hs
              refine s_storeAll (n := 4) hs ((fkA (n := 4) (he := (fkI .i16).len) (h1 := (fkI .i16).one)).len _) rfl rfl (vs := ((encA (encI .i16)) (Ar.rep 4 0))) rfl rfl rfl (fun _ => rfl) ((fkA (n := 4) (he := (fkI .i16).len) (h1 := (fkI .i16).one)).len _) ((fkA (n := 4) (he := (fkI .i16).len) (h1 := (fkI .i16).one)).one _) ?_
              intro w hs
              refine g_op (v := Value.int .i64 2) rfl rfl rfl ?_
              show G _ _ _ _ [_, _, _, _, _, _, _, _, _, _, _, _, _, _, _, _, _, _, _, _, _, _, _, _, _, _, _, _, _, _, _, _, _, _, _, _, _, _, _, _, _, _, _, _, _, _, _, _, _, _, _, _, _, _, _, _, _, _, _, _] _
              refine g_ops_nil ?_
              obtain rfl := Option.some.inj H
              subst Hx1_
              have H := Option.some.inj Hr1_
              subst H
              refine g_ret Try.func38 (v := Value.tuple #[Value.slice none 0 0, Value.agg ((encA (encI .i16)) (Ar.rep 4 0)).toArray, Value.int .i64 2]) (resN (l := Try.f38.results.toList) (vs := [Value.slice none 0 0, Value.agg ((encA (encI .i16)) (Ar.rep 4 0)).toArray, Value.int .i64 2]) rfl ⟨rfl, ⟨_, rfl, (run_loadVar_agg (es := ((encA (encI .i16)) (Ar.rep 4 0))) rfl (congrArg (Result.ok · _) ((fkA (n := 4) (he := (fkI .i16).len) (h1 := (fkI .i16).one)).len _).symm) (cells_all (hs.cells 0 rfl)))⟩, rfl, trivial⟩ (by simp)) ?_
              have hs := hs.nil 2 (K.int .i64)
              have hs := hs.pull 0 rfl
              have hs : St _ [_] _ := St.take (Γ' := [_, _, _]) hs
              exact ⟨_, rfl, (Value.slice none 0 0), rfl, hs⟩
          · intro hb
            rw [if_neg (b_dec_f hb)] at H
            show G _ _ _ _ [_, _, _, _, _, _, _, _, _, _, _, _, _, _, _, _, _, _, _, _, _, _, _, _, _, _, _, _, _, _, _, _, _, _, _, _, _, _, _, _, _, _, _, _, _, _, _, _, _, _, _, _, _, _, _, _, _, _, _, _] _
            refine g_ops_nil ?_
            refine g_seq ?_
            refine g_cond_false rfl ?_
            obtain rfl := Option.some.inj H
            subst Hx1_
            have hs := hs.pull 2 rfl
            have hs := hs.pull 2 rfl
            have hs := hs.pull 2 rfl
            have hs : St _ [_, _, _] _ := St.take (Γ' := []) hs
            refine g_exit rfl ?_
            exact ha1_ _ _ ⟨x29, v31, x32, Hr1_, rfl, hs⟩
  | false =>
    rw [if_neg Bool.false_ne_true] at H
    show G _ _ _ _ [_, _, _, _, _, _, _, _, _, _, _, _, _, _, _, _, _, _, _, _, _, _, _, _, _, _, _, _, _, _, _, _, _, _, _, _, _, _, _, _, _, _, _, _, _, _, _, _, _, _, _, _, _, _, _, _, _, _, _, _] _
    refine g_op (v := Value.bool true) rfl rfl rfl ?_
    show G _ _ _ _ [_, _, _, _, _, _, _, _, _, _, _, _, _, _, _, _, _, _, _, _, _, _, _, _, _, _, _, _, _, _, _, _, _, _, _, _, _, _, _, _, _, _, _, _, _, _, _, _, _, _, _, _, _, _, _, _, _, _, _, _] _
    refine g_op (v := Value.bool true) rfl rfl rfl ?_
    show G _ _ _ _ [_, _, _, _, _, _, _, _, _, _, _, _, _, _, _, _, _, _, _, _, _, _, _, _, _, _, _, _, _, _, _, _, _, _, _, _, _, _, _, _, _, _, _, _, _, _, _, _, _, _, _, _, _, _, _, _, _, _, _, _] _
    refine g_ops_nil ?_
    refine g_cond_true rfl ?_
    refine g_seq ?_
    refine g_region ?_
    show G _ _ _ (.inRegion _ [0, 1, 2, 3] :: _) _ _
    refine g_op (v := Value.agg ((encA (encI .i16)) (Ar.rep 4 0)).toArray) rfl rfl (x_build rfl rfl) ?_
    show G _ _ _ _ [_, _, _, _, _, _, _, _, _, _, _, _, _, _, _, _, _, _, _, _, _, _, _, _, _, _, _, _, _, _, _, _, _, _, _, _, _, _, _, _, _, _, _, _, _, _, _, _, _, _, _, _, _, _, _, _, _, _, _, _] _
    refine g_op (v := Value.slice none 0 0) rfl rfl rfl ?_
    show G _ _ _ _ [_, _, _, _, _, _, _, _, _, _, _, _, _, _, _, _, _, _, _, _, _, _, _, _, _, _, _, _, _, _, _, _, _, _, _, _, _, _, _, _, _, _, _, _, _, _, _, _, _, _, _, _, _, _, _, _, _, _, _, _] _
    refine s_storeAll (n := 4) hs ((fkA (n := 4) (he := (fkI .i16).len) (h1 := (fkI .i16).one)).len _) rfl rfl (vs := ((encA (encI .i16)) (Ar.rep 4 0))) rfl rfl rfl (fun _ => rfl) ((fkA (n := 4) (he := (fkI .i16).len) (h1 := (fkI .i16).one)).len _) ((fkA (n := 4) (he := (fkI .i16).len) (h1 := (fkI .i16).one)).one _) ?_
    intro w hs
    refine g_op (v := Value.int .i64 1) rfl rfl rfl ?_
    show G _ _ _ _ [_, _, _, _, _, _, _, _, _, _, _, _, _, _, _, _, _, _, _, _, _, _, _, _, _, _, _, _, _, _, _, _, _, _, _, _, _, _, _, _, _, _, _, _, _, _, _, _, _, _, _, _, _, _, _, _, _, _, _, _] _
    refine g_ops_nil ?_
    obtain rfl := Option.some.inj H
    refine g_ret Try.func38 (v := Value.tuple #[Value.slice none 0 0, Value.agg ((encA (encI .i16)) (Ar.rep 4 0)).toArray, Value.int .i64 1]) (resN (l := Try.f38.results.toList) (vs := [Value.slice none 0 0, Value.agg ((encA (encI .i16)) (Ar.rep 4 0)).toArray, Value.int .i64 1]) rfl ⟨rfl, ⟨_, rfl, (run_loadVar_agg (es := ((encA (encI .i16)) (Ar.rep 4 0))) rfl (congrArg (Result.ok · _) ((fkA (n := 4) (he := (fkI .i16).len) (h1 := (fkI .i16).one)).len _).symm) (cells_all (hs.cells 0 rfl)))⟩, rfl, trivial⟩ (by simp)) ?_
    have hs := hs.nil 2 (K.int .i64)
    have hs := hs.pull 0 rfl
    have hs : St _ [_] _ := St.take (Γ' := [_, _]) hs
    exact ⟨_, rfl, (Value.slice none 0 0), rfl, hs⟩

end Go.Proofs.YtgachgjcnmeicaaX
