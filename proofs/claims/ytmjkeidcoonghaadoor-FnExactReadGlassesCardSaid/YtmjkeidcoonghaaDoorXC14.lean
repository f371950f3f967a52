/- Contracts, printed by gen.py. -/
import Derived.Test.YtmjkeidcoonghaaDoorXC13
namespace Go.Proofs.YtmjkeidcoonghaaDoorX
open Go Go.RowKit Go.Proofs
set_option linter.unusedVariables false
set_option linter.unusedSimpArgs false
/- function 24 impl_ReadGlasses -/
def impl_ReadGlasses.post (w0 : World) (r : ((List Int) × (Ar Int 4) × Int)) (v : Value) (w : World) : Prop := ∃ u1 : Value, v = Value.tuple #[u1, Value.agg ((encA (encI .i16)) r.2.1).toArray, Value.int .i64 r.2.2] ∧ St w0 [Row 47 (K.int .i16) u1 r.1] w
set_option maxHeartbeats 8000000 in
set_option maxRecDepth 100000 in
theorem impl_ReadGlasses.calls {N : Nat} {a1 : ByteArray} {w0 : World} {r : ((List Int) × (Ar Int 4) × Int)} (htab : Lib.TabIs Tryd.prog w0 "internal/strconv.uint64pow10" .u64 Lib.pow10Tab) (hmax : CellI w0 1) (hsyn : CellE w0 2) (hrng : CellE w0 3) (H : impl_ReadGlasses.f N a1 = some r) :
    Calls Tryd.prog 24 #[Value.string a1] w0 fun e w => ∃ v, e = .returned v ∧ impl_ReadGlasses.post w0 r v w := by
  unfold impl_ReadGlasses.f at H
  have hs : St w0 [] w0 := St.refl w0
  refine calls_of_g (n := 25) Tryd.func24 rfl rfl ?_
  show G _ _ _ _ [_, _, _, _, _, _, _, _, _, _, _, _, _, _, _, _, _, _, _, _, _, _, _, _, _, _] _
  refine g_seq ?_
  refine g_region ?_
  show G _ _ _ (.inRegion _ [0, 1, 2] :: _) _ _
  refine g_op (v := Value.slice none 0 0) rfl rfl rfl ?_
  show G _ _ _ _ [_, _, _, _, _, _, _, _, _, _, _, _, _, _, _, _, _, _, _, _, _, _, _, _, _, _] _
  refine s_alloc hs rfl rfl (z := (Value.agg #[Value.int .i16 0, Value.int .i16 0, Value.int .i16 0, Value.int .i16 0])) (cs := ((encA (encI .i16)) (Ar.rep 4 0))) rfl (fun _ => rfl) rfl ?_
  intro b2 w hs
  show G _ _ _ _ [_, _, _, _, _, _, _, _, _, _, _, _, _, _, _, _, _, _, _, _, _, _, _, _, _, _] _
  refine g_op (v := Value.int .i64 0) rfl rfl rfl ?_
  show G _ _ _ _ [_, _, _, _, _, _, _, _, _, _, _, _, _, _, _, _, _, _, _, _, _, _, _, _, _, _] _
  refine g_ops_nil ?_
  refine g_seq ?_
  refine g_region ?_
  show G _ _ _ (.inRegion _ [0, 1, 2, 3, 4, 5, 6, 7, 8, 9, 10] :: _) _ _
  refine g_op (v := Value.string a1) rfl rfl rfl ?_
  obtain ⟨r4, Hr4, H⟩ := bind_get H
  refine s_call (args := [Value.string a1, Value.string (⟨#[32]⟩ : ByteArray)]) rfl rfl (x_call rfl (callFunc_enter Tryd.func37 rfl rfl) rfl) (strings_Split.calls (a1 := a1) (a2 := (⟨#[32]⟩ : ByteArray)) (hs.cellI hmax) Hr4) ?_
  intro v5 w hs2
  have hs : St _ [_, _] _ := hs.call hs2
  show G _ _ _ _ [_, _, _, _, _, _, _, _, _, _, _, _, _, _, _, _, _, _, _, _, _, _, _, _, _, _] _
  obtain ⟨r7, Hr7, H⟩ := bind_get H
  refine s_call (args := [v5, Value.int .i64 40]) rfl rfl (x_call rfl (callFunc_enter Tryd.func55 rfl rfl) rfl) (impl_readLevels.calls (a1 := r4) (a3 := 40) (hs.tab htab) (hs.cellI hmax) (hs.cellE hsyn) (hs.cellE hrng) (hs.row 0 rfl) Hr7) ?_
  rintro _ w ⟨v8, rfl, hs2⟩
  have hs : St _ [_, _, _] _ := hs.call hs2
  show G _ _ _ _ [_, _, _, _, _, _, _, _, _, _, _, _, _, _, _, _, _, _, _, _, _, _, _, _, _, _] _
  refine g_op (v := Value.tuple #[Value.agg ((encA (encI .i16)) r7.1).toArray, v8, Value.bool r7.2.2]) rfl rfl rfl ?_
  refine g_op (v := Value.agg ((encA (encI .i16)) r7.1).toArray) rfl rfl rfl ?_
  refine g_op (v := v8) rfl rfl rfl ?_
  refine g_op (v := Value.bool r7.2.2) rfl rfl rfl ?_
  refine s_alloc hs rfl rfl (z := (Value.agg #[Value.int .i16 0, Value.int .i16 0, Value.int .i16 0, Value.int .i16 0])) (cs := ((encA (encI .i16)) (Ar.rep 4 0))) rfl (fun _ => rfl) rfl ?_
  intro b10 w hs
  show G _ _ _ _ [_, _, _, _, _, _, _, _, _, _, _, _, _, _, _, _, _, _, _, _, _, _, _, _, _, _] _
  refine s_storeAll (n := 4) hs ((fkA (n := 4) (he := (fkI .i16).len) (h1 := (fkI .i16).one)).len _) rfl rfl (vs := ((encA (encI .i16)) r7.1)) rfl rfl rfl (fun _ => rfl) ((fkA (n := 4) (he := (fkI .i16).len) (h1 := (fkI .i16).one)).len _) ((fkA (n := 4) (he := (fkI .i16).len) (h1 := (fkI .i16).one)).one _) ?_
  intro w hs
  refine g_op (v := v8) rfl rfl rfl ?_
  show G _ _ _ _ [_, _, _, _, _, _, _, _, _, _, _, _, _, _, _, _, _, _, _, _, _, _, _, _, _, _] _
  refine g_op (v := Value.bool r7.2.2) rfl rfl rfl ?_
  show G _ _ _ _ [_, _, _, _, _, _, _, _, _, _, _, _, _, _, _, _, _, _, _, _, _, _, _, _, _, _] _
  refine g_ops_nil ?_
  refine g_seq ?_
  refine g_seq ?_
  refine g_region ?_
  show G _ _ _ (.inRegion _ [0, 1, 2, 3, 4, 5, 6, 7] :: _) _ _
  refine g_op_b (B := r7.2.2) rfl rfl rfl ?_ ?_
  ·
   intro hb
   rw [if_pos (b_var_t hb)] at H
   refine g_op (v := Value.bool false) rfl rfl rfl ?_
   show G _ _ _ _ [_, _, _, _, _, _, _, _, _, _, _, _, _, _, _, _, _, _, _, _, _, _, _, _, _, _] _
   refine g_op (v := Value.bool false) rfl rfl rfl ?_
   refine g_op (v := v8) rfl rfl rfl ?_
   refine s_loadA rfl rfl (es := ((encA (encI .i16)) r7.1)) rfl rfl (fun _ => rfl) (n := 4) (fun _ => rfl) ((fkA (n := 4) (he := (fkI .i16).len) (h1 := (fkI .i16).one)).len _) (cells_all (hs.cells 0 rfl)) ?_
   show G _ _ _ _ [_, _, _, _, _, _, _, _, _, _, _, _, _, _, _, _, _, _, _, _, _, _, _, _, _, _] _
   obtain ⟨r12, Hr12, H⟩ := bind_get H
   refine s_call (args := [v8, Value.agg ((encA (encI .i16)) r7.1).toArray]) rfl rfl (x_call rfl (callFunc_enter Tryd.func56 rfl rfl) rfl) (impl_ValidTops.calls (a1 := r7.2.1) (a3 := r7.1) (hs.row 1 rfl) Hr12) ?_
   rintro _ w ⟨rfl, hs2⟩
   have hs : St _ [_, _, _, _] _ := hs.call hs2
   cases r12 with
   | true =>
     rw [if_pos rfl] at H
     show G _ _ _ _ [_, _, _, _, _, _, _, _, _, _, _, _, _, _, _, _, _, _, _, _, _, _, _, _, _, _] _
     refine g_op (v := Value.bool false) rfl rfl rfl ?_
     show G _ _ _ _ [_, _, _, _, _, _, _, _, _, _, _, _, _, _, _, _, _, _, _, _, _, _, _, _, _, _] _
     refine g_op (v := Value.bool false) rfl rfl rfl ?_
     show G _ _ _ _ [_, _, _, _, _, _, _, _, _, _, _, _, _, _, _, _, _, _, _, _, _, _, _, _, _, _] _
     refine g_ops_nil ?_
     refine g_cond_false rfl ?_
     refine g_skip ?_
     refine g_seq ?_
     refine g_name ?_
     intro T hT
     refine g_any (n := 5) rfl [0, 1, 2, 3, 4] [0, 2, 1, 3, 4] rfl rfl (Inv := fun D t w => ∃ O : Nat → Value, t = [Value.string a1, O 1, cnd (D 2) v8 (Value.slice none 0 0), Value.pointer (some ⟨b2, 0, none⟩), cnd (D 4) (Value.int .i64 0) (Value.int .i64 0), Value.pointer (some ⟨b10, 0, none⟩), v8, Value.bool r7.2.2, Value.tuple #[Value.agg ((encA (encI .i16)) r7.1).toArray, v8, Value.bool r7.2.2], Value.string a1, v5, Value.tuple #[Value.agg ((encA (encI .i16)) r7.1).toArray, v8, Value.bool r7.2.2], Value.agg ((encA (encI .i16)) r7.1).toArray, v8, Value.bool r7.2.2, Value.bool true, Value.bool false, Value.bool false, v8, Value.agg ((encA (encI .i16)) r7.1).toArray, Value.bool true, Value.bool false, Value.bool false, O 23, cnd (D 0) v8 (O 24), cnd (D 1) (Value.agg ((encA (encI .i16)) r7.1).toArray) (O 25)] ∧ St w0 [Cells b10 ((encA (encI .i16)) r7.1) 48, Row 47 (K.int .i16) v8 r7.2.1, Row 9 K.str v5 r4, Cells b2 (cnd (D 3) ((encA (encI .i16)) r7.1) ((encA (encI .i16)) (Ar.rep 4 0))) 49] w) ?_ ⟨⟨⟨⟨⟨trivial, ?_⟩, ?_⟩, ?_⟩, ?_⟩, ?_⟩ ?_
     ·
      intro w hh hbw
      have hs := hs.samew hh hbw
      exact ⟨fun i => T.getD i undef, (by subst hT; rfl), hs⟩
     ·
      intro D t w hD hp hcl hI rest hk
      obtain ⟨O, ht, hs⟩ := hI
      have q2_ : D 2 = false := not_yet (hcl.get 2 (by decide)) 0 0 rfl hD
      have q3_ : D 3 = false := not_yet (hcl.get 3 (by decide)) 1 2 rfl q2_
      have q4_ : D 4 = false := not_yet (hcl.get 4 (by decide)) 0 3 rfl q3_
      have u0_ : upd D 0 0 = true := rfl; have u1_ : upd D 0 1 = D 1 := rfl; have u2_ : upd D 0 2 = D 2 := rfl; have u3_ : upd D 0 3 = D 3 := rfl; have u4_ : upd D 0 4 = D 4 := rfl
      simp only [hD, q2_, q3_, q4_, cnd_t, cnd_f, Asc_t, Asc_f] at ht hs
      subst ht
      refine g_op (v := v8) rfl rfl rfl ?_
      show G _ _ _ _ [_, _, _, _, _, _, _, _, _, _, _, _, _, _, _, _, _, _, _, _, _, _, _, _, _, _] _
      exact hk _ _ ⟨O, (by simp only [u0_, u1_, u2_, u3_, u4_, q2_, q3_, q4_, cnd_t, cnd_f, Asc_t, Asc_f]), hs.cast (by first | rfl | simp only [List.take, List.drop, List.cons_append, List.nil_append, List.set_cons_zero, List.set_cons_succ, List.eraseIdx, u0_, u1_, u2_, u3_, u4_, q2_, q3_, q4_, cnd_t, cnd_f, Asc_t, Asc_f])⟩
     ·
      intro D t w hD hp hcl hI rest hk
      obtain ⟨O, ht, hs⟩ := hI
      have q3_ : D 3 = false := not_yet (hcl.get 3 (by decide)) 0 1 rfl hD
      have q4_ : D 4 = false := not_yet (hcl.get 4 (by decide)) 0 3 rfl q3_
      have u0_ : upd D 1 0 = D 0 := rfl; have u1_ : upd D 1 1 = true := rfl; have u2_ : upd D 1 2 = D 2 := rfl; have u3_ : upd D 1 3 = D 3 := rfl; have u4_ : upd D 1 4 = D 4 := rfl
      simp only [hD, q3_, q4_, cnd_t, cnd_f, Asc_t, Asc_f] at ht hs
      subst ht
      refine s_loadA rfl rfl (es := ((encA (encI .i16)) r7.1)) rfl rfl (fun _ => rfl) (n := 4) (fun _ => rfl) ((fkA (n := 4) (he := (fkI .i16).len) (h1 := (fkI .i16).one)).len _) (cells_all (hs.cells 0 rfl)) ?_
      show G _ _ _ _ [_, _, _, _, _, _, _, _, _, _, _, _, _, _, _, _, _, _, _, _, _, _, _, _, _, _] _
      exact hk _ _ ⟨O, (by simp only [u0_, u1_, u2_, u3_, u4_, q3_, q4_, cnd_t, cnd_f, Asc_t, Asc_f]), hs.cast (by first | rfl | simp only [List.take, List.drop, List.cons_append, List.nil_append, List.set_cons_zero, List.set_cons_succ, List.eraseIdx, u0_, u1_, u2_, u3_, u4_, q3_, q4_, cnd_t, cnd_f, Asc_t, Asc_f])⟩
     ·
      intro D t w hD hp hcl hI rest hk
      obtain ⟨O, ht, hs⟩ := hI
      obtain ⟨p0_, _, _⟩ := hp
      have q3_ : D 3 = false := not_yet (hcl.get 3 (by decide)) 1 2 rfl hD
      have q4_ : D 4 = false := not_yet (hcl.get 4 (by decide)) 0 3 rfl q3_
      have u0_ : upd D 2 0 = D 0 := rfl; have u1_ : upd D 2 1 = D 1 := rfl; have u2_ : upd D 2 2 = true := rfl; have u3_ : upd D 2 3 = D 3 := rfl; have u4_ : upd D 2 4 = D 4 := rfl
      simp only [hD, p0_, q3_, q4_, cnd_t, cnd_f, Asc_t, Asc_f] at ht hs
      subst ht
      refine g_op (v := v8) rfl rfl rfl ?_
      show G _ _ _ _ [_, _, _, _, _, _, _, _, _, _, _, _, _, _, _, _, _, _, _, _, _, _, _, _, _, _] _
      exact hk _ _ ⟨O, (by simp only [u0_, u1_, u2_, u3_, u4_, p0_, q3_, q4_, cnd_t, cnd_f, Asc_t, Asc_f]), hs.cast (by first | rfl | simp only [List.take, List.drop, List.cons_append, List.nil_append, List.set_cons_zero, List.set_cons_succ, List.eraseIdx, u0_, u1_, u2_, u3_, u4_, p0_, q3_, q4_, cnd_t, cnd_f, Asc_t, Asc_f])⟩
     ·
      intro D t w hD hp hcl hI rest hk
      obtain ⟨O, ht, hs⟩ := hI
      obtain ⟨p1_, p2_, p0_, _, _, _⟩ := hp
      have q4_ : D 4 = false := not_yet (hcl.get 4 (by decide)) 0 3 rfl hD
      have u0_ : upd D 3 0 = D 0 := rfl; have u1_ : upd D 3 1 = D 1 := rfl; have u2_ : upd D 3 2 = D 2 := rfl; have u3_ : upd D 3 3 = true := rfl; have u4_ : upd D 3 4 = D 4 := rfl
      simp only [hD, p0_, p1_, p2_, q4_, cnd_t, cnd_f, Asc_t, Asc_f] at ht hs
      subst ht
      have hs := hs.pull 3 rfl
      have hs : St _ [_, _, _, _] _ := hs
      refine s_storeAll (n := 4) hs ((fkA (n := 4) (he := (fkI .i16).len) (h1 := (fkI .i16).one)).len _) rfl rfl (vs := ((encA (encI .i16)) r7.1)) rfl rfl rfl (fun _ => rfl) ((fkA (n := 4) (he := (fkI .i16).len) (h1 := (fkI .i16).one)).len _) ((fkA (n := 4) (he := (fkI .i16).len) (h1 := (fkI .i16).one)).one _) ?_
      intro w hs
      show G _ _ _ _ [_, _, _, _, _, _, _, _, _, _, _, _, _, _, _, _, _, _, _, _, _, _, _, _, _, _] _
      have hs := hs.push 3 (by simp)
      exact hk _ _ ⟨O, (by simp only [u0_, u1_, u2_, u3_, u4_, p0_, p1_, p2_, q4_, cnd_t, cnd_f, Asc_t, Asc_f]), hs.cast (by first | rfl | simp only [List.take, List.drop, List.cons_append, List.nil_append, List.set_cons_zero, List.set_cons_succ, List.eraseIdx, u0_, u1_, u2_, u3_, u4_, p0_, p1_, p2_, q4_, cnd_t, cnd_f, Asc_t, Asc_f])⟩
     ·
      intro D t w hD hp hcl hI rest hk
      obtain ⟨O, ht, hs⟩ := hI
      obtain ⟨p3_, p0_, p1_, p2_, _, _⟩ := hp
      have u0_ : upd D 4 0 = D 0 := rfl; have u1_ : upd D 4 1 = D 1 := rfl; have u2_ : upd D 4 2 = D 2 := rfl; have u3_ : upd D 4 3 = D 3 := rfl; have u4_ : upd D 4 4 = true := rfl
      simp only [hD, p0_, p1_, p2_, p3_, cnd_t, cnd_f, Asc_t, Asc_f] at ht hs
      subst ht
      refine g_op (v := Value.int .i64 0) rfl rfl rfl ?_
      show G _ _ _ _ [_, _, _, _, _, _, _, _, _, _, _, _, _, _, _, _, _, _, _, _, _, _, _, _, _, _] _
      exact hk _ _ ⟨O, (by simp only [u0_, u1_, u2_, u3_, u4_, p0_, p1_, p2_, p3_, cnd_t, cnd_f, Asc_t, Asc_f]), hs.cast (by first | rfl | simp only [List.take, List.drop, List.cons_append, List.nil_append, List.set_cons_zero, List.set_cons_succ, List.eraseIdx, u0_, u1_, u2_, u3_, u4_, p0_, p1_, p2_, p3_, cnd_t, cnd_f, Asc_t, Asc_f])⟩
     ·
      intro D t w hall hI
      obtain ⟨O, ht, hs⟩ := hI
      have p0_ : D 0 = true := hall 0 (by decide)
      have p1_ : D 1 = true := hall 1 (by decide)
      have p2_ : D 2 = true := hall 2 (by decide)
      have p3_ : D 3 = true := hall 3 (by decide)
      have p4_ : D 4 = true := hall 4 (by decide)
      simp only [p0_, p1_, p2_, p3_, p4_, cnd_t, cnd_f, Asc_t, Asc_f] at ht hs
      subst ht
      obtain rfl := Option.some.inj H
      refine g_ret Tryd.func24 (v := Value.tuple #[v8, Value.agg ((encA (encI .i16)) r7.1).toArray, Value.int .i64 0]) (resN (l := Tryd.f24.results.toList) (vs := [v8, Value.agg ((encA (encI .i16)) r7.1).toArray, Value.int .i64 0]) rfl ⟨rfl, ⟨_, rfl, (run_loadVar_agg (es := ((encA (encI .i16)) r7.1)) rfl (congrArg (Result.ok · _) ((fkA (n := 4) (he := (fkI .i16).len) (h1 := (fkI .i16).one)).len _).symm) (cells_all (hs.cells 3 rfl)))⟩, rfl, trivial⟩ (by simp)) ?_
      have hs := hs.pull 1 rfl
      have hs : St _ [_] _ := St.take (Γ' := [_, _, _]) hs
      exact ⟨_, rfl, v8, rfl, hs⟩
   | false =>
     rw [if_neg Bool.false_ne_true] at H
     show G _ _ _ _ [_, _, _, _, _, _, _, _, _, _, _, _, _, _, _, _, _, _, _, _, _, _, _, _, _, _] _
     refine g_op (v := Value.bool true) rfl rfl rfl ?_
     show G _ _ _ _ [_, _, _, _, _, _, _, _, _, _, _, _, _, _, _, _, _, _, _, _, _, _, _, _, _, _] _
     refine g_op (v := Value.bool true) rfl rfl rfl ?_
     show G _ _ _ _ [_, _, _, _, _, _, _, _, _, _, _, _, _, _, _, _, _, _, _, _, _, _, _, _, _, _] _
     refine g_ops_nil ?_
     refine g_cond_true rfl ?_
     refine g_seq ?_
     refine g_region ?_
     show G _ _ _ (.inRegion _ [0, 1, 2, 3] :: _) _ _
     refine g_op (v := Value.agg ((encA (encI .i16)) (Ar.rep 4 0)).toArray) rfl rfl (x_build rfl rfl) ?_
     show G _ _ _ _ [_, _, _, _, _, _, _, _, _, _, _, _, _, _, _, _, _, _, _, _, _, _, _, _, _, _] _
     refine g_op (v := Value.slice none 0 0) rfl rfl rfl ?_
     show G _ _ _ _ [_, _, _, _, _, _, _, _, _, _, _, _, _, _, _, _, _, _, _, _, _, _, _, _, _, _] _
     have hs := hs.pull 3 rfl
     have hs : St _ [_, _, _, _] _ := hs
     refine s_storeAll (n := 4) hs ((fkA (n := 4) (he := (fkI .i16).len) (h1 := (fkI .i16).one)).len _) rfl rfl (vs := ((encA (encI .i16)) (Ar.rep 4 0))) rfl rfl rfl (fun _ => rfl) ((fkA (n := 4) (he := (fkI .i16).len) (h1 := (fkI .i16).one)).len _) ((fkA (n := 4) (he := (fkI .i16).len) (h1 := (fkI .i16).one)).one _) ?_
     intro w hs
     refine g_op (v := Value.int .i64 5) rfl rfl rfl ?_
     show G _ _ _ _ [_, _, _, _, _, _, _, _, _, _, _, _, _, _, _, _, _, _, _, _, _, _, _, _, _, _] _
     refine g_ops_nil ?_
     obtain rfl := Option.some.inj H
     refine g_ret Tryd.func24 (v := Value.tuple #[Value.slice none 0 0, Value.agg ((encA (encI .i16)) (Ar.rep 4 0)).toArray, Value.int .i64 5]) (resN (l := Tryd.f24.results.toList) (vs := [Value.slice none 0 0, Value.agg ((encA (encI .i16)) (Ar.rep 4 0)).toArray, Value.int .i64 5]) rfl ⟨rfl, ⟨_, rfl, (run_loadVar_agg (es := ((encA (encI .i16)) (Ar.rep 4 0))) rfl (congrArg (Result.ok · _) ((fkA (n := 4) (he := (fkI .i16).len) (h1 := (fkI .i16).one)).len _).symm) (cells_all (hs.cells 0 rfl)))⟩, rfl, trivial⟩ (by simp)) ?_
     have hs := hs.nil 47 (K.int .i16)
     have hs := hs.pull 0 rfl
     have hs : St _ [_] _ := St.take (Γ' := [_, _, _, _]) hs
     exact ⟨_, rfl, (Value.slice none 0 0), rfl, hs⟩
  ·
   intro hb
   rw [if_neg (b_var_f hb)] at H
   refine g_op (v := Value.bool true) rfl rfl rfl ?_
   show G _ _ _ _ [_, _, _, _, _, _, _, _, _, _, _, _, _, _, _, _, _, _, _, _, _, _, _, _, _, _] _
   refine g_op (v := Value.bool true) rfl rfl rfl ?_
   refine g_op_not rfl rfl ?_
   refine g_op_not rfl rfl ?_
   show G _ _ _ _ [_, _, _, _, _, _, _, _, _, _, _, _, _, _, _, _, _, _, _, _, _, _, _, _, _, _] _
   refine g_op_not rfl rfl ?_
   show G _ _ _ _ [_, _, _, _, _, _, _, _, _, _, _, _, _, _, _, _, _, _, _, _, _, _, _, _, _, _] _
   refine g_op_not rfl rfl ?_
   show G _ _ _ _ [_, _, _, _, _, _, _, _, _, _, _, _, _, _, _, _, _, _, _, _, _, _, _, _, _, _] _
   refine g_op (v := Value.bool true) rfl rfl rfl ?_
   show G _ _ _ _ [_, _, _, _, _, _, _, _, _, _, _, _, _, _, _, _, _, _, _, _, _, _, _, _, _, _] _
   refine g_ops_nil ?_
   refine g_cond_true rfl ?_
   refine g_seq ?_
   refine g_region ?_
   show G _ _ _ (.inRegion _ [0, 1, 2, 3] :: _) _ _
   refine g_op (v := Value.agg ((encA (encI .i16)) (Ar.rep 4 0)).toArray) rfl rfl (x_build rfl rfl) ?_
   show G _ _ _ _ [_, _, _, _, _, _, _, _, _, _, _, _, _, _, _, _, _, _, _, _, _, _, _, _, _, _] _
   refine g_op (v := Value.slice none 0 0) rfl rfl rfl ?_
   show G _ _ _ _ [_, _, _, _, _, _, _, _, _, _, _, _, _, _, _, _, _, _, _, _, _, _, _, _, _, _] _
   have hs := hs.pull 3 rfl
   have hs : St _ [_, _, _, _] _ := hs
   refine s_storeAll (n := 4) hs ((fkA (n := 4) (he := (fkI .i16).len) (h1 := (fkI .i16).one)).len _) rfl rfl (vs := ((encA (encI .i16)) (Ar.rep 4 0))) rfl rfl rfl (fun _ => rfl) ((fkA (n := 4) (he := (fkI .i16).len) (h1 := (fkI .i16).one)).len _) ((fkA (n := 4) (he := (fkI .i16).len) (h1 := (fkI .i16).one)).one _) ?_
   intro w hs
   refine g_op (v := Value.int .i64 5) rfl rfl rfl ?_
   show G _ _ _ _ [_, _, _, _, _, _, _, _, _, _, _, _, _, _, _, _, _, _, _, _, _, _, _, _, _, _] _
   refine g_ops_nil ?_
   obtain rfl := Option.some.inj H
   refine g_ret Tryd.func24 (v := Value.tuple #[Value.slice none 0 0, Value.agg ((encA (encI .i16)) (Ar.rep 4 0)).toArray, Value.int .i64 5]) (resN (l := Tryd.f24.results.toList) (vs := [Value.slice none 0 0, Value.agg ((encA (encI .i16)) (Ar.rep 4 0)).toArray, Value.int .i64 5]) rfl ⟨rfl, ⟨_, rfl, (run_loadVar_agg (es := ((encA (encI .i16)) (Ar.rep 4 0))) rfl (congrArg (Result.ok · _) ((fkA (n := 4) (he := (fkI .i16).len) (h1 := (fkI .i16).one)).len _).symm) (cells_all (hs.cells 0 rfl)))⟩, rfl, trivial⟩ (by simp)) ?_
   have hs := hs.nil 47 (K.int .i16)
   have hs := hs.pull 0 rfl
   have hs : St _ [_] _ := St.take (Γ' := [_, _, _, _]) hs
   exact ⟨_, rfl, (Value.slice none 0 0), rfl, hs⟩

/- function 25 laws_eqGlasses -/
def laws_eqGlasses.post (w0 : World) (r : Bool) (v : Value) (w : World) : Prop := v = Value.bool r ∧ St w0 [] w
set_option maxHeartbeats 8000000 in
set_option maxRecDepth 100000 in
theorem laws_eqGlasses.calls {N : Nat} {a1 : (List Int)} {a3 : (List Int)} {v2 : Value} {v4 : Value} {w0 : World} {r : Bool} (hr0 : RdRow (K.int .i16) w0 v2 a1) (hr1 : RdRow (K.int .i16) w0 v4 a3) (H : laws_eqGlasses.f N a1 a3 = some r) :
    Calls Tryd.prog 25 #[v2, v4] w0 fun e w => ∃ v, e = .returned v ∧ laws_eqGlasses.post w0 r v w := by
  unfold laws_eqGlasses.f at H
  have hs : St w0 [] w0 := St.refl w0
  refine calls_of_g (n := 24) Tryd.func25 rfl rfl ?_
  show G _ _ _ _ [_, _, _, _, _, _, _, _, _, _, _, _, _, _, _, _, _, _, _, _, _, _, _, _, _, _] _
  refine g_seq ?_
  refine g_region ?_
  show G _ _ _ (.inRegion _ [0] :: _) _ _
  refine g_op (v := Value.bool false) rfl rfl rfl ?_
  show G _ _ _ _ [_, _, _, _, _, _, _, _, _, _, _, _, _, _, _, _, _, _, _, _, _, _, _, _, _, _] _
  refine g_ops_nil ?_
  refine g_seq ?_
  refine g_seq ?_
  refine g_region ?_
  show G _ _ _ (.inRegion _ [0, 1, 2, 3, 4] :: _) _ _
  refine g_op (v := v2) rfl rfl rfl ?_
  refine s_len (hs.rd hr0) rfl rfl rfl rfl rfl ?_
  show G _ _ _ _ [_, _, _, _, _, _, _, _, _, _, _, _, _, _, _, _, _, _, _, _, _, _, _, _, _, _] _
  refine g_op (v := v4) rfl rfl rfl ?_
  refine s_len (hs.rd hr1) rfl rfl rfl rfl rfl ?_
  show G _ _ _ _ [_, _, _, _, _, _, _, _, _, _, _, _, _, _, _, _, _, _, _, _, _, _, _, _, _, _] _
  refine g_op_b (B := (a1.length : Int) != (a3.length : Int)) rfl rfl rfl ?_ ?_
  ·
   intro hb
   rw [if_neg (b_bne_t hb)] at H
   show G _ _ _ _ [_, _, _, _, _, _, _, _, _, _, _, _, _, _, _, _, _, _, _, _, _, _, _, _, _, _] _
   refine g_ops_nil ?_
   refine g_cond_true rfl ?_
   refine g_seq ?_
   refine g_region ?_
   show G _ _ _ (.inRegion _ [0] :: _) _ _
   refine g_op (v := Value.bool false) rfl rfl rfl ?_
   show G _ _ _ _ [_, _, _, _, _, _, _, _, _, _, _, _, _, _, _, _, _, _, _, _, _, _, _, _, _, _] _
   refine g_ops_nil ?_
   obtain rfl := Option.some.inj H
   refine g_ret Tryd.func25 (v := Value.bool false) (res1 rfl rfl) ?_
   have hs : St _ [] _ := St.take (Γ' := []) hs
   exact ⟨_, rfl, rfl, hs⟩
  ·
   intro hb
   rw [if_pos (b_bne_f hb)] at H
   show G _ _ _ _ [_, _, _, _, _, _, _, _, _, _, _, _, _, _, _, _, _, _, _, _, _, _, _, _, _, _] _
   refine g_ops_nil ?_
   refine g_cond_false rfl ?_
   refine g_skip ?_
   refine g_seq ?_
   refine g_seq ?_
   refine g_region ?_
   show G _ _ _ (.inRegion _ [0] :: _) _ _
   refine g_op (v := Value.int .i64 0) rfl rfl rfl ?_
   show G _ _ _ _ [_, _, _, _, _, _, _, _, _, _, _, _, _, _, _, _, _, _, _, _, _, _, _, _, _, _] _
   refine g_ops_nil ?_
   obtain ⟨o1_, Ho, Hr1_⟩ := bind_get H
   refine g_block_join (J := fun t w => laws_eqGlasses.a0 N = some r ∧ Fr t (fun O => ([O 0, O 1, O 2, O 3, O 4, O 5, O 6, O 7, O 8, O 9, O 10, O 11, O 12, O 13, O 14, O 15, O 16, O 17, O 18, O 19, O 20, O 21, O 22, O 23, O 24, O 25] : List Value)) ∧ St w0 [] w) ?_ ?_
   ·
    rintro t w ⟨H, hf, hs⟩
    obtain ⟨O, rfl⟩ := hf.open
    show G _ _ _ _ [_, _, _, _, _, _, _, _, _, _, _, _, _, _, _, _, _, _, _, _, _, _, _, _, _, _] _
    unfold laws_eqGlasses.a0 at H
    refine g_seq ?_
    refine g_region ?_
    show G _ _ _ (.inRegion _ [0] :: _) _ _
    refine g_op (v := Value.bool true) rfl rfl rfl ?_
    show G _ _ _ _ [_, _, _, _, _, _, _, _, _, _, _, _, _, _, _, _, _, _, _, _, _, _, _, _, _, _] _
    refine g_ops_nil ?_
    obtain rfl := Option.some.inj H
    refine g_ret Tryd.func25 (v := Value.bool true) (res1 rfl rfl) ?_
    have hs : St _ [] _ := St.take (Γ' := []) hs
    exact ⟨_, rfl, rfl, hs⟩
   ·
    intro ha1_
    have hs : St _ [] _ := St.take (Γ' := []) hs
    refine g_loop_fuel (I := fun n_ t w => ∃ x5 : Int, rounds (fun s => laws_eqGlasses.b0 N a1 a3 s) n_ x5 = some o1_ ∧ Fr t (fun O => ([v2, v4, O 2, O 3, O 4, Value.int .i64 x5, O 6, O 7, O 8, O 9, O 10, O 11, O 12, O 13, O 14, O 15, O 16, O 17, O 18, O 19, O 20, O 21, O 22, O 23, O 24, O 25] : List Value)) ∧ St w0 [] w) N ⟨0, Ho, rfl, hs⟩ ?_ ?_
    ·
     rintro _ _ ⟨x5, h, _⟩
     exact rounds_zero h
    ·
     intro n_ ih1_
     rintro t w ⟨x5, Ho, hf, hs⟩
     obtain ⟨O, rfl⟩ := hf.open
     show G _ _ _ _ [_, _, _, _, _, _, _, _, _, _, _, _, _, _, _, _, _, _, _, _, _, _, _, _, _, _] _
     obtain ⟨x7_, H, Hx1_⟩ := rounds_succ Ho
     have H : laws_eqGlasses.b0 N a1 a3 x5 = some x7_ := H
     unfold laws_eqGlasses.b0 at H
     refine g_seq ?_
     refine g_seq ?_
     refine g_region ?_
     show G _ _ _ (.inRegion _ [0, 1, 2, 3] :: _) _ _
     refine g_op (v := Value.int .i64 x5) rfl rfl rfl ?_
     refine g_op (v := v2) rfl rfl rfl ?_
     refine s_len (hs.rd hr0) rfl rfl rfl rfl rfl ?_
     show G _ _ _ _ [_, _, _, _, _, _, _, _, _, _, _, _, _, _, _, _, _, _, _, _, _, _, _, _, _, _] _
     refine g_op_b (B := decide (x5 < (a1.length : Int))) rfl rfl rfl ?_ ?_
     ·
      intro hb
      rw [if_pos (b_dec_t hb)] at H
      show G _ _ _ _ [_, _, _, _, _, _, _, _, _, _, _, _, _, _, _, _, _, _, _, _, _, _, _, _, _, _] _
      refine g_ops_nil ?_
      refine g_cond_true rfl ?_
      refine g_skip ?_
      refine g_seq ?_
      refine g_block ?_
      refine g_seq ?_
      refine g_lay (n := 9) rfl [0, 1, 2, 3, 4, 5, 6, 7, 8] [0, 1, 2, 3, 4, 5, 6, 7, 8] rfl rfl ?_
      intro rest w hh hbw hO
      have hs := hs.samew hh hbw
      show G _ _ _ _ [_, _, _, _, _, _, _, _, _, _, _, _, _, _, _, _, _, _, _, _, _, _, _, _, _, _] _
      obtain ⟨gd2, H⟩ := ite_get H
      obtain ⟨ad3_, ad3_N, ad3_C, had3_⟩ := sl_at (hs.rd hr0) gd2.1 gd2.2
      obtain ⟨gd4, H⟩ := ite_get H
      obtain ⟨ad5_, ad5_N, ad5_C, had5_⟩ := sl_at (hs.rd hr1) gd4.1 gd4.2
      refine g_name ?_
      intro T hT
      refine g_layer (m0 := 0) hO rfl 255 [0, 1, 2, 3, 4, 5, 6, 7] [0, 0, 3, 7, 0, 0, 48, 112, 255] (by decide +kernel) (fun D t w => ∃ O : Nat → Value, t = [v2, v4, O 2, O 3, O 4, Value.int .i64 x5, O 6, O 7, O 8, O 9, O 10, Value.int .i64 x5, v2, Value.int .i64 (a1.length : Int), Value.bool true, O 15, O 16, cnd (D 0) v2 (O 17), cnd (D 1) (Value.int .i64 x5) (O 18), cnd (D 2) (Value.pointer (some (ad3_.add (x5.toNat * 1)))) (O 19), cnd (D 3) (Value.int .i16 (rdL a1 x5 0)) (O 20), cnd (D 4) v4 (O 21), cnd (D 5) (Value.int .i64 x5) (O 22), cnd (D 6) (Value.pointer (some (ad5_.add (x5.toNat * 1)))) (O 23), cnd (D 7) (Value.int .i16 (rdL a3 x5 0)) (O 24), O 25] ∧ St w0 [] w) ?_ ⟨?_, ⟨?_, ⟨?_, ⟨?_, ⟨?_, ⟨?_, ⟨?_, ⟨?_, trivial⟩⟩⟩⟩⟩⟩⟩⟩ ?_
      · exact ⟨fun i => T.getD i undef, (by subst hT; rfl), hs⟩
      ·
       intro D t w hD hp hcl hI rest hk
       obtain ⟨O, ht, hs⟩ := hI
       have hp : AllDone D [] := hp
       have q2_ : D 2 = false := not_yet (show D 2 = true → AllDone D [0, 1] from hcl 2 (by decide)) 0 0 rfl hD
       have q3_ : D 3 = false := not_yet (show D 3 = true → AllDone D [2] from hcl 3 (by decide)) 0 2 rfl q2_
       have u0_ : upd D 0 0 = true := rfl; have u1_ : upd D 0 1 = D 1 := rfl; have u2_ : upd D 0 2 = D 2 := rfl; have u3_ : upd D 0 3 = D 3 := rfl; have u4_ : upd D 0 4 = D 4 := rfl; have u5_ : upd D 0 5 = D 5 := rfl; have u6_ : upd D 0 6 = D 6 := rfl; have u7_ : upd D 0 7 = D 7 := rfl
       simp only [hD, q2_, q3_, cnd_t, cnd_f, Asc_t, Asc_f] at ht hs
       subst ht
       refine g_op (v := v2) rfl rfl rfl ?_
       show G _ _ _ _ [_, _, _, _, _, _, _, _, _, _, _, _, _, _, _, _, _, _, _, _, _, _, _, _, _, _] _
       exact hk _ _ ⟨O, (by simp only [u0_, u1_, u2_, u3_, u4_, u5_, u6_, u7_, q2_, q3_, cnd_t, cnd_f, Asc_t, Asc_f]), hs.cast (by first | rfl | simp only [List.take, List.drop, List.cons_append, List.nil_append, List.set_cons_zero, List.set_cons_succ, List.eraseIdx, u0_, u1_, u2_, u3_, u4_, u5_, u6_, u7_, q2_, q3_, cnd_t, cnd_f, Asc_t, Asc_f])⟩
      ·
       intro D t w hD hp hcl hI rest hk
       obtain ⟨O, ht, hs⟩ := hI
       have hp : AllDone D [] := hp
       have q2_ : D 2 = false := not_yet (show D 2 = true → AllDone D [0, 1] from hcl 2 (by decide)) 1 1 rfl hD
       have q3_ : D 3 = false := not_yet (show D 3 = true → AllDone D [2] from hcl 3 (by decide)) 0 2 rfl q2_
       have u0_ : upd D 1 0 = D 0 := rfl; have u1_ : upd D 1 1 = true := rfl; have u2_ : upd D 1 2 = D 2 := rfl; have u3_ : upd D 1 3 = D 3 := rfl; have u4_ : upd D 1 4 = D 4 := rfl; have u5_ : upd D 1 5 = D 5 := rfl; have u6_ : upd D 1 6 = D 6 := rfl; have u7_ : upd D 1 7 = D 7 := rfl
       simp only [hD, q2_, q3_, cnd_t, cnd_f, Asc_t, Asc_f] at ht hs
       subst ht
       refine g_op (v := Value.int .i64 x5) rfl rfl rfl ?_
       show G _ _ _ _ [_, _, _, _, _, _, _, _, _, _, _, _, _, _, _, _, _, _, _, _, _, _, _, _, _, _] _
       exact hk _ _ ⟨O, (by simp only [u0_, u1_, u2_, u3_, u4_, u5_, u6_, u7_, q2_, q3_, cnd_t, cnd_f, Asc_t, Asc_f]), hs.cast (by first | rfl | simp only [List.take, List.drop, List.cons_append, List.nil_append, List.set_cons_zero, List.set_cons_succ, List.eraseIdx, u0_, u1_, u2_, u3_, u4_, u5_, u6_, u7_, q2_, q3_, cnd_t, cnd_f, Asc_t, Asc_f])⟩
      ·
       intro D t w hD hp hcl hI rest hk
       obtain ⟨O, ht, hs⟩ := hI
       have hp : AllDone D [0, 1] := hp
       obtain ⟨p0_, p1_, _⟩ := hp
       have q3_ : D 3 = false := not_yet (show D 3 = true → AllDone D [2] from hcl 3 (by decide)) 0 2 rfl hD
       have u0_ : upd D 2 0 = D 0 := rfl; have u1_ : upd D 2 1 = D 1 := rfl; have u2_ : upd D 2 2 = true := rfl; have u3_ : upd D 2 3 = D 3 := rfl; have u4_ : upd D 2 4 = D 4 := rfl; have u5_ : upd D 2 5 = D 5 := rfl; have u6_ : upd D 2 6 = D 6 := rfl; have u7_ : upd D 2 7 = D 7 := rfl
       simp only [hD, p0_, p1_, q3_, cnd_t, cnd_f, Asc_t, Asc_f] at ht hs
       subst ht
       refine s_idxD (κ := (K.int .i16)) (m := 1) rfl (hs.rd hr0) rfl (fun _ => rfl) gd2.1 gd2.2 had3_ rfl rfl rfl rfl rfl ?_
       show G _ _ _ _ [_, _, _, _, _, _, _, _, _, _, _, _, _, _, _, _, _, _, _, _, _, _, _, _, _, _] _
       exact hk _ _ ⟨O, (by simp only [u0_, u1_, u2_, u3_, u4_, u5_, u6_, u7_, p0_, p1_, q3_, cnd_t, cnd_f, Asc_t, Asc_f]), hs.cast (by first | rfl | simp only [List.take, List.drop, List.cons_append, List.nil_append, List.set_cons_zero, List.set_cons_succ, List.eraseIdx, u0_, u1_, u2_, u3_, u4_, u5_, u6_, u7_, p0_, p1_, q3_, cnd_t, cnd_f, Asc_t, Asc_f])⟩
      ·
       intro D t w hD hp hcl hI rest hk
       obtain ⟨O, ht, hs⟩ := hI
       have hp : AllDone D [2] := hp
       obtain ⟨p2_, _⟩ := hp
       obtain ⟨p0_, p1_, _⟩ := (show D 2 = true → AllDone D [0, 1] from hcl 2 (by decide)) p2_
       have u0_ : upd D 3 0 = D 0 := rfl; have u1_ : upd D 3 1 = D 1 := rfl; have u2_ : upd D 3 2 = D 2 := rfl; have u3_ : upd D 3 3 = true := rfl; have u4_ : upd D 3 4 = D 4 := rfl; have u5_ : upd D 3 5 = D 5 := rfl; have u6_ : upd D 3 6 = D 6 := rfl; have u7_ : upd D 3 7 = D 7 := rfl
       simp only [hD, p0_, p1_, p2_, cnd_t, cnd_f, Asc_t, Asc_f] at ht hs
       subst ht
       refine s_load1 rfl rfl (v := Value.int .i16 (rdL a1 x5 0)) rfl rfl (fun _ => rfl) (cellsAt_of (fkI .i16) 0 (hs.rd hr0) had3_ gd2.1 gd2.2) ?_
       show G _ _ _ _ [_, _, _, _, _, _, _, _, _, _, _, _, _, _, _, _, _, _, _, _, _, _, _, _, _, _] _
       exact hk _ _ ⟨O, (by simp only [u0_, u1_, u2_, u3_, u4_, u5_, u6_, u7_, p0_, p1_, p2_, cnd_t, cnd_f, Asc_t, Asc_f]), hs.cast (by first | rfl | simp only [List.take, List.drop, List.cons_append, List.nil_append, List.set_cons_zero, List.set_cons_succ, List.eraseIdx, u0_, u1_, u2_, u3_, u4_, u5_, u6_, u7_, p0_, p1_, p2_, cnd_t, cnd_f, Asc_t, Asc_f])⟩
      ·
       intro D t w hD hp hcl hI rest hk
       obtain ⟨O, ht, hs⟩ := hI
       have hp : AllDone D [] := hp
       have q6_ : D 6 = false := not_yet (show D 6 = true → AllDone D [4, 5] from hcl 6 (by decide)) 0 4 rfl hD
       have q7_ : D 7 = false := not_yet (show D 7 = true → AllDone D [6] from hcl 7 (by decide)) 0 6 rfl q6_
       have u0_ : upd D 4 0 = D 0 := rfl; have u1_ : upd D 4 1 = D 1 := rfl; have u2_ : upd D 4 2 = D 2 := rfl; have u3_ : upd D 4 3 = D 3 := rfl; have u4_ : upd D 4 4 = true := rfl; have u5_ : upd D 4 5 = D 5 := rfl; have u6_ : upd D 4 6 = D 6 := rfl; have u7_ : upd D 4 7 = D 7 := rfl
       simp only [hD, q6_, q7_, cnd_t, cnd_f, Asc_t, Asc_f] at ht hs
       subst ht
       refine g_op (v := v4) rfl rfl rfl ?_
       show G _ _ _ _ [_, _, _, _, _, _, _, _, _, _, _, _, _, _, _, _, _, _, _, _, _, _, _, _, _, _] _
       exact hk _ _ ⟨O, (by simp only [u0_, u1_, u2_, u3_, u4_, u5_, u6_, u7_, q6_, q7_, cnd_t, cnd_f, Asc_t, Asc_f]), hs.cast (by first | rfl | simp only [List.take, List.drop, List.cons_append, List.nil_append, List.set_cons_zero, List.set_cons_succ, List.eraseIdx, u0_, u1_, u2_, u3_, u4_, u5_, u6_, u7_, q6_, q7_, cnd_t, cnd_f, Asc_t, Asc_f])⟩
      ·
       intro D t w hD hp hcl hI rest hk
       obtain ⟨O, ht, hs⟩ := hI
       have hp : AllDone D [] := hp
       have q6_ : D 6 = false := not_yet (show D 6 = true → AllDone D [4, 5] from hcl 6 (by decide)) 1 5 rfl hD
       have q7_ : D 7 = false := not_yet (show D 7 = true → AllDone D [6] from hcl 7 (by decide)) 0 6 rfl q6_
       have u0_ : upd D 5 0 = D 0 := rfl; have u1_ : upd D 5 1 = D 1 := rfl; have u2_ : upd D 5 2 = D 2 := rfl; have u3_ : upd D 5 3 = D 3 := rfl; have u4_ : upd D 5 4 = D 4 := rfl; have u5_ : upd D 5 5 = true := rfl; have u6_ : upd D 5 6 = D 6 := rfl; have u7_ : upd D 5 7 = D 7 := rfl
       simp only [hD, q6_, q7_, cnd_t, cnd_f, Asc_t, Asc_f] at ht hs
       subst ht
       refine g_op (v := Value.int .i64 x5) rfl rfl rfl ?_
       show G _ _ _ _ [_, _, _, _, _, _, _, _, _, _, _, _, _, _, _, _, _, _, _, _, _, _, _, _, _, _] _
       exact hk _ _ ⟨O, (by simp only [u0_, u1_, u2_, u3_, u4_, u5_, u6_, u7_, q6_, q7_, cnd_t, cnd_f, Asc_t, Asc_f]), hs.cast (by first | rfl | simp only [List.take, List.drop, List.cons_append, List.nil_append, List.set_cons_zero, List.set_cons_succ, List.eraseIdx, u0_, u1_, u2_, u3_, u4_, u5_, u6_, u7_, q6_, q7_, cnd_t, cnd_f, Asc_t, Asc_f])⟩
      ·
       intro D t w hD hp hcl hI rest hk
       obtain ⟨O, ht, hs⟩ := hI
       have hp : AllDone D [4, 5] := hp
       obtain ⟨p4_, p5_, _⟩ := hp
       have q7_ : D 7 = false := not_yet (show D 7 = true → AllDone D [6] from hcl 7 (by decide)) 0 6 rfl hD
       have u0_ : upd D 6 0 = D 0 := rfl; have u1_ : upd D 6 1 = D 1 := rfl; have u2_ : upd D 6 2 = D 2 := rfl; have u3_ : upd D 6 3 = D 3 := rfl; have u4_ : upd D 6 4 = D 4 := rfl; have u5_ : upd D 6 5 = D 5 := rfl; have u6_ : upd D 6 6 = true := rfl; have u7_ : upd D 6 7 = D 7 := rfl
       simp only [hD, p4_, p5_, q7_, cnd_t, cnd_f, Asc_t, Asc_f] at ht hs
       subst ht
       refine s_idxD (κ := (K.int .i16)) (m := 1) rfl (hs.rd hr1) rfl (fun _ => rfl) gd4.1 gd4.2 had5_ rfl rfl rfl rfl rfl ?_
       show G _ _ _ _ [_, _, _, _, _, _, _, _, _, _, _, _, _, _, _, _, _, _, _, _, _, _, _, _, _, _] _
       exact hk _ _ ⟨O, (by simp only [u0_, u1_, u2_, u3_, u4_, u5_, u6_, u7_, p4_, p5_, q7_, cnd_t, cnd_f, Asc_t, Asc_f]), hs.cast (by first | rfl | simp only [List.take, List.drop, List.cons_append, List.nil_append, List.set_cons_zero, List.set_cons_succ, List.eraseIdx, u0_, u1_, u2_, u3_, u4_, u5_, u6_, u7_, p4_, p5_, q7_, cnd_t, cnd_f, Asc_t, Asc_f])⟩
      ·
       intro D t w hD hp hcl hI rest hk
       obtain ⟨O, ht, hs⟩ := hI
       have hp : AllDone D [6] := hp
       obtain ⟨p6_, _⟩ := hp
       obtain ⟨p4_, p5_, _⟩ := (show D 6 = true → AllDone D [4, 5] from hcl 6 (by decide)) p6_
       have u0_ : upd D 7 0 = D 0 := rfl; have u1_ : upd D 7 1 = D 1 := rfl; have u2_ : upd D 7 2 = D 2 := rfl; have u3_ : upd D 7 3 = D 3 := rfl; have u4_ : upd D 7 4 = D 4 := rfl; have u5_ : upd D 7 5 = D 5 := rfl; have u6_ : upd D 7 6 = D 6 := rfl; have u7_ : upd D 7 7 = true := rfl
       simp only [hD, p4_, p5_, p6_, cnd_t, cnd_f, Asc_t, Asc_f] at ht hs
       subst ht
       refine s_load1 rfl rfl (v := Value.int .i16 (rdL a3 x5 0)) rfl rfl (fun _ => rfl) (cellsAt_of (fkI .i16) 0 (hs.rd hr1) had5_ gd4.1 gd4.2) ?_
       show G _ _ _ _ [_, _, _, _, _, _, _, _, _, _, _, _, _, _, _, _, _, _, _, _, _, _, _, _, _, _] _
       exact hk _ _ ⟨O, (by simp only [u0_, u1_, u2_, u3_, u4_, u5_, u6_, u7_, p4_, p5_, p6_, cnd_t, cnd_f, Asc_t, Asc_f]), hs.cast (by first | rfl | simp only [List.take, List.drop, List.cons_append, List.nil_append, List.set_cons_zero, List.set_cons_succ, List.eraseIdx, u0_, u1_, u2_, u3_, u4_, u5_, u6_, u7_, p4_, p5_, p6_, cnd_t, cnd_f, Asc_t, Asc_f])⟩
      ·
       intro D t w rest hall hO1_ hI
       obtain ⟨O, ht, hs⟩ := hI
       have p0_ : D 0 = true := hall 0 (by decide) rfl
       have p1_ : D 1 = true := hall 1 (by decide) rfl
       have p2_ : D 2 = true := hall 2 (by decide) rfl
       have p3_ : D 3 = true := hall 3 (by decide) rfl
       have p4_ : D 4 = true := hall 4 (by decide) rfl
       have p5_ : D 5 = true := hall 5 (by decide) rfl
       have p6_ : D 6 = true := hall 6 (by decide) rfl
       have p7_ : D 7 = true := hall 7 (by decide) rfl
       simp only [p0_, p1_, p2_, p3_, p4_, p5_, p6_, p7_, cnd_t, cnd_f, Asc_t, Asc_f] at ht hs
       subst ht
       obtain ⟨rest, rfl, hO6_⟩ := ord_one (m := 255) hO1_ rfl 8 (m' := 511) (by decide +kernel) rfl
       clear hO1_
       refine g_op_b (B := (rdL a1 x5 0) != (rdL a3 x5 0)) rfl rfl rfl ?_ ?_
       ·
        intro hb
        rw [if_neg (b_bne_t hb)] at H
        show G _ _ _ _ [_, _, _, _, _, _, _, _, _, _, _, _, _, _, _, _, _, _, _, _, _, _, _, _, _, _] _
        obtain rfl := ord_end hO6_ rfl (by decide +kernel)
        refine g_ops_nil ?_
        refine g_cond_true rfl ?_
        refine g_seq ?_
        refine g_region ?_
        show G _ _ _ (.inRegion _ [0] :: _) _ _
        refine g_op (v := Value.bool false) rfl rfl rfl ?_
        show G _ _ _ _ [_, _, _, _, _, _, _, _, _, _, _, _, _, _, _, _, _, _, _, _, _, _, _, _, _, _] _
        refine g_ops_nil ?_
        obtain rfl := Option.some.inj H
        subst Hx1_
        have H := Option.some.inj Hr1_
        subst H
        refine g_ret Tryd.func25 (v := Value.bool false) (res1 rfl rfl) ?_
        have hs : St _ [] _ := St.take (Γ' := []) hs
        exact ⟨_, rfl, rfl, hs⟩
       ·
        intro hb
        rw [if_pos (b_bne_f hb)] at H
        show G _ _ _ _ [_, _, _, _, _, _, _, _, _, _, _, _, _, _, _, _, _, _, _, _, _, _, _, _, _, _] _
        obtain rfl := ord_end hO6_ rfl (by decide +kernel)
        refine g_ops_nil ?_
        refine g_cond_false rfl ?_
        refine g_skip ?_
        refine g_inBlock ?_
        refine g_region ?_
        show G _ _ _ (.inRegion _ [0, 1, 2] :: _) _ _
        refine g_op (v := Value.int .i64 x5) rfl rfl rfl ?_
        refine g_op (v := Value.int .i64 (i64w (x5 + 1))) rfl rfl rfl ?_
        show G _ _ _ _ [_, _, _, _, _, _, _, _, _, _, _, _, _, _, _, _, _, _, _, _, _, _, _, _, _, _] _
        refine g_op (v := Value.int .i64 (i64w (x5 + 1))) rfl rfl rfl ?_
        show G _ _ _ _ [_, _, _, _, _, _, _, _, _, _, _, _, _, _, _, _, _, _, _, _, _, _, _, _, _, _] _
        refine g_ops_nil ?_
        obtain rfl := Option.some.inj H
        have hs : St _ [] _ := St.take (Γ' := []) hs
        exact ih1_ _ _ ⟨i64w (x5 + 1), Hx1_, rfl, hs⟩
     ·
      intro hb
      rw [if_neg (b_dec_f hb)] at H
      show G _ _ _ _ [_, _, _, _, _, _, _, _, _, _, _, _, _, _, _, _, _, _, _, _, _, _, _, _, _, _] _
      refine g_ops_nil ?_
      refine g_cond_false rfl ?_
      obtain rfl := Option.some.inj H
      subst Hx1_
      have hs : St _ [] _ := St.take (Γ' := []) hs
      refine g_exit rfl ?_
      exact ha1_ _ _ ⟨Hr1_, rfl, hs⟩

/- function 26 laws_eqTops -/
def laws_eqTops.post (w0 : World) (r : Bool) (v : Value) (w : World) : Prop := v = Value.bool r ∧ St w0 [] w
set_option maxHeartbeats 8000000 in
set_option maxRecDepth 100000 in
theorem laws_eqTops.calls {N : Nat} {a1 : (Ar Int 4)} {a2 : (Ar Int 4)} {w0 : World} {r : Bool} (H : laws_eqTops.f N a1 a2 = some r) :
    Calls Tryd.prog 26 #[Value.agg ((encA (encI .i16)) a1).toArray, Value.agg ((encA (encI .i16)) a2).toArray] w0 fun e w => ∃ v, e = .returned v ∧ laws_eqTops.post w0 r v w := by
  unfold laws_eqTops.f at H
  have hs : St w0 [] w0 := St.refl w0
  refine calls_of_g (n := 15) Tryd.func26 rfl rfl ?_
  show G _ _ _ _ [_, _, _, _, _, _, _, _, _, _, _, _, _, _, _, _, _] _
  refine g_seq ?_
  refine g_region ?_
  show G _ _ _ (.inRegion _ [0, 1, 2] :: _) _ _
  refine s_box hs rfl rfl (cs := ((encA (encI .i16)) a1)) rfl rfl ?_
  intro b3 w hs
  show G _ _ _ _ [_, _, _, _, _, _, _, _, _, _, _, _, _, _, _, _, _] _
  refine s_box hs rfl rfl (cs := ((encA (encI .i16)) a2)) rfl rfl ?_
  intro b5 w hs
  show G _ _ _ _ [_, _, _, _, _, _, _, _, _, _, _, _, _, _, _, _, _] _
  refine g_op (v := Value.bool false) rfl rfl rfl ?_
  show G _ _ _ _ [_, _, _, _, _, _, _, _, _, _, _, _, _, _, _, _, _] _
  refine g_ops_nil ?_
  refine g_seq ?_
  refine g_seq ?_
  refine g_region ?_
  show G _ _ _ (.inRegion _ [0] :: _) _ _
  refine g_op (v := Value.int .i64 0) rfl rfl rfl ?_
  show G _ _ _ _ [_, _, _, _, _, _, _, _, _, _, _, _, _, _, _, _, _] _
  refine g_ops_nil ?_
  obtain ⟨o1_, Ho, Hr1_⟩ := bind_get H
  refine g_block_join (J := fun t w => laws_eqTops.a0 N = some r ∧ Fr t (fun O => ([O 0, O 1, O 2, O 3, O 4, O 5, O 6, O 7, O 8, O 9, O 10, O 11, O 12, O 13, O 14, O 15, O 16] : List Value)) ∧ St w0 [] w) ?_ ?_
  ·
   rintro t w ⟨H, hf, hs⟩
   obtain ⟨O, rfl⟩ := hf.open
   show G _ _ _ _ [_, _, _, _, _, _, _, _, _, _, _, _, _, _, _, _, _] _
   unfold laws_eqTops.a0 at H
   refine g_seq ?_
   refine g_region ?_
   show G _ _ _ (.inRegion _ [0] :: _) _ _
   refine g_op (v := Value.bool true) rfl rfl rfl ?_
   show G _ _ _ _ [_, _, _, _, _, _, _, _, _, _, _, _, _, _, _, _, _] _
   refine g_ops_nil ?_
   obtain rfl := Option.some.inj H
   refine g_ret Tryd.func26 (v := Value.bool true) (res1 rfl rfl) ?_
   have hs : St _ [] _ := St.take (Γ' := []) hs
   exact ⟨_, rfl, rfl, hs⟩
  ·
   intro ha1_
   have hs := hs.pull 0 rfl
   have hs := hs.pull 1 rfl
   have hs : St _ [_, _] _ := St.take (Γ' := []) hs
   refine g_loop_fuel (I := fun n_ t w => ∃ x7 : Int, rounds (fun s => laws_eqTops.b0 N a1 a2 s) n_ x7 = some o1_ ∧ Fr t (fun O => ([O 0, O 1, Value.pointer (some ⟨b3, 0, none⟩), Value.pointer (some ⟨b5, 0, none⟩), O 4, Value.int .i64 x7, O 6, O 7, O 8, O 9, O 10, O 11, O 12, O 13, O 14, O 15, O 16] : List Value)) ∧ St w0 [Cells b3 ((encA (encI .i16)) a1) 49, Cells b5 ((encA (encI .i16)) a2) 49] w) N ⟨0, Ho, rfl, hs⟩ ?_ ?_
   ·
    rintro _ _ ⟨x7, h, _⟩
    exact rounds_zero h
   ·
    intro n_ ih1_
    rintro t w ⟨x7, Ho, hf, hs⟩
    obtain ⟨O, rfl⟩ := hf.open
    show G _ _ _ _ [_, _, _, _, _, _, _, _, _, _, _, _, _, _, _, _, _] _
    obtain ⟨x5_, H, Hx1_⟩ := rounds_succ Ho
    have H : laws_eqTops.b0 N a1 a2 x7 = some x5_ := H
    unfold laws_eqTops.b0 at H
    refine g_seq ?_
    refine g_seq ?_
    refine g_region ?_
    show G _ _ _ (.inRegion _ [0, 1] :: _) _ _
    refine g_op (v := Value.int .i64 x7) rfl rfl rfl ?_
    show G _ _ _ _ [_, _, _, _, _, _, _, _, _, _, _, _, _, _, _, _, _] _
    refine g_op_b (B := decide (x7 < 4)) rfl rfl rfl ?_ ?_
    ·
     intro hb
     rw [if_pos (b_dec_t hb)] at H
     show G _ _ _ _ [_, _, _, _, _, _, _, _, _, _, _, _, _, _, _, _, _] _
     refine g_ops_nil ?_
     refine g_cond_true rfl ?_
     refine g_skip ?_
     refine g_seq ?_
     refine g_block ?_
     refine g_seq ?_
     refine g_lay (n := 7) rfl [0, 1, 2, 3, 4, 5, 6] [0, 1, 2, 3, 4, 5, 6] rfl rfl ?_
     intro rest w hh hbw hO
     have hs := hs.samew hh hbw
     show G _ _ _ _ [_, _, _, _, _, _, _, _, _, _, _, _, _, _, _, _, _] _
     obtain ⟨gd2, H⟩ := ite_get H
     obtain ⟨gd3, H⟩ := ite_get H
     refine g_name ?_
     intro T hT
     refine g_layer (m0 := 0) hO rfl 63 [0, 1, 2, 3, 4, 5] [0, 1, 3, 0, 8, 24, 63] (by decide +kernel) (fun D t w => ∃ O : Nat → Value, t = [O 0, O 1, Value.pointer (some ⟨b3, 0, none⟩), Value.pointer (some ⟨b5, 0, none⟩), O 4, Value.int .i64 x7, Value.int .i64 x7, Value.bool true, O 8, O 9, cnd (D 0) (Value.int .i64 x7) (O 10), cnd (D 1) (Value.pointer (some ⟨b3, 0 + x7.toNat * 1, none⟩)) (O 11), cnd (D 2) (Value.int .i16 (a1.get x7 0)) (O 12), cnd (D 3) (Value.int .i64 x7) (O 13), cnd (D 4) (Value.pointer (some ⟨b5, 0 + x7.toNat * 1, none⟩)) (O 14), cnd (D 5) (Value.int .i16 (a2.get x7 0)) (O 15), O 16] ∧ St w0 [Cells b3 ((encA (encI .i16)) a1) 49, Cells b5 ((encA (encI .i16)) a2) 49] w) ?_ ⟨?_, ⟨?_, ⟨?_, ⟨?_, ⟨?_, ⟨?_, trivial⟩⟩⟩⟩⟩⟩ ?_
     · exact ⟨fun i => T.getD i undef, (by subst hT; rfl), hs⟩
     ·
      intro D t w hD hp hcl hI rest hk
      obtain ⟨O, ht, hs⟩ := hI
      have hp : AllDone D [] := hp
      have q1_ : D 1 = false := not_yet (show D 1 = true → AllDone D [0] from hcl 1 (by decide)) 0 0 rfl hD
      have q2_ : D 2 = false := not_yet (show D 2 = true → AllDone D [1] from hcl 2 (by decide)) 0 1 rfl q1_
      have u0_ : upd D 0 0 = true := rfl; have u1_ : upd D 0 1 = D 1 := rfl; have u2_ : upd D 0 2 = D 2 := rfl; have u3_ : upd D 0 3 = D 3 := rfl; have u4_ : upd D 0 4 = D 4 := rfl; have u5_ : upd D 0 5 = D 5 := rfl
      simp only [hD, q1_, q2_, cnd_t, cnd_f, Asc_t, Asc_f] at ht hs
      subst ht
      refine g_op (v := Value.int .i64 x7) rfl rfl rfl ?_
      show G _ _ _ _ [_, _, _, _, _, _, _, _, _, _, _, _, _, _, _, _, _] _
      exact hk _ _ ⟨O, (by simp only [u0_, u1_, u2_, u3_, u4_, u5_, q1_, q2_, cnd_t, cnd_f, Asc_t, Asc_f]), hs.cast (by first | rfl | simp only [List.take, List.drop, List.cons_append, List.nil_append, List.set_cons_zero, List.set_cons_succ, List.eraseIdx, u0_, u1_, u2_, u3_, u4_, u5_, q1_, q2_, cnd_t, cnd_f, Asc_t, Asc_f])⟩
     ·
      intro D t w hD hp hcl hI rest hk
      obtain ⟨O, ht, hs⟩ := hI
      have hp : AllDone D [0] := hp
      obtain ⟨p0_, _⟩ := hp
      have q2_ : D 2 = false := not_yet (show D 2 = true → AllDone D [1] from hcl 2 (by decide)) 0 1 rfl hD
      have u0_ : upd D 1 0 = D 0 := rfl; have u1_ : upd D 1 1 = true := rfl; have u2_ : upd D 1 2 = D 2 := rfl; have u3_ : upd D 1 3 = D 3 := rfl; have u4_ : upd D 1 4 = D 4 := rfl; have u5_ : upd D 1 5 = D 5 := rfl
      simp only [hD, p0_, q2_, cnd_t, cnd_f, Asc_t, Asc_f] at ht hs
      subst ht
      refine s_idxA (n := x7) (m := 1) rfl (fun _ => rfl) gd2.1 gd2.2 rfl rfl rfl rfl rfl ?_
      show G _ _ _ _ [_, _, _, _, _, _, _, _, _, _, _, _, _, _, _, _, _] _
      exact hk _ _ ⟨O, (by simp only [u0_, u1_, u2_, u3_, u4_, u5_, p0_, q2_, cnd_t, cnd_f, Asc_t, Asc_f]), hs.cast (by first | rfl | simp only [List.take, List.drop, List.cons_append, List.nil_append, List.set_cons_zero, List.set_cons_succ, List.eraseIdx, u0_, u1_, u2_, u3_, u4_, u5_, p0_, q2_, cnd_t, cnd_f, Asc_t, Asc_f])⟩
     ·
      intro D t w hD hp hcl hI rest hk
      obtain ⟨O, ht, hs⟩ := hI
      have hp : AllDone D [1] := hp
      obtain ⟨p1_, _⟩ := hp
      obtain ⟨p0_, _⟩ := (show D 1 = true → AllDone D [0] from hcl 1 (by decide)) p1_
      have u0_ : upd D 2 0 = D 0 := rfl; have u1_ : upd D 2 1 = D 1 := rfl; have u2_ : upd D 2 2 = true := rfl; have u3_ : upd D 2 3 = D 3 := rfl; have u4_ : upd D 2 4 = D 4 := rfl; have u5_ : upd D 2 5 = D 5 := rfl
      simp only [hD, p0_, p1_, cnd_t, cnd_f, Asc_t, Asc_f] at ht hs
      subst ht
      refine s_load1 rfl rfl (v := Value.int .i16 (a1.get x7 0)) rfl rfl (fun _ => rfl) (by rw [Nat.zero_add]; exact cells_load (hs.cells 0 rfl) _ _ (encA_at (fkI .i16).len _ _ 0 gd2.1 gd2.2)) ?_
      show G _ _ _ _ [_, _, _, _, _, _, _, _, _, _, _, _, _, _, _, _, _] _
      exact hk _ _ ⟨O, (by simp only [u0_, u1_, u2_, u3_, u4_, u5_, p0_, p1_, cnd_t, cnd_f, Asc_t, Asc_f]), hs.cast (by first | rfl | simp only [List.take, List.drop, List.cons_append, List.nil_append, List.set_cons_zero, List.set_cons_succ, List.eraseIdx, u0_, u1_, u2_, u3_, u4_, u5_, p0_, p1_, cnd_t, cnd_f, Asc_t, Asc_f])⟩
     ·
      intro D t w hD hp hcl hI rest hk
      obtain ⟨O, ht, hs⟩ := hI
      have hp : AllDone D [] := hp
      have q4_ : D 4 = false := not_yet (show D 4 = true → AllDone D [3] from hcl 4 (by decide)) 0 3 rfl hD
      have q5_ : D 5 = false := not_yet (show D 5 = true → AllDone D [4] from hcl 5 (by decide)) 0 4 rfl q4_
      have u0_ : upd D 3 0 = D 0 := rfl; have u1_ : upd D 3 1 = D 1 := rfl; have u2_ : upd D 3 2 = D 2 := rfl; have u3_ : upd D 3 3 = true := rfl; have u4_ : upd D 3 4 = D 4 := rfl; have u5_ : upd D 3 5 = D 5 := rfl
      simp only [hD, q4_, q5_, cnd_t, cnd_f, Asc_t, Asc_f] at ht hs
      subst ht
      refine g_op (v := Value.int .i64 x7) rfl rfl rfl ?_
      show G _ _ _ _ [_, _, _, _, _, _, _, _, _, _, _, _, _, _, _, _, _] _
      exact hk _ _ ⟨O, (by simp only [u0_, u1_, u2_, u3_, u4_, u5_, q4_, q5_, cnd_t, cnd_f, Asc_t, Asc_f]), hs.cast (by first | rfl | simp only [List.take, List.drop, List.cons_append, List.nil_append, List.set_cons_zero, List.set_cons_succ, List.eraseIdx, u0_, u1_, u2_, u3_, u4_, u5_, q4_, q5_, cnd_t, cnd_f, Asc_t, Asc_f])⟩
     ·
      intro D t w hD hp hcl hI rest hk
      obtain ⟨O, ht, hs⟩ := hI
      have hp : AllDone D [3] := hp
      obtain ⟨p3_, _⟩ := hp
      have q5_ : D 5 = false := not_yet (show D 5 = true → AllDone D [4] from hcl 5 (by decide)) 0 4 rfl hD
      have u0_ : upd D 4 0 = D 0 := rfl; have u1_ : upd D 4 1 = D 1 := rfl; have u2_ : upd D 4 2 = D 2 := rfl; have u3_ : upd D 4 3 = D 3 := rfl; have u4_ : upd D 4 4 = true := rfl; have u5_ : upd D 4 5 = D 5 := rfl
      simp only [hD, p3_, q5_, cnd_t, cnd_f, Asc_t, Asc_f] at ht hs
      subst ht
      refine s_idxA (n := x7) (m := 1) rfl (fun _ => rfl) gd3.1 gd3.2 rfl rfl rfl rfl rfl ?_
      show G _ _ _ _ [_, _, _, _, _, _, _, _, _, _, _, _, _, _, _, _, _] _
      exact hk _ _ ⟨O, (by simp only [u0_, u1_, u2_, u3_, u4_, u5_, p3_, q5_, cnd_t, cnd_f, Asc_t, Asc_f]), hs.cast (by first | rfl | simp only [List.take, List.drop, List.cons_append, List.nil_append, List.set_cons_zero, List.set_cons_succ, List.eraseIdx, u0_, u1_, u2_, u3_, u4_, u5_, p3_, q5_, cnd_t, cnd_f, Asc_t, Asc_f])⟩
     ·
      intro D t w hD hp hcl hI rest hk
      obtain ⟨O, ht, hs⟩ := hI
      have hp : AllDone D [4] := hp
      obtain ⟨p4_, _⟩ := hp
      obtain ⟨p3_, _⟩ := (show D 4 = true → AllDone D [3] from hcl 4 (by decide)) p4_
      have u0_ : upd D 5 0 = D 0 := rfl; have u1_ : upd D 5 1 = D 1 := rfl; have u2_ : upd D 5 2 = D 2 := rfl; have u3_ : upd D 5 3 = D 3 := rfl; have u4_ : upd D 5 4 = D 4 := rfl; have u5_ : upd D 5 5 = true := rfl
      simp only [hD, p3_, p4_, cnd_t, cnd_f, Asc_t, Asc_f] at ht hs
      subst ht
      refine s_load1 rfl rfl (v := Value.int .i16 (a2.get x7 0)) rfl rfl (fun _ => rfl) (by rw [Nat.zero_add]; exact cells_load (hs.cells 1 rfl) _ _ (encA_at (fkI .i16).len _ _ 0 gd3.1 gd3.2)) ?_
      show G _ _ _ _ [_, _, _, _, _, _, _, _, _, _, _, _, _, _, _, _, _] _
      exact hk _ _ ⟨O, (by simp only [u0_, u1_, u2_, u3_, u4_, u5_, p3_, p4_, cnd_t, cnd_f, Asc_t, Asc_f]), hs.cast (by first | rfl | simp only [List.take, List.drop, List.cons_append, List.nil_append, List.set_cons_zero, List.set_cons_succ, List.eraseIdx, u0_, u1_, u2_, u3_, u4_, u5_, p3_, p4_, cnd_t, cnd_f, Asc_t, Asc_f])⟩
     ·
      intro D t w rest hall hO1_ hI
      obtain ⟨O, ht, hs⟩ := hI
      have p0_ : D 0 = true := hall 0 (by decide) rfl
      have p1_ : D 1 = true := hall 1 (by decide) rfl
      have p2_ : D 2 = true := hall 2 (by decide) rfl
      have p3_ : D 3 = true := hall 3 (by decide) rfl
      have p4_ : D 4 = true := hall 4 (by decide) rfl
      have p5_ : D 5 = true := hall 5 (by decide) rfl
      simp only [p0_, p1_, p2_, p3_, p4_, p5_, cnd_t, cnd_f, Asc_t, Asc_f] at ht hs
      subst ht
      obtain ⟨rest, rfl, hO4_⟩ := ord_one (m := 63) hO1_ rfl 6 (m' := 127) (by decide +kernel) rfl
      clear hO1_
      refine g_op_b (B := (a1.get x7 0) != (a2.get x7 0)) rfl rfl rfl ?_ ?_
      ·
       intro hb
       rw [if_neg (b_bne_t hb)] at H
       show G _ _ _ _ [_, _, _, _, _, _, _, _, _, _, _, _, _, _, _, _, _] _
       obtain rfl := ord_end hO4_ rfl (by decide +kernel)
       refine g_ops_nil ?_
       refine g_cond_true rfl ?_
       refine g_seq ?_
       refine g_region ?_
       show G _ _ _ (.inRegion _ [0] :: _) _ _
       refine g_op (v := Value.bool false) rfl rfl rfl ?_
       show G _ _ _ _ [_, _, _, _, _, _, _, _, _, _, _, _, _, _, _, _, _] _
       refine g_ops_nil ?_
       obtain rfl := Option.some.inj H
       subst Hx1_
       have H := Option.some.inj Hr1_
       subst H
       refine g_ret Tryd.func26 (v := Value.bool false) (res1 rfl rfl) ?_
       have hs : St _ [] _ := St.take (Γ' := [_, _]) hs
       exact ⟨_, rfl, rfl, hs⟩
      ·
       intro hb
       rw [if_pos (b_bne_f hb)] at H
       show G _ _ _ _ [_, _, _, _, _, _, _, _, _, _, _, _, _, _, _, _, _] _
       obtain rfl := ord_end hO4_ rfl (by decide +kernel)
       refine g_ops_nil ?_
       refine g_cond_false rfl ?_
       refine g_skip ?_
       refine g_inBlock ?_
       refine g_region ?_
       show G _ _ _ (.inRegion _ [0, 1, 2] :: _) _ _
       refine g_op (v := Value.int .i64 x7) rfl rfl rfl ?_
       show G _ _ _ _ [_, _, _, _, _, _, _, _, _, _, _, _, _, _, _, _, _] _
       refine g_op (v := Value.int .i64 (i64w (x7 + 1))) rfl rfl rfl ?_
       show G _ _ _ _ [_, _, _, _, _, _, _, _, _, _, _, _, _, _, _, _, _] _
       refine g_op (v := Value.int .i64 (i64w (x7 + 1))) rfl rfl rfl ?_
       show G _ _ _ _ [_, _, _, _, _, _, _, _, _, _, _, _, _, _, _, _, _] _
       refine g_ops_nil ?_
       obtain rfl := Option.some.inj H
       have hs := hs.pull 1 rfl
       have hs := hs.pull 1 rfl
       have hs : St _ [_, _] _ := St.take (Γ' := []) hs
       exact ih1_ _ _ ⟨i64w (x7 + 1), Hx1_, rfl, hs⟩
    ·
     intro hb
     rw [if_neg (b_dec_f hb)] at H
     show G _ _ _ _ [_, _, _, _, _, _, _, _, _, _, _, _, _, _, _, _, _] _
     refine g_ops_nil ?_
     refine g_cond_false rfl ?_
     obtain rfl := Option.some.inj H
     subst Hx1_
     have hs : St _ [] _ := St.take (Γ' := [_, _]) hs
     refine g_exit rfl ?_
     exact ha1_ _ _ ⟨Hr1_, rfl, hs⟩

/- function 27 laws_markGlasses -/
def laws_markGlasses.post (wb : World) (Z : As) (v2 : Value) (r : (Int × (List Int))) (v : Value) (w : World) : Prop := v = Value.int .i64 r.1 ∧ St wb [Row 47 (K.int .i16) v2 r.2, Z] w
set_option maxHeartbeats 8000000 in
set_option maxRecDepth 100000 in
theorem laws_markGlasses.calls {N : Nat} {a1 : (List Int)} {a4 : Int} {v2 : Value} {wb : World} {Z : As} {w0 : World} {r : (Int × (List Int))} (hs : St wb [Row 47 (K.int .i16) v2 a1, Z] w0) (H : laws_markGlasses.f N a1 a4 = some r) :
    Calls Tryd.prog 27 #[v2, Value.int .i64 a4] w0 fun e w => ∃ v, e = .returned v ∧ laws_markGlasses.post wb Z v2 r v w := by
  unfold laws_markGlasses.f at H
  refine calls_of_g (n := 18) Tryd.func27 rfl rfl ?_
  show G _ _ _ _ [_, _, _, _, _, _, _, _, _, _, _, _, _, _, _, _, _, _, _, _] _
  refine g_seq ?_
  refine g_region ?_
  show G _ _ _ (.inRegion _ [0] :: _) _ _
  refine g_op (v := Value.int .i64 0) rfl rfl rfl ?_
  show G _ _ _ _ [_, _, _, _, _, _, _, _, _, _, _, _, _, _, _, _, _, _, _, _] _
  refine g_ops_nil ?_
  refine g_seq ?_
  refine g_seq ?_
  refine g_region ?_
  show G _ _ _ (.inRegion _ [0] :: _) _ _
  refine g_op (v := Value.int .i64 0) rfl rfl rfl ?_
  show G _ _ _ _ [_, _, _, _, _, _, _, _, _, _, _, _, _, _, _, _, _, _, _, _] _
  refine g_ops_nil ?_
  obtain ⟨o1_, Ho, Hr1_⟩ := bind_get H
  refine g_block_join (J := fun t w => ∃ x12 : Int, ∃ x13 : (List Int), laws_markGlasses.a0 N x12 x13 = some r ∧ Fr t (fun O => ([O 0, Value.int .i64 x12, O 2, O 3, O 4, O 5, O 6, O 7, O 8, O 9, O 10, O 11, O 12, O 13, O 14, O 15, O 16, O 17, O 18, O 19] : List Value)) ∧ St wb [Row 47 (K.int .i16) v2 x13, Z] w) ?_ ?_
  ·
   rintro t w ⟨x12, x13, H, hf, hs⟩
   obtain ⟨O, rfl⟩ := hf.open
   show G _ _ _ _ [_, _, _, _, _, _, _, _, _, _, _, _, _, _, _, _, _, _, _, _] _
   unfold laws_markGlasses.a0 at H
   refine g_seq ?_
   refine g_region ?_
   show G _ _ _ (.inRegion _ [0, 1] :: _) _ _
   refine g_op (v := Value.int .i64 x12) rfl rfl rfl ?_
   show G _ _ _ _ [_, _, _, _, _, _, _, _, _, _, _, _, _, _, _, _, _, _, _, _] _
   refine g_op (v := Value.int .i64 x12) rfl rfl rfl ?_
   show G _ _ _ _ [_, _, _, _, _, _, _, _, _, _, _, _, _, _, _, _, _, _, _, _] _
   refine g_ops_nil ?_
   obtain rfl := Option.some.inj H
   refine g_ret Tryd.func27 (v := Value.int .i64 x12) (res1 rfl rfl) ?_
   have hs := hs.pull 1 rfl
   have hs := hs.pull 1 rfl
   have hs : St _ [_, _] _ := St.take (Γ' := []) hs
   exact ⟨_, rfl, rfl, hs⟩
  ·
   intro ha1_
   have hs := hs.pull 1 rfl
   have hs := hs.pull 1 rfl
   have hs : St _ [_, _] _ := St.take (Γ' := []) hs
   refine g_loop_fuel (I := fun n_ t w => ∃ x8 : (List Int), ∃ x9 : Int, ∃ x10 : Int, rounds (fun s => laws_markGlasses.b0 N s.1 s.2.1 s.2.2) n_ (x8, x9, x10) = some o1_ ∧ Fr t (fun O => ([v2, Value.int .i64 x9, O 2, O 3, O 4, Value.int .i64 x10, O 6, O 7, O 8, O 9, O 10, O 11, O 12, O 13, O 14, O 15, O 16, O 17, O 18, O 19] : List Value)) ∧ St wb [Row 47 (K.int .i16) v2 x8, Z] w) N ⟨a1, a4, 0, Ho, rfl, hs⟩ ?_ ?_
   ·
    rintro _ _ ⟨x8, x9, x10, h, _⟩
    exact rounds_zero h
   ·
    intro n_ ih1_
    rintro t w ⟨x8, x9, x10, Ho, hf, hs⟩
    obtain ⟨O, rfl⟩ := hf.open
    show G _ _ _ _ [_, _, _, _, _, _, _, _, _, _, _, _, _, _, _, _, _, _, _, _] _
    obtain ⟨x3_, H, Hx1_⟩ := rounds_succ Ho
    have H : laws_markGlasses.b0 N x8 x9 x10 = some x3_ := H
    unfold laws_markGlasses.b0 at H
    refine g_seq ?_
    refine g_seq ?_
    refine g_region ?_
    show G _ _ _ (.inRegion _ [0, 1, 2, 3] :: _) _ _
    refine g_op (v := Value.int .i64 x10) rfl rfl rfl ?_
    show G _ _ _ _ [_, _, _, _, _, _, _, _, _, _, _, _, _, _, _, _, _, _, _, _] _
    refine g_op (v := v2) rfl rfl rfl ?_
    show G _ _ _ _ [_, _, _, _, _, _, _, _, _, _, _, _, _, _, _, _, _, _, _, _] _
    refine s_len (hs.row 0 rfl) rfl rfl rfl rfl rfl ?_
    show G _ _ _ _ [_, _, _, _, _, _, _, _, _, _, _, _, _, _, _, _, _, _, _, _] _
    refine g_op_b (B := decide (x10 < (x8.length : Int))) rfl rfl rfl ?_ ?_
    ·
     intro hb
     rw [if_pos (b_dec_t hb)] at H
     show G _ _ _ _ [_, _, _, _, _, _, _, _, _, _, _, _, _, _, _, _, _, _, _, _] _
     refine g_ops_nil ?_
     refine g_cond_true rfl ?_
     refine g_skip ?_
     refine g_seq ?_
     refine g_block ?_
     refine g_seq ?_
     refine g_region ?_
     show G _ _ _ (.inRegion _ [0, 1, 2, 3, 4, 5] :: _) _ _
     refine g_op (v := v2) rfl rfl rfl ?_
     show G _ _ _ _ [_, _, _, _, _, _, _, _, _, _, _, _, _, _, _, _, _, _, _, _] _
     refine g_op (v := Value.int .i64 x10) rfl rfl rfl ?_
     show G _ _ _ _ [_, _, _, _, _, _, _, _, _, _, _, _, _, _, _, _, _, _, _, _] _
     refine g_op (v := Value.int .i64 x9) rfl rfl rfl ?_
     show G _ _ _ _ [_, _, _, _, _, _, _, _, _, _, _, _, _, _, _, _, _, _, _, _] _
     refine g_op (v := Value.int .i16 (i16w x9)) rfl rfl rfl ?_
     show G _ _ _ _ [_, _, _, _, _, _, _, _, _, _, _, _, _, _, _, _, _, _, _, _] _
     obtain ⟨g2, H⟩ := ite_get H
     refine s_idx (fkI .i16) 0 (hs.row 0 rfl) rfl (fun _ => rfl) g2.1 g2.2 rfl rfl rfl rfl rfl ?_
     intro p11 hp11 lp11 op11
     show G _ _ _ _ [_, _, _, _, _, _, _, _, _, _, _, _, _, _, _, _, _, _, _, _] _
     refine s_stRow (y := i16w x9) (fkI .i16) g2.1 g2.2 op11 hs rfl rfl rfl rfl rfl (fun _ => rfl) ?_
     intro w hs
     refine g_ops_nil ?_
     refine g_region ?_
     show G _ _ _ (.inRegion _ [0, 1, 2] :: _) _ _
     refine g_op (v := Value.int .i64 x9) rfl rfl rfl ?_
     show G _ _ _ _ [_, _, _, _, _, _, _, _, _, _, _, _, _, _, _, _, _, _, _, _] _
     refine g_op (v := Value.int .i64 (i64w (x9 + 1))) rfl rfl rfl ?_
     show G _ _ _ _ [_, _, _, _, _, _, _, _, _, _, _, _, _, _, _, _, _, _, _, _] _
     refine g_op (v := Value.int .i64 (i64w (x9 + 1))) rfl rfl rfl ?_
     show G _ _ _ _ [_, _, _, _, _, _, _, _, _, _, _, _, _, _, _, _, _, _, _, _] _
     refine g_ops_nil ?_
     refine g_inBlock ?_
     refine g_region ?_
     show G _ _ _ (.inRegion _ [0, 1, 2] :: _) _ _
     refine g_op (v := Value.int .i64 x10) rfl rfl rfl ?_
     show G _ _ _ _ [_, _, _, _, _, _, _, _, _, _, _, _, _, _, _, _, _, _, _, _] _
     refine g_op (v := Value.int .i64 (i64w (x10 + 1))) rfl rfl rfl ?_
     show G _ _ _ _ [_, _, _, _, _, _, _, _, _, _, _, _, _, _, _, _, _, _, _, _] _
     refine g_op (v := Value.int .i64 (i64w (x10 + 1))) rfl rfl rfl ?_
     show G _ _ _ _ [_, _, _, _, _, _, _, _, _, _, _, _, _, _, _, _, _, _, _, _] _
     refine g_ops_nil ?_
     obtain rfl := Option.some.inj H
     have hs := hs.pull 1 rfl
     have hs := hs.pull 1 rfl
     have hs : St _ [_, _] _ := St.take (Γ' := []) hs
     exact ih1_ _ _ ⟨stL x8 x10 (i16w x9), i64w (x9 + 1), i64w (x10 + 1), Hx1_, rfl, hs⟩
    ·
     intro hb
     rw [if_neg (b_dec_f hb)] at H
     show G _ _ _ _ [_, _, _, _, _, _, _, _, _, _, _, _, _, _, _, _, _, _, _, _] _
     refine g_ops_nil ?_
     refine g_cond_false rfl ?_
     obtain rfl := Option.some.inj H
     subst Hx1_
     have hs := hs.pull 1 rfl
     have hs := hs.pull 1 rfl
     have hs : St _ [_, _] _ := St.take (Γ' := []) hs
     refine g_exit rfl ?_
     exact ha1_ _ _ ⟨x9, x8, Hr1_, rfl, hs⟩

end Go.Proofs.YtmjkeidcoonghaaDoorX
