/- Contracts, printed by gen.py. -/
import Derived.Test.YtcocgeodfbiehaaXC9
namespace Go.Proofs.YtcocgeodfbiehaaX
open Go Go.RowKit Go.Proofs
set_option linter.unusedVariables false
set_option linter.unusedSimpArgs false
/- function 24 laws_markCaseSA3 -/
def laws_markCaseSA3.post (wb : World) (Z : As) (v2 : Value) (v4 : Value) (v6 : Value) (r : (Int × (List S_impl_Case) × (List S_impl_Case) × (List S_impl_Case))) (v : Value) (w : World) : Prop := v = Value.int .i64 r.1 ∧ St wb [Row 84 k_S_impl_Case v2 r.2.1, Row 84 k_S_impl_Case v4 r.2.2.1, Row 84 k_S_impl_Case v6 r.2.2.2, Z] w
set_option maxHeartbeats 8000000 in
set_option maxRecDepth 100000 in
theorem laws_markCaseSA3.calls {N : Nat} {a1 : (Ar (List S_impl_Case) 3)} {a8 : Int} {v2 : Value} {v4 : Value} {v6 : Value} {wb : World} {Z : As} {w0 : World} {r : (Int × (List S_impl_Case) × (List S_impl_Case) × (List S_impl_Case))} (hs : St wb [Row 84 k_S_impl_Case v2 (a1.get 0 []), Row 84 k_S_impl_Case v4 (a1.get 1 []), Row 84 k_S_impl_Case v6 (a1.get 2 []), Z] w0) (H : laws_markCaseSA3.f N a1 a8 = some r) :
    Calls Try.prog 24 #[Value.agg (([v2, v4, v6] : List Value)).toArray, Value.int .i64 a8] w0 fun e w => ∃ v, e = .returned v ∧ laws_markCaseSA3.post wb Z v2 v4 v6 r v w := by
  unfold laws_markCaseSA3.f at H
  refine calls_of_g (n := 14) Try.func24 rfl rfl ?_
  show G _ _ _ _ [_, _, _, _, _, _, _, _, _, _, _, _, _, _, _, _] _
  refine g_seq ?_
  refine g_region ?_
  show G _ _ _ (.inRegion _ [0, 1] :: _) _ _
  refine s_box hs rfl rfl (cs := (([v2, v4, v6] : List Value))) rfl rfl ?_
  intro b9 w hs
  show G _ _ _ _ [_, _, _, _, _, _, _, _, _, _, _, _, _, _, _, _] _
  refine g_op (v := Value.int .i64 0) rfl rfl rfl ?_
  show G _ _ _ _ [_, _, _, _, _, _, _, _, _, _, _, _, _, _, _, _] _
  refine g_ops_nil ?_
  refine g_seq ?_
  refine g_seq ?_
  refine g_region ?_
  show G _ _ _ (.inRegion _ [0] :: _) _ _
  refine g_op (v := Value.int .i64 0) rfl rfl rfl ?_
  show G _ _ _ _ [_, _, _, _, _, _, _, _, _, _, _, _, _, _, _, _] _
  refine g_ops_nil ?_
  obtain ⟨o1_, Ho, Hr1_⟩ := bind_get H
  refine g_block_join (J := fun t w => ∃ x38 : Int, ∃ x39 : (List S_impl_Case), ∃ x41 : (List S_impl_Case), ∃ x43 : (List S_impl_Case), laws_markCaseSA3.a0 N x38 x39 x41 x43 = some r ∧ Fr t (fun O => ([O 0, Value.int .i64 x38, O 2, O 3, O 4, O 5, O 6, O 7, O 8, O 9, O 10, O 11, O 12, O 13, O 14, O 15] : List Value)) ∧ St wb [Row 84 k_S_impl_Case v2 x39, Row 84 k_S_impl_Case v4 x41, Row 84 k_S_impl_Case v6 x43, Z] w) ?_ ?_
  ·
   rintro t w ⟨x38, x39, x41, x43, H, hf, hs⟩
   obtain ⟨O, rfl⟩ := hf.open
   show G _ _ _ _ [_, _, _, _, _, _, _, _, _, _, _, _, _, _, _, _] _
   unfold laws_markCaseSA3.a0 at H
   refine g_seq ?_
   refine g_region ?_
   show G _ _ _ (.inRegion _ [0, 1] :: _) _ _
   refine g_op (v := Value.int .i64 x38) rfl rfl rfl ?_
   show G _ _ _ _ [_, _, _, _, _, _, _, _, _, _, _, _, _, _, _, _] _
   refine g_op (v := Value.int .i64 x38) rfl rfl rfl ?_
   show G _ _ _ _ [_, _, _, _, _, _, _, _, _, _, _, _, _, _, _, _] _
   refine g_ops_nil ?_
   obtain rfl := Option.some.inj H
   refine g_ret Try.func24 (v := Value.int .i64 x38) (res1 rfl rfl) ?_
   have hs := hs.pull 3 rfl
   have hs := hs.pull 3 rfl
   have hs := hs.pull 3 rfl
   have hs := hs.pull 3 rfl
   have hs : St _ [_, _, _, _] _ := St.take (Γ' := []) hs
   exact ⟨_, rfl, rfl, hs⟩
  ·
   intro ha1_
   have hs := hs.pull 4 rfl
   have hs := hs.pull 1 rfl
   have hs := hs.pull 4 rfl
   have hs := hs.pull 4 rfl
   have hs := hs.pull 4 rfl
   have hs : St _ [_, _, _, _, _] _ := St.take (Γ' := []) hs
   refine g_loop_fuel (I := fun n_ t w => ∃ x23 : Int, ∃ x24 : (List S_impl_Case), ∃ x25 : (List S_impl_Case), ∃ x26 : (List S_impl_Case), ∃ x27 : Int, rounds (fun s => laws_markCaseSA3.b0 N s.1 s.2.1 s.2.2.1 s.2.2.2.1 s.2.2.2.2) n_ (x23, x24, x25, x26, x27) = some o1_ ∧ Fr t (fun O => ([O 0, Value.int .i64 x23, Value.pointer (some ⟨b9, 0, none⟩), O 3, O 4, Value.int .i64 x27, O 6, O 7, O 8, O 9, O 10, O 11, O 12, O 13, O 14, O 15] : List Value)) ∧ St wb [Row 84 k_S_impl_Case v2 x24, Row 84 k_S_impl_Case v4 x25, Row 84 k_S_impl_Case v6 x26, Cells b9 (([v2, v4, v6] : List Value)) 47, Z] w) N ⟨a8, (a1.get 0 []), (a1.get 1 []), (a1.get 2 []), 0, Ho, rfl, hs⟩ ?_ ?_
   ·
    rintro _ _ ⟨x23, x24, x25, x26, x27, h, _⟩
    exact rounds_zero h
   ·
    intro n_ ih1_
    rintro t w ⟨x23, x24, x25, x26, x27, Ho, hf, hs⟩
    obtain ⟨O, rfl⟩ := hf.open
    show G _ _ _ _ [_, _, _, _, _, _, _, _, _, _, _, _, _, _, _, _] _
    obtain ⟨x7_, H, Hx1_⟩ := rounds_succ Ho
    have H : laws_markCaseSA3.b0 N x23 x24 x25 x26 x27 = some x7_ := H
    unfold laws_markCaseSA3.b0 at H
    refine g_seq ?_
    refine g_seq ?_
    refine g_region ?_
    show G _ _ _ (.inRegion _ [0, 1] :: _) _ _
    refine g_op (v := Value.int .i64 x27) rfl rfl rfl ?_
    show G _ _ _ _ [_, _, _, _, _, _, _, _, _, _, _, _, _, _, _, _] _
    refine g_op_b (B := decide (x27 < 3)) rfl rfl rfl ?_ ?_
    ·
     intro hb
     rw [if_pos (b_dec_t hb)] at H
     show G _ _ _ _ [_, _, _, _, _, _, _, _, _, _, _, _, _, _, _, _] _
     refine g_ops_nil ?_
     refine g_cond_true rfl ?_
     refine g_skip ?_
     refine g_seq ?_
     refine g_block_join (J := (fun t w => ∃ x31 : Int, ∃ x32 : (List S_impl_Case), ∃ x34 : (List S_impl_Case), ∃ x36 : (List S_impl_Case), laws_markCaseSA3.j2 N x27 x31 x32 x34 x36 = some x7_ ∧ Fr t (fun O => ([O 0, Value.int .i64 x31, Value.pointer (some ⟨b9, 0, none⟩), O 3, O 4, Value.int .i64 x27, O 6, O 7, O 8, O 9, O 10, O 11, O 12, O 13, O 14, O 15] : List Value)) ∧ St wb [Cells b9 (([v2, v4, v6] : List Value)) 47, Row 84 k_S_impl_Case v2 x32, Row 84 k_S_impl_Case v4 x34, Row 84 k_S_impl_Case v6 x36, Z] w)) ?_ ?_
     ·
      rintro t w ⟨x31, x32, x34, x36, H, hf, hs⟩
      obtain ⟨O, rfl⟩ := hf.open
      show G _ _ _ _ [_, _, _, _, _, _, _, _, _, _, _, _, _, _, _, _] _
      unfold laws_markCaseSA3.j2 at H
      refine g_region ?_
      show G _ _ _ (.inRegion _ [0, 1, 2] :: _) _ _
      refine g_op (v := Value.int .i64 x27) rfl rfl rfl ?_
      show G _ _ _ _ [_, _, _, _, _, _, _, _, _, _, _, _, _, _, _, _] _
      refine g_op (v := Value.int .i64 (i64w (x27 + 1))) rfl rfl rfl ?_
      show G _ _ _ _ [_, _, _, _, _, _, _, _, _, _, _, _, _, _, _, _] _
      refine g_op (v := Value.int .i64 (i64w (x27 + 1))) rfl rfl rfl ?_
      show G _ _ _ _ [_, _, _, _, _, _, _, _, _, _, _, _, _, _, _, _] _
      refine g_ops_nil ?_
      obtain rfl := Option.some.inj H
      have hs := hs.pull 4 rfl
      have hs := hs.pull 1 rfl
      have hs := hs.pull 4 rfl
      have hs := hs.pull 4 rfl
      have hs := hs.pull 4 rfl
      have hs : St _ [_, _, _, _, _] _ := St.take (Γ' := []) hs
      exact ih1_ _ _ ⟨x31, x32, x34, x36, i64w (x27 + 1), Hx1_, rfl, hs⟩
     ·
      intro ha
      by_cases hk4_ : x27 = 0
      ·
       rw [if_pos hk4_] at H
       refine g_region ?_
       show G _ _ _ (.inRegion _ [0, 1, 2, 3, 4, 5] :: _) _ _
       refine g_op (v := Value.int .i64 x27) rfl rfl rfl ?_
       show G _ _ _ _ [_, _, _, _, _, _, _, _, _, _, _, _, _, _, _, _] _
       refine s_idxJ (m := 1) 0 hk4_ (by decide) rfl (fun _ => rfl) rfl rfl rfl rfl rfl ?_
       show G _ _ _ _ [_, _, _, _, _, _, _, _, _, _, _, _, _, _, _, _] _
       refine s_load1 rfl rfl (v := v2) rfl rfl (fun _ => rfl) (cells_load (hs.cells 3 rfl) 0 1 rfl) ?_
       show G _ _ _ _ [_, _, _, _, _, _, _, _, _, _, _, _, _, _, _, _] _
       refine g_op (v := Value.int .i64 x23) rfl rfl rfl ?_
       show G _ _ _ _ [_, _, _, _, _, _, _, _, _, _, _, _, _, _, _, _] _
       obtain ⟨r28, Hr28, H⟩ := bind_get H
       have hs := hs.pull 0 rfl
       have hs : St _ [_, _, _, _, _] _ := hs
       have hs := hs.pack 1
       refine s_call (args := [v2, Value.int .i64 x23]) rfl rfl (x_call rfl (callFunc_enter Try.func23 rfl rfl) rfl) (laws_markCaseS.calls (a1 := x24) (a4 := x23) hs Hr28) ?_
       rintro _ w ⟨rfl, hs⟩
       have hs := St.unpack (Γ := [_]) hs
       have hs : St _ [_, _, _, _, _] _ := hs
       show G _ _ _ _ [_, _, _, _, _, _, _, _, _, _, _, _, _, _, _, _] _
       refine g_op (v := Value.int .i64 r28.1) rfl rfl rfl ?_
       show G _ _ _ _ [_, _, _, _, _, _, _, _, _, _, _, _, _, _, _, _] _
       refine g_ops_nil ?_
       refine g_inBlock ?_
       have hs := hs.pull 4 rfl
       have hs := hs.pull 3 rfl
       have hs := hs.pull 3 rfl
       have hs := hs.pull 3 rfl
       have hs := hs.pull 4 rfl
       have hs : St _ [_, _, _, _, _] _ := St.take (Γ' := []) hs
       exact ha _ _ ⟨r28.1, r28.2, x25, x26, H, rfl, hs⟩
      ·
       rw [if_neg hk4_] at H
       by_cases hk5_ : x27 = 1
       ·
        rw [if_pos hk5_] at H
        refine g_region ?_
        show G _ _ _ (.inRegion _ [0, 1, 2, 3, 4, 5] :: _) _ _
        refine g_op (v := Value.int .i64 x27) rfl rfl rfl ?_
        show G _ _ _ _ [_, _, _, _, _, _, _, _, _, _, _, _, _, _, _, _] _
        refine s_idxJ (m := 1) 1 hk5_ (by decide) rfl (fun _ => rfl) rfl rfl rfl rfl rfl ?_
        show G _ _ _ _ [_, _, _, _, _, _, _, _, _, _, _, _, _, _, _, _] _
        refine s_load1 rfl rfl (v := v4) rfl rfl (fun _ => rfl) (cells_load (hs.cells 3 rfl) 1 1 rfl) ?_
        show G _ _ _ _ [_, _, _, _, _, _, _, _, _, _, _, _, _, _, _, _] _
        refine g_op (v := Value.int .i64 x23) rfl rfl rfl ?_
        show G _ _ _ _ [_, _, _, _, _, _, _, _, _, _, _, _, _, _, _, _] _
        obtain ⟨r29, Hr29, H⟩ := bind_get H
        have hs := hs.pull 1 rfl
        have hs : St _ [_, _, _, _, _] _ := hs
        have hs := hs.pack 1
        refine s_call (args := [v4, Value.int .i64 x23]) rfl rfl (x_call rfl (callFunc_enter Try.func23 rfl rfl) rfl) (laws_markCaseS.calls (a1 := x25) (a4 := x23) hs Hr29) ?_
        rintro _ w ⟨rfl, hs⟩
        have hs := St.unpack (Γ := [_]) hs
        have hs : St _ [_, _, _, _, _] _ := hs
        show G _ _ _ _ [_, _, _, _, _, _, _, _, _, _, _, _, _, _, _, _] _
        refine g_op (v := Value.int .i64 r29.1) rfl rfl rfl ?_
        show G _ _ _ _ [_, _, _, _, _, _, _, _, _, _, _, _, _, _, _, _] _
        refine g_ops_nil ?_
        refine g_inBlock ?_
        have hs := hs.pull 4 rfl
        have hs := hs.pull 3 rfl
        have hs := hs.pull 2 rfl
        have hs := hs.pull 3 rfl
        have hs := hs.pull 4 rfl
        have hs : St _ [_, _, _, _, _] _ := St.take (Γ' := []) hs
        exact ha _ _ ⟨r29.1, x24, r29.2, x26, H, rfl, hs⟩
       ·
        rw [if_neg hk5_] at H
        by_cases hk6_ : x27 = 2
        ·
         rw [if_pos hk6_] at H
         refine g_region ?_
         show G _ _ _ (.inRegion _ [0, 1, 2, 3, 4, 5] :: _) _ _
         refine g_op (v := Value.int .i64 x27) rfl rfl rfl ?_
         show G _ _ _ _ [_, _, _, _, _, _, _, _, _, _, _, _, _, _, _, _] _
         refine s_idxJ (m := 1) 2 hk6_ (by decide) rfl (fun _ => rfl) rfl rfl rfl rfl rfl ?_
         show G _ _ _ _ [_, _, _, _, _, _, _, _, _, _, _, _, _, _, _, _] _
         refine s_load1 rfl rfl (v := v6) rfl rfl (fun _ => rfl) (cells_load (hs.cells 3 rfl) 2 1 rfl) ?_
         show G _ _ _ _ [_, _, _, _, _, _, _, _, _, _, _, _, _, _, _, _] _
         refine g_op (v := Value.int .i64 x23) rfl rfl rfl ?_
         show G _ _ _ _ [_, _, _, _, _, _, _, _, _, _, _, _, _, _, _, _] _
         obtain ⟨r30, Hr30, H⟩ := bind_get H
         have hs := hs.pull 2 rfl
         have hs : St _ [_, _, _, _, _] _ := hs
         have hs := hs.pack 1
         refine s_call (args := [v6, Value.int .i64 x23]) rfl rfl (x_call rfl (callFunc_enter Try.func23 rfl rfl) rfl) (laws_markCaseS.calls (a1 := x26) (a4 := x23) hs Hr30) ?_
         rintro _ w ⟨rfl, hs⟩
         have hs := St.unpack (Γ := [_]) hs
         have hs : St _ [_, _, _, _, _] _ := hs
         show G _ _ _ _ [_, _, _, _, _, _, _, _, _, _, _, _, _, _, _, _] _
         refine g_op (v := Value.int .i64 r30.1) rfl rfl rfl ?_
         show G _ _ _ _ [_, _, _, _, _, _, _, _, _, _, _, _, _, _, _, _] _
         refine g_ops_nil ?_
         refine g_inBlock ?_
         have hs := hs.pull 4 rfl
         have hs := hs.pull 1 rfl
         have hs := hs.pull 3 rfl
         have hs := hs.pull 3 rfl
         have hs := hs.pull 4 rfl
         have hs : St _ [_, _, _, _, _] _ := St.take (Γ' := []) hs
         exact ha _ _ ⟨r30.1, x24, x25, r30.2, H, rfl, hs⟩
        ·
         rw [if_neg hk6_] at H
         cases H
    ·
     intro hb
     rw [if_neg (b_dec_f hb)] at H
     show G _ _ _ _ [_, _, _, _, _, _, _, _, _, _, _, _, _, _, _, _] _
     refine g_ops_nil ?_
     refine g_cond_false rfl ?_
     obtain rfl := Option.some.inj H
     subst Hx1_
     have hs := hs.pull 4 rfl
     have hs := hs.pull 3 rfl
     have hs := hs.pull 3 rfl
     have hs := hs.pull 3 rfl
     have hs : St _ [_, _, _, _] _ := St.take (Γ' := [_]) hs
     refine g_exit rfl ?_
     exact ha1_ _ _ ⟨x23, x24, x25, x26, Hr1_, rfl, hs⟩

/- function 51 laws_heldCaseS -/
def laws_heldCaseS.post (w0 : World) (r : Int) (v : Value) (w : World) : Prop := v = Value.int .i64 r ∧ St w0 [] w
set_option maxHeartbeats 8000000 in
set_option maxRecDepth 100000 in
theorem laws_heldCaseS.calls {N : Nat} {a1 : (List S_impl_Case)} {a3 : Int} {v2 : Value} {w0 : World} {r : Int} (hr0 : RdRow k_S_impl_Case w0 v2 a1) (H : laws_heldCaseS.f N a1 a3 = some r) :
    Calls Try.prog 51 #[v2, Value.int .i64 a3] w0 fun e w => ∃ v, e = .returned v ∧ laws_heldCaseS.post w0 r v w := by
  unfold laws_heldCaseS.f at H
  have hs : St w0 [] w0 := St.refl w0
  refine calls_of_g (n := 32) Try.func51 rfl rfl ?_
  show G _ _ _ _ [_, _, _, _, _, _, _, _, _, _, _, _, _, _, _, _, _, _, _, _, _, _, _, _, _, _, _, _, _, _, _, _, _, _] _
  refine g_seq ?_
  refine g_region ?_
  show G _ _ _ (.inRegion _ [0] :: _) _ _
  refine g_op (v := Value.int .i64 0) rfl rfl rfl ?_
  show G _ _ _ _ [_, _, _, _, _, _, _, _, _, _, _, _, _, _, _, _, _, _, _, _, _, _, _, _, _, _, _, _, _, _, _, _, _, _] _
  refine g_ops_nil ?_
  refine g_seq ?_
  refine g_seq ?_
  refine g_region ?_
  show G _ _ _ (.inRegion _ [0] :: _) _ _
  refine g_op (v := Value.int .i64 0) rfl rfl rfl ?_
  show G _ _ _ _ [_, _, _, _, _, _, _, _, _, _, _, _, _, _, _, _, _, _, _, _, _, _, _, _, _, _, _, _, _, _, _, _, _, _] _
  refine g_ops_nil ?_
  obtain ⟨o1_, Ho, Hr1_⟩ := bind_get H
  refine g_block_join (J := fun t w => ∃ x8 : Int, laws_heldCaseS.a0 N x8 = some r ∧ Fr t (fun O => ([O 0, Value.int .i64 x8, O 2, O 3, O 4, O 5, O 6, O 7, O 8, O 9, O 10, O 11, O 12, O 13, O 14, O 15, O 16, O 17, O 18, O 19, O 20, O 21, O 22, O 23, O 24, O 25, O 26, O 27, O 28, O 29, O 30, O 31, O 32, O 33] : List Value)) ∧ St w0 [] w) ?_ ?_
  ·
   rintro t w ⟨x8, H, hf, hs⟩
   obtain ⟨O, rfl⟩ := hf.open
   show G _ _ _ _ [_, _, _, _, _, _, _, _, _, _, _, _, _, _, _, _, _, _, _, _, _, _, _, _, _, _, _, _, _, _, _, _, _, _] _
   unfold laws_heldCaseS.a0 at H
   refine g_seq ?_
   refine g_region ?_
   show G _ _ _ (.inRegion _ [0, 1] :: _) _ _
   refine g_op (v := Value.int .i64 x8) rfl rfl rfl ?_
   refine g_op (v := Value.int .i64 x8) rfl rfl rfl ?_
   show G _ _ _ _ [_, _, _, _, _, _, _, _, _, _, _, _, _, _, _, _, _, _, _, _, _, _, _, _, _, _, _, _, _, _, _, _, _, _] _
   refine g_ops_nil ?_
   obtain rfl := Option.some.inj H
   refine g_ret Try.func51 (v := Value.int .i64 x8) (res1 rfl rfl) ?_
   have hs : St _ [] _ := St.take (Γ' := []) hs
   exact ⟨_, rfl, rfl, hs⟩
  ·
   intro ha1_
   have hs : St _ [] _ := St.take (Γ' := []) hs
   refine g_loop_fuel (I := fun n_ t w => ∃ x4 : Int, ∃ x5 : Int, rounds (fun s => laws_heldCaseS.b0 N a1 s.1 s.2) n_ (x4, x5) = some o1_ ∧ Fr t (fun O => ([v2, Value.int .i64 x4, O 2, O 3, O 4, Value.int .i64 x5, O 6, O 7, O 8, O 9, O 10, O 11, O 12, O 13, O 14, O 15, O 16, O 17, O 18, O 19, O 20, O 21, O 22, O 23, O 24, O 25, O 26, O 27, O 28, O 29, O 30, O 31, O 32, O 33] : List Value)) ∧ St w0 [] w) N ⟨a3, 0, Ho, rfl, hs⟩ ?_ ?_
   ·
    rintro _ _ ⟨x4, x5, h, _⟩
    exact rounds_zero h
   ·
    intro n_ ih1_
    rintro t w ⟨x4, x5, Ho, hf, hs⟩
    obtain ⟨O, rfl⟩ := hf.open
    show G _ _ _ _ [_, _, _, _, _, _, _, _, _, _, _, _, _, _, _, _, _, _, _, _, _, _, _, _, _, _, _, _, _, _, _, _, _, _] _
    obtain ⟨x3_, H, Hx1_⟩ := rounds_succ Ho
    have H : laws_heldCaseS.b0 N a1 x4 x5 = some x3_ := H
    unfold laws_heldCaseS.b0 at H
    refine g_seq ?_
    refine g_seq ?_
    refine g_region ?_
    show G _ _ _ (.inRegion _ [0, 1, 2, 3] :: _) _ _
    refine g_op (v := Value.int .i64 x5) rfl rfl rfl ?_
    refine g_op (v := v2) rfl rfl rfl ?_
    refine s_len (hs.rd hr0) rfl rfl rfl rfl rfl ?_
    show G _ _ _ _ [_, _, _, _, _, _, _, _, _, _, _, _, _, _, _, _, _, _, _, _, _, _, _, _, _, _, _, _, _, _, _, _, _, _] _
    refine g_op_b (B := decide (x5 < (a1.length : Int))) rfl rfl rfl ?_ ?_
    ·
     intro hb
     rw [if_pos (b_dec_t hb)] at H
     show G _ _ _ _ [_, _, _, _, _, _, _, _, _, _, _, _, _, _, _, _, _, _, _, _, _, _, _, _, _, _, _, _, _, _, _, _, _, _] _
     refine g_ops_nil ?_
     refine g_cond_true rfl ?_
     refine g_skip ?_
     refine g_seq ?_
     refine g_block ?_
     refine g_seq ?_
     refine g_seq ?_
     refine g_region ?_
     show G _ _ _ (.inRegion _ [0, 1, 2, 3, 4, 5, 6, 7] :: _) _ _
     refine g_op (v := v2) rfl rfl rfl ?_
     refine g_op (v := Value.int .i64 x5) rfl rfl rfl ?_
     obtain ⟨g1, H⟩ := ite_get H
     refine s_idx fk_S_impl_Case z_S_impl_Case (hs.rd hr0) rfl (fun _ => rfl) g1.1 g1.2 rfl rfl rfl rfl rfl ?_
     intro p6 hp6 lp6 op6
     show G _ _ _ _ [_, _, _, _, _, _, _, _, _, _, _, _, _, _, _, _, _, _, _, _, _, _, _, _, _, _, _, _, _, _, _, _, _, _] _
     refine g_op (v := Value.pointer (some (p6.add 0))) rfl rfl (x_fieldAt rfl rfl rfl rfl rfl (m := 1) (fun _ => rfl) (by decide)) ?_
     refine s_load1 rfl rfl (v := Value.int .i8 ((rdL a1 x5 z_S_impl_Case).f_Coin)) rfl rfl (fun _ => rfl) (CellsAt.sub hp6 0 1 (by first | rfl | (simp [List.drop_append, List.take_append, encA_len]))) ?_
     show G _ _ _ _ [_, _, _, _, _, _, _, _, _, _, _, _, _, _, _, _, _, _, _, _, _, _, _, _, _, _, _, _, _, _, _, _, _, _] _
     refine g_op (v := Value.int .i64 x4) rfl rfl rfl ?_
     refine g_op (v := Value.int .i8 (i8w x4)) rfl rfl rfl ?_
     refine g_op_b (B := ((rdL a1 x5 z_S_impl_Case).f_Coin) != (i8w x4)) rfl rfl rfl ?_ ?_
     ·
      intro hb
      rw [if_neg (b_bne_t hb)] at H
      show G _ _ _ _ [_, _, _, _, _, _, _, _, _, _, _, _, _, _, _, _, _, _, _, _, _, _, _, _, _, _, _, _, _, _, _, _, _, _] _
      refine g_ops_nil ?_
      refine g_cond_true rfl ?_
      refine g_seq ?_
      refine g_region ?_
      show G _ _ _ (.inRegion _ [0] :: _) _ _
      refine g_op (v := Value.int .i64 (-1)) rfl rfl rfl ?_
      show G _ _ _ _ [_, _, _, _, _, _, _, _, _, _, _, _, _, _, _, _, _, _, _, _, _, _, _, _, _, _, _, _, _, _, _, _, _, _] _
      refine g_ops_nil ?_
      obtain rfl := Option.some.inj H
      subst Hx1_
      have H := Option.some.inj Hr1_
      subst H
      refine g_ret Try.func51 (v := Value.int .i64 (-1)) (res1 rfl rfl) ?_
      have hs : St _ [] _ := St.take (Γ' := []) hs
      exact ⟨_, rfl, rfl, hs⟩
     ·
      intro hb
      rw [if_pos (b_bne_f hb)] at H
      show G _ _ _ _ [_, _, _, _, _, _, _, _, _, _, _, _, _, _, _, _, _, _, _, _, _, _, _, _, _, _, _, _, _, _, _, _, _, _] _
      refine g_ops_nil ?_
      refine g_cond_false rfl ?_
      refine g_skip ?_
      refine g_seq ?_
      refine g_region ?_
      show G _ _ _ (.inRegion _ [0, 1, 2] :: _) _ _
      refine g_op (v := Value.int .i64 x4) rfl rfl rfl ?_
      refine g_op (v := Value.int .i64 (i64w (x4 + 1))) rfl rfl rfl ?_
      show G _ _ _ _ [_, _, _, _, _, _, _, _, _, _, _, _, _, _, _, _, _, _, _, _, _, _, _, _, _, _, _, _, _, _, _, _, _, _] _
      refine g_op (v := Value.int .i64 (i64w (x4 + 1))) rfl rfl rfl ?_
      show G _ _ _ _ [_, _, _, _, _, _, _, _, _, _, _, _, _, _, _, _, _, _, _, _, _, _, _, _, _, _, _, _, _, _, _, _, _, _] _
      refine g_ops_nil ?_
      refine g_seq ?_
      refine g_seq ?_
      refine g_region ?_
      show G _ _ _ (.inRegion _ [0, 1, 2, 3, 4, 5, 6, 7, 8] :: _) _ _
      refine g_op (v := v2) rfl rfl rfl ?_
      refine g_op (v := Value.int .i64 x5) rfl rfl rfl ?_
      obtain ⟨g2, H⟩ := ite_get H
      refine s_idx fk_S_impl_Case z_S_impl_Case (hs.rd hr0) rfl (fun _ => rfl) g2.1 g2.2 rfl rfl rfl rfl rfl ?_
      intro p7 hp7 lp7 op7
      show G _ _ _ _ [_, _, _, _, _, _, _, _, _, _, _, _, _, _, _, _, _, _, _, _, _, _, _, _, _, _, _, _, _, _, _, _, _, _] _
      refine g_op (v := Value.pointer (some (p7.add 1))) rfl rfl (x_fieldAt rfl rfl rfl rfl rfl (m := 1) (fun _ => rfl) (by decide)) ?_
      refine s_load1 rfl rfl (v := Value.bool ((rdL a1 x5 z_S_impl_Case).f_Heavy)) rfl rfl (fun _ => rfl) (CellsAt.sub hp7 1 1 (by first | rfl | (simp [List.drop_append, List.take_append, encA_len]))) ?_
      show G _ _ _ _ [_, _, _, _, _, _, _, _, _, _, _, _, _, _, _, _, _, _, _, _, _, _, _, _, _, _, _, _, _, _, _, _, _, _] _
      refine g_op (v := Value.int .i64 (i64w (x4 + 1))) rfl rfl rfl ?_
      refine g_op (v := Value.int .i64 ((i64w (x4 + 1)).tmod 3)) rfl rfl rfl ?_
      show G _ _ _ _ [_, _, _, _, _, _, _, _, _, _, _, _, _, _, _, _, _, _, _, _, _, _, _, _, _, _, _, _, _, _, _, _, _, _] _
      refine g_op (v := Value.bool (((i64w (x4 + 1)).tmod 3) == 0)) rfl rfl rfl ?_
      show G _ _ _ _ [_, _, _, _, _, _, _, _, _, _, _, _, _, _, _, _, _, _, _, _, _, _, _, _, _, _, _, _, _, _, _, _, _, _] _
      refine g_op_b (B := ((rdL a1 x5 z_S_impl_Case).f_Heavy) != (((i64w (x4 + 1)).tmod 3) == 0)) rfl rfl rfl ?_ ?_
      ·
       intro hb
       rw [if_neg (b_bne_t hb)] at H
       show G _ _ _ _ [_, _, _, _, _, _, _, _, _, _, _, _, _, _, _, _, _, _, _, _, _, _, _, _, _, _, _, _, _, _, _, _, _, _] _
       refine g_ops_nil ?_
       refine g_cond_true rfl ?_
       refine g_seq ?_
       refine g_region ?_
       show G _ _ _ (.inRegion _ [0] :: _) _ _
       refine g_op (v := Value.int .i64 (-1)) rfl rfl rfl ?_
       show G _ _ _ _ [_, _, _, _, _, _, _, _, _, _, _, _, _, _, _, _, _, _, _, _, _, _, _, _, _, _, _, _, _, _, _, _, _, _] _
       refine g_ops_nil ?_
       obtain rfl := Option.some.inj H
       subst Hx1_
       have H := Option.some.inj Hr1_
       subst H
       refine g_ret Try.func51 (v := Value.int .i64 (-1)) (res1 rfl rfl) ?_
       have hs : St _ [] _ := St.take (Γ' := []) hs
       exact ⟨_, rfl, rfl, hs⟩
      ·
       intro hb
       rw [if_pos (b_bne_f hb)] at H
       show G _ _ _ _ [_, _, _, _, _, _, _, _, _, _, _, _, _, _, _, _, _, _, _, _, _, _, _, _, _, _, _, _, _, _, _, _, _, _] _
       refine g_ops_nil ?_
       refine g_cond_false rfl ?_
       refine g_skip ?_
       refine g_region ?_
       show G _ _ _ (.inRegion _ [0, 1, 2] :: _) _ _
       refine g_op (v := Value.int .i64 (i64w (x4 + 1))) rfl rfl rfl ?_
       refine g_op (v := Value.int .i64 (i64w ((i64w (x4 + 1)) + 1))) rfl rfl rfl ?_
       show G _ _ _ _ [_, _, _, _, _, _, _, _, _, _, _, _, _, _, _, _, _, _, _, _, _, _, _, _, _, _, _, _, _, _, _, _, _, _] _
       refine g_op (v := Value.int .i64 (i64w ((i64w (x4 + 1)) + 1))) rfl rfl rfl ?_
       show G _ _ _ _ [_, _, _, _, _, _, _, _, _, _, _, _, _, _, _, _, _, _, _, _, _, _, _, _, _, _, _, _, _, _, _, _, _, _] _
       refine g_ops_nil ?_
       refine g_inBlock ?_
       refine g_region ?_
       show G _ _ _ (.inRegion _ [0, 1, 2] :: _) _ _
       refine g_op (v := Value.int .i64 x5) rfl rfl rfl ?_
       refine g_op (v := Value.int .i64 (i64w (x5 + 1))) rfl rfl rfl ?_
       show G _ _ _ _ [_, _, _, _, _, _, _, _, _, _, _, _, _, _, _, _, _, _, _, _, _, _, _, _, _, _, _, _, _, _, _, _, _, _] _
       refine g_op (v := Value.int .i64 (i64w (x5 + 1))) rfl rfl rfl ?_
       show G _ _ _ _ [_, _, _, _, _, _, _, _, _, _, _, _, _, _, _, _, _, _, _, _, _, _, _, _, _, _, _, _, _, _, _, _, _, _] _
       refine g_ops_nil ?_
       obtain rfl := Option.some.inj H
       have hs : St _ [] _ := St.take (Γ' := []) hs
       exact ih1_ _ _ ⟨i64w ((i64w (x4 + 1)) + 1), i64w (x5 + 1), Hx1_, rfl, hs⟩
    ·
     intro hb
     rw [if_neg (b_dec_f hb)] at H
     show G _ _ _ _ [_, _, _, _, _, _, _, _, _, _, _, _, _, _, _, _, _, _, _, _, _, _, _, _, _, _, _, _, _, _, _, _, _, _] _
     refine g_ops_nil ?_
     refine g_cond_false rfl ?_
     obtain rfl := Option.some.inj H
     subst Hx1_
     have hs : St _ [] _ := St.take (Γ' := []) hs
     refine g_exit rfl ?_
     exact ha1_ _ _ ⟨x4, Hr1_, rfl, hs⟩

/- function 25 laws_heldCaseSA3 -/
def laws_heldCaseSA3.post (w0 : World) (r : Int) (v : Value) (w : World) : Prop := v = Value.int .i64 r ∧ St w0 [] w
set_option maxHeartbeats 8000000 in
set_option maxRecDepth 100000 in
theorem laws_heldCaseSA3.calls {N : Nat} {a1 : (Ar (List S_impl_Case) 3)} {a8 : Int} {v2 : Value} {v4 : Value} {v6 : Value} {w0 : World} {r : Int} (hr3 : RdRow k_S_impl_Case w0 v2 (a1.get 0 [])) (hr5 : RdRow k_S_impl_Case w0 v4 (a1.get 1 [])) (hr7 : RdRow k_S_impl_Case w0 v6 (a1.get 2 [])) (H : laws_heldCaseSA3.f N a1 a8 = some r) :
    Calls Try.prog 25 #[Value.agg (([v2, v4, v6] : List Value)).toArray, Value.int .i64 a8] w0 fun e w => ∃ v, e = .returned v ∧ laws_heldCaseSA3.post w0 r v w := by
  unfold laws_heldCaseSA3.f at H
  have hs : St w0 [] w0 := St.refl w0
  refine calls_of_g (n := 16) Try.func25 rfl rfl ?_
  show G _ _ _ _ [_, _, _, _, _, _, _, _, _, _, _, _, _, _, _, _, _, _] _
  refine g_seq ?_
  refine g_region ?_
  show G _ _ _ (.inRegion _ [0, 1] :: _) _ _
  refine s_box hs rfl rfl (cs := (([v2, v4, v6] : List Value))) rfl rfl ?_
  intro b9 w hs
  show G _ _ _ _ [_, _, _, _, _, _, _, _, _, _, _, _, _, _, _, _, _, _] _
  refine g_op (v := Value.int .i64 0) rfl rfl rfl ?_
  show G _ _ _ _ [_, _, _, _, _, _, _, _, _, _, _, _, _, _, _, _, _, _] _
  refine g_ops_nil ?_
  refine g_seq ?_
  refine g_seq ?_
  refine g_region ?_
  show G _ _ _ (.inRegion _ [0] :: _) _ _
  refine g_op (v := Value.int .i64 0) rfl rfl rfl ?_
  show G _ _ _ _ [_, _, _, _, _, _, _, _, _, _, _, _, _, _, _, _, _, _] _
  refine g_ops_nil ?_
  obtain ⟨o1_, Ho, Hr1_⟩ := bind_get H
  refine g_block_join (J := fun t w => ∃ x17 : Int, laws_heldCaseSA3.a0 N x17 = some r ∧ Fr t (fun O => ([O 0, Value.int .i64 x17, O 2, O 3, O 4, O 5, O 6, O 7, O 8, O 9, O 10, O 11, O 12, O 13, O 14, O 15, O 16, O 17] : List Value)) ∧ St w0 [] w) ?_ ?_
  ·
   rintro t w ⟨x17, H, hf, hs⟩
   obtain ⟨O, rfl⟩ := hf.open
   show G _ _ _ _ [_, _, _, _, _, _, _, _, _, _, _, _, _, _, _, _, _, _] _
   unfold laws_heldCaseSA3.a0 at H
   refine g_seq ?_
   refine g_region ?_
   show G _ _ _ (.inRegion _ [0, 1] :: _) _ _
   refine g_op (v := Value.int .i64 x17) rfl rfl rfl ?_
   show G _ _ _ _ [_, _, _, _, _, _, _, _, _, _, _, _, _, _, _, _, _, _] _
   refine g_op (v := Value.int .i64 x17) rfl rfl rfl ?_
   show G _ _ _ _ [_, _, _, _, _, _, _, _, _, _, _, _, _, _, _, _, _, _] _
   refine g_ops_nil ?_
   obtain rfl := Option.some.inj H
   refine g_ret Try.func25 (v := Value.int .i64 x17) (res1 rfl rfl) ?_
   have hs : St _ [] _ := St.take (Γ' := []) hs
   exact ⟨_, rfl, rfl, hs⟩
  ·
   intro ha1_
   have hs := hs.pull 0 rfl
   have hs : St _ [_] _ := St.take (Γ' := []) hs
   refine g_loop_fuel (I := fun n_ t w => ∃ x11 : Int, ∃ x12 : Int, rounds (fun s => laws_heldCaseSA3.b0 N a1 s.1 s.2) n_ (x11, x12) = some o1_ ∧ Fr t (fun O => ([O 0, Value.int .i64 x11, Value.pointer (some ⟨b9, 0, none⟩), O 3, O 4, Value.int .i64 x12, O 6, O 7, O 8, O 9, O 10, O 11, O 12, O 13, O 14, O 15, O 16, O 17] : List Value)) ∧ St w0 [Cells b9 (([v2, v4, v6] : List Value)) 47] w) N ⟨a8, 0, Ho, rfl, hs⟩ ?_ ?_
   ·
    rintro _ _ ⟨x11, x12, h, _⟩
    exact rounds_zero h
   ·
    intro n_ ih1_
    rintro t w ⟨x11, x12, Ho, hf, hs⟩
    obtain ⟨O, rfl⟩ := hf.open
    show G _ _ _ _ [_, _, _, _, _, _, _, _, _, _, _, _, _, _, _, _, _, _] _
    obtain ⟨x4_, H, Hx1_⟩ := rounds_succ Ho
    have H : laws_heldCaseSA3.b0 N a1 x11 x12 = some x4_ := H
    unfold laws_heldCaseSA3.b0 at H
    refine g_seq ?_
    refine g_seq ?_
    refine g_region ?_
    show G _ _ _ (.inRegion _ [0, 1] :: _) _ _
    refine g_op (v := Value.int .i64 x12) rfl rfl rfl ?_
    show G _ _ _ _ [_, _, _, _, _, _, _, _, _, _, _, _, _, _, _, _, _, _] _
    refine g_op_b (B := decide (x12 < 3)) rfl rfl rfl ?_ ?_
    ·
     intro hb
     rw [if_pos (b_dec_t hb)] at H
     show G _ _ _ _ [_, _, _, _, _, _, _, _, _, _, _, _, _, _, _, _, _, _] _
     refine g_ops_nil ?_
     refine g_cond_true rfl ?_
     refine g_skip ?_
     refine g_seq ?_
     refine g_block ?_
     refine g_seq ?_
     refine g_join (J := (fun t w => ∃ x16 : Int, laws_heldCaseSA3.j2 N x12 x16 = some x4_ ∧ Fr t (fun O => ([O 0, Value.int .i64 x16, Value.pointer (some ⟨b9, 0, none⟩), O 3, O 4, Value.int .i64 x12, O 6, O 7, O 8, O 9, O 10, O 11, O 12, O 13, O 14, O 15, O 16, O 17] : List Value)) ∧ St w0 [Cells b9 (([v2, v4, v6] : List Value)) 47] w)) ?_ ?_
     ·
      rintro t w ⟨x16, H, hf, hs⟩
      obtain ⟨O, rfl⟩ := hf.open
      show G _ _ _ _ [_, _, _, _, _, _, _, _, _, _, _, _, _, _, _, _, _, _] _
      unfold laws_heldCaseSA3.j2 at H
      refine g_seq ?_
      refine g_region ?_
      show G _ _ _ (.inRegion _ [0, 1] :: _) _ _
      refine g_op (v := Value.int .i64 x16) rfl rfl rfl ?_
      show G _ _ _ _ [_, _, _, _, _, _, _, _, _, _, _, _, _, _, _, _, _, _] _
      refine g_op_b (B := decide (x16 < 0)) rfl rfl rfl ?_ ?_
      ·
       intro hb
       rw [if_pos (b_dec_t hb)] at H
       show G _ _ _ _ [_, _, _, _, _, _, _, _, _, _, _, _, _, _, _, _, _, _] _
       refine g_ops_nil ?_
       refine g_cond_true rfl ?_
       refine g_seq ?_
       refine g_region ?_
       show G _ _ _ (.inRegion _ [0] :: _) _ _
       refine g_op (v := Value.int .i64 (-1)) rfl rfl rfl ?_
       show G _ _ _ _ [_, _, _, _, _, _, _, _, _, _, _, _, _, _, _, _, _, _] _
       refine g_ops_nil ?_
       obtain rfl := Option.some.inj H
       subst Hx1_
       have H := Option.some.inj Hr1_
       subst H
       refine g_ret Try.func25 (v := Value.int .i64 (-1)) (res1 rfl rfl) ?_
       have hs : St _ [] _ := St.take (Γ' := [_]) hs
       exact ⟨_, rfl, rfl, hs⟩
      ·
       intro hb
       rw [if_neg (b_dec_f hb)] at H
       show G _ _ _ _ [_, _, _, _, _, _, _, _, _, _, _, _, _, _, _, _, _, _] _
       refine g_ops_nil ?_
       refine g_cond_false rfl ?_
       refine g_skip ?_
       refine g_inBlock ?_
       refine g_region ?_
       show G _ _ _ (.inRegion _ [0, 1, 2] :: _) _ _
       refine g_op (v := Value.int .i64 x12) rfl rfl rfl ?_
       show G _ _ _ _ [_, _, _, _, _, _, _, _, _, _, _, _, _, _, _, _, _, _] _
       refine g_op (v := Value.int .i64 (i64w (x12 + 1))) rfl rfl rfl ?_
       show G _ _ _ _ [_, _, _, _, _, _, _, _, _, _, _, _, _, _, _, _, _, _] _
       refine g_op (v := Value.int .i64 (i64w (x12 + 1))) rfl rfl rfl ?_
       show G _ _ _ _ [_, _, _, _, _, _, _, _, _, _, _, _, _, _, _, _, _, _] _
       refine g_ops_nil ?_
       obtain rfl := Option.some.inj H
       have hs := hs.pull 0 rfl
       have hs : St _ [_] _ := St.take (Γ' := []) hs
       exact ih1_ _ _ ⟨x16, i64w (x12 + 1), Hx1_, rfl, hs⟩
     ·
      intro ha
      by_cases hk1_ : x12 = 0
      ·
       rw [if_pos hk1_] at H
       refine g_region ?_
       show G _ _ _ (.inRegion _ [0, 1, 2, 3, 4, 5] :: _) _ _
       refine g_op (v := Value.int .i64 x12) rfl rfl rfl ?_
       show G _ _ _ _ [_, _, _, _, _, _, _, _, _, _, _, _, _, _, _, _, _, _] _
       refine s_idxJ (m := 1) 0 hk1_ (by decide) rfl (fun _ => rfl) rfl rfl rfl rfl rfl ?_
       show G _ _ _ _ [_, _, _, _, _, _, _, _, _, _, _, _, _, _, _, _, _, _] _
       refine s_load1 rfl rfl (v := v2) rfl rfl (fun _ => rfl) (cells_load (hs.cells 0 rfl) 0 1 rfl) ?_
       show G _ _ _ _ [_, _, _, _, _, _, _, _, _, _, _, _, _, _, _, _, _, _] _
       refine g_op (v := Value.int .i64 x11) rfl rfl rfl ?_
       show G _ _ _ _ [_, _, _, _, _, _, _, _, _, _, _, _, _, _, _, _, _, _] _
       obtain ⟨r13, Hr13, H⟩ := bind_get H
       refine s_call (args := [v2, Value.int .i64 x11]) rfl rfl (x_call rfl (callFunc_enter Try.func51 rfl rfl) rfl) (laws_heldCaseS.calls (a1 := (a1.get 0 [])) (a3 := x11) (hs.rd hr3) Hr13) ?_
       rintro _ w ⟨rfl, hs2⟩
       have hs : St _ [_] _ := hs.call hs2
       show G _ _ _ _ [_, _, _, _, _, _, _, _, _, _, _, _, _, _, _, _, _, _] _
       refine g_op (v := Value.int .i64 r13) rfl rfl rfl ?_
       show G _ _ _ _ [_, _, _, _, _, _, _, _, _, _, _, _, _, _, _, _, _, _] _
       refine g_ops_nil ?_
       have hs := hs.pull 0 rfl
       have hs : St _ [_] _ := St.take (Γ' := []) hs
       exact ha _ _ ⟨r13, H, rfl, hs⟩
      ·
       rw [if_neg hk1_] at H
       by_cases hk2_ : x12 = 1
       ·
        rw [if_pos hk2_] at H
        refine g_region ?_
        show G _ _ _ (.inRegion _ [0, 1, 2, 3, 4, 5] :: _) _ _
        refine g_op (v := Value.int .i64 x12) rfl rfl rfl ?_
        show G _ _ _ _ [_, _, _, _, _, _, _, _, _, _, _, _, _, _, _, _, _, _] _
        refine s_idxJ (m := 1) 1 hk2_ (by decide) rfl (fun _ => rfl) rfl rfl rfl rfl rfl ?_
        show G _ _ _ _ [_, _, _, _, _, _, _, _, _, _, _, _, _, _, _, _, _, _] _
        refine s_load1 rfl rfl (v := v4) rfl rfl (fun _ => rfl) (cells_load (hs.cells 0 rfl) 1 1 rfl) ?_
        show G _ _ _ _ [_, _, _, _, _, _, _, _, _, _, _, _, _, _, _, _, _, _] _
        refine g_op (v := Value.int .i64 x11) rfl rfl rfl ?_
        show G _ _ _ _ [_, _, _, _, _, _, _, _, _, _, _, _, _, _, _, _, _, _] _
        obtain ⟨r14, Hr14, H⟩ := bind_get H
        refine s_call (args := [v4, Value.int .i64 x11]) rfl rfl (x_call rfl (callFunc_enter Try.func51 rfl rfl) rfl) (laws_heldCaseS.calls (a1 := (a1.get 1 [])) (a3 := x11) (hs.rd hr5) Hr14) ?_
        rintro _ w ⟨rfl, hs2⟩
        have hs : St _ [_] _ := hs.call hs2
        show G _ _ _ _ [_, _, _, _, _, _, _, _, _, _, _, _, _, _, _, _, _, _] _
        refine g_op (v := Value.int .i64 r14) rfl rfl rfl ?_
        show G _ _ _ _ [_, _, _, _, _, _, _, _, _, _, _, _, _, _, _, _, _, _] _
        refine g_ops_nil ?_
        have hs := hs.pull 0 rfl
        have hs : St _ [_] _ := St.take (Γ' := []) hs
        exact ha _ _ ⟨r14, H, rfl, hs⟩
       ·
        rw [if_neg hk2_] at H
        by_cases hk3_ : x12 = 2
        ·
         rw [if_pos hk3_] at H
         refine g_region ?_
         show G _ _ _ (.inRegion _ [0, 1, 2, 3, 4, 5] :: _) _ _
         refine g_op (v := Value.int .i64 x12) rfl rfl rfl ?_
         show G _ _ _ _ [_, _, _, _, _, _, _, _, _, _, _, _, _, _, _, _, _, _] _
         refine s_idxJ (m := 1) 2 hk3_ (by decide) rfl (fun _ => rfl) rfl rfl rfl rfl rfl ?_
         show G _ _ _ _ [_, _, _, _, _, _, _, _, _, _, _, _, _, _, _, _, _, _] _
         refine s_load1 rfl rfl (v := v6) rfl rfl (fun _ => rfl) (cells_load (hs.cells 0 rfl) 2 1 rfl) ?_
         show G _ _ _ _ [_, _, _, _, _, _, _, _, _, _, _, _, _, _, _, _, _, _] _
         refine g_op (v := Value.int .i64 x11) rfl rfl rfl ?_
         show G _ _ _ _ [_, _, _, _, _, _, _, _, _, _, _, _, _, _, _, _, _, _] _
         obtain ⟨r15, Hr15, H⟩ := bind_get H
         refine s_call (args := [v6, Value.int .i64 x11]) rfl rfl (x_call rfl (callFunc_enter Try.func51 rfl rfl) rfl) (laws_heldCaseS.calls (a1 := (a1.get 2 [])) (a3 := x11) (hs.rd hr7) Hr15) ?_
         rintro _ w ⟨rfl, hs2⟩
         have hs : St _ [_] _ := hs.call hs2
         show G _ _ _ _ [_, _, _, _, _, _, _, _, _, _, _, _, _, _, _, _, _, _] _
         refine g_op (v := Value.int .i64 r15) rfl rfl rfl ?_
         show G _ _ _ _ [_, _, _, _, _, _, _, _, _, _, _, _, _, _, _, _, _, _] _
         refine g_ops_nil ?_
         have hs := hs.pull 0 rfl
         have hs : St _ [_] _ := St.take (Γ' := []) hs
         exact ha _ _ ⟨r15, H, rfl, hs⟩
        ·
         rw [if_neg hk3_] at H
         cases H
    ·
     intro hb
     rw [if_neg (b_dec_f hb)] at H
     show G _ _ _ _ [_, _, _, _, _, _, _, _, _, _, _, _, _, _, _, _, _, _] _
     refine g_ops_nil ?_
     refine g_cond_false rfl ?_
     obtain rfl := Option.some.inj H
     subst Hx1_
     have hs : St _ [] _ := St.take (Γ' := [_]) hs
     refine g_exit rfl ?_
     exact ha1_ _ _ ⟨x11, Hr1_, rfl, hs⟩

end Go.Proofs.YtcocgeodfbiehaaX
