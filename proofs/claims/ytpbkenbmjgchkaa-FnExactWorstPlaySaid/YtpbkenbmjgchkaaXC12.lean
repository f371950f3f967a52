/- Contracts, printed by gen.py. -/
import Derived.Test.YtpbkenbmjgchkaaXC11
namespace Go.Proofs.YtpbkenbmjgchkaaX
open Go Go.RowKit Go.Proofs
set_option linter.unusedVariables false
set_option linter.unusedSimpArgs false
/- function 61 _impl_Game_state -/
def _impl_Game_state.post (w0 : World) (r : (Ar Int 4)) (v : Value) (w : World) : Prop := v = Value.agg ((encA (encI .i64)) r).toArray ∧ St w0 [] w
set_option maxHeartbeats 8000000 in
set_option maxRecDepth 100000 in
theorem _impl_Game_state.calls {N : Nat} {a1 : S_impl_Game} {v2 : Value} {w0 : World} {r : (Ar Int 4)} (hr3 : RdRow k_S_impl_Ask w0 v2 a1.f_Asked) (H : _impl_Game_state.f N a1 = some r) :
    Calls Try.prog 61 #[Value.agg (([Value.int .i8 a1.f_Numbers, Value.int .i8 a1.f_Lies, v2] : List Value)).toArray] w0 fun e w => ∃ v, e = .returned v ∧ _impl_Game_state.post w0 r v w := by
  unfold _impl_Game_state.f at H
  have hs : St w0 [] w0 := St.refl w0
  refine calls_of_g (n := 18) Try.func61 rfl rfl ?_
  show G _ _ _ _ [_, _, _, _, _, _, _, _, _, _, _, _, _, _, _, _, _, _, _] _
  refine g_seq ?_
  refine g_region ?_
  show G _ _ _ (.inRegion _ [0, 1] :: _) _ _
  refine s_box hs rfl rfl (cs := (([Value.int .i8 a1.f_Numbers, Value.int .i8 a1.f_Lies, v2] : List Value))) rfl rfl ?_
  intro b4 w hs
  show G _ _ _ _ [_, _, _, _, _, _, _, _, _, _, _, _, _, _, _, _, _, _, _] _
  refine s_alloc hs rfl rfl (z := (Value.agg #[Value.int .i64 0, Value.int .i64 0, Value.int .i64 0, Value.int .i64 0])) (cs := ((encA (encI .i64)) (Ar.rep 4 0))) rfl (fun _ => rfl) rfl ?_
  intro b6 w hs
  show G _ _ _ _ [_, _, _, _, _, _, _, _, _, _, _, _, _, _, _, _, _, _, _] _
  refine g_ops_nil ?_
  refine g_seq ?_
  refine g_region ?_
  show G _ _ _ (.inRegion _ [0, 1, 2] :: _) _ _
  refine g_op (v := Value.agg ((encA (encI .i64)) (Ar.rep 4 0)).toArray) rfl rfl (x_build rfl rfl) ?_
  show G _ _ _ _ [_, _, _, _, _, _, _, _, _, _, _, _, _, _, _, _, _, _, _] _
  refine s_alloc hs rfl rfl (z := (Value.agg #[Value.int .i64 0, Value.int .i64 0, Value.int .i64 0, Value.int .i64 0])) (cs := ((encA (encI .i64)) (Ar.rep 4 0))) rfl (fun _ => rfl) rfl ?_
  intro b8 w hs
  show G _ _ _ _ [_, _, _, _, _, _, _, _, _, _, _, _, _, _, _, _, _, _, _] _
  refine s_storeAll (n := 4) hs ((fkA (n := 4) (he := (fkI .i64).len) (h1 := (fkI .i64).one)).len _) rfl rfl (vs := ((encA (encI .i64)) (Ar.rep 4 0))) rfl rfl rfl (fun _ => rfl) ((fkA (n := 4) (he := (fkI .i64).len) (h1 := (fkI .i64).one)).len _) ((fkA (n := 4) (he := (fkI .i64).len) (h1 := (fkI .i64).one)).one _) ?_
  intro w hs
  refine g_ops_nil ?_
  refine g_seq ?_
  refine g_seq ?_
  refine g_region ?_
  show G _ _ _ (.inRegion _ [0, 1, 2] :: _) _ _
  refine s_loadA rfl rfl (es := (([Value.int .i8 a1.f_Numbers, Value.int .i8 a1.f_Lies, v2] : List Value))) rfl rfl (fun _ => rfl) (n := 3) (fun _ => rfl) rfl (cells_all (hs.cells 2 rfl)) ?_
  show G _ _ _ _ [_, _, _, _, _, _, _, _, _, _, _, _, _, _, _, _, _, _, _] _
  obtain ⟨r10, Hr10, H⟩ := bind_get H
  refine s_call (args := [Value.agg (([Value.int .i8 a1.f_Numbers, Value.int .i8 a1.f_Lies, v2] : List Value)).toArray]) rfl rfl (x_call rfl (callFunc_enter Try.func50 rfl rfl) rfl) (_impl_Game_sorts.calls (a1 := (⟨a1.f_Numbers, a1.f_Lies, a1.f_Asked⟩ : S_impl_Game)) (hs.rd hr3) Hr10) ?_
  rintro _ w ⟨v11, v12, v13, v14, rfl, hs2⟩
  have hs : St _ [_, _, _, _, _, _, _] _ := hs.call hs2
  show G _ _ _ _ [_, _, _, _, _, _, _, _, _, _, _, _, _, _, _, _, _, _, _] _
  refine g_op (v := Value.int .i64 0) rfl rfl rfl ?_
  show G _ _ _ _ [_, _, _, _, _, _, _, _, _, _, _, _, _, _, _, _, _, _, _] _
  refine g_ops_nil ?_
  obtain ⟨o1_, Ho, Hr1_⟩ := bind_get H
  refine g_block_join (J := fun t w => ∃ x40 : (Ar Int 4), _impl_Game_state.a0 N x40 = some r ∧ Fr t (fun O => ([O 0, O 1, Value.pointer (some ⟨b6, 0, none⟩), Value.pointer (some ⟨b8, 0, none⟩), O 4, O 5, O 6, O 7, O 8, O 9, O 10, O 11, O 12, O 13, O 14, O 15, O 16, O 17, O 18] : List Value)) ∧ St w0 [Cells b6 ((encA (encI .i64)) (Ar.rep 4 0)) 85, Cells b8 ((encA (encI .i64)) x40) 85] w) ?_ ?_
  ·
   rintro t w ⟨x40, H, hf, hs⟩
   obtain ⟨O, rfl⟩ := hf.open
   show G _ _ _ _ [_, _, _, _, _, _, _, _, _, _, _, _, _, _, _, _, _, _, _] _
   unfold _impl_Game_state.a0 at H
   refine g_seq ?_
   refine g_region ?_
   show G _ _ _ (.inRegion _ [0, 1] :: _) _ _
   refine s_loadA rfl rfl (es := ((encA (encI .i64)) x40)) rfl rfl (fun _ => rfl) (n := 4) (fun _ => rfl) ((fkA (n := 4) (he := (fkI .i64).len) (h1 := (fkI .i64).one)).len _) (cells_all (hs.cells 1 rfl)) ?_
   show G _ _ _ _ [_, _, _, _, _, _, _, _, _, _, _, _, _, _, _, _, _, _, _] _
   refine s_storeAll (n := 4) hs ((fkA (n := 4) (he := (fkI .i64).len) (h1 := (fkI .i64).one)).len _) rfl rfl (vs := ((encA (encI .i64)) x40)) rfl rfl rfl (fun _ => rfl) ((fkA (n := 4) (he := (fkI .i64).len) (h1 := (fkI .i64).one)).len _) ((fkA (n := 4) (he := (fkI .i64).len) (h1 := (fkI .i64).one)).one _) ?_
   intro w hs
   refine g_ops_nil ?_
   obtain rfl := Option.some.inj H
   refine g_ret Try.func61 (v := Value.agg ((encA (encI .i64)) x40).toArray) (resC rfl ⟨⟨_, rfl, (run_loadVar_agg (es := ((encA (encI .i64)) x40)) rfl (congrArg (Result.ok · _) ((fkA (n := 4) (he := (fkI .i64).len) (h1 := (fkI .i64).one)).len _).symm) (cells_all (hs.cells 0 rfl)))⟩, trivial⟩) ?_
   have hs : St _ [] _ := St.take (Γ' := [_, _]) hs
   exact ⟨_, rfl, rfl, hs⟩
  ·
   intro ha1_
   have hs := hs.pull 3 rfl
   have hs := hs.pull 3 rfl
   have hs := hs.pull 3 rfl
   have hs := hs.pull 3 rfl
   have hs := hs.pull 4 rfl
   have hs := hs.pull 5 rfl
   have hs : St _ [_, _, _, _, _, _] _ := St.take (Γ' := [_]) hs
   refine g_loop_fuel (I := fun n_ t w => ∃ x29 : (Ar Int 4), ∃ x30 : Int, rounds (fun s => _impl_Game_state.b0 N r10 s.1 s.2) n_ (x29, x30) = some o1_ ∧ Fr t (fun O => ([O 0, O 1, Value.pointer (some ⟨b6, 0, none⟩), Value.pointer (some ⟨b8, 0, none⟩), O 4, O 5, O 6, O 7, Value.agg (([v11, v12, v13, v14] : List Value)).toArray, Value.int .i64 x30, O 10, O 11, O 12, O 13, O 14, O 15, O 16, O 17, O 18] : List Value)) ∧ St w0 [Cells b6 ((encA (encI .i64)) (Ar.rep 4 0)) 85, Cells b8 ((encA (encI .i64)) x29) 85, Row 2 (K.int .i64) v11 (r10.get 0 []), Row 2 (K.int .i64) v12 (r10.get 1 []), Row 2 (K.int .i64) v13 (r10.get 2 []), Row 2 (K.int .i64) v14 (r10.get 3 [])] w) N ⟨(Ar.rep 4 0), 0, Ho, rfl, hs⟩ ?_ ?_
   ·
    rintro _ _ ⟨x29, x30, h, _⟩
    exact rounds_zero h
   ·
    intro n_ ih1_
    rintro t w ⟨x29, x30, Ho, hf, hs⟩
    obtain ⟨O, rfl⟩ := hf.open
    show G _ _ _ _ [_, _, _, _, _, _, _, _, _, _, _, _, _, _, _, _, _, _, _] _
    obtain ⟨x17_, H, Hx1_⟩ := rounds_succ Ho
    have H : _impl_Game_state.b0 N r10 x29 x30 = some x17_ := H
    unfold _impl_Game_state.b0 at H
    refine g_seq ?_
    refine g_region ?_
    show G _ _ _ (.inRegion _ [0] :: _) _ _
    refine g_op_b (B := decide (x30 < 4)) rfl rfl rfl ?_ ?_
    ·
     intro hb
     rw [if_pos (b_dec_t hb)] at H
     show G _ _ _ _ [_, _, _, _, _, _, _, _, _, _, _, _, _, _, _, _, _, _, _] _
     refine g_ops_nil ?_
     refine g_seq ?_
     refine g_cond_true rfl ?_
     refine g_skip ?_
     refine g_seq ?_
     refine g_block_join (J := (fun t w => ∃ x35 : (Ar Int 4), _impl_Game_state.j2 N x30 x35 = some x17_ ∧ Fr t (fun O => ([O 0, O 1, Value.pointer (some ⟨b6, 0, none⟩), Value.pointer (some ⟨b8, 0, none⟩), O 4, O 5, O 6, O 7, Value.agg (([v11, v12, v13, v14] : List Value)).toArray, Value.int .i64 x30, O 10, O 11, O 12, O 13, O 14, O 15, O 16, O 17, O 18] : List Value)) ∧ St w0 [Cells b6 ((encA (encI .i64)) (Ar.rep 4 0)) 85, Cells b8 ((encA (encI .i64)) x35) 85, Row 2 (K.int .i64) v11 (r10.get 0 []), Row 2 (K.int .i64) v12 (r10.get 1 []), Row 2 (K.int .i64) v13 (r10.get 2 []), Row 2 (K.int .i64) v14 (r10.get 3 [])] w)) ?_ ?_
     ·
      rintro t w ⟨x35, H, hf, hs⟩
      obtain ⟨O, rfl⟩ := hf.open
      show G _ _ _ _ [_, _, _, _, _, _, _, _, _, _, _, _, _, _, _, _, _, _, _] _
      unfold _impl_Game_state.j2 at H
      refine g_region ?_
      show G _ _ _ (.inRegion _ [0, 1] :: _) _ _
      refine g_op (v := Value.int .i64 (i64w (x30 + 1))) rfl rfl rfl ?_
      show G _ _ _ _ [_, _, _, _, _, _, _, _, _, _, _, _, _, _, _, _, _, _, _] _
      refine g_op (v := Value.int .i64 (i64w (x30 + 1))) rfl rfl rfl ?_
      show G _ _ _ _ [_, _, _, _, _, _, _, _, _, _, _, _, _, _, _, _, _, _, _] _
      refine g_ops_nil ?_
      obtain rfl := Option.some.inj H
      have hs := hs.pull 5 rfl
      have hs := hs.pull 5 rfl
      have hs := hs.pull 5 rfl
      have hs := hs.pull 5 rfl
      have hs := hs.pull 5 rfl
      have hs := hs.pull 5 rfl
      have hs : St _ [_, _, _, _, _, _] _ := St.take (Γ' := []) hs
      exact ih1_ _ _ ⟨x35, i64w (x30 + 1), Hx1_, rfl, hs⟩
     ·
      intro ha
      refine g_seq ?_
      by_cases hk9_ : x30 = 0
      ·
       rw [if_pos hk9_] at H
       refine g_region ?_
       show G _ _ _ (.inRegion _ [0, 1, 2, 3] :: _) _ _
       refine g_op (v := Value.int .i64 x30) rfl rfl rfl ?_
       show G _ _ _ _ [_, _, _, _, _, _, _, _, _, _, _, _, _, _, _, _, _, _, _] _
       refine s_indexJ 0 hk9_ (by decide) (cs := ([v11, v12, v13, v14] : List Value)) (v := v11) rfl rfl (fun _ => rfl) (fun _ => rfl) rfl rfl rfl rfl rfl ?_
       show G _ _ _ _ [_, _, _, _, _, _, _, _, _, _, _, _, _, _, _, _, _, _, _] _
       refine g_op (v := Value.int .i64 x30) rfl rfl rfl ?_
       show G _ _ _ _ [_, _, _, _, _, _, _, _, _, _, _, _, _, _, _, _, _, _, _] _
       refine g_op (v := v11) rfl rfl rfl ?_
       show G _ _ _ _ [_, _, _, _, _, _, _, _, _, _, _, _, _, _, _, _, _, _, _] _
       refine g_ops_nil ?_
       refine g_region ?_
       show G _ _ _ (.inRegion _ [0, 1, 2, 3, 4] :: _) _ _
       refine g_op (v := Value.int .i64 x30) rfl rfl rfl ?_
       show G _ _ _ _ [_, _, _, _, _, _, _, _, _, _, _, _, _, _, _, _, _, _, _] _
       refine g_op (v := v11) rfl rfl rfl ?_
       show G _ _ _ _ [_, _, _, _, _, _, _, _, _, _, _, _, _, _, _, _, _, _, _] _
       obtain ⟨r31, Hr31, H⟩ := bind_get H
       refine s_call (args := [v11]) rfl rfl (x_call rfl (callFunc_enter Try.func70 rfl rfl) rfl) (impl_size_int64.calls (a1 := (r10.get 0 [])) (hs.row 2 rfl) Hr31) ?_
       rintro _ w ⟨rfl, hs2⟩
       have hs : St _ [_, _, _, _, _, _] _ := hs.call hs2
       show G _ _ _ _ [_, _, _, _, _, _, _, _, _, _, _, _, _, _, _, _, _, _, _] _
       obtain ⟨g10, H⟩ := ite_get H
       refine s_idxA (n := x30) (m := 1) rfl (fun _ => rfl) g10.1 g10.2 rfl rfl rfl rfl rfl ?_
       show G _ _ _ _ [_, _, _, _, _, _, _, _, _, _, _, _, _, _, _, _, _, _, _] _
       have hs := hs.pull 1 rfl
       have hs : St _ [_, _, _, _, _, _] _ := hs
       refine s_storeA (y := r31) (fkI .i64).len (fkI .i64).one g10.1 g10.2 hs rfl rfl rfl rfl rfl (fun _ => rfl) ?_
       intro w hs
       refine g_ops_nil ?_
       refine g_inBlock ?_
       have hs := hs.pull 5 rfl
       have hs := hs.pull 5 rfl
       have hs := hs.pull 5 rfl
       have hs := hs.pull 5 rfl
       have hs := hs.pull 4 rfl
       have hs := hs.pull 5 rfl
       have hs : St _ [_, _, _, _, _, _] _ := St.take (Γ' := []) hs
       exact ha _ _ ⟨x29.set x30 r31, H, rfl, hs⟩
      ·
       rw [if_neg hk9_] at H
       by_cases hk11_ : x30 = 1
       ·
        rw [if_pos hk11_] at H
        refine g_region ?_
        show G _ _ _ (.inRegion _ [0, 1, 2, 3] :: _) _ _
        refine g_op (v := Value.int .i64 x30) rfl rfl rfl ?_
        show G _ _ _ _ [_, _, _, _, _, _, _, _, _, _, _, _, _, _, _, _, _, _, _] _
        refine s_indexJ 1 hk11_ (by decide) (cs := ([v11, v12, v13, v14] : List Value)) (v := v12) rfl rfl (fun _ => rfl) (fun _ => rfl) rfl rfl rfl rfl rfl ?_
        show G _ _ _ _ [_, _, _, _, _, _, _, _, _, _, _, _, _, _, _, _, _, _, _] _
        refine g_op (v := Value.int .i64 x30) rfl rfl rfl ?_
        show G _ _ _ _ [_, _, _, _, _, _, _, _, _, _, _, _, _, _, _, _, _, _, _] _
        refine g_op (v := v12) rfl rfl rfl ?_
        show G _ _ _ _ [_, _, _, _, _, _, _, _, _, _, _, _, _, _, _, _, _, _, _] _
        refine g_ops_nil ?_
        refine g_region ?_
        show G _ _ _ (.inRegion _ [0, 1, 2, 3, 4] :: _) _ _
        refine g_op (v := Value.int .i64 x30) rfl rfl rfl ?_
        show G _ _ _ _ [_, _, _, _, _, _, _, _, _, _, _, _, _, _, _, _, _, _, _] _
        refine g_op (v := v12) rfl rfl rfl ?_
        show G _ _ _ _ [_, _, _, _, _, _, _, _, _, _, _, _, _, _, _, _, _, _, _] _
        obtain ⟨r32, Hr32, H⟩ := bind_get H
        refine s_call (args := [v12]) rfl rfl (x_call rfl (callFunc_enter Try.func70 rfl rfl) rfl) (impl_size_int64.calls (a1 := (r10.get 1 [])) (hs.row 3 rfl) Hr32) ?_
        rintro _ w ⟨rfl, hs2⟩
        have hs : St _ [_, _, _, _, _, _] _ := hs.call hs2
        show G _ _ _ _ [_, _, _, _, _, _, _, _, _, _, _, _, _, _, _, _, _, _, _] _
        obtain ⟨g12, H⟩ := ite_get H
        refine s_idxA (n := x30) (m := 1) rfl (fun _ => rfl) g12.1 g12.2 rfl rfl rfl rfl rfl ?_
        show G _ _ _ _ [_, _, _, _, _, _, _, _, _, _, _, _, _, _, _, _, _, _, _] _
        have hs := hs.pull 1 rfl
        have hs : St _ [_, _, _, _, _, _] _ := hs
        refine s_storeA (y := r32) (fkI .i64).len (fkI .i64).one g12.1 g12.2 hs rfl rfl rfl rfl rfl (fun _ => rfl) ?_
        intro w hs
        refine g_ops_nil ?_
        refine g_inBlock ?_
        have hs := hs.pull 5 rfl
        have hs := hs.pull 5 rfl
        have hs := hs.pull 5 rfl
        have hs := hs.pull 5 rfl
        have hs := hs.pull 4 rfl
        have hs := hs.pull 5 rfl
        have hs : St _ [_, _, _, _, _, _] _ := St.take (Γ' := []) hs
        exact ha _ _ ⟨x29.set x30 r32, H, rfl, hs⟩
       ·
        rw [if_neg hk11_] at H
        by_cases hk13_ : x30 = 2
        ·
         rw [if_pos hk13_] at H
         refine g_region ?_
         show G _ _ _ (.inRegion _ [0, 1, 2, 3] :: _) _ _
         refine g_op (v := Value.int .i64 x30) rfl rfl rfl ?_
         show G _ _ _ _ [_, _, _, _, _, _, _, _, _, _, _, _, _, _, _, _, _, _, _] _
         refine s_indexJ 2 hk13_ (by decide) (cs := ([v11, v12, v13, v14] : List Value)) (v := v13) rfl rfl (fun _ => rfl) (fun _ => rfl) rfl rfl rfl rfl rfl ?_
         show G _ _ _ _ [_, _, _, _, _, _, _, _, _, _, _, _, _, _, _, _, _, _, _] _
         refine g_op (v := Value.int .i64 x30) rfl rfl rfl ?_
         show G _ _ _ _ [_, _, _, _, _, _, _, _, _, _, _, _, _, _, _, _, _, _, _] _
         refine g_op (v := v13) rfl rfl rfl ?_
         show G _ _ _ _ [_, _, _, _, _, _, _, _, _, _, _, _, _, _, _, _, _, _, _] _
         refine g_ops_nil ?_
         refine g_region ?_
         show G _ _ _ (.inRegion _ [0, 1, 2, 3, 4] :: _) _ _
         refine g_op (v := Value.int .i64 x30) rfl rfl rfl ?_
         show G _ _ _ _ [_, _, _, _, _, _, _, _, _, _, _, _, _, _, _, _, _, _, _] _
         refine g_op (v := v13) rfl rfl rfl ?_
         show G _ _ _ _ [_, _, _, _, _, _, _, _, _, _, _, _, _, _, _, _, _, _, _] _
         obtain ⟨r33, Hr33, H⟩ := bind_get H
         refine s_call (args := [v13]) rfl rfl (x_call rfl (callFunc_enter Try.func70 rfl rfl) rfl) (impl_size_int64.calls (a1 := (r10.get 2 [])) (hs.row 4 rfl) Hr33) ?_
         rintro _ w ⟨rfl, hs2⟩
         have hs : St _ [_, _, _, _, _, _] _ := hs.call hs2
         show G _ _ _ _ [_, _, _, _, _, _, _, _, _, _, _, _, _, _, _, _, _, _, _] _
         obtain ⟨g14, H⟩ := ite_get H
         refine s_idxA (n := x30) (m := 1) rfl (fun _ => rfl) g14.1 g14.2 rfl rfl rfl rfl rfl ?_
         show G _ _ _ _ [_, _, _, _, _, _, _, _, _, _, _, _, _, _, _, _, _, _, _] _
         have hs := hs.pull 1 rfl
         have hs : St _ [_, _, _, _, _, _] _ := hs
         refine s_storeA (y := r33) (fkI .i64).len (fkI .i64).one g14.1 g14.2 hs rfl rfl rfl rfl rfl (fun _ => rfl) ?_
         intro w hs
         refine g_ops_nil ?_
         refine g_inBlock ?_
         have hs := hs.pull 5 rfl
         have hs := hs.pull 5 rfl
         have hs := hs.pull 5 rfl
         have hs := hs.pull 5 rfl
         have hs := hs.pull 4 rfl
         have hs := hs.pull 5 rfl
         have hs : St _ [_, _, _, _, _, _] _ := St.take (Γ' := []) hs
         exact ha _ _ ⟨x29.set x30 r33, H, rfl, hs⟩
        ·
         rw [if_neg hk13_] at H
         by_cases hk15_ : x30 = 3
         ·
          rw [if_pos hk15_] at H
          refine g_region ?_
          show G _ _ _ (.inRegion _ [0, 1, 2, 3] :: _) _ _
          refine g_op (v := Value.int .i64 x30) rfl rfl rfl ?_
          show G _ _ _ _ [_, _, _, _, _, _, _, _, _, _, _, _, _, _, _, _, _, _, _] _
          refine s_indexJ 3 hk15_ (by decide) (cs := ([v11, v12, v13, v14] : List Value)) (v := v14) rfl rfl (fun _ => rfl) (fun _ => rfl) rfl rfl rfl rfl rfl ?_
          show G _ _ _ _ [_, _, _, _, _, _, _, _, _, _, _, _, _, _, _, _, _, _, _] _
          refine g_op (v := Value.int .i64 x30) rfl rfl rfl ?_
          show G _ _ _ _ [_, _, _, _, _, _, _, _, _, _, _, _, _, _, _, _, _, _, _] _
          refine g_op (v := v14) rfl rfl rfl ?_
          show G _ _ _ _ [_, _, _, _, _, _, _, _, _, _, _, _, _, _, _, _, _, _, _] _
          refine g_ops_nil ?_
          refine g_region ?_
          show G _ _ _ (.inRegion _ [0, 1, 2, 3, 4] :: _) _ _
          refine g_op (v := Value.int .i64 x30) rfl rfl rfl ?_
          show G _ _ _ _ [_, _, _, _, _, _, _, _, _, _, _, _, _, _, _, _, _, _, _] _
          refine g_op (v := v14) rfl rfl rfl ?_
          show G _ _ _ _ [_, _, _, _, _, _, _, _, _, _, _, _, _, _, _, _, _, _, _] _
          obtain ⟨r34, Hr34, H⟩ := bind_get H
          refine s_call (args := [v14]) rfl rfl (x_call rfl (callFunc_enter Try.func70 rfl rfl) rfl) (impl_size_int64.calls (a1 := (r10.get 3 [])) (hs.row 5 rfl) Hr34) ?_
          rintro _ w ⟨rfl, hs2⟩
          have hs : St _ [_, _, _, _, _, _] _ := hs.call hs2
          show G _ _ _ _ [_, _, _, _, _, _, _, _, _, _, _, _, _, _, _, _, _, _, _] _
          obtain ⟨g16, H⟩ := ite_get H
          refine s_idxA (n := x30) (m := 1) rfl (fun _ => rfl) g16.1 g16.2 rfl rfl rfl rfl rfl ?_
          show G _ _ _ _ [_, _, _, _, _, _, _, _, _, _, _, _, _, _, _, _, _, _, _] _
          have hs := hs.pull 1 rfl
          have hs : St _ [_, _, _, _, _, _] _ := hs
          refine s_storeA (y := r34) (fkI .i64).len (fkI .i64).one g16.1 g16.2 hs rfl rfl rfl rfl rfl (fun _ => rfl) ?_
          intro w hs
          refine g_ops_nil ?_
          refine g_inBlock ?_
          have hs := hs.pull 5 rfl
          have hs := hs.pull 5 rfl
          have hs := hs.pull 5 rfl
          have hs := hs.pull 5 rfl
          have hs := hs.pull 4 rfl
          have hs := hs.pull 5 rfl
          have hs : St _ [_, _, _, _, _, _] _ := St.take (Γ' := []) hs
          exact ha _ _ ⟨x29.set x30 r34, H, rfl, hs⟩
         ·
          rw [if_neg hk15_] at H
          cases H
    ·
     intro hb
     rw [if_neg (b_dec_f hb)] at H
     show G _ _ _ _ [_, _, _, _, _, _, _, _, _, _, _, _, _, _, _, _, _, _, _] _
     refine g_ops_nil ?_
     refine g_seq ?_
     refine g_cond_false rfl ?_
     obtain rfl := Option.some.inj H
     subst Hx1_
     have hs := hs.pull 1 rfl
     have hs := hs.pull 1 rfl
     have hs : St _ [_, _] _ := St.take (Γ' := [_, _, _, _]) hs
     refine g_exit rfl ?_
     exact ha1_ _ _ ⟨x29, Hr1_, rfl, hs⟩

/- function 62 _impl_State_half -/
def _impl_State_half.post (w0 : World) (r : (Ar Int 4)) (v : Value) (w : World) : Prop := v = Value.agg ((encA (encI .i64)) r).toArray ∧ St w0 [] w
set_option maxHeartbeats 8000000 in
set_option maxRecDepth 100000 in
theorem _impl_State_half.calls {N : Nat} {a1 : (Ar Int 4)} {w0 : World} {r : (Ar Int 4)} (H : _impl_State_half.f N a1 = some r) :
    Calls Try.prog 62 #[Value.agg ((encA (encI .i64)) a1).toArray] w0 fun e w => ∃ v, e = .returned v ∧ _impl_State_half.post w0 r v w := by
  unfold _impl_State_half.f at H
  have hs : St w0 [] w0 := St.refl w0
  refine calls_of_g (n := 29) Try.func62 rfl rfl ?_
  show G _ _ _ _ [_, _, _, _, _, _, _, _, _, _, _, _, _, _, _, _, _, _, _, _, _, _, _, _, _, _, _, _, _, _] _
  refine g_seq ?_
  refine g_region ?_
  show G _ _ _ (.inRegion _ [0, 1] :: _) _ _
  refine s_box hs rfl rfl (cs := ((encA (encI .i64)) a1)) rfl rfl ?_
  intro b2 w hs
  show G _ _ _ _ [_, _, _, _, _, _, _, _, _, _, _, _, _, _, _, _, _, _, _, _, _, _, _, _, _, _, _, _, _, _] _
  refine s_alloc hs rfl rfl (z := (Value.agg #[Value.int .i64 0, Value.int .i64 0, Value.int .i64 0, Value.int .i64 0])) (cs := ((encA (encI .i64)) (Ar.rep 4 0))) rfl (fun _ => rfl) rfl ?_
  intro b4 w hs
  show G _ _ _ _ [_, _, _, _, _, _, _, _, _, _, _, _, _, _, _, _, _, _, _, _, _, _, _, _, _, _, _, _, _, _] _
  refine g_ops_nil ?_
  refine g_seq ?_
  refine g_region ?_
  show G _ _ _ (.inRegion _ [0, 1, 2, 3] :: _) _ _
  refine g_op (v := Value.agg ((encA (encI .i64)) (Ar.rep 4 0)).toArray) rfl rfl (x_build rfl rfl) ?_
  show G _ _ _ _ [_, _, _, _, _, _, _, _, _, _, _, _, _, _, _, _, _, _, _, _, _, _, _, _, _, _, _, _, _, _] _
  refine s_alloc hs rfl rfl (z := (Value.agg #[Value.int .i64 0, Value.int .i64 0, Value.int .i64 0, Value.int .i64 0])) (cs := ((encA (encI .i64)) (Ar.rep 4 0))) rfl (fun _ => rfl) rfl ?_
  intro b6 w hs
  show G _ _ _ _ [_, _, _, _, _, _, _, _, _, _, _, _, _, _, _, _, _, _, _, _, _, _, _, _, _, _, _, _, _, _] _
  refine s_storeAll (n := 4) hs ((fkA (n := 4) (he := (fkI .i64).len) (h1 := (fkI .i64).one)).len _) rfl rfl (vs := ((encA (encI .i64)) (Ar.rep 4 0))) rfl rfl rfl (fun _ => rfl) ((fkA (n := 4) (he := (fkI .i64).len) (h1 := (fkI .i64).one)).len _) ((fkA (n := 4) (he := (fkI .i64).len) (h1 := (fkI .i64).one)).one _) ?_
  intro w hs
  refine g_op (v := Value.bool true) rfl rfl rfl ?_
  show G _ _ _ _ [_, _, _, _, _, _, _, _, _, _, _, _, _, _, _, _, _, _, _, _, _, _, _, _, _, _, _, _, _, _] _
  refine g_ops_nil ?_
  refine g_seq ?_
  refine g_seq ?_
  refine g_region ?_
  show G _ _ _ (.inRegion _ [0, 1] :: _) _ _
  refine s_loadA rfl rfl (es := ((encA (encI .i64)) a1)) rfl rfl (fun _ => rfl) (n := 4) (fun _ => rfl) ((fkA (n := 4) (he := (fkI .i64).len) (h1 := (fkI .i64).one)).len _) (cells_all (hs.cells 2 rfl)) ?_
  show G _ _ _ _ [_, _, _, _, _, _, _, _, _, _, _, _, _, _, _, _, _, _, _, _, _, _, _, _, _, _, _, _, _, _] _
  refine g_op (v := Value.int .i64 0) rfl rfl rfl ?_
  refine g_ops_nil ?_
  obtain ⟨o1_, Ho, Hr1_⟩ := bind_get H
  refine g_block_join (J := fun t w => ∃ x17 : (Ar Int 4), _impl_State_half.a0 N x17 = some r ∧ Fr t (fun O => ([O 0, O 1, Value.pointer (some ⟨b4, 0, none⟩), Value.pointer (some ⟨b6, 0, none⟩), O 4, O 5, O 6, O 7, O 8, O 9, O 10, O 11, O 12, O 13, O 14, O 15, O 16, O 17, O 18, O 19, O 20, O 21, O 22, O 23, O 24, O 25, O 26, O 27, O 28, O 29] : List Value)) ∧ St w0 [Cells b4 ((encA (encI .i64)) (Ar.rep 4 0)) 85, Cells b6 ((encA (encI .i64)) x17) 85] w) ?_ ?_
  ·
   rintro t w ⟨x17, H, hf, hs⟩
   obtain ⟨O, rfl⟩ := hf.open
   show G _ _ _ _ [_, _, _, _, _, _, _, _, _, _, _, _, _, _, _, _, _, _, _, _, _, _, _, _, _, _, _, _, _, _] _
   unfold _impl_State_half.a0 at H
   refine g_seq ?_
   refine g_region ?_
   show G _ _ _ (.inRegion _ [0, 1] :: _) _ _
   refine s_loadA rfl rfl (es := ((encA (encI .i64)) x17)) rfl rfl (fun _ => rfl) (n := 4) (fun _ => rfl) ((fkA (n := 4) (he := (fkI .i64).len) (h1 := (fkI .i64).one)).len _) (cells_all (hs.cells 1 rfl)) ?_
   show G _ _ _ _ [_, _, _, _, _, _, _, _, _, _, _, _, _, _, _, _, _, _, _, _, _, _, _, _, _, _, _, _, _, _] _
   refine s_storeAll (n := 4) hs ((fkA (n := 4) (he := (fkI .i64).len) (h1 := (fkI .i64).one)).len _) rfl rfl (vs := ((encA (encI .i64)) x17)) rfl rfl rfl (fun _ => rfl) ((fkA (n := 4) (he := (fkI .i64).len) (h1 := (fkI .i64).one)).len _) ((fkA (n := 4) (he := (fkI .i64).len) (h1 := (fkI .i64).one)).one _) ?_
   intro w hs
   refine g_ops_nil ?_
   obtain rfl := Option.some.inj H
   refine g_ret Try.func62 (v := Value.agg ((encA (encI .i64)) x17).toArray) (resC rfl ⟨⟨_, rfl, (run_loadVar_agg (es := ((encA (encI .i64)) x17)) rfl (congrArg (Result.ok · _) ((fkA (n := 4) (he := (fkI .i64).len) (h1 := (fkI .i64).one)).len _).symm) (cells_all (hs.cells 0 rfl)))⟩, trivial⟩) ?_
   have hs : St _ [] _ := St.take (Γ' := [_, _]) hs
   exact ⟨_, rfl, rfl, hs⟩
  ·
   intro ha1_
   have hs := hs.pull 0 rfl
   have hs := hs.pull 1 rfl
   have hs : St _ [_, _] _ := St.take (Γ' := [_]) hs
   refine g_loop_fuel (I := fun n_ t w => ∃ x12 : (Ar Int 4), ∃ x13 : Bool, ∃ x14 : Int, rounds (fun s => _impl_State_half.b0 N a1 s.1 s.2.1 s.2.2) n_ (x12, x13, x14) = some o1_ ∧ Fr t (fun O => ([O 0, O 1, Value.pointer (some ⟨b4, 0, none⟩), Value.pointer (some ⟨b6, 0, none⟩), Value.bool x13, O 5, O 6, O 7, Value.agg ((encA (encI .i64)) a1).toArray, Value.int .i64 x14, O 10, O 11, O 12, O 13, O 14, O 15, O 16, O 17, O 18, O 19, O 20, O 21, O 22, O 23, O 24, O 25, O 26, O 27, O 28, O 29] : List Value)) ∧ St w0 [Cells b4 ((encA (encI .i64)) (Ar.rep 4 0)) 85, Cells b6 ((encA (encI .i64)) x12) 85] w) N ⟨(Ar.rep 4 0), true, 0, Ho, rfl, hs⟩ ?_ ?_
   ·
    rintro _ _ ⟨x12, x13, x14, h, _⟩
    exact rounds_zero h
   ·
    intro n_ ih1_
    rintro t w ⟨x12, x13, x14, Ho, hf, hs⟩
    obtain ⟨O, rfl⟩ := hf.open
    show G _ _ _ _ [_, _, _, _, _, _, _, _, _, _, _, _, _, _, _, _, _, _, _, _, _, _, _, _, _, _, _, _, _, _] _
    obtain ⟨x9_, H, Hx1_⟩ := rounds_succ Ho
    have H : _impl_State_half.b0 N a1 x12 x13 x14 = some x9_ := H
    unfold _impl_State_half.b0 at H
    refine g_seq ?_
    refine g_region ?_
    show G _ _ _ (.inRegion _ [0] :: _) _ _
    refine g_op_b (B := decide (x14 < 4)) rfl rfl rfl ?_ ?_
    ·
     intro hb
     rw [if_pos (b_dec_t hb)] at H
     show G _ _ _ _ [_, _, _, _, _, _, _, _, _, _, _, _, _, _, _, _, _, _, _, _, _, _, _, _, _, _, _, _, _, _] _
     refine g_ops_nil ?_
     refine g_seq ?_
     refine g_cond_true rfl ?_
     refine g_skip ?_
     refine g_seq ?_
     refine g_block_join (J := (fun t w => ∃ x15 : (Ar Int 4), ∃ x16 : Bool, _impl_State_half.j2 N x14 x15 x16 = some x9_ ∧ Fr t (fun O => ([O 0, O 1, Value.pointer (some ⟨b4, 0, none⟩), Value.pointer (some ⟨b6, 0, none⟩), Value.bool x16, O 5, O 6, O 7, Value.agg ((encA (encI .i64)) a1).toArray, Value.int .i64 x14, O 10, O 11, O 12, O 13, O 14, O 15, O 16, O 17, O 18, O 19, O 20, O 21, O 22, O 23, O 24, O 25, O 26, O 27, O 28, O 29] : List Value)) ∧ St w0 [Cells b4 ((encA (encI .i64)) (Ar.rep 4 0)) 85, Cells b6 ((encA (encI .i64)) x15) 85] w)) ?_ ?_
     ·
      rintro t w ⟨x15, x16, H, hf, hs⟩
      obtain ⟨O, rfl⟩ := hf.open
      show G _ _ _ _ [_, _, _, _, _, _, _, _, _, _, _, _, _, _, _, _, _, _, _, _, _, _, _, _, _, _, _, _, _, _] _
      unfold _impl_State_half.j2 at H
      refine g_region ?_
      show G _ _ _ (.inRegion _ [0, 1] :: _) _ _
      refine g_op (v := Value.int .i64 (i64w (x14 + 1))) rfl rfl rfl ?_
      show G _ _ _ _ [_, _, _, _, _, _, _, _, _, _, _, _, _, _, _, _, _, _, _, _, _, _, _, _, _, _, _, _, _, _] _
      refine g_op (v := Value.int .i64 (i64w (x14 + 1))) rfl rfl rfl ?_
      refine g_ops_nil ?_
      obtain rfl := Option.some.inj H
      have hs := hs.pull 1 rfl
      have hs := hs.pull 1 rfl
      have hs : St _ [_, _] _ := St.take (Γ' := []) hs
      exact ih1_ _ _ ⟨x15, x16, i64w (x14 + 1), Hx1_, rfl, hs⟩
     ·
      intro ha
      refine g_seq ?_
      refine g_region ?_
      show G _ _ _ (.inRegion _ [0, 1, 2, 3] :: _) _ _
      refine g_op (v := Value.int .i64 x14) rfl rfl rfl ?_
      obtain ⟨g5, H⟩ := ite_get H
      refine s_indexV (enc := (encI .i64)) (c := Value.int .i64) (fun _ => rfl) 0 rfl (fun _ => rfl) (fun _ => rfl) g5.1 g5.2 rfl rfl rfl rfl rfl ?_
      show G _ _ _ _ [_, _, _, _, _, _, _, _, _, _, _, _, _, _, _, _, _, _, _, _, _, _, _, _, _, _, _, _, _, _] _
      refine g_op (v := Value.int .i64 x14) rfl rfl rfl ?_
      show G _ _ _ _ [_, _, _, _, _, _, _, _, _, _, _, _, _, _, _, _, _, _, _, _, _, _, _, _, _, _, _, _, _, _] _
      refine g_op (v := Value.int .i64 (a1.get x14 0)) rfl rfl rfl ?_
      show G _ _ _ _ [_, _, _, _, _, _, _, _, _, _, _, _, _, _, _, _, _, _, _, _, _, _, _, _, _, _, _, _, _, _] _
      refine g_ops_nil ?_
      refine g_seq ?_
      refine g_region ?_
      show G _ _ _ (.inRegion _ [0, 1, 2, 3, 4] :: _) _ _
      refine g_op (v := Value.int .i64 x14) rfl rfl rfl ?_
      refine g_op (v := Value.int .i64 (a1.get x14 0)) rfl rfl rfl ?_
      refine g_op (v := Value.int .i64 (i64w ((a1.get x14 0).tdiv 2))) rfl rfl rfl ?_
      show G _ _ _ _ [_, _, _, _, _, _, _, _, _, _, _, _, _, _, _, _, _, _, _, _, _, _, _, _, _, _, _, _, _, _] _
      obtain ⟨g6, H⟩ := ite_get H
      refine s_idxA (n := x14) (m := 1) rfl (fun _ => rfl) g6.1 g6.2 rfl rfl rfl rfl rfl ?_
      show G _ _ _ _ [_, _, _, _, _, _, _, _, _, _, _, _, _, _, _, _, _, _, _, _, _, _, _, _, _, _, _, _, _, _] _
      have hs := hs.pull 1 rfl
      have hs : St _ [_, _] _ := hs
      refine s_storeA (y := i64w ((a1.get x14 0).tdiv 2)) (fkI .i64).len (fkI .i64).one g6.1 g6.2 hs rfl rfl rfl rfl rfl (fun _ => rfl) ?_
      intro w hs
      refine g_ops_nil ?_
      refine g_seq ?_
      refine g_region ?_
      show G _ _ _ (.inRegion _ [0, 1, 2] :: _) _ _
      refine g_op (v := Value.int .i64 (a1.get x14 0)) rfl rfl rfl ?_
      refine g_op (v := Value.int .i64 ((a1.get x14 0).tmod 2)) rfl rfl rfl ?_
      show G _ _ _ _ [_, _, _, _, _, _, _, _, _, _, _, _, _, _, _, _, _, _, _, _, _, _, _, _, _, _, _, _, _, _] _
      refine g_op_b (B := ((a1.get x14 0).tmod 2) == 1) rfl rfl rfl ?_ ?_
      ·
       intro hb
       rw [if_pos (b_beq_t hb)] at H
       show G _ _ _ _ [_, _, _, _, _, _, _, _, _, _, _, _, _, _, _, _, _, _, _, _, _, _, _, _, _, _, _, _, _, _] _
       refine g_ops_nil ?_
       refine g_cond_true rfl ?_
       refine g_seq ?_
       refine g_seq ?_
       refine g_region ?_
       show G _ _ _ (.inRegion _ [0] :: _) _ _
       refine g_op_b (B := x13) rfl rfl rfl ?_ ?_
       ·
        intro hb
        rw [if_pos (b_var_t hb)] at H
        refine g_ops_nil ?_
        refine g_cond_true rfl ?_
        refine g_region ?_
        show G _ _ _ (.inRegion _ [0, 1, 2, 3, 4, 5] :: _) _ _
        refine g_op (v := Value.int .i64 x14) rfl rfl rfl ?_
        obtain ⟨g7, H⟩ := ite_get H
        refine s_idxA (n := x14) (m := 1) rfl (fun _ => rfl) g7.1 g7.2 rfl rfl rfl rfl rfl ?_
        show G _ _ _ _ [_, _, _, _, _, _, _, _, _, _, _, _, _, _, _, _, _, _, _, _, _, _, _, _, _, _, _, _, _, _] _
        refine s_load1 rfl rfl (v := Value.int .i64 ((x12.set x14 (i64w ((a1.get x14 0).tdiv 2))).get x14 0)) rfl rfl (fun _ => rfl) (by rw [Nat.zero_add]; exact cells_load (hs.cells 0 rfl) _ _ (encA_at (fkI .i64).len _ _ 0 g7.1 g7.2)) ?_
        show G _ _ _ _ [_, _, _, _, _, _, _, _, _, _, _, _, _, _, _, _, _, _, _, _, _, _, _, _, _, _, _, _, _, _] _
        refine g_op (v := Value.int .i64 (i64w (((x12.set x14 (i64w ((a1.get x14 0).tdiv 2))).get x14 0) + 1))) rfl rfl rfl ?_
        show G _ _ _ _ [_, _, _, _, _, _, _, _, _, _, _, _, _, _, _, _, _, _, _, _, _, _, _, _, _, _, _, _, _, _] _
        obtain ⟨g8, H⟩ := ite_get H
        refine s_idxA (n := x14) (m := 1) rfl (fun _ => rfl) g8.1 g8.2 rfl rfl rfl rfl rfl ?_
        show G _ _ _ _ [_, _, _, _, _, _, _, _, _, _, _, _, _, _, _, _, _, _, _, _, _, _, _, _, _, _, _, _, _, _] _
        refine s_storeA (y := i64w (((x12.set x14 (i64w ((a1.get x14 0).tdiv 2))).get x14 0) + 1)) (fkI .i64).len (fkI .i64).one g8.1 g8.2 hs rfl rfl rfl rfl rfl (fun _ => rfl) ?_
        intro w hs
        refine g_ops_nil ?_
        refine g_region ?_
        show G _ _ _ (.inRegion _ [0, 1, 2] :: _) _ _
        refine g_op (v := Value.bool x13) rfl rfl rfl ?_
        refine g_op (v := Value.bool (!x13)) rfl rfl rfl ?_
        show G _ _ _ _ [_, _, _, _, _, _, _, _, _, _, _, _, _, _, _, _, _, _, _, _, _, _, _, _, _, _, _, _, _, _] _
        refine g_op (v := Value.bool (!x13)) rfl rfl rfl ?_
        show G _ _ _ _ [_, _, _, _, _, _, _, _, _, _, _, _, _, _, _, _, _, _, _, _, _, _, _, _, _, _, _, _, _, _] _
        refine g_ops_nil ?_
        refine g_inBlock ?_
        have hs := hs.pull 0 rfl
        have hs := hs.pull 1 rfl
        have hs : St _ [_, _] _ := St.take (Γ' := []) hs
        exact ha _ _ ⟨(x12.set x14 (i64w ((a1.get x14 0).tdiv 2))).set x14 (i64w (((x12.set x14 (i64w ((a1.get x14 0).tdiv 2))).get x14 0) + 1)), !x13, H, rfl, hs⟩
       ·
        intro hb
        rw [if_neg (b_var_f hb)] at H
        refine g_ops_nil ?_
        refine g_cond_false rfl ?_
        refine g_skip ?_
        refine g_region ?_
        show G _ _ _ (.inRegion _ [0, 1, 2] :: _) _ _
        refine g_op (v := Value.bool x13) rfl rfl rfl ?_
        refine g_op (v := Value.bool (!x13)) rfl rfl rfl ?_
        show G _ _ _ _ [_, _, _, _, _, _, _, _, _, _, _, _, _, _, _, _, _, _, _, _, _, _, _, _, _, _, _, _, _, _] _
        refine g_op (v := Value.bool (!x13)) rfl rfl rfl ?_
        show G _ _ _ _ [_, _, _, _, _, _, _, _, _, _, _, _, _, _, _, _, _, _, _, _, _, _, _, _, _, _, _, _, _, _] _
        refine g_ops_nil ?_
        refine g_inBlock ?_
        have hs := hs.pull 0 rfl
        have hs := hs.pull 1 rfl
        have hs : St _ [_, _] _ := St.take (Γ' := []) hs
        exact ha _ _ ⟨x12.set x14 (i64w ((a1.get x14 0).tdiv 2)), !x13, H, rfl, hs⟩
      ·
       intro hb
       rw [if_neg (b_beq_f hb)] at H
       show G _ _ _ _ [_, _, _, _, _, _, _, _, _, _, _, _, _, _, _, _, _, _, _, _, _, _, _, _, _, _, _, _, _, _] _
       refine g_ops_nil ?_
       refine g_cond_false rfl ?_
       refine g_skip ?_
       refine g_inBlock ?_
       have hs := hs.pull 0 rfl
       have hs := hs.pull 1 rfl
       have hs : St _ [_, _] _ := St.take (Γ' := []) hs
       exact ha _ _ ⟨x12.set x14 (i64w ((a1.get x14 0).tdiv 2)), x13, H, rfl, hs⟩
    ·
     intro hb
     rw [if_neg (b_dec_f hb)] at H
     show G _ _ _ _ [_, _, _, _, _, _, _, _, _, _, _, _, _, _, _, _, _, _, _, _, _, _, _, _, _, _, _, _, _, _] _
     refine g_ops_nil ?_
     refine g_seq ?_
     refine g_cond_false rfl ?_
     obtain rfl := Option.some.inj H
     subst Hx1_
     have hs := hs.pull 1 rfl
     have hs := hs.pull 1 rfl
     have hs : St _ [_, _] _ := St.take (Γ' := []) hs
     refine g_exit rfl ?_
     exact ha1_ _ _ ⟨x12, Hr1_, rfl, hs⟩

end Go.Proofs.YtpbkenbmjgchkaaX
