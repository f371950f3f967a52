/- Contracts, printed by gen.py. -/
import Derived.Test.YtpbkenbmjgchkaaXC3
namespace Go.Proofs.YtpbkenbmjgchkaaX
open Go Go.RowKit Go.Proofs
set_option linter.unusedVariables false
set_option linter.unusedSimpArgs false
/- function 50 _impl_Game_sorts -/
def _impl_Game_sorts.post (w0 : World) (r : (Ar (List Int) 4)) (v : Value) (w : World) : Prop := ∃ u1 : Value, ∃ u2 : Value, ∃ u3 : Value, ∃ u4 : Value, v = Value.agg (([u1, u2, u3, u4] : List Value)).toArray ∧ St w0 [Row 2 (K.int .i64) u1 (r.get 0 []), Row 2 (K.int .i64) u2 (r.get 1 []), Row 2 (K.int .i64) u3 (r.get 2 []), Row 2 (K.int .i64) u4 (r.get 3 [])] w
set_option maxHeartbeats 8000000 in
set_option maxRecDepth 100000 in
theorem _impl_Game_sorts.calls {N : Nat} {a1 : S_impl_Game} {v2 : Value} {w0 : World} {r : (Ar (List Int) 4)} (hr3 : RdRow k_S_impl_Ask w0 v2 a1.f_Asked) (H : _impl_Game_sorts.f N a1 = some r) :
    Calls Try.prog 50 #[Value.agg (([Value.int .i8 a1.f_Numbers, Value.int .i8 a1.f_Lies, v2] : List Value)).toArray] w0 fun e w => ∃ v, e = .returned v ∧ _impl_Game_sorts.post w0 r v w := by
  unfold _impl_Game_sorts.f at H
  have hs : St w0 [] w0 := St.refl w0
  refine calls_of_g (n := 31) Try.func50 rfl rfl ?_
  show G _ _ _ _ [_, _, _, _, _, _, _, _, _, _, _, _, _, _, _, _, _, _, _, _, _, _, _, _, _, _, _, _, _, _, _, _] _
  refine g_seq ?_
  refine g_region ?_
  show G _ _ _ (.inRegion _ [0, 1] :: _) _ _
  refine s_box hs rfl rfl (cs := (([Value.int .i8 a1.f_Numbers, Value.int .i8 a1.f_Lies, v2] : List Value))) rfl rfl ?_
  intro b4 w hs
  show G _ _ _ _ [_, _, _, _, _, _, _, _, _, _, _, _, _, _, _, _, _, _, _, _, _, _, _, _, _, _, _, _, _, _, _, _] _
  refine s_alloc hs rfl rfl (z := (Value.agg #[Value.slice none 0 0, Value.slice none 0 0, Value.slice none 0 0, Value.slice none 0 0])) (cs := (([Value.slice none 0 0, Value.slice none 0 0, Value.slice none 0 0, Value.slice none 0 0] : List Value))) rfl (fun _ => rfl) rfl ?_
  intro b6 w hs
  show G _ _ _ _ [_, _, _, _, _, _, _, _, _, _, _, _, _, _, _, _, _, _, _, _, _, _, _, _, _, _, _, _, _, _, _, _] _
  refine g_ops_nil ?_
  refine g_seq ?_
  refine g_region ?_
  show G _ _ _ (.inRegion _ [0, 1, 2] :: _) _ _
  refine g_op (v := Value.agg (([Value.slice none 0 0, Value.slice none 0 0, Value.slice none 0 0, Value.slice none 0 0] : List Value)).toArray) rfl rfl (x_build rfl rfl) ?_
  show G _ _ _ _ [_, _, _, _, _, _, _, _, _, _, _, _, _, _, _, _, _, _, _, _, _, _, _, _, _, _, _, _, _, _, _, _] _
  refine s_alloc hs rfl rfl (z := (Value.agg #[Value.slice none 0 0, Value.slice none 0 0, Value.slice none 0 0, Value.slice none 0 0])) (cs := (([Value.slice none 0 0, Value.slice none 0 0, Value.slice none 0 0, Value.slice none 0 0] : List Value))) rfl (fun _ => rfl) rfl ?_
  intro b8 w hs
  show G _ _ _ _ [_, _, _, _, _, _, _, _, _, _, _, _, _, _, _, _, _, _, _, _, _, _, _, _, _, _, _, _, _, _, _, _] _
  refine s_storeAll (n := 4) hs rfl rfl rfl (vs := (([Value.slice none 0 0, Value.slice none 0 0, Value.slice none 0 0, Value.slice none 0 0] : List Value))) rfl rfl rfl (fun _ => rfl) rfl (by simp [Value.oneCell']) ?_
  intro w hs
  refine g_ops_nil ?_
  refine g_seq ?_
  refine g_seq ?_
  refine g_region ?_
  show G _ _ _ (.inRegion _ [0, 1, 2, 3] :: _) _ _
  refine g_op (v := Value.pointer (some ⟨b4, 0, none⟩)) rfl rfl rfl ?_
  refine s_load1 rfl rfl (v := Value.int .i8 a1.f_Numbers) rfl rfl (fun _ => rfl) (cells_load (hs.cells 2 rfl) 0 1 rfl) ?_
  show G _ _ _ _ [_, _, _, _, _, _, _, _, _, _, _, _, _, _, _, _, _, _, _, _, _, _, _, _, _, _, _, _, _, _, _, _] _
  refine g_op (v := Value.int .i64 (i64w a1.f_Numbers)) rfl rfl rfl ?_
  refine g_op (v := Value.int .i64 0) rfl rfl rfl ?_
  refine g_ops_nil ?_
  obtain ⟨o1_, Ho, Hr1_⟩ := bind_get H
  refine g_block_join (J := fun t w => ∃ v90 : Value, ∃ x91 : (List Int), ∃ v93 : Value, ∃ x94 : (List Int), ∃ v96 : Value, ∃ x97 : (List Int), ∃ v99 : Value, ∃ x100 : (List Int), _impl_Game_sorts.a0 N x91 x94 x97 x100 = some r ∧ Fr t (fun O => ([O 0, O 1, Value.pointer (some ⟨b6, 0, none⟩), Value.pointer (some ⟨b8, 0, none⟩), O 4, O 5, O 6, O 7, O 8, O 9, O 10, O 11, O 12, O 13, O 14, O 15, O 16, O 17, O 18, O 19, O 20, O 21, O 22, O 23, O 24, O 25, O 26, O 27, O 28, O 29, O 30, O 31] : List Value)) ∧ St w0 [Cells b6 (([Value.slice none 0 0, Value.slice none 0 0, Value.slice none 0 0, Value.slice none 0 0] : List Value)) 76, Cells b8 (([v90, v93, v96, v99] : List Value)) 76, Row 2 (K.int .i64) v90 x91, Row 2 (K.int .i64) v93 x94, Row 2 (K.int .i64) v96 x97, Row 2 (K.int .i64) v99 x100] w) ?_ ?_
  ·
   rintro t w ⟨v90, x91, v93, x94, v96, x97, v99, x100, H, hf, hs⟩
   obtain ⟨O, rfl⟩ := hf.open
   show G _ _ _ _ [_, _, _, _, _, _, _, _, _, _, _, _, _, _, _, _, _, _, _, _, _, _, _, _, _, _, _, _, _, _, _, _] _
   unfold _impl_Game_sorts.a0 at H
   refine g_seq ?_
   refine g_region ?_
   show G _ _ _ (.inRegion _ [0, 1] :: _) _ _
   refine s_loadA rfl rfl (es := (([v90, v93, v96, v99] : List Value))) rfl rfl (fun _ => rfl) (n := 4) (fun _ => rfl) rfl (cells_all (hs.cells 1 rfl)) ?_
   show G _ _ _ _ [_, _, _, _, _, _, _, _, _, _, _, _, _, _, _, _, _, _, _, _, _, _, _, _, _, _, _, _, _, _, _, _] _
   refine s_storeAll (n := 4) hs rfl rfl rfl (vs := (([v90, v93, v96, v99] : List Value))) rfl rfl rfl (fun _ => rfl) rfl (by intro v hv; simp only [List.mem_append, List.mem_cons, List.not_mem_nil, or_false] at hv; repeat (first | (subst hv; first | rfl | exact slOne (hs.row 2 rfl) | exact slOne (hs.row 3 rfl) | exact slOne (hs.row 4 rfl) | exact slOne (hs.row 5 rfl)) | (rcases hv with hv | hv))) ?_
   intro w hs
   refine g_ops_nil ?_
   obtain rfl := Option.some.inj H
   refine g_ret Try.func50 (v := Value.agg (([v90, v93, v96, v99] : List Value)).toArray) (resC rfl ⟨⟨_, rfl, (run_loadVar_agg (es := (([v90, v93, v96, v99] : List Value))) rfl rfl (cells_all (hs.cells 0 rfl)))⟩, trivial⟩) ?_
   have hs := hs.pull 5 rfl
   have hs := hs.pull 5 rfl
   have hs := hs.pull 5 rfl
   have hs := hs.pull 5 rfl
   have hs : St _ [_, _, _, _] _ := St.take (Γ' := [_, _]) hs
   exact ⟨_, rfl, v90, v93, v96, v99, rfl, hs⟩
  ·
   intro ha1_
   have hs := hs.nil 2 (K.int .i64)
   have hs := hs.nil 2 (K.int .i64)
   have hs := hs.nil 2 (K.int .i64)
   have hs := hs.nil 2 (K.int .i64)
   have hs := hs.pull 4 rfl
   have hs := hs.pull 1 rfl
   have hs := hs.pull 2 rfl
   have hs := hs.pull 3 rfl
   have hs := hs.pull 4 rfl
   have hs := hs.pull 5 rfl
   have hs := hs.pull 6 rfl
   have hs : St _ [_, _, _, _, _, _, _] _ := St.take (Γ' := []) hs
   refine g_loop_fuel (I := fun n_ t w => ∃ v47 : Value, ∃ x48 : (List Int), ∃ v50 : Value, ∃ x51 : (List Int), ∃ v53 : Value, ∃ x54 : (List Int), ∃ v56 : Value, ∃ x57 : (List Int), ∃ x58 : Int, rounds (fun s => _impl_Game_sorts.b0 N a1 s.1 s.2.1 s.2.2.1 s.2.2.2.1 s.2.2.2.2) n_ (x48, x51, x54, x57, x58) = some o1_ ∧ Fr t (fun O => ([O 0, Value.pointer (some ⟨b4, 0, none⟩), Value.pointer (some ⟨b6, 0, none⟩), Value.pointer (some ⟨b8, 0, none⟩), O 4, O 5, O 6, O 7, O 8, Value.int .i64 (i64w a1.f_Numbers), Value.int .i64 x58, O 11, O 12, O 13, O 14, O 15, O 16, O 17, O 18, O 19, O 20, O 21, O 22, O 23, O 24, O 25, O 26, O 27, O 28, O 29, O 30, O 31] : List Value)) ∧ St w0 [Cells b4 (([Value.int .i8 a1.f_Numbers, Value.int .i8 a1.f_Lies, v2] : List Value)) 31, Cells b6 (([Value.slice none 0 0, Value.slice none 0 0, Value.slice none 0 0, Value.slice none 0 0] : List Value)) 76, Row 2 (K.int .i64) v47 x48, Row 2 (K.int .i64) v50 x51, Row 2 (K.int .i64) v53 x54, Row 2 (K.int .i64) v56 x57, Cells b8 (([v47, v50, v53, v56] : List Value)) 76] w) N ⟨Value.slice none 0 0, [], Value.slice none 0 0, [], Value.slice none 0 0, [], Value.slice none 0 0, [], 0, Ho, rfl, hs⟩ ?_ ?_
   ·
    rintro _ _ ⟨v47, x48, v50, x51, v53, x54, v56, x57, x58, h, _⟩
    exact rounds_zero h
   ·
    intro n_ ih1_
    rintro t w ⟨v47, x48, v50, x51, v53, x54, v56, x57, x58, Ho, hf, hs⟩
    obtain ⟨O, rfl⟩ := hf.open
    show G _ _ _ _ [_, _, _, _, _, _, _, _, _, _, _, _, _, _, _, _, _, _, _, _, _, _, _, _, _, _, _, _, _, _, _, _] _
    obtain ⟨x9_, H, Hx1_⟩ := rounds_succ Ho
    have H : _impl_Game_sorts.b0 N a1 x48 x51 x54 x57 x58 = some x9_ := H
    unfold _impl_Game_sorts.b0 at H
    refine g_seq ?_
    refine g_region ?_
    show G _ _ _ (.inRegion _ [0] :: _) _ _
    refine g_op_b (B := decide (x58 < (i64w a1.f_Numbers))) rfl rfl rfl ?_ ?_
    ·
     intro hb
     rw [if_pos (b_dec_t hb)] at H
     show G _ _ _ _ [_, _, _, _, _, _, _, _, _, _, _, _, _, _, _, _, _, _, _, _, _, _, _, _, _, _, _, _, _, _, _, _] _
     refine g_ops_nil ?_
     refine g_seq ?_
     refine g_cond_true rfl ?_
     refine g_skip ?_
     refine g_seq ?_
     refine g_block_join (J := (fun t w => ∃ v78 : Value, ∃ x79 : (List Int), ∃ v81 : Value, ∃ x82 : (List Int), ∃ v84 : Value, ∃ x85 : (List Int), ∃ v87 : Value, ∃ x88 : (List Int), _impl_Game_sorts.j2 N x58 x79 x82 x85 x88 = some x9_ ∧ Fr t (fun O => ([O 0, Value.pointer (some ⟨b4, 0, none⟩), Value.pointer (some ⟨b6, 0, none⟩), Value.pointer (some ⟨b8, 0, none⟩), O 4, O 5, O 6, O 7, O 8, Value.int .i64 (i64w a1.f_Numbers), Value.int .i64 x58, O 11, O 12, O 13, O 14, O 15, O 16, O 17, O 18, O 19, O 20, O 21, O 22, O 23, O 24, O 25, O 26, O 27, O 28, O 29, O 30, O 31] : List Value)) ∧ St w0 [Cells b4 (([Value.int .i8 a1.f_Numbers, Value.int .i8 a1.f_Lies, v2] : List Value)) 31, Cells b6 (([Value.slice none 0 0, Value.slice none 0 0, Value.slice none 0 0, Value.slice none 0 0] : List Value)) 76, Cells b8 (([v78, v81, v84, v87] : List Value)) 76, Row 2 (K.int .i64) v78 x79, Row 2 (K.int .i64) v81 x82, Row 2 (K.int .i64) v84 x85, Row 2 (K.int .i64) v87 x88] w)) ?_ ?_
     ·
      rintro t w ⟨v78, x79, v81, x82, v84, x85, v87, x88, H, hf, hs⟩
      obtain ⟨O, rfl⟩ := hf.open
      show G _ _ _ _ [_, _, _, _, _, _, _, _, _, _, _, _, _, _, _, _, _, _, _, _, _, _, _, _, _, _, _, _, _, _, _, _] _
      unfold _impl_Game_sorts.j2 at H
      refine g_region ?_
      show G _ _ _ (.inRegion _ [0, 1] :: _) _ _
      refine g_op (v := Value.int .i64 (i64w (x58 + 1))) rfl rfl rfl ?_
      show G _ _ _ _ [_, _, _, _, _, _, _, _, _, _, _, _, _, _, _, _, _, _, _, _, _, _, _, _, _, _, _, _, _, _, _, _] _
      refine g_op (v := Value.int .i64 (i64w (x58 + 1))) rfl rfl rfl ?_
      refine g_ops_nil ?_
      obtain rfl := Option.some.inj H
      have hs := hs.pull 2 rfl
      have hs := hs.pull 6 rfl
      have hs := hs.pull 6 rfl
      have hs := hs.pull 6 rfl
      have hs := hs.pull 6 rfl
      have hs := hs.pull 6 rfl
      have hs := hs.pull 6 rfl
      have hs : St _ [_, _, _, _, _, _, _] _ := St.take (Γ' := []) hs
      exact ih1_ _ _ ⟨v78, x79, v81, x82, v84, x85, v87, x88, i64w (x58 + 1), Hx1_, rfl, hs⟩
     ·
      intro ha
      refine g_seq ?_
      refine g_region ?_
      show G _ _ _ (.inRegion _ [0, 1] :: _) _ _
      refine g_op (v := Value.int .i64 x58) rfl rfl rfl ?_
      refine g_op (v := Value.int .i64 x58) rfl rfl rfl ?_
      show G _ _ _ _ [_, _, _, _, _, _, _, _, _, _, _, _, _, _, _, _, _, _, _, _, _, _, _, _, _, _, _, _, _, _, _, _] _
      refine g_ops_nil ?_
      refine g_seq ?_
      refine g_region ?_
      show G _ _ _ (.inRegion _ [0, 1, 2, 3, 4] :: _) _ _
      refine s_loadA rfl rfl (es := (([Value.int .i8 a1.f_Numbers, Value.int .i8 a1.f_Lies, v2] : List Value))) rfl rfl (fun _ => rfl) (n := 3) (fun _ => rfl) rfl (cells_all (hs.cells 0 rfl)) ?_
      show G _ _ _ _ [_, _, _, _, _, _, _, _, _, _, _, _, _, _, _, _, _, _, _, _, _, _, _, _, _, _, _, _, _, _, _, _] _
      refine g_op (v := Value.int .i64 x58) rfl rfl rfl ?_
      obtain ⟨r59, Hr59, H⟩ := bind_get H
      refine s_call (args := [Value.agg (([Value.int .i8 a1.f_Numbers, Value.int .i8 a1.f_Lies, v2] : List Value)).toArray, Value.int .i64 x58]) rfl rfl (x_call rfl (callFunc_enter Try.func65 rfl rfl) rfl) (_impl_Game_wrongFor.calls (a1 := (⟨a1.f_Numbers, a1.f_Lies, a1.f_Asked⟩ : S_impl_Game)) (a4 := x58) (hs.rd hr3) Hr59) ?_
      intro v60 w hs2
      have hs : St _ [_, _, _, _, _, _, _, _] _ := hs.call hs2
      show G _ _ _ _ [_, _, _, _, _, _, _, _, _, _, _, _, _, _, _, _, _, _, _, _, _, _, _, _, _, _, _, _, _, _, _, _] _
      refine s_len (hs.row 0 rfl) rfl rfl rfl rfl rfl ?_
      show G _ _ _ _ [_, _, _, _, _, _, _, _, _, _, _, _, _, _, _, _, _, _, _, _, _, _, _, _, _, _, _, _, _, _, _, _] _
      refine g_op (v := Value.int .i64 (r59.length : Int)) rfl rfl rfl ?_
      show G _ _ _ _ [_, _, _, _, _, _, _, _, _, _, _, _, _, _, _, _, _, _, _, _, _, _, _, _, _, _, _, _, _, _, _, _] _
      refine g_ops_nil ?_
      refine g_seq ?_
      refine g_region ?_
      show G _ _ _ (.inRegion _ [0, 1, 2, 3, 4] :: _) _ _
      refine g_op (v := Value.int .i64 (r59.length : Int)) rfl rfl rfl ?_
      refine g_op (v := Value.pointer (some ⟨b4, 1, none⟩)) rfl rfl rfl ?_
      refine s_load1 rfl rfl (v := Value.int .i8 a1.f_Lies) rfl rfl (fun _ => rfl) (cells_load (hs.cells 1 rfl) 1 1 rfl) ?_
      show G _ _ _ _ [_, _, _, _, _, _, _, _, _, _, _, _, _, _, _, _, _, _, _, _, _, _, _, _, _, _, _, _, _, _, _, _] _
      refine g_op (v := Value.int .i64 (i64w a1.f_Lies)) rfl rfl rfl ?_
      refine g_op_b (B := decide ((r59.length : Int) ≤ (i64w a1.f_Lies))) rfl rfl rfl ?_ ?_
      ·
       intro hb
       rw [if_pos (b_dec_t hb)] at H
       show G _ _ _ _ [_, _, _, _, _, _, _, _, _, _, _, _, _, _, _, _, _, _, _, _, _, _, _, _, _, _, _, _, _, _, _, _] _
       refine g_ops_nil ?_
       refine g_cond_true rfl ?_
       by_cases hk5_ : (r59.length : Int) = 0
       ·
        rw [if_pos hk5_] at H
        refine g_region ?_
        show G _ _ _ (.inRegion _ [0, 1, 2, 3, 4, 5, 6, 7, 8] :: _) _ _
        refine g_op (v := Value.int .i64 (r59.length : Int)) rfl rfl rfl ?_
        refine g_op (v := Value.int .i64 (r59.length : Int)) rfl rfl rfl ?_
        refine s_idxJ (m := 1) 0 hk5_ (by decide) rfl (fun _ => rfl) rfl rfl rfl rfl rfl ?_
        show G _ _ _ _ [_, _, _, _, _, _, _, _, _, _, _, _, _, _, _, _, _, _, _, _, _, _, _, _, _, _, _, _, _, _, _, _] _
        refine s_load1 rfl rfl (v := v47) rfl rfl (fun _ => rfl) (cells_load (hs.cells 7 rfl) 0 1 rfl) ?_
        show G _ _ _ _ [_, _, _, _, _, _, _, _, _, _, _, _, _, _, _, _, _, _, _, _, _, _, _, _, _, _, _, _, _, _, _, _] _
        refine g_op (v := Value.int .i64 x58) rfl rfl rfl ?_
        refine s_lit1 (fkI .i64) (y := x58) hs rfl rfl rfl rfl (fun _ => rfl) (zv := (Value.int .i64 0)) (fun _ => rfl) rfl (by decide) (by decide) rfl ?_
        intro v62 w hs
        show G _ _ _ _ [_, _, _, _, _, _, _, _, _, _, _, _, _, _, _, _, _, _, _, _, _, _, _, _, _, _, _, _, _, _, _, _] _
        have hs := hs.pull 4 rfl
        have hs : St _ [_, _, _, _, _, _, _, _, _] _ := hs
        obtain ⟨g, H⟩ := ite_get H
        refine s_append (fkI .i64) (zv := (Value.int .i64 0)) (B := 8) hs (hs.row 1 rfl) rfl rfl rfl rfl rfl rfl rfl rfl rfl (by decide) rfl rfl (by decide) (by omega) ?_
        intro v64 w hs
        show G _ _ _ _ [_, _, _, _, _, _, _, _, _, _, _, _, _, _, _, _, _, _, _, _, _, _, _, _, _, _, _, _, _, _, _, _] _
        refine s_idxJ (m := 1) 0 hk5_ (by decide) rfl (fun _ => rfl) rfl rfl rfl rfl rfl ?_
        show G _ _ _ _ [_, _, _, _, _, _, _, _, _, _, _, _, _, _, _, _, _, _, _, _, _, _, _, _, _, _, _, _, _, _, _, _] _
        have hs := hs.pull 8 rfl
        have hs : St _ [_, _, _, _, _, _, _, _, _] _ := hs
        refine s_store hs rfl rfl (vs := [v64]) (cs' := (([v64, v50, v53, v56] : List Value))) rfl rfl (slCells (hs.row 1 rfl)) (n := 1) (fun _ => rfl) rfl (by first | exact Nat.le_of_ble_eq_true rfl | simp [encA_len]) (by intro v hv; simp only [List.mem_cons, List.not_mem_nil, or_false] at hv; subst hv; exact slOne (hs.row 1 rfl)) rfl ?_
        intro w hs
        refine g_ops_nil ?_
        refine g_inBlock ?_
        have hs := hs.pull 8 rfl
        have hs := hs.pull 8 rfl
        have hs := hs.pull 8 rfl
        have hs := hs.pull 4 rfl
        have hs := hs.pull 4 rfl
        have hs := hs.pull 8 rfl
        have hs := hs.pull 8 rfl
        have hs : St _ [_, _, _, _, _, _, _] _ := St.take (Γ' := [_, _]) hs
        exact ha _ _ ⟨v64, x48 ++ ([x58]), v50, x51, v53, x54, v56, x57, H, rfl, hs⟩
       ·
        rw [if_neg hk5_] at H
        by_cases hk6_ : (r59.length : Int) = 1
        ·
         rw [if_pos hk6_] at H
         refine g_region ?_
         show G _ _ _ (.inRegion _ [0, 1, 2, 3, 4, 5, 6, 7, 8] :: _) _ _
         refine g_op (v := Value.int .i64 (r59.length : Int)) rfl rfl rfl ?_
         refine g_op (v := Value.int .i64 (r59.length : Int)) rfl rfl rfl ?_
         refine s_idxJ (m := 1) 1 hk6_ (by decide) rfl (fun _ => rfl) rfl rfl rfl rfl rfl ?_
         show G _ _ _ _ [_, _, _, _, _, _, _, _, _, _, _, _, _, _, _, _, _, _, _, _, _, _, _, _, _, _, _, _, _, _, _, _] _
         refine s_load1 rfl rfl (v := v50) rfl rfl (fun _ => rfl) (cells_load (hs.cells 7 rfl) 1 1 rfl) ?_
         show G _ _ _ _ [_, _, _, _, _, _, _, _, _, _, _, _, _, _, _, _, _, _, _, _, _, _, _, _, _, _, _, _, _, _, _, _] _
         refine g_op (v := Value.int .i64 x58) rfl rfl rfl ?_
         refine s_lit1 (fkI .i64) (y := x58) hs rfl rfl rfl rfl (fun _ => rfl) (zv := (Value.int .i64 0)) (fun _ => rfl) rfl (by decide) (by decide) rfl ?_
         intro v66 w hs
         show G _ _ _ _ [_, _, _, _, _, _, _, _, _, _, _, _, _, _, _, _, _, _, _, _, _, _, _, _, _, _, _, _, _, _, _, _] _
         have hs := hs.pull 5 rfl
         have hs : St _ [_, _, _, _, _, _, _, _, _] _ := hs
         obtain ⟨g, H⟩ := ite_get H
         refine s_append (fkI .i64) (zv := (Value.int .i64 0)) (B := 8) hs (hs.row 1 rfl) rfl rfl rfl rfl rfl rfl rfl rfl rfl (by decide) rfl rfl (by decide) (by omega) ?_
         intro v68 w hs
         show G _ _ _ _ [_, _, _, _, _, _, _, _, _, _, _, _, _, _, _, _, _, _, _, _, _, _, _, _, _, _, _, _, _, _, _, _] _
         refine s_idxJ (m := 1) 1 hk6_ (by decide) rfl (fun _ => rfl) rfl rfl rfl rfl rfl ?_
         show G _ _ _ _ [_, _, _, _, _, _, _, _, _, _, _, _, _, _, _, _, _, _, _, _, _, _, _, _, _, _, _, _, _, _, _, _] _
         have hs := hs.pull 8 rfl
         have hs : St _ [_, _, _, _, _, _, _, _, _] _ := hs
         refine s_store hs rfl rfl (vs := [v68]) (cs' := (([v47, v68, v53, v56] : List Value))) rfl rfl (slCells (hs.row 1 rfl)) (n := 1) (fun _ => rfl) rfl (by first | exact Nat.le_of_ble_eq_true rfl | simp [encA_len]) (by intro v hv; simp only [List.mem_cons, List.not_mem_nil, or_false] at hv; subst hv; exact slOne (hs.row 1 rfl)) rfl ?_
         intro w hs
         refine g_ops_nil ?_
         refine g_inBlock ?_
         have hs := hs.pull 8 rfl
         have hs := hs.pull 8 rfl
         have hs := hs.pull 3 rfl
         have hs := hs.pull 8 rfl
         have hs := hs.pull 4 rfl
         have hs := hs.pull 8 rfl
         have hs := hs.pull 8 rfl
         have hs : St _ [_, _, _, _, _, _, _] _ := St.take (Γ' := [_, _]) hs
         exact ha _ _ ⟨v47, x48, v68, x51 ++ ([x58]), v53, x54, v56, x57, H, rfl, hs⟩
        ·
         rw [if_neg hk6_] at H
         by_cases hk7_ : (r59.length : Int) = 2
         ·
          rw [if_pos hk7_] at H
          refine g_region ?_
          show G _ _ _ (.inRegion _ [0, 1, 2, 3, 4, 5, 6, 7, 8] :: _) _ _
          refine g_op (v := Value.int .i64 (r59.length : Int)) rfl rfl rfl ?_
          refine g_op (v := Value.int .i64 (r59.length : Int)) rfl rfl rfl ?_
          refine s_idxJ (m := 1) 2 hk7_ (by decide) rfl (fun _ => rfl) rfl rfl rfl rfl rfl ?_
          show G _ _ _ _ [_, _, _, _, _, _, _, _, _, _, _, _, _, _, _, _, _, _, _, _, _, _, _, _, _, _, _, _, _, _, _, _] _
          refine s_load1 rfl rfl (v := v53) rfl rfl (fun _ => rfl) (cells_load (hs.cells 7 rfl) 2 1 rfl) ?_
          show G _ _ _ _ [_, _, _, _, _, _, _, _, _, _, _, _, _, _, _, _, _, _, _, _, _, _, _, _, _, _, _, _, _, _, _, _] _
          refine g_op (v := Value.int .i64 x58) rfl rfl rfl ?_
          refine s_lit1 (fkI .i64) (y := x58) hs rfl rfl rfl rfl (fun _ => rfl) (zv := (Value.int .i64 0)) (fun _ => rfl) rfl (by decide) (by decide) rfl ?_
          intro v70 w hs
          show G _ _ _ _ [_, _, _, _, _, _, _, _, _, _, _, _, _, _, _, _, _, _, _, _, _, _, _, _, _, _, _, _, _, _, _, _] _
          have hs := hs.pull 6 rfl
          have hs : St _ [_, _, _, _, _, _, _, _, _] _ := hs
          obtain ⟨g, H⟩ := ite_get H
          refine s_append (fkI .i64) (zv := (Value.int .i64 0)) (B := 8) hs (hs.row 1 rfl) rfl rfl rfl rfl rfl rfl rfl rfl rfl (by decide) rfl rfl (by decide) (by omega) ?_
          intro v72 w hs
          show G _ _ _ _ [_, _, _, _, _, _, _, _, _, _, _, _, _, _, _, _, _, _, _, _, _, _, _, _, _, _, _, _, _, _, _, _] _
          refine s_idxJ (m := 1) 2 hk7_ (by decide) rfl (fun _ => rfl) rfl rfl rfl rfl rfl ?_
          show G _ _ _ _ [_, _, _, _, _, _, _, _, _, _, _, _, _, _, _, _, _, _, _, _, _, _, _, _, _, _, _, _, _, _, _, _] _
          have hs := hs.pull 8 rfl
          have hs : St _ [_, _, _, _, _, _, _, _, _] _ := hs
          refine s_store hs rfl rfl (vs := [v72]) (cs' := (([v47, v50, v72, v56] : List Value))) rfl rfl (slCells (hs.row 1 rfl)) (n := 1) (fun _ => rfl) rfl (by first | exact Nat.le_of_ble_eq_true rfl | simp [encA_len]) (by intro v hv; simp only [List.mem_cons, List.not_mem_nil, or_false] at hv; subst hv; exact slOne (hs.row 1 rfl)) rfl ?_
          intro w hs
          refine g_ops_nil ?_
          refine g_inBlock ?_
          have hs := hs.pull 8 rfl
          have hs := hs.pull 2 rfl
          have hs := hs.pull 8 rfl
          have hs := hs.pull 8 rfl
          have hs := hs.pull 4 rfl
          have hs := hs.pull 8 rfl
          have hs := hs.pull 8 rfl
          have hs : St _ [_, _, _, _, _, _, _] _ := St.take (Γ' := [_, _]) hs
          exact ha _ _ ⟨v47, x48, v50, x51, v72, x54 ++ ([x58]), v56, x57, H, rfl, hs⟩
         ·
          rw [if_neg hk7_] at H
          by_cases hk8_ : (r59.length : Int) = 3
          ·
           rw [if_pos hk8_] at H
           refine g_region ?_
           show G _ _ _ (.inRegion _ [0, 1, 2, 3, 4, 5, 6, 7, 8] :: _) _ _
           refine g_op (v := Value.int .i64 (r59.length : Int)) rfl rfl rfl ?_
           refine g_op (v := Value.int .i64 (r59.length : Int)) rfl rfl rfl ?_
           refine s_idxJ (m := 1) 3 hk8_ (by decide) rfl (fun _ => rfl) rfl rfl rfl rfl rfl ?_
           show G _ _ _ _ [_, _, _, _, _, _, _, _, _, _, _, _, _, _, _, _, _, _, _, _, _, _, _, _, _, _, _, _, _, _, _, _] _
           refine s_load1 rfl rfl (v := v56) rfl rfl (fun _ => rfl) (cells_load (hs.cells 7 rfl) 3 1 rfl) ?_
           show G _ _ _ _ [_, _, _, _, _, _, _, _, _, _, _, _, _, _, _, _, _, _, _, _, _, _, _, _, _, _, _, _, _, _, _, _] _
           refine g_op (v := Value.int .i64 x58) rfl rfl rfl ?_
           refine s_lit1 (fkI .i64) (y := x58) hs rfl rfl rfl rfl (fun _ => rfl) (zv := (Value.int .i64 0)) (fun _ => rfl) rfl (by decide) (by decide) rfl ?_
           intro v74 w hs
           show G _ _ _ _ [_, _, _, _, _, _, _, _, _, _, _, _, _, _, _, _, _, _, _, _, _, _, _, _, _, _, _, _, _, _, _, _] _
           have hs := hs.pull 7 rfl
           have hs : St _ [_, _, _, _, _, _, _, _, _] _ := hs
           obtain ⟨g, H⟩ := ite_get H
           refine s_append (fkI .i64) (zv := (Value.int .i64 0)) (B := 8) hs (hs.row 1 rfl) rfl rfl rfl rfl rfl rfl rfl rfl rfl (by decide) rfl rfl (by decide) (by omega) ?_
           intro v76 w hs
           show G _ _ _ _ [_, _, _, _, _, _, _, _, _, _, _, _, _, _, _, _, _, _, _, _, _, _, _, _, _, _, _, _, _, _, _, _] _
           refine s_idxJ (m := 1) 3 hk8_ (by decide) rfl (fun _ => rfl) rfl rfl rfl rfl rfl ?_
           show G _ _ _ _ [_, _, _, _, _, _, _, _, _, _, _, _, _, _, _, _, _, _, _, _, _, _, _, _, _, _, _, _, _, _, _, _] _
           have hs := hs.pull 8 rfl
           have hs : St _ [_, _, _, _, _, _, _, _, _] _ := hs
           refine s_store hs rfl rfl (vs := [v76]) (cs' := (([v47, v50, v53, v76] : List Value))) rfl rfl (slCells (hs.row 1 rfl)) (n := 1) (fun _ => rfl) rfl (by first | exact Nat.le_of_ble_eq_true rfl | simp [encA_len]) (by intro v hv; simp only [List.mem_cons, List.not_mem_nil, or_false] at hv; subst hv; exact slOne (hs.row 1 rfl)) rfl ?_
           intro w hs
           refine g_ops_nil ?_
           refine g_inBlock ?_
           have hs := hs.pull 1 rfl
           have hs := hs.pull 8 rfl
           have hs := hs.pull 8 rfl
           have hs := hs.pull 8 rfl
           have hs := hs.pull 4 rfl
           have hs := hs.pull 8 rfl
           have hs := hs.pull 8 rfl
           have hs : St _ [_, _, _, _, _, _, _] _ := St.take (Γ' := [_, _]) hs
           exact ha _ _ ⟨v47, x48, v50, x51, v53, x54, v76, x57 ++ ([x58]), H, rfl, hs⟩
          ·
           rw [if_neg hk8_] at H
           cases H
      ·
       intro hb
       rw [if_neg (b_dec_f hb)] at H
       show G _ _ _ _ [_, _, _, _, _, _, _, _, _, _, _, _, _, _, _, _, _, _, _, _, _, _, _, _, _, _, _, _, _, _, _, _] _
       refine g_ops_nil ?_
       refine g_cond_false rfl ?_
       refine g_skip ?_
       refine g_inBlock ?_
       have hs := hs.pull 6 rfl
       have hs := hs.pull 6 rfl
       have hs := hs.pull 6 rfl
       have hs := hs.pull 6 rfl
       have hs := hs.pull 7 rfl
       have hs := hs.pull 7 rfl
       have hs := hs.pull 7 rfl
       have hs : St _ [_, _, _, _, _, _, _] _ := St.take (Γ' := [_]) hs
       exact ha _ _ ⟨v47, x48, v50, x51, v53, x54, v56, x57, H, rfl, hs⟩
    ·
     intro hb
     rw [if_neg (b_dec_f hb)] at H
     show G _ _ _ _ [_, _, _, _, _, _, _, _, _, _, _, _, _, _, _, _, _, _, _, _, _, _, _, _, _, _, _, _, _, _, _, _] _
     refine g_ops_nil ?_
     refine g_seq ?_
     refine g_cond_false rfl ?_
     obtain rfl := Option.some.inj H
     subst Hx1_
     have hs := hs.pull 5 rfl
     have hs := hs.pull 5 rfl
     have hs := hs.pull 5 rfl
     have hs := hs.pull 5 rfl
     have hs := hs.pull 6 rfl
     have hs := hs.pull 6 rfl
     have hs : St _ [_, _, _, _, _, _] _ := St.take (Γ' := [_]) hs
     refine g_exit rfl ?_
     exact ha1_ _ _ ⟨v47, x48, v50, x51, v53, x54, v56, x57, Hr1_, rfl, hs⟩

/- function 66 slices_Grow_int64_int64_at_nil -/
def slices_Grow_int64_int64_at_nil.post (w0 : World) (r : (List Int)) (v : Value) (w : World) : Prop := St w0 [Row 2 (K.int .i64) v r] w
set_option maxHeartbeats 8000000 in
set_option maxRecDepth 100000 in
theorem slices_Grow_int64_int64_at_nil.calls {N : Nat} {a1 : Int} {w0 : World} {r : (List Int)} (H : slices_Grow_int64_int64_at_nil.f N a1 = some r) :
    Calls Try.prog 66 #[(Value.slice none 0 0), Value.int .i64 a1] w0 fun e w => ∃ v, e = .returned v ∧ slices_Grow_int64_int64_at_nil.post w0 r v w := by
  unfold slices_Grow_int64_int64_at_nil.f at H
  have hs : St w0 [] w0 := St.refl w0
  refine calls_of_g (n := 25) Try.func66 rfl rfl ?_
  show G _ _ _ _ [_, _, _, _, _, _, _, _, _, _, _, _, _, _, _, _, _, _, _, _, _, _, _, _, _, _, _] _
  refine g_seq ?_
  refine g_region ?_
  show G _ _ _ (.inRegion _ [0] :: _) _ _
  refine g_op (v := Value.slice none 0 0) rfl rfl rfl ?_
  show G _ _ _ _ [_, _, _, _, _, _, _, _, _, _, _, _, _, _, _, _, _, _, _, _, _, _, _, _, _, _, _] _
  refine g_ops_nil ?_
  refine g_seq ?_
  refine g_seq ?_
  refine g_region ?_
  show G _ _ _ (.inRegion _ [0, 1] :: _) _ _
  refine g_op (v := Value.int .i64 a1) rfl rfl rfl ?_
  refine g_op_b (B := decide (a1 < 0)) rfl rfl rfl ?_ ?_
  ·
   intro hb
   rw [if_pos (b_dec_t hb)] at H
   show G _ _ _ _ [_, _, _, _, _, _, _, _, _, _, _, _, _, _, _, _, _, _, _, _, _, _, _, _, _, _, _] _
   refine g_ops_nil ?_
   refine g_cond_true rfl ?_
   cases H
  ·
   intro hb
   rw [if_neg (b_dec_f hb)] at H
   show G _ _ _ _ [_, _, _, _, _, _, _, _, _, _, _, _, _, _, _, _, _, _, _, _, _, _, _, _, _, _, _] _
   refine g_ops_nil ?_
   refine g_cond_false rfl ?_
   refine g_skip ?_
   refine g_seq ?_
   refine g_seq ?_
   refine g_region ?_
   show G _ _ _ (.inRegion _ [0, 1, 2, 3, 4, 5, 6, 7] :: _) _ _
   refine g_op (v := Value.int .i64 a1) rfl rfl rfl ?_
   refine g_op (v := Value.slice none 0 0) rfl rfl rfl ?_
   refine g_op (v := Value.int .i64 0) rfl rfl (x_capNil rfl rfl rfl) ?_
   show G _ _ _ _ [_, _, _, _, _, _, _, _, _, _, _, _, _, _, _, _, _, _, _, _, _, _, _, _, _, _, _] _
   refine g_op (v := Value.slice none 0 0) rfl rfl rfl ?_
   refine s_len (rdNil (K.int .i64)) rfl rfl rfl rfl rfl ?_
   show G _ _ _ _ [_, _, _, _, _, _, _, _, _, _, _, _, _, _, _, _, _, _, _, _, _, _, _, _, _, _, _] _
   refine g_op (v := Value.int .i64 (i64w (0 - (([] : (List Int)).length : Int)))) rfl rfl rfl ?_
   show G _ _ _ _ [_, _, _, _, _, _, _, _, _, _, _, _, _, _, _, _, _, _, _, _, _, _, _, _, _, _, _] _
   refine g_op (v := Value.int .i64 (i64w (a1 - (i64w (0 - (([] : (List Int)).length : Int)))))) rfl rfl rfl ?_
   show G _ _ _ _ [_, _, _, _, _, _, _, _, _, _, _, _, _, _, _, _, _, _, _, _, _, _, _, _, _, _, _] _
   refine g_op (v := Value.int .i64 (i64w (a1 - (i64w (0 - (([] : (List Int)).length : Int)))))) rfl rfl rfl ?_
   show G _ _ _ _ [_, _, _, _, _, _, _, _, _, _, _, _, _, _, _, _, _, _, _, _, _, _, _, _, _, _, _] _
   refine g_ops_nil ?_
   refine g_seq ?_
   refine g_region ?_
   show G _ _ _ (.inRegion _ [0, 1] :: _) _ _
   refine g_op (v := Value.int .i64 (i64w (a1 - (i64w (0 - (([] : (List Int)).length : Int)))))) rfl rfl rfl ?_
   refine g_op_b (B := decide ((i64w (a1 - (i64w (0 - (([] : (List Int)).length : Int))))) > 0)) rfl rfl rfl ?_ ?_
   ·
    intro hb
    rw [if_pos (b_dec_t hb)] at H
    show G _ _ _ _ [_, _, _, _, _, _, _, _, _, _, _, _, _, _, _, _, _, _, _, _, _, _, _, _, _, _, _] _
    refine g_ops_nil ?_
    refine g_cond_true rfl ?_
    refine g_region ?_
    show G _ _ _ (.inRegion _ [0, 1, 2, 3, 4, 5, 6, 7, 8, 9] :: _) _ _
    refine g_op (v := Value.slice none 0 0) rfl rfl rfl ?_
    refine g_op (v := Value.slice none 0 0) rfl rfl rfl ?_
    refine g_op (v := Value.int .i64 0) rfl rfl (x_capNil rfl rfl rfl) ?_
    show G _ _ _ _ [_, _, _, _, _, _, _, _, _, _, _, _, _, _, _, _, _, _, _, _, _, _, _, _, _, _, _] _
    refine g_op (v := Value.slice none 0 0) rfl rfl (x_slice (a := 0) (b := 0) (m := 1) (rdNil (K.int .i64)) rfl rfl (fun _ => rfl) rfl (.inl ⟨rfl, rfl⟩) (.inr ⟨_, _, rfl, rfl⟩) (by decide) (by decide) (by decide)) ?_
    show G _ _ _ _ [_, _, _, _, _, _, _, _, _, _, _, _, _, _, _, _, _, _, _, _, _, _, _, _, _, _, _] _
    refine g_op (v := Value.int .i64 (i64w (a1 - (i64w (0 - (([] : (List Int)).length : Int)))))) rfl rfl rfl ?_
    obtain ⟨g, H⟩ := ite_get H
    refine s_appendZ (fkI .i64) (Value.int .i64) (fun _ => rfl) rfl (0 : Int) hs rfl rfl rfl rfl rfl rfl rfl rfl rfl rfl rfl (B := 8) rfl (by decide) g.1 (by have := g.2; omega) ?_
    intro v2 w hs
    show G _ _ _ _ [_, _, _, _, _, _, _, _, _, _, _, _, _, _, _, _, _, _, _, _, _, _, _, _, _, _, _] _
    refine g_op (v := Value.slice none 0 0) rfl rfl rfl ?_
    refine s_len (rdNil (K.int .i64)) rfl rfl rfl rfl rfl ?_
    show G _ _ _ _ [_, _, _, _, _, _, _, _, _, _, _, _, _, _, _, _, _, _, _, _, _, _, _, _, _, _, _] _
    obtain ⟨g1, H⟩ := ite_get H
    refine g_op (v := subV v2 1 ((0 : Int)).toNat ((([] : (List Int)).length : Int)).toNat) rfl rfl (x_slice (hs.row 0 rfl) rfl rfl (fun _ => rfl) rfl (.inl ⟨rfl, rfl⟩) (.inr ⟨_, _, rfl, rfl⟩) g1.1 g1.2.1 g1.2.2) ?_
    show G _ _ _ _ [_, _, _, _, _, _, _, _, _, _, _, _, _, _, _, _, _, _, _, _, _, _, _, _, _, _, _] _
    refine g_op (v := subV v2 1 ((0 : Int)).toNat ((([] : (List Int)).length : Int)).toNat) rfl rfl rfl ?_
    show G _ _ _ _ [_, _, _, _, _, _, _, _, _, _, _, _, _, _, _, _, _, _, _, _, _, _, _, _, _, _, _] _
    refine g_ops_nil ?_
    refine g_seq ?_
    refine g_region ?_
    show G _ _ _ (.inRegion _ [0, 1] :: _) _ _
    refine g_op (v := subV v2 1 ((0 : Int)).toNat ((([] : (List Int)).length : Int)).toNat) rfl rfl rfl ?_
    refine g_op (v := subV v2 1 ((0 : Int)).toNat ((([] : (List Int)).length : Int)).toNat) rfl rfl rfl ?_
    show G _ _ _ _ [_, _, _, _, _, _, _, _, _, _, _, _, _, _, _, _, _, _, _, _, _, _, _, _, _, _, _] _
    refine g_ops_nil ?_
    obtain rfl := Option.some.inj H
    have hs := hs.prefix (fkI .i64) 1 g1.2.2
    refine g_ret Try.func66 (v := subV v2 1 ((0 : Int)).toNat ((([] : (List Int)).length : Int)).toNat) (res1 rfl rfl) ?_
    have hs := hs.pull 0 rfl
    have hs : St _ [_] _ := St.take (Γ' := []) hs
    exact ⟨_, rfl, hs⟩
   ·
    intro hb
    rw [if_neg (b_dec_f hb)] at H
    show G _ _ _ _ [_, _, _, _, _, _, _, _, _, _, _, _, _, _, _, _, _, _, _, _, _, _, _, _, _, _, _] _
    refine g_ops_nil ?_
    refine g_cond_false rfl ?_
    refine g_skip ?_
    refine g_seq ?_
    refine g_region ?_
    show G _ _ _ (.inRegion _ [0, 1] :: _) _ _
    refine g_op (v := Value.slice none 0 0) rfl rfl rfl ?_
    refine g_op (v := Value.slice none 0 0) rfl rfl rfl ?_
    show G _ _ _ _ [_, _, _, _, _, _, _, _, _, _, _, _, _, _, _, _, _, _, _, _, _, _, _, _, _, _, _] _
    refine g_ops_nil ?_
    obtain rfl := Option.some.inj H
    refine g_ret Try.func66 (v := Value.slice none 0 0) (res1 rfl rfl) ?_
    have hs := hs.nil 2 (K.int .i64)
    have hs := hs.pull 0 rfl
    have hs : St _ [_] _ := St.take (Γ' := []) hs
    exact ⟨_, rfl, hs⟩

/- function 51 slices_Concat_int64_int64 -/
def slices_Concat_int64_int64.post (w0 : World) (r : (List Int)) (v : Value) (w : World) : Prop := St w0 [Row 2 (K.int .i64) v r] w
set_option maxHeartbeats 8000000 in
set_option maxRecDepth 100000 in
theorem slices_Concat_int64_int64.calls {N : Nat} {a1 : (List (List Int))} {v2 : Value} {w0 : World} {r : (List Int)} (hr0 : RdRow (K.sl 2 (K.int .i64)) w0 v2 a1) (H : slices_Concat_int64_int64.f N a1 = some r) :
    Calls Try.prog 51 #[v2] w0 fun e w => ∃ v, e = .returned v ∧ slices_Concat_int64_int64.post w0 r v w := by
  unfold slices_Concat_int64_int64.f at H
  have hs : St w0 [] w0 := St.refl w0
  refine calls_of_g (n := 35) Try.func51 rfl rfl ?_
  show G _ _ _ _ [_, _, _, _, _, _, _, _, _, _, _, _, _, _, _, _, _, _, _, _, _, _, _, _, _, _, _, _, _, _, _, _, _, _, _, _] _
  refine g_seq ?_
  refine g_region ?_
  show G _ _ _ (.inRegion _ [0] :: _) _ _
  refine g_op (v := Value.slice none 0 0) rfl rfl rfl ?_
  show G _ _ _ _ [_, _, _, _, _, _, _, _, _, _, _, _, _, _, _, _, _, _, _, _, _, _, _, _, _, _, _, _, _, _, _, _, _, _, _, _] _
  refine g_ops_nil ?_
  refine g_seq ?_
  refine g_region ?_
  show G _ _ _ (.inRegion _ [0] :: _) _ _
  refine g_op (v := Value.int .i64 0) rfl rfl rfl ?_
  show G _ _ _ _ [_, _, _, _, _, _, _, _, _, _, _, _, _, _, _, _, _, _, _, _, _, _, _, _, _, _, _, _, _, _, _, _, _, _, _, _] _
  refine g_ops_nil ?_
  refine g_seq ?_
  refine g_seq ?_
  refine g_region ?_
  show G _ _ _ (.inRegion _ [0, 1, 2] :: _) _ _
  refine g_op (v := v2) rfl rfl rfl ?_
  refine s_len (hs.rd hr0) rfl rfl rfl rfl rfl ?_
  show G _ _ _ _ [_, _, _, _, _, _, _, _, _, _, _, _, _, _, _, _, _, _, _, _, _, _, _, _, _, _, _, _, _, _, _, _, _, _, _, _] _
  refine g_op (v := Value.int .i64 0) rfl rfl rfl ?_
  refine g_ops_nil ?_
  obtain ⟨o1_, Ho, Hr1_⟩ := bind_get H
  refine g_block_join (J := fun t w => ∃ x7 : Int, slices_Concat_int64_int64.a0 N a1 x7 = some r ∧ Fr t (fun O => ([v2, O 1, O 2, Value.int .i64 x7, O 4, O 5, O 6, O 7, O 8, O 9, O 10, O 11, O 12, O 13, O 14, O 15, O 16, O 17, O 18, O 19, O 20, O 21, O 22, O 23, O 24, O 25, O 26, O 27, O 28, O 29, O 30, O 31, O 32, O 33, O 34, O 35] : List Value)) ∧ St w0 [] w) ?_ ?_
  ·
   rintro t w ⟨x7, H, hf, hs⟩
   obtain ⟨O, rfl⟩ := hf.open
   show G _ _ _ _ [_, _, _, _, _, _, _, _, _, _, _, _, _, _, _, _, _, _, _, _, _, _, _, _, _, _, _, _, _, _, _, _, _, _, _, _] _
   unfold slices_Concat_int64_int64.a0 at H
   refine g_seq ?_
   refine g_region ?_
   show G _ _ _ (.inRegion _ [0, 1, 2] :: _) _ _
   refine g_op (v := Value.int .i64 x7) rfl rfl rfl ?_
   obtain ⟨r8, Hr8, H⟩ := bind_get H
   refine s_call (args := [Value.slice none 0 0, Value.int .i64 x7]) rfl rfl (x_call rfl (callFunc_enter Try.func66 rfl rfl) rfl) (slices_Grow_int64_int64_at_nil.calls (a1 := x7) Hr8) ?_
   intro v9 w hs2
   have hs : St _ [_] _ := hs.call hs2
   show G _ _ _ _ [_, _, _, _, _, _, _, _, _, _, _, _, _, _, _, _, _, _, _, _, _, _, _, _, _, _, _, _, _, _, _, _, _, _, _, _] _
   refine g_op (v := v9) rfl rfl rfl ?_
   show G _ _ _ _ [_, _, _, _, _, _, _, _, _, _, _, _, _, _, _, _, _, _, _, _, _, _, _, _, _, _, _, _, _, _, _, _, _, _, _, _] _
   refine g_ops_nil ?_
   refine g_seq ?_
   refine g_seq ?_
   refine g_region ?_
   show G _ _ _ (.inRegion _ [0, 1, 2] :: _) _ _
   refine g_op (v := v2) rfl rfl rfl ?_
   refine s_len (hs.rd hr0) rfl rfl rfl rfl rfl ?_
   show G _ _ _ _ [_, _, _, _, _, _, _, _, _, _, _, _, _, _, _, _, _, _, _, _, _, _, _, _, _, _, _, _, _, _, _, _, _, _, _, _] _
   refine g_op (v := Value.int .i64 0) rfl rfl rfl ?_
   refine g_ops_nil ?_
   obtain ⟨o1_, Ho, Hr1_⟩ := bind_get H
   refine g_block_join (J := fun t w => ∃ v19 : Value, ∃ x20 : (List Int), slices_Concat_int64_int64.a2 N x20 = some r ∧ Fr t (fun O => ([O 0, O 1, O 2, O 3, O 4, O 5, v19, O 7, O 8, O 9, O 10, O 11, O 12, O 13, O 14, O 15, O 16, O 17, O 18, O 19, O 20, O 21, O 22, O 23, O 24, O 25, O 26, O 27, O 28, O 29, O 30, O 31, O 32, O 33, O 34, O 35] : List Value)) ∧ St w0 [Row 2 (K.int .i64) v19 x20] w) ?_ ?_
   ·
    rintro t w ⟨v19, x20, H, hf, hs⟩
    obtain ⟨O, rfl⟩ := hf.open
    show G _ _ _ _ [_, _, _, _, _, _, _, _, _, _, _, _, _, _, _, _, _, _, _, _, _, _, _, _, _, _, _, _, _, _, _, _, _, _, _, _] _
    unfold slices_Concat_int64_int64.a2 at H
    refine g_seq ?_
    refine g_region ?_
    show G _ _ _ (.inRegion _ [0, 1] :: _) _ _
    refine g_op (v := v19) rfl rfl rfl ?_
    refine g_op (v := v19) rfl rfl rfl ?_
    show G _ _ _ _ [_, _, _, _, _, _, _, _, _, _, _, _, _, _, _, _, _, _, _, _, _, _, _, _, _, _, _, _, _, _, _, _, _, _, _, _] _
    refine g_ops_nil ?_
    obtain rfl := Option.some.inj H
    refine g_ret Try.func51 (v := v19) (res1 rfl rfl) ?_
    have hs := hs.pull 0 rfl
    have hs : St _ [_] _ := St.take (Γ' := []) hs
    exact ⟨_, rfl, hs⟩
   ·
    intro ha1_
    have hs := hs.pull 0 rfl
    have hs : St _ [_] _ := St.take (Γ' := []) hs
    refine g_loop_fuel (I := fun n_ t w => ∃ v12 : Value, ∃ x13 : (List Int), ∃ x14 : Int, rounds (fun s => slices_Concat_int64_int64.b2 N a1 s.1 s.2) n_ (x13, x14) = some o1_ ∧ Fr t (fun O => ([O 0, O 1, O 2, O 3, O 4, O 5, v12, O 7, O 8, O 9, O 10, O 11, O 12, O 13, O 14, O 15, O 16, O 17, O 18, O 19, O 20, O 21, O 22, O 23, O 24, v2, Value.int .i64 (a1.length : Int), Value.int .i64 x14, O 28, O 29, O 30, O 31, O 32, O 33, O 34, O 35] : List Value)) ∧ St w0 [Row 2 (K.int .i64) v12 x13] w) N ⟨v9, r8, 0, Ho, rfl, hs⟩ ?_ ?_
    ·
     rintro _ _ ⟨v12, x13, x14, h, _⟩
     exact rounds_zero h
    ·
     intro n_ ih1_
     rintro t w ⟨v12, x13, x14, Ho, hf, hs⟩
     obtain ⟨O, rfl⟩ := hf.open
     show G _ _ _ _ [_, _, _, _, _, _, _, _, _, _, _, _, _, _, _, _, _, _, _, _, _, _, _, _, _, _, _, _, _, _, _, _, _, _, _, _] _
     obtain ⟨x3_, H, Hx1_⟩ := rounds_succ Ho
     have H : slices_Concat_int64_int64.b2 N a1 x13 x14 = some x3_ := H
     unfold slices_Concat_int64_int64.b2 at H
     refine g_seq ?_
     refine g_region ?_
     show G _ _ _ (.inRegion _ [0] :: _) _ _
     refine g_op_b (B := decide (x14 < (a1.length : Int))) rfl rfl rfl ?_ ?_
     ·
      intro hb
      rw [if_pos (b_dec_t hb)] at H
      show G _ _ _ _ [_, _, _, _, _, _, _, _, _, _, _, _, _, _, _, _, _, _, _, _, _, _, _, _, _, _, _, _, _, _, _, _, _, _, _, _] _
      refine g_ops_nil ?_
      refine g_seq ?_
      refine g_cond_true rfl ?_
      refine g_skip ?_
      refine g_seq ?_
      refine g_block ?_
      refine g_seq ?_
      refine g_region ?_
      show G _ _ _ (.inRegion _ [0, 1, 2] :: _) _ _
      obtain ⟨g2, H⟩ := ite_get H
      refine s_idxR hr0 hs rfl (fun _ => rfl) g2.1 g2.2 rfl rfl rfl rfl rfl ?_
      intro p15 v16 hp15 hv16
      show G _ _ _ _ [_, _, _, _, _, _, _, _, _, _, _, _, _, _, _, _, _, _, _, _, _, _, _, _, _, _, _, _, _, _, _, _, _, _, _, _] _
      refine s_load1 rfl rfl (v := v16) rfl rfl (fun _ => rfl) (hp15.lift hs) ?_
      show G _ _ _ _ [_, _, _, _, _, _, _, _, _, _, _, _, _, _, _, _, _, _, _, _, _, _, _, _, _, _, _, _, _, _, _, _, _, _, _, _] _
      refine g_op (v := v16) rfl rfl rfl ?_
      show G _ _ _ _ [_, _, _, _, _, _, _, _, _, _, _, _, _, _, _, _, _, _, _, _, _, _, _, _, _, _, _, _, _, _, _, _, _, _, _, _] _
      refine g_ops_nil ?_
      refine g_region ?_
      show G _ _ _ (.inRegion _ [0, 1, 2, 3] :: _) _ _
      refine g_op (v := v12) rfl rfl rfl ?_
      refine g_op (v := v16) rfl rfl rfl ?_
      obtain ⟨g, H⟩ := ite_get H
      refine s_append (fkI .i64) (zv := (Value.int .i64 0)) (B := 8) hs (hs.rd hv16) rfl rfl rfl rfl rfl rfl rfl rfl rfl (by decide) rfl rfl (by decide) (by omega) ?_
      intro v17 w hs
      show G _ _ _ _ [_, _, _, _, _, _, _, _, _, _, _, _, _, _, _, _, _, _, _, _, _, _, _, _, _, _, _, _, _, _, _, _, _, _, _, _] _
      refine g_op (v := v17) rfl rfl rfl ?_
      show G _ _ _ _ [_, _, _, _, _, _, _, _, _, _, _, _, _, _, _, _, _, _, _, _, _, _, _, _, _, _, _, _, _, _, _, _, _, _, _, _] _
      refine g_ops_nil ?_
      refine g_inBlock ?_
      refine g_region ?_
      show G _ _ _ (.inRegion _ [0, 1] :: _) _ _
      refine g_op (v := Value.int .i64 (i64w (x14 + 1))) rfl rfl rfl ?_
      show G _ _ _ _ [_, _, _, _, _, _, _, _, _, _, _, _, _, _, _, _, _, _, _, _, _, _, _, _, _, _, _, _, _, _, _, _, _, _, _, _] _
      refine g_op (v := Value.int .i64 (i64w (x14 + 1))) rfl rfl rfl ?_
      refine g_ops_nil ?_
      obtain rfl := Option.some.inj H
      have hs := hs.pull 0 rfl
      have hs : St _ [_] _ := St.take (Γ' := []) hs
      exact ih1_ _ _ ⟨v17, x13 ++ (rdL a1 x14 ([] : (List Int))), i64w (x14 + 1), Hx1_, rfl, hs⟩
     ·
      intro hb
      rw [if_neg (b_dec_f hb)] at H
      show G _ _ _ _ [_, _, _, _, _, _, _, _, _, _, _, _, _, _, _, _, _, _, _, _, _, _, _, _, _, _, _, _, _, _, _, _, _, _, _, _] _
      refine g_ops_nil ?_
      refine g_seq ?_
      refine g_cond_false rfl ?_
      obtain rfl := Option.some.inj H
      subst Hx1_
      have hs := hs.pull 0 rfl
      have hs : St _ [_] _ := St.take (Γ' := []) hs
      refine g_exit rfl ?_
      exact ha1_ _ _ ⟨v12, x13, Hr1_, rfl, hs⟩
  ·
   intro ha1_
   have hs : St _ [] _ := St.take (Γ' := []) hs
   refine g_loop_fuel (I := fun n_ t w => ∃ x3 : Int, ∃ x4 : Int, rounds (fun s => slices_Concat_int64_int64.b0 N a1 s.1 s.2) n_ (x3, x4) = some o1_ ∧ Fr t (fun O => ([v2, O 1, O 2, Value.int .i64 x3, O 4, O 5, O 6, O 7, O 8, v2, Value.int .i64 (a1.length : Int), Value.int .i64 x4, O 12, O 13, O 14, O 15, O 16, O 17, O 18, O 19, O 20, O 21, O 22, O 23, O 24, O 25, O 26, O 27, O 28, O 29, O 30, O 31, O 32, O 33, O 34, O 35] : List Value)) ∧ St w0 [] w) N ⟨0, 0, Ho, rfl, hs⟩ ?_ ?_
   ·
    rintro _ _ ⟨x3, x4, h, _⟩
    exact rounds_zero h
   ·
    intro n_ ih1_
    rintro t w ⟨x3, x4, Ho, hf, hs⟩
    obtain ⟨O, rfl⟩ := hf.open
    show G _ _ _ _ [_, _, _, _, _, _, _, _, _, _, _, _, _, _, _, _, _, _, _, _, _, _, _, _, _, _, _, _, _, _, _, _, _, _, _, _] _
    obtain ⟨x4_, H, Hx1_⟩ := rounds_succ Ho
    have H : slices_Concat_int64_int64.b0 N a1 x3 x4 = some x4_ := H
    unfold slices_Concat_int64_int64.b0 at H
    refine g_seq ?_
    refine g_region ?_
    show G _ _ _ (.inRegion _ [0] :: _) _ _
    refine g_op_b (B := decide (x4 < (a1.length : Int))) rfl rfl rfl ?_ ?_
    ·
     intro hb
     rw [if_pos (b_dec_t hb)] at H
     show G _ _ _ _ [_, _, _, _, _, _, _, _, _, _, _, _, _, _, _, _, _, _, _, _, _, _, _, _, _, _, _, _, _, _, _, _, _, _, _, _] _
     refine g_ops_nil ?_
     refine g_seq ?_
     refine g_cond_true rfl ?_
     refine g_skip ?_
     refine g_seq ?_
     refine g_block ?_
     refine g_seq ?_
     refine g_region ?_
     show G _ _ _ (.inRegion _ [0, 1, 2] :: _) _ _
     obtain ⟨g1, H⟩ := ite_get H
     refine s_idxR hr0 hs rfl (fun _ => rfl) g1.1 g1.2 rfl rfl rfl rfl rfl ?_
     intro p5 v6 hp5 hv6
     show G _ _ _ _ [_, _, _, _, _, _, _, _, _, _, _, _, _, _, _, _, _, _, _, _, _, _, _, _, _, _, _, _, _, _, _, _, _, _, _, _] _
     refine s_load1 rfl rfl (v := v6) rfl rfl (fun _ => rfl) (hp5.lift hs) ?_
     show G _ _ _ _ [_, _, _, _, _, _, _, _, _, _, _, _, _, _, _, _, _, _, _, _, _, _, _, _, _, _, _, _, _, _, _, _, _, _, _, _] _
     refine g_op (v := v6) rfl rfl rfl ?_
     show G _ _ _ _ [_, _, _, _, _, _, _, _, _, _, _, _, _, _, _, _, _, _, _, _, _, _, _, _, _, _, _, _, _, _, _, _, _, _, _, _] _
     refine g_ops_nil ?_
     refine g_seq ?_
     refine g_region ?_
     show G _ _ _ (.inRegion _ [0, 1, 2, 3, 4] :: _) _ _
     refine g_op (v := Value.int .i64 x3) rfl rfl rfl ?_
     refine g_op (v := v6) rfl rfl rfl ?_
     refine s_len (hs.rd hv6) rfl rfl rfl rfl rfl ?_
     show G _ _ _ _ [_, _, _, _, _, _, _, _, _, _, _, _, _, _, _, _, _, _, _, _, _, _, _, _, _, _, _, _, _, _, _, _, _, _, _, _] _
     refine g_op (v := Value.int .i64 (i64w (x3 + ((rdL a1 x4 ([] : (List Int))).length : Int)))) rfl rfl rfl ?_
     show G _ _ _ _ [_, _, _, _, _, _, _, _, _, _, _, _, _, _, _, _, _, _, _, _, _, _, _, _, _, _, _, _, _, _, _, _, _, _, _, _] _
     refine g_op (v := Value.int .i64 (i64w (x3 + ((rdL a1 x4 ([] : (List Int))).length : Int)))) rfl rfl rfl ?_
     show G _ _ _ _ [_, _, _, _, _, _, _, _, _, _, _, _, _, _, _, _, _, _, _, _, _, _, _, _, _, _, _, _, _, _, _, _, _, _, _, _] _
     refine g_ops_nil ?_
     refine g_seq ?_
     refine g_region ?_
     show G _ _ _ (.inRegion _ [0, 1] :: _) _ _
     refine g_op (v := Value.int .i64 (i64w (x3 + ((rdL a1 x4 ([] : (List Int))).length : Int)))) rfl rfl rfl ?_
     refine g_op_b (B := decide ((i64w (x3 + ((rdL a1 x4 ([] : (List Int))).length : Int))) < 0)) rfl rfl rfl ?_ ?_
     ·
      intro hb
      rw [if_pos (b_dec_t hb)] at H
      show G _ _ _ _ [_, _, _, _, _, _, _, _, _, _, _, _, _, _, _, _, _, _, _, _, _, _, _, _, _, _, _, _, _, _, _, _, _, _, _, _] _
      refine g_ops_nil ?_
      refine g_cond_true rfl ?_
      cases H
     ·
      intro hb
      rw [if_neg (b_dec_f hb)] at H
      show G _ _ _ _ [_, _, _, _, _, _, _, _, _, _, _, _, _, _, _, _, _, _, _, _, _, _, _, _, _, _, _, _, _, _, _, _, _, _, _, _] _
      refine g_ops_nil ?_
      refine g_cond_false rfl ?_
      refine g_skip ?_
      refine g_inBlock ?_
      refine g_region ?_
      show G _ _ _ (.inRegion _ [0, 1] :: _) _ _
      refine g_op (v := Value.int .i64 (i64w (x4 + 1))) rfl rfl rfl ?_
      show G _ _ _ _ [_, _, _, _, _, _, _, _, _, _, _, _, _, _, _, _, _, _, _, _, _, _, _, _, _, _, _, _, _, _, _, _, _, _, _, _] _
      refine g_op (v := Value.int .i64 (i64w (x4 + 1))) rfl rfl rfl ?_
      refine g_ops_nil ?_
      obtain rfl := Option.some.inj H
      have hs : St _ [] _ := St.take (Γ' := []) hs
      exact ih1_ _ _ ⟨i64w (x3 + ((rdL a1 x4 ([] : (List Int))).length : Int)), i64w (x4 + 1), Hx1_, rfl, hs⟩
    ·
     intro hb
     rw [if_neg (b_dec_f hb)] at H
     show G _ _ _ _ [_, _, _, _, _, _, _, _, _, _, _, _, _, _, _, _, _, _, _, _, _, _, _, _, _, _, _, _, _, _, _, _, _, _, _, _] _
     refine g_ops_nil ?_
     refine g_seq ?_
     refine g_cond_false rfl ?_
     obtain rfl := Option.some.inj H
     subst Hx1_
     have hs : St _ [] _ := St.take (Γ' := []) hs
     refine g_exit rfl ?_
     exact ha1_ _ _ ⟨x3, Hr1_, rfl, hs⟩

/- function 52 slices_Sort_int64_int64 -/
def slices_Sort_int64_int64.post (wb : World) (Z : As) (v1 : Value) (r : (List Int)) (v : Value) (w : World) : Prop := v = Value.tuple #[] ∧ St wb [Row 2 (K.int .i64) v1 r, Z] w
theorem slices_Sort_int64_int64.calls {N : Nat} {a1 : (List Int)} {v1 : Value} {wb : World} {Z : As} {w0 : World} {r : (List Int)} (hs : St wb [Row 2 (K.int .i64) v1 a1, Z] w0) (H : slices_Sort_int64_int64.f N a1 = some r) :
    Calls Try.prog 52 #[v1] w0 fun e w => ∃ u, e = .returned u ∧ slices_Sort_int64_int64.post wb Z v1 r u w := by
  obtain ⟨hg, H⟩ := ite_get H
  obtain rfl := Option.some.inj H
  exact (sort_row Try.slices_Sort_int Try.slices_Sort_int_none hs hg).mono fun e w ⟨he, hw⟩ => ⟨_, he, rfl, hw⟩

/- function 31 _impl_Game_candidates -/
def _impl_Game_candidates.post (w0 : World) (r : (List Int)) (v : Value) (w : World) : Prop := St w0 [Row 2 (K.int .i64) v r] w
set_option maxHeartbeats 8000000 in
set_option maxRecDepth 100000 in
theorem _impl_Game_candidates.calls {N : Nat} {a1 : S_impl_Game} {v2 : Value} {w0 : World} {r : (List Int)} (hr3 : RdRow k_S_impl_Ask w0 v2 a1.f_Asked) (H : _impl_Game_candidates.f N a1 = some r) :
    Calls Try.prog 31 #[Value.agg (([Value.int .i8 a1.f_Numbers, Value.int .i8 a1.f_Lies, v2] : List Value)).toArray] w0 fun e w => ∃ v, e = .returned v ∧ _impl_Game_candidates.post w0 r v w := by
  unfold _impl_Game_candidates.f at H
  have hs : St w0 [] w0 := St.refl w0
  refine calls_of_g (n := 11) Try.func31 rfl rfl ?_
  show G _ _ _ _ [_, _, _, _, _, _, _, _, _, _, _, _] _
  refine g_seq ?_
  refine g_region ?_
  show G _ _ _ (.inRegion _ [0, 1] :: _) _ _
  refine s_box hs rfl rfl (cs := (([Value.int .i8 a1.f_Numbers, Value.int .i8 a1.f_Lies, v2] : List Value))) rfl rfl ?_
  intro b4 w hs
  show G _ _ _ _ [_, _, _, _, _, _, _, _, _, _, _, _] _
  refine g_op (v := Value.slice none 0 0) rfl rfl rfl ?_
  show G _ _ _ _ [_, _, _, _, _, _, _, _, _, _, _, _] _
  refine g_ops_nil ?_
  refine g_seq ?_
  refine g_region ?_
  show G _ _ _ (.inRegion _ [0, 1, 2, 3] :: _) _ _
  refine s_loadA rfl rfl (es := (([Value.int .i8 a1.f_Numbers, Value.int .i8 a1.f_Lies, v2] : List Value))) rfl rfl (fun _ => rfl) (n := 3) (fun _ => rfl) rfl (cells_all (hs.cells 0 rfl)) ?_
  show G _ _ _ _ [_, _, _, _, _, _, _, _, _, _, _, _] _
  obtain ⟨r6, Hr6, H⟩ := bind_get H
  refine s_call (args := [Value.agg (([Value.int .i8 a1.f_Numbers, Value.int .i8 a1.f_Lies, v2] : List Value)).toArray]) rfl rfl (x_call rfl (callFunc_enter Try.func50 rfl rfl) rfl) (_impl_Game_sorts.calls (a1 := (⟨a1.f_Numbers, a1.f_Lies, a1.f_Asked⟩ : S_impl_Game)) (hs.rd hr3) Hr6) ?_
  rintro _ w ⟨v7, v8, v9, v10, rfl, hs2⟩
  have hs : St _ [_, _, _, _, _] _ := hs.call hs2
  show G _ _ _ _ [_, _, _, _, _, _, _, _, _, _, _, _] _
  refine s_alloc hs rfl rfl (z := (Value.agg #[Value.slice none 0 0, Value.slice none 0 0, Value.slice none 0 0, Value.slice none 0 0])) (cs := (([Value.slice none 0 0, Value.slice none 0 0, Value.slice none 0 0, Value.slice none 0 0] : List Value))) rfl (fun _ => rfl) rfl ?_
  intro b15 w hs
  show G _ _ _ _ [_, _, _, _, _, _, _, _, _, _, _, _] _
  refine s_storeAll (n := 4) hs rfl rfl rfl (vs := (([v7, v8, v9, v10] : List Value))) rfl rfl rfl (fun _ => rfl) rfl (by intro v hv; simp only [List.mem_append, List.mem_cons, List.not_mem_nil, or_false] at hv; repeat (first | (subst hv; first | rfl | exact slOne (hs.row 1 rfl) | exact slOne (hs.row 2 rfl) | exact slOne (hs.row 3 rfl) | exact slOne (hs.row 4 rfl)) | (rcases hv with hv | hv))) ?_
  intro w hs
  refine g_ops_nil ?_
  refine g_seq ?_
  refine g_region ?_
  show G _ _ _ (.inRegion _ [0, 1, 2] :: _) _ _
  refine g_op (v := Value.slice (some ⟨b15, 0, none⟩) 4 4) rfl rfl (x_sliceA rfl rfl (fun _ => ⟨_, rfl⟩) rfl) ?_
  show G _ _ _ _ [_, _, _, _, _, _, _, _, _, _, _, _] _
  obtain ⟨r17, Hr17, H⟩ := bind_get H
  refine s_call (args := [Value.slice (some ⟨b15, 0, none⟩) 4 4]) rfl rfl (x_call rfl (callFunc_enter Try.func51 rfl rfl) rfl) (slices_Concat_int64_int64.calls (a1 := [(r6.get 0 []), (r6.get 1 []), (r6.get 2 []), (r6.get 3 [])]) (rdBoxR (E0 := 2) (hs.cells 0 rfl) rfl (.cons (hs.row 1 rfl) (.cons (hs.row 2 rfl) (.cons (hs.row 3 rfl) (.cons (hs.row 4 rfl) .nil))))) Hr17) ?_
  intro v18 w hs2
  have hs : St _ [_, _, _, _, _, _, _] _ := hs.call hs2
  show G _ _ _ _ [_, _, _, _, _, _, _, _, _, _, _, _] _
  refine g_op (v := v18) rfl rfl rfl ?_
  show G _ _ _ _ [_, _, _, _, _, _, _, _, _, _, _, _] _
  refine g_ops_nil ?_
  refine g_seq ?_
  refine g_region ?_
  show G _ _ _ (.inRegion _ [0, 1] :: _) _ _
  refine g_op (v := v18) rfl rfl rfl ?_
  show G _ _ _ _ [_, _, _, _, _, _, _, _, _, _, _, _] _
  obtain ⟨r20, Hr20, H⟩ := bind_get H
  have hs := hs.pull 0 rfl
  have hs : St _ [_, _, _, _, _, _, _] _ := hs
  have hs := hs.pack 1
  refine s_call (args := [v18]) rfl rfl (x_call rfl (callFunc_enter Try.func52 rfl rfl) rfl) (slices_Sort_int64_int64.calls (a1 := r17) hs Hr20) ?_
  rintro _ w ⟨rfl, hs⟩
  have hs := St.unpack (Γ := [_]) hs
  have hs : St _ [_, _, _, _, _, _, _] _ := hs
  show G _ _ _ _ [_, _, _, _, _, _, _, _, _, _, _, _] _
  refine g_ops_nil ?_
  refine g_seq ?_
  refine g_region ?_
  show G _ _ _ (.inRegion _ [0, 1] :: _) _ _
  refine g_op (v := v18) rfl rfl rfl ?_
  show G _ _ _ _ [_, _, _, _, _, _, _, _, _, _, _, _] _
  refine g_op (v := v18) rfl rfl rfl ?_
  show G _ _ _ _ [_, _, _, _, _, _, _, _, _, _, _, _] _
  refine g_ops_nil ?_
  obtain rfl := Option.some.inj H
  refine g_ret Try.func31 (v := v18) (res1 rfl rfl) ?_
  have hs := hs.pull 0 rfl
  have hs : St _ [_] _ := St.take (Γ' := [_, _, _, _, _, _]) hs
  exact ⟨_, rfl, hs⟩

/- function 13 impl_CandidatesOf -/
def impl_CandidatesOf.post (w0 : World) (r : ((List Int) × Int)) (v : Value) (w : World) : Prop := ∃ u1 : Value, v = Value.tuple #[u1, Value.int .i64 r.2] ∧ St w0 [Row 2 (K.int .i64) u1 r.1] w
set_option maxHeartbeats 8000000 in
set_option maxRecDepth 100000 in
theorem impl_CandidatesOf.calls {N : Nat} {a1 : S_impl_Game} {v2 : Value} {w0 : World} {r : ((List Int) × Int)} (hr3 : RdRow k_S_impl_Ask w0 v2 a1.f_Asked) (H : impl_CandidatesOf.f N a1 = some r) :
    Calls Try.prog 13 #[Value.agg (([Value.int .i8 a1.f_Numbers, Value.int .i8 a1.f_Lies, v2] : List Value)).toArray] w0 fun e w => ∃ v, e = .returned v ∧ impl_CandidatesOf.post w0 r v w := by
  unfold impl_CandidatesOf.f at H
  have hs : St w0 [] w0 := St.refl w0
  refine calls_of_g (n := 8) Try.func13 rfl rfl ?_
  show G _ _ _ _ [_, _, _, _, _, _, _, _, _] _
  refine g_seq ?_
  refine g_region ?_
  show G _ _ _ (.inRegion _ [0, 1, 2] :: _) _ _
  refine s_box hs rfl rfl (cs := (([Value.int .i8 a1.f_Numbers, Value.int .i8 a1.f_Lies, v2] : List Value))) rfl rfl ?_
  intro b4 w hs
  show G _ _ _ _ [_, _, _, _, _, _, _, _, _] _
  refine g_op (v := Value.slice none 0 0) rfl rfl rfl ?_
  show G _ _ _ _ [_, _, _, _, _, _, _, _, _] _
  refine g_op (v := Value.int .i64 0) rfl rfl rfl ?_
  show G _ _ _ _ [_, _, _, _, _, _, _, _, _] _
  refine g_ops_nil ?_
  refine g_seq ?_
  refine g_seq ?_
  refine g_region ?_
  show G _ _ _ (.inRegion _ [0, 1, 2] :: _) _ _
  refine s_loadA rfl rfl (es := (([Value.int .i8 a1.f_Numbers, Value.int .i8 a1.f_Lies, v2] : List Value))) rfl rfl (fun _ => rfl) (n := 3) (fun _ => rfl) rfl (cells_all (hs.cells 0 rfl)) ?_
  show G _ _ _ _ [_, _, _, _, _, _, _, _, _] _
  obtain ⟨r6, Hr6, H⟩ := bind_get H
  refine s_call (args := [Value.agg (([Value.int .i8 a1.f_Numbers, Value.int .i8 a1.f_Lies, v2] : List Value)).toArray]) rfl rfl (x_call rfl (callFunc_enter Try.func30 rfl rfl) rfl) (impl_ValidGame.calls (a1 := (⟨a1.f_Numbers, a1.f_Lies, a1.f_Asked⟩ : S_impl_Game)) (hs.rd hr3) Hr6) ?_
  rintro _ w ⟨rfl, hs2⟩
  have hs : St _ [_] _ := hs.call hs2
  cases r6 with
  | true =>
    rw [if_pos rfl] at H
    show G _ _ _ _ [_, _, _, _, _, _, _, _, _] _
    refine g_op (v := Value.bool false) rfl rfl rfl ?_
    show G _ _ _ _ [_, _, _, _, _, _, _, _, _] _
    refine g_ops_nil ?_
    refine g_cond_false rfl ?_
    refine g_skip ?_
    refine g_seq ?_
    refine g_region ?_
    show G _ _ _ (.inRegion _ [0, 1, 2, 3] :: _) _ _
    refine s_loadA rfl rfl (es := (([Value.int .i8 a1.f_Numbers, Value.int .i8 a1.f_Lies, v2] : List Value))) rfl rfl (fun _ => rfl) (n := 3) (fun _ => rfl) rfl (cells_all (hs.cells 0 rfl)) ?_
    show G _ _ _ _ [_, _, _, _, _, _, _, _, _] _
    obtain ⟨r7, Hr7, H⟩ := bind_get H
    refine s_call (args := [Value.agg (([Value.int .i8 a1.f_Numbers, Value.int .i8 a1.f_Lies, v2] : List Value)).toArray]) rfl rfl (x_call rfl (callFunc_enter Try.func31 rfl rfl) rfl) (_impl_Game_candidates.calls (a1 := (⟨a1.f_Numbers, a1.f_Lies, a1.f_Asked⟩ : S_impl_Game)) (hs.rd hr3) Hr7) ?_
    intro v8 w hs2
    have hs : St _ [_, _] _ := hs.call hs2
    show G _ _ _ _ [_, _, _, _, _, _, _, _, _] _
    refine g_op (v := v8) rfl rfl rfl ?_
    show G _ _ _ _ [_, _, _, _, _, _, _, _, _] _
    refine g_op (v := Value.int .i64 0) rfl rfl rfl ?_
    show G _ _ _ _ [_, _, _, _, _, _, _, _, _] _
    refine g_ops_nil ?_
    obtain rfl := Option.some.inj H
    refine g_ret Try.func13 (v := Value.tuple #[v8, Value.int .i64 0]) (resN (l := Try.f13.results.toList) (vs := [v8, Value.int .i64 0]) rfl ⟨rfl, rfl, trivial⟩ (by simp)) ?_
    have hs := hs.pull 0 rfl
    have hs : St _ [_] _ := St.take (Γ' := [_]) hs
    exact ⟨_, rfl, v8, rfl, hs⟩
  | false =>
    rw [if_neg Bool.false_ne_true] at H
    show G _ _ _ _ [_, _, _, _, _, _, _, _, _] _
    refine g_op (v := Value.bool true) rfl rfl rfl ?_
    show G _ _ _ _ [_, _, _, _, _, _, _, _, _] _
    refine g_ops_nil ?_
    refine g_cond_true rfl ?_
    refine g_seq ?_
    refine g_region ?_
    show G _ _ _ (.inRegion _ [0, 1] :: _) _ _
    refine g_op (v := Value.slice none 0 0) rfl rfl rfl ?_
    show G _ _ _ _ [_, _, _, _, _, _, _, _, _] _
    refine g_op (v := Value.int .i64 1) rfl rfl rfl ?_
    show G _ _ _ _ [_, _, _, _, _, _, _, _, _] _
    refine g_ops_nil ?_
    obtain rfl := Option.some.inj H
    refine g_ret Try.func13 (v := Value.tuple #[Value.slice none 0 0, Value.int .i64 1]) (resN (l := Try.f13.results.toList) (vs := [Value.slice none 0 0, Value.int .i64 1]) rfl ⟨rfl, rfl, trivial⟩ (by simp)) ?_
    have hs := hs.nil 2 (K.int .i64)
    have hs := hs.pull 0 rfl
    have hs : St _ [_] _ := St.take (Γ' := [_]) hs
    exact ⟨_, rfl, (Value.slice none 0 0), rfl, hs⟩

end Go.Proofs.YtpbkenbmjgchkaaX
