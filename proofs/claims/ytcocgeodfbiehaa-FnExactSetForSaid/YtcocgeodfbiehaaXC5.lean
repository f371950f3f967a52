/- Contracts, printed by gen.py. -/
import Derived.Test.YtcocgeodfbiehaaXC4
namespace Go.Proofs.YtcocgeodfbiehaaX
open Go Go.RowKit Go.Proofs
set_option linter.unusedVariables false
set_option linter.unusedSimpArgs false
/- function 69 _impl_Game_sorts -/
def _impl_Game_sorts.post (w0 : World) (r : (Ar (List Int) 4)) (v : Value) (w : World) : Prop := ∃ u1 : Value, ∃ u2 : Value, ∃ u3 : Value, ∃ u4 : Value, v = Value.agg (([u1, u2, u3, u4] : List Value)).toArray ∧ St w0 [Row 2 (K.int .i64) u1 (r.get 0 []), Row 2 (K.int .i64) u2 (r.get 1 []), Row 2 (K.int .i64) u3 (r.get 2 []), Row 2 (K.int .i64) u4 (r.get 3 [])] w
set_option maxHeartbeats 400000 in
set_option maxRecDepth 100000 in
theorem _impl_Game_sorts.calls {N : Nat} {a1 : S_impl_Game} {v2 : Value} {w0 : World} {r : (Ar (List Int) 4)} (hr3 : RdRow k_S_impl_Ask w0 v2 a1.f_Asked) (H : _impl_Game_sorts.f N a1 = some r) :
    Calls Try.prog 69 #[Value.agg (([Value.int .i8 a1.f_Numbers, Value.int .i8 a1.f_Lies, v2] : List Value)).toArray] w0 fun e w => ∃ v, e = .returned v ∧ _impl_Game_sorts.post w0 r v w := by
  unfold _impl_Game_sorts.f at H
  have hs : St w0 [] w0 := St.refl w0
  refine calls_of_g (n := 31) Try.func69 rfl rfl ?_
  show G _ _ _ _ [_, _, _, _, _, _, _, _, _, _, _, _, _, _, _, _, _, _, _, _, _, _, _, _, _, _, _, _, _, _, _, _] _
  refine g_seq ?_
  refine g_region ?_
  show G _ _ _ (.inRegion _ [0, 1] :: _) _ _
  refine s_box hs rfl rfl (cs := (([Value.int .i8 a1.f_Numbers, Value.int .i8 a1.f_Lies, v2] : List Value))) rfl rfl ?_
  intro b4 w hs
  show G _ _ _ _ [_, _, _, _, _, _, _, _, _, _, _, _, _, _, _, _, _, _, _, _, _, _, _, _, _, _, _, _, _, _, _, _] _
  refine s_alloc hs rfl rfl (z := (Value.agg #[Value.slice none 0 0, Value.slice none 0 0, Value.slice none 0 0, Value.slice none 0 0])) (cs := (([Value.slice none 0 0, Value.slice none 0 0, Value.slice none 0 0, Value.slice none 0 0] : List Value))) rfl (fun _ => rfl) rfl ?_
  intro b6 w hs
  show G _ _ _ _ [_, _, _, _, _, _, _, _, _, _, _, _, _, _, _, _, _, _, _, _, _, _, _, _, _, _, _, _, _, _, _, _] _
  refine g_ops_nil ?_
  refine g_seq ?_
  refine g_region ?_
  show G _ _ _ (.inRegion _ [0, 1, 2] :: _) _ _
  refine g_op (v := Value.agg (([Value.slice none 0 0, Value.slice none 0 0, Value.slice none 0 0, Value.slice none 0 0] : List Value)).toArray) rfl rfl (x_build rfl rfl) ?_
  show G _ _ _ _ [_, _, _, _, _, _, _, _, _, _, _, _, _, _, _, _, _, _, _, _, _, _, _, _, _, _, _, _, _, _, _, _] _
  refine s_alloc hs rfl rfl (z := (Value.agg #[Value.slice none 0 0, Value.slice none 0 0, Value.slice none 0 0, Value.slice none 0 0])) (cs := (([Value.slice none 0 0, Value.slice none 0 0, Value.slice none 0 0, Value.slice none 0 0] : List Value))) rfl (fun _ => rfl) rfl ?_
  intro b8 w hs
  show G _ _ _ _ [_, _, _, _, _, _, _, _, _, _, _, _, _, _, _, _, _, _, _, _, _, _, _, _, _, _, _, _, _, _, _, _] _
  refine s_storeAll (n := 4) hs rfl rfl rfl (vs := (([Value.slice none 0 0, Value.slice none 0 0, Value.slice none 0 0, Value.slice none 0 0] : List Value))) rfl rfl rfl (fun _ => rfl) rfl (by simp [Value.oneCell']) ?_
  intro w hs
  refine g_ops_nil ?_
  refine g_seq ?_
  refine g_seq ?_
  refine g_region ?_
  show G _ _ _ (.inRegion _ [0, 1, 2, 3] :: _) _ _
  refine g_op (v := Value.pointer (some ⟨b4, 0, none⟩)) rfl rfl rfl ?_
  show G _ _ _ _ [_, _, _, _, _, _, _, _, _, _, _, _, _, _, _, _, _, _, _, _, _, _, _, _, _, _, _, _, _, _, _, _] _
  refine s_load1 rfl rfl (v := Value.int .i8 a1.f_Numbers) rfl rfl (fun _ => rfl) (cells_load (hs.cells 2 rfl) 0 1 rfl) ?_
  show G _ _ _ _ [_, _, _, _, _, _, _, _, _, _, _, _, _, _, _, _, _, _, _, _, _, _, _, _, _, _, _, _, _, _, _, _] _
  refine g_op (v := Value.int .i64 (i64w a1.f_Numbers)) rfl rfl rfl ?_
  show G _ _ _ _ [_, _, _, _, _, _, _, _, _, _, _, _, _, _, _, _, _, _, _, _, _, _, _, _, _, _, _, _, _, _, _, _] _
  refine g_op (v := Value.int .i64 0) rfl rfl rfl ?_
  show G _ _ _ _ [_, _, _, _, _, _, _, _, _, _, _, _, _, _, _, _, _, _, _, _, _, _, _, _, _, _, _, _, _, _, _, _] _
  refine g_ops_nil ?_
  obtain ⟨o1_, Ho, Hr1_⟩ := bind_get H
  refine g_block_join (J := fun t w => ∃ v90 : Value, ∃ x91 : (List Int), ∃ v93 : Value, ∃ x94 : (List Int), ∃ v96 : Value, ∃ x97 : (List Int), ∃ v99 : Value, ∃ x100 : (List Int), _impl_Game_sorts.a0 N x91 x94 x97 x100 = some r ∧ Fr t (fun O => ([O 0, O 1, Value.pointer (some ⟨b6, 0, none⟩), Value.pointer (some ⟨b8, 0, none⟩), O 4, O 5, O 6, O 7, O 8, O 9, O 10, O 11, O 12, O 13, O 14, O 15, O 16, O 17, O 18, O 19, O 20, O 21, O 22, O 23, O 24, O 25, O 26, O 27, O 28, O 29, O 30, O 31] : List Value)) ∧ St w0 [Cells b6 (([Value.slice none 0 0, Value.slice none 0 0, Value.slice none 0 0, Value.slice none 0 0] : List Value)) 108, Cells b8 (([v90, v93, v96, v99] : List Value)) 108, Row 2 (K.int .i64) v90 x91, Row 2 (K.int .i64) v93 x94, Row 2 (K.int .i64) v96 x97, Row 2 (K.int .i64) v99 x100] w) ?_ ?_
  · rintro t w ⟨v90, x91, v93, x94, v96, x97, v99, x100, H, hf, hs⟩
    obtain ⟨O, rfl⟩ := hf.open
    show G _ _ _ _ [_, _, _, _, _, _, _, _, _, _, _, _, _, _, _, _, _, _, _, _, _, _, _, _, _, _, _, _, _, _, _, _] _
    unfold _impl_Game_sorts.a0 at H
    refine g_seq ?_
    refine g_region ?_
    show G _ _ _ (.inRegion _ [0, 1] :: _) _ _
    refine s_loadA rfl rfl (es := (([v90, v93, v96, v99] : List Value))) rfl rfl (fun _ => rfl) (n := 4) (fun _ => rfl) rfl (cells_all (hs.cells 1 rfl)) ?_
    show G _ _ _ _ [_, _, _, _, _, _, _, _, _, _, _, _, _, _, _, _, _, _, _, _, _, _, _, _, _, _, _, _, _, _, _, _] _
    refine s_storeAll (n := 4) hs rfl rfl rfl (vs := (([v90, v93, v96, v99] : List Value))) rfl rfl rfl (fun _ => rfl) rfl (by intro v hv; simp only [List.mem_append, List.mem_cons, List.not_mem_nil, or_false] at hv; repeat (first | (subst hv; first | rfl | exact slOne (hs.row 2 rfl) | exact slOne (hs.row 3 rfl) | exact slOne (hs.row 4 rfl) | exact slOne (hs.row 5 rfl)) | (rcases hv with hv | hv))) ?_
    intro w hs
    refine g_ops_nil ?_
    obtain rfl := Option.some.inj H
    refine g_ret Try.func69 (v := Value.agg (([v90, v93, v96, v99] : List Value)).toArray) (resC rfl ⟨⟨_, rfl, (run_loadVar_agg (es := (([v90, v93, v96, v99] : List Value))) rfl rfl (cells_all (hs.cells 0 rfl)))⟩, trivial⟩) ?_
    have hs := hs.pull 5 rfl
    have hs := hs.pull 5 rfl
    have hs := hs.pull 5 rfl
    have hs := hs.pull 5 rfl
    have hs : St _ [_, _, _, _] _ := St.take (Γ' := [_, _]) hs
    exact ⟨_, rfl, v90, v93, v96, v99, rfl, hs⟩
  · intro ha1_
    have hs := hs.nil 2 (K.int .i64)
    have hs := hs.nil 2 (K.int .i64)
    have hs := hs.nil 2 (K.int .i64)
    have hs := hs.nil 2 (K.int .i64)
    have hs := hs.pull 4 rfl
    have hs := hs.pull 1 rfl
    have hs := hs.pull 2 rfl
    have hs := hs.pull 3 rfl
    have hs := hs.pull 4 rfl
    have hs := hs.pull 5 rfl
    have hs := hs.pull 6 rfl
    have hs : St _ [_, _, _, _, _, _, _] _ := St.take (Γ' := []) hs
    refine g_loop_fuel (I := fun n_ t w => ∃ v47 : Value, ∃ x48 : (List Int), ∃ v50 : Value, ∃ x51 : (List Int), ∃ v53 : Value, ∃ x54 : (List Int), ∃ v56 : Value, ∃ x57 : (List Int), ∃ x58 : Int, rounds (fun s => _impl_Game_sorts.b0 N a1 s.1 s.2.1 s.2.2.1 s.2.2.2.1 s.2.2.2.2) n_ (x48, x51, x54, x57, x58) = some o1_ ∧ Fr t (fun O => ([O 0, Value.pointer (some ⟨b4, 0, none⟩), Value.pointer (some ⟨b6, 0, none⟩), Value.pointer (some ⟨b8, 0, none⟩), O 4, O 5, O 6, O 7, O 8, Value.int .i64 (i64w a1.f_Numbers), Value.int .i64 x58, O 11, O 12, O 13, O 14, O 15, O 16, O 17, O 18, O 19, O 20, O 21, O 22, O 23, O 24, O 25, O 26, O 27, O 28, O 29, O 30, O 31] : List Value)) ∧ St w0 [Cells b4 (([Value.int .i8 a1.f_Numbers, Value.int .i8 a1.f_Lies, v2] : List Value)) 32, Cells b6 (([Value.slice none 0 0, Value.slice none 0 0, Value.slice none 0 0, Value.slice none 0 0] : List Value)) 108, Row 2 (K.int .i64) v47 x48, Row 2 (K.int .i64) v50 x51, Row 2 (K.int .i64) v53 x54, Row 2 (K.int .i64) v56 x57, Cells b8 (([v47, v50, v53, v56] : List Value)) 108] w) N ⟨Value.slice none 0 0, [], Value.slice none 0 0, [], Value.slice none 0 0, [], Value.slice none 0 0, [], 0, Ho, rfl, hs⟩ ?_ ?_
    · rintro _ _ ⟨v47, x48, v50, x51, v53, x54, v56, x57, x58, h, _⟩
      exact rounds_zero h
    · intro n_ ih1_
      rintro t w ⟨v47, x48, v50, x51, v53, x54, v56, x57, x58, Ho, hf, hs⟩
      obtain ⟨O, rfl⟩ := hf.open
      show G _ _ _ _ [_, _, _, _, _, _, _, _, _, _, _, _, _, _, _, _, _, _, _, _, _, _, _, _, _, _, _, _, _, _, _, _] _
      obtain ⟨x9_, H, Hx1_⟩ := rounds_succ Ho
      have H : _impl_Game_sorts.b0 N a1 x48 x51 x54 x57 x58 = some x9_ := H
      unfold _impl_Game_sorts.b0 at H
      refine g_seq ?_
      refine g_region ?_
      show G _ _ _ (.inRegion _ [0] :: _) _ _
      refine g_op_b (B := decide (x58 < (i64w a1.f_Numbers))) rfl rfl rfl ?_ ?_
      · intro hb
        rw [if_pos (b_dec_t hb)] at H
        show G _ _ _ _ [_, _, _, _, _, _, _, _, _, _, _, _, _, _, _, _, _, _, _, _, _, _, _, _, _, _, _, _, _, _, _, _] _
        refine g_ops_nil ?_
        refine g_seq ?_
        refine g_cond_true rfl ?_
        refine g_skip ?_
        refine g_seq ?_
        refine g_block_join (J := (fun t w => ∃ v78 : Value, ∃ x79 : (List Int), ∃ v81 : Value, ∃ x82 : (List Int), ∃ v84 : Value, ∃ x85 : (List Int), ∃ v87 : Value, ∃ x88 : (List Int), _impl_Game_sorts.j2 N x58 x79 x82 x85 x88 = some x9_ ∧ Fr t (fun O => ([O 0, Value.pointer (some ⟨b4, 0, none⟩), Value.pointer (some ⟨b6, 0, none⟩), Value.pointer (some ⟨b8, 0, none⟩), O 4, O 5, O 6, O 7, O 8, Value.int .i64 (i64w a1.f_Numbers), Value.int .i64 x58, O 11, O 12, O 13, O 14, O 15, O 16, O 17, O 18, O 19, O 20, O 21, O 22, O 23, O 24, O 25, O 26, O 27, O 28, O 29, O 30, O 31] : List Value)) ∧ St w0 [Cells b4 (([Value.int .i8 a1.f_Numbers, Value.int .i8 a1.f_Lies, v2] : List Value)) 32, Cells b6 (([Value.slice none 0 0, Value.slice none 0 0, Value.slice none 0 0, Value.slice none 0 0] : List Value)) 108, Cells b8 (([v78, v81, v84, v87] : List Value)) 108, Row 2 (K.int .i64) v78 x79, Row 2 (K.int .i64) v81 x82, Row 2 (K.int .i64) v84 x85, Row 2 (K.int .i64) v87 x88] w)) ?_ ?_
        · rintro t w ⟨v78, x79, v81, x82, v84, x85, v87, x88, H, hf, hs⟩
          obtain ⟨O, rfl⟩ := hf.open
          show G _ _ _ _ [_, _, _, _, _, _, _, _, _, _, _, _, _, _, _, _, _, _, _, _, _, _, _, _, _, _, _, _, _, _, _, _] _
          unfold _impl_Game_sorts.j2 at H
          refine g_region ?_
          show G _ _ _ (.inRegion _ [0, 1] :: _) _ _
          refine g_op (v := Value.int .i64 (i64w (x58 + 1))) rfl rfl rfl ?_
          show G _ _ _ _ [_, _, _, _, _, _, _, _, _, _, _, _, _, _, _, _, _, _, _, _, _, _, _, _, _, _, _, _, _, _, _, _] _
          refine g_op (v := Value.int .i64 (i64w (x58 + 1))) rfl rfl rfl ?_
          show G _ _ _ _ [_, _, _, _, _, _, _, _, _, _, _, _, _, _, _, _, _, _, _, _, _, _, _, _, _, _, _, _, _, _, _, _] _
          refine g_ops_nil ?_
          obtain rfl := Option.some.inj H
          have hs := hs.pull 2 rfl
          have hs := hs.pull 6 rfl
          have hs := hs.pull 6 rfl
          have hs := hs.pull 6 rfl
          have hs := hs.pull 6 rfl
          have hs := hs.pull 6 rfl
          have hs := hs.pull 6 rfl
          have hs : St _ [_, _, _, _, _, _, _] _ := St.take (Γ' := []) hs
          exact ih1_ _ _ ⟨v78, x79, v81, x82, v84, x85, v87, x88, i64w (x58 + 1), Hx1_, rfl, hs⟩
        · intro ha
          refine g_seq ?_
          refine g_region ?_
          show G _ _ _ (.inRegion _ [0, 1] :: _) _ _
          refine g_op (v := Value.int .i64 x58) rfl rfl rfl ?_
          show G _ _ _ _ [_, _, _, _, _, _, _, _, _, _, _, _, _, _, _, _, _, _, _, _, _, _, _, _, _, _, _, _, _, _, _, _] _
          refine g_op (v := Value.int .i64 x58) rfl rfl rfl ?_
          show G _ _ _ _ [_, _, _, _, _, _, _, _, _, _, _, _, _, _, _, _, _, _, _, _, _, _, _, _, _, _, _, _, _, _, _, _] _
          refine g_ops_nil ?_
          refine g_seq ?_
          refine g_region ?_
          show G _ _ _ (.inRegion _ [0, 1, 2, 3, 4] :: _) _ _
          refine s_loadA rfl rfl (es := (([Value.int .i8 a1.f_Numbers, Value.int .i8 a1.f_Lies, v2] : List Value))) rfl rfl (fun _ => rfl) (n := 3) (fun _ => rfl) rfl (cells_all (hs.cells 0 rfl)) ?_
          show G _ _ _ _ [_, _, _, _, _, _, _, _, _, _, _, _, _, _, _, _, _, _, _, _, _, _, _, _, _, _, _, _, _, _, _, _] _
          refine g_op (v := Value.int .i64 x58) rfl rfl rfl ?_
          show G _ _ _ _ [_, _, _, _, _, _, _, _, _, _, _, _, _, _, _, _, _, _, _, _, _, _, _, _, _, _, _, _, _, _, _, _] _
          obtain ⟨r59, Hr59, H⟩ := bind_get H
          refine s_call (args := [Value.agg (([Value.int .i8 a1.f_Numbers, Value.int .i8 a1.f_Lies, v2] : List Value)).toArray, Value.int .i64 x58]) rfl rfl (x_call rfl (callFunc_enter Try.func86 rfl rfl) rfl) (_impl_Game_wrongFor.calls (a1 := (⟨a1.f_Numbers, a1.f_Lies, a1.f_Asked⟩ : S_impl_Game)) (a4 := x58) (hs.rd hr3) Hr59) ?_
          intro v60 w hs2
          have hs : St _ [_, _, _, _, _, _, _, _] _ := hs.call hs2
          show G _ _ _ _ [_, _, _, _, _, _, _, _, _, _, _, _, _, _, _, _, _, _, _, _, _, _, _, _, _, _, _, _, _, _, _, _] _
          refine s_len (hs.row 0 rfl) rfl rfl rfl rfl rfl ?_
          show G _ _ _ _ [_, _, _, _, _, _, _, _, _, _, _, _, _, _, _, _, _, _, _, _, _, _, _, _, _, _, _, _, _, _, _, _] _
          refine g_op (v := Value.int .i64 (r59.length : Int)) rfl rfl rfl ?_
          show G _ _ _ _ [_, _, _, _, _, _, _, _, _, _, _, _, _, _, _, _, _, _, _, _, _, _, _, _, _, _, _, _, _, _, _, _] _
          refine g_ops_nil ?_
          refine g_seq ?_
          refine g_region ?_
          show G _ _ _ (.inRegion _ [0, 1, 2, 3, 4] :: _) _ _
          refine g_op (v := Value.int .i64 (r59.length : Int)) rfl rfl rfl ?_
          show G _ _ _ _ [_, _, _, _, _, _, _, _, _, _, _, _, _, _, _, _, _, _, _, _, _, _, _, _, _, _, _, _, _, _, _, _] _
          refine g_op (v := Value.pointer (some ⟨b4, 1, none⟩)) rfl rfl rfl ?_
          show G _ _ _ _ [_, _, _, _, _, _, _, _, _, _, _, _, _, _, _, _, _, _, _, _, _, _, _, _, _, _, _, _, _, _, _, _] _
          refine s_load1 rfl rfl (v := Value.int .i8 a1.f_Lies) rfl rfl (fun _ => rfl) (cells_load (hs.cells 1 rfl) 1 1 rfl) ?_
          show G _ _ _ _ [_, _, _, _, _, _, _, _, _, _, _, _, _, _, _, _, _, _, _, _, _, _, _, _, _, _, _, _, _, _, _, _] _
          refine g_op (v := Value.int .i64 (i64w a1.f_Lies)) rfl rfl rfl ?_
          show G _ _ _ _ [_, _, _, _, _, _, _, _, _, _, _, _, _, _, _, _, _, _, _, _, _, _, _, _, _, _, _, _, _, _, _, _] _
          refine g_op_b (B := decide ((r59.length : Int) ≤ (i64w a1.f_Lies))) rfl rfl rfl ?_ ?_
          · intro hb
            rw [if_pos (b_dec_t hb)] at H
            show G _ _ _ _ [_, _, _, _, _, _, _, _, _, _, _, _, _, _, _, _, _, _, _, _, _, _, _, _, _, _, _, _, _, _, _, _] _
            refine g_ops_nil ?_
            refine g_cond_true rfl ?_
            by_cases hk5_ : (r59.length : Int) = 0
            · rw [if_pos hk5_] at H
              refine g_region ?_
              show G _ _ _ (.inRegion _ [0, 1, 2, 3, 4, 5, 6, 7, 8] :: _) _ _
              refine g_op (v := Value.int .i64 (r59.length : Int)) rfl rfl rfl ?_
              show G _ _ _ _ [_, _, _, _, _, _, _, _, _, _, _, _, _, _, _, _, _, _, _, _, _, _, _, _, _, _, _, _, _, _, _, _] _
              refine g_op (v := Value.int .i64 (r59.length : Int)) rfl rfl rfl ?_
              show G _ _ _ _ [_, _, _, _, _, _, _, _, _, _, _, _, _, _, _, _, _, _, _, _, _, _, _, _, _, _, _, _, _, _, _, _] _
              refine s_idxJ (m := 1) 0 hk5_ (by decide) rfl (fun _ => rfl) rfl rfl rfl rfl rfl ?_
              show G _ _ _ _ [_, _, _, _, _, _, _, _, _, _, _, _, _, _, _, _, _, _, _, _, _, _, _, _, _, _, _, _, _, _, _, _] _
              refine s_load1 rfl rfl (v := v47) rfl rfl (fun _ => rfl) (cells_load (hs.cells 7 rfl) 0 1 rfl) ?_
              show G _ _ _ _ [_, _, _, _, _, _, _, _, _, _, _, _, _, _, _, _, _, _, _, _, _, _, _, _, _, _, _, _, _, _, _, _] _
              refine g_op (v := Value.int .i64 x58) rfl rfl rfl ?_
              show G _ _ _ _ [_, _, _, _, _, _, _, _, _, _, _, _, _, _, _, _, _, _, _, _, _, _, _, _, _, _, _, _, _, _, _, _] _
              refine s_lit1 (fkI .i64) (y := x58) hs rfl rfl rfl rfl (fun _ => rfl) (zv := (Value.int .i64 0)) (fun _ => rfl) rfl (by decide) (by decide) rfl ?_
              intro v62 w hs
              show G _ _ _ _ [_, _, _, _, _, _, _, _, _, _, _, _, _, _, _, _, _, _, _, _, _, _, _, _, _, _, _, _, _, _, _, _] _
              have hs := hs.pull 4 rfl
              have hs : St _ [_, _, _, _, _, _, _, _, _] _ := hs
              obtain ⟨g, H⟩ := ite_get H
              refine s_append (fkI .i64) (zv := (Value.int .i64 0)) (B := 8) hs (hs.row 1 rfl) rfl rfl rfl rfl rfl rfl rfl rfl rfl (by decide) rfl rfl (by decide) (by omega) ?_
              intro v64 w hs
              show G _ _ _ _ [_, _, _, _, _, _, _, _, _, _, _, _, _, _, _, _, _, _, _, _, _, _, _, _, _, _, _, _, _, _, _, _] _
              refine s_idxJ (m := 1) 0 hk5_ (by decide) rfl (fun _ => rfl) rfl rfl rfl rfl rfl ?_
              show G _ _ _ _ [_, _, _, _, _, _, _, _, _, _, _, _, _, _, _, _, _, _, _, _, _, _, _, _, _, _, _, _, _, _, _, _] _
              have hs := hs.pull 8 rfl
              have hs : St _ [_, _, _, _, _, _, _, _, _] _ := hs
              refine s_store hs rfl rfl (vs := [v64]) (cs' := (([v64, v50, v53, v56] : List Value))) rfl rfl (slCells (hs.row 1 rfl)) (n := 1) (fun _ => rfl) rfl (by first | exact Nat.le_of_ble_eq_true rfl | simp [encA_len]) (by intro v hv; simp only [List.mem_cons, List.not_mem_nil, or_false] at hv; subst hv; exact slOne (hs.row 1 rfl)) rfl ?_
              intro w hs
              refine g_ops_nil ?_
              refine g_inBlock ?_
              have hs := hs.pull 8 rfl
              have hs := hs.pull 8 rfl
              have hs := hs.pull 8 rfl
              have hs := hs.pull 4 rfl
              have hs := hs.pull 4 rfl
              have hs := hs.pull 8 rfl
              have hs := hs.pull 8 rfl
              have hs : St _ [_, _, _, _, _, _, _] _ := St.take (Γ' := [_, _]) hs
              exact ha _ _ ⟨v64, x48 ++ ([x58]), v50, x51, v53, x54, v56, x57, H, rfl, hs⟩
            · rw [if_neg hk5_] at H
              by_cases hk6_ : (r59.length : Int) = 1
              · rw [if_pos hk6_] at H
                refine g_region ?_
                show G _ _ _ (.inRegion _ [0, 1, 2, 3, 4, 5, 6, 7, 8] :: _) _ _
                refine g_op (v := Value.int .i64 (r59.length : Int)) rfl rfl rfl ?_
                show G _ _ _ _ [_, _, _, _, _, _, _, _, _, _, _, _, _, _, _, _, _, _, _, _, _, _, _, _, _, _, _, _, _, _, _, _] _
                refine g_op (v := Value.int .i64 (r59.length : Int)) rfl rfl rfl ?_
                show G _ _ _ _ [_, _, _, _, _, _, _, _, _, _, _, _, _, _, _, _, _, _, _, _, _, _, _, _, _, _, _, _, _, _, _, _] _
                refine s_idxJ (m := 1) 1 hk6_ (by decide) rfl (fun _ => rfl) rfl rfl rfl rfl rfl ?_
                show G _ _ _ _ [_, _, _, _, _, _, _, _, _, _, _, _, _, _, _, _, _, _, _, _, _, _, _, _, _, _, _, _, _, _, _, _] _
                refine s_load1 rfl rfl (v := v50) rfl rfl (fun _ => rfl) (cells_load (hs.cells 7 rfl) 1 1 rfl) ?_
                show G _ _ _ _ [_, _, _, _, _, _, _, _, _, _, _, _, _, _, _, _, _, _, _, _, _, _, _, _, _, _, _, _, _, _, _, _] _
                refine g_op (v := Value.int .i64 x58) rfl rfl rfl ?_
                show G _ _ _ _ [_, _, _, _, _, _, _, _, _, _, _, _, _, _, _, _, _, _, _, _, _, _, _, _, _, _, _, _, _, _, _, _] _
                refine s_lit1 (fkI .i64) (y := x58) hs rfl rfl rfl rfl (fun _ => rfl) (zv := (Value.int .i64 0)) (fun _ => rfl) rfl (by decide) (by decide) rfl ?_
                intro v66 w hs
                show G _ _ _ _ [_, _, _, _, _, _, _, _, _, _, _, _, _, _, _, _, _, _, _, _, _, _, _, _, _, _, _, _, _, _, _, _] _
                have hs := hs.pull 5 rfl
                have hs : St _ [_, _, _, _, _, _, _, _, _] _ := hs
                obtain ⟨g, H⟩ := ite_get H
                refine s_append (fkI .i64) (zv := (Value.int .i64 0)) (B := 8) hs (hs.row 1 rfl) rfl rfl rfl rfl rfl rfl rfl rfl rfl (by decide) rfl rfl (by decide) (by omega) ?_
                intro v68 w hs
                show G _ _ _ _ [_, _, _, _, _, _, _, _, _, _, _, _, _, _, _, _, _, _, _, _, _, _, _, _, _, _, _, _, _, _, _, _] _
                refine s_idxJ (m := 1) 1 hk6_ (by decide) rfl (fun _ => rfl) rfl rfl rfl rfl rfl ?_
                show G _ _ _ _ [_, _, _, _, _, _, _, _, _, _, _, _, _, _, _, _, _, _, _, _, _, _, _, _, _, _, _, _, _, _, _, _] _
                have hs := hs.pull 8 rfl
                have hs : St _ [_, _, _, _, _, _, _, _, _] _ := hs
                refine s_store hs rfl rfl (vs := [v68]) (cs' := (([v47, v68, v53, v56] : List Value))) rfl rfl (slCells (hs.row 1 rfl)) (n := 1) (fun _ => rfl) rfl (by first | exact Nat.le_of_ble_eq_true rfl | simp [encA_len]) (by intro v hv; simp only [List.mem_cons, List.not_mem_nil, or_false] at hv; subst hv; exact slOne (hs.row 1 rfl)) rfl ?_
                intro w hs
                refine g_ops_nil ?_
                refine g_inBlock ?_
                have hs := hs.pull 8 rfl
                have hs := hs.pull 8 rfl
                have hs := hs.pull 3 rfl
                have hs := hs.pull 8 rfl
                have hs := hs.pull 4 rfl
                have hs := hs.pull 8 rfl
                have hs := hs.pull 8 rfl
                have hs : St _ [_, _, _, _, _, _, _] _ := St.take (Γ' := [_, _]) hs
                exact ha _ _ ⟨v47, x48, v68, x51 ++ ([x58]), v53, x54, v56, x57, H, rfl, hs⟩
              · rw [if_neg hk6_] at H
                by_cases hk7_ : (r59.length : Int) = 2
                · rw [if_pos hk7_] at H
                  refine g_region ?_
                  show G _ _ _ (.inRegion _ [0, 1, 2, 3, 4, 5, 6, 7, 8] :: _) _ _
                  refine g_op (v := Value.int .i64 (r59.length : Int)) rfl rfl rfl ?_
                  show G _ _ _ _ [_, _, _, _, _, _, _, _, _, _, _, _, _, _, _, _, _, _, _, _, _, _, _, _, _, _, _, _, _, _, _, _] _
                  refine g_op (v := Value.int .i64 (r59.length : Int)) rfl rfl rfl ?_
                  show G _ _ _ _ [_, _, _, _, _, _, _, _, _, _, _, _, _, _, _, _, _, _, _, _, _, _, _, _, _, _, _, _, _, _, _, _] _
                  refine s_idxJ (m := 1) 2 hk7_ (by decide) rfl (fun _ => rfl) rfl rfl rfl rfl rfl ?_
                  show G _ _ _ _ [_, _, _, _, _, _, _, _, _, _, _, _, _, _, _, _, _, _, _, _, _, _, _, _, _, _, _, _, _, _, _, _] _
                  refine s_load1 rfl rfl (v := v53) rfl rfl (fun _ => rfl) (cells_load (hs.cells 7 rfl) 2 1 rfl) ?_
                  show G _ _ _ _ [_, _, _, _, _, _, _, _, _, _, _, _, _, _, _, _, _, _, _, _, _, _, _, _, _, _, _, _, _, _, _, _] _
                  refine g_op (v := Value.int .i64 x58) rfl rfl rfl ?_
                  show G _ _ _ _ [_, _, _, _, _, _, _, _, _, _, _, _, _, _, _, _, _, _, _, _, _, _, _, _, _, _, _, _, _, _, _, _] _
                  refine s_lit1 (fkI .i64) (y := x58) hs rfl rfl rfl rfl (fun _ => rfl) (zv := (Value.int .i64 0)) (fun _ => rfl) rfl (by decide) (by decide) rfl ?_
                  intro v70 w hs
                  show G _ _ _ _ [_, _, _, _, _, _, _, _, _, _, _, _, _, _, _, _, _, _, _, _, _, _, _, _, _, _, _, _, _, _, _, _] _
                  have hs := hs.pull 6 rfl
                  have hs : St _ [_, _, _, _, _, _, _, _, _] _ := hs
                  obtain ⟨g, H⟩ := ite_get H
                  refine s_append (fkI .i64) (zv := (Value.int .i64 0)) (B := 8) hs (hs.row 1 rfl) rfl rfl rfl rfl rfl rfl rfl rfl rfl (by decide) rfl rfl (by decide) (by omega) ?_
                  intro v72 w hs
                  show G _ _ _ _ [_, _, _, _, _, _, _, _, _, _, _, _, _, _, _, _, _, _, _, _, _, _, _, _, _, _, _, _, _, _, _, _] _
                  refine s_idxJ (m := 1) 2 hk7_ (by decide) rfl (fun _ => rfl) rfl rfl rfl rfl rfl ?_
                  show G _ _ _ _ [_, _, _, _, _, _, _, _, _, _, _, _, _, _, _, _, _, _, _, _, _, _, _, _, _, _, _, _, _, _, _, _] _
                  have hs := hs.pull 8 rfl
                  have hs : St _ [_, _, _, _, _, _, _, _, _] _ := hs
                  refine s_store hs rfl rfl (vs := [v72]) (cs' := (([v47, v50, v72, v56] : List Value))) rfl rfl (slCells (hs.row 1 rfl)) (n := 1) (fun _ => rfl) rfl (by first | exact Nat.le_of_ble_eq_true rfl | simp [encA_len]) (by intro v hv; simp only [List.mem_cons, List.not_mem_nil, or_false] at hv; subst hv; exact slOne (hs.row 1 rfl)) rfl ?_
                  intro w hs
                  refine g_ops_nil ?_
                  refine g_inBlock ?_
                  have hs := hs.pull 8 rfl
                  have hs := hs.pull 2 rfl
                  have hs := hs.pull 8 rfl
                  have hs := hs.pull 8 rfl
                  have hs := hs.pull 4 rfl
                  have hs := hs.pull 8 rfl
                  have hs := hs.pull 8 rfl
                  have hs : St _ [_, _, _, _, _, _, _] _ := St.take (Γ' := [_, _]) hs
                  exact ha _ _ ⟨v47, x48, v50, x51, v72, x54 ++ ([x58]), v56, x57, H, rfl, hs⟩
                · rw [if_neg hk7_] at H
                  by_cases hk8_ : (r59.length : Int) = 3
                  · rw [if_pos hk8_] at H
                    refine g_region ?_
                    show G _ _ _ (.inRegion _ [0, 1, 2, 3, 4, 5, 6, 7, 8] :: _) _ _
                    refine g_op (v := Value.int .i64 (r59.length : Int)) rfl rfl rfl ?_
                    show G _ _ _ _ [_, _, _, _, _, _, _, _, _, _, _, _, _, _, _, _, _, _, _, _, _, _, _, _, _, _, _, _, _, _, _, _] _
                    refine g_op (v := Value.int .i64 (r59.length : Int)) rfl rfl rfl ?_
                    show G _ _ _ _ [_, _, _, _, _, _, _, _, _, _, _, _, _, _, _, _, _, _, _, _, _, _, _, _, _, _, _, _, _, _, _, _] _
                    refine s_idxJ (m := 1) 3 hk8_ (by decide) rfl (fun _ => rfl) rfl rfl rfl rfl rfl ?_
                    show G _ _ _ _ [_, _, _, _, _, _, _, _, _, _, _, _, _, _, _, _, _, _, _, _, _, _, _, _, _, _, _, _, _, _, _, _] _
                    refine s_load1 rfl rfl (v := v56) rfl rfl (fun _ => rfl) (cells_load (hs.cells 7 rfl) 3 1 rfl) ?_
                    show G _ _ _ _ [_, _, _, _, _, _, _, _, _, _, _, _, _, _, _, _, _, _, _, _, _, _, _, _, _, _, _, _, _, _, _, _] _
                    refine g_op (v := Value.int .i64 x58) rfl rfl rfl ?_
                    show G _ _ _ _ [_, _, _, _, _, _, _, _, _, _, _, _, _, _, _, _, _, _, _, _, _, _, _, _, _, _, _, _, _, _, _, _] _
                    refine s_lit1 (fkI .i64) (y := x58) hs rfl rfl rfl rfl (fun _ => rfl) (zv := (Value.int .i64 0)) (fun _ => rfl) rfl (by decide) (by decide) rfl ?_
                    intro v74 w hs
                    show G _ _ _ _ [_, _, _, _, _, _, _, _, _, _, _, _, _, _, _, _, _, _, _, _, _, _, _, _, _, _, _, _, _, _, _, _] _
                    have hs := hs.pull 7 rfl
                    have hs : St _ [_, _, _, _, _, _, _, _, _] _ := hs
                    obtain ⟨g, H⟩ := ite_get H
                    refine s_append (fkI .i64) (zv := (Value.int .i64 0)) (B := 8) hs (hs.row 1 rfl) rfl rfl rfl rfl rfl rfl rfl rfl rfl (by decide) rfl rfl (by decide) (by omega) ?_
                    intro v76 w hs
                    show G _ _ _ _ [_, _, _, _, _, _, _, _, _, _, _, _, _, _, _, _, _, _, _, _, _, _, _, _, _, _, _, _, _, _, _, _] _
                    refine s_idxJ (m := 1) 3 hk8_ (by decide) rfl (fun _ => rfl) rfl rfl rfl rfl rfl ?_
                    show G _ _ _ _ [_, _, _, _, _, _, _, _, _, _, _, _, _, _, _, _, _, _, _, _, _, _, _, _, _, _, _, _, _, _, _, _] _
                    have hs := hs.pull 8 rfl
                    have hs : St _ [_, _, _, _, _, _, _, _, _] _ := hs
                    refine s_store hs rfl rfl (vs := [v76]) (cs' := (([v47, v50, v53, v76] : List Value))) rfl rfl (slCells (hs.row 1 rfl)) (n := 1) (fun _ => rfl) rfl (by first | exact Nat.le_of_ble_eq_true rfl | simp [encA_len]) (by intro v hv; simp only [List.mem_cons, List.not_mem_nil, or_false] at hv; subst hv; exact slOne (hs.row 1 rfl)) rfl ?_
                    intro w hs
                    refine g_ops_nil ?_
                    refine g_inBlock ?_
                    have hs := hs.pull 1 rfl
                    have hs := hs.pull 8 rfl
                    have hs := hs.pull 8 rfl
                    have hs := hs.pull 8 rfl
                    have hs := hs.pull 4 rfl
                    have hs := hs.pull 8 rfl
                    have hs := hs.pull 8 rfl
                    have hs : St _ [_, _, _, _, _, _, _] _ := St.take (Γ' := [_, _]) hs
                    exact ha _ _ ⟨v47, x48, v50, x51, v53, x54, v76, x57 ++ ([x58]), H, rfl, hs⟩
                  · rw [if_neg hk8_] at H
                    cases H
          · intro hb
            rw [if_neg (b_dec_f hb)] at H
            show G _ _ _ _ [_, _, _, _, _, _, _, _, _, _, _, _, _, _, _, _, _, _, _, _, _, _, _, _, _, _, _, _, _, _, _, _] _
            refine g_ops_nil ?_
            refine g_cond_false rfl ?_
            refine g_skip ?_
            refine g_inBlock ?_
            have hs := hs.pull 6 rfl
            have hs := hs.pull 6 rfl
            have hs := hs.pull 6 rfl
            have hs := hs.pull 6 rfl
            have hs := hs.pull 7 rfl
            have hs := hs.pull 7 rfl
            have hs := hs.pull 7 rfl
            have hs : St _ [_, _, _, _, _, _, _] _ := St.take (Γ' := [_]) hs
            exact ha _ _ ⟨v47, x48, v50, x51, v53, x54, v56, x57, H, rfl, hs⟩
      · intro hb
        rw [if_neg (b_dec_f hb)] at H
        show G _ _ _ _ [_, _, _, _, _, _, _, _, _, _, _, _, _, _, _, _, _, _, _, _, _, _, _, _, _, _, _, _, _, _, _, _] _
        refine g_ops_nil ?_
        refine g_seq ?_
        refine g_cond_false rfl ?_
        obtain rfl := Option.some.inj H
        subst Hx1_
        have hs := hs.pull 5 rfl
        have hs := hs.pull 5 rfl
        have hs := hs.pull 5 rfl
        have hs := hs.pull 5 rfl
        have hs := hs.pull 6 rfl
        have hs := hs.pull 6 rfl
        have hs : St _ [_, _, _, _, _, _] _ := St.take (Γ' := [_]) hs
        refine g_exit rfl ?_
        exact ha1_ _ _ ⟨v47, x48, v50, x51, v53, x54, v56, x57, Hr1_, rfl, hs⟩

/- function 70 impl_size_int64 -/
def impl_size_int64.post (w0 : World) (r : Int) (v : Value) (w : World) : Prop := v = Value.int .i64 r ∧ St w0 [] w
set_option maxHeartbeats 400000 in
set_option maxRecDepth 100000 in
theorem impl_size_int64.calls {N : Nat} {a1 : (List Int)} {v2 : Value} {w0 : World} {r : Int} (hr0 : RdRow (K.int .i64) w0 v2 a1) (H : impl_size_int64.f N a1 = some r) :
    Calls Try.prog 70 #[v2] w0 fun e w => ∃ v, e = .returned v ∧ impl_size_int64.post w0 r v w := by
  unfold impl_size_int64.f at H
  have hs : St w0 [] w0 := St.refl w0
  refine calls_of_g (n := 4) Try.func70 rfl rfl ?_
  show G _ _ _ _ [_, _, _, _, _] _
  refine g_seq ?_
  refine g_region ?_
  show G _ _ _ (.inRegion _ [0] :: _) _ _
  refine g_op (v := Value.int .i64 0) rfl rfl rfl ?_
  show G _ _ _ _ [_, _, _, _, _] _
  refine g_ops_nil ?_
  refine g_seq ?_
  refine g_region ?_
  show G _ _ _ (.inRegion _ [0, 1, 2] :: _) _ _
  refine g_op (v := v2) rfl rfl rfl ?_
  show G _ _ _ _ [_, _, _, _, _] _
  refine s_len (hs.rd hr0) rfl rfl rfl rfl rfl ?_
  show G _ _ _ _ [_, _, _, _, _] _
  refine g_op (v := Value.int .i64 (a1.length : Int)) rfl rfl rfl ?_
  show G _ _ _ _ [_, _, _, _, _] _
  refine g_ops_nil ?_
  obtain rfl := Option.some.inj H
  refine g_ret Try.func70 (v := Value.int .i64 (a1.length : Int)) (res1 rfl rfl) ?_
  have hs : St _ [] _ := St.take (Γ' := []) hs
  exact ⟨_, rfl, rfl, hs⟩

/- function 39 _impl_Game_state -/
def _impl_Game_state.post (w0 : World) (r : (Ar Int 4)) (v : Value) (w : World) : Prop := v = Value.agg ((encA (encI .i64)) r).toArray ∧ St w0 [] w
set_option maxHeartbeats 400000 in
set_option maxRecDepth 100000 in
theorem _impl_Game_state.calls {N : Nat} {a1 : S_impl_Game} {v2 : Value} {w0 : World} {r : (Ar Int 4)} (hr3 : RdRow k_S_impl_Ask w0 v2 a1.f_Asked) (H : _impl_Game_state.f N a1 = some r) :
    Calls Try.prog 39 #[Value.agg (([Value.int .i8 a1.f_Numbers, Value.int .i8 a1.f_Lies, v2] : List Value)).toArray] w0 fun e w => ∃ v, e = .returned v ∧ _impl_Game_state.post w0 r v w := by
  unfold _impl_Game_state.f at H
  have hs : St w0 [] w0 := St.refl w0
  refine calls_of_g (n := 18) Try.func39 rfl rfl ?_
  show G _ _ _ _ [_, _, _, _, _, _, _, _, _, _, _, _, _, _, _, _, _, _, _] _
  refine g_seq ?_
  refine g_region ?_
  show G _ _ _ (.inRegion _ [0, 1] :: _) _ _
  refine s_box hs rfl rfl (cs := (([Value.int .i8 a1.f_Numbers, Value.int .i8 a1.f_Lies, v2] : List Value))) rfl rfl ?_
  intro b4 w hs
  show G _ _ _ _ [_, _, _, _, _, _, _, _, _, _, _, _, _, _, _, _, _, _, _] _
  refine s_alloc hs rfl rfl (z := (Value.agg #[Value.int .i64 0, Value.int .i64 0, Value.int .i64 0, Value.int .i64 0])) (cs := ((encA (encI .i64)) (Ar.rep 4 0))) rfl (fun _ => rfl) rfl ?_
  intro b6 w hs
  show G _ _ _ _ [_, _, _, _, _, _, _, _, _, _, _, _, _, _, _, _, _, _, _] _
  refine g_ops_nil ?_
  refine g_seq ?_
  refine g_region ?_
  show G _ _ _ (.inRegion _ [0, 1, 2] :: _) _ _
  refine g_op (v := Value.agg ((encA (encI .i64)) (Ar.rep 4 0)).toArray) rfl rfl (x_build rfl rfl) ?_
  show G _ _ _ _ [_, _, _, _, _, _, _, _, _, _, _, _, _, _, _, _, _, _, _] _
  refine s_alloc hs rfl rfl (z := (Value.agg #[Value.int .i64 0, Value.int .i64 0, Value.int .i64 0, Value.int .i64 0])) (cs := ((encA (encI .i64)) (Ar.rep 4 0))) rfl (fun _ => rfl) rfl ?_
  intro b8 w hs
  show G _ _ _ _ [_, _, _, _, _, _, _, _, _, _, _, _, _, _, _, _, _, _, _] _
  refine s_storeAll (n := 4) hs ((fkA (n := 4) (he := (fkI .i64).len) (h1 := (fkI .i64).one)).len _) rfl rfl (vs := ((encA (encI .i64)) (Ar.rep 4 0))) rfl rfl rfl (fun _ => rfl) ((fkA (n := 4) (he := (fkI .i64).len) (h1 := (fkI .i64).one)).len _) ((fkA (n := 4) (he := (fkI .i64).len) (h1 := (fkI .i64).one)).one _) ?_
  intro w hs
  refine g_ops_nil ?_
  refine g_seq ?_
  refine g_seq ?_
  refine g_region ?_
  show G _ _ _ (.inRegion _ [0, 1, 2] :: _) _ _
  refine s_loadA rfl rfl (es := (([Value.int .i8 a1.f_Numbers, Value.int .i8 a1.f_Lies, v2] : List Value))) rfl rfl (fun _ => rfl) (n := 3) (fun _ => rfl) rfl (cells_all (hs.cells 2 rfl)) ?_
  show G _ _ _ _ [_, _, _, _, _, _, _, _, _, _, _, _, _, _, _, _, _, _, _] _
  obtain ⟨r10, Hr10, H⟩ := bind_get H
  refine s_call (args := [Value.agg (([Value.int .i8 a1.f_Numbers, Value.int .i8 a1.f_Lies, v2] : List Value)).toArray]) rfl rfl (x_call rfl (callFunc_enter Try.func69 rfl rfl) rfl) (_impl_Game_sorts.calls (a1 := (⟨a1.f_Numbers, a1.f_Lies, a1.f_Asked⟩ : S_impl_Game)) (hs.rd hr3) Hr10) ?_
  rintro _ w ⟨v11, v12, v13, v14, rfl, hs2⟩
  have hs : St _ [_, _, _, _, _, _, _] _ := hs.call hs2
  show G _ _ _ _ [_, _, _, _, _, _, _, _, _, _, _, _, _, _, _, _, _, _, _] _
  refine g_op (v := Value.int .i64 0) rfl rfl rfl ?_
  show G _ _ _ _ [_, _, _, _, _, _, _, _, _, _, _, _, _, _, _, _, _, _, _] _
  refine g_ops_nil ?_
  obtain ⟨o1_, Ho, Hr1_⟩ := bind_get H
  refine g_block_join (J := fun t w => ∃ x40 : (Ar Int 4), _impl_Game_state.a0 N x40 = some r ∧ Fr t (fun O => ([O 0, O 1, Value.pointer (some ⟨b6, 0, none⟩), Value.pointer (some ⟨b8, 0, none⟩), O 4, O 5, O 6, O 7, O 8, O 9, O 10, O 11, O 12, O 13, O 14, O 15, O 16, O 17, O 18] : List Value)) ∧ St w0 [Cells b6 ((encA (encI .i64)) (Ar.rep 4 0)) 38, Cells b8 ((encA (encI .i64)) x40) 38] w) ?_ ?_
  · rintro t w ⟨x40, H, hf, hs⟩
    obtain ⟨O, rfl⟩ := hf.open
    show G _ _ _ _ [_, _, _, _, _, _, _, _, _, _, _, _, _, _, _, _, _, _, _] _
    unfold _impl_Game_state.a0 at H
    refine g_seq ?_
    refine g_region ?_
    show G _ _ _ (.inRegion _ [0, 1] :: _) _ _
    refine s_loadA rfl rfl (es := ((encA (encI .i64)) x40)) rfl rfl (fun _ => rfl) (n := 4) (fun _ => rfl) ((fkA (n := 4) (he := (fkI .i64).len) (h1 := (fkI .i64).one)).len _) (cells_all (hs.cells 1 rfl)) ?_
    show G _ _ _ _ [_, _, _, _, _, _, _, _, _, _, _, _, _, _, _, _, _, _, _] _
    refine s_storeAll (n := 4) hs ((fkA (n := 4) (he := (fkI .i64).len) (h1 := (fkI .i64).one)).len _) rfl rfl (vs := ((encA (encI .i64)) x40)) rfl rfl rfl (fun _ => rfl) ((fkA (n := 4) (he := (fkI .i64).len) (h1 := (fkI .i64).one)).len _) ((fkA (n := 4) (he := (fkI .i64).len) (h1 := (fkI .i64).one)).one _) ?_
    intro w hs
    refine g_ops_nil ?_
    obtain rfl := Option.some.inj H
    refine g_ret Try.func39 (v := Value.agg ((encA (encI .i64)) x40).toArray) (resC rfl ⟨⟨_, rfl, (run_loadVar_agg (es := ((encA (encI .i64)) x40)) rfl (congrArg (Result.ok · _) ((fkA (n := 4) (he := (fkI .i64).len) (h1 := (fkI .i64).one)).len _).symm) (cells_all (hs.cells 0 rfl)))⟩, trivial⟩) ?_
    have hs : St _ [] _ := St.take (Γ' := [_, _]) hs
    exact ⟨_, rfl, rfl, hs⟩
  · intro ha1_
    have hs := hs.pull 3 rfl
    have hs := hs.pull 3 rfl
    have hs := hs.pull 3 rfl
    have hs := hs.pull 3 rfl
    have hs := hs.pull 4 rfl
    have hs := hs.pull 5 rfl
    have hs : St _ [_, _, _, _, _, _] _ := St.take (Γ' := [_]) hs
    refine g_loop_fuel (I := fun n_ t w => ∃ x29 : (Ar Int 4), ∃ x30 : Int, rounds (fun s => _impl_Game_state.b0 N r10 s.1 s.2) n_ (x29, x30) = some o1_ ∧ Fr t (fun O => ([O 0, O 1, Value.pointer (some ⟨b6, 0, none⟩), Value.pointer (some ⟨b8, 0, none⟩), O 4, O 5, O 6, O 7, Value.agg (([v11, v12, v13, v14] : List Value)).toArray, Value.int .i64 x30, O 10, O 11, O 12, O 13, O 14, O 15, O 16, O 17, O 18] : List Value)) ∧ St w0 [Cells b6 ((encA (encI .i64)) (Ar.rep 4 0)) 38, Cells b8 ((encA (encI .i64)) x29) 38, Row 2 (K.int .i64) v11 (r10.get 0 []), Row 2 (K.int .i64) v12 (r10.get 1 []), Row 2 (K.int .i64) v13 (r10.get 2 []), Row 2 (K.int .i64) v14 (r10.get 3 [])] w) N ⟨(Ar.rep 4 0), 0, Ho, rfl, hs⟩ ?_ ?_
    · rintro _ _ ⟨x29, x30, h, _⟩
      exact rounds_zero h
    · intro n_ ih1_
      rintro t w ⟨x29, x30, Ho, hf, hs⟩
      obtain ⟨O, rfl⟩ := hf.open
      show G _ _ _ _ [_, _, _, _, _, _, _, _, _, _, _, _, _, _, _, _, _, _, _] _
      obtain ⟨x17_, H, Hx1_⟩ := rounds_succ Ho
      have H : _impl_Game_state.b0 N r10 x29 x30 = some x17_ := H
      unfold _impl_Game_state.b0 at H
      refine g_seq ?_
      refine g_region ?_
      show G _ _ _ (.inRegion _ [0] :: _) _ _
      refine g_op_b (B := decide (x30 < 4)) rfl rfl rfl ?_ ?_
      · intro hb
        rw [if_pos (b_dec_t hb)] at H
        show G _ _ _ _ [_, _, _, _, _, _, _, _, _, _, _, _, _, _, _, _, _, _, _] _
        refine g_ops_nil ?_
        refine g_seq ?_
        refine g_cond_true rfl ?_
        refine g_skip ?_
        refine g_seq ?_
        refine g_block_join (J := (fun t w => ∃ x35 : (Ar Int 4), _impl_Game_state.j2 N x30 x35 = some x17_ ∧ Fr t (fun O => ([O 0, O 1, Value.pointer (some ⟨b6, 0, none⟩), Value.pointer (some ⟨b8, 0, none⟩), O 4, O 5, O 6, O 7, Value.agg (([v11, v12, v13, v14] : List Value)).toArray, Value.int .i64 x30, O 10, O 11, O 12, O 13, O 14, O 15, O 16, O 17, O 18] : List Value)) ∧ St w0 [Cells b6 ((encA (encI .i64)) (Ar.rep 4 0)) 38, Cells b8 ((encA (encI .i64)) x35) 38, Row 2 (K.int .i64) v11 (r10.get 0 []), Row 2 (K.int .i64) v12 (r10.get 1 []), Row 2 (K.int .i64) v13 (r10.get 2 []), Row 2 (K.int .i64) v14 (r10.get 3 [])] w)) ?_ ?_
        · rintro t w ⟨x35, H, hf, hs⟩
          obtain ⟨O, rfl⟩ := hf.open
          show G _ _ _ _ [_, _, _, _, _, _, _, _, _, _, _, _, _, _, _, _, _, _, _] _
          unfold _impl_Game_state.j2 at H
          refine g_region ?_
          show G _ _ _ (.inRegion _ [0, 1] :: _) _ _
          refine g_op (v := Value.int .i64 (i64w (x30 + 1))) rfl rfl rfl ?_
          show G _ _ _ _ [_, _, _, _, _, _, _, _, _, _, _, _, _, _, _, _, _, _, _] _
          refine g_op (v := Value.int .i64 (i64w (x30 + 1))) rfl rfl rfl ?_
          show G _ _ _ _ [_, _, _, _, _, _, _, _, _, _, _, _, _, _, _, _, _, _, _] _
          refine g_ops_nil ?_
          obtain rfl := Option.some.inj H
          have hs := hs.pull 5 rfl
          have hs := hs.pull 5 rfl
          have hs := hs.pull 5 rfl
          have hs := hs.pull 5 rfl
          have hs := hs.pull 5 rfl
          have hs := hs.pull 5 rfl
          have hs : St _ [_, _, _, _, _, _] _ := St.take (Γ' := []) hs
          exact ih1_ _ _ ⟨x35, i64w (x30 + 1), Hx1_, rfl, hs⟩
        · intro ha
          refine g_seq ?_
          by_cases hk9_ : x30 = 0
          · rw [if_pos hk9_] at H
            refine g_region ?_
            show G _ _ _ (.inRegion _ [0, 1, 2, 3] :: _) _ _
            refine g_op (v := Value.int .i64 x30) rfl rfl rfl ?_
            show G _ _ _ _ [_, _, _, _, _, _, _, _, _, _, _, _, _, _, _, _, _, _, _] _
            refine s_indexJ 0 hk9_ (by decide) (cs := ([v11, v12, v13, v14] : List Value)) (v := v11) rfl rfl (fun _ => rfl) (fun _ => rfl) rfl rfl rfl rfl rfl ?_
            show G _ _ _ _ [_, _, _, _, _, _, _, _, _, _, _, _, _, _, _, _, _, _, _] _
            refine g_op (v := Value.int .i64 x30) rfl rfl rfl ?_
            show G _ _ _ _ [_, _, _, _, _, _, _, _, _, _, _, _, _, _, _, _, _, _, _] _
            refine g_op (v := v11) rfl rfl rfl ?_
            show G _ _ _ _ [_, _, _, _, _, _, _, _, _, _, _, _, _, _, _, _, _, _, _] _
            refine g_ops_nil ?_
            refine g_region ?_
            show G _ _ _ (.inRegion _ [0, 1, 2, 3, 4] :: _) _ _
            refine g_op (v := Value.int .i64 x30) rfl rfl rfl ?_
            show G _ _ _ _ [_, _, _, _, _, _, _, _, _, _, _, _, _, _, _, _, _, _, _] _
            refine g_op (v := v11) rfl rfl rfl ?_
            show G _ _ _ _ [_, _, _, _, _, _, _, _, _, _, _, _, _, _, _, _, _, _, _] _
            obtain ⟨r31, Hr31, H⟩ := bind_get H
            refine s_call (args := [v11]) rfl rfl (x_call rfl (callFunc_enter Try.func70 rfl rfl) rfl) (impl_size_int64.calls (a1 := (r10.get 0 [])) (hs.row 2 rfl) Hr31) ?_
            rintro _ w ⟨rfl, hs2⟩
            have hs : St _ [_, _, _, _, _, _] _ := hs.call hs2
            show G _ _ _ _ [_, _, _, _, _, _, _, _, _, _, _, _, _, _, _, _, _, _, _] _
            obtain ⟨g10, H⟩ := ite_get H
            refine s_idxA (n := x30) (m := 1) rfl (fun _ => rfl) g10.1 g10.2 rfl rfl rfl rfl rfl ?_
            show G _ _ _ _ [_, _, _, _, _, _, _, _, _, _, _, _, _, _, _, _, _, _, _] _
            have hs := hs.pull 1 rfl
            have hs : St _ [_, _, _, _, _, _] _ := hs
            refine s_storeA (y := r31) (fkI .i64).len (fkI .i64).one g10.1 g10.2 hs rfl rfl rfl rfl rfl (fun _ => rfl) ?_
            intro w hs
            refine g_ops_nil ?_
            refine g_inBlock ?_
            have hs := hs.pull 5 rfl
            have hs := hs.pull 5 rfl
            have hs := hs.pull 5 rfl
            have hs := hs.pull 5 rfl
            have hs := hs.pull 4 rfl
            have hs := hs.pull 5 rfl
            have hs : St _ [_, _, _, _, _, _] _ := St.take (Γ' := []) hs
            exact ha _ _ ⟨x29.set x30 r31, H, rfl, hs⟩
          · rw [if_neg hk9_] at H
            by_cases hk11_ : x30 = 1
            · rw [if_pos hk11_] at H
              refine g_region ?_
              show G _ _ _ (.inRegion _ [0, 1, 2, 3] :: _) _ _
              refine g_op (v := Value.int .i64 x30) rfl rfl rfl ?_
              show G _ _ _ _ [_, _, _, _, _, _, _, _, _, _, _, _, _, _, _, _, _, _, _] _
              refine s_indexJ 1 hk11_ (by decide) (cs := ([v11, v12, v13, v14] : List Value)) (v := v12) rfl rfl (fun _ => rfl) (fun _ => rfl) rfl rfl rfl rfl rfl ?_
              show G _ _ _ _ [_, _, _, _, _, _, _, _, _, _, _, _, _, _, _, _, _, _, _] _
              refine g_op (v := Value.int .i64 x30) rfl rfl rfl ?_
              show G _ _ _ _ [_, _, _, _, _, _, _, _, _, _, _, _, _, _, _, _, _, _, _] _
              refine g_op (v := v12) rfl rfl rfl ?_
              show G _ _ _ _ [_, _, _, _, _, _, _, _, _, _, _, _, _, _, _, _, _, _, _] _
              refine g_ops_nil ?_
              refine g_region ?_
              show G _ _ _ (.inRegion _ [0, 1, 2, 3, 4] :: _) _ _
              refine g_op (v := Value.int .i64 x30) rfl rfl rfl ?_
              show G _ _ _ _ [_, _, _, _, _, _, _, _, _, _, _, _, _, _, _, _, _, _, _] _
              refine g_op (v := v12) rfl rfl rfl ?_
              show G _ _ _ _ [_, _, _, _, _, _, _, _, _, _, _, _, _, _, _, _, _, _, _] _
              obtain ⟨r32, Hr32, H⟩ := bind_get H
              refine s_call (args := [v12]) rfl rfl (x_call rfl (callFunc_enter Try.func70 rfl rfl) rfl) (impl_size_int64.calls (a1 := (r10.get 1 [])) (hs.row 3 rfl) Hr32) ?_
              rintro _ w ⟨rfl, hs2⟩
              have hs : St _ [_, _, _, _, _, _] _ := hs.call hs2
              show G _ _ _ _ [_, _, _, _, _, _, _, _, _, _, _, _, _, _, _, _, _, _, _] _
              obtain ⟨g12, H⟩ := ite_get H
              refine s_idxA (n := x30) (m := 1) rfl (fun _ => rfl) g12.1 g12.2 rfl rfl rfl rfl rfl ?_
              show G _ _ _ _ [_, _, _, _, _, _, _, _, _, _, _, _, _, _, _, _, _, _, _] _
              have hs := hs.pull 1 rfl
              have hs : St _ [_, _, _, _, _, _] _ := hs
              refine s_storeA (y := r32) (fkI .i64).len (fkI .i64).one g12.1 g12.2 hs rfl rfl rfl rfl rfl (fun _ => rfl) ?_
              intro w hs
              refine g_ops_nil ?_
              refine g_inBlock ?_
              have hs := hs.pull 5 rfl
              have hs := hs.pull 5 rfl
              have hs := hs.pull 5 rfl
              have hs := hs.pull 5 rfl
              have hs := hs.pull 4 rfl
              have hs := hs.pull 5 rfl
              have hs : St _ [_, _, _, _, _, _] _ := St.take (Γ' := []) hs
              exact ha _ _ ⟨x29.set x30 r32, H, rfl, hs⟩
            · rw [if_neg hk11_] at H
              by_cases hk13_ : x30 = 2
              · rw [if_pos hk13_] at H
                refine g_region ?_
                show G _ _ _ (.inRegion _ [0, 1, 2, 3] :: _) _ _
                refine g_op (v := Value.int .i64 x30) rfl rfl rfl ?_
                show G _ _ _ _ [_, _, _, _, _, _, _, _, _, _, _, _, _, _, _, _, _, _, _] _
                refine s_indexJ 2 hk13_ (by decide) (cs := ([v11, v12, v13, v14] : List Value)) (v := v13) rfl rfl (fun _ => rfl) (fun _ => rfl) rfl rfl rfl rfl rfl ?_
                show G _ _ _ _ [_, _, _, _, _, _, _, _, _, _, _, _, _, _, _, _, _, _, _] _
                refine g_op (v := Value.int .i64 x30) rfl rfl rfl ?_
                show G _ _ _ _ [_, _, _, _, _, _, _, _, _, _, _, _, _, _, _, _, _, _, _] _
                refine g_op (v := v13) rfl rfl rfl ?_
                show G _ _ _ _ [_, _, _, _, _, _, _, _, _, _, _, _, _, _, _, _, _, _, _] _
                refine g_ops_nil ?_
                refine g_region ?_
                show G _ _ _ (.inRegion _ [0, 1, 2, 3, 4] :: _) _ _
                refine g_op (v := Value.int .i64 x30) rfl rfl rfl ?_
                show G _ _ _ _ [_, _, _, _, _, _, _, _, _, _, _, _, _, _, _, _, _, _, _] _
                refine g_op (v := v13) rfl rfl rfl ?_
                show G _ _ _ _ [_, _, _, _, _, _, _, _, _, _, _, _, _, _, _, _, _, _, _] _
                obtain ⟨r33, Hr33, H⟩ := bind_get H
                refine s_call (args := [v13]) rfl rfl (x_call rfl (callFunc_enter Try.func70 rfl rfl) rfl) (impl_size_int64.calls (a1 := (r10.get 2 [])) (hs.row 4 rfl) Hr33) ?_
                rintro _ w ⟨rfl, hs2⟩
                have hs : St _ [_, _, _, _, _, _] _ := hs.call hs2
                show G _ _ _ _ [_, _, _, _, _, _, _, _, _, _, _, _, _, _, _, _, _, _, _] _
                obtain ⟨g14, H⟩ := ite_get H
                refine s_idxA (n := x30) (m := 1) rfl (fun _ => rfl) g14.1 g14.2 rfl rfl rfl rfl rfl ?_
                show G _ _ _ _ [_, _, _, _, _, _, _, _, _, _, _, _, _, _, _, _, _, _, _] _
                have hs := hs.pull 1 rfl
                have hs : St _ [_, _, _, _, _, _] _ := hs
                refine s_storeA (y := r33) (fkI .i64).len (fkI .i64).one g14.1 g14.2 hs rfl rfl rfl rfl rfl (fun _ => rfl) ?_
                intro w hs
                refine g_ops_nil ?_
                refine g_inBlock ?_
                have hs := hs.pull 5 rfl
                have hs := hs.pull 5 rfl
                have hs := hs.pull 5 rfl
                have hs := hs.pull 5 rfl
                have hs := hs.pull 4 rfl
                have hs := hs.pull 5 rfl
                have hs : St _ [_, _, _, _, _, _] _ := St.take (Γ' := []) hs
                exact ha _ _ ⟨x29.set x30 r33, H, rfl, hs⟩
              · rw [if_neg hk13_] at H
                by_cases hk15_ : x30 = 3
                · rw [if_pos hk15_] at H
                  refine g_region ?_
                  show G _ _ _ (.inRegion _ [0, 1, 2, 3] :: _) _ _
                  refine g_op (v := Value.int .i64 x30) rfl rfl rfl ?_
                  show G _ _ _ _ [_, _, _, _, _, _, _, _, _, _, _, _, _, _, _, _, _, _, _] _
                  refine s_indexJ 3 hk15_ (by decide) (cs := ([v11, v12, v13, v14] : List Value)) (v := v14) rfl rfl (fun _ => rfl) (fun _ => rfl) rfl rfl rfl rfl rfl ?_
                  show G _ _ _ _ [_, _, _, _, _, _, _, _, _, _, _, _, _, _, _, _, _, _, _] _
                  refine g_op (v := Value.int .i64 x30) rfl rfl rfl ?_
                  show G _ _ _ _ [_, _, _, _, _, _, _, _, _, _, _, _, _, _, _, _, _, _, _] _
                  refine g_op (v := v14) rfl rfl rfl ?_
                  show G _ _ _ _ [_, _, _, _, _, _, _, _, _, _, _, _, _, _, _, _, _, _, _] _
                  refine g_ops_nil ?_
                  refine g_region ?_
                  show G _ _ _ (.inRegion _ [0, 1, 2, 3, 4] :: _) _ _
                  refine g_op (v := Value.int .i64 x30) rfl rfl rfl ?_
                  show G _ _ _ _ [_, _, _, _, _, _, _, _, _, _, _, _, _, _, _, _, _, _, _] _
                  refine g_op (v := v14) rfl rfl rfl ?_
                  show G _ _ _ _ [_, _, _, _, _, _, _, _, _, _, _, _, _, _, _, _, _, _, _] _
                  obtain ⟨r34, Hr34, H⟩ := bind_get H
                  refine s_call (args := [v14]) rfl rfl (x_call rfl (callFunc_enter Try.func70 rfl rfl) rfl) (impl_size_int64.calls (a1 := (r10.get 3 [])) (hs.row 5 rfl) Hr34) ?_
                  rintro _ w ⟨rfl, hs2⟩
                  have hs : St _ [_, _, _, _, _, _] _ := hs.call hs2
                  show G _ _ _ _ [_, _, _, _, _, _, _, _, _, _, _, _, _, _, _, _, _, _, _] _
                  obtain ⟨g16, H⟩ := ite_get H
                  refine s_idxA (n := x30) (m := 1) rfl (fun _ => rfl) g16.1 g16.2 rfl rfl rfl rfl rfl ?_
                  show G _ _ _ _ [_, _, _, _, _, _, _, _, _, _, _, _, _, _, _, _, _, _, _] _
                  have hs := hs.pull 1 rfl
                  have hs : St _ [_, _, _, _, _, _] _ := hs
                  refine s_storeA (y := r34) (fkI .i64).len (fkI .i64).one g16.1 g16.2 hs rfl rfl rfl rfl rfl (fun _ => rfl) ?_
                  intro w hs
                  refine g_ops_nil ?_
                  refine g_inBlock ?_
                  have hs := hs.pull 5 rfl
                  have hs := hs.pull 5 rfl
                  have hs := hs.pull 5 rfl
                  have hs := hs.pull 5 rfl
                  have hs := hs.pull 4 rfl
                  have hs := hs.pull 5 rfl
                  have hs : St _ [_, _, _, _, _, _] _ := St.take (Γ' := []) hs
                  exact ha _ _ ⟨x29.set x30 r34, H, rfl, hs⟩
                · rw [if_neg hk15_] at H
                  cases H
      · intro hb
        rw [if_neg (b_dec_f hb)] at H
        show G _ _ _ _ [_, _, _, _, _, _, _, _, _, _, _, _, _, _, _, _, _, _, _] _
        refine g_ops_nil ?_
        refine g_seq ?_
        refine g_cond_false rfl ?_
        obtain rfl := Option.some.inj H
        subst Hx1_
        have hs := hs.pull 1 rfl
        have hs := hs.pull 1 rfl
        have hs : St _ [_, _] _ := St.take (Γ' := [_, _, _, _]) hs
        refine g_exit rfl ?_
        exact ha1_ _ _ ⟨x29, Hr1_, rfl, hs⟩

end Go.Proofs.YtcocgeodfbiehaaX
