/- Contracts, printed by gen.py. -/
import Derived.Test.YtcocgeodfbiehaaXC3
namespace Go.Proofs.YtcocgeodfbiehaaX
open Go Go.RowKit Go.Proofs
set_option linter.unusedVariables false
set_option linter.unusedSimpArgs false
/- function 16 spec_SplitCases -/
def spec_SplitCases.post (w0 : World) (r : ((Ar (List S_impl_Case) 3) × Int)) (v : Value) (w : World) : Prop := ∃ u1 : Value, ∃ u2 : Value, ∃ u3 : Value, v = Value.tuple #[Value.agg (([u1, u2, u3] : List Value)).toArray, Value.int .i64 r.2] ∧ St w0 [Row 84 k_S_impl_Case u1 (r.1.get 0 []), Row 84 k_S_impl_Case u2 (r.1.get 1 []), Row 84 k_S_impl_Case u3 (r.1.get 2 [])] w
set_option maxHeartbeats 8000000 in
set_option maxRecDepth 100000 in
theorem spec_SplitCases.calls {N : Nat} {a1 : S_laws_Task} {a2 : (Ar Int 14)} {a3 : (List S_impl_Case)} {v4 : Value} {w0 : World} {r : ((Ar (List S_impl_Case) 3) × Int)} (hr2 : RdRow k_S_impl_Case w0 v4 a3) (H : spec_SplitCases.f N a1 a2 a3 = some r) :
    Calls Try.prog 16 #[Value.agg (enc_S_laws_Task a1).toArray, Value.agg ((encA (encI .i8)) a2).toArray, v4] w0 fun e w => ∃ v, e = .returned v ∧ spec_SplitCases.post w0 r v w := by
  unfold spec_SplitCases.f at H
  have hs : St w0 [] w0 := St.refl w0
  refine calls_of_g (n := 21) Try.func16 rfl rfl ?_
  show G _ _ _ _ [_, _, _, _, _, _, _, _, _, _, _, _, _, _, _, _, _, _, _, _, _, _, _, _] _
  refine g_seq ?_
  refine g_region ?_
  show G _ _ _ (.inRegion _ [0, 1, 2, 3] :: _) _ _
  refine s_box hs rfl rfl (cs := (enc_S_laws_Task a1)) rfl rfl ?_
  intro b5 w hs
  show G _ _ _ _ [_, _, _, _, _, _, _, _, _, _, _, _, _, _, _, _, _, _, _, _, _, _, _, _] _
  refine s_box hs rfl rfl (cs := ((encA (encI .i8)) a2)) rfl rfl ?_
  intro b7 w hs
  show G _ _ _ _ [_, _, _, _, _, _, _, _, _, _, _, _, _, _, _, _, _, _, _, _, _, _, _, _] _
  refine s_alloc hs rfl rfl (z := (Value.agg #[Value.slice none 0 0, Value.slice none 0 0, Value.slice none 0 0])) (cs := (([Value.slice none 0 0, Value.slice none 0 0, Value.slice none 0 0] : List Value))) rfl (fun _ => rfl) rfl ?_
  intro b9 w hs
  show G _ _ _ _ [_, _, _, _, _, _, _, _, _, _, _, _, _, _, _, _, _, _, _, _, _, _, _, _] _
  refine g_op (v := Value.int .i64 0) rfl rfl rfl ?_
  show G _ _ _ _ [_, _, _, _, _, _, _, _, _, _, _, _, _, _, _, _, _, _, _, _, _, _, _, _] _
  refine g_ops_nil ?_
  refine g_seq ?_
  refine g_seq ?_
  refine g_region ?_
  show G _ _ _ (.inRegion _ [0, 1, 2, 3] :: _) _ _
  refine s_loadA rfl rfl (es := (enc_S_laws_Task a1)) rfl rfl (fun _ => rfl) (n := 4) (fun _ => rfl) (fk_S_laws_Task.len _) (cells_all (hs.cells 2 rfl)) ?_
  show G _ _ _ _ [_, _, _, _, _, _, _, _, _, _, _, _, _, _, _, _, _, _, _, _, _, _, _, _] _
  refine s_loadA rfl rfl (es := ((encA (encI .i8)) a2)) rfl rfl (fun _ => rfl) (n := 14) (fun _ => rfl) ((fkA (n := 14) (he := (fkI .i8).len) (h1 := (fkI .i8).one)).len _) (cells_all (hs.cells 1 rfl)) ?_
  show G _ _ _ _ [_, _, _, _, _, _, _, _, _, _, _, _, _, _, _, _, _, _, _, _, _, _, _, _] _
  obtain ⟨r11, Hr11, H⟩ := bind_get H
  refine s_call (args := [Value.agg (enc_S_laws_Task a1).toArray, Value.agg ((encA (encI .i8)) a2).toArray]) rfl rfl (x_call rfl (callFunc_enter Try.func44 rfl rfl) rfl) (spec_ValidWeighing.calls (a1 := a1) (a2 := a2) Hr11) ?_
  rintro _ w ⟨rfl, hs2⟩
  have hs : St _ [_, _, _] _ := hs.call hs2
  cases r11 with
  | true =>
    rw [if_pos rfl] at H
    show G _ _ _ _ [_, _, _, _, _, _, _, _, _, _, _, _, _, _, _, _, _, _, _, _, _, _, _, _] _
    refine g_op (v := Value.bool false) rfl rfl rfl ?_
    show G _ _ _ _ [_, _, _, _, _, _, _, _, _, _, _, _, _, _, _, _, _, _, _, _, _, _, _, _] _
    refine g_ops_nil ?_
    refine g_cond_false rfl ?_
    refine g_skip ?_
    refine g_seq ?_
    refine g_seq ?_
    refine g_region ?_
    show G _ _ _ (.inRegion _ [0, 1, 2, 3] :: _) _ _
    refine s_loadA rfl rfl (es := (enc_S_laws_Task a1)) rfl rfl (fun _ => rfl) (n := 4) (fun _ => rfl) (fk_S_laws_Task.len _) (cells_all (hs.cells 2 rfl)) ?_
    show G _ _ _ _ [_, _, _, _, _, _, _, _, _, _, _, _, _, _, _, _, _, _, _, _, _, _, _, _] _
    refine g_op (v := v4) rfl rfl rfl ?_
    show G _ _ _ _ [_, _, _, _, _, _, _, _, _, _, _, _, _, _, _, _, _, _, _, _, _, _, _, _] _
    obtain ⟨r12, Hr12, H⟩ := bind_get H
    refine s_call (args := [Value.agg (enc_S_laws_Task a1).toArray, v4]) rfl rfl (x_call rfl (callFunc_enter Try.func45 rfl rfl) rfl) (spec_l03Given.calls (a1 := a1) (a2 := a3) (hs.rd hr2) Hr12) ?_
    rintro _ w ⟨rfl, hs2⟩
    have hs : St _ [_, _, _] _ := hs.call hs2
    show G _ _ _ _ [_, _, _, _, _, _, _, _, _, _, _, _, _, _, _, _, _, _, _, _, _, _, _, _] _
    refine g_op (v := Value.int .i64 r12) rfl rfl rfl ?_
    show G _ _ _ _ [_, _, _, _, _, _, _, _, _, _, _, _, _, _, _, _, _, _, _, _, _, _, _, _] _
    refine g_ops_nil ?_
    refine g_seq ?_
    refine g_region ?_
    show G _ _ _ (.inRegion _ [0, 1] :: _) _ _
    refine g_op (v := Value.int .i64 r12) rfl rfl rfl ?_
    show G _ _ _ _ [_, _, _, _, _, _, _, _, _, _, _, _, _, _, _, _, _, _, _, _, _, _, _, _] _
    refine g_op_b (B := r12 != 0) rfl rfl rfl ?_ ?_
    ·
     intro hb
     rw [if_neg (b_bne_t hb)] at H
     show G _ _ _ _ [_, _, _, _, _, _, _, _, _, _, _, _, _, _, _, _, _, _, _, _, _, _, _, _] _
     refine g_ops_nil ?_
     refine g_cond_true rfl ?_
     refine g_seq ?_
     refine g_region ?_
     show G _ _ _ (.inRegion _ [0, 1, 2, 3] :: _) _ _
     refine g_op (v := Value.agg (([Value.slice none 0 0, Value.slice none 0 0, Value.slice none 0 0] : List Value)).toArray) rfl rfl (x_build rfl rfl) ?_
     show G _ _ _ _ [_, _, _, _, _, _, _, _, _, _, _, _, _, _, _, _, _, _, _, _, _, _, _, _] _
     refine g_op (v := Value.int .i64 r12) rfl rfl rfl ?_
     show G _ _ _ _ [_, _, _, _, _, _, _, _, _, _, _, _, _, _, _, _, _, _, _, _, _, _, _, _] _
     refine s_storeAll (n := 3) hs rfl rfl rfl (vs := (([Value.slice none 0 0, Value.slice none 0 0, Value.slice none 0 0] : List Value))) rfl rfl rfl (fun _ => rfl) rfl (by simp [Value.oneCell']) ?_
     intro w hs
     refine g_op (v := Value.int .i64 r12) rfl rfl rfl ?_
     show G _ _ _ _ [_, _, _, _, _, _, _, _, _, _, _, _, _, _, _, _, _, _, _, _, _, _, _, _] _
     refine g_ops_nil ?_
     obtain rfl := Option.some.inj H
     refine g_ret Try.func16 (v := Value.tuple #[Value.agg (([Value.slice none 0 0, Value.slice none 0 0, Value.slice none 0 0] : List Value)).toArray, Value.int .i64 r12]) (resN (l := Try.f16.results.toList) (vs := [Value.agg (([Value.slice none 0 0, Value.slice none 0 0, Value.slice none 0 0] : List Value)).toArray, Value.int .i64 r12]) rfl ⟨⟨_, rfl, (run_loadVar_agg (es := (([Value.slice none 0 0, Value.slice none 0 0, Value.slice none 0 0] : List Value))) rfl rfl (cells_all (hs.cells 0 rfl)))⟩, rfl, trivial⟩ (by simp)) ?_
     have hs := hs.nil 84 k_S_impl_Case
     have hs := hs.nil 84 k_S_impl_Case
     have hs := hs.nil 84 k_S_impl_Case
     have hs := hs.pull 0 rfl
     have hs := hs.pull 1 rfl
     have hs := hs.pull 2 rfl
     have hs : St _ [_, _, _] _ := St.take (Γ' := [_, _, _]) hs
     exact ⟨_, rfl, (Value.slice none 0 0), (Value.slice none 0 0), (Value.slice none 0 0), rfl, hs⟩
    ·
     intro hb
     rw [if_pos (b_bne_f hb)] at H
     show G _ _ _ _ [_, _, _, _, _, _, _, _, _, _, _, _, _, _, _, _, _, _, _, _, _, _, _, _] _
     refine g_ops_nil ?_
     refine g_cond_false rfl ?_
     refine g_skip ?_
     refine g_seq ?_
     refine g_region ?_
     show G _ _ _ (.inRegion _ [0, 1, 2, 3, 4] :: _) _ _
     refine s_loadA rfl rfl (es := ((encA (encI .i8)) a2)) rfl rfl (fun _ => rfl) (n := 14) (fun _ => rfl) ((fkA (n := 14) (he := (fkI .i8).len) (h1 := (fkI .i8).one)).len _) (cells_all (hs.cells 1 rfl)) ?_
     show G _ _ _ _ [_, _, _, _, _, _, _, _, _, _, _, _, _, _, _, _, _, _, _, _, _, _, _, _] _
     refine g_op (v := v4) rfl rfl rfl ?_
     show G _ _ _ _ [_, _, _, _, _, _, _, _, _, _, _, _, _, _, _, _, _, _, _, _, _, _, _, _] _
     obtain ⟨r13, Hr13, H⟩ := bind_get H
     refine s_call (args := [Value.agg ((encA (encI .i8)) a2).toArray, v4]) rfl rfl (x_call rfl (callFunc_enter Try.func46 rfl rfl) rfl) (spec_l03Split.calls (a1 := a2) (a2 := a3) (hs.rd hr2) Hr13) ?_
     rintro _ w ⟨v14, v15, v16, rfl, hs2⟩
     have hs : St _ [_, _, _, _, _, _] _ := hs.call hs2
     show G _ _ _ _ [_, _, _, _, _, _, _, _, _, _, _, _, _, _, _, _, _, _, _, _, _, _, _, _] _
     have hs := hs.pull 3 rfl
     have hs : St _ [_, _, _, _, _, _] _ := hs
     refine s_storeAll (n := 3) hs rfl rfl rfl (vs := (([v14, v15, v16] : List Value))) rfl rfl rfl (fun _ => rfl) rfl (by intro v hv; simp only [List.mem_append, List.mem_cons, List.not_mem_nil, or_false] at hv; repeat (first | (subst hv; first | rfl | exact slOne (hs.row 1 rfl) | exact slOne (hs.row 2 rfl) | exact slOne (hs.row 3 rfl)) | (rcases hv with hv | hv))) ?_
     intro w hs
     refine g_op (v := Value.int .i64 0) rfl rfl rfl ?_
     show G _ _ _ _ [_, _, _, _, _, _, _, _, _, _, _, _, _, _, _, _, _, _, _, _, _, _, _, _] _
     refine g_ops_nil ?_
     obtain rfl := Option.some.inj H
     refine g_ret Try.func16 (v := Value.tuple #[Value.agg (([v14, v15, v16] : List Value)).toArray, Value.int .i64 0]) (resN (l := Try.f16.results.toList) (vs := [Value.agg (([v14, v15, v16] : List Value)).toArray, Value.int .i64 0]) rfl ⟨⟨_, rfl, (run_loadVar_agg (es := (([v14, v15, v16] : List Value))) rfl rfl (cells_all (hs.cells 0 rfl)))⟩, rfl, trivial⟩ (by simp)) ?_
     have hs := hs.pull 3 rfl
     have hs := hs.pull 3 rfl
     have hs := hs.pull 3 rfl
     have hs : St _ [_, _, _] _ := St.take (Γ' := [_, _, _]) hs
     exact ⟨_, rfl, v14, v15, v16, rfl, hs⟩
  | false =>
    rw [if_neg Bool.false_ne_true] at H
    show G _ _ _ _ [_, _, _, _, _, _, _, _, _, _, _, _, _, _, _, _, _, _, _, _, _, _, _, _] _
    refine g_op (v := Value.bool true) rfl rfl rfl ?_
    show G _ _ _ _ [_, _, _, _, _, _, _, _, _, _, _, _, _, _, _, _, _, _, _, _, _, _, _, _] _
    refine g_ops_nil ?_
    refine g_cond_true rfl ?_
    refine g_seq ?_
    refine g_region ?_
    show G _ _ _ (.inRegion _ [0, 1, 2] :: _) _ _
    refine g_op (v := Value.agg (([Value.slice none 0 0, Value.slice none 0 0, Value.slice none 0 0] : List Value)).toArray) rfl rfl (x_build rfl rfl) ?_
    show G _ _ _ _ [_, _, _, _, _, _, _, _, _, _, _, _, _, _, _, _, _, _, _, _, _, _, _, _] _
    refine s_storeAll (n := 3) hs rfl rfl rfl (vs := (([Value.slice none 0 0, Value.slice none 0 0, Value.slice none 0 0] : List Value))) rfl rfl rfl (fun _ => rfl) rfl (by simp [Value.oneCell']) ?_
    intro w hs
    refine g_op (v := Value.int .i64 1) rfl rfl rfl ?_
    show G _ _ _ _ [_, _, _, _, _, _, _, _, _, _, _, _, _, _, _, _, _, _, _, _, _, _, _, _] _
    refine g_ops_nil ?_
    obtain rfl := Option.some.inj H
    refine g_ret Try.func16 (v := Value.tuple #[Value.agg (([Value.slice none 0 0, Value.slice none 0 0, Value.slice none 0 0] : List Value)).toArray, Value.int .i64 1]) (resN (l := Try.f16.results.toList) (vs := [Value.agg (([Value.slice none 0 0, Value.slice none 0 0, Value.slice none 0 0] : List Value)).toArray, Value.int .i64 1]) rfl ⟨⟨_, rfl, (run_loadVar_agg (es := (([Value.slice none 0 0, Value.slice none 0 0, Value.slice none 0 0] : List Value))) rfl rfl (cells_all (hs.cells 0 rfl)))⟩, rfl, trivial⟩ (by simp)) ?_
    have hs := hs.nil 84 k_S_impl_Case
    have hs := hs.nil 84 k_S_impl_Case
    have hs := hs.nil 84 k_S_impl_Case
    have hs := hs.pull 0 rfl
    have hs := hs.pull 1 rfl
    have hs := hs.pull 2 rfl
    have hs : St _ [_, _, _] _ := St.take (Γ' := [_, _, _]) hs
    exact ⟨_, rfl, (Value.slice none 0 0), (Value.slice none 0 0), (Value.slice none 0 0), rfl, hs⟩

/- function 57 impl_within -/
def impl_within.post (w0 : World) (r : Bool) (v : Value) (w : World) : Prop := v = Value.bool r ∧ St w0 [] w
set_option maxHeartbeats 8000000 in
set_option maxRecDepth 100000 in
theorem impl_within.calls {N : Nat} {a1 : Int} {a2 : Int} {a3 : Int} {w0 : World} {r : Bool} (H : impl_within.f N a1 a2 a3 = some r) :
    Calls Try.prog 57 #[Value.int .i64 a1, Value.int .i64 a2, Value.int .i64 a3] w0 fun e w => ∃ v, e = .returned v ∧ impl_within.post w0 r v w := by
  unfold impl_within.f at H
  have hs : St w0 [] w0 := St.refl w0
  refine calls_of_g (n := 12) Try.func57 rfl rfl ?_
  show G _ _ _ _ [_, _, _, _, _, _, _, _, _, _, _, _, _, _, _] _
  refine g_seq ?_
  refine g_region ?_
  show G _ _ _ (.inRegion _ [0] :: _) _ _
  refine g_op (v := Value.bool false) rfl rfl rfl ?_
  show G _ _ _ _ [_, _, _, _, _, _, _, _, _, _, _, _, _, _, _] _
  refine g_ops_nil ?_
  refine g_seq ?_
  refine g_region ?_
  show G _ _ _ (.inRegion _ [0, 1, 2, 3, 4, 5, 6, 7, 8] :: _) _ _
  refine g_op (v := Value.int .i64 a2) rfl rfl rfl ?_
  show G _ _ _ _ [_, _, _, _, _, _, _, _, _, _, _, _, _, _, _] _
  refine g_op (v := Value.int .i64 a1) rfl rfl rfl ?_
  show G _ _ _ _ [_, _, _, _, _, _, _, _, _, _, _, _, _, _, _] _
  refine g_op_b (B := decide (a2 ≤ a1)) rfl rfl rfl ?_ ?_
  ·
   intro hb
   rw [if_pos (b_dec_t hb)] at H
   show G _ _ _ _ [_, _, _, _, _, _, _, _, _, _, _, _, _, _, _] _
   refine g_op (v := Value.bool true) rfl rfl rfl ?_
   show G _ _ _ _ [_, _, _, _, _, _, _, _, _, _, _, _, _, _, _] _
   refine g_op (v := Value.int .i64 a1) rfl rfl rfl ?_
   show G _ _ _ _ [_, _, _, _, _, _, _, _, _, _, _, _, _, _, _] _
   refine g_op (v := Value.int .i64 a3) rfl rfl rfl ?_
   show G _ _ _ _ [_, _, _, _, _, _, _, _, _, _, _, _, _, _, _] _
   refine g_op (v := Value.bool (decide (a1 ≤ a3))) rfl rfl rfl ?_
   show G _ _ _ _ [_, _, _, _, _, _, _, _, _, _, _, _, _, _, _] _
   refine g_op (v := Value.bool (decide (a1 ≤ a3))) rfl rfl rfl ?_
   show G _ _ _ _ [_, _, _, _, _, _, _, _, _, _, _, _, _, _, _] _
   refine g_op (v := Value.bool (decide (a1 ≤ a3))) rfl rfl rfl ?_
   show G _ _ _ _ [_, _, _, _, _, _, _, _, _, _, _, _, _, _, _] _
   refine g_ops_nil ?_
   obtain rfl := Option.some.inj H
   refine g_ret Try.func57 (v := Value.bool (decide (a1 ≤ a3))) (res1 rfl rfl) ?_
   have hs : St _ [] _ := St.take (Γ' := []) hs
   exact ⟨_, rfl, rfl, hs⟩
  ·
   intro hb
   rw [if_neg (b_dec_f hb)] at H
   show G _ _ _ _ [_, _, _, _, _, _, _, _, _, _, _, _, _, _, _] _
   refine g_op (v := Value.bool false) rfl rfl rfl ?_
   show G _ _ _ _ [_, _, _, _, _, _, _, _, _, _, _, _, _, _, _] _
   refine g_op_not rfl rfl ?_
   show G _ _ _ _ [_, _, _, _, _, _, _, _, _, _, _, _, _, _, _] _
   refine g_op_not rfl rfl ?_
   show G _ _ _ _ [_, _, _, _, _, _, _, _, _, _, _, _, _, _, _] _
   refine g_op_not rfl rfl ?_
   show G _ _ _ _ [_, _, _, _, _, _, _, _, _, _, _, _, _, _, _] _
   refine g_op (v := Value.bool false) rfl rfl rfl ?_
   show G _ _ _ _ [_, _, _, _, _, _, _, _, _, _, _, _, _, _, _] _
   refine g_op (v := Value.bool false) rfl rfl rfl ?_
   show G _ _ _ _ [_, _, _, _, _, _, _, _, _, _, _, _, _, _, _] _
   refine g_ops_nil ?_
   obtain rfl := Option.some.inj H
   refine g_ret Try.func57 (v := Value.bool false) (res1 rfl rfl) ?_
   have hs : St _ [] _ := St.take (Γ' := []) hs
   exact ⟨_, rfl, rfl, hs⟩

/- function 88 impl_isKind -/
def impl_isKind.post (w0 : World) (r : Bool) (v : Value) (w : World) : Prop := v = Value.bool r ∧ St w0 [] w
set_option maxHeartbeats 8000000 in
set_option maxRecDepth 100000 in
theorem impl_isKind.calls {N : Nat} {a1 : Int} {w0 : World} {r : Bool} (H : impl_isKind.f N a1 = some r) :
    Calls Try.prog 88 #[Value.int .i64 a1] w0 fun e w => ∃ v, e = .returned v ∧ impl_isKind.post w0 r v w := by
  unfold impl_isKind.f at H
  have hs : St w0 [] w0 := St.refl w0
  refine calls_of_g (n := 4) Try.func88 rfl rfl ?_
  show G _ _ _ _ [_, _, _, _, _] _
  refine g_seq ?_
  refine g_region ?_
  show G _ _ _ (.inRegion _ [0] :: _) _ _
  refine g_op (v := Value.bool false) rfl rfl rfl ?_
  show G _ _ _ _ [_, _, _, _, _] _
  refine g_ops_nil ?_
  refine g_seq ?_
  refine g_region ?_
  show G _ _ _ (.inRegion _ [0, 1, 2] :: _) _ _
  refine g_op (v := Value.int .i64 a1) rfl rfl rfl ?_
  show G _ _ _ _ [_, _, _, _, _] _
  obtain ⟨r2, Hr2, H⟩ := bind_get H
  refine s_call (args := [Value.int .i64 a1, Value.int .i64 0, Value.int .i64 2]) rfl rfl (x_call rfl (callFunc_enter Try.func57 rfl rfl) rfl) (impl_within.calls (a1 := a1) (a2 := 0) (a3 := 2) Hr2) ?_
  rintro _ w ⟨rfl, hs2⟩
  have hs : St _ [] _ := hs.call hs2
  show G _ _ _ _ [_, _, _, _, _] _
  refine g_op (v := Value.bool r2) rfl rfl rfl ?_
  show G _ _ _ _ [_, _, _, _, _] _
  refine g_ops_nil ?_
  obtain rfl := Option.some.inj H
  refine g_ret Try.func88 (v := Value.bool r2) (res1 rfl rfl) ?_
  have hs : St _ [] _ := St.take (Γ' := []) hs
  exact ⟨_, rfl, rfl, hs⟩

/- function 74 impl_ValidTask -/
def impl_ValidTask.post (w0 : World) (r : Bool) (v : Value) (w : World) : Prop := v = Value.bool r ∧ St w0 [] w
set_option maxHeartbeats 8000000 in
set_option maxRecDepth 100000 in
theorem impl_ValidTask.calls {N : Nat} {a1 : S_laws_Task} {w0 : World} {r : Bool} (H : impl_ValidTask.f N a1 = some r) :
    Calls Try.prog 74 #[Value.agg (enc_S_laws_Task a1).toArray] w0 fun e w => ∃ v, e = .returned v ∧ impl_ValidTask.post w0 r v w := by
  unfold impl_ValidTask.f at H
  have hs : St w0 [] w0 := St.refl w0
  refine calls_of_g (n := 12) Try.func74 rfl rfl ?_
  show G _ _ _ _ [_, _, _, _, _, _, _, _, _, _, _, _, _] _
  refine g_seq ?_
  refine g_region ?_
  show G _ _ _ (.inRegion _ [0, 1] :: _) _ _
  refine s_box hs rfl rfl (cs := (enc_S_laws_Task a1)) rfl rfl ?_
  intro b2 w hs
  show G _ _ _ _ [_, _, _, _, _, _, _, _, _, _, _, _, _] _
  refine g_op (v := Value.bool false) rfl rfl rfl ?_
  show G _ _ _ _ [_, _, _, _, _, _, _, _, _, _, _, _, _] _
  refine g_ops_nil ?_
  refine g_seq ?_
  refine g_region ?_
  show G _ _ _ (.inRegion _ [0, 1, 2, 3, 4, 5, 6, 7, 8, 9, 10] :: _) _ _
  refine g_op (v := Value.pointer (some ⟨b2, 0, none⟩)) rfl rfl rfl ?_
  show G _ _ _ _ [_, _, _, _, _, _, _, _, _, _, _, _, _] _
  refine s_load1 rfl rfl (v := Value.int .i8 a1.f_Coins) rfl rfl (fun _ => rfl) (cells_load (hs.cells 0 rfl) 0 1 rfl) ?_
  show G _ _ _ _ [_, _, _, _, _, _, _, _, _, _, _, _, _] _
  refine g_op (v := Value.int .i64 (i64w a1.f_Coins)) rfl rfl rfl ?_
  show G _ _ _ _ [_, _, _, _, _, _, _, _, _, _, _, _, _] _
  obtain ⟨r4, Hr4, H⟩ := bind_get H
  refine s_call (args := [Value.int .i64 (i64w a1.f_Coins), Value.int .i64 1, Value.int .i64 13]) rfl rfl (x_call rfl (callFunc_enter Try.func57 rfl rfl) rfl) (impl_within.calls (a1 := i64w a1.f_Coins) (a2 := 1) (a3 := 13) Hr4) ?_
  rintro _ w ⟨rfl, hs2⟩
  have hs : St _ [_] _ := hs.call hs2
  cases r4 with
  | true =>
    rw [if_pos rfl] at H
    show G _ _ _ _ [_, _, _, _, _, _, _, _, _, _, _, _, _] _
    refine g_op (v := Value.bool true) rfl rfl rfl ?_
    show G _ _ _ _ [_, _, _, _, _, _, _, _, _, _, _, _, _] _
    refine g_op (v := Value.pointer (some ⟨b2, 1, none⟩)) rfl rfl rfl ?_
    show G _ _ _ _ [_, _, _, _, _, _, _, _, _, _, _, _, _] _
    refine s_load1 rfl rfl (v := Value.int .i8 a1.f_Kind) rfl rfl (fun _ => rfl) (cells_load (hs.cells 0 rfl) 1 1 rfl) ?_
    show G _ _ _ _ [_, _, _, _, _, _, _, _, _, _, _, _, _] _
    refine g_op (v := Value.int .i64 (i64w a1.f_Kind)) rfl rfl rfl ?_
    show G _ _ _ _ [_, _, _, _, _, _, _, _, _, _, _, _, _] _
    obtain ⟨r5, Hr5, H⟩ := bind_get H
    refine s_call (args := [Value.int .i64 (i64w a1.f_Kind)]) rfl rfl (x_call rfl (callFunc_enter Try.func88 rfl rfl) rfl) (impl_isKind.calls (a1 := i64w a1.f_Kind) Hr5) ?_
    rintro _ w ⟨rfl, hs2⟩
    have hs : St _ [_] _ := hs.call hs2
    show G _ _ _ _ [_, _, _, _, _, _, _, _, _, _, _, _, _] _
    refine g_op (v := Value.bool r5) rfl rfl rfl ?_
    show G _ _ _ _ [_, _, _, _, _, _, _, _, _, _, _, _, _] _
    refine g_op (v := Value.bool r5) rfl rfl rfl ?_
    show G _ _ _ _ [_, _, _, _, _, _, _, _, _, _, _, _, _] _
    refine g_ops_nil ?_
    obtain rfl := Option.some.inj H
    refine g_ret Try.func74 (v := Value.bool r5) (res1 rfl rfl) ?_
    have hs : St _ [] _ := St.take (Γ' := [_]) hs
    exact ⟨_, rfl, rfl, hs⟩
  | false =>
    rw [if_neg Bool.false_ne_true] at H
    show G _ _ _ _ [_, _, _, _, _, _, _, _, _, _, _, _, _] _
    refine g_op (v := Value.bool false) rfl rfl rfl ?_
    show G _ _ _ _ [_, _, _, _, _, _, _, _, _, _, _, _, _] _
    refine g_op_not rfl rfl ?_
    show G _ _ _ _ [_, _, _, _, _, _, _, _, _, _, _, _, _] _
    refine g_op_not rfl rfl ?_
    show G _ _ _ _ [_, _, _, _, _, _, _, _, _, _, _, _, _] _
    refine g_op_not rfl rfl ?_
    show G _ _ _ _ [_, _, _, _, _, _, _, _, _, _, _, _, _] _
    refine g_op_not rfl rfl ?_
    show G _ _ _ _ [_, _, _, _, _, _, _, _, _, _, _, _, _] _
    refine g_op (v := Value.bool false) rfl rfl rfl ?_
    show G _ _ _ _ [_, _, _, _, _, _, _, _, _, _, _, _, _] _
    refine g_op (v := Value.bool false) rfl rfl rfl ?_
    show G _ _ _ _ [_, _, _, _, _, _, _, _, _, _, _, _, _] _
    refine g_ops_nil ?_
    obtain rfl := Option.some.inj H
    refine g_ret Try.func74 (v := Value.bool false) (res1 rfl rfl) ?_
    have hs : St _ [] _ := St.take (Γ' := [_]) hs
    exact ⟨_, rfl, rfl, hs⟩

/- function 90 _impl_Task_places -/
def _impl_Task_places.post (w0 : World) (r : Int) (v : Value) (w : World) : Prop := v = Value.int .i64 r ∧ St w0 [] w
set_option maxHeartbeats 8000000 in
set_option maxRecDepth 100000 in
theorem _impl_Task_places.calls {N : Nat} {a1 : S_laws_Task} {w0 : World} {r : Int} (H : _impl_Task_places.f N a1 = some r) :
    Calls Try.prog 90 #[Value.agg (enc_S_laws_Task a1).toArray] w0 fun e w => ∃ v, e = .returned v ∧ _impl_Task_places.post w0 r v w := by
  unfold _impl_Task_places.f at H
  have hs : St w0 [] w0 := St.refl w0
  refine calls_of_g (n := 11) Try.func90 rfl rfl ?_
  show G _ _ _ _ [_, _, _, _, _, _, _, _, _, _, _, _] _
  refine g_seq ?_
  refine g_region ?_
  show G _ _ _ (.inRegion _ [0, 1] :: _) _ _
  refine s_box hs rfl rfl (cs := (enc_S_laws_Task a1)) rfl rfl ?_
  intro b2 w hs
  show G _ _ _ _ [_, _, _, _, _, _, _, _, _, _, _, _] _
  refine g_op (v := Value.int .i64 0) rfl rfl rfl ?_
  show G _ _ _ _ [_, _, _, _, _, _, _, _, _, _, _, _] _
  refine g_ops_nil ?_
  refine g_seq ?_
  refine g_seq ?_
  refine g_region ?_
  show G _ _ _ (.inRegion _ [0, 1] :: _) _ _
  refine g_op (v := Value.pointer (some ⟨b2, 3, none⟩)) rfl rfl rfl ?_
  show G _ _ _ _ [_, _, _, _, _, _, _, _, _, _, _, _] _
  by_cases hb1_ : a1.f_Good = true
  ·
   rw [if_pos hb1_] at H
   refine s_load1 rfl rfl (v := Value.bool true) rfl rfl (fun _ => rfl) (cells_load (hs.cells 0 rfl) 3 1 (Eq.trans (b := [Value.bool a1.f_Good]) rfl (congrArg (fun b => [Value.bool b]) hb1_))) ?_
   show G _ _ _ _ [_, _, _, _, _, _, _, _, _, _, _, _] _
   refine g_ops_nil ?_
   refine g_cond_true rfl ?_
   refine g_seq ?_
   refine g_region ?_
   show G _ _ _ (.inRegion _ [0, 1, 2, 3, 4] :: _) _ _
   refine g_op (v := Value.pointer (some ⟨b2, 0, none⟩)) rfl rfl rfl ?_
   show G _ _ _ _ [_, _, _, _, _, _, _, _, _, _, _, _] _
   refine s_load1 rfl rfl (v := Value.int .i8 a1.f_Coins) rfl rfl (fun _ => rfl) (cells_load (hs.cells 0 rfl) 0 1 rfl) ?_
   show G _ _ _ _ [_, _, _, _, _, _, _, _, _, _, _, _] _
   refine g_op (v := Value.int .i64 (i64w a1.f_Coins)) rfl rfl rfl ?_
   show G _ _ _ _ [_, _, _, _, _, _, _, _, _, _, _, _] _
   refine g_op (v := Value.int .i64 (i64w ((i64w a1.f_Coins) + 1))) rfl rfl rfl ?_
   show G _ _ _ _ [_, _, _, _, _, _, _, _, _, _, _, _] _
   refine g_op (v := Value.int .i64 (i64w ((i64w a1.f_Coins) + 1))) rfl rfl rfl ?_
   show G _ _ _ _ [_, _, _, _, _, _, _, _, _, _, _, _] _
   refine g_ops_nil ?_
   obtain rfl := Option.some.inj H
   refine g_ret Try.func90 (v := Value.int .i64 (i64w ((i64w a1.f_Coins) + 1))) (res1 rfl rfl) ?_
   have hs : St _ [] _ := St.take (Γ' := [_]) hs
   exact ⟨_, rfl, rfl, hs⟩
  ·
   rw [if_neg hb1_] at H
   refine s_load1 rfl rfl (v := Value.bool false) rfl rfl (fun _ => rfl) (cells_load (hs.cells 0 rfl) 3 1 (Eq.trans (b := [Value.bool a1.f_Good]) rfl (congrArg (fun b => [Value.bool b]) (Bool.eq_false_iff.2 hb1_)))) ?_
   show G _ _ _ _ [_, _, _, _, _, _, _, _, _, _, _, _] _
   refine g_ops_nil ?_
   refine g_cond_false rfl ?_
   refine g_skip ?_
   refine g_seq ?_
   refine g_region ?_
   show G _ _ _ (.inRegion _ [0, 1, 2, 3] :: _) _ _
   refine g_op (v := Value.pointer (some ⟨b2, 0, none⟩)) rfl rfl rfl ?_
   show G _ _ _ _ [_, _, _, _, _, _, _, _, _, _, _, _] _
   refine s_load1 rfl rfl (v := Value.int .i8 a1.f_Coins) rfl rfl (fun _ => rfl) (cells_load (hs.cells 0 rfl) 0 1 rfl) ?_
   show G _ _ _ _ [_, _, _, _, _, _, _, _, _, _, _, _] _
   refine g_op (v := Value.int .i64 (i64w a1.f_Coins)) rfl rfl rfl ?_
   show G _ _ _ _ [_, _, _, _, _, _, _, _, _, _, _, _] _
   refine g_op (v := Value.int .i64 (i64w a1.f_Coins)) rfl rfl rfl ?_
   show G _ _ _ _ [_, _, _, _, _, _, _, _, _, _, _, _] _
   refine g_ops_nil ?_
   obtain rfl := Option.some.inj H
   refine g_ret Try.func90 (v := Value.int .i64 (i64w a1.f_Coins)) (res1 rfl rfl) ?_
   have hs : St _ [] _ := St.take (Γ' := [_]) hs
   exact ⟨_, rfl, rfl, hs⟩

/- function 77 impl_ValidWeighing -/
def impl_ValidWeighing.post (w0 : World) (r : Bool) (v : Value) (w : World) : Prop := v = Value.bool r ∧ St w0 [] w
set_option maxHeartbeats 8000000 in
set_option maxRecDepth 100000 in
theorem impl_ValidWeighing.calls {N : Nat} {a1 : S_laws_Task} {a2 : (Ar Int 14)} {w0 : World} {r : Bool} (H : impl_ValidWeighing.f N a1 a2 = some r) :
    Calls Try.prog 77 #[Value.agg (enc_S_laws_Task a1).toArray, Value.agg ((encA (encI .i8)) a2).toArray] w0 fun e w => ∃ v, e = .returned v ∧ impl_ValidWeighing.post w0 r v w := by
  unfold impl_ValidWeighing.f at H
  have hs : St w0 [] w0 := St.refl w0
  refine calls_of_g (n := 37) Try.func77 rfl rfl ?_
  show G _ _ _ _ [_, _, _, _, _, _, _, _, _, _, _, _, _, _, _, _, _, _, _, _, _, _, _, _, _, _, _, _, _, _, _, _, _, _, _, _, _, _, _] _
  refine g_seq ?_
  refine g_region ?_
  show G _ _ _ (.inRegion _ [0, 1, 2] :: _) _ _
  refine s_box hs rfl rfl (cs := (enc_S_laws_Task a1)) rfl rfl ?_
  intro b3 w hs
  show G _ _ _ _ [_, _, _, _, _, _, _, _, _, _, _, _, _, _, _, _, _, _, _, _, _, _, _, _, _, _, _, _, _, _, _, _, _, _, _, _, _, _, _] _
  refine s_box hs rfl rfl (cs := ((encA (encI .i8)) a2)) rfl rfl ?_
  intro b5 w hs
  show G _ _ _ _ [_, _, _, _, _, _, _, _, _, _, _, _, _, _, _, _, _, _, _, _, _, _, _, _, _, _, _, _, _, _, _, _, _, _, _, _, _, _, _] _
  refine g_op (v := Value.bool false) rfl rfl rfl ?_
  show G _ _ _ _ [_, _, _, _, _, _, _, _, _, _, _, _, _, _, _, _, _, _, _, _, _, _, _, _, _, _, _, _, _, _, _, _, _, _, _, _, _, _, _] _
  refine g_ops_nil ?_
  refine g_seq ?_
  refine g_seq ?_
  refine g_region ?_
  show G _ _ _ (.inRegion _ [0, 1, 2] :: _) _ _
  refine s_loadA rfl rfl (es := (enc_S_laws_Task a1)) rfl rfl (fun _ => rfl) (n := 4) (fun _ => rfl) (fk_S_laws_Task.len _) (cells_all (hs.cells 1 rfl)) ?_
  show G _ _ _ _ [_, _, _, _, _, _, _, _, _, _, _, _, _, _, _, _, _, _, _, _, _, _, _, _, _, _, _, _, _, _, _, _, _, _, _, _, _, _, _] _
  obtain ⟨r7, Hr7, H⟩ := bind_get H
  refine s_call (args := [Value.agg (enc_S_laws_Task a1).toArray]) rfl rfl (x_call rfl (callFunc_enter Try.func74 rfl rfl) rfl) (impl_ValidTask.calls (a1 := a1) Hr7) ?_
  rintro _ w ⟨rfl, hs2⟩
  have hs : St _ [_, _] _ := hs.call hs2
  cases r7 with
  | true =>
    rw [if_pos rfl] at H
    show G _ _ _ _ [_, _, _, _, _, _, _, _, _, _, _, _, _, _, _, _, _, _, _, _, _, _, _, _, _, _, _, _, _, _, _, _, _, _, _, _, _, _, _] _
    refine g_op (v := Value.bool false) rfl rfl rfl ?_
    show G _ _ _ _ [_, _, _, _, _, _, _, _, _, _, _, _, _, _, _, _, _, _, _, _, _, _, _, _, _, _, _, _, _, _, _, _, _, _, _, _, _, _, _] _
    refine g_ops_nil ?_
    refine g_cond_false rfl ?_
    refine g_skip ?_
    refine g_seq ?_
    refine g_region ?_
    show G _ _ _ (.inRegion _ [0] :: _) _ _
    refine g_op (v := Value.int .i64 0) rfl rfl rfl ?_
    show G _ _ _ _ [_, _, _, _, _, _, _, _, _, _, _, _, _, _, _, _, _, _, _, _, _, _, _, _, _, _, _, _, _, _, _, _, _, _, _, _, _, _, _] _
    refine g_ops_nil ?_
    refine g_seq ?_
    refine g_seq ?_
    refine g_region ?_
    show G _ _ _ (.inRegion _ [0, 1] :: _) _ _
    refine s_loadA rfl rfl (es := ((encA (encI .i8)) a2)) rfl rfl (fun _ => rfl) (n := 14) (fun _ => rfl) ((fkA (n := 14) (he := (fkI .i8).len) (h1 := (fkI .i8).one)).len _) (cells_all (hs.cells 0 rfl)) ?_
    show G _ _ _ _ [_, _, _, _, _, _, _, _, _, _, _, _, _, _, _, _, _, _, _, _, _, _, _, _, _, _, _, _, _, _, _, _, _, _, _, _, _, _, _] _
    refine g_op (v := Value.int .i64 0) rfl rfl rfl ?_
    refine g_ops_nil ?_
    obtain ⟨o1_, Ho, Hr1_⟩ := bind_get H
    refine g_block_join (J := fun t w => ∃ x12 : Int, impl_ValidWeighing.a0 N x12 = some r ∧ Fr t (fun O => ([O 0, O 1, O 2, O 3, O 4, Value.int .i64 x12, O 6, O 7, O 8, O 9, O 10, O 11, O 12, O 13, O 14, O 15, O 16, O 17, O 18, O 19, O 20, O 21, O 22, O 23, O 24, O 25, O 26, O 27, O 28, O 29, O 30, O 31, O 32, O 33, O 34, O 35, O 36, O 37, O 38] : List Value)) ∧ St w0 [] w) ?_ ?_
    ·
     rintro t w ⟨x12, H, hf, hs⟩
     obtain ⟨O, rfl⟩ := hf.open
     show G _ _ _ _ [_, _, _, _, _, _, _, _, _, _, _, _, _, _, _, _, _, _, _, _, _, _, _, _, _, _, _, _, _, _, _, _, _, _, _, _, _, _, _] _
     unfold impl_ValidWeighing.a0 at H
     refine g_seq ?_
     refine g_region ?_
     show G _ _ _ (.inRegion _ [0, 1, 2] :: _) _ _
     refine g_op (v := Value.int .i64 x12) rfl rfl rfl ?_
     refine g_op (v := Value.bool (x12 == 0)) rfl rfl rfl ?_
     show G _ _ _ _ [_, _, _, _, _, _, _, _, _, _, _, _, _, _, _, _, _, _, _, _, _, _, _, _, _, _, _, _, _, _, _, _, _, _, _, _, _, _, _] _
     refine g_op (v := Value.bool (x12 == 0)) rfl rfl rfl ?_
     show G _ _ _ _ [_, _, _, _, _, _, _, _, _, _, _, _, _, _, _, _, _, _, _, _, _, _, _, _, _, _, _, _, _, _, _, _, _, _, _, _, _, _, _] _
     refine g_ops_nil ?_
     obtain rfl := Option.some.inj H
     refine g_ret Try.func77 (v := Value.bool (x12 == 0)) (res1 rfl rfl) ?_
     have hs : St _ [] _ := St.take (Γ' := []) hs
     exact ⟨_, rfl, rfl, hs⟩
    ·
     intro ha1_
     have hs := hs.pull 1 rfl
     have hs : St _ [_] _ := St.take (Γ' := [_]) hs
     refine g_loop_fuel (I := fun n_ t w => ∃ x8 : Int, ∃ x9 : Int, rounds (fun s => impl_ValidWeighing.b0 N a2 a1 s.1 s.2) n_ (x8, x9) = some o1_ ∧ Fr t (fun O => ([O 0, O 1, Value.pointer (some ⟨b3, 0, none⟩), O 3, O 4, Value.int .i64 x8, O 6, O 7, O 8, O 9, O 10, Value.agg ((encA (encI .i8)) a2).toArray, Value.int .i64 x9, O 13, O 14, O 15, O 16, O 17, O 18, O 19, O 20, O 21, O 22, O 23, O 24, O 25, O 26, O 27, O 28, O 29, O 30, O 31, O 32, O 33, O 34, O 35, O 36, O 37, O 38] : List Value)) ∧ St w0 [Cells b3 (enc_S_laws_Task a1) 50] w) N ⟨0, 0, Ho, rfl, hs⟩ ?_ ?_
     ·
      rintro _ _ ⟨x8, x9, h, _⟩
      exact rounds_zero h
     ·
      intro n_ ih1_
      rintro t w ⟨x8, x9, Ho, hf, hs⟩
      obtain ⟨O, rfl⟩ := hf.open
      show G _ _ _ _ [_, _, _, _, _, _, _, _, _, _, _, _, _, _, _, _, _, _, _, _, _, _, _, _, _, _, _, _, _, _, _, _, _, _, _, _, _, _, _] _
      obtain ⟨x2_, H, Hx1_⟩ := rounds_succ Ho
      have H : impl_ValidWeighing.b0 N a2 a1 x8 x9 = some x2_ := H
      unfold impl_ValidWeighing.b0 at H
      refine g_seq ?_
      refine g_region ?_
      show G _ _ _ (.inRegion _ [0] :: _) _ _
      refine g_op_b (B := decide (x9 < 14)) rfl rfl rfl ?_ ?_
      ·
       intro hb
       rw [if_pos (b_dec_t hb)] at H
       show G _ _ _ _ [_, _, _, _, _, _, _, _, _, _, _, _, _, _, _, _, _, _, _, _, _, _, _, _, _, _, _, _, _, _, _, _, _, _, _, _, _, _, _] _
       refine g_ops_nil ?_
       refine g_seq ?_
       refine g_cond_true rfl ?_
       refine g_skip ?_
       refine g_seq ?_
       refine g_block ?_
       refine g_seq ?_
       refine g_region ?_
       show G _ _ _ (.inRegion _ [0, 1, 2, 3] :: _) _ _
       refine g_op (v := Value.int .i64 x9) rfl rfl rfl ?_
       obtain ⟨g1, H⟩ := ite_get H
       refine s_indexV (enc := (encI .i8)) (c := Value.int .i8) (fun _ => rfl) 0 rfl (fun _ => rfl) (fun _ => rfl) g1.1 g1.2 rfl rfl rfl rfl rfl ?_
       show G _ _ _ _ [_, _, _, _, _, _, _, _, _, _, _, _, _, _, _, _, _, _, _, _, _, _, _, _, _, _, _, _, _, _, _, _, _, _, _, _, _, _, _] _
       refine g_op (v := Value.int .i64 x9) rfl rfl rfl ?_
       show G _ _ _ _ [_, _, _, _, _, _, _, _, _, _, _, _, _, _, _, _, _, _, _, _, _, _, _, _, _, _, _, _, _, _, _, _, _, _, _, _, _, _, _] _
       refine g_op (v := Value.int .i8 (a2.get x9 0)) rfl rfl rfl ?_
       show G _ _ _ _ [_, _, _, _, _, _, _, _, _, _, _, _, _, _, _, _, _, _, _, _, _, _, _, _, _, _, _, _, _, _, _, _, _, _, _, _, _, _, _] _
       refine g_ops_nil ?_
       refine g_seq ?_
       refine g_seq ?_
       refine g_join2 (J := (fun t w => ∃ x11 : Bool, impl_ValidWeighing.j2 N x8 a2 x9 x11 = some x2_ ∧ Fr t (fun O => ([O 0, O 1, Value.pointer (some ⟨b3, 0, none⟩), O 3, O 4, Value.int .i64 x8, O 6, Value.int .i8 (a2.get x9 0), O 8, O 9, O 10, Value.agg ((encA (encI .i8)) a2).toArray, Value.int .i64 x9, O 13, O 14, O 15, O 16, O 17, O 18, Value.int .i8 (a2.get x9 0), Value.bool (decide ((a2.get x9 0) > 1)), O 21, O 22, Value.int .i8 (a2.get x9 0), Value.bool x11, Value.bool x11, O 26, O 27, O 28, O 29, Value.bool false, O 31, O 32, O 33, O 34, O 35, O 36, O 37, O 38] : List Value)) ∧ St w0 [Cells b3 (enc_S_laws_Task a1) 50] w)) ?_ ?_
       ·
        rintro t w ⟨x11, H, hf, hs⟩
        obtain ⟨O, rfl⟩ := hf.open
        show G _ _ _ _ [_, _, _, _, _, _, _, _, _, _, _, _, _, _, _, _, _, _, _, _, _, _, _, _, _, _, _, _, _, _, _, _, _, _, _, _, _, _, _] _
        unfold impl_ValidWeighing.j2 at H
        refine g_region ?_
        show G _ _ _ (.inRegion _ [0, 1, 2, 3, 4] :: _) _ _
        refine g_op (v := Value.int .i64 x8) rfl rfl rfl ?_
        refine g_op (v := Value.int .i8 (a2.get x9 0)) rfl rfl rfl ?_
        refine g_op (v := Value.int .i64 (i64w (a2.get x9 0))) rfl rfl rfl ?_
        refine g_op (v := Value.int .i64 (i64w (x8 + (i64w (a2.get x9 0))))) rfl rfl rfl ?_
        show G _ _ _ _ [_, _, _, _, _, _, _, _, _, _, _, _, _, _, _, _, _, _, _, _, _, _, _, _, _, _, _, _, _, _, _, _, _, _, _, _, _, _, _] _
        refine g_op (v := Value.int .i64 (i64w (x8 + (i64w (a2.get x9 0))))) rfl rfl rfl ?_
        show G _ _ _ _ [_, _, _, _, _, _, _, _, _, _, _, _, _, _, _, _, _, _, _, _, _, _, _, _, _, _, _, _, _, _, _, _, _, _, _, _, _, _, _] _
        refine g_ops_nil ?_
        refine g_inBlock ?_
        refine g_region ?_
        show G _ _ _ (.inRegion _ [0, 1] :: _) _ _
        refine g_op (v := Value.int .i64 (i64w (x9 + 1))) rfl rfl rfl ?_
        show G _ _ _ _ [_, _, _, _, _, _, _, _, _, _, _, _, _, _, _, _, _, _, _, _, _, _, _, _, _, _, _, _, _, _, _, _, _, _, _, _, _, _, _] _
        refine g_op (v := Value.int .i64 (i64w (x9 + 1))) rfl rfl rfl ?_
        refine g_ops_nil ?_
        obtain rfl := Option.some.inj H
        have hs := hs.pull 0 rfl
        have hs : St _ [_] _ := St.take (Γ' := []) hs
        exact ih1_ _ _ ⟨i64w (x8 + (i64w (a2.get x9 0))), i64w (x9 + 1), Hx1_, rfl, hs⟩
       ·
        intro ha
        refine g_region ?_
        show G _ _ _ (.inRegion _ [0, 1, 2, 3, 4, 5, 6, 7, 8, 9, 10, 11, 12, 13, 14, 15] :: _) _ _
        refine g_op (v := Value.int .i8 (a2.get x9 0)) rfl rfl rfl ?_
        refine g_op_b (B := decide ((a2.get x9 0) < (-1))) rfl rfl rfl ?_ ?_
        ·
         intro hb
         rw [if_pos (b_dec_t hb)] at H
         show G _ _ _ _ [_, _, _, _, _, _, _, _, _, _, _, _, _, _, _, _, _, _, _, _, _, _, _, _, _, _, _, _, _, _, _, _, _, _, _, _, _, _, _] _
         refine g_op (v := Value.bool true) rfl rfl rfl ?_
         refine g_op_not rfl rfl ?_
         refine g_op_not rfl rfl ?_
         show G _ _ _ _ [_, _, _, _, _, _, _, _, _, _, _, _, _, _, _, _, _, _, _, _, _, _, _, _, _, _, _, _, _, _, _, _, _, _, _, _, _, _, _] _
         refine g_op (v := Value.bool true) rfl rfl rfl ?_
         show G _ _ _ _ [_, _, _, _, _, _, _, _, _, _, _, _, _, _, _, _, _, _, _, _, _, _, _, _, _, _, _, _, _, _, _, _, _, _, _, _, _, _, _] _
         refine g_op (v := Value.bool true) rfl rfl rfl ?_
         refine g_op_not rfl rfl ?_
         refine g_op_not rfl rfl ?_
         show G _ _ _ _ [_, _, _, _, _, _, _, _, _, _, _, _, _, _, _, _, _, _, _, _, _, _, _, _, _, _, _, _, _, _, _, _, _, _, _, _, _, _, _] _
         refine g_op_not rfl rfl ?_
         refine g_op_not rfl rfl ?_
         refine g_op_not rfl rfl ?_
         show G _ _ _ _ [_, _, _, _, _, _, _, _, _, _, _, _, _, _, _, _, _, _, _, _, _, _, _, _, _, _, _, _, _, _, _, _, _, _, _, _, _, _, _] _
         refine g_op_not rfl rfl ?_
         show G _ _ _ _ [_, _, _, _, _, _, _, _, _, _, _, _, _, _, _, _, _, _, _, _, _, _, _, _, _, _, _, _, _, _, _, _, _, _, _, _, _, _, _] _
         refine g_op_not rfl rfl ?_
         show G _ _ _ _ [_, _, _, _, _, _, _, _, _, _, _, _, _, _, _, _, _, _, _, _, _, _, _, _, _, _, _, _, _, _, _, _, _, _, _, _, _, _, _] _
         refine g_op_not rfl rfl ?_
         show G _ _ _ _ [_, _, _, _, _, _, _, _, _, _, _, _, _, _, _, _, _, _, _, _, _, _, _, _, _, _, _, _, _, _, _, _, _, _, _, _, _, _, _] _
         refine g_op (v := Value.bool true) rfl rfl rfl ?_
         show G _ _ _ _ [_, _, _, _, _, _, _, _, _, _, _, _, _, _, _, _, _, _, _, _, _, _, _, _, _, _, _, _, _, _, _, _, _, _, _, _, _, _, _] _
         refine g_ops_nil ?_
         refine g_cond_true rfl ?_
         refine g_seq ?_
         refine g_region ?_
         show G _ _ _ (.inRegion _ [0] :: _) _ _
         refine g_op (v := Value.bool false) rfl rfl rfl ?_
         show G _ _ _ _ [_, _, _, _, _, _, _, _, _, _, _, _, _, _, _, _, _, _, _, _, _, _, _, _, _, _, _, _, _, _, _, _, _, _, _, _, _, _, _] _
         refine g_ops_nil ?_
         obtain rfl := Option.some.inj H
         subst Hx1_
         have H := Option.some.inj Hr1_
         subst H
         refine g_ret Try.func77 (v := Value.bool false) (res1 rfl rfl) ?_
         have hs : St _ [] _ := St.take (Γ' := [_]) hs
         exact ⟨_, rfl, rfl, hs⟩
        ·
         intro hb
         rw [if_neg (b_dec_f hb)] at H
         show G _ _ _ _ [_, _, _, _, _, _, _, _, _, _, _, _, _, _, _, _, _, _, _, _, _, _, _, _, _, _, _, _, _, _, _, _, _, _, _, _, _, _, _] _
         refine g_op (v := Value.bool false) rfl rfl rfl ?_
         refine g_op (v := Value.int .i8 (a2.get x9 0)) rfl rfl rfl ?_
         refine g_op (v := Value.bool (decide ((a2.get x9 0) > 1))) rfl rfl rfl ?_
         show G _ _ _ _ [_, _, _, _, _, _, _, _, _, _, _, _, _, _, _, _, _, _, _, _, _, _, _, _, _, _, _, _, _, _, _, _, _, _, _, _, _, _, _] _
         refine g_op_b (B := decide ((a2.get x9 0) > 1)) rfl rfl rfl ?_ ?_
         ·
          intro hb
          rw [if_pos (b_dec_t hb)] at H
          show G _ _ _ _ [_, _, _, _, _, _, _, _, _, _, _, _, _, _, _, _, _, _, _, _, _, _, _, _, _, _, _, _, _, _, _, _, _, _, _, _, _, _, _] _
          refine g_op (v := Value.bool true) rfl rfl rfl ?_
          refine g_op_not rfl rfl ?_
          refine g_op_not rfl rfl ?_
          show G _ _ _ _ [_, _, _, _, _, _, _, _, _, _, _, _, _, _, _, _, _, _, _, _, _, _, _, _, _, _, _, _, _, _, _, _, _, _, _, _, _, _, _] _
          refine g_op_not rfl rfl ?_
          refine g_op_not rfl rfl ?_
          refine g_op_not rfl rfl ?_
          show G _ _ _ _ [_, _, _, _, _, _, _, _, _, _, _, _, _, _, _, _, _, _, _, _, _, _, _, _, _, _, _, _, _, _, _, _, _, _, _, _, _, _, _] _
          refine g_op_not rfl rfl ?_
          show G _ _ _ _ [_, _, _, _, _, _, _, _, _, _, _, _, _, _, _, _, _, _, _, _, _, _, _, _, _, _, _, _, _, _, _, _, _, _, _, _, _, _, _] _
          refine g_op_not rfl rfl ?_
          show G _ _ _ _ [_, _, _, _, _, _, _, _, _, _, _, _, _, _, _, _, _, _, _, _, _, _, _, _, _, _, _, _, _, _, _, _, _, _, _, _, _, _, _] _
          refine g_op_not rfl rfl ?_
          show G _ _ _ _ [_, _, _, _, _, _, _, _, _, _, _, _, _, _, _, _, _, _, _, _, _, _, _, _, _, _, _, _, _, _, _, _, _, _, _, _, _, _, _] _
          refine g_op (v := Value.bool true) rfl rfl rfl ?_
          show G _ _ _ _ [_, _, _, _, _, _, _, _, _, _, _, _, _, _, _, _, _, _, _, _, _, _, _, _, _, _, _, _, _, _, _, _, _, _, _, _, _, _, _] _
          refine g_ops_nil ?_
          refine g_cond_true rfl ?_
          refine g_seq ?_
          refine g_region ?_
          show G _ _ _ (.inRegion _ [0] :: _) _ _
          refine g_op (v := Value.bool false) rfl rfl rfl ?_
          show G _ _ _ _ [_, _, _, _, _, _, _, _, _, _, _, _, _, _, _, _, _, _, _, _, _, _, _, _, _, _, _, _, _, _, _, _, _, _, _, _, _, _, _] _
          refine g_ops_nil ?_
          obtain rfl := Option.some.inj H
          subst Hx1_
          have H := Option.some.inj Hr1_
          subst H
          refine g_ret Try.func77 (v := Value.bool false) (res1 rfl rfl) ?_
          have hs : St _ [] _ := St.take (Γ' := [_]) hs
          exact ⟨_, rfl, rfl, hs⟩
         ·
          intro hb
          rw [if_neg (b_dec_f hb)] at H
          show G _ _ _ _ [_, _, _, _, _, _, _, _, _, _, _, _, _, _, _, _, _, _, _, _, _, _, _, _, _, _, _, _, _, _, _, _, _, _, _, _, _, _, _] _
          refine g_op (v := Value.bool false) rfl rfl rfl ?_
          refine g_op (v := Value.int .i8 (a2.get x9 0)) rfl rfl rfl ?_
          refine g_op_b (B := (a2.get x9 0) != 0) rfl rfl rfl ?_ ?_
          ·
           intro hb
           rw [if_neg (b_bne_t hb)] at H
           show G _ _ _ _ [_, _, _, _, _, _, _, _, _, _, _, _, _, _, _, _, _, _, _, _, _, _, _, _, _, _, _, _, _, _, _, _, _, _, _, _, _, _, _] _
           refine g_op (v := Value.bool true) rfl rfl rfl ?_
           refine g_op (v := Value.int .i64 x9) rfl rfl rfl ?_
           refine s_loadA rfl rfl (es := (enc_S_laws_Task a1)) rfl rfl (fun _ => rfl) (n := 4) (fun _ => rfl) (fk_S_laws_Task.len _) (cells_all (hs.cells 0 rfl)) ?_
           show G _ _ _ _ [_, _, _, _, _, _, _, _, _, _, _, _, _, _, _, _, _, _, _, _, _, _, _, _, _, _, _, _, _, _, _, _, _, _, _, _, _, _, _] _
           obtain ⟨r10, Hr10, H⟩ := bind_get H
           refine s_call (args := [Value.agg (enc_S_laws_Task a1).toArray]) rfl rfl (x_call rfl (callFunc_enter Try.func90 rfl rfl) rfl) (_impl_Task_places.calls (a1 := a1) Hr10) ?_
           rintro _ w ⟨rfl, hs2⟩
           have hs : St _ [_] _ := hs.call hs2
           show G _ _ _ _ [_, _, _, _, _, _, _, _, _, _, _, _, _, _, _, _, _, _, _, _, _, _, _, _, _, _, _, _, _, _, _, _, _, _, _, _, _, _, _] _
           refine g_op (v := Value.bool (decide (x9 ≥ r10))) rfl rfl rfl ?_
           show G _ _ _ _ [_, _, _, _, _, _, _, _, _, _, _, _, _, _, _, _, _, _, _, _, _, _, _, _, _, _, _, _, _, _, _, _, _, _, _, _, _, _, _] _
           refine g_op_b (B := decide (x9 ≥ r10)) rfl rfl rfl ?_ ?_
           ·
            intro hb
            rw [if_pos (b_dec_t hb)] at H
            show G _ _ _ _ [_, _, _, _, _, _, _, _, _, _, _, _, _, _, _, _, _, _, _, _, _, _, _, _, _, _, _, _, _, _, _, _, _, _, _, _, _, _, _] _
            refine g_op (v := Value.bool true) rfl rfl rfl ?_
            show G _ _ _ _ [_, _, _, _, _, _, _, _, _, _, _, _, _, _, _, _, _, _, _, _, _, _, _, _, _, _, _, _, _, _, _, _, _, _, _, _, _, _, _] _
            refine g_ops_nil ?_
            refine g_cond_true rfl ?_
            refine g_seq ?_
            refine g_region ?_
            show G _ _ _ (.inRegion _ [0] :: _) _ _
            refine g_op (v := Value.bool false) rfl rfl rfl ?_
            show G _ _ _ _ [_, _, _, _, _, _, _, _, _, _, _, _, _, _, _, _, _, _, _, _, _, _, _, _, _, _, _, _, _, _, _, _, _, _, _, _, _, _, _] _
            refine g_ops_nil ?_
            obtain rfl := Option.some.inj H
            subst Hx1_
            have H := Option.some.inj Hr1_
            subst H
            refine g_ret Try.func77 (v := Value.bool false) (res1 rfl rfl) ?_
            have hs : St _ [] _ := St.take (Γ' := [_]) hs
            exact ⟨_, rfl, rfl, hs⟩
           ·
            intro hb
            rw [if_neg (b_dec_f hb)] at H
            show G _ _ _ _ [_, _, _, _, _, _, _, _, _, _, _, _, _, _, _, _, _, _, _, _, _, _, _, _, _, _, _, _, _, _, _, _, _, _, _, _, _, _, _] _
            refine g_op (v := Value.bool false) rfl rfl rfl ?_
            show G _ _ _ _ [_, _, _, _, _, _, _, _, _, _, _, _, _, _, _, _, _, _, _, _, _, _, _, _, _, _, _, _, _, _, _, _, _, _, _, _, _, _, _] _
            refine g_ops_nil ?_
            refine g_cond_false rfl ?_
            refine g_skip ?_
            have hs := hs.pull 0 rfl
            have hs : St _ [_] _ := St.take (Γ' := []) hs
            exact ha _ _ ⟨true, H, rfl, hs⟩
          ·
           intro hb
           rw [if_pos (b_bne_f hb)] at H
           show G _ _ _ _ [_, _, _, _, _, _, _, _, _, _, _, _, _, _, _, _, _, _, _, _, _, _, _, _, _, _, _, _, _, _, _, _, _, _, _, _, _, _, _] _
           refine g_op (v := Value.bool false) rfl rfl rfl ?_
           refine g_op_not rfl rfl ?_
           refine g_op_not rfl rfl ?_
           show G _ _ _ _ [_, _, _, _, _, _, _, _, _, _, _, _, _, _, _, _, _, _, _, _, _, _, _, _, _, _, _, _, _, _, _, _, _, _, _, _, _, _, _] _
           refine g_op_not rfl rfl ?_
           show G _ _ _ _ [_, _, _, _, _, _, _, _, _, _, _, _, _, _, _, _, _, _, _, _, _, _, _, _, _, _, _, _, _, _, _, _, _, _, _, _, _, _, _] _
           refine g_op_not rfl rfl ?_
           show G _ _ _ _ [_, _, _, _, _, _, _, _, _, _, _, _, _, _, _, _, _, _, _, _, _, _, _, _, _, _, _, _, _, _, _, _, _, _, _, _, _, _, _] _
           refine g_op (v := Value.bool false) rfl rfl rfl ?_
           show G _ _ _ _ [_, _, _, _, _, _, _, _, _, _, _, _, _, _, _, _, _, _, _, _, _, _, _, _, _, _, _, _, _, _, _, _, _, _, _, _, _, _, _] _
           refine g_op (v := Value.bool false) rfl rfl rfl ?_
           show G _ _ _ _ [_, _, _, _, _, _, _, _, _, _, _, _, _, _, _, _, _, _, _, _, _, _, _, _, _, _, _, _, _, _, _, _, _, _, _, _, _, _, _] _
           refine g_ops_nil ?_
           refine g_cond_false rfl ?_
           refine g_skip ?_
           have hs := hs.pull 0 rfl
           have hs : St _ [_] _ := St.take (Γ' := []) hs
           exact ha _ _ ⟨false, H, rfl, hs⟩
      ·
       intro hb
       rw [if_neg (b_dec_f hb)] at H
       show G _ _ _ _ [_, _, _, _, _, _, _, _, _, _, _, _, _, _, _, _, _, _, _, _, _, _, _, _, _, _, _, _, _, _, _, _, _, _, _, _, _, _, _] _
       refine g_ops_nil ?_
       refine g_seq ?_
       refine g_cond_false rfl ?_
       obtain rfl := Option.some.inj H
       subst Hx1_
       have hs : St _ [] _ := St.take (Γ' := [_]) hs
       refine g_exit rfl ?_
       exact ha1_ _ _ ⟨x8, Hr1_, rfl, hs⟩
  | false =>
    rw [if_neg Bool.false_ne_true] at H
    show G _ _ _ _ [_, _, _, _, _, _, _, _, _, _, _, _, _, _, _, _, _, _, _, _, _, _, _, _, _, _, _, _, _, _, _, _, _, _, _, _, _, _, _] _
    refine g_op (v := Value.bool true) rfl rfl rfl ?_
    show G _ _ _ _ [_, _, _, _, _, _, _, _, _, _, _, _, _, _, _, _, _, _, _, _, _, _, _, _, _, _, _, _, _, _, _, _, _, _, _, _, _, _, _] _
    refine g_ops_nil ?_
    refine g_cond_true rfl ?_
    refine g_seq ?_
    refine g_region ?_
    show G _ _ _ (.inRegion _ [0] :: _) _ _
    refine g_op (v := Value.bool false) rfl rfl rfl ?_
    show G _ _ _ _ [_, _, _, _, _, _, _, _, _, _, _, _, _, _, _, _, _, _, _, _, _, _, _, _, _, _, _, _, _, _, _, _, _, _, _, _, _, _, _] _
    refine g_ops_nil ?_
    obtain rfl := Option.some.inj H
    refine g_ret Try.func77 (v := Value.bool false) (res1 rfl rfl) ?_
    have hs : St _ [] _ := St.take (Γ' := [_, _]) hs
    exact ⟨_, rfl, rfl, hs⟩

/- function 76 impl_splitCode_1 -/
def impl_splitCode_1.post (w0 : World) (r : Bool) (v : Value) (w : World) : Prop := v = Value.bool r ∧ St w0 [] w
set_option maxHeartbeats 8000000 in
set_option maxRecDepth 100000 in
theorem impl_splitCode_1.calls {N : Nat} {a1 : (Ar Int 14)} {a2 : S_laws_Task} {b3 : Nat} {w0 : World} {r : Bool} (hp1000 : w0.heap[b3]? = some (.cells ((enc_S_laws_Task a2) : List Value).toArray 50 (0, 0))) (H : impl_splitCode_1.f N a1 a2 = some r) :
    Calls Try.prog 76 #[Value.agg ((encA (encI .i8)) a1).toArray, Value.pointer (some ⟨b3, 0, none⟩)] w0 fun e w => ∃ v, e = .returned v ∧ impl_splitCode_1.post w0 r v w := by
  unfold impl_splitCode_1.f at H
  have hs : St w0 [] w0 := St.refl w0
  refine calls_of_g (n := 6) Try.func76 rfl rfl ?_
  show G _ _ _ _ [_, _, _, _, _, _, _, _] _
  refine g_seq ?_
  refine g_region ?_
  show G _ _ _ (.inRegion _ [0, 1] :: _) _ _
  refine s_box hs rfl rfl (cs := ((encA (encI .i8)) a1)) rfl rfl ?_
  intro b5 w hs
  show G _ _ _ _ [_, _, _, _, _, _, _, _] _
  refine g_op (v := Value.bool false) rfl rfl rfl ?_
  show G _ _ _ _ [_, _, _, _, _, _, _, _] _
  refine g_ops_nil ?_
  refine g_seq ?_
  refine g_region ?_
  show G _ _ _ (.inRegion _ [0, 1, 2, 3, 4] :: _) _ _
  refine s_loadA rfl rfl (es := (enc_S_laws_Task a2)) rfl rfl (fun _ => rfl) (n := 4) (fun _ => rfl) (fk_S_laws_Task.len _) (cells_all (hs.box hp1000)) ?_
  show G _ _ _ _ [_, _, _, _, _, _, _, _] _
  refine s_loadA rfl rfl (es := ((encA (encI .i8)) a1)) rfl rfl (fun _ => rfl) (n := 14) (fun _ => rfl) ((fkA (n := 14) (he := (fkI .i8).len) (h1 := (fkI .i8).one)).len _) (cells_all (hs.cells 0 rfl)) ?_
  show G _ _ _ _ [_, _, _, _, _, _, _, _] _
  obtain ⟨r7, Hr7, H⟩ := bind_get H
  refine s_call (args := [Value.agg (enc_S_laws_Task a2).toArray, Value.agg ((encA (encI .i8)) a1).toArray]) rfl rfl (x_call rfl (callFunc_enter Try.func77 rfl rfl) rfl) (impl_ValidWeighing.calls (a1 := a2) (a2 := a1) Hr7) ?_
  rintro _ w ⟨rfl, hs2⟩
  have hs : St _ [_] _ := hs.call hs2
  show G _ _ _ _ [_, _, _, _, _, _, _, _] _
  refine g_op (v := Value.bool (!r7)) rfl rfl rfl ?_
  show G _ _ _ _ [_, _, _, _, _, _, _, _] _
  refine g_op (v := Value.bool (!r7)) rfl rfl rfl ?_
  show G _ _ _ _ [_, _, _, _, _, _, _, _] _
  refine g_ops_nil ?_
  obtain rfl := Option.some.inj H
  refine g_ret Try.func76 (v := Value.bool (!r7)) (res1 rfl rfl) ?_
  have hs : St _ [] _ := St.take (Γ' := [_]) hs
  exact ⟨_, rfl, rfl, hs⟩

/- function 89 slices_IndexFunc_impl_Weighing_impl_Weighing_at_impl_splitCode_1 -/
def slices_IndexFunc_impl_Weighing_impl_Weighing_at_impl_splitCode_1.post (w0 : World) (r : Int) (v : Value) (w : World) : Prop := v = Value.int .i64 r ∧ St w0 [] w
set_option maxHeartbeats 8000000 in
set_option maxRecDepth 100000 in
theorem slices_IndexFunc_impl_Weighing_impl_Weighing_at_impl_splitCode_1.calls {N : Nat} {a1 : (List (Ar Int 14))} {a3 : S_laws_Task} {v2 : Value} {b4 : Nat} {w0 : World} {r : Int} (hr0 : RdRow (K.ar 14 1 (encI .i8) (fkI .i8).len (fkI .i8).one) w0 v2 a1) (hp200 : w0.heap[b4]? = some (.cells ((enc_S_laws_Task a3) : List Value).toArray 50 (0, 0))) (H : slices_IndexFunc_impl_Weighing_impl_Weighing_at_impl_splitCode_1.f N a1 a3 = some r) :
    Calls Try.prog 89 #[v2, Value.func (Fn.func 76) #[] #[Value.pointer (some ⟨b4, 0, none⟩)]] w0 fun e w => ∃ v, e = .returned v ∧ slices_IndexFunc_impl_Weighing_impl_Weighing_at_impl_splitCode_1.post w0 r v w := by
  unfold slices_IndexFunc_impl_Weighing_impl_Weighing_at_impl_splitCode_1.f at H
  have hs : St w0 [] w0 := St.refl w0
  refine calls_of_g (n := 17) Try.func89 rfl rfl ?_
  show G _ _ _ _ [_, _, _, _, _, _, _, _, _, _, _, _, _, _, _, _, _, _, _] _
  refine g_seq ?_
  refine g_region ?_
  show G _ _ _ (.inRegion _ [0] :: _) _ _
  refine g_op (v := Value.int .i64 0) rfl rfl rfl ?_
  show G _ _ _ _ [_, _, _, _, _, _, _, _, _, _, _, _, _, _, _, _, _, _, _] _
  refine g_ops_nil ?_
  refine g_seq ?_
  refine g_seq ?_
  refine g_region ?_
  show G _ _ _ (.inRegion _ [0, 1, 2] :: _) _ _
  refine g_op (v := v2) rfl rfl rfl ?_
  show G _ _ _ _ [_, _, _, _, _, _, _, _, _, _, _, _, _, _, _, _, _, _, _] _
  refine s_len (hs.rd hr0) rfl rfl rfl rfl rfl ?_
  show G _ _ _ _ [_, _, _, _, _, _, _, _, _, _, _, _, _, _, _, _, _, _, _] _
  refine g_op (v := Value.int .i64 0) rfl rfl rfl ?_
  show G _ _ _ _ [_, _, _, _, _, _, _, _, _, _, _, _, _, _, _, _, _, _, _] _
  refine g_ops_nil ?_
  obtain ⟨o1_, Ho, Hr1_⟩ := bind_get H
  refine g_block_join (J := fun t w => slices_IndexFunc_impl_Weighing_impl_Weighing_at_impl_splitCode_1.a0 N = some r ∧ Fr t (fun O => ([O 0, O 1, O 2, O 3, O 4, O 5, O 6, O 7, O 8, O 9, O 10, O 11, O 12, O 13, O 14, O 15, O 16, O 17, O 18] : List Value)) ∧ St w0 [] w) ?_ ?_
  ·
   rintro t w ⟨H, hf, hs⟩
   obtain ⟨O, rfl⟩ := hf.open
   show G _ _ _ _ [_, _, _, _, _, _, _, _, _, _, _, _, _, _, _, _, _, _, _] _
   unfold slices_IndexFunc_impl_Weighing_impl_Weighing_at_impl_splitCode_1.a0 at H
   refine g_seq ?_
   refine g_region ?_
   show G _ _ _ (.inRegion _ [0] :: _) _ _
   refine g_op (v := Value.int .i64 (-1)) rfl rfl rfl ?_
   show G _ _ _ _ [_, _, _, _, _, _, _, _, _, _, _, _, _, _, _, _, _, _, _] _
   refine g_ops_nil ?_
   obtain rfl := Option.some.inj H
   refine g_ret Try.func89 (v := Value.int .i64 (-1)) (res1 rfl rfl) ?_
   have hs : St _ [] _ := St.take (Γ' := []) hs
   exact ⟨_, rfl, rfl, hs⟩
  ·
   intro ha1_
   have hs : St _ [] _ := St.take (Γ' := []) hs
   refine g_loop_fuel (I := fun n_ t w => ∃ x6 : Int, rounds (fun s => slices_IndexFunc_impl_Weighing_impl_Weighing_at_impl_splitCode_1.b0 N a1 a3 s) n_ x6 = some o1_ ∧ Fr t (fun O => ([v2, Value.func (Fn.func 76) #[] #[Value.pointer (some ⟨b4, 0, none⟩)], O 2, O 3, O 4, O 5, O 6, Value.int .i64 (a1.length : Int), Value.int .i64 x6, O 9, O 10, O 11, O 12, O 13, O 14, O 15, O 16, O 17, O 18] : List Value)) ∧ St w0 [] w) N ⟨0, Ho, rfl, hs⟩ ?_ ?_
   ·
    rintro _ _ ⟨x6, h, _⟩
    exact rounds_zero h
   ·
    intro n_ ih1_
    rintro t w ⟨x6, Ho, hf, hs⟩
    obtain ⟨O, rfl⟩ := hf.open
    show G _ _ _ _ [_, _, _, _, _, _, _, _, _, _, _, _, _, _, _, _, _, _, _] _
    obtain ⟨x2_, H, Hx1_⟩ := rounds_succ Ho
    have H : slices_IndexFunc_impl_Weighing_impl_Weighing_at_impl_splitCode_1.b0 N a1 a3 x6 = some x2_ := H
    unfold slices_IndexFunc_impl_Weighing_impl_Weighing_at_impl_splitCode_1.b0 at H
    refine g_seq ?_
    refine g_region ?_
    show G _ _ _ (.inRegion _ [0] :: _) _ _
    refine g_op_b (B := decide (x6 < (a1.length : Int))) rfl rfl rfl ?_ ?_
    ·
     intro hb
     rw [if_pos (b_dec_t hb)] at H
     show G _ _ _ _ [_, _, _, _, _, _, _, _, _, _, _, _, _, _, _, _, _, _, _] _
     refine g_ops_nil ?_
     refine g_seq ?_
     refine g_cond_true rfl ?_
     refine g_skip ?_
     refine g_seq ?_
     refine g_block ?_
     refine g_seq ?_
     refine g_region ?_
     show G _ _ _ (.inRegion _ [0, 1] :: _) _ _
     refine g_op (v := Value.int .i64 x6) rfl rfl rfl ?_
     show G _ _ _ _ [_, _, _, _, _, _, _, _, _, _, _, _, _, _, _, _, _, _, _] _
     refine g_op (v := Value.int .i64 x6) rfl rfl rfl ?_
     show G _ _ _ _ [_, _, _, _, _, _, _, _, _, _, _, _, _, _, _, _, _, _, _] _
     refine g_ops_nil ?_
     refine g_seq ?_
     refine g_region ?_
     show G _ _ _ (.inRegion _ [0, 1, 2, 3, 4, 5] :: _) _ _
     refine g_op (v := Value.func (Fn.func 76) #[] #[Value.pointer (some ⟨b4, 0, none⟩)]) rfl rfl rfl ?_
     show G _ _ _ _ [_, _, _, _, _, _, _, _, _, _, _, _, _, _, _, _, _, _, _] _
     refine g_op (v := v2) rfl rfl rfl ?_
     show G _ _ _ _ [_, _, _, _, _, _, _, _, _, _, _, _, _, _, _, _, _, _, _] _
     refine g_op (v := Value.int .i64 x6) rfl rfl rfl ?_
     show G _ _ _ _ [_, _, _, _, _, _, _, _, _, _, _, _, _, _, _, _, _, _, _] _
     obtain ⟨g1, H⟩ := ite_get H
     refine s_idx (fkA (n := 14) (he := (fkI .i8).len) (h1 := (fkI .i8).one)) (Ar.rep 14 0) (hs.rd hr0) rfl (fun _ => rfl) g1.1 g1.2 rfl rfl rfl rfl rfl ?_
     intro p7 hp7 lp7 op7
     show G _ _ _ _ [_, _, _, _, _, _, _, _, _, _, _, _, _, _, _, _, _, _, _] _
     refine s_loadA rfl rfl (es := ((encA (encI .i8)) (rdL a1 x6 (Ar.rep 14 0)))) rfl rfl (fun _ => rfl) (n := 14) (fun _ => rfl) ((fkA (n := 14) (he := (fkI .i8).len) (h1 := (fkI .i8).one)).len _) hp7 ?_
     show G _ _ _ _ [_, _, _, _, _, _, _, _, _, _, _, _, _, _, _, _, _, _, _] _
     obtain ⟨r8, Hr8, H⟩ := bind_get H
     refine s_call (args := [Value.agg ((encA (encI .i8)) (rdL a1 x6 (Ar.rep 14 0))).toArray, Value.pointer (some ⟨b4, 0, none⟩)]) rfl rfl (x_callC rfl (callFunc_enter Try.func76 rfl rfl) rfl rfl) (impl_splitCode_1.calls (a1 := rdL a1 x6 (Ar.rep 14 0)) (a2 := a3) (hs.box hp200) Hr8) ?_
     rintro _ w ⟨rfl, hs2⟩
     have hs : St _ [] _ := hs.call hs2
     cases r8 with
     | true =>
       rw [if_pos rfl] at H
       show G _ _ _ _ [_, _, _, _, _, _, _, _, _, _, _, _, _, _, _, _, _, _, _] _
       refine g_ops_nil ?_
       refine g_cond_true rfl ?_
       refine g_seq ?_
       refine g_region ?_
       show G _ _ _ (.inRegion _ [0, 1] :: _) _ _
       refine g_op (v := Value.int .i64 x6) rfl rfl rfl ?_
       show G _ _ _ _ [_, _, _, _, _, _, _, _, _, _, _, _, _, _, _, _, _, _, _] _
       refine g_op (v := Value.int .i64 x6) rfl rfl rfl ?_
       show G _ _ _ _ [_, _, _, _, _, _, _, _, _, _, _, _, _, _, _, _, _, _, _] _
       refine g_ops_nil ?_
       obtain rfl := Option.some.inj H
       subst Hx1_
       have H := Option.some.inj Hr1_
       subst H
       refine g_ret Try.func89 (v := Value.int .i64 x6) (res1 rfl rfl) ?_
       have hs : St _ [] _ := St.take (Γ' := []) hs
       exact ⟨_, rfl, rfl, hs⟩
     | false =>
       rw [if_neg Bool.false_ne_true] at H
       show G _ _ _ _ [_, _, _, _, _, _, _, _, _, _, _, _, _, _, _, _, _, _, _] _
       refine g_ops_nil ?_
       refine g_cond_false rfl ?_
       refine g_skip ?_
       refine g_inBlock ?_
       refine g_region ?_
       show G _ _ _ (.inRegion _ [0, 1] :: _) _ _
       refine g_op (v := Value.int .i64 (i64w (x6 + 1))) rfl rfl rfl ?_
       show G _ _ _ _ [_, _, _, _, _, _, _, _, _, _, _, _, _, _, _, _, _, _, _] _
       refine g_op (v := Value.int .i64 (i64w (x6 + 1))) rfl rfl rfl ?_
       show G _ _ _ _ [_, _, _, _, _, _, _, _, _, _, _, _, _, _, _, _, _, _, _] _
       refine g_ops_nil ?_
       obtain rfl := Option.some.inj H
       have hs : St _ [] _ := St.take (Γ' := []) hs
       exact ih1_ _ _ ⟨i64w (x6 + 1), Hx1_, rfl, hs⟩
    ·
     intro hb
     rw [if_neg (b_dec_f hb)] at H
     show G _ _ _ _ [_, _, _, _, _, _, _, _, _, _, _, _, _, _, _, _, _, _, _] _
     refine g_ops_nil ?_
     refine g_seq ?_
     refine g_cond_false rfl ?_
     obtain rfl := Option.some.inj H
     subst Hx1_
     have hs : St _ [] _ := St.take (Γ' := []) hs
     refine g_exit rfl ?_
     exact ha1_ _ _ ⟨Hr1_, rfl, hs⟩

end Go.Proofs.YtcocgeodfbiehaaX
