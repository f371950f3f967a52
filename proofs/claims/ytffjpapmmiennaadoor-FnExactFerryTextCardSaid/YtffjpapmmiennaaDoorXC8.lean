/- Contracts, printed by gen.py. -/
import Derived.Test.YtffjpapmmiennaaDoorXC7
namespace Go.Proofs.YtffjpapmmiennaaDoorX
open Go Go.RowKit Go.Proofs
set_option linter.unusedVariables false
set_option linter.unusedSimpArgs false
/- function 17 laws_toFerry -/
def laws_toFerry.post (w0 : World) (r : S_laws_Ferry) (v : Value) (w : World) : Prop := ∃ u1 : Value, v = Value.agg (([Value.int .i8 r.f_Things, Value.int .i8 r.f_Boat, u1] : List Value)).toArray ∧ St w0 [Row 59 (K.int .u16) u1 r.f_Rules] w
set_option maxHeartbeats 8000000 in
set_option maxRecDepth 100000 in
theorem laws_toFerry.calls {N : Nat} {a1 : S_laws_Ferry} {v2 : Value} {w0 : World} {r : S_laws_Ferry} (hr3 : RdRow (K.int .u16) w0 v2 a1.f_Rules) (H : laws_toFerry.f N a1 = some r) :
    Calls Tryd.prog 17 #[Value.agg (([Value.int .i8 a1.f_Things, Value.int .i8 a1.f_Boat, v2] : List Value)).toArray] w0 fun e w => ∃ v, e = .returned v ∧ laws_toFerry.post w0 r v w := by
  unfold laws_toFerry.f at H
  have hs : St w0 [] w0 := St.refl w0
  refine calls_of_g (n := 14) Tryd.func17 rfl rfl ?_
  show G _ _ _ _ [_, _, _, _, _, _, _, _, _, _, _, _, _, _, _] _
  refine g_seq ?_
  refine g_region ?_
  show G _ _ _ (.inRegion _ [0, 1] :: _) _ _
  refine s_box hs rfl rfl (cs := (([Value.int .i8 a1.f_Things, Value.int .i8 a1.f_Boat, v2] : List Value))) rfl rfl ?_
  intro b4 w hs
  show G _ _ _ _ [_, _, _, _, _, _, _, _, _, _, _, _, _, _, _] _
  refine s_alloc hs rfl rfl (z := (Value.agg #[Value.int .i8 0, Value.int .i8 0, Value.slice none 0 0])) (cs := (([Value.int .i8 0, Value.int .i8 0, Value.slice none 0 0] : List Value))) rfl (fun _ => rfl) rfl ?_
  intro b6 w hs
  show G _ _ _ _ [_, _, _, _, _, _, _, _, _, _, _, _, _, _, _] _
  refine g_ops_nil ?_
  refine g_seq ?_
  refine g_region ?_
  show G _ _ _ (.inRegion _ [0] :: _) _ _
  refine s_alloc hs rfl rfl (z := (Value.agg #[Value.int .i8 0, Value.int .i8 0, Value.slice none 0 0])) (cs := (([Value.int .i8 0, Value.int .i8 0, Value.slice none 0 0] : List Value))) rfl (fun _ => rfl) rfl ?_
  intro b8 w hs
  show G _ _ _ _ [_, _, _, _, _, _, _, _, _, _, _, _, _, _, _] _
  refine g_ops_nil ?_
  refine g_seq ?_
  refine g_region ?_
  show G _ _ _ (.inRegion _ [0, 1, 2, 3] :: _) _ _
  refine g_op (v := Value.pointer (some ⟨b4, 0, none⟩)) rfl rfl rfl ?_
  show G _ _ _ _ [_, _, _, _, _, _, _, _, _, _, _, _, _, _, _] _
  refine s_load1 rfl rfl (v := Value.int .i8 a1.f_Things) rfl rfl (fun _ => rfl) (cells_load (hs.cells 2 rfl) 0 1 rfl) ?_
  show G _ _ _ _ [_, _, _, _, _, _, _, _, _, _, _, _, _, _, _] _
  refine g_op (v := Value.pointer (some ⟨b8, 0, none⟩)) rfl rfl rfl ?_
  show G _ _ _ _ [_, _, _, _, _, _, _, _, _, _, _, _, _, _, _] _
  refine s_store hs rfl rfl (vs := ((encI .i8) a1.f_Things)) (cs' := (([Value.int .i8 a1.f_Things, Value.int .i8 0, Value.slice none 0 0] : List Value))) rfl rfl rfl (n := 1) (fun _ => rfl) ((fkI .i8).len _) (by first | exact Nat.le_of_ble_eq_true rfl | simp [encA_len]) ((fkI .i8).one _) rfl ?_
  intro w hs
  refine g_ops_nil ?_
  refine g_seq ?_
  refine g_region ?_
  show G _ _ _ (.inRegion _ [0, 1, 2, 3] :: _) _ _
  refine g_op (v := Value.pointer (some ⟨b4, 1, none⟩)) rfl rfl rfl ?_
  show G _ _ _ _ [_, _, _, _, _, _, _, _, _, _, _, _, _, _, _] _
  refine s_load1 rfl rfl (v := Value.int .i8 a1.f_Boat) rfl rfl (fun _ => rfl) (cells_load (hs.cells 2 rfl) 1 1 rfl) ?_
  show G _ _ _ _ [_, _, _, _, _, _, _, _, _, _, _, _, _, _, _] _
  refine g_op (v := Value.pointer (some ⟨b8, 1, none⟩)) rfl rfl rfl ?_
  show G _ _ _ _ [_, _, _, _, _, _, _, _, _, _, _, _, _, _, _] _
  refine s_store hs rfl rfl (vs := ((encI .i8) a1.f_Boat)) (cs' := (([Value.int .i8 a1.f_Things, Value.int .i8 a1.f_Boat, Value.slice none 0 0] : List Value))) rfl rfl rfl (n := 1) (fun _ => rfl) ((fkI .i8).len _) (by first | exact Nat.le_of_ble_eq_true rfl | simp [encA_len]) ((fkI .i8).one _) rfl ?_
  intro w hs
  refine g_ops_nil ?_
  refine g_seq ?_
  refine g_region ?_
  show G _ _ _ (.inRegion _ [0, 1, 2, 3, 4] :: _) _ _
  refine g_op (v := Value.pointer (some ⟨b4, 2, none⟩)) rfl rfl rfl ?_
  show G _ _ _ _ [_, _, _, _, _, _, _, _, _, _, _, _, _, _, _] _
  refine s_load1 rfl rfl (v := v2) rfl rfl (fun _ => rfl) (cells_load (hs.cells 2 rfl) 2 1 rfl) ?_
  show G _ _ _ _ [_, _, _, _, _, _, _, _, _, _, _, _, _, _, _] _
  obtain ⟨r10, Hr10, H⟩ := bind_get H
  refine s_call (args := [v2]) rfl rfl (x_call rfl (callFunc_enter Tryd.func32 rfl rfl) rfl) (laws_toUint16S.calls (a1 := a1.f_Rules) (hs.rd hr3) Hr10) ?_
  intro v11 w hs2
  have hs : St _ [_, _, _, _] _ := hs.call hs2
  show G _ _ _ _ [_, _, _, _, _, _, _, _, _, _, _, _, _, _, _] _
  refine g_op (v := Value.pointer (some ⟨b8, 2, none⟩)) rfl rfl rfl ?_
  show G _ _ _ _ [_, _, _, _, _, _, _, _, _, _, _, _, _, _, _] _
  have hs := hs.pull 1 rfl
  have hs : St _ [_, _, _, _] _ := hs
  refine s_store hs rfl rfl (vs := [v11]) (cs' := (([Value.int .i8 a1.f_Things, Value.int .i8 a1.f_Boat, v11] : List Value))) rfl rfl (slCells (hs.row 1 rfl)) (n := 1) (fun _ => rfl) rfl (by first | exact Nat.le_of_ble_eq_true rfl | simp [encA_len]) (by intro v hv; simp only [List.mem_cons, List.not_mem_nil, or_false] at hv; subst hv; exact slOne (hs.row 1 rfl)) rfl ?_
  intro w hs
  refine g_ops_nil ?_
  refine g_seq ?_
  refine g_region ?_
  show G _ _ _ (.inRegion _ [0, 1] :: _) _ _
  refine s_loadA rfl rfl (es := (([Value.int .i8 a1.f_Things, Value.int .i8 a1.f_Boat, v11] : List Value))) rfl rfl (fun _ => rfl) (n := 3) (fun _ => rfl) rfl (cells_all (hs.cells 0 rfl)) ?_
  show G _ _ _ _ [_, _, _, _, _, _, _, _, _, _, _, _, _, _, _] _
  have hs := hs.pull 2 rfl
  have hs : St _ [_, _, _, _] _ := hs
  refine s_storeAll (n := 3) hs rfl rfl rfl (vs := (([Value.int .i8 a1.f_Things, Value.int .i8 a1.f_Boat, v11] : List Value))) rfl rfl rfl (fun _ => rfl) rfl (by intro v hv; simp only [List.mem_append, List.mem_cons, List.not_mem_nil, or_false] at hv; repeat (first | (subst hv; first | rfl | exact slOne (hs.row 2 rfl)) | (rcases hv with hv | hv))) ?_
  intro w hs
  refine g_ops_nil ?_
  obtain rfl := Option.some.inj H
  refine g_ret Tryd.func17 (v := Value.agg (([Value.int .i8 a1.f_Things, Value.int .i8 a1.f_Boat, v11] : List Value)).toArray) (resC rfl ⟨⟨_, rfl, (run_loadVar_agg (es := (([Value.int .i8 a1.f_Things, Value.int .i8 a1.f_Boat, v11] : List Value))) rfl rfl (cells_all (hs.cells 0 rfl)))⟩, trivial⟩) ?_
  have hs := hs.pull 2 rfl
  have hs : St _ [_] _ := St.take (Γ' := [_, _, _]) hs
  exact ⟨_, rfl, v11, rfl, hs⟩

/- function 50 spec_l05All -/
def spec_l05All.post (w0 : World) (r : Int) (v : Value) (w : World) : Prop := v = Value.int .u16 r ∧ St w0 [] w
set_option maxHeartbeats 8000000 in
set_option maxRecDepth 100000 in
theorem spec_l05All.calls {N : Nat} {a1 : S_laws_Ferry} {b2 : Nat} {v3 : Value} {w0 : World} {r : Int} (hr4 : RdRow (K.int .u16) w0 v3 a1.f_Rules) (hp0 : w0.heap[b2]? = some (.cells ((([Value.int .i8 a1.f_Things, Value.int .i8 a1.f_Boat, v3] : List Value)) : List Value).toArray 43 (0, 0))) (H : spec_l05All.f N a1 = some r) :
    Calls Tryd.prog 50 #[Value.pointer (some ⟨b2, 0, none⟩)] w0 fun e w => ∃ v, e = .returned v ∧ spec_l05All.post w0 r v w := by
  unfold spec_l05All.f at H
  have hs : St w0 [] w0 := St.refl w0
  refine calls_of_g (n := 9) Tryd.func50 rfl rfl ?_
  show G _ _ _ _ [_, _, _, _, _, _, _, _, _, _] _
  refine g_seq ?_
  refine g_region ?_
  show G _ _ _ (.inRegion _ [0] :: _) _ _
  refine g_op (v := Value.int .u16 0) rfl rfl rfl ?_
  show G _ _ _ _ [_, _, _, _, _, _, _, _, _, _] _
  refine g_ops_nil ?_
  refine g_seq ?_
  refine g_region ?_
  show G _ _ _ (.inRegion _ [0, 1, 2, 3, 4, 5, 6, 7] :: _) _ _
  refine g_op (v := Value.pointer (some ⟨b2, 0, none⟩)) rfl rfl rfl ?_
  show G _ _ _ _ [_, _, _, _, _, _, _, _, _, _] _
  refine g_op (v := Value.pointer (some ⟨b2, 0, none⟩)) rfl rfl rfl ?_
  show G _ _ _ _ [_, _, _, _, _, _, _, _, _, _] _
  refine g_op (v := Value.pointer (some ⟨b2, 0, none⟩)) rfl rfl rfl ?_
  show G _ _ _ _ [_, _, _, _, _, _, _, _, _, _] _
  refine s_load1 rfl rfl (v := Value.int .i8 a1.f_Things) rfl rfl (fun _ => rfl) (cells_load (hs.box hp0) 0 1 rfl) ?_
  show G _ _ _ _ [_, _, _, _, _, _, _, _, _, _] _
  refine g_op (v := Value.int .u64 (u64w a1.f_Things)) rfl rfl rfl ?_
  show G _ _ _ _ [_, _, _, _, _, _, _, _, _, _] _
  obtain ⟨g1, H⟩ := ite_get H
  refine g_op (v := Value.int .u16 (shlI .u16 1 (u64w a1.f_Things))) rfl rfl (x_shl rfl rfl rfl g1) ?_
  show G _ _ _ _ [_, _, _, _, _, _, _, _, _, _] _
  refine g_op (v := Value.int .u16 (u16w ((shlI .u16 1 (u64w a1.f_Things)) - 1))) rfl rfl rfl ?_
  show G _ _ _ _ [_, _, _, _, _, _, _, _, _, _] _
  refine g_op (v := Value.int .u16 (u16w ((shlI .u16 1 (u64w a1.f_Things)) - 1))) rfl rfl rfl ?_
  show G _ _ _ _ [_, _, _, _, _, _, _, _, _, _] _
  refine g_ops_nil ?_
  obtain rfl := Option.some.inj H
  refine g_ret Tryd.func50 (v := Value.int .u16 (u16w ((shlI .u16 1 (u64w a1.f_Things)) - 1))) (res1 rfl rfl) ?_
  have hs : St _ [] _ := St.take (Γ' := []) hs
  exact ⟨_, rfl, rfl, hs⟩

/- function 51 spec_l05Size -/
def spec_l05Size.post (w0 : World) (r : Int) (v : Value) (w : World) : Prop := v = Value.int .i64 r ∧ St w0 [] w
set_option maxHeartbeats 8000000 in
set_option maxRecDepth 100000 in
theorem spec_l05Size.calls {N : Nat} {a1 : Int} {w0 : World} {r : Int} (H : spec_l05Size.f N a1 = some r) :
    Calls Tryd.prog 51 #[Value.int .u16 a1] w0 fun e w => ∃ v, e = .returned v ∧ spec_l05Size.post w0 r v w := by
  unfold spec_l05Size.f at H
  have hs : St w0 [] w0 := St.refl w0
  refine calls_of_g (n := 13) Tryd.func51 rfl rfl ?_
  show G _ _ _ _ [_, _, _, _, _, _, _, _, _, _, _, _, _, _] _
  refine g_seq ?_
  refine g_region ?_
  show G _ _ _ (.inRegion _ [0] :: _) _ _
  refine g_op (v := Value.int .i64 0) rfl rfl rfl ?_
  show G _ _ _ _ [_, _, _, _, _, _, _, _, _, _, _, _, _, _] _
  refine g_ops_nil ?_
  refine g_seq ?_
  refine g_region ?_
  show G _ _ _ (.inRegion _ [0] :: _) _ _
  refine g_op (v := Value.int .i64 0) rfl rfl rfl ?_
  show G _ _ _ _ [_, _, _, _, _, _, _, _, _, _, _, _, _, _] _
  refine g_ops_nil ?_
  refine g_seq ?_
  obtain ⟨o1_, Ho, Hr1_⟩ := bind_get H
  refine g_block_join (J := fun t w => ∃ x4 : Int, spec_l05Size.a0 N x4 = some r ∧ Fr t (fun O => ([O 0, O 1, O 2, Value.int .i64 x4, O 4, O 5, O 6, O 7, O 8, O 9, O 10, O 11, O 12, O 13] : List Value)) ∧ St w0 [] w) ?_ ?_
  ·
   rintro t w ⟨x4, H, hf, hs⟩
   obtain ⟨O, rfl⟩ := hf.open
   show G _ _ _ _ [_, _, _, _, _, _, _, _, _, _, _, _, _, _] _
   unfold spec_l05Size.a0 at H
   refine g_seq ?_
   refine g_region ?_
   show G _ _ _ (.inRegion _ [0, 1] :: _) _ _
   refine g_op (v := Value.int .i64 x4) rfl rfl rfl ?_
   show G _ _ _ _ [_, _, _, _, _, _, _, _, _, _, _, _, _, _] _
   refine g_op (v := Value.int .i64 x4) rfl rfl rfl ?_
   show G _ _ _ _ [_, _, _, _, _, _, _, _, _, _, _, _, _, _] _
   refine g_ops_nil ?_
   obtain rfl := Option.some.inj H
   refine g_ret Tryd.func51 (v := Value.int .i64 x4) (res1 rfl rfl) ?_
   have hs : St _ [] _ := St.take (Γ' := []) hs
   exact ⟨_, rfl, rfl, hs⟩
  ·
   intro ha1_
   have hs : St _ [] _ := St.take (Γ' := []) hs
   refine g_loop_fuel (I := fun n_ t w => ∃ x2 : Int, ∃ x3 : Int, rounds (fun s => spec_l05Size.b0 N s.1 s.2) n_ (x2, x3) = some o1_ ∧ Fr t (fun O => ([Value.int .u16 x2, O 1, O 2, Value.int .i64 x3, O 4, O 5, O 6, O 7, O 8, O 9, O 10, O 11, O 12, O 13] : List Value)) ∧ St w0 [] w) N ⟨a1, 0, Ho, rfl, hs⟩ ?_ ?_
   ·
    rintro _ _ ⟨x2, x3, h, _⟩
    exact rounds_zero h
   ·
    intro n_ ih1_
    rintro t w ⟨x2, x3, Ho, hf, hs⟩
    obtain ⟨O, rfl⟩ := hf.open
    show G _ _ _ _ [_, _, _, _, _, _, _, _, _, _, _, _, _, _] _
    obtain ⟨x1_, H, Hx1_⟩ := rounds_succ Ho
    have H : spec_l05Size.b0 N x2 x3 = some x1_ := H
    unfold spec_l05Size.b0 at H
    refine g_seq ?_
    refine g_seq ?_
    refine g_region ?_
    show G _ _ _ (.inRegion _ [0, 1] :: _) _ _
    refine g_op (v := Value.int .u16 x2) rfl rfl rfl ?_
    show G _ _ _ _ [_, _, _, _, _, _, _, _, _, _, _, _, _, _] _
    refine g_op_b (B := decide (x2 > 0)) rfl rfl rfl ?_ ?_
    ·
     intro hb
     rw [if_pos (b_dec_t hb)] at H
     show G _ _ _ _ [_, _, _, _, _, _, _, _, _, _, _, _, _, _] _
     refine g_ops_nil ?_
     refine g_cond_true rfl ?_
     refine g_skip ?_
     refine g_seq ?_
     refine g_block ?_
     refine g_region ?_
     show G _ _ _ (.inRegion _ [0, 1, 2, 3, 4, 5] :: _) _ _
     refine g_op (v := Value.int .i64 x3) rfl rfl rfl ?_
     show G _ _ _ _ [_, _, _, _, _, _, _, _, _, _, _, _, _, _] _
     refine g_op (v := Value.int .u16 x2) rfl rfl rfl ?_
     show G _ _ _ _ [_, _, _, _, _, _, _, _, _, _, _, _, _, _] _
     refine g_op (v := Value.int .u16 (x2.tmod 2)) rfl rfl rfl ?_
     show G _ _ _ _ [_, _, _, _, _, _, _, _, _, _, _, _, _, _] _
     refine g_op (v := Value.int .i64 (i64w (x2.tmod 2))) rfl rfl rfl ?_
     show G _ _ _ _ [_, _, _, _, _, _, _, _, _, _, _, _, _, _] _
     refine g_op (v := Value.int .i64 (i64w (x3 + (i64w (x2.tmod 2))))) rfl rfl rfl ?_
     show G _ _ _ _ [_, _, _, _, _, _, _, _, _, _, _, _, _, _] _
     refine g_op (v := Value.int .i64 (i64w (x3 + (i64w (x2.tmod 2))))) rfl rfl rfl ?_
     show G _ _ _ _ [_, _, _, _, _, _, _, _, _, _, _, _, _, _] _
     refine g_ops_nil ?_
     refine g_inBlock ?_
     refine g_region ?_
     show G _ _ _ (.inRegion _ [0, 1, 2] :: _) _ _
     refine g_op (v := Value.int .u16 x2) rfl rfl rfl ?_
     show G _ _ _ _ [_, _, _, _, _, _, _, _, _, _, _, _, _, _] _
     refine g_op (v := Value.int .u16 (u16w (x2.tdiv 2))) rfl rfl rfl ?_
     show G _ _ _ _ [_, _, _, _, _, _, _, _, _, _, _, _, _, _] _
     refine g_op (v := Value.int .u16 (u16w (x2.tdiv 2))) rfl rfl rfl ?_
     show G _ _ _ _ [_, _, _, _, _, _, _, _, _, _, _, _, _, _] _
     refine g_ops_nil ?_
     obtain rfl := Option.some.inj H
     have hs : St _ [] _ := St.take (Γ' := []) hs
     exact ih1_ _ _ ⟨u16w (x2.tdiv 2), i64w (x3 + (i64w (x2.tmod 2))), Hx1_, rfl, hs⟩
    ·
     intro hb
     rw [if_neg (b_dec_f hb)] at H
     show G _ _ _ _ [_, _, _, _, _, _, _, _, _, _, _, _, _, _] _
     refine g_ops_nil ?_
     refine g_cond_false rfl ?_
     obtain rfl := Option.some.inj H
     subst Hx1_
     have hs : St _ [] _ := St.take (Γ' := []) hs
     refine g_exit rfl ?_
     exact ha1_ _ _ ⟨x3, Hr1_, rfl, hs⟩

end Go.Proofs.YtffjpapmmiennaaDoorX
