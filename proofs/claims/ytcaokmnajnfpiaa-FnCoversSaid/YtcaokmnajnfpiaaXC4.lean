/- Contracts, printed by gen.py. -/
import Derived.Test.YtcaokmnajnfpiaaXT
import Derived.Test.YtcaokmnajnfpiaaProg
import Derived.Test.YtcaokmnajnfpiaaXRowR
import Derived.Test.YtcaokmnajnfpiaaXSq
import Derived.Test.YtcaokmnajnfpiaaXSeg
import Derived.Test.YtcaokmnajnfpiaaXKey
import Derived.Test.YtcaokmnajnfpiaaXC0
import Derived.Test.YtcaokmnajnfpiaaXC2
import Derived.Test.YtcaokmnajnfpiaaXC3
namespace Go.Proofs.YtcaokmnajnfpiaaX
open Go Go.RowKit Go.Proofs
set_option linter.unusedVariables false
set_option linter.unusedSimpArgs false
/- function 58 _impl_Ferry_loads -/
def _impl_Ferry_loads.post (w0 : World) (r : (List Int)) (v : Value) (w : World) : Prop := St w0 [Row 31 (K.int .u16) v r] w
set_option maxHeartbeats 8000000 in
set_option maxRecDepth 100000 in
theorem _impl_Ferry_loads.calls {N : Nat} {a1 : S_impl_Ferry} {a4 : S_impl_Bank} {v2 : Value} {w0 : World} {r : (List Int)} (hr3 : RdRow (K.int .u16) w0 v2 a1.f_Rules) (H : _impl_Ferry_loads.f N a1 a4 = some r) :
    Calls Try.prog 58 #[Value.agg (([Value.int .i8 a1.f_Things, Value.int .i8 a1.f_Boat, v2] : List Value)).toArray, Value.agg (enc_S_impl_Bank a4).toArray] w0 fun e w => ∃ v, e = .returned v ∧ _impl_Ferry_loads.post w0 r v w := by
  unfold _impl_Ferry_loads.f at H
  have hs : St w0 [] w0 := St.refl w0
  refine calls_of_g (n := 23) Try.func58 rfl rfl ?_
  show G _ _ _ _ [_,_,_,_,_,_,_,_,_,_,_,_,_,_,_,_,_,_,_,_,_,_,_,_,_] _
  refine g_seq (g_region ?_)
  show G _ _ _ (.inRegion _ [0, 1, 2] :: _) _ _
  refine s_box hs rfl rfl (cs := (([Value.int .i8 a1.f_Things, Value.int .i8 a1.f_Boat, v2] : List Value))) rfl rfl ?_
  intro b5 w hs
  show G _ _ _ _ [_,_,_,_,_,_,_,_,_,_,_,_,_,_,_,_,_,_,_,_,_,_,_,_,_] _
  refine s_box hs rfl rfl (cs := (enc_S_impl_Bank a4)) rfl rfl ?_
  intro b7 w hs
  show G _ _ _ _ [_,_,_,_,_,_,_,_,_,_,_,_,_,_,_,_,_,_,_,_,_,_,_,_,_] _
  refine g_op (v := Value.slice none 0 0) rfl rfl rfl ?_
  show G _ _ _ _ [_,_,_,_,_,_,_,_,_,_,_,_,_,_,_,_,_,_,_,_,_,_,_,_,_] _
  refine g_ops_nil (g_seq (g_region ?_))
  show G _ _ _ (.inRegion _ [0, 1] :: _) _ _
  refine s_lit0 (κ := (K.int .u16)) hs rfl rfl rfl rfl (fun _ => rfl) ?_
  intro v9 w hs
  show G _ _ _ _ [_,_,_,_,_,_,_,_,_,_,_,_,_,_,_,_,_,_,_,_,_,_,_,_,_] _
  refine g_op (v := v9) rfl rfl rfl ?_
  show G _ _ _ _ [_,_,_,_,_,_,_,_,_,_,_,_,_,_,_,_,_,_,_,_,_,_,_,_,_] _
  refine g_ops_nil (g_seq (g_seq (g_region ?_)))
  show G _ _ _ (.inRegion _ [0, 1, 2, 3] :: _) _ _
  refine s_loadA rfl rfl (es := (([Value.int .i8 a1.f_Things, Value.int .i8 a1.f_Boat, v2] : List Value))) rfl rfl (fun _ => rfl) (n := 3) (fun _ => rfl) rfl (cells_all (hs.cells 2 rfl)) ?_
  show G _ _ _ _ [_,_,_,_,_,_,_,_,_,_,_,_,_,_,_,_,_,_,_,_,_,_,_,_,_] _
  obtain ⟨r11, Hr11, H⟩ := bind_get H
  refine s_call (args := [Value.agg (([Value.int .i8 a1.f_Things, Value.int .i8 a1.f_Boat, v2] : List Value)).toArray]) rfl rfl (x_call rfl (callFunc_enter Try.func27 rfl rfl) rfl) (_impl_Ferry_all.calls (a1 := (⟨a1.f_Things, a1.f_Boat, a1.f_Rules⟩ : S_impl_Ferry)) (hs.rd hr3) Hr11) ?_
  rintro _ w ⟨rfl, hs2⟩
  have hs : St _ [_,_,_] _ := hs.call hs2
  show G _ _ _ _ [_,_,_,_,_,_,_,_,_,_,_,_,_,_,_,_,_,_,_,_,_,_,_,_,_] _
  refine g_op (v := Value.int .u16 (u16w (r11 + 1))) rfl rfl rfl ?_
  show G _ _ _ _ [_,_,_,_,_,_,_,_,_,_,_,_,_,_,_,_,_,_,_,_,_,_,_,_,_] _
  refine g_op (v := Value.int .u16 0) rfl rfl rfl ?_
  show G _ _ _ _ [_,_,_,_,_,_,_,_,_,_,_,_,_,_,_,_,_,_,_,_,_,_,_,_,_] _
  refine g_ops_nil ?_
  obtain ⟨o1_, Ho, Hr1_⟩ := bind_get H
  refine g_block_join (J := fun t w => ∃ v24 : Value, ∃ x25 : (List Int), _impl_Ferry_loads.a0 N x25 = some r ∧ Fr t (fun O => ([O 0, O 1, O 2, O 3, O 4, v24, O 6, O 7, O 8, O 9, O 10, O 11, O 12, O 13, O 14, O 15, O 16, O 17, O 18, O 19, O 20, O 21, O 22, O 23, O 24] : List Value)) ∧ St w0 [Row 31 (K.int .u16) v24 x25] w) ?_ ?_
  ·
   rintro t w ⟨v24, x25, H, hf, hs⟩
   obtain ⟨O, rfl⟩ := hf.open
   show G _ _ _ _ [_,_,_,_,_,_,_,_,_,_,_,_,_,_,_,_,_,_,_,_,_,_,_,_,_] _
   unfold _impl_Ferry_loads.a0 at H
   refine g_seq (g_region ?_)
   show G _ _ _ (.inRegion _ [0, 1] :: _) _ _
   refine g_op (v := v24) rfl rfl rfl ?_
   show G _ _ _ _ [_,_,_,_,_,_,_,_,_,_,_,_,_,_,_,_,_,_,_,_,_,_,_,_,_] _
   refine g_op (v := v24) rfl rfl rfl ?_
   show G _ _ _ _ [_,_,_,_,_,_,_,_,_,_,_,_,_,_,_,_,_,_,_,_,_,_,_,_,_] _
   refine g_ops_nil ?_
   obtain rfl := Option.some.inj H
   refine g_ret Try.func58 (v := v24) (res1 rfl rfl) ?_
   have hs := hs.pull 0 rfl
   have hs : St _ [_] _ := St.take (Γ' := []) hs
   exact ⟨_, rfl, hs⟩
  intro ha1_
  have hs := hs.pull 0 rfl
  have hs := hs.pull 1 rfl
  have hs := hs.pull 2 rfl
  have hs : St _ [_,_,_] _ := St.take (Γ' := []) hs
  refine g_loop_fuel (I := fun n_ t w => ∃ v13 : Value, ∃ x14 : (List Int), ∃ x15 : Int, rounds (fun s => _impl_Ferry_loads.b0 N r11 a1 a4 s.1 s.2) n_ (x14, x15) = some o1_ ∧ Fr t (fun O => ([O 0, O 1, Value.pointer (some ⟨b5, 0, none⟩), Value.pointer (some ⟨b7, 0, none⟩), O 4, v13, O 6, O 7, O 8, O 9, Value.int .u16 (u16w (r11 + 1)), Value.int .u16 x15, O 12, O 13, O 14, O 15, O 16, O 17, O 18, O 19, O 20, O 21, O 22, O 23, O 24] : List Value)) ∧ St w0 [Cells b5 (([Value.int .i8 a1.f_Things, Value.int .i8 a1.f_Boat, v2] : List Value)) 27, Cells b7 (enc_S_impl_Bank a4) 70, Row 31 (K.int .u16) v13 x14] w) N ⟨v9, ([] : List Int), 0, Ho, rfl, hs⟩ ?_ ?_
  ·
   rintro _ _ ⟨v13, x14, x15, h, _⟩
   exact rounds_zero h
  intro n_ ih1_
  rintro t w ⟨v13, x14, x15, Ho, hf, hs⟩
  obtain ⟨O, rfl⟩ := hf.open
  show G _ _ _ _ [_,_,_,_,_,_,_,_,_,_,_,_,_,_,_,_,_,_,_,_,_,_,_,_,_] _
  obtain ⟨x1_, H, Hx1_⟩ := rounds_succ Ho
  have H : _impl_Ferry_loads.b0 N r11 a1 a4 x14 x15 = some x1_ := H
  unfold _impl_Ferry_loads.b0 at H
  refine g_seq (g_region ?_)
  show G _ _ _ (.inRegion _ [0] :: _) _ _
  refine g_op_b (B := decide (x15 < (u16w (r11 + 1)))) rfl rfl rfl ?_ ?_
  ·
   intro hb
   rw [if_pos (b_dec_t hb)] at H
   show G _ _ _ _ [_,_,_,_,_,_,_,_,_,_,_,_,_,_,_,_,_,_,_,_,_,_,_,_,_] _
   refine g_ops_nil (g_seq (g_cond_true rfl (g_skip (g_seq ?_))))
   refine g_block_join (J := (fun t w => ∃ v21 : Value, ∃ x22 : (List Int), _impl_Ferry_loads.j2 N x15 x22 = some x1_ ∧ Fr t (fun O => ([O 0, O 1, Value.pointer (some ⟨b5, 0, none⟩), Value.pointer (some ⟨b7, 0, none⟩), O 4, v21, O 6, O 7, O 8, O 9, Value.int .u16 (u16w (r11 + 1)), Value.int .u16 x15, O 12, O 13, O 14, O 15, O 16, O 17, O 18, O 19, O 20, O 21, O 22, O 23, O 24] : List Value)) ∧ St w0 [Cells b5 (([Value.int .i8 a1.f_Things, Value.int .i8 a1.f_Boat, v2] : List Value)) 27, Cells b7 (enc_S_impl_Bank a4) 70, Row 31 (K.int .u16) v21 x22] w)) ?_ ?_
   ·
    rintro t w ⟨v21, x22, H, hf, hs⟩
    obtain ⟨O, rfl⟩ := hf.open
    show G _ _ _ _ [_,_,_,_,_,_,_,_,_,_,_,_,_,_,_,_,_,_,_,_,_,_,_,_,_] _
    unfold _impl_Ferry_loads.j2 at H
    refine g_region ?_
    show G _ _ _ (.inRegion _ [0, 1] :: _) _ _
    refine g_op (v := Value.int .u16 (u16w (x15 + 1))) rfl rfl rfl ?_
    show G _ _ _ _ [_,_,_,_,_,_,_,_,_,_,_,_,_,_,_,_,_,_,_,_,_,_,_,_,_] _
    refine g_op (v := Value.int .u16 (u16w (x15 + 1))) rfl rfl rfl ?_
    show G _ _ _ _ [_,_,_,_,_,_,_,_,_,_,_,_,_,_,_,_,_,_,_,_,_,_,_,_,_] _
    refine g_ops_nil ?_
    obtain rfl := Option.some.inj H
    have hs := hs.pull 2 rfl
    have hs := hs.pull 2 rfl
    have hs := hs.pull 2 rfl
    have hs : St _ [_,_,_] _ := St.take (Γ' := []) hs
    exact ih1_ _ _ ⟨v21, x22, u16w (x15 + 1), Hx1_, rfl, hs⟩
   intro ha
   refine g_seq (g_region ?_)
   show G _ _ _ (.inRegion _ [0, 1] :: _) _ _
   refine g_op (v := Value.int .u16 x15) rfl rfl rfl ?_
   show G _ _ _ _ [_,_,_,_,_,_,_,_,_,_,_,_,_,_,_,_,_,_,_,_,_,_,_,_,_] _
   refine g_op (v := Value.int .u16 x15) rfl rfl rfl ?_
   show G _ _ _ _ [_,_,_,_,_,_,_,_,_,_,_,_,_,_,_,_,_,_,_,_,_,_,_,_,_] _
   refine g_ops_nil (g_seq (g_region ?_))
   show G _ _ _ (.inRegion _ [0, 1, 2, 3, 4] :: _) _ _
   refine s_loadA rfl rfl (es := (([Value.int .i8 a1.f_Things, Value.int .i8 a1.f_Boat, v2] : List Value))) rfl rfl (fun _ => rfl) (n := 3) (fun _ => rfl) rfl (cells_all (hs.cells 0 rfl)) ?_
   show G _ _ _ _ [_,_,_,_,_,_,_,_,_,_,_,_,_,_,_,_,_,_,_,_,_,_,_,_,_] _
   refine s_loadA rfl rfl (es := (enc_S_impl_Bank a4)) rfl rfl (fun _ => rfl) (n := 2) (fun _ => rfl) (fk_S_impl_Bank.len _) (cells_all (hs.cells 1 rfl)) ?_
   show G _ _ _ _ [_,_,_,_,_,_,_,_,_,_,_,_,_,_,_,_,_,_,_,_,_,_,_,_,_] _
   refine g_op (v := Value.int .u16 x15) rfl rfl rfl ?_
   show G _ _ _ _ [_,_,_,_,_,_,_,_,_,_,_,_,_,_,_,_,_,_,_,_,_,_,_,_,_] _
   obtain ⟨r16, Hr16, H⟩ := bind_get H
   refine s_call (args := [Value.agg (([Value.int .i8 a1.f_Things, Value.int .i8 a1.f_Boat, v2] : List Value)).toArray, Value.agg (enc_S_impl_Bank a4).toArray, Value.int .u16 x15]) rfl rfl (x_call rfl (callFunc_enter Try.func65 rfl rfl) rfl) (_impl_Ferry_crossCode.calls (a1 := (⟨a1.f_Things, a1.f_Boat, a1.f_Rules⟩ : S_impl_Ferry)) (a4 := a4) (a5 := x15) (hs.rd hr3) Hr16) ?_
   rintro _ w ⟨rfl, hs2⟩
   have hs : St _ [_,_,_] _ := hs.call hs2
   show G _ _ _ _ [_,_,_,_,_,_,_,_,_,_,_,_,_,_,_,_,_,_,_,_,_,_,_,_,_] _
   refine g_op_b (B := r16 == 0) rfl rfl rfl ?_ ?_
   ·
    intro hb
    rw [if_pos (b_beq_t hb)] at H
    show G _ _ _ _ [_,_,_,_,_,_,_,_,_,_,_,_,_,_,_,_,_,_,_,_,_,_,_,_,_] _
    refine g_ops_nil (g_cond_true rfl (g_region ?_))
    show G _ _ _ (.inRegion _ [0, 1, 2, 3, 4] :: _) _ _
    refine g_op (v := v13) rfl rfl rfl ?_
    show G _ _ _ _ [_,_,_,_,_,_,_,_,_,_,_,_,_,_,_,_,_,_,_,_,_,_,_,_,_] _
    refine g_op (v := Value.int .u16 x15) rfl rfl rfl ?_
    show G _ _ _ _ [_,_,_,_,_,_,_,_,_,_,_,_,_,_,_,_,_,_,_,_,_,_,_,_,_] _
    refine s_lit1 (fkI .u16) (y := x15) hs rfl rfl rfl rfl (fun _ => rfl) (zv := (Value.int .u16 0)) (fun _ => rfl) rfl (by decide) (by decide) rfl ?_
    intro v17 w hs
    show G _ _ _ _ [_,_,_,_,_,_,_,_,_,_,_,_,_,_,_,_,_,_,_,_,_,_,_,_,_] _
    have hs := hs.pull 3 rfl
    have hs : St _ [_,_,_,_] _ := hs
    obtain ⟨g, H⟩ := ite_get H
    refine s_append (fkI .u16) (zv := (Value.int .u16 0)) (B := 2) hs (hs.row 1 rfl) rfl rfl rfl rfl rfl rfl rfl rfl rfl (by decide) rfl rfl (by decide) (by omega) ?_
    intro v19 w hs
    show G _ _ _ _ [_,_,_,_,_,_,_,_,_,_,_,_,_,_,_,_,_,_,_,_,_,_,_,_,_] _
    refine g_op (v := v19) rfl rfl rfl ?_
    show G _ _ _ _ [_,_,_,_,_,_,_,_,_,_,_,_,_,_,_,_,_,_,_,_,_,_,_,_,_] _
    refine g_ops_nil ?_
    refine g_inBlock ?_
    have hs := hs.pull 0 rfl
    have hs := hs.pull 3 rfl
    have hs := hs.pull 3 rfl
    have hs : St _ [_,_,_] _ := St.take (Γ' := [_]) hs
    exact ha _ _ ⟨v19, x14 ++ ([x15]), H, rfl, hs⟩
   intro hb
   rw [if_neg (b_beq_f hb)] at H
   show G _ _ _ _ [_,_,_,_,_,_,_,_,_,_,_,_,_,_,_,_,_,_,_,_,_,_,_,_,_] _
   refine g_ops_nil (g_cond_false rfl (g_skip ?_))
   refine g_inBlock ?_
   have hs := hs.pull 2 rfl
   have hs := hs.pull 2 rfl
   have hs := hs.pull 2 rfl
   have hs : St _ [_,_,_] _ := St.take (Γ' := []) hs
   exact ha _ _ ⟨v13, x14, H, rfl, hs⟩
  intro hb
  rw [if_neg (b_dec_f hb)] at H
  show G _ _ _ _ [_,_,_,_,_,_,_,_,_,_,_,_,_,_,_,_,_,_,_,_,_,_,_,_,_] _
  refine g_ops_nil (g_seq (g_cond_false rfl ?_))
  obtain rfl := Option.some.inj H
  subst Hx1_
  have hs := hs.pull 2 rfl
  have hs : St _ [_] _ := St.take (Γ' := [_,_]) hs
  refine g_exit rfl ?_
  exact ha1_ _ _ ⟨v13, x14, Hr1_, rfl, hs⟩

/- function 35 _impl_Ferry_search -/
def _impl_Ferry_search.post (w0 : World) (r : (List S_impl_crossing)) (v : Value) (w : World) : Prop := St w0 [Row 72 k_S_impl_crossing v r] w
set_option maxHeartbeats 8000000 in
set_option maxRecDepth 100000 in
theorem _impl_Ferry_search.calls {N : Nat} {a1 : S_impl_Ferry} {v2 : Value} {w0 : World} {r : (List S_impl_crossing)} (hr3 : RdRow (K.int .u16) w0 v2 a1.f_Rules) (H : _impl_Ferry_search.f N a1 = some r) :
    Calls Try.prog 35 #[Value.agg (([Value.int .i8 a1.f_Things, Value.int .i8 a1.f_Boat, v2] : List Value)).toArray] w0 fun e w => ∃ v, e = .returned v ∧ _impl_Ferry_search.post w0 r v w := by
  unfold _impl_Ferry_search.f at H
  have hs : St w0 [] w0 := St.refl w0
  refine calls_of_g (n := 64) Try.func35 rfl rfl ?_
  show G _ _ _ _ (_::_::_::_::_::_::_::_::_::_::_::_::_::_::_::_::_::_::_::_::_::_::_::_::_::_::_::_::_::_::_::_::_::_::_::_::_::_::_::_::_::_::_::_::_::_::_::_::_::_::_::_::_::_::_::_::_::_::_::_::_::_::_::_::_::[]) _
  refine g_seq (g_region ?_)
  show G _ _ _ (.inRegion _ [0, 1] :: _) _ _
  refine s_box hs rfl rfl (cs := (([Value.int .i8 a1.f_Things, Value.int .i8 a1.f_Boat, v2] : List Value))) rfl rfl ?_
  intro b4 w hs
  refine g_d rfl ?_
  try dsimp only [set0,setS]
  refine g_op (v := Value.slice none 0 0) rfl rfl rfl (g_d rfl ?_)
  try dsimp only [set0,setS]
  refine g_ops_nil (g_seq (g_region ?_))
  show G _ _ _ (.inRegion _ [0, 1, 2, 3, 4] :: _) _ _
  refine s_loadA rfl rfl (es := (([Value.int .i8 a1.f_Things, Value.int .i8 a1.f_Boat, v2] : List Value))) rfl rfl (fun _ => rfl) (n := 3) (fun _ => rfl) rfl (cells_all (hs.cells 0 rfl)) (g_d rfl ?_)
  try dsimp only [set0,setS]
  obtain ⟨r6, Hr6, H⟩ := bind_get H
  refine s_call (args := [Value.agg (([Value.int .i8 a1.f_Things, Value.int .i8 a1.f_Boat, v2] : List Value)).toArray]) rfl rfl (x_call rfl (callFunc_enter Try.func27 rfl rfl) rfl) (_impl_Ferry_all.calls (a1 := (⟨a1.f_Things, a1.f_Boat, a1.f_Rules⟩ : S_impl_Ferry)) (hs.rd hr3) Hr6) ?_
  rintro _ w ⟨rfl, hs2⟩
  have hs : St _ [_] _ := hs.call hs2
  refine g_d rfl ?_
  try dsimp only [set0,setS]
  refine g_op (v := Value.agg (enc_S_impl_Bank (⟨r6, false⟩ : S_impl_Bank)).toArray) rfl rfl (x_buildS (cs := (enc_S_impl_Bank (⟨r6, false⟩ : S_impl_Bank))) (segs := [[Value.int .u16 0], [Value.bool false]]) rfl rfl (fun _ => rfl) ⟨rfl, (fun _ => rfl), rfl, (fun _ => rfl), trivial⟩ (by simp only [List.map_cons, List.map_nil, List.forall_mem_cons, List.not_mem_nil, false_implies, implies_true, and_true]; exact ⟨_, rfl, rfl⟩) (by first | rfl | (simp [ev, enc_S_impl_Bank]; done) | (simp [ev, enc_S_impl_Bank]; rfl))) ?_
  refine g_d rfl ?_
  try dsimp only [set0,setS]
  refine s_alloc hs rfl rfl (z := (Value.agg #[Value.int .u16 0, Value.bool false])) (cs := (enc_S_impl_Bank z_S_impl_Bank)) rfl (fun _ => rfl) rfl ?_
  intro b7 w hs
  refine g_d rfl ?_
  try dsimp only [set0,setS]
  refine s_storeAll (n := 2) hs (fk_S_impl_Bank.len _) rfl rfl (vs := (enc_S_impl_Bank (⟨r6, false⟩ : S_impl_Bank))) rfl rfl rfl (fun _ => rfl) (fk_S_impl_Bank.len _) (fk_S_impl_Bank.one _) ?_
  intro w hs
  refine g_n rfl (g_ops_nil (g_seq ?_))
  refine g_name ?_
  intro T hT
  refine g_any (n := 9) rfl [0, 1, 2, 3, 4, 5, 6, 7, 8] [0, 1, 2, 3, 5, 6, 7, 4, 8] rfl rfl (Inv := fun D t w => ∃ v9 : Value, ∃ b11 : Nat, ∃ O : Nat → Value, t = (Value.agg (([Value.int .i8 a1.f_Things, Value.int .i8 a1.f_Boat, v2] : List Value)).toArray::Value.pointer (some ⟨b4, 0, none⟩)::Value.slice none 0 0::Value.pointer (some ⟨b7, 0, none⟩)::cnd (D 7) v9 (O 4)::cnd (D 8) (Value.map (some b11)) (O 5)::O 6::O 7::O 8::O 9::Value.agg (([Value.int .i8 a1.f_Things, Value.int .i8 a1.f_Boat, v2] : List Value)).toArray::Value.int .u16 r6::Value.agg (enc_S_impl_Bank (⟨r6, false⟩ : S_impl_Bank)).toArray::cnd (D 0) (Value.agg (enc_S_impl_Bank (⟨r6, false⟩ : S_impl_Bank)).toArray) (O 13)::cnd (D 1) (Value.agg (enc_S_impl_crossing (⟨(⟨r6, false⟩ : S_impl_Bank), (-1), 0, 0⟩ : S_impl_crossing)).toArray) (O 14)::cnd (D 2) v9 (O 15)::cnd (D 3) (Value.map (some b11)) (O 16)::cnd (D 4) (Value.agg (enc_S_impl_Bank (⟨r6, false⟩ : S_impl_Bank)).toArray) (O 17)::cnd (D 6) (Value.map (some b11)) (O 18)::O 19::O 20::O 21::O 22::O 23::O 24::O 25::O 26::O 27::O 28::O 29::O 30::O 31::O 32::O 33::O 34::O 35::O 36::O 37::O 38::O 39::O 40::O 41::O 42::O 43::O 44::O 45::O 46::O 47::O 48::O 49::O 50::O 51::O 52::O 53::O 54::O 55::O 56::O 57::O 58::O 59::O 60::O 61::O 62::O 63::O 64::[]) ∧ St w0 [Asc (D 2) (Row 72 k_S_impl_crossing v9 ([(⟨(⟨r6, false⟩ : S_impl_Bank), (-1), 0, 0⟩ : S_impl_crossing)])), Asc (D 3) (MapAs b11 ek_S_impl_Bank Value.bool (cnd (D 5) (mSet ([] : (List (S_impl_Bank × Bool))) (⟨r6, false⟩ : S_impl_Bank) true) ([] : (List (S_impl_Bank × Bool))))), Cells b7 (enc_S_impl_Bank (⟨r6, false⟩ : S_impl_Bank)) 70, Cells b4 (([Value.int .i8 a1.f_Things, Value.int .i8 a1.f_Boat, v2] : List Value)) 27] w) ?_ ⟨⟨⟨⟨⟨⟨⟨⟨⟨trivial, ?_⟩, ?_⟩, ?_⟩, ?_⟩, ?_⟩, ?_⟩, ?_⟩, ?_⟩, ?_⟩ ?_
  ·
   intro w hh hbw
   have hs := hs.samew hh hbw
   have hs := hs.emp
   have hs := hs.emp
   exact ⟨undef, 0, fun i => T.getD i undef, (by subst hT; rfl), hs⟩
  ·
   intro D t w hD hp hcl hI rest hk
   obtain ⟨v9, b11, O, ht, hs⟩ := hI
   have q1_ := nz hcl 1 0 hD
   have q2_ := nz hcl 2 0 q1_
   have q7_ := nz hcl 7 0 q2_
   have q8_ := nz hcl 8 1 q7_
   simp only [hD, q1_, q2_, q7_, q8_, cq] at ht hs
   subst ht
   refine s_loadA rfl rfl (es := (enc_S_impl_Bank (⟨r6, false⟩ : S_impl_Bank))) rfl rfl (fun _ => rfl) (n := 2) (fun _ => rfl) (fk_S_impl_Bank.len _) (cells_all (hs.cells 2 rfl)) (g_d rfl ?_)
   try dsimp only [set0,setS]
   refine hk _ _ ⟨v9, b11, O, ?_, hs.cast ?_⟩ <;> simp only [lq, cq, Nat.reduceBEq, q1_, q2_, q7_, q8_]
  ·
   intro D t w hD hp hcl hI rest hk
   obtain ⟨v9, b11, O, ht, hs⟩ := hI
   obtain ⟨p0_, _⟩ := hp
   have q2_ := nz hcl 2 0 hD
   have q7_ := nz hcl 7 0 q2_
   have q8_ := nz hcl 8 1 q7_
   simp only [hD, p0_, q2_, q7_, q8_, cq] at ht hs
   subst ht
   refine g_op (v := Value.agg (enc_S_impl_crossing (⟨(⟨r6, false⟩ : S_impl_Bank), (-1), 0, 0⟩ : S_impl_crossing)).toArray) rfl rfl (x_buildS (cs := (enc_S_impl_crossing (⟨(⟨r6, false⟩ : S_impl_Bank), (-1), 0, 0⟩ : S_impl_crossing))) (segs := [[Value.int .u16 0, Value.bool false], [Value.int .i64 0], [Value.int .u16 0], [Value.int .i64 0]]) rfl rfl (fun _ => rfl) ⟨rfl, (fun _ => rfl), rfl, (fun _ => rfl), rfl, (fun _ => rfl), rfl, (fun _ => rfl), trivial⟩ (by simp only [List.map_cons, List.map_nil, List.forall_mem_cons, List.not_mem_nil, false_implies, implies_true, and_true]; exact ⟨⟨_, rfl, fk_S_impl_Bank.len _⟩, ⟨_, rfl, rfl⟩⟩) (by first | rfl | (simp [ev, enc_S_impl_crossing]; done) | (simp [ev, enc_S_impl_crossing]; rfl))) ?_
   refine g_d rfl ?_
   try dsimp only [set0,setS]
   refine hk _ _ ⟨v9, b11, O, ?_, hs.cast ?_⟩ <;> simp only [lq, cq, Nat.reduceBEq, p0_, q2_, q7_, q8_]
  ·
   intro D t w hD hp hcl hI rest hk
   obtain ⟨v9, b11, O, ht, hs⟩ := hI
   obtain ⟨p1_, _⟩ := hp
   obtain ⟨p0_, _⟩ := (hcl.get 1 (by decide)) p1_
   have q7_ := nz hcl 7 0 hD
   have q8_ := nz hcl 8 1 q7_
   simp only [hD, p0_, p1_, q7_, q8_, cq] at ht hs
   subst ht
   refine s_lit1 fk_S_impl_crossing (y := (⟨(⟨r6, false⟩ : S_impl_Bank), (-1), 0, 0⟩ : S_impl_crossing)) hs rfl rfl rfl rfl (fun _ => rfl) (zv := (Value.agg #[Value.int .u16 0, Value.bool false, Value.int .i64 0, Value.int .u16 0, Value.int .i64 0])) (fun _ => rfl) rfl (by decide) (by decide) rfl ?_
   intro v9 w hs
   refine g_d rfl ?_
   try dsimp only [set0,setS]
   have hs := hs.fill 0 rfl
   refine hk _ _ ⟨v9, b11, O, ?_, hs.cast ?_⟩ <;> simp only [lq, cq, Nat.reduceBEq, p0_, p1_, q7_, q8_]
  ·
   intro D t w hD hp hcl hI rest hk
   obtain ⟨v9, b11, O, ht, hs⟩ := hI
   have q5_ := nz hcl 5 0 hD
   have q6_ := nz hcl 6 0 hD
   have q8_ := nz hcl 8 0 q6_
   simp only [hD, q5_, q6_, q8_, cq] at ht hs
   subst ht
   refine s_makeMap (ek := ek_S_impl_Bank) (en := Value.bool) hs rfl rfl rfl ?_
   intro b11 w hs
   refine g_d rfl ?_
   try dsimp only [set0,setS]
   have hs := hs.fill 1 rfl
   refine hk _ _ ⟨v9, b11, O, ?_, hs.cast ?_⟩ <;> simp only [lq, cq, Nat.reduceBEq, q5_, q6_, q8_]
  ·
   intro D t w hD hp hcl hI rest hk
   obtain ⟨v9, b11, O, ht, hs⟩ := hI
   have q5_ := nz hcl 5 1 hD
   have q6_ := nz hcl 6 1 hD
   have q8_ := nz hcl 8 0 q6_
   simp only [hD, q5_, q6_, q8_, cq] at ht hs
   subst ht
   refine s_loadA rfl rfl (es := (enc_S_impl_Bank (⟨r6, false⟩ : S_impl_Bank))) rfl rfl (fun _ => rfl) (n := 2) (fun _ => rfl) (fk_S_impl_Bank.len _) (cells_all (hs.cells 2 rfl)) (g_d rfl ?_)
   try dsimp only [set0,setS]
   refine hk _ _ ⟨v9, b11, O, ?_, hs.cast ?_⟩ <;> simp only [lq, cq, Nat.reduceBEq, q5_, q6_, q8_]
  ·
   intro D t w hD hp hcl hI rest hk
   obtain ⟨v9, b11, O, ht, hs⟩ := hI
   obtain ⟨p3_, p4_, _⟩ := hp
   have q6_ := nz hcl 6 2 hD
   have q8_ := nz hcl 8 0 q6_
   simp only [hD, p3_, p4_, q6_, q8_, cq] at ht hs
   subst ht
   have hs := hs.pull 1 rfl
   have hs : St _ [_,_,_,_] _ := hs
   refine s_mapSet key_S_impl_Bank_70 (a := (⟨r6, false⟩ : S_impl_Bank)) (v := true) hs rfl rfl (.inr rfl) Try.underlying94 rfl rfl rfl ?_
   intro w hs
   refine g_n rfl ?_
   try dsimp only [set0,setS]
   have hs := hs.push 1 (by simp)
   refine hk _ _ ⟨v9, b11, O, ?_, hs.cast ?_⟩ <;> simp only [lq, cq, Nat.reduceBEq, p3_, p4_, q6_, q8_]
  ·
   intro D t w hD hp hcl hI rest hk
   obtain ⟨v9, b11, O, ht, hs⟩ := hI
   obtain ⟨p3_, p4_, p5_, _⟩ := hp
   have q8_ := nz hcl 8 0 hD
   simp only [hD, p3_, p4_, p5_, q8_, cq] at ht hs
   subst ht
   refine g_op (v := Value.map (some b11)) rfl rfl rfl (g_d rfl ?_)
   try dsimp only [set0,setS]
   refine hk _ _ ⟨v9, b11, O, ?_, hs.cast ?_⟩ <;> simp only [lq, cq, Nat.reduceBEq, p3_, p4_, p5_, q8_]
  ·
   intro D t w hD hp hcl hI rest hk
   obtain ⟨v9, b11, O, ht, hs⟩ := hI
   obtain ⟨p2_, p0_, p1_, _, _⟩ := hp
   have q8_ := nz hcl 8 1 hD
   simp only [hD, p0_, p1_, p2_, q8_, cq] at ht hs
   subst ht
   refine g_op (v := v9) rfl rfl rfl (g_d rfl ?_)
   try dsimp only [set0,setS]
   refine hk _ _ ⟨v9, b11, O, ?_, hs.cast ?_⟩ <;> simp only [lq, cq, Nat.reduceBEq, p0_, p1_, p2_, q8_]
  ·
   intro D t w hD hp hcl hI rest hk
   obtain ⟨v9, b11, O, ht, hs⟩ := hI
   obtain ⟨p6_, p7_, p0_, p1_, p2_, p3_, p4_, p5_, _, _, _⟩ := hp
   simp only [hD, p0_, p1_, p2_, p3_, p4_, p5_, p6_, p7_, cq] at ht hs
   subst ht
   refine g_op (v := Value.map (some b11)) rfl rfl rfl (g_d rfl ?_)
   try dsimp only [set0,setS]
   refine hk _ _ ⟨v9, b11, O, ?_, hs.cast ?_⟩ <;> simp only [lq, cq, Nat.reduceBEq, p0_, p1_, p2_, p3_, p4_, p5_, p6_, p7_]
  intro D t w hall hI
  obtain ⟨v9, b11, O, ht, hs⟩ := hI
  have p0_ : D 0 = true := hall 0 (by decide)
  have p1_ : D 1 = true := hall 1 (by decide)
  have p2_ : D 2 = true := hall 2 (by decide)
  have p3_ : D 3 = true := hall 3 (by decide)
  have p4_ : D 4 = true := hall 4 (by decide)
  have p5_ : D 5 = true := hall 5 (by decide)
  have p6_ : D 6 = true := hall 6 (by decide)
  have p7_ : D 7 = true := hall 7 (by decide)
  have p8_ : D 8 = true := hall 8 (by decide)
  simp only [p0_, p1_, p2_, p3_, p4_, p5_, p6_, p7_, p8_, cq] at ht hs
  subst ht
  refine g_seq (g_seq (g_region ?_))
  show G _ _ _ (.inRegion _ [0] :: _) _ _
  refine g_op (v := Value.int .i64 0) rfl rfl rfl (g_d rfl ?_)
  try dsimp only [set0,setS]
  refine g_ops_nil ?_
  obtain ⟨o1_, Ho, Hr1_⟩ := bind_get H
  refine g_block_join (J := fun t w => ∃ v122 : Value, ∃ x123 : (List S_impl_crossing), _impl_Ferry_search.a0 N x123 = some r ∧ Fr t (fun O => (O 0::O 1::O 2::O 3::v122::O 5::O 6::O 7::O 8::O 9::O 10::O 11::O 12::O 13::O 14::O 15::O 16::O 17::O 18::O 19::O 20::O 21::O 22::O 23::O 24::O 25::O 26::O 27::O 28::O 29::O 30::O 31::O 32::O 33::O 34::O 35::O 36::O 37::O 38::O 39::O 40::O 41::O 42::O 43::O 44::O 45::O 46::O 47::O 48::O 49::O 50::O 51::O 52::O 53::O 54::O 55::O 56::O 57::O 58::O 59::O 60::O 61::O 62::O 63::O 64::[] : List Value)) ∧ St w0 [Row 72 k_S_impl_crossing v122 x123] w) ?_ ?_
  ·
   rintro t w ⟨v122, x123, H, hf, hs⟩
   obtain ⟨O, rfl⟩ := hf.open
   try dsimp only
   unfold _impl_Ferry_search.a0 at H
   refine g_seq (g_region ?_)
   show G _ _ _ (.inRegion _ [0, 1] :: _) _ _
   refine g_op (v := v122) rfl rfl rfl (g_d rfl ?_)
   refine g_op (v := v122) rfl rfl rfl (g_d rfl ?_)
   try dsimp only [set0,setS]
   refine g_ops_nil ?_
   obtain rfl := Option.some.inj H
   refine g_ret Try.func35 (v := v122) (res1 rfl rfl) ?_
   have hs := hs.pull 0 rfl
   have hs : St _ [_] _ := St.take (Γ' := []) hs
   exact ⟨_, rfl, hs⟩
  intro ha1_
  have hs := hs.pull 1 rfl
  have hs := hs.pull 1 rfl
  have hs := hs.pull 3 rfl
  have hs : St _ [_,_,_] _ := St.take (Γ' := [_]) hs
  refine g_loop_fuel (I := fun n_ t w => ∃ v69 : Value, ∃ x70 : (List S_impl_crossing), ∃ x71 : (List (S_impl_Bank × Bool)), ∃ x72 : Int, rounds (fun s => _impl_Ferry_search.b0 N a1 s.1 s.2.1 s.2.2) n_ (x70, x71, x72) = some o1_ ∧ Fr t (fun O => (O 0::Value.pointer (some ⟨b4, 0, none⟩)::O 2::O 3::v69::Value.map (some b11)::Value.int .i64 x72::O 7::O 8::O 9::O 10::O 11::O 12::O 13::O 14::O 15::O 16::O 17::O 18::O 19::O 20::O 21::O 22::O 23::O 24::O 25::O 26::O 27::O 28::O 29::O 30::O 31::O 32::O 33::O 34::O 35::O 36::O 37::O 38::O 39::O 40::O 41::O 42::O 43::O 44::O 45::O 46::O 47::O 48::O 49::O 50::O 51::O 52::O 53::O 54::O 55::O 56::O 57::O 58::O 59::O 60::O 61::O 62::O 63::O 64::[] : List Value)) ∧ St w0 [Cells b4 (([Value.int .i8 a1.f_Things, Value.int .i8 a1.f_Boat, v2] : List Value)) 27, Row 72 k_S_impl_crossing v69 x70, MapAs b11 ek_S_impl_Bank Value.bool x71] w) N ⟨v9, [(⟨(⟨r6, false⟩ : S_impl_Bank), (-1), 0, 0⟩ : S_impl_crossing)], mSet ([] : (List (S_impl_Bank × Bool))) (⟨r6, false⟩ : S_impl_Bank) true, 0, Ho, rfl, hs⟩ ?_ ?_
  ·
   rintro _ _ ⟨v69, x70, x71, x72, h, _⟩
   exact rounds_zero h
  intro n_ ih1_
  rintro t w ⟨v69, x70, x71, x72, Ho, hf, hs⟩
  obtain ⟨O, rfl⟩ := hf.open
  try dsimp only
  obtain ⟨x23_, H, Hx1_⟩ := rounds_succ Ho
  have H : _impl_Ferry_search.b0 N a1 x70 x71 x72 = some x23_ := H
  unfold _impl_Ferry_search.b0 at H
  refine g_seq (g_seq (g_region ?_))
  show G _ _ _ (.inRegion _ [0, 1, 2, 3] :: _) _ _
  refine g_op (v := Value.int .i64 x72) rfl rfl rfl (g_d rfl ?_)
  refine g_op (v := v69) rfl rfl rfl (g_d rfl ?_)
  refine s_len (hs.row 1 rfl) rfl rfl rfl rfl rfl (g_d rfl ?_)
  try dsimp only [set0,setS]
  refine g_op_b (B := decide (x72 < (x70.length : Int))) rfl rfl rfl ?_ ?_
  ·
   intro hb
   rw [if_pos (b_dec_t hb)] at H
   refine g_d rfl ?_
   try dsimp only [set0,setS]
   refine g_ops_nil (g_cond_true rfl (g_skip (g_seq ?_)))
   refine g_block (g_seq ?_)
   obtain ⟨gd12, H⟩ := ite_get H
   obtain ⟨ad13_, ad13_N, ad13_C, had13_⟩ := sl_at (hs.row 1 rfl) gd12.1 gd12.2
   obtain ⟨r73, Hr73, H⟩ := bind_get H
   refine g_name ?_
   intro T hT
   refine g_any (n := 9) rfl [0, 1, 2, 3, 4, 5, 6, 7, 8] [0, 1, 2, 3, 4, 5, 6, 7, 8] rfl rfl (Inv := fun D t w => ∃ v74 : Value, ∃ O : Nat → Value, t = (O 0::Value.pointer (some ⟨b4, 0, none⟩)::O 2::O 3::v69::Value.map (some b11)::Value.int .i64 x72::O 7::O 8::O 9::O 10::O 11::O 12::O 13::O 14::O 15::O 16::O 17::O 18::Value.int .i64 x72::v69::Value.int .i64 (x70.length : Int)::Value.bool true::O 23::O 24::cnd (D 0) (Value.agg (([Value.int .i8 a1.f_Things, Value.int .i8 a1.f_Boat, v2] : List Value)).toArray) (O 25)::cnd (D 1) v69 (O 26)::cnd (D 2) (Value.int .i64 x72) (O 27)::cnd (D 3) (Value.pointer (some (ad13_.add (x72.toNat * 5)))) (O 28)::cnd (D 4) (Value.pointer (some ((ad13_.add (x72.toNat * 5)).add 0))) (O 29)::cnd (D 5) (Value.agg (enc_S_impl_Bank ((rdL x70 x72 z_S_impl_crossing).f_bank)).toArray) (O 30)::cnd (D 6) v74 (O 31)::cnd (D 7) (Value.int .i64 (r73.length : Int)) (O 32)::cnd (D 8) (Value.int .i64 0) (O 33)::O 34::O 35::O 36::O 37::O 38::O 39::O 40::O 41::O 42::O 43::O 44::O 45::O 46::O 47::O 48::O 49::O 50::O 51::O 52::O 53::O 54::O 55::O 56::O 57::O 58::O 59::O 60::O 61::O 62::O 63::O 64::[]) ∧ St w0 [Asc (D 6) (Row 31 (K.int .u16) v74 r73), Cells b4 (([Value.int .i8 a1.f_Things, Value.int .i8 a1.f_Boat, v2] : List Value)) 27, Row 72 k_S_impl_crossing v69 x70, MapAs b11 ek_S_impl_Bank Value.bool x71] w) ?_ ⟨⟨⟨⟨⟨⟨⟨⟨⟨trivial, ?_⟩, ?_⟩, ?_⟩, ?_⟩, ?_⟩, ?_⟩, ?_⟩, ?_⟩, ?_⟩ ?_
   ·
    intro w hh hbw
    have hs := hs.samew hh hbw
    have hs := hs.emp
    exact ⟨undef, fun i => T.getD i undef, (by subst hT; rfl), hs⟩
   ·
    intro D t w hD hp hcl hI rest hk
    obtain ⟨v74, O, ht, hs⟩ := hI
    have q6_ := nz hcl 6 0 hD
    have q7_ := nz hcl 7 0 q6_
    simp only [hD, q6_, q7_, cq] at ht hs
    subst ht
    refine s_loadA rfl rfl (es := (([Value.int .i8 a1.f_Things, Value.int .i8 a1.f_Boat, v2] : List Value))) rfl rfl (fun _ => rfl) (n := 3) (fun _ => rfl) rfl (cells_all (hs.cells 1 rfl)) (g_d rfl ?_)
    try dsimp only [set0,setS]
    refine hk _ _ ⟨v74, O, ?_, hs.cast ?_⟩ <;> simp only [lq, cq, Nat.reduceBEq, q6_, q7_]
   ·
    intro D t w hD hp hcl hI rest hk
    obtain ⟨v74, O, ht, hs⟩ := hI
    have q3_ := nz hcl 3 0 hD
    have q4_ := nz hcl 4 0 q3_
    have q5_ := nz hcl 5 0 q4_
    have q6_ := nz hcl 6 1 q5_
    have q7_ := nz hcl 7 0 q6_
    simp only [hD, q3_, q4_, q5_, q6_, q7_, cq] at ht hs
    subst ht
    refine g_op (v := v69) rfl rfl rfl (g_d rfl ?_)
    try dsimp only [set0,setS]
    refine hk _ _ ⟨v74, O, ?_, hs.cast ?_⟩ <;> simp only [lq, cq, Nat.reduceBEq, q3_, q4_, q5_, q6_, q7_]
   ·
    intro D t w hD hp hcl hI rest hk
    obtain ⟨v74, O, ht, hs⟩ := hI
    have q3_ := nz hcl 3 1 hD
    have q4_ := nz hcl 4 0 q3_
    have q5_ := nz hcl 5 0 q4_
    have q6_ := nz hcl 6 1 q5_
    have q7_ := nz hcl 7 0 q6_
    simp only [hD, q3_, q4_, q5_, q6_, q7_, cq] at ht hs
    subst ht
    refine g_op (v := Value.int .i64 x72) rfl rfl rfl (g_d rfl ?_)
    try dsimp only [set0,setS]
    refine hk _ _ ⟨v74, O, ?_, hs.cast ?_⟩ <;> simp only [lq, cq, Nat.reduceBEq, q3_, q4_, q5_, q6_, q7_]
   ·
    intro D t w hD hp hcl hI rest hk
    obtain ⟨v74, O, ht, hs⟩ := hI
    obtain ⟨p1_, p2_, _⟩ := hp
    have q4_ := nz hcl 4 0 hD
    have q5_ := nz hcl 5 0 q4_
    have q6_ := nz hcl 6 1 q5_
    have q7_ := nz hcl 7 0 q6_
    simp only [hD, p1_, p2_, q4_, q5_, q6_, q7_, cq] at ht hs
    subst ht
    refine s_idxD (κ := k_S_impl_crossing) (m := 5) rfl (hs.row 2 rfl) rfl (fun _ => rfl) gd12.1 gd12.2 had13_ rfl rfl rfl rfl rfl (g_d rfl ?_)
    try dsimp only [set0,setS]
    refine hk _ _ ⟨v74, O, ?_, hs.cast ?_⟩ <;> simp only [lq, cq, Nat.reduceBEq, p1_, p2_, q4_, q5_, q6_, q7_]
   ·
    intro D t w hD hp hcl hI rest hk
    obtain ⟨v74, O, ht, hs⟩ := hI
    obtain ⟨p3_, _⟩ := hp
    obtain ⟨p1_, p2_, _⟩ := (hcl.get 3 (by decide)) p3_
    have q5_ := nz hcl 5 0 hD
    have q6_ := nz hcl 6 1 q5_
    have q7_ := nz hcl 7 0 q6_
    simp only [hD, p1_, p2_, p3_, q5_, q6_, q7_, cq] at ht hs
    subst ht
    refine g_op (v := Value.pointer (some ((ad13_.add (x72.toNat * 5)).add 0))) rfl rfl (x_fieldAt rfl rfl rfl rfl rfl (m := 2) (fun _ => rfl) (by decide)) (g_d rfl ?_)
    try dsimp only [set0,setS]
    refine hk _ _ ⟨v74, O, ?_, hs.cast ?_⟩ <;> simp only [lq, cq, Nat.reduceBEq, p1_, p2_, p3_, q5_, q6_, q7_]
   ·
    intro D t w hD hp hcl hI rest hk
    obtain ⟨v74, O, ht, hs⟩ := hI
    obtain ⟨p4_, _⟩ := hp
    obtain ⟨p3_, _⟩ := (hcl.get 4 (by decide)) p4_
    obtain ⟨p1_, p2_, _⟩ := (hcl.get 3 (by decide)) p3_
    have q6_ := nz hcl 6 1 hD
    have q7_ := nz hcl 7 0 q6_
    simp only [hD, p1_, p2_, p3_, p4_, q6_, q7_, cq] at ht hs
    subst ht
    refine s_loadA rfl rfl (es := (enc_S_impl_Bank ((rdL x70 x72 z_S_impl_crossing).f_bank))) rfl rfl (fun _ => rfl) (n := 2) (fun _ => rfl) (fk_S_impl_Bank.len _) (CellsAt.sub (cellsAt_of fk_S_impl_crossing z_S_impl_crossing (hs.row 2 rfl) had13_ gd12.1 gd12.2) 0 2 (by first | rfl | (simp [enc_S_impl_crossing, len_S_impl_Bank, List.drop_append, List.take_append, encAI_len, encAB_len, encA_len, List.take_of_length_le, List.drop_eq_nil_of_le]))) ?_
    refine g_d rfl ?_
    try dsimp only [set0,setS]
    refine hk _ _ ⟨v74, O, ?_, hs.cast ?_⟩ <;> simp only [lq, cq, Nat.reduceBEq, p1_, p2_, p3_, p4_, q6_, q7_]
   ·
    intro D t w hD hp hcl hI rest hk
    obtain ⟨v74, O, ht, hs⟩ := hI
    obtain ⟨p0_, p5_, _⟩ := hp
    obtain ⟨p4_, _⟩ := (hcl.get 5 (by decide)) p5_
    obtain ⟨p3_, _⟩ := (hcl.get 4 (by decide)) p4_
    obtain ⟨p1_, p2_, _⟩ := (hcl.get 3 (by decide)) p3_
    have q7_ := nz hcl 7 0 hD
    simp only [hD, p0_, p1_, p2_, p3_, p4_, p5_, q7_, cq] at ht hs
    subst ht
    refine s_call (args := [Value.agg (([Value.int .i8 a1.f_Things, Value.int .i8 a1.f_Boat, v2] : List Value)).toArray, Value.agg (enc_S_impl_Bank ((rdL x70 x72 z_S_impl_crossing).f_bank)).toArray]) rfl rfl (x_call rfl (callFunc_enter Try.func58 rfl rfl) rfl) (_impl_Ferry_loads.calls (a1 := (⟨a1.f_Things, a1.f_Boat, a1.f_Rules⟩ : S_impl_Ferry)) (a4 := (rdL x70 x72 z_S_impl_crossing).f_bank) (hs.rd hr3) Hr73) ?_
    intro v74 w hs2
    have hs : St _ [_,_,_,_,_] _ := hs.call hs2
    refine g_d rfl ?_
    try dsimp only [set0,setS]
    have hs := hs.fill 0 rfl
    refine hk _ _ ⟨v74, O, ?_, hs.cast ?_⟩ <;> simp only [lq, cq, Nat.reduceBEq, p0_, p1_, p2_, p3_, p4_, p5_, q7_]
   ·
    intro D t w hD hp hcl hI rest hk
    obtain ⟨v74, O, ht, hs⟩ := hI
    obtain ⟨p6_, _⟩ := hp
    obtain ⟨p0_, p5_, _⟩ := (hcl.get 6 (by decide)) p6_
    obtain ⟨p4_, _⟩ := (hcl.get 5 (by decide)) p5_
    obtain ⟨p3_, _⟩ := (hcl.get 4 (by decide)) p4_
    obtain ⟨p1_, p2_, _⟩ := (hcl.get 3 (by decide)) p3_
    simp only [hD, p0_, p1_, p2_, p3_, p4_, p5_, p6_, cq] at ht hs
    subst ht
    refine s_len (hs.row 0 rfl) rfl rfl rfl rfl rfl (g_d rfl ?_)
    try dsimp only [set0,setS]
    refine hk _ _ ⟨v74, O, ?_, hs.cast ?_⟩ <;> simp only [lq, cq, Nat.reduceBEq, p0_, p1_, p2_, p3_, p4_, p5_, p6_]
   ·
    intro D t w hD hp hcl hI rest hk
    obtain ⟨v74, O, ht, hs⟩ := hI
    simp only [hD, cq] at ht hs
    subst ht
    refine g_op (v := Value.int .i64 0) rfl rfl rfl (g_d rfl ?_)
    try dsimp only [set0,setS]
    refine hk _ _ ⟨v74, O, ?_, hs.cast ?_⟩ <;> simp only [lq, cq, Nat.reduceBEq]
   intro D t w hall hI
   obtain ⟨v74, O, ht, hs⟩ := hI
   have p0_ : D 0 = true := hall 0 (by decide)
   have p1_ : D 1 = true := hall 1 (by decide)
   have p2_ : D 2 = true := hall 2 (by decide)
   have p3_ : D 3 = true := hall 3 (by decide)
   have p4_ : D 4 = true := hall 4 (by decide)
   have p5_ : D 5 = true := hall 5 (by decide)
   have p6_ : D 6 = true := hall 6 (by decide)
   have p7_ : D 7 = true := hall 7 (by decide)
   have p8_ : D 8 = true := hall 8 (by decide)
   simp only [p0_, p1_, p2_, p3_, p4_, p5_, p6_, p7_, p8_, cq] at ht hs
   subst ht
   obtain ⟨o2_, Ho, Hr2_⟩ := bind_get H
   refine g_block_join (J := fun t w => ∃ v118 : Value, ∃ x119 : (List S_impl_crossing), ∃ x121 : (List (S_impl_Bank × Bool)), _impl_Ferry_search.a2 N x72 x119 x121 = some x23_ ∧ Fr t (fun O => (O 0::Value.pointer (some ⟨b4, 0, none⟩)::O 2::O 3::v118::Value.map (some b11)::Value.int .i64 x72::O 7::O 8::O 9::O 10::O 11::O 12::O 13::O 14::O 15::O 16::O 17::O 18::O 19::O 20::O 21::O 22::O 23::O 24::O 25::O 26::O 27::O 28::O 29::O 30::O 31::O 32::O 33::O 34::O 35::O 36::O 37::O 38::O 39::O 40::O 41::O 42::O 43::O 44::O 45::O 46::O 47::O 48::O 49::O 50::O 51::O 52::O 53::O 54::O 55::O 56::O 57::O 58::O 59::O 60::O 61::O 62::O 63::O 64::[] : List Value)) ∧ St w0 [Cells b4 (([Value.int .i8 a1.f_Things, Value.int .i8 a1.f_Boat, v2] : List Value)) 27, Row 72 k_S_impl_crossing v118 x119, MapAs b11 ek_S_impl_Bank Value.bool x121] w) ?_ ?_
   ·
    rintro t w ⟨v118, x119, x121, H, hf, hs⟩
    obtain ⟨O, rfl⟩ := hf.open
    try dsimp only
    unfold _impl_Ferry_search.a2 at H
    refine g_inBlock (g_region ?_)
    show G _ _ _ (.inRegion _ [0, 1, 2] :: _) _ _
    refine g_op (v := Value.int .i64 x72) rfl rfl rfl (g_d rfl ?_)
    refine g_op (v := Value.int .i64 (i64w (x72 + 1))) rfl rfl rfl (g_d rfl ?_)
    try dsimp only [set0,setS]
    refine g_op (v := Value.int .i64 (i64w (x72 + 1))) rfl rfl rfl (g_d rfl ?_)
    try dsimp only [set0,setS]
    refine g_ops_nil ?_
    obtain rfl := Option.some.inj H
    have hs := hs.pull 2 rfl
    have hs := hs.pull 2 rfl
    have hs := hs.pull 2 rfl
    have hs : St _ [_,_,_] _ := St.take (Γ' := []) hs
    exact ih1_ _ _ ⟨v118, x119, x121, i64w (x72 + 1), Hx1_, rfl, hs⟩
   intro ha2_
   have hs := hs.pull 0 rfl
   have hs := hs.pull 3 rfl
   have hs := hs.pull 3 rfl
   have hs := hs.pull 3 rfl
   have hs : St _ [_,_,_,_] _ := St.take (Γ' := []) hs
   refine g_loop_fuel (I := fun n_ t w => ∃ v98 : Value, ∃ x99 : (List S_impl_crossing), ∃ x100 : (List (S_impl_Bank × Bool)), ∃ x101 : Int, rounds (fun s => _impl_Ferry_search.b2 N r73 x72 s.1 s.2.1 s.2.2) n_ (x99, x100, x101) = some o2_ ∧ Fr t (fun O => (O 0::Value.pointer (some ⟨b4, 0, none⟩)::O 2::O 3::v98::Value.map (some b11)::Value.int .i64 x72::O 7::O 8::O 9::O 10::O 11::O 12::O 13::O 14::O 15::O 16::O 17::O 18::O 19::O 20::O 21::O 22::O 23::O 24::O 25::O 26::O 27::O 28::O 29::O 30::v74::Value.int .i64 (r73.length : Int)::Value.int .i64 x101::O 34::O 35::O 36::O 37::O 38::O 39::O 40::O 41::O 42::O 43::O 44::O 45::O 46::O 47::O 48::O 49::O 50::O 51::O 52::O 53::O 54::O 55::O 56::O 57::O 58::O 59::O 60::O 61::O 62::O 63::O 64::[] : List Value)) ∧ St w0 [Cells b4 (([Value.int .i8 a1.f_Things, Value.int .i8 a1.f_Boat, v2] : List Value)) 27, Row 72 k_S_impl_crossing v98 x99, MapAs b11 ek_S_impl_Bank Value.bool x100, Row 31 (K.int .u16) v74 r73] w) N ⟨v69, x70, x71, 0, Ho, rfl, hs⟩ ?_ ?_
   ·
    rintro _ _ ⟨v98, x99, x100, x101, h, _⟩
    exact rounds_zero h
   intro n_ ih2_
   rintro t w ⟨v98, x99, x100, x101, Ho, hf, hs⟩
   obtain ⟨O, rfl⟩ := hf.open
   try dsimp only
   obtain ⟨x22_, H, Hx2_⟩ := rounds_succ Ho
   have H : _impl_Ferry_search.b2 N r73 x72 x99 x100 x101 = some x22_ := H
   unfold _impl_Ferry_search.b2 at H
   refine g_seq (g_region ?_)
   show G _ _ _ (.inRegion _ [0] :: _) _ _
   refine g_op_b (B := decide (x101 < (r73.length : Int))) rfl rfl rfl ?_ ?_
   ·
    intro hb
    rw [if_pos (b_dec_t hb)] at H
    refine g_d rfl ?_
    try dsimp only [set0,setS]
    refine g_ops_nil (g_seq (g_cond_true rfl (g_skip (g_seq ?_))))
    refine g_block_join (J := (fun t w => ∃ v113 : Value, ∃ x114 : (List S_impl_crossing), ∃ x116 : (List (S_impl_Bank × Bool)), _impl_Ferry_search.j4 N x101 x114 x116 = some x22_ ∧ Fr t (fun O => (O 0::Value.pointer (some ⟨b4, 0, none⟩)::O 2::O 3::v113::Value.map (some b11)::Value.int .i64 x72::O 7::O 8::O 9::O 10::O 11::O 12::O 13::O 14::O 15::O 16::O 17::O 18::O 19::O 20::O 21::O 22::O 23::O 24::O 25::O 26::O 27::O 28::O 29::O 30::v74::Value.int .i64 (r73.length : Int)::Value.int .i64 x101::O 34::O 35::O 36::O 37::O 38::O 39::O 40::O 41::O 42::O 43::O 44::O 45::O 46::O 47::O 48::O 49::O 50::O 51::O 52::O 53::O 54::O 55::O 56::O 57::O 58::O 59::O 60::O 61::O 62::O 63::O 64::[] : List Value)) ∧ St w0 [Cells b4 (([Value.int .i8 a1.f_Things, Value.int .i8 a1.f_Boat, v2] : List Value)) 27, Row 72 k_S_impl_crossing v113 x114, MapAs b11 ek_S_impl_Bank Value.bool x116, Row 31 (K.int .u16) v74 r73] w)) ?_ ?_
    ·
     rintro t w ⟨v113, x114, x116, H, hf, hs⟩
     obtain ⟨O, rfl⟩ := hf.open
     try dsimp only
     unfold _impl_Ferry_search.j4 at H
     refine g_region ?_
     show G _ _ _ (.inRegion _ [0, 1] :: _) _ _
     refine g_op (v := Value.int .i64 (i64w (x101 + 1))) rfl rfl rfl (g_d rfl ?_)
     try dsimp only [set0,setS]
     refine g_op (v := Value.int .i64 (i64w (x101 + 1))) rfl rfl rfl (g_d rfl (g_ops_nil ?_))
     obtain rfl := Option.some.inj H
     have hs := hs.pull 3 rfl
     have hs := hs.pull 3 rfl
     have hs := hs.pull 3 rfl
     have hs := hs.pull 3 rfl
     have hs : St _ [_,_,_,_] _ := St.take (Γ' := []) hs
     exact ih2_ _ _ ⟨v113, x114, x116, i64w (x101 + 1), Hx2_, rfl, hs⟩
    intro ha
    refine g_seq (g_region ?_)
    show G _ _ _ (.inRegion _ [0, 1, 2] :: _) _ _
    obtain ⟨g18, H⟩ := ite_get H
    refine s_idx (fkI .u16) 0 (hs.row 3 rfl) rfl (fun _ => rfl) g18.1 g18.2 rfl rfl rfl rfl rfl ?_
    intro p102 hp102 lp102 op102
    refine g_d rfl ?_
    try dsimp only [set0,setS]
    refine s_load1 rfl rfl (v := Value.int .u16 (rdL r73 x101 0)) rfl rfl (fun _ => rfl) hp102 (g_d rfl ?_)
    try dsimp only [set0,setS]
    refine g_op (v := Value.int .u16 (rdL r73 x101 0)) rfl rfl rfl (g_d rfl ?_)
    try dsimp only [set0,setS]
    refine g_ops_nil (g_seq (g_region ?_))
    show G _ _ _ (.inRegion _ [0, 1, 2, 3, 4, 5, 6, 7, 8] :: _) _ _
    refine g_op (v := v98) rfl rfl rfl (g_d rfl ?_)
    refine g_op (v := Value.int .i64 x72) rfl rfl rfl (g_d rfl ?_)
    obtain ⟨g19, H⟩ := ite_get H
    refine s_idx fk_S_impl_crossing z_S_impl_crossing (hs.row 1 rfl) rfl (fun _ => rfl) g19.1 g19.2 rfl rfl rfl rfl rfl ?_
    intro p103 hp103 lp103 op103
    refine g_d rfl ?_
    try dsimp only [set0,setS]
    refine g_op (v := Value.pointer (some (p103.add 0))) rfl rfl (x_fieldAt rfl rfl rfl rfl rfl (m := 2) (fun _ => rfl) (by decide)) (g_d rfl ?_)
    refine s_loadA rfl rfl (es := (enc_S_impl_Bank ((rdL x99 x72 z_S_impl_crossing).f_bank))) rfl rfl (fun _ => rfl) (n := 2) (fun _ => rfl) (fk_S_impl_Bank.len _) (CellsAt.sub hp103 0 2 (by first | rfl | (simp [enc_S_impl_crossing, len_S_impl_Bank, List.drop_append, List.take_append, encAI_len, encAB_len, encA_len, List.take_of_length_le, List.drop_eq_nil_of_le]))) (g_d rfl ?_)
    try dsimp only [set0,setS]
    refine g_op (v := Value.int .u16 (rdL r73 x101 0)) rfl rfl rfl (g_d rfl ?_)
    obtain ⟨r104, Hr104, H⟩ := bind_get H
    refine s_call (args := [Value.agg (enc_S_impl_Bank ((rdL x99 x72 z_S_impl_crossing).f_bank)).toArray, Value.int .u16 (rdL r73 x101 0)]) rfl rfl (x_call rfl (callFunc_enter Try.func59 rfl rfl) rfl) (impl_crossed.calls (a1 := (rdL x99 x72 z_S_impl_crossing).f_bank) (a2 := rdL r73 x101 0) Hr104) ?_
    rintro _ w ⟨rfl, hs2⟩
    have hs : St _ [_,_,_,_] _ := hs.call hs2
    refine g_d rfl ?_
    try dsimp only [set0,setS]
    refine s_alloc hs rfl rfl (z := (Value.agg #[Value.int .u16 0, Value.bool false])) (cs := (enc_S_impl_Bank z_S_impl_Bank)) rfl (fun _ => rfl) rfl ?_
    intro b105 w hs
    refine g_d rfl ?_
    try dsimp only [set0,setS]
    refine s_storeAll (n := 2) hs (fk_S_impl_Bank.len _) rfl rfl (vs := (enc_S_impl_Bank r104)) rfl rfl rfl (fun _ => rfl) (fk_S_impl_Bank.len _) (fk_S_impl_Bank.one _) ?_
    intro w hs
    refine g_n rfl (g_ops_nil (g_seq (g_region ?_)))
    show G _ _ _ (.inRegion _ [0, 1, 2, 3] :: _) _ _
    refine g_op (v := Value.map (some b11)) rfl rfl rfl (g_d rfl ?_)
    refine s_loadA rfl rfl (es := (enc_S_impl_Bank r104)) rfl rfl (fun _ => rfl) (n := 2) (fun _ => rfl) (fk_S_impl_Bank.len _) (cells_all (hs.cells 0 rfl)) (g_d rfl ?_)
    try dsimp only [set0,setS]
    refine g_op_b (B := mGet x100 r104 false) rfl rfl (x_lookup key_S_impl_Bank_70 (a := r104) (z := false) (hs.mp 3 rfl) rfl Try.underlying94 rfl rfl (fun _ => rfl)) ?_ ?_
    ·
     intro hb
     rw [if_pos (b_var_t hb)] at H
     refine g_d rfl ?_
     try dsimp only [set0,setS]
     refine g_op (v := Value.bool false) rfl rfl rfl (g_d rfl ?_)
     try dsimp only [set0,setS]
     refine g_ops_nil (g_cond_false rfl (g_skip ?_))
     refine g_inBlock ?_
     have hs := hs.pull 4 rfl
     have hs := hs.pull 4 rfl
     have hs := hs.pull 4 rfl
     have hs := hs.pull 4 rfl
     have hs : St _ [_,_,_,_] _ := St.take (Γ' := [_]) hs
     exact ha _ _ ⟨v98, x99, x100, H, rfl, hs⟩
    intro hb
    rw [if_neg (b_var_f hb)] at H
    refine g_d rfl ?_
    try dsimp only [set0,setS]
    refine g_op (v := Value.bool true) rfl rfl rfl (g_d rfl ?_)
    try dsimp only [set0,setS]
    refine g_ops_nil (g_cond_true rfl (g_seq (g_region ?_)))
    show G _ _ _ (.inRegion _ [0, 1, 2] :: _) _ _
    refine g_op (v := Value.map (some b11)) rfl rfl rfl (g_d rfl ?_)
    refine s_loadA rfl rfl (es := (enc_S_impl_Bank r104)) rfl rfl (fun _ => rfl) (n := 2) (fun _ => rfl) (fk_S_impl_Bank.len _) (cells_all (hs.cells 0 rfl)) (g_d rfl ?_)
    try dsimp only [set0,setS]
    have hs := hs.pull 3 rfl
    have hs : St _ [_,_,_,_,_] _ := hs
    refine s_mapSet key_S_impl_Bank_70 (a := r104) (v := true) hs rfl rfl (.inl rfl) Try.underlying94 rfl rfl rfl ?_
    intro w hs
    refine g_n rfl (g_ops_nil ?_)
    obtain ⟨gd20, H⟩ := ite_get H
    obtain ⟨ad21_, ad21_N, ad21_C, had21_⟩ := sl_at (hs.row 3 rfl) gd20.1 gd20.2
    obtain ⟨gq12_, H⟩ := ite_get H
    refine g_name ?_
    intro T hT
    refine g_any (n := 14) rfl [0, 1, 2, 3, 4, 5, 6, 7, 8, 9, 10, 11, 12, 13] [0, 1, 2, 3, 4, 5, 6, 7, 8, 9, 10, 11, 12, 13] rfl rfl (Inv := fun D t w => ∃ v107 : Value, ∃ v109 : Value, ∃ O : Nat → Value, t = (O 0::Value.pointer (some ⟨b4, 0, none⟩)::O 2::O 3::cnd (D 13) v109 v98::Value.map (some b11)::Value.int .i64 x72::O 7::Value.int .u16 (rdL r73 x101 0)::Value.pointer (some ⟨b105, 0, none⟩)::O 10::O 11::O 12::O 13::O 14::O 15::O 16::O 17::O 18::O 19::O 20::O 21::O 22::O 23::O 24::O 25::O 26::O 27::O 28::O 29::O 30::v74::Value.int .i64 (r73.length : Int)::Value.int .i64 x101::Value.bool true::Value.pointer (some p102)::Value.int .u16 (rdL r73 x101 0)::v98::Value.int .i64 x72::Value.pointer (some p103)::Value.pointer (some (p103.add 0))::Value.agg (enc_S_impl_Bank ((rdL x99 x72 z_S_impl_crossing).f_bank)).toArray::Value.int .u16 (rdL r73 x101 0)::Value.agg (enc_S_impl_Bank r104).toArray::Value.map (some b11)::Value.agg (enc_S_impl_Bank r104).toArray::Value.bool false::Value.bool true::Value.map (some b11)::Value.agg (enc_S_impl_Bank r104).toArray::cnd (D 0) v98 (O 50)::cnd (D 1) (Value.agg (enc_S_impl_Bank r104).toArray) (O 51)::cnd (D 2) (Value.int .i64 x72) (O 52)::cnd (D 3) (Value.int .u16 (rdL r73 x101 0)) (O 53)::cnd (D 4) v98 (O 54)::cnd (D 5) (Value.int .i64 x72) (O 55)::cnd (D 6) (Value.pointer (some (ad21_.add (x72.toNat * 5)))) (O 56)::cnd (D 7) (Value.pointer (some ((ad21_.add (x72.toNat * 5)).add 4))) (O 57)::cnd (D 8) (Value.int .i64 ((rdL x99 x72 z_S_impl_crossing).f_many)) (O 58)::cnd (D 9) (Value.int .i64 (i64w (((rdL x99 x72 z_S_impl_crossing).f_many) + 1))) (O 59)::cnd (D 10) (Value.agg (enc_S_impl_crossing (⟨r104, x72, rdL r73 x101 0, i64w (((rdL x99 x72 z_S_impl_crossing).f_many) + 1)⟩ : S_impl_crossing)).toArray) (O 60)::cnd (D 11) v107 (O 61)::cnd (D 12) v109 (O 62)::O 63::O 64::[]) ∧ St w0 [Asc (D 11) (Row 72 k_S_impl_crossing v107 ([(⟨r104, x72, rdL r73 x101 0, i64w (((rdL x99 x72 z_S_impl_crossing).f_many) + 1)⟩ : S_impl_crossing)])), MapAs b11 ek_S_impl_Bank Value.bool (mSet x100 r104 true), Cells b105 (enc_S_impl_Bank r104) 70, Cells b4 (([Value.int .i8 a1.f_Things, Value.int .i8 a1.f_Boat, v2] : List Value)) 27, Row 72 k_S_impl_crossing (cnd (D 12) v109 v98) (cnd (D 12) (x99 ++ ([(⟨r104, x72, rdL r73 x101 0, i64w (((rdL x99 x72 z_S_impl_crossing).f_many) + 1)⟩ : S_impl_crossing)])) x99), Row 31 (K.int .u16) v74 r73] w) ?_ ⟨⟨⟨⟨⟨⟨⟨⟨⟨⟨⟨⟨⟨⟨trivial, ?_⟩, ?_⟩, ?_⟩, ?_⟩, ?_⟩, ?_⟩, ?_⟩, ?_⟩, ?_⟩, ?_⟩, ?_⟩, ?_⟩, ?_⟩, ?_⟩ ?_
    ·
     intro w hh hbw
     have hs := hs.samew hh hbw
     have hs := hs.emp
     exact ⟨undef, undef, fun i => T.getD i undef, (by subst hT; rfl), hs⟩
    ·
     intro D t w hD hp hcl hI rest hk
     obtain ⟨v107, v109, O, ht, hs⟩ := hI
     have q12_ := nz hcl 12 0 hD
     have q13_ := nz hcl 13 0 q12_
     simp only [hD, q12_, q13_, cq] at ht hs
     subst ht
     refine g_op (v := v98) rfl rfl rfl (g_d rfl ?_)
     try dsimp only [set0,setS]
     refine hk _ _ ⟨v107, v109, O, ?_, hs.cast ?_⟩ <;> simp only [lq, cq, Nat.reduceBEq, q12_, q13_]
    ·
     intro D t w hD hp hcl hI rest hk
     obtain ⟨v107, v109, O, ht, hs⟩ := hI
     have q10_ := nz hcl 10 0 hD
     have q11_ := nz hcl 11 0 q10_
     have q12_ := nz hcl 12 1 q11_
     have q13_ := nz hcl 13 0 q12_
     simp only [hD, q10_, q11_, q12_, q13_, cq] at ht hs
     subst ht
     refine s_loadA rfl rfl (es := (enc_S_impl_Bank r104)) rfl rfl (fun _ => rfl) (n := 2) (fun _ => rfl) (fk_S_impl_Bank.len _) (cells_all (hs.cells 2 rfl)) (g_d rfl ?_)
     try dsimp only [set0,setS]
     refine hk _ _ ⟨v107, v109, O, ?_, hs.cast ?_⟩ <;> simp only [lq, cq, Nat.reduceBEq, q10_, q11_, q12_, q13_]
    ·
     intro D t w hD hp hcl hI rest hk
     obtain ⟨v107, v109, O, ht, hs⟩ := hI
     have q10_ := nz hcl 10 1 hD
     have q11_ := nz hcl 11 0 q10_
     have q12_ := nz hcl 12 1 q11_
     have q13_ := nz hcl 13 0 q12_
     simp only [hD, q10_, q11_, q12_, q13_, cq] at ht hs
     subst ht
     refine g_op (v := Value.int .i64 x72) rfl rfl rfl (g_d rfl ?_)
     try dsimp only [set0,setS]
     refine hk _ _ ⟨v107, v109, O, ?_, hs.cast ?_⟩ <;> simp only [lq, cq, Nat.reduceBEq, q10_, q11_, q12_, q13_]
    ·
     intro D t w hD hp hcl hI rest hk
     obtain ⟨v107, v109, O, ht, hs⟩ := hI
     have q10_ := nz hcl 10 2 hD
     have q11_ := nz hcl 11 0 q10_
     have q12_ := nz hcl 12 1 q11_
     have q13_ := nz hcl 13 0 q12_
     simp only [hD, q10_, q11_, q12_, q13_, cq] at ht hs
     subst ht
     refine g_op (v := Value.int .u16 (rdL r73 x101 0)) rfl rfl rfl (g_d rfl ?_)
     try dsimp only [set0,setS]
     refine hk _ _ ⟨v107, v109, O, ?_, hs.cast ?_⟩ <;> simp only [lq, cq, Nat.reduceBEq, q10_, q11_, q12_, q13_]
    ·
     intro D t w hD hp hcl hI rest hk
     obtain ⟨v107, v109, O, ht, hs⟩ := hI
     have q6_ := nz hcl 6 0 hD
     have q7_ := nz hcl 7 0 q6_
     have q8_ := nz hcl 8 0 q7_
     have q9_ := nz hcl 9 0 q8_
     have q10_ := nz hcl 10 3 q9_
     have q11_ := nz hcl 11 0 q10_
     have q12_ := nz hcl 12 1 q11_
     have q13_ := nz hcl 13 0 q12_
     simp only [hD, q6_, q7_, q8_, q9_, q10_, q11_, q12_, q13_, cq] at ht hs
     subst ht
     refine g_op (v := v98) rfl rfl rfl (g_d rfl ?_)
     try dsimp only [set0,setS]
     refine hk _ _ ⟨v107, v109, O, ?_, hs.cast ?_⟩ <;> simp only [lq, cq, Nat.reduceBEq, q6_, q7_, q8_, q9_, q10_, q11_, q12_, q13_]
    ·
     intro D t w hD hp hcl hI rest hk
     obtain ⟨v107, v109, O, ht, hs⟩ := hI
     have q6_ := nz hcl 6 1 hD
     have q7_ := nz hcl 7 0 q6_
     have q8_ := nz hcl 8 0 q7_
     have q9_ := nz hcl 9 0 q8_
     have q10_ := nz hcl 10 3 q9_
     have q11_ := nz hcl 11 0 q10_
     have q12_ := nz hcl 12 1 q11_
     have q13_ := nz hcl 13 0 q12_
     simp only [hD, q6_, q7_, q8_, q9_, q10_, q11_, q12_, q13_, cq] at ht hs
     subst ht
     refine g_op (v := Value.int .i64 x72) rfl rfl rfl (g_d rfl ?_)
     try dsimp only [set0,setS]
     refine hk _ _ ⟨v107, v109, O, ?_, hs.cast ?_⟩ <;> simp only [lq, cq, Nat.reduceBEq, q6_, q7_, q8_, q9_, q10_, q11_, q12_, q13_]
    ·
     intro D t w hD hp hcl hI rest hk
     obtain ⟨v107, v109, O, ht, hs⟩ := hI
     obtain ⟨p4_, p5_, _⟩ := hp
     have q7_ := nz hcl 7 0 hD
     have q8_ := nz hcl 8 0 q7_
     have q9_ := nz hcl 9 0 q8_
     have q10_ := nz hcl 10 3 q9_
     have q11_ := nz hcl 11 0 q10_
     have q12_ := nz hcl 12 1 q11_
     have q13_ := nz hcl 13 0 q12_
     simp only [hD, p4_, p5_, q7_, q8_, q9_, q10_, q11_, q12_, q13_, cq] at ht hs
     subst ht
     refine s_idxD (κ := k_S_impl_crossing) (m := 5) rfl (hs.row 4 rfl) rfl (fun _ => rfl) gd20.1 gd20.2 had21_ rfl rfl rfl rfl rfl (g_d rfl ?_)
     try dsimp only [set0,setS]
     refine hk _ _ ⟨v107, v109, O, ?_, hs.cast ?_⟩ <;> simp only [lq, cq, Nat.reduceBEq, p4_, p5_, q7_, q8_, q9_, q10_, q11_, q12_, q13_]
    ·
     intro D t w hD hp hcl hI rest hk
     obtain ⟨v107, v109, O, ht, hs⟩ := hI
     obtain ⟨p6_, _⟩ := hp
     obtain ⟨p4_, p5_, _⟩ := (hcl.get 6 (by decide)) p6_
     have q8_ := nz hcl 8 0 hD
     have q9_ := nz hcl 9 0 q8_
     have q10_ := nz hcl 10 3 q9_
     have q11_ := nz hcl 11 0 q10_
     have q12_ := nz hcl 12 1 q11_
     have q13_ := nz hcl 13 0 q12_
     simp only [hD, p4_, p5_, p6_, q8_, q9_, q10_, q11_, q12_, q13_, cq] at ht hs
     subst ht
     refine g_op (v := Value.pointer (some ((ad21_.add (x72.toNat * 5)).add 4))) rfl rfl (x_fieldAt rfl rfl rfl rfl rfl (m := 1) (fun _ => rfl) (by decide)) (g_d rfl ?_)
     try dsimp only [set0,setS]
     refine hk _ _ ⟨v107, v109, O, ?_, hs.cast ?_⟩ <;> simp only [lq, cq, Nat.reduceBEq, p4_, p5_, p6_, q8_, q9_, q10_, q11_, q12_, q13_]
    ·
     intro D t w hD hp hcl hI rest hk
     obtain ⟨v107, v109, O, ht, hs⟩ := hI
     obtain ⟨p7_, _⟩ := hp
     obtain ⟨p6_, _⟩ := (hcl.get 7 (by decide)) p7_
     obtain ⟨p4_, p5_, _⟩ := (hcl.get 6 (by decide)) p6_
     have q9_ := nz hcl 9 0 hD
     have q10_ := nz hcl 10 3 q9_
     have q11_ := nz hcl 11 0 q10_
     have q12_ := nz hcl 12 1 q11_
     have q13_ := nz hcl 13 0 q12_
     simp only [hD, p4_, p5_, p6_, p7_, q9_, q10_, q11_, q12_, q13_, cq] at ht hs
     subst ht
     refine s_load1 rfl rfl (v := Value.int .i64 ((rdL x99 x72 z_S_impl_crossing).f_many)) rfl rfl (fun _ => rfl) (CellsAt.sub (cellsAt_of fk_S_impl_crossing z_S_impl_crossing (hs.row 4 rfl) had21_ gd20.1 gd20.2) 4 1 (by first | rfl | (simp [enc_S_impl_crossing, len_S_impl_Bank, List.drop_append, List.take_append, encAI_len, encAB_len, encA_len, List.take_of_length_le, List.drop_eq_nil_of_le]))) (g_d rfl ?_)
     try dsimp only [set0,setS]
     refine hk _ _ ⟨v107, v109, O, ?_, hs.cast ?_⟩ <;> simp only [lq, cq, Nat.reduceBEq, p4_, p5_, p6_, p7_, q9_, q10_, q11_, q12_, q13_]
    ·
     intro D t w hD hp hcl hI rest hk
     obtain ⟨v107, v109, O, ht, hs⟩ := hI
     obtain ⟨p8_, _⟩ := hp
     obtain ⟨p7_, _⟩ := (hcl.get 8 (by decide)) p8_
     obtain ⟨p6_, _⟩ := (hcl.get 7 (by decide)) p7_
     obtain ⟨p4_, p5_, _⟩ := (hcl.get 6 (by decide)) p6_
     have q10_ := nz hcl 10 3 hD
     have q11_ := nz hcl 11 0 q10_
     have q12_ := nz hcl 12 1 q11_
     have q13_ := nz hcl 13 0 q12_
     simp only [hD, p4_, p5_, p6_, p7_, p8_, q10_, q11_, q12_, q13_, cq] at ht hs
     subst ht
     refine g_op (v := Value.int .i64 (i64w (((rdL x99 x72 z_S_impl_crossing).f_many) + 1))) rfl rfl rfl (g_d rfl ?_)
     try dsimp only [set0,setS]
     refine hk _ _ ⟨v107, v109, O, ?_, hs.cast ?_⟩ <;> simp only [lq, cq, Nat.reduceBEq, p4_, p5_, p6_, p7_, p8_, q10_, q11_, q12_, q13_]
    ·
     intro D t w hD hp hcl hI rest hk
     obtain ⟨v107, v109, O, ht, hs⟩ := hI
     obtain ⟨p1_, p2_, p3_, p9_, _⟩ := hp
     obtain ⟨p8_, _⟩ := (hcl.get 9 (by decide)) p9_
     obtain ⟨p7_, _⟩ := (hcl.get 8 (by decide)) p8_
     obtain ⟨p6_, _⟩ := (hcl.get 7 (by decide)) p7_
     obtain ⟨p4_, p5_, _⟩ := (hcl.get 6 (by decide)) p6_
     have q11_ := nz hcl 11 0 hD
     have q12_ := nz hcl 12 1 q11_
     have q13_ := nz hcl 13 0 q12_
     simp only [hD, p1_, p2_, p3_, p4_, p5_, p6_, p7_, p8_, p9_, q11_, q12_, q13_, cq] at ht hs
     subst ht
     refine g_op (v := Value.agg (enc_S_impl_crossing (⟨r104, x72, rdL r73 x101 0, i64w (((rdL x99 x72 z_S_impl_crossing).f_many) + 1)⟩ : S_impl_crossing)).toArray) rfl rfl (x_buildS (cs := (enc_S_impl_crossing (⟨r104, x72, rdL r73 x101 0, i64w (((rdL x99 x72 z_S_impl_crossing).f_many) + 1)⟩ : S_impl_crossing))) (segs := [[Value.int .u16 0, Value.bool false], [Value.int .i64 0], [Value.int .u16 0], [Value.int .i64 0]]) rfl rfl (fun _ => rfl) ⟨rfl, (fun _ => rfl), rfl, (fun _ => rfl), rfl, (fun _ => rfl), rfl, (fun _ => rfl), trivial⟩ (by simp only [List.map_cons, List.map_nil, List.forall_mem_cons, List.not_mem_nil, false_implies, implies_true, and_true]; exact ⟨⟨_, rfl, fk_S_impl_Bank.len _⟩, ⟨_, rfl, rfl⟩, ⟨_, rfl, rfl⟩, ⟨_, rfl, rfl⟩⟩) (by first | rfl | (simp [ev, enc_S_impl_crossing]; done) | (simp [ev, enc_S_impl_crossing]; rfl))) ?_
     refine g_d rfl ?_
     try dsimp only [set0,setS]
     refine hk _ _ ⟨v107, v109, O, ?_, hs.cast ?_⟩ <;> simp only [lq, cq, Nat.reduceBEq, p1_, p2_, p3_, p4_, p5_, p6_, p7_, p8_, p9_, q11_, q12_, q13_]
    ·
     intro D t w hD hp hcl hI rest hk
     obtain ⟨v107, v109, O, ht, hs⟩ := hI
     obtain ⟨p10_, _⟩ := hp
     obtain ⟨p1_, p2_, p3_, p9_, _⟩ := (hcl.get 10 (by decide)) p10_
     obtain ⟨p8_, _⟩ := (hcl.get 9 (by decide)) p9_
     obtain ⟨p7_, _⟩ := (hcl.get 8 (by decide)) p8_
     obtain ⟨p6_, _⟩ := (hcl.get 7 (by decide)) p7_
     obtain ⟨p4_, p5_, _⟩ := (hcl.get 6 (by decide)) p6_
     have q12_ := nz hcl 12 1 hD
     have q13_ := nz hcl 13 0 q12_
     simp only [hD, p1_, p2_, p3_, p4_, p5_, p6_, p7_, p8_, p9_, p10_, q12_, q13_, cq] at ht hs
     subst ht
     refine s_lit1 fk_S_impl_crossing (y := (⟨r104, x72, rdL r73 x101 0, i64w (((rdL x99 x72 z_S_impl_crossing).f_many) + 1)⟩ : S_impl_crossing)) hs rfl rfl rfl rfl (fun _ => rfl) (zv := (Value.agg #[Value.int .u16 0, Value.bool false, Value.int .i64 0, Value.int .u16 0, Value.int .i64 0])) (fun _ => rfl) rfl (by decide) (by decide) rfl ?_
     intro v107 w hs
     refine g_d rfl ?_
     try dsimp only [set0,setS]
     have hs := hs.fill 0 rfl
     refine hk _ _ ⟨v107, v109, O, ?_, hs.cast ?_⟩ <;> simp only [lq, cq, Nat.reduceBEq, p1_, p2_, p3_, p4_, p5_, p6_, p7_, p8_, p9_, p10_, q12_, q13_]
    ·
     intro D t w hD hp hcl hI rest hk
     obtain ⟨v107, v109, O, ht, hs⟩ := hI
     obtain ⟨p0_, p11_, _⟩ := hp
     obtain ⟨p10_, _⟩ := (hcl.get 11 (by decide)) p11_
     obtain ⟨p1_, p2_, p3_, p9_, _⟩ := (hcl.get 10 (by decide)) p10_
     obtain ⟨p8_, _⟩ := (hcl.get 9 (by decide)) p9_
     obtain ⟨p7_, _⟩ := (hcl.get 8 (by decide)) p8_
     obtain ⟨p6_, _⟩ := (hcl.get 7 (by decide)) p7_
     obtain ⟨p4_, p5_, _⟩ := (hcl.get 6 (by decide)) p6_
     have q13_ := nz hcl 13 0 hD
     simp only [hD, p0_, p1_, p2_, p3_, p4_, p5_, p6_, p7_, p8_, p9_, p10_, p11_, q13_, cq] at ht hs
     subst ht
     have hs := hs.pull 4 rfl
     have hs : St _ [_,_,_,_,_,_] _ := hs
     refine s_append fk_S_impl_crossing (zv := (Value.agg #[Value.int .u16 0, Value.bool false, Value.int .i64 0, Value.int .u16 0, Value.int .i64 0])) (B := 32) hs (hs.row 1 rfl) rfl rfl rfl rfl rfl rfl rfl rfl rfl (by decide) rfl rfl (by decide) (by have := gq12_; omega) ?_
     intro v109 w hs
     refine g_d rfl ?_
     try dsimp only [set0,setS]
     have hs := hs.push 4 (by simp)
     refine hk _ _ ⟨v107, v109, O, ?_, hs.cast ?_⟩ <;> simp only [lq, cq, Nat.reduceBEq, p0_, p1_, p2_, p3_, p4_, p5_, p6_, p7_, p8_, p9_, p10_, p11_, q13_]
    ·
     intro D t w hD hp hcl hI rest hk
     obtain ⟨v107, v109, O, ht, hs⟩ := hI
     obtain ⟨p12_, _, p0_, p1_, p2_, p3_, p4_, p5_, p6_, p7_, p8_, p9_, p10_, p11_, _, _⟩ := hp
     simp only [hD, p0_, p1_, p2_, p3_, p4_, p5_, p6_, p7_, p8_, p9_, p10_, p11_, p12_, cq] at ht hs
     subst ht
     refine g_op (v := v109) rfl rfl rfl (g_d rfl ?_)
     try dsimp only [set0,setS]
     refine hk _ _ ⟨v107, v109, O, ?_, hs.cast ?_⟩ <;> simp only [lq, cq, Nat.reduceBEq, p0_, p1_, p2_, p3_, p4_, p5_, p6_, p7_, p8_, p9_, p10_, p11_, p12_]
    intro D t w hall hI
    obtain ⟨v107, v109, O, ht, hs⟩ := hI
    have p0_ : D 0 = true := hall 0 (by decide)
    have p1_ : D 1 = true := hall 1 (by decide)
    have p2_ : D 2 = true := hall 2 (by decide)
    have p3_ : D 3 = true := hall 3 (by decide)
    have p4_ : D 4 = true := hall 4 (by decide)
    have p5_ : D 5 = true := hall 5 (by decide)
    have p6_ : D 6 = true := hall 6 (by decide)
    have p7_ : D 7 = true := hall 7 (by decide)
    have p8_ : D 8 = true := hall 8 (by decide)
    have p9_ : D 9 = true := hall 9 (by decide)
    have p10_ : D 10 = true := hall 10 (by decide)
    have p11_ : D 11 = true := hall 11 (by decide)
    have p12_ : D 12 = true := hall 12 (by decide)
    have p13_ : D 13 = true := hall 13 (by decide)
    simp only [p0_, p1_, p2_, p3_, p4_, p5_, p6_, p7_, p8_, p9_, p10_, p11_, p12_, p13_, cq] at ht hs
    subst ht
    refine g_inBlock ?_
    have hs := hs.pull 5 rfl
    have hs := hs.pull 2 rfl
    have hs := hs.pull 5 rfl
    have hs := hs.pull 5 rfl
    have hs : St _ [_,_,_,_] _ := St.take (Γ' := [_,_]) hs
    exact ha _ _ ⟨v109, x99 ++ ([(⟨r104, x72, rdL r73 x101 0, i64w (((rdL x99 x72 z_S_impl_crossing).f_many) + 1)⟩ : S_impl_crossing)]), mSet x100 r104 true, H, rfl, hs⟩
   intro hb
   rw [if_neg (b_dec_f hb)] at H
   refine g_d rfl ?_
   try dsimp only [set0,setS]
   refine g_ops_nil (g_seq (g_cond_false rfl ?_))
   obtain rfl := Option.some.inj H
   subst Hx2_
   have hs := hs.pull 2 rfl
   have hs := hs.pull 2 rfl
   have hs := hs.pull 2 rfl
   have hs : St _ [_,_,_] _ := St.take (Γ' := [_]) hs
   refine g_exit rfl ?_
   exact ha2_ _ _ ⟨v98, x99, x100, Hr2_, rfl, hs⟩
  intro hb
  rw [if_neg (b_dec_f hb)] at H
  refine g_d rfl ?_
  try dsimp only [set0,setS]
  refine g_ops_nil (g_cond_false rfl ?_)
  obtain rfl := Option.some.inj H
  subst Hx1_
  have hs := hs.pull 1 rfl
  have hs : St _ [_] _ := St.take (Γ' := [_,_]) hs
  refine g_exit rfl ?_
  exact ha1_ _ _ ⟨v69, x70, Hr1_, rfl, hs⟩

/- function 37 impl_ShortestCrossing_1 -/
def impl_ShortestCrossing_1.post (w0 : World) (r : Bool) (v : Value) (w : World) : Prop := v = Value.bool r ∧ St w0 [] w
set_option maxHeartbeats 8000000 in
set_option maxRecDepth 100000 in
theorem impl_ShortestCrossing_1.calls {N : Nat} {a1 : S_impl_crossing} {w0 : World} {r : Bool} (H : impl_ShortestCrossing_1.f N a1 = some r) :
    Calls Try.prog 37 #[Value.agg (enc_S_impl_crossing a1).toArray] w0 fun e w => ∃ v, e = .returned v ∧ impl_ShortestCrossing_1.post w0 r v w := by
  unfold impl_ShortestCrossing_1.f at H
  have hs : St w0 [] w0 := St.refl w0
  refine calls_of_g (n := 6) Try.func37 rfl rfl ?_
  show G _ _ _ _ [_,_,_,_,_,_,_] _
  refine g_seq (g_region ?_)
  show G _ _ _ (.inRegion _ [0, 1] :: _) _ _
  refine s_box hs rfl rfl (cs := (enc_S_impl_crossing a1)) rfl rfl ?_
  intro b2 w hs
  show G _ _ _ _ [_,_,_,_,_,_,_] _
  refine g_op (v := Value.bool false) rfl rfl rfl ?_
  show G _ _ _ _ [_,_,_,_,_,_,_] _
  refine g_ops_nil (g_seq (g_region ?_))
  show G _ _ _ (.inRegion _ [0, 1, 2, 3, 4] :: _) _ _
  refine g_op (v := Value.pointer (some ⟨b2, 0, none⟩)) rfl rfl rfl ?_
  show G _ _ _ _ [_,_,_,_,_,_,_] _
  refine s_loadA rfl rfl (es := (enc_S_impl_Bank a1.f_bank)) rfl rfl (fun _ => rfl) (n := 2) (fun _ => rfl) (fk_S_impl_Bank.len _) (cells_load (hs.cells 0 rfl) 0 2 (by simp only [enc_S_impl_crossing]; first | rfl | exact List.take_of_length_le (Nat.le_of_eq (fk_S_impl_Bank.len _)) | simp [List.drop_append, List.take_append, encAI_len, encAB_len, encA_len, List.take_of_length_le])) ?_
  show G _ _ _ _ [_,_,_,_,_,_,_] _
  refine g_op (v := Value.agg (enc_S_impl_Bank (⟨0, true⟩ : S_impl_Bank)).toArray) rfl rfl (x_buildS (cs := (enc_S_impl_Bank (⟨0, true⟩ : S_impl_Bank))) (segs := [[Value.int .u16 0], [Value.bool false]]) rfl rfl (fun _ => rfl) ⟨rfl, (fun _ => rfl), rfl, (fun _ => rfl), trivial⟩ (by simp only [List.map_cons, List.map_nil, List.forall_mem_cons, List.not_mem_nil, false_implies, implies_true, and_true]; exact ⟨_, rfl, rfl⟩) (by first | rfl | (simp [ev, enc_S_impl_Bank]; done) | (simp [ev, enc_S_impl_Bank]; rfl))) ?_
  show G _ _ _ _ [_,_,_,_,_,_,_] _
  refine g_op (v := Value.bool (decide (a1.f_bank = (⟨0, true⟩ : S_impl_Bank)))) rfl rfl (x_eql rfl rfl rfl eq_S_impl_Bank_70_g (eq_S_impl_Bank_70 _ _ _)) ?_
  show G _ _ _ _ [_,_,_,_,_,_,_] _
  refine g_op (v := Value.bool (decide (a1.f_bank = (⟨0, true⟩ : S_impl_Bank)))) rfl rfl rfl ?_
  show G _ _ _ _ [_,_,_,_,_,_,_] _
  refine g_ops_nil ?_
  obtain rfl := Option.some.inj H
  refine g_ret Try.func37 (v := Value.bool (decide (a1.f_bank = (⟨0, true⟩ : S_impl_Bank)))) (res1 rfl rfl) ?_
  have hs : St _ [] _ := St.take (Γ' := [_]) hs
  exact ⟨_, rfl, rfl, hs⟩

/- function 36 slices_IndexFunc_impl_crossing_impl_crossing_at_impl_ShortestCrossing_1 -/
def slices_IndexFunc_impl_crossing_impl_crossing_at_impl_ShortestCrossing_1.post (w0 : World) (r : Int) (v : Value) (w : World) : Prop := v = Value.int .i64 r ∧ St w0 [] w
set_option maxHeartbeats 8000000 in
set_option maxRecDepth 100000 in
theorem slices_IndexFunc_impl_crossing_impl_crossing_at_impl_ShortestCrossing_1.calls {N : Nat} {a1 : (List S_impl_crossing)} {v2 : Value} {w0 : World} {r : Int} (hr0 : RdRow k_S_impl_crossing w0 v2 a1) (H : slices_IndexFunc_impl_crossing_impl_crossing_at_impl_ShortestCrossing_1.f N a1 = some r) :
    Calls Try.prog 36 #[v2, Value.func (Fn.func 37) #[] #[]] w0 fun e w => ∃ v, e = .returned v ∧ slices_IndexFunc_impl_crossing_impl_crossing_at_impl_ShortestCrossing_1.post w0 r v w := by
  unfold slices_IndexFunc_impl_crossing_impl_crossing_at_impl_ShortestCrossing_1.f at H
  have hs : St w0 [] w0 := St.refl w0
  refine calls_of_g (n := 17) Try.func36 rfl rfl ?_
  show G _ _ _ _ [_,_,_,_,_,_,_,_,_,_,_,_,_,_,_,_,_,_,_] _
  refine g_seq (g_region ?_)
  show G _ _ _ (.inRegion _ [0] :: _) _ _
  refine g_op (v := Value.int .i64 0) rfl rfl rfl ?_
  show G _ _ _ _ [_,_,_,_,_,_,_,_,_,_,_,_,_,_,_,_,_,_,_] _
  refine g_ops_nil (g_seq (g_seq (g_region ?_)))
  show G _ _ _ (.inRegion _ [0, 1, 2] :: _) _ _
  refine g_op (v := v2) rfl rfl rfl ?_
  show G _ _ _ _ [_,_,_,_,_,_,_,_,_,_,_,_,_,_,_,_,_,_,_] _
  refine s_len (hs.rd hr0) rfl rfl rfl rfl rfl ?_
  show G _ _ _ _ [_,_,_,_,_,_,_,_,_,_,_,_,_,_,_,_,_,_,_] _
  refine g_op (v := Value.int .i64 0) rfl rfl rfl ?_
  show G _ _ _ _ [_,_,_,_,_,_,_,_,_,_,_,_,_,_,_,_,_,_,_] _
  refine g_ops_nil ?_
  obtain ⟨o1_, Ho, Hr1_⟩ := bind_get H
  refine g_block_join (J := fun t w => slices_IndexFunc_impl_crossing_impl_crossing_at_impl_ShortestCrossing_1.a0 N = some r ∧ Fr t (fun O => ([O 0, O 1, O 2, O 3, O 4, O 5, O 6, O 7, O 8, O 9, O 10, O 11, O 12, O 13, O 14, O 15, O 16, O 17, O 18] : List Value)) ∧ St w0 [] w) ?_ ?_
  ·
   rintro t w ⟨H, hf, hs⟩
   obtain ⟨O, rfl⟩ := hf.open
   show G _ _ _ _ [_,_,_,_,_,_,_,_,_,_,_,_,_,_,_,_,_,_,_] _
   unfold slices_IndexFunc_impl_crossing_impl_crossing_at_impl_ShortestCrossing_1.a0 at H
   refine g_seq (g_region ?_)
   show G _ _ _ (.inRegion _ [0] :: _) _ _
   refine g_op (v := Value.int .i64 (-1)) rfl rfl rfl ?_
   show G _ _ _ _ [_,_,_,_,_,_,_,_,_,_,_,_,_,_,_,_,_,_,_] _
   refine g_ops_nil ?_
   obtain rfl := Option.some.inj H
   refine g_ret Try.func36 (v := Value.int .i64 (-1)) (res1 rfl rfl) ?_
   have hs : St _ [] _ := St.take (Γ' := []) hs
   exact ⟨_, rfl, rfl, hs⟩
  intro ha1_
  have hs : St _ [] _ := St.take (Γ' := []) hs
  refine g_loop_fuel (I := fun n_ t w => ∃ x3 : Int, rounds (fun s => slices_IndexFunc_impl_crossing_impl_crossing_at_impl_ShortestCrossing_1.b0 N a1 s) n_ x3 = some o1_ ∧ Fr t (fun O => ([v2, Value.func (Fn.func 37) #[] #[], O 2, O 3, O 4, O 5, O 6, Value.int .i64 (a1.length : Int), Value.int .i64 x3, O 9, O 10, O 11, O 12, O 13, O 14, O 15, O 16, O 17, O 18] : List Value)) ∧ St w0 [] w) N ⟨0, Ho, rfl, hs⟩ ?_ ?_
  ·
   rintro _ _ ⟨x3, h, _⟩
   exact rounds_zero h
  intro n_ ih1_
  rintro t w ⟨x3, Ho, hf, hs⟩
  obtain ⟨O, rfl⟩ := hf.open
  show G _ _ _ _ [_,_,_,_,_,_,_,_,_,_,_,_,_,_,_,_,_,_,_] _
  obtain ⟨x2_, H, Hx1_⟩ := rounds_succ Ho
  have H : slices_IndexFunc_impl_crossing_impl_crossing_at_impl_ShortestCrossing_1.b0 N a1 x3 = some x2_ := H
  unfold slices_IndexFunc_impl_crossing_impl_crossing_at_impl_ShortestCrossing_1.b0 at H
  refine g_seq (g_region ?_)
  show G _ _ _ (.inRegion _ [0] :: _) _ _
  refine g_op_b (B := decide (x3 < (a1.length : Int))) rfl rfl rfl ?_ ?_
  ·
   intro hb
   rw [if_pos (b_dec_t hb)] at H
   show G _ _ _ _ [_,_,_,_,_,_,_,_,_,_,_,_,_,_,_,_,_,_,_] _
   refine g_ops_nil (g_seq (g_cond_true rfl (g_skip (g_seq ?_))))
   refine g_block (g_seq (g_region ?_))
   show G _ _ _ (.inRegion _ [0, 1] :: _) _ _
   refine g_op (v := Value.int .i64 x3) rfl rfl rfl ?_
   show G _ _ _ _ [_,_,_,_,_,_,_,_,_,_,_,_,_,_,_,_,_,_,_] _
   refine g_op (v := Value.int .i64 x3) rfl rfl rfl ?_
   show G _ _ _ _ [_,_,_,_,_,_,_,_,_,_,_,_,_,_,_,_,_,_,_] _
   refine g_ops_nil (g_seq (g_region ?_))
   show G _ _ _ (.inRegion _ [0, 1, 2, 3, 4, 5] :: _) _ _
   refine g_op (v := Value.func (Fn.func 37) #[] #[]) rfl rfl rfl ?_
   show G _ _ _ _ [_,_,_,_,_,_,_,_,_,_,_,_,_,_,_,_,_,_,_] _
   refine g_op (v := v2) rfl rfl rfl ?_
   show G _ _ _ _ [_,_,_,_,_,_,_,_,_,_,_,_,_,_,_,_,_,_,_] _
   refine g_op (v := Value.int .i64 x3) rfl rfl rfl ?_
   show G _ _ _ _ [_,_,_,_,_,_,_,_,_,_,_,_,_,_,_,_,_,_,_] _
   obtain ⟨g1, H⟩ := ite_get H
   refine s_idx fk_S_impl_crossing z_S_impl_crossing (hs.rd hr0) rfl (fun _ => rfl) g1.1 g1.2 rfl rfl rfl rfl rfl ?_
   intro p4 hp4 lp4 op4
   show G _ _ _ _ [_,_,_,_,_,_,_,_,_,_,_,_,_,_,_,_,_,_,_] _
   refine s_loadA rfl rfl (es := (enc_S_impl_crossing (rdL a1 x3 z_S_impl_crossing))) rfl rfl (fun _ => rfl) (n := 5) (fun _ => rfl) (fk_S_impl_crossing.len _) hp4 ?_
   show G _ _ _ _ [_,_,_,_,_,_,_,_,_,_,_,_,_,_,_,_,_,_,_] _
   obtain ⟨r5, Hr5, H⟩ := bind_get H
   refine s_call (args := [Value.agg (enc_S_impl_crossing (rdL a1 x3 z_S_impl_crossing)).toArray]) rfl rfl (x_callV rfl (callFunc_enter Try.func37 rfl rfl) rfl rfl) (impl_ShortestCrossing_1.calls (a1 := rdL a1 x3 z_S_impl_crossing) Hr5) ?_
   rintro _ w ⟨rfl, hs2⟩
   have hs : St _ [] _ := hs.call hs2
   cases r5 with
   | true =>
     rw [if_pos rfl] at H
     show G _ _ _ _ [_,_,_,_,_,_,_,_,_,_,_,_,_,_,_,_,_,_,_] _
     refine g_ops_nil (g_cond_true rfl (g_seq (g_region ?_)))
     show G _ _ _ (.inRegion _ [0, 1] :: _) _ _
     refine g_op (v := Value.int .i64 x3) rfl rfl rfl ?_
     show G _ _ _ _ [_,_,_,_,_,_,_,_,_,_,_,_,_,_,_,_,_,_,_] _
     refine g_op (v := Value.int .i64 x3) rfl rfl rfl ?_
     show G _ _ _ _ [_,_,_,_,_,_,_,_,_,_,_,_,_,_,_,_,_,_,_] _
     refine g_ops_nil ?_
     obtain rfl := Option.some.inj H
     subst Hx1_
     have H := Option.some.inj Hr1_
     subst H
     refine g_ret Try.func36 (v := Value.int .i64 x3) (res1 rfl rfl) ?_
     have hs : St _ [] _ := St.take (Γ' := []) hs
     exact ⟨_, rfl, rfl, hs⟩
   | false =>
     rw [if_neg Bool.false_ne_true] at H
     show G _ _ _ _ [_,_,_,_,_,_,_,_,_,_,_,_,_,_,_,_,_,_,_] _
     refine g_ops_nil (g_cond_false rfl (g_skip ?_))
     refine g_inBlock (g_region ?_)
     show G _ _ _ (.inRegion _ [0, 1] :: _) _ _
     refine g_op (v := Value.int .i64 (i64w (x3 + 1))) rfl rfl rfl ?_
     show G _ _ _ _ [_,_,_,_,_,_,_,_,_,_,_,_,_,_,_,_,_,_,_] _
     refine g_op (v := Value.int .i64 (i64w (x3 + 1))) rfl rfl rfl ?_
     show G _ _ _ _ [_,_,_,_,_,_,_,_,_,_,_,_,_,_,_,_,_,_,_] _
     refine g_ops_nil ?_
     obtain rfl := Option.some.inj H
     have hs : St _ [] _ := St.take (Γ' := []) hs
     exact ih1_ _ _ ⟨i64w (x3 + 1), Hx1_, rfl, hs⟩
  intro hb
  rw [if_neg (b_dec_f hb)] at H
  show G _ _ _ _ [_,_,_,_,_,_,_,_,_,_,_,_,_,_,_,_,_,_,_] _
  refine g_ops_nil (g_seq (g_cond_false rfl ?_))
  obtain rfl := Option.some.inj H
  subst Hx1_
  have hs : St _ [] _ := St.take (Γ' := []) hs
  refine g_exit rfl ?_
  exact ha1_ _ _ ⟨Hr1_, rfl, hs⟩

end Go.Proofs.YtcaokmnajnfpiaaX
