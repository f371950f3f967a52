/- Contracts, printed by gen.py. -/
import Derived.Test.YtgpdpedpmhonkaaXT
import Derived.Test.YtgpdpedpmhonkaaProg
import Derived.Test.YtgpdpedpmhonkaaXRowR
import Derived.Test.YtgpdpedpmhonkaaXSq
import Derived.Test.YtgpdpedpmhonkaaXSeg
import Derived.Test.YtgpdpedpmhonkaaXKey
import Derived.Test.YtgpdpedpmhonkaaXPart
import Derived.Test.YtgpdpedpmhonkaaXC8
namespace Go.Proofs.YtgpdpedpmhonkaaX
open Go Go.RowKit Go.Proofs
set_option linter.unusedVariables false
set_option linter.unusedSimpArgs false
/- function 62 _impl_finder_splits -/
def _impl_finder_can.post (wb : World) (Z : As) (b2 : Nat) (r : (Bool × (List (S_impl_knowledgeLeft × Bool)))) (v : Value) (w : World) : Prop := v = Value.bool r.1 ∧ St wb [MapAs b2 ek_S_impl_knowledgeLeft Value.bool r.2, Z] w
def _impl_finder_splits.post (wb : World) (Z : As) (b2 : Nat) (r : (Bool × (List (S_impl_knowledgeLeft × Bool)))) (v : Value) (w : World) : Prop := v = Value.bool r.1 ∧ St wb [MapAs b2 ek_S_impl_knowledgeLeft Value.bool r.2, Z] w
set_option maxHeartbeats 8000000 in
set_option maxRecDepth 100000 in
theorem _impl_finder_splits.calls {N : Nat} {self : (List (S_impl_knowledgeLeft × Bool)) → S_impl_knowledge → Int → Option (Bool × (List (S_impl_knowledgeLeft × Bool)))} (ih : ∀ (a1 : (List (S_impl_knowledgeLeft × Bool))) (a4 : S_impl_knowledge) (a5 : Int) (b2 : Nat) (wb : World) (Z : As) (w0 : World) (r : (Bool × (List (S_impl_knowledgeLeft × Bool)))) (hs : St wb [MapAs b2 ek_S_impl_knowledgeLeft Value.bool a1, Z] w0), self a1 a4 a5 = some r → Calls Try.prog 32 #[Value.map (some b2), Value.agg (enc_S_impl_knowledge a4).toArray, Value.int .i64 a5] w0 fun e w => ∃ v, e = .returned v ∧ _impl_finder_can.post wb Z b2 r v w) {a1 : (List (S_impl_knowledgeLeft × Bool))} {a4 : S_impl_knowledge} {a5 : S_impl_form} {a6 : Int} {b2 : Nat} {wb : World} {Z : As} {w0 : World} {r : (Bool × (List (S_impl_knowledgeLeft × Bool)))} (hs : St wb [MapAs b2 ek_S_impl_knowledgeLeft Value.bool a1, Z] w0) (H : _impl_finder_splits.f N self a1 a4 a5 a6 = some r) :
    Calls Try.prog 62 #[Value.map (some b2), Value.agg (enc_S_impl_knowledge a4).toArray, Value.agg (enc_S_impl_form a5).toArray, Value.int .i64 a6] w0 fun e w => ∃ v, e = .returned v ∧ _impl_finder_splits.post wb Z b2 r v w := by
  unfold _impl_finder_splits.f at H
  refine calls_of_g (n := 30) Try.func62 rfl rfl ?_
  show G _ _ _ _ [_,_,_,_,_,_,_,_,_,_,_,_,_,_,_,_,_,_,_,_,_,_,_,_,_,_,_,_,_,_,_,_,_,_] _
  refine g_seq (g_rg [0, 1, 2] rfl ?_)
  refine s_box hs rfl rfl (cs := (enc_S_impl_knowledge a4)) rfl rfl ?_
  intro b7 w hs
  refine s_box hs rfl rfl (cs := (enc_S_impl_form a5)) rfl rfl ?_
  intro b9 w hs
  refine g_op (v := Value.bool false) rfl rfl rfl ?_
  show G _ _ _ _ [_,_,_,_,_,_,_,_,_,_,_,_,_,_,_,_,_,_,_,_,_,_,_,_,_,_,_,_,_,_,_,_,_,_] _
  refine g_ops_nil (g_seq (g_rg [0, 1, 2, 3, 4, 5, 6, 7, 8, 9, 10, 11, 12, 13, 14, 15, 16, 17, 18, 19, 20, 21, 22, 23, 24, 25] rfl ?_))
  refine g_op (v := Value.map (some b2)) rfl rfl rfl ?_
  refine s_loadA rfl rfl (es := (enc_S_impl_knowledge a4)) rfl rfl (fun _ => rfl) (n := 5) (fun _ => rfl) (fk_S_impl_knowledge.len _) (cells_all (hs.cells 1 rfl)) ?_
  refine s_loadA rfl rfl (es := (enc_S_impl_form a5)) rfl rfl (fun _ => rfl) (n := 8) (fun _ => rfl) (fk_S_impl_form.len _) (cells_all (hs.cells 0 rfl)) ?_
  obtain ⟨r11, Hr11, H⟩ := bind_get H
  refine s_call (args := [Value.agg (enc_S_impl_knowledge a4).toArray, Value.agg (enc_S_impl_form a5).toArray, Value.int .i64 (-1)]) rfl rfl (x_call rfl (callFunc_enter Try.func79 rfl rfl) rfl) (_impl_knowledge_behind.calls (a1 := a4) (a2 := a5) (a3 := (-1)) Hr11) ?_
  rintro _ w ⟨rfl, hs2⟩
  have hs : St _ [_,_,_,_] _ := hs.call hs2
  show G _ _ _ _ [_,_,_,_,_,_,_,_,_,_,_,_,_,_,_,_,_,_,_,_,_,_,_,_,_,_,_,_,_,_,_,_,_,_] _
  refine g_op (v := Value.int .i64 a6) rfl rfl rfl ?_
  refine g_op (v := Value.int .i64 (i64w (a6 - 1))) rfl rfl rfl ?_
  obtain ⟨r12, Hr12, H⟩ := bind_get H
  have hs := hs.pull 2 rfl
  have hs : St _ [_,_,_,_] _ := hs
  have hs := hs.pack 1
  refine s_call (args := [Value.map (some b2), Value.agg (enc_S_impl_knowledge r11).toArray, Value.int .i64 (i64w (a6 - 1))]) rfl rfl (x_call rfl (callFunc_enter Try.func32 rfl rfl) rfl) (ih a1 r11 (i64w (a6 - 1)) _ _ _ _ _ hs Hr12) ?_
  rintro _ w ⟨rfl, hs⟩
  have hs := St.unpack (Γ := [_]) hs
  have hs : St _ [_,_,_,_] _ := hs
  generalize hb1_ : r12.1 = b_ at H ⊢
  cases b_ with
  | true =>
    rw [if_pos rfl] at H
    refine g_op (v := Value.bool true) rfl rfl rfl ?_
    refine g_op (v := Value.map (some b2)) rfl rfl rfl ?_
    refine s_loadA rfl rfl (es := (enc_S_impl_knowledge a4)) rfl rfl (fun _ => rfl) (n := 5) (fun _ => rfl) (fk_S_impl_knowledge.len _) (cells_all (hs.cells 2 rfl)) ?_
    refine s_loadA rfl rfl (es := (enc_S_impl_form a5)) rfl rfl (fun _ => rfl) (n := 8) (fun _ => rfl) (fk_S_impl_form.len _) (cells_all (hs.cells 1 rfl)) ?_
    show G _ _ _ _ [_,_,_,_,_,_,_,_,_,_,_,_,_,_,_,_,_,_,_,_,_,_,_,_,_,_,_,_,_,_,_,_,_,_] _
    obtain ⟨r13, Hr13, H⟩ := bind_get H
    refine s_call (args := [Value.agg (enc_S_impl_knowledge a4).toArray, Value.agg (enc_S_impl_form a5).toArray, Value.int .i64 0]) rfl rfl (x_call rfl (callFunc_enter Try.func79 rfl rfl) rfl) (_impl_knowledge_behind.calls (a1 := a4) (a2 := a5) (a3 := 0) Hr13) ?_
    rintro _ w ⟨rfl, hs2⟩
    have hs : St _ [_,_,_,_] _ := hs.call hs2
    refine g_op (v := Value.int .i64 a6) rfl rfl rfl ?_
    refine g_op (v := Value.int .i64 (i64w (a6 - 1))) rfl rfl rfl ?_
    obtain ⟨r14, Hr14, H⟩ := bind_get H
    have hs := hs.pull 0 rfl
    have hs : St _ [_,_,_,_] _ := hs
    have hs := hs.pack 1
    refine s_call (args := [Value.map (some b2), Value.agg (enc_S_impl_knowledge r13).toArray, Value.int .i64 (i64w (a6 - 1))]) rfl rfl (x_call rfl (callFunc_enter Try.func32 rfl rfl) rfl) (ih r12.2 r13 (i64w (a6 - 1)) _ _ _ _ _ hs Hr14) ?_
    rintro _ w ⟨rfl, hs⟩
    have hs := St.unpack (Γ := [_]) hs
    have hs : St _ [_,_,_,_] _ := hs
    show G _ _ _ _ [_,_,_,_,_,_,_,_,_,_,_,_,_,_,_,_,_,_,_,_,_,_,_,_,_,_,_,_,_,_,_,_,_,_] _
    refine g_op_b (B := r14.1) rfl rfl rfl ?_ ?_
    ·
     intro hb
     rw [if_pos (b_var_t hb)] at H
     show G _ _ _ _ [_,_,_,_,_,_,_,_,_,_,_,_,_,_,_,_,_,_,_,_,_,_,_,_,_,_,_,_,_,_,_,_,_,_] _
     refine g_op (v := Value.bool true) rfl rfl rfl ?_
     refine g_op (v := Value.map (some b2)) rfl rfl rfl ?_
     refine s_loadA rfl rfl (es := (enc_S_impl_knowledge a4)) rfl rfl (fun _ => rfl) (n := 5) (fun _ => rfl) (fk_S_impl_knowledge.len _) (cells_all (hs.cells 2 rfl)) ?_
     refine s_loadA rfl rfl (es := (enc_S_impl_form a5)) rfl rfl (fun _ => rfl) (n := 8) (fun _ => rfl) (fk_S_impl_form.len _) (cells_all (hs.cells 1 rfl)) ?_
     obtain ⟨r15, Hr15, H⟩ := bind_get H
     refine s_call (args := [Value.agg (enc_S_impl_knowledge a4).toArray, Value.agg (enc_S_impl_form a5).toArray, Value.int .i64 1]) rfl rfl (x_call rfl (callFunc_enter Try.func79 rfl rfl) rfl) (_impl_knowledge_behind.calls (a1 := a4) (a2 := a5) (a3 := 1) Hr15) ?_
     rintro _ w ⟨rfl, hs2⟩
     have hs : St _ [_,_,_,_] _ := hs.call hs2
     show G _ _ _ _ [_,_,_,_,_,_,_,_,_,_,_,_,_,_,_,_,_,_,_,_,_,_,_,_,_,_,_,_,_,_,_,_,_,_] _
     refine g_op (v := Value.int .i64 a6) rfl rfl rfl ?_
     refine g_op (v := Value.int .i64 (i64w (a6 - 1))) rfl rfl rfl ?_
     obtain ⟨r16, Hr16, H⟩ := bind_get H
     have hs := hs.pull 0 rfl
     have hs : St _ [_,_,_,_] _ := hs
     have hs := hs.pack 1
     refine s_call (args := [Value.map (some b2), Value.agg (enc_S_impl_knowledge r15).toArray, Value.int .i64 (i64w (a6 - 1))]) rfl rfl (x_call rfl (callFunc_enter Try.func32 rfl rfl) rfl) (ih r14.2 r15 (i64w (a6 - 1)) _ _ _ _ _ hs Hr16) ?_
     rintro _ w ⟨rfl, hs⟩
     have hs := St.unpack (Γ := [_]) hs
     have hs : St _ [_,_,_,_] _ := hs
     refine g_op (v := Value.bool r16.1) rfl rfl rfl ?_
     show G _ _ _ _ [_,_,_,_,_,_,_,_,_,_,_,_,_,_,_,_,_,_,_,_,_,_,_,_,_,_,_,_,_,_,_,_,_,_] _
     refine g_op (v := Value.bool r16.1) rfl rfl rfl (g_ops_nil ?_)
     obtain rfl := Option.some.inj H
     refine g_ret Try.func62 (v := Value.bool r16.1) (res1 rfl rfl) ?_
     have hs := hs.pull 3 rfl
     have hs := hs.pull 1 rfl
     have hs : St _ [_,_] _ := St.take (Γ' := [_,_]) hs
     exact ⟨_, rfl, rfl, hs⟩
    intro hb
    rw [if_neg (b_var_f hb)] at H
    refine g_op (v := Value.bool false) rfl rfl rfl (g_op_not rfl rfl (g_op_not rfl rfl (g_op_not rfl rfl ?_)))
    show G _ _ _ _ [_,_,_,_,_,_,_,_,_,_,_,_,_,_,_,_,_,_,_,_,_,_,_,_,_,_,_,_,_,_,_,_,_,_] _
    refine g_op_not rfl rfl (g_op_not rfl rfl (g_op_not rfl rfl (g_op_not rfl rfl ?_)))
    show G _ _ _ _ [_,_,_,_,_,_,_,_,_,_,_,_,_,_,_,_,_,_,_,_,_,_,_,_,_,_,_,_,_,_,_,_,_,_] _
    refine g_op (v := Value.bool false) rfl rfl rfl ?_
    refine g_op (v := Value.bool false) rfl rfl rfl (g_ops_nil ?_)
    obtain rfl := Option.some.inj H
    refine g_ret Try.func62 (v := Value.bool false) (res1 rfl rfl) ?_
    have hs := hs.pull 3 rfl
    have hs := hs.pull 1 rfl
    have hs : St _ [_,_] _ := St.take (Γ' := [_,_]) hs
    exact ⟨_, rfl, rfl, hs⟩
  | false =>
    rw [if_neg Bool.false_ne_true] at H
    refine g_op (v := Value.bool false) rfl rfl rfl (g_op_not rfl rfl (g_op_not rfl rfl ?_))
    show G _ _ _ _ [_,_,_,_,_,_,_,_,_,_,_,_,_,_,_,_,_,_,_,_,_,_,_,_,_,_,_,_,_,_,_,_,_,_] _
    refine g_op_not rfl rfl (g_op_not rfl rfl (g_op_not rfl rfl (g_op_not rfl rfl ?_)))
    show G _ _ _ _ [_,_,_,_,_,_,_,_,_,_,_,_,_,_,_,_,_,_,_,_,_,_,_,_,_,_,_,_,_,_,_,_,_,_] _
    refine g_op_not rfl rfl ?_
    refine g_op (v := Value.bool false) rfl rfl rfl ?_
    refine g_op (v := Value.bool false) rfl rfl rfl (g_op_not rfl rfl (g_op_not rfl rfl ?_))
    show G _ _ _ _ [_,_,_,_,_,_,_,_,_,_,_,_,_,_,_,_,_,_,_,_,_,_,_,_,_,_,_,_,_,_,_,_,_,_] _
    refine g_op_not rfl rfl (g_op_not rfl rfl (g_op_not rfl rfl (g_op_not rfl rfl ?_)))
    show G _ _ _ _ [_,_,_,_,_,_,_,_,_,_,_,_,_,_,_,_,_,_,_,_,_,_,_,_,_,_,_,_,_,_,_,_,_,_] _
    refine g_op_not rfl rfl ?_
    refine g_op (v := Value.bool false) rfl rfl rfl ?_
    refine g_op (v := Value.bool false) rfl rfl rfl ?_
    show G _ _ _ _ [_,_,_,_,_,_,_,_,_,_,_,_,_,_,_,_,_,_,_,_,_,_,_,_,_,_,_,_,_,_,_,_,_,_] _
    refine g_ops_nil ?_
    obtain rfl := Option.some.inj H
    refine g_ret Try.func62 (v := Value.bool false) (res1 rfl rfl) ?_
    have hs := hs.pull 3 rfl
    have hs := hs.pull 1 rfl
    have hs : St _ [_,_] _ := St.take (Γ' := [_,_]) hs
    exact ⟨_, rfl, rfl, hs⟩

/- function 61 _impl_finder_can_1 -/
def _impl_finder_can_1.post (wb : World) (Z : As) (b4 : Nat) (b3 : Nat) (b4 : Nat) (b8 : Nat) (b11 : Nat) (b14 : Nat) (r : (Bool × (List (S_impl_knowledgeLeft × Bool)) × (List (S_impl_knowledgeLeft × Bool)) × S_impl_knowledge × Int × Bool)) (v : Value) (w : World) : Prop := v = Value.bool r.1 ∧ St wb [MapAs b4 ek_S_impl_knowledgeLeft Value.bool r.2.1, Cells b3 ([Value.map (some b4)]) 67, Cells b8 (enc_S_impl_knowledge r.2.2.2.1) 71, Cells b11 ((encI .i64) r.2.2.2.2.1) 2, Cells b14 (encB r.2.2.2.2.2) 4, Z] w
set_option maxHeartbeats 8000000 in
set_option maxRecDepth 100000 in
theorem _impl_finder_can_1.calls {N : Nat} {self : (List (S_impl_knowledgeLeft × Bool)) → S_impl_knowledge → Int → Option (Bool × (List (S_impl_knowledgeLeft × Bool)))} (ih : ∀ (a1 : (List (S_impl_knowledgeLeft × Bool))) (a4 : S_impl_knowledge) (a5 : Int) (b2 : Nat) (wb : World) (Z : As) (w0 : World) (r : (Bool × (List (S_impl_knowledgeLeft × Bool)))) (hs : St wb [MapAs b2 ek_S_impl_knowledgeLeft Value.bool a1, Z] w0), self a1 a4 a5 = some r → Calls Try.prog 32 #[Value.map (some b2), Value.agg (enc_S_impl_knowledge a4).toArray, Value.int .i64 a5] w0 fun e w => ∃ v, e = .returned v ∧ _impl_finder_can.post wb Z b2 r v w) {a1 : S_impl_form} {a2 : (List (S_impl_knowledgeLeft × Bool))} {a7 : S_impl_knowledge} {a10 : Int} {a13 : Bool} {b3 : Nat} {b4 : Nat} {b8 : Nat} {b11 : Nat} {b14 : Nat} {wb : World} {Z : As} {w0 : World} {r : (Bool × (List (S_impl_knowledgeLeft × Bool)) × (List (S_impl_knowledgeLeft × Bool)) × S_impl_knowledge × Int × Bool)} (hs : St wb [MapAs b4 ek_S_impl_knowledgeLeft Value.bool a2, Cells b3 ([Value.map (some b4)]) 67, Cells b8 (enc_S_impl_knowledge a7) 71, Cells b11 ((encI .i64) a10) 2, Cells b14 (encB a13) 4, Z] w0) (H : _impl_finder_can_1.f N self a1 a2 a7 a10 a13 = some r) :
    Calls Try.prog 61 #[Value.agg (enc_S_impl_form a1).toArray, Value.pointer (some ⟨b3, 0, none⟩), Value.pointer (some ⟨b8, 0, none⟩), Value.pointer (some ⟨b11, 0, none⟩), Value.pointer (some ⟨b14, 0, none⟩)] w0 fun e w => ∃ v, e = .returned v ∧ _impl_finder_can_1.post wb Z b4 b3 b4 b8 b11 b14 r v w := by
  unfold _impl_finder_can_1.f at H
  refine calls_of_g (n := 9) Try.func61 rfl rfl ?_
  show G _ _ _ _ [_,_,_,_,_,_,_,_,_,_,_,_,_,_] _
  refine g_seq (g_rg [0, 1] rfl ?_)
  refine s_box hs rfl rfl (cs := (enc_S_impl_form a1)) rfl rfl ?_
  intro b16 w hs
  refine g_op (v := Value.bool false) rfl rfl rfl (g_ops_nil (g_seq (g_rg [0, 1, 2, 3, 4, 5] rfl ?_)))
  refine s_load1 rfl rfl (v := Value.map (some b4)) rfl rfl (fun _ => rfl) (cells_load (hs.cells 2 rfl) 0 1 rfl) ?_
  show G _ _ _ _ [_,_,_,_,_,_,_,_,_,_,_,_,_,_] _
  refine s_loadA rfl rfl (es := (enc_S_impl_knowledge a7)) rfl rfl (fun _ => rfl) (n := 5) (fun _ => rfl) (fk_S_impl_knowledge.len _) (cells_all (hs.cells 3 rfl)) ?_
  refine s_loadA rfl rfl (es := (enc_S_impl_form a1)) rfl rfl (fun _ => rfl) (n := 8) (fun _ => rfl) (fk_S_impl_form.len _) (cells_all (hs.cells 0 rfl)) ?_
  refine s_load1 rfl rfl (v := Value.int .i64 a10) rfl rfl (fun _ => rfl) (cells_load (hs.cells 4 rfl) 0 1 rfl) ?_
  show G _ _ _ _ [_,_,_,_,_,_,_,_,_,_,_,_,_,_] _
  obtain ⟨r18, Hr18, H⟩ := bind_get H
  have hs := hs.pull 1 rfl
  have hs : St _ [_,_,_,_,_,_,_] _ := hs
  have hs := hs.pack 1
  refine s_call (args := [Value.map (some b4), Value.agg (enc_S_impl_knowledge a7).toArray, Value.agg (enc_S_impl_form a1).toArray, Value.int .i64 a10]) rfl rfl (x_call rfl (callFunc_enter Try.func62 rfl rfl) rfl) (_impl_finder_splits.calls ih (a1 := a2) (a4 := a7) (a5 := a1) (a6 := a10) hs Hr18) ?_
  rintro _ w ⟨rfl, hs⟩
  have hs := St.unpack (Γ := [_]) hs
  have hs : St _ [_,_,_,_,_,_,_] _ := hs
  have hs := hs.pull 5 rfl
  have hs : St _ [_,_,_,_,_,_,_] _ := hs
  refine s_storeAll (n := 1) hs (fkB.len _) rfl rfl (vs := (encB r18.1)) rfl rfl rfl (fun _ => rfl) (fkB.len _) (fkB.one _) ?_
  intro w hs
  refine g_ops_nil (g_seq (g_rg [0, 1, 2] rfl ?_))
  refine s_load1 rfl rfl (v := Value.bool r18.1) rfl rfl (fun _ => rfl) (cells_load (hs.cells 0 rfl) 0 1 rfl) ?_
  refine g_op (v := Value.bool (!r18.1)) rfl rfl rfl ?_
  show G _ _ _ _ [_,_,_,_,_,_,_,_,_,_,_,_,_,_] _
  refine g_op (v := Value.bool (!r18.1)) rfl rfl rfl (g_ops_nil ?_)
  obtain rfl := Option.some.inj H
  refine g_ret Try.func61 (v := Value.bool (!r18.1)) (res1 rfl rfl) ?_
  have hs := hs.pull 6 rfl
  have hs := hs.pull 1 rfl
  have hs := hs.pull 6 rfl
  have hs := hs.pull 6 rfl
  have hs := hs.pull 6 rfl
  have hs := hs.pull 5 rfl
  have hs : St _ [_,_,_,_,_,_] _ := St.take (Γ' := [_]) hs
  exact ⟨_, rfl, rfl, hs⟩

end Go.Proofs.YtgpdpedpmhonkaaX
