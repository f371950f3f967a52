/- Contracts, printed by gen.py. -/
import Derived.Test.YtgpdpedpmhonkaaXT
import Derived.Test.YtgpdpedpmhonkaaProg
import Derived.Test.YtgpdpedpmhonkaaXRowR
import Derived.Test.YtgpdpedpmhonkaaXSq
import Derived.Test.YtgpdpedpmhonkaaXSeg
import Derived.Test.YtgpdpedpmhonkaaXKey
import Derived.Test.YtgpdpedpmhonkaaXPart
namespace Go.Proofs.YtgpdpedpmhonkaaX
open Go Go.RowKit Go.Proofs
set_option linter.unusedVariables false
set_option linter.unusedSimpArgs false
/- function 7 laws_toTask -/
def laws_toTask.post (w0 : World) (r : S_laws_Task) (v : Value) (w : World) : Prop := v = Value.agg (enc_S_laws_Task r).toArray ∧ St w0 [] w
set_option maxHeartbeats 8000000 in
set_option maxRecDepth 100000 in
theorem laws_toTask.calls {N : Nat} {a1 : S_laws_Task} {w0 : World} {r : S_laws_Task} (H : laws_toTask.f N a1 = some r) :
    Calls Try.prog 7 #[Value.agg (enc_S_laws_Task a1).toArray] w0 fun e w => ∃ v, e = .returned v ∧ laws_toTask.post w0 r v w := by
  unfold laws_toTask.f at H
  have hs : St w0 [] w0 := St.refl w0
  refine calls_of_g (n := 16) Try.func7 rfl rfl ?_
  show G _ _ _ _ [_,_,_,_,_,_,_,_,_,_,_,_,_,_,_,_,_] _
  refine g_seq (g_rg [0, 1] rfl ?_)
  refine s_box hs rfl rfl (cs := (enc_S_laws_Task a1)) rfl rfl ?_
  intro b2 w hs
  refine s_alloc hs rfl rfl (z := (Value.agg #[Value.int .i8 0, Value.int .i8 0, Value.bool false, Value.bool false])) (cs := (enc_S_laws_Task z_S_laws_Task)) rfl (fun _ => rfl) rfl ?_
  intro b4 w hs
  refine g_ops_nil (g_seq (g_rg [0] rfl ?_))
  refine s_alloc hs rfl rfl (z := (Value.agg #[Value.int .i8 0, Value.int .i8 0, Value.bool false, Value.bool false])) (cs := (enc_S_laws_Task z_S_laws_Task)) rfl (fun _ => rfl) rfl ?_
  intro b6 w hs
  show G _ _ _ _ [_,_,_,_,_,_,_,_,_,_,_,_,_,_,_,_,_] _
  refine g_ops_nil (g_seq (g_rg [0, 1, 2, 3] rfl ?_))
  refine g_op (v := Value.pointer (some ⟨b2, 0, none⟩)) rfl rfl rfl ?_
  refine s_load1 rfl rfl (v := Value.int .i8 a1.f_Coins) rfl rfl (fun _ => rfl) (cells_load (hs.cells 2 rfl) 0 1 rfl) ?_
  refine g_op (v := Value.pointer (some ⟨b6, 0, none⟩)) rfl rfl rfl ?_
  show G _ _ _ _ [_,_,_,_,_,_,_,_,_,_,_,_,_,_,_,_,_] _
  refine s_store hs rfl rfl (vs := ((encI .i8) a1.f_Coins)) (cs' := (enc_S_laws_Task (⟨a1.f_Coins, z_S_laws_Task.f_Kind, z_S_laws_Task.f_None, z_S_laws_Task.f_Good⟩ : S_laws_Task))) rfl rfl rfl (n := 1) (fun _ => rfl) ((fkI .i8).len _) (by first | exact Nat.le_of_ble_eq_true rfl | simp [encAI_len, encAB_len, encA_len]) ((fkI .i8).one _) rfl ?_
  intro w hs
  refine g_ops_nil (g_seq (g_rg [0, 1, 2, 3] rfl ?_))
  refine g_op (v := Value.pointer (some ⟨b2, 1, none⟩)) rfl rfl rfl ?_
  refine s_load1 rfl rfl (v := Value.int .i8 a1.f_Kind) rfl rfl (fun _ => rfl) (cells_load (hs.cells 2 rfl) 1 1 rfl) ?_
  refine g_op (v := Value.pointer (some ⟨b6, 1, none⟩)) rfl rfl rfl ?_
  show G _ _ _ _ [_,_,_,_,_,_,_,_,_,_,_,_,_,_,_,_,_] _
  refine s_store hs rfl rfl (vs := ((encI .i8) a1.f_Kind)) (cs' := (enc_S_laws_Task (⟨(⟨a1.f_Coins, z_S_laws_Task.f_Kind, z_S_laws_Task.f_None, z_S_laws_Task.f_Good⟩ : S_laws_Task).f_Coins, a1.f_Kind, (⟨a1.f_Coins, z_S_laws_Task.f_Kind, z_S_laws_Task.f_None, z_S_laws_Task.f_Good⟩ : S_laws_Task).f_None, (⟨a1.f_Coins, z_S_laws_Task.f_Kind, z_S_laws_Task.f_None, z_S_laws_Task.f_Good⟩ : S_laws_Task).f_Good⟩ : S_laws_Task))) rfl rfl rfl (n := 1) (fun _ => rfl) ((fkI .i8).len _) (by first | exact Nat.le_of_ble_eq_true rfl | simp [encAI_len, encAB_len, encA_len]) ((fkI .i8).one _) rfl ?_
  intro w hs
  refine g_ops_nil (g_seq (g_rg [0, 1, 2, 3] rfl ?_))
  refine g_op (v := Value.pointer (some ⟨b2, 2, none⟩)) rfl rfl rfl ?_
  refine s_load1 rfl rfl (v := Value.bool a1.f_None) rfl rfl (fun _ => rfl) (cells_load (hs.cells 2 rfl) 2 1 rfl) ?_
  refine g_op (v := Value.pointer (some ⟨b6, 2, none⟩)) rfl rfl rfl ?_
  show G _ _ _ _ [_,_,_,_,_,_,_,_,_,_,_,_,_,_,_,_,_] _
  refine s_store hs rfl rfl (vs := (encB a1.f_None)) (cs' := (enc_S_laws_Task (⟨(⟨(⟨a1.f_Coins, z_S_laws_Task.f_Kind, z_S_laws_Task.f_None, z_S_laws_Task.f_Good⟩ : S_laws_Task).f_Coins, a1.f_Kind, (⟨a1.f_Coins, z_S_laws_Task.f_Kind, z_S_laws_Task.f_None, z_S_laws_Task.f_Good⟩ : S_laws_Task).f_None, (⟨a1.f_Coins, z_S_laws_Task.f_Kind, z_S_laws_Task.f_None, z_S_laws_Task.f_Good⟩ : S_laws_Task).f_Good⟩ : S_laws_Task).f_Coins, (⟨(⟨a1.f_Coins, z_S_laws_Task.f_Kind, z_S_laws_Task.f_None, z_S_laws_Task.f_Good⟩ : S_laws_Task).f_Coins, a1.f_Kind, (⟨a1.f_Coins, z_S_laws_Task.f_Kind, z_S_laws_Task.f_None, z_S_laws_Task.f_Good⟩ : S_laws_Task).f_None, (⟨a1.f_Coins, z_S_laws_Task.f_Kind, z_S_laws_Task.f_None, z_S_laws_Task.f_Good⟩ : S_laws_Task).f_Good⟩ : S_laws_Task).f_Kind, a1.f_None, (⟨(⟨a1.f_Coins, z_S_laws_Task.f_Kind, z_S_laws_Task.f_None, z_S_laws_Task.f_Good⟩ : S_laws_Task).f_Coins, a1.f_Kind, (⟨a1.f_Coins, z_S_laws_Task.f_Kind, z_S_laws_Task.f_None, z_S_laws_Task.f_Good⟩ : S_laws_Task).f_None, (⟨a1.f_Coins, z_S_laws_Task.f_Kind, z_S_laws_Task.f_None, z_S_laws_Task.f_Good⟩ : S_laws_Task).f_Good⟩ : S_laws_Task).f_Good⟩ : S_laws_Task))) rfl rfl rfl (n := 1) (fun _ => rfl) (fkB.len _) (by first | exact Nat.le_of_ble_eq_true rfl | simp [encAI_len, encAB_len, encA_len]) (fkB.one _) rfl ?_
  intro w hs
  refine g_ops_nil (g_seq (g_rg [0, 1, 2, 3] rfl ?_))
  refine g_op (v := Value.pointer (some ⟨b2, 3, none⟩)) rfl rfl rfl ?_
  refine s_load1 rfl rfl (v := Value.bool a1.f_Good) rfl rfl (fun _ => rfl) (cells_load (hs.cells 2 rfl) 3 1 rfl) ?_
  refine g_op (v := Value.pointer (some ⟨b6, 3, none⟩)) rfl rfl rfl ?_
  show G _ _ _ _ [_,_,_,_,_,_,_,_,_,_,_,_,_,_,_,_,_] _
  refine s_store hs rfl rfl (vs := (encB a1.f_Good)) (cs' := (enc_S_laws_Task (⟨(⟨(⟨(⟨a1.f_Coins, z_S_laws_Task.f_Kind, z_S_laws_Task.f_None, z_S_laws_Task.f_Good⟩ : S_laws_Task).f_Coins, a1.f_Kind, (⟨a1.f_Coins, z_S_laws_Task.f_Kind, z_S_laws_Task.f_None, z_S_laws_Task.f_Good⟩ : S_laws_Task).f_None, (⟨a1.f_Coins, z_S_laws_Task.f_Kind, z_S_laws_Task.f_None, z_S_laws_Task.f_Good⟩ : S_laws_Task).f_Good⟩ : S_laws_Task).f_Coins, (⟨(⟨a1.f_Coins, z_S_laws_Task.f_Kind, z_S_laws_Task.f_None, z_S_laws_Task.f_Good⟩ : S_laws_Task).f_Coins, a1.f_Kind, (⟨a1.f_Coins, z_S_laws_Task.f_Kind, z_S_laws_Task.f_None, z_S_laws_Task.f_Good⟩ : S_laws_Task).f_None, (⟨a1.f_Coins, z_S_laws_Task.f_Kind, z_S_laws_Task.f_None, z_S_laws_Task.f_Good⟩ : S_laws_Task).f_Good⟩ : S_laws_Task).f_Kind, a1.f_None, (⟨(⟨a1.f_Coins, z_S_laws_Task.f_Kind, z_S_laws_Task.f_None, z_S_laws_Task.f_Good⟩ : S_laws_Task).f_Coins, a1.f_Kind, (⟨a1.f_Coins, z_S_laws_Task.f_Kind, z_S_laws_Task.f_None, z_S_laws_Task.f_Good⟩ : S_laws_Task).f_None, (⟨a1.f_Coins, z_S_laws_Task.f_Kind, z_S_laws_Task.f_None, z_S_laws_Task.f_Good⟩ : S_laws_Task).f_Good⟩ : S_laws_Task).f_Good⟩ : S_laws_Task).f_Coins, (⟨(⟨(⟨a1.f_Coins, z_S_laws_Task.f_Kind, z_S_laws_Task.f_None, z_S_laws_Task.f_Good⟩ : S_laws_Task).f_Coins, a1.f_Kind, (⟨a1.f_Coins, z_S_laws_Task.f_Kind, z_S_laws_Task.f_None, z_S_laws_Task.f_Good⟩ : S_laws_Task).f_None, (⟨a1.f_Coins, z_S_laws_Task.f_Kind, z_S_laws_Task.f_None, z_S_laws_Task.f_Good⟩ : S_laws_Task).f_Good⟩ : S_laws_Task).f_Coins, (⟨(⟨a1.f_Coins, z_S_laws_Task.f_Kind, z_S_laws_Task.f_None, z_S_laws_Task.f_Good⟩ : S_laws_Task).f_Coins, a1.f_Kind, (⟨a1.f_Coins, z_S_laws_Task.f_Kind, z_S_laws_Task.f_None, z_S_laws_Task.f_Good⟩ : S_laws_Task).f_None, (⟨a1.f_Coins, z_S_laws_Task.f_Kind, z_S_laws_Task.f_None, z_S_laws_Task.f_Good⟩ : S_laws_Task).f_Good⟩ : S_laws_Task).f_Kind, a1.f_None, (⟨(⟨a1.f_Coins, z_S_laws_Task.f_Kind, z_S_laws_Task.f_None, z_S_laws_Task.f_Good⟩ : S_laws_Task).f_Coins, a1.f_Kind, (⟨a1.f_Coins, z_S_laws_Task.f_Kind, z_S_laws_Task.f_None, z_S_laws_Task.f_Good⟩ : S_laws_Task).f_None, (⟨a1.f_Coins, z_S_laws_Task.f_Kind, z_S_laws_Task.f_None, z_S_laws_Task.f_Good⟩ : S_laws_Task).f_Good⟩ : S_laws_Task).f_Good⟩ : S_laws_Task).f_Kind, (⟨(⟨(⟨a1.f_Coins, z_S_laws_Task.f_Kind, z_S_laws_Task.f_None, z_S_laws_Task.f_Good⟩ : S_laws_Task).f_Coins, a1.f_Kind, (⟨a1.f_Coins, z_S_laws_Task.f_Kind, z_S_laws_Task.f_None, z_S_laws_Task.f_Good⟩ : S_laws_Task).f_None, (⟨a1.f_Coins, z_S_laws_Task.f_Kind, z_S_laws_Task.f_None, z_S_laws_Task.f_Good⟩ : S_laws_Task).f_Good⟩ : S_laws_Task).f_Coins, (⟨(⟨a1.f_Coins, z_S_laws_Task.f_Kind, z_S_laws_Task.f_None, z_S_laws_Task.f_Good⟩ : S_laws_Task).f_Coins, a1.f_Kind, (⟨a1.f_Coins, z_S_laws_Task.f_Kind, z_S_laws_Task.f_None, z_S_laws_Task.f_Good⟩ : S_laws_Task).f_None, (⟨a1.f_Coins, z_S_laws_Task.f_Kind, z_S_laws_Task.f_None, z_S_laws_Task.f_Good⟩ : S_laws_Task).f_Good⟩ : S_laws_Task).f_Kind, a1.f_None, (⟨(⟨a1.f_Coins, z_S_laws_Task.f_Kind, z_S_laws_Task.f_None, z_S_laws_Task.f_Good⟩ : S_laws_Task).f_Coins, a1.f_Kind, (⟨a1.f_Coins, z_S_laws_Task.f_Kind, z_S_laws_Task.f_None, z_S_laws_Task.f_Good⟩ : S_laws_Task).f_None, (⟨a1.f_Coins, z_S_laws_Task.f_Kind, z_S_laws_Task.f_None, z_S_laws_Task.f_Good⟩ : S_laws_Task).f_Good⟩ : S_laws_Task).f_Good⟩ : S_laws_Task).f_None, a1.f_Good⟩ : S_laws_Task))) rfl rfl rfl (n := 1) (fun _ => rfl) (fkB.len _) (by first | exact Nat.le_of_ble_eq_true rfl | simp [encAI_len, encAB_len, encA_len]) (fkB.one _) rfl ?_
  intro w hs
  refine g_ops_nil (g_seq (g_rg [0, 1] rfl ?_))
  refine s_loadA rfl rfl (es := (enc_S_laws_Task (⟨(⟨(⟨(⟨a1.f_Coins, z_S_laws_Task.f_Kind, z_S_laws_Task.f_None, z_S_laws_Task.f_Good⟩ : S_laws_Task).f_Coins, a1.f_Kind, (⟨a1.f_Coins, z_S_laws_Task.f_Kind, z_S_laws_Task.f_None, z_S_laws_Task.f_Good⟩ : S_laws_Task).f_None, (⟨a1.f_Coins, z_S_laws_Task.f_Kind, z_S_laws_Task.f_None, z_S_laws_Task.f_Good⟩ : S_laws_Task).f_Good⟩ : S_laws_Task).f_Coins, (⟨(⟨a1.f_Coins, z_S_laws_Task.f_Kind, z_S_laws_Task.f_None, z_S_laws_Task.f_Good⟩ : S_laws_Task).f_Coins, a1.f_Kind, (⟨a1.f_Coins, z_S_laws_Task.f_Kind, z_S_laws_Task.f_None, z_S_laws_Task.f_Good⟩ : S_laws_Task).f_None, (⟨a1.f_Coins, z_S_laws_Task.f_Kind, z_S_laws_Task.f_None, z_S_laws_Task.f_Good⟩ : S_laws_Task).f_Good⟩ : S_laws_Task).f_Kind, a1.f_None, (⟨(⟨a1.f_Coins, z_S_laws_Task.f_Kind, z_S_laws_Task.f_None, z_S_laws_Task.f_Good⟩ : S_laws_Task).f_Coins, a1.f_Kind, (⟨a1.f_Coins, z_S_laws_Task.f_Kind, z_S_laws_Task.f_None, z_S_laws_Task.f_Good⟩ : S_laws_Task).f_None, (⟨a1.f_Coins, z_S_laws_Task.f_Kind, z_S_laws_Task.f_None, z_S_laws_Task.f_Good⟩ : S_laws_Task).f_Good⟩ : S_laws_Task).f_Good⟩ : S_laws_Task).f_Coins, (⟨(⟨(⟨a1.f_Coins, z_S_laws_Task.f_Kind, z_S_laws_Task.f_None, z_S_laws_Task.f_Good⟩ : S_laws_Task).f_Coins, a1.f_Kind, (⟨a1.f_Coins, z_S_laws_Task.f_Kind, z_S_laws_Task.f_None, z_S_laws_Task.f_Good⟩ : S_laws_Task).f_None, (⟨a1.f_Coins, z_S_laws_Task.f_Kind, z_S_laws_Task.f_None, z_S_laws_Task.f_Good⟩ : S_laws_Task).f_Good⟩ : S_laws_Task).f_Coins, (⟨(⟨a1.f_Coins, z_S_laws_Task.f_Kind, z_S_laws_Task.f_None, z_S_laws_Task.f_Good⟩ : S_laws_Task).f_Coins, a1.f_Kind, (⟨a1.f_Coins, z_S_laws_Task.f_Kind, z_S_laws_Task.f_None, z_S_laws_Task.f_Good⟩ : S_laws_Task).f_None, (⟨a1.f_Coins, z_S_laws_Task.f_Kind, z_S_laws_Task.f_None, z_S_laws_Task.f_Good⟩ : S_laws_Task).f_Good⟩ : S_laws_Task).f_Kind, a1.f_None, (⟨(⟨a1.f_Coins, z_S_laws_Task.f_Kind, z_S_laws_Task.f_None, z_S_laws_Task.f_Good⟩ : S_laws_Task).f_Coins, a1.f_Kind, (⟨a1.f_Coins, z_S_laws_Task.f_Kind, z_S_laws_Task.f_None, z_S_laws_Task.f_Good⟩ : S_laws_Task).f_None, (⟨a1.f_Coins, z_S_laws_Task.f_Kind, z_S_laws_Task.f_None, z_S_laws_Task.f_Good⟩ : S_laws_Task).f_Good⟩ : S_laws_Task).f_Good⟩ : S_laws_Task).f_Kind, (⟨(⟨(⟨a1.f_Coins, z_S_laws_Task.f_Kind, z_S_laws_Task.f_None, z_S_laws_Task.f_Good⟩ : S_laws_Task).f_Coins, a1.f_Kind, (⟨a1.f_Coins, z_S_laws_Task.f_Kind, z_S_laws_Task.f_None, z_S_laws_Task.f_Good⟩ : S_laws_Task).f_None, (⟨a1.f_Coins, z_S_laws_Task.f_Kind, z_S_laws_Task.f_None, z_S_laws_Task.f_Good⟩ : S_laws_Task).f_Good⟩ : S_laws_Task).f_Coins, (⟨(⟨a1.f_Coins, z_S_laws_Task.f_Kind, z_S_laws_Task.f_None, z_S_laws_Task.f_Good⟩ : S_laws_Task).f_Coins, a1.f_Kind, (⟨a1.f_Coins, z_S_laws_Task.f_Kind, z_S_laws_Task.f_None, z_S_laws_Task.f_Good⟩ : S_laws_Task).f_None, (⟨a1.f_Coins, z_S_laws_Task.f_Kind, z_S_laws_Task.f_None, z_S_laws_Task.f_Good⟩ : S_laws_Task).f_Good⟩ : S_laws_Task).f_Kind, a1.f_None, (⟨(⟨a1.f_Coins, z_S_laws_Task.f_Kind, z_S_laws_Task.f_None, z_S_laws_Task.f_Good⟩ : S_laws_Task).f_Coins, a1.f_Kind, (⟨a1.f_Coins, z_S_laws_Task.f_Kind, z_S_laws_Task.f_None, z_S_laws_Task.f_Good⟩ : S_laws_Task).f_None, (⟨a1.f_Coins, z_S_laws_Task.f_Kind, z_S_laws_Task.f_None, z_S_laws_Task.f_Good⟩ : S_laws_Task).f_Good⟩ : S_laws_Task).f_Good⟩ : S_laws_Task).f_None, a1.f_Good⟩ : S_laws_Task))) rfl rfl (fun _ => rfl) (n := 4) (fun _ => rfl) (fk_S_laws_Task.len _) (cells_all (hs.cells 0 rfl)) ?_
  have hs := hs.pull 1 rfl
  have hs : St _ [_,_,_] _ := hs
  refine s_storeAll (n := 4) hs (fk_S_laws_Task.len _) rfl rfl (vs := (enc_S_laws_Task (⟨(⟨(⟨(⟨a1.f_Coins, z_S_laws_Task.f_Kind, z_S_laws_Task.f_None, z_S_laws_Task.f_Good⟩ : S_laws_Task).f_Coins, a1.f_Kind, (⟨a1.f_Coins, z_S_laws_Task.f_Kind, z_S_laws_Task.f_None, z_S_laws_Task.f_Good⟩ : S_laws_Task).f_None, (⟨a1.f_Coins, z_S_laws_Task.f_Kind, z_S_laws_Task.f_None, z_S_laws_Task.f_Good⟩ : S_laws_Task).f_Good⟩ : S_laws_Task).f_Coins, (⟨(⟨a1.f_Coins, z_S_laws_Task.f_Kind, z_S_laws_Task.f_None, z_S_laws_Task.f_Good⟩ : S_laws_Task).f_Coins, a1.f_Kind, (⟨a1.f_Coins, z_S_laws_Task.f_Kind, z_S_laws_Task.f_None, z_S_laws_Task.f_Good⟩ : S_laws_Task).f_None, (⟨a1.f_Coins, z_S_laws_Task.f_Kind, z_S_laws_Task.f_None, z_S_laws_Task.f_Good⟩ : S_laws_Task).f_Good⟩ : S_laws_Task).f_Kind, a1.f_None, (⟨(⟨a1.f_Coins, z_S_laws_Task.f_Kind, z_S_laws_Task.f_None, z_S_laws_Task.f_Good⟩ : S_laws_Task).f_Coins, a1.f_Kind, (⟨a1.f_Coins, z_S_laws_Task.f_Kind, z_S_laws_Task.f_None, z_S_laws_Task.f_Good⟩ : S_laws_Task).f_None, (⟨a1.f_Coins, z_S_laws_Task.f_Kind, z_S_laws_Task.f_None, z_S_laws_Task.f_Good⟩ : S_laws_Task).f_Good⟩ : S_laws_Task).f_Good⟩ : S_laws_Task).f_Coins, (⟨(⟨(⟨a1.f_Coins, z_S_laws_Task.f_Kind, z_S_laws_Task.f_None, z_S_laws_Task.f_Good⟩ : S_laws_Task).f_Coins, a1.f_Kind, (⟨a1.f_Coins, z_S_laws_Task.f_Kind, z_S_laws_Task.f_None, z_S_laws_Task.f_Good⟩ : S_laws_Task).f_None, (⟨a1.f_Coins, z_S_laws_Task.f_Kind, z_S_laws_Task.f_None, z_S_laws_Task.f_Good⟩ : S_laws_Task).f_Good⟩ : S_laws_Task).f_Coins, (⟨(⟨a1.f_Coins, z_S_laws_Task.f_Kind, z_S_laws_Task.f_None, z_S_laws_Task.f_Good⟩ : S_laws_Task).f_Coins, a1.f_Kind, (⟨a1.f_Coins, z_S_laws_Task.f_Kind, z_S_laws_Task.f_None, z_S_laws_Task.f_Good⟩ : S_laws_Task).f_None, (⟨a1.f_Coins, z_S_laws_Task.f_Kind, z_S_laws_Task.f_None, z_S_laws_Task.f_Good⟩ : S_laws_Task).f_Good⟩ : S_laws_Task).f_Kind, a1.f_None, (⟨(⟨a1.f_Coins, z_S_laws_Task.f_Kind, z_S_laws_Task.f_None, z_S_laws_Task.f_Good⟩ : S_laws_Task).f_Coins, a1.f_Kind, (⟨a1.f_Coins, z_S_laws_Task.f_Kind, z_S_laws_Task.f_None, z_S_laws_Task.f_Good⟩ : S_laws_Task).f_None, (⟨a1.f_Coins, z_S_laws_Task.f_Kind, z_S_laws_Task.f_None, z_S_laws_Task.f_Good⟩ : S_laws_Task).f_Good⟩ : S_laws_Task).f_Good⟩ : S_laws_Task).f_Kind, (⟨(⟨(⟨a1.f_Coins, z_S_laws_Task.f_Kind, z_S_laws_Task.f_None, z_S_laws_Task.f_Good⟩ : S_laws_Task).f_Coins, a1.f_Kind, (⟨a1.f_Coins, z_S_laws_Task.f_Kind, z_S_laws_Task.f_None, z_S_laws_Task.f_Good⟩ : S_laws_Task).f_None, (⟨a1.f_Coins, z_S_laws_Task.f_Kind, z_S_laws_Task.f_None, z_S_laws_Task.f_Good⟩ : S_laws_Task).f_Good⟩ : S_laws_Task).f_Coins, (⟨(⟨a1.f_Coins, z_S_laws_Task.f_Kind, z_S_laws_Task.f_None, z_S_laws_Task.f_Good⟩ : S_laws_Task).f_Coins, a1.f_Kind, (⟨a1.f_Coins, z_S_laws_Task.f_Kind, z_S_laws_Task.f_None, z_S_laws_Task.f_Good⟩ : S_laws_Task).f_None, (⟨a1.f_Coins, z_S_laws_Task.f_Kind, z_S_laws_Task.f_None, z_S_laws_Task.f_Good⟩ : S_laws_Task).f_Good⟩ : S_laws_Task).f_Kind, a1.f_None, (⟨(⟨a1.f_Coins, z_S_laws_Task.f_Kind, z_S_laws_Task.f_None, z_S_laws_Task.f_Good⟩ : S_laws_Task).f_Coins, a1.f_Kind, (⟨a1.f_Coins, z_S_laws_Task.f_Kind, z_S_laws_Task.f_None, z_S_laws_Task.f_Good⟩ : S_laws_Task).f_None, (⟨a1.f_Coins, z_S_laws_Task.f_Kind, z_S_laws_Task.f_None, z_S_laws_Task.f_Good⟩ : S_laws_Task).f_Good⟩ : S_laws_Task).f_Good⟩ : S_laws_Task).f_None, a1.f_Good⟩ : S_laws_Task))) rfl rfl rfl (fun _ => rfl) (fk_S_laws_Task.len _) (fk_S_laws_Task.one _) ?_
  intro w hs
  refine g_ops_nil ?_
  obtain rfl := Option.some.inj H
  refine g_ret Try.func7 (v := Value.agg (enc_S_laws_Task (⟨(⟨(⟨(⟨a1.f_Coins, z_S_laws_Task.f_Kind, z_S_laws_Task.f_None, z_S_laws_Task.f_Good⟩ : S_laws_Task).f_Coins, a1.f_Kind, (⟨a1.f_Coins, z_S_laws_Task.f_Kind, z_S_laws_Task.f_None, z_S_laws_Task.f_Good⟩ : S_laws_Task).f_None, (⟨a1.f_Coins, z_S_laws_Task.f_Kind, z_S_laws_Task.f_None, z_S_laws_Task.f_Good⟩ : S_laws_Task).f_Good⟩ : S_laws_Task).f_Coins, (⟨(⟨a1.f_Coins, z_S_laws_Task.f_Kind, z_S_laws_Task.f_None, z_S_laws_Task.f_Good⟩ : S_laws_Task).f_Coins, a1.f_Kind, (⟨a1.f_Coins, z_S_laws_Task.f_Kind, z_S_laws_Task.f_None, z_S_laws_Task.f_Good⟩ : S_laws_Task).f_None, (⟨a1.f_Coins, z_S_laws_Task.f_Kind, z_S_laws_Task.f_None, z_S_laws_Task.f_Good⟩ : S_laws_Task).f_Good⟩ : S_laws_Task).f_Kind, a1.f_None, (⟨(⟨a1.f_Coins, z_S_laws_Task.f_Kind, z_S_laws_Task.f_None, z_S_laws_Task.f_Good⟩ : S_laws_Task).f_Coins, a1.f_Kind, (⟨a1.f_Coins, z_S_laws_Task.f_Kind, z_S_laws_Task.f_None, z_S_laws_Task.f_Good⟩ : S_laws_Task).f_None, (⟨a1.f_Coins, z_S_laws_Task.f_Kind, z_S_laws_Task.f_None, z_S_laws_Task.f_Good⟩ : S_laws_Task).f_Good⟩ : S_laws_Task).f_Good⟩ : S_laws_Task).f_Coins, (⟨(⟨(⟨a1.f_Coins, z_S_laws_Task.f_Kind, z_S_laws_Task.f_None, z_S_laws_Task.f_Good⟩ : S_laws_Task).f_Coins, a1.f_Kind, (⟨a1.f_Coins, z_S_laws_Task.f_Kind, z_S_laws_Task.f_None, z_S_laws_Task.f_Good⟩ : S_laws_Task).f_None, (⟨a1.f_Coins, z_S_laws_Task.f_Kind, z_S_laws_Task.f_None, z_S_laws_Task.f_Good⟩ : S_laws_Task).f_Good⟩ : S_laws_Task).f_Coins, (⟨(⟨a1.f_Coins, z_S_laws_Task.f_Kind, z_S_laws_Task.f_None, z_S_laws_Task.f_Good⟩ : S_laws_Task).f_Coins, a1.f_Kind, (⟨a1.f_Coins, z_S_laws_Task.f_Kind, z_S_laws_Task.f_None, z_S_laws_Task.f_Good⟩ : S_laws_Task).f_None, (⟨a1.f_Coins, z_S_laws_Task.f_Kind, z_S_laws_Task.f_None, z_S_laws_Task.f_Good⟩ : S_laws_Task).f_Good⟩ : S_laws_Task).f_Kind, a1.f_None, (⟨(⟨a1.f_Coins, z_S_laws_Task.f_Kind, z_S_laws_Task.f_None, z_S_laws_Task.f_Good⟩ : S_laws_Task).f_Coins, a1.f_Kind, (⟨a1.f_Coins, z_S_laws_Task.f_Kind, z_S_laws_Task.f_None, z_S_laws_Task.f_Good⟩ : S_laws_Task).f_None, (⟨a1.f_Coins, z_S_laws_Task.f_Kind, z_S_laws_Task.f_None, z_S_laws_Task.f_Good⟩ : S_laws_Task).f_Good⟩ : S_laws_Task).f_Good⟩ : S_laws_Task).f_Kind, (⟨(⟨(⟨a1.f_Coins, z_S_laws_Task.f_Kind, z_S_laws_Task.f_None, z_S_laws_Task.f_Good⟩ : S_laws_Task).f_Coins, a1.f_Kind, (⟨a1.f_Coins, z_S_laws_Task.f_Kind, z_S_laws_Task.f_None, z_S_laws_Task.f_Good⟩ : S_laws_Task).f_None, (⟨a1.f_Coins, z_S_laws_Task.f_Kind, z_S_laws_Task.f_None, z_S_laws_Task.f_Good⟩ : S_laws_Task).f_Good⟩ : S_laws_Task).f_Coins, (⟨(⟨a1.f_Coins, z_S_laws_Task.f_Kind, z_S_laws_Task.f_None, z_S_laws_Task.f_Good⟩ : S_laws_Task).f_Coins, a1.f_Kind, (⟨a1.f_Coins, z_S_laws_Task.f_Kind, z_S_laws_Task.f_None, z_S_laws_Task.f_Good⟩ : S_laws_Task).f_None, (⟨a1.f_Coins, z_S_laws_Task.f_Kind, z_S_laws_Task.f_None, z_S_laws_Task.f_Good⟩ : S_laws_Task).f_Good⟩ : S_laws_Task).f_Kind, a1.f_None, (⟨(⟨a1.f_Coins, z_S_laws_Task.f_Kind, z_S_laws_Task.f_None, z_S_laws_Task.f_Good⟩ : S_laws_Task).f_Coins, a1.f_Kind, (⟨a1.f_Coins, z_S_laws_Task.f_Kind, z_S_laws_Task.f_None, z_S_laws_Task.f_Good⟩ : S_laws_Task).f_None, (⟨a1.f_Coins, z_S_laws_Task.f_Kind, z_S_laws_Task.f_None, z_S_laws_Task.f_Good⟩ : S_laws_Task).f_Good⟩ : S_laws_Task).f_Good⟩ : S_laws_Task).f_None, a1.f_Good⟩ : S_laws_Task)).toArray) (resC rfl ⟨⟨_, rfl, (run_loadVar_agg (es := (enc_S_laws_Task (⟨(⟨(⟨(⟨a1.f_Coins, z_S_laws_Task.f_Kind, z_S_laws_Task.f_None, z_S_laws_Task.f_Good⟩ : S_laws_Task).f_Coins, a1.f_Kind, (⟨a1.f_Coins, z_S_laws_Task.f_Kind, z_S_laws_Task.f_None, z_S_laws_Task.f_Good⟩ : S_laws_Task).f_None, (⟨a1.f_Coins, z_S_laws_Task.f_Kind, z_S_laws_Task.f_None, z_S_laws_Task.f_Good⟩ : S_laws_Task).f_Good⟩ : S_laws_Task).f_Coins, (⟨(⟨a1.f_Coins, z_S_laws_Task.f_Kind, z_S_laws_Task.f_None, z_S_laws_Task.f_Good⟩ : S_laws_Task).f_Coins, a1.f_Kind, (⟨a1.f_Coins, z_S_laws_Task.f_Kind, z_S_laws_Task.f_None, z_S_laws_Task.f_Good⟩ : S_laws_Task).f_None, (⟨a1.f_Coins, z_S_laws_Task.f_Kind, z_S_laws_Task.f_None, z_S_laws_Task.f_Good⟩ : S_laws_Task).f_Good⟩ : S_laws_Task).f_Kind, a1.f_None, (⟨(⟨a1.f_Coins, z_S_laws_Task.f_Kind, z_S_laws_Task.f_None, z_S_laws_Task.f_Good⟩ : S_laws_Task).f_Coins, a1.f_Kind, (⟨a1.f_Coins, z_S_laws_Task.f_Kind, z_S_laws_Task.f_None, z_S_laws_Task.f_Good⟩ : S_laws_Task).f_None, (⟨a1.f_Coins, z_S_laws_Task.f_Kind, z_S_laws_Task.f_None, z_S_laws_Task.f_Good⟩ : S_laws_Task).f_Good⟩ : S_laws_Task).f_Good⟩ : S_laws_Task).f_Coins, (⟨(⟨(⟨a1.f_Coins, z_S_laws_Task.f_Kind, z_S_laws_Task.f_None, z_S_laws_Task.f_Good⟩ : S_laws_Task).f_Coins, a1.f_Kind, (⟨a1.f_Coins, z_S_laws_Task.f_Kind, z_S_laws_Task.f_None, z_S_laws_Task.f_Good⟩ : S_laws_Task).f_None, (⟨a1.f_Coins, z_S_laws_Task.f_Kind, z_S_laws_Task.f_None, z_S_laws_Task.f_Good⟩ : S_laws_Task).f_Good⟩ : S_laws_Task).f_Coins, (⟨(⟨a1.f_Coins, z_S_laws_Task.f_Kind, z_S_laws_Task.f_None, z_S_laws_Task.f_Good⟩ : S_laws_Task).f_Coins, a1.f_Kind, (⟨a1.f_Coins, z_S_laws_Task.f_Kind, z_S_laws_Task.f_None, z_S_laws_Task.f_Good⟩ : S_laws_Task).f_None, (⟨a1.f_Coins, z_S_laws_Task.f_Kind, z_S_laws_Task.f_None, z_S_laws_Task.f_Good⟩ : S_laws_Task).f_Good⟩ : S_laws_Task).f_Kind, a1.f_None, (⟨(⟨a1.f_Coins, z_S_laws_Task.f_Kind, z_S_laws_Task.f_None, z_S_laws_Task.f_Good⟩ : S_laws_Task).f_Coins, a1.f_Kind, (⟨a1.f_Coins, z_S_laws_Task.f_Kind, z_S_laws_Task.f_None, z_S_laws_Task.f_Good⟩ : S_laws_Task).f_None, (⟨a1.f_Coins, z_S_laws_Task.f_Kind, z_S_laws_Task.f_None, z_S_laws_Task.f_Good⟩ : S_laws_Task).f_Good⟩ : S_laws_Task).f_Good⟩ : S_laws_Task).f_Kind, (⟨(⟨(⟨a1.f_Coins, z_S_laws_Task.f_Kind, z_S_laws_Task.f_None, z_S_laws_Task.f_Good⟩ : S_laws_Task).f_Coins, a1.f_Kind, (⟨a1.f_Coins, z_S_laws_Task.f_Kind, z_S_laws_Task.f_None, z_S_laws_Task.f_Good⟩ : S_laws_Task).f_None, (⟨a1.f_Coins, z_S_laws_Task.f_Kind, z_S_laws_Task.f_None, z_S_laws_Task.f_Good⟩ : S_laws_Task).f_Good⟩ : S_laws_Task).f_Coins, (⟨(⟨a1.f_Coins, z_S_laws_Task.f_Kind, z_S_laws_Task.f_None, z_S_laws_Task.f_Good⟩ : S_laws_Task).f_Coins, a1.f_Kind, (⟨a1.f_Coins, z_S_laws_Task.f_Kind, z_S_laws_Task.f_None, z_S_laws_Task.f_Good⟩ : S_laws_Task).f_None, (⟨a1.f_Coins, z_S_laws_Task.f_Kind, z_S_laws_Task.f_None, z_S_laws_Task.f_Good⟩ : S_laws_Task).f_Good⟩ : S_laws_Task).f_Kind, a1.f_None, (⟨(⟨a1.f_Coins, z_S_laws_Task.f_Kind, z_S_laws_Task.f_None, z_S_laws_Task.f_Good⟩ : S_laws_Task).f_Coins, a1.f_Kind, (⟨a1.f_Coins, z_S_laws_Task.f_Kind, z_S_laws_Task.f_None, z_S_laws_Task.f_Good⟩ : S_laws_Task).f_None, (⟨a1.f_Coins, z_S_laws_Task.f_Kind, z_S_laws_Task.f_None, z_S_laws_Task.f_Good⟩ : S_laws_Task).f_Good⟩ : S_laws_Task).f_Good⟩ : S_laws_Task).f_None, a1.f_Good⟩ : S_laws_Task))) rfl (congrArg (Result.ok · _) (fk_S_laws_Task.len _).symm) (cells_all (hs.cells 0 rfl)))⟩, trivial⟩) ?_
  have hs : St _ [] _ := St.take (Γ' := [_,_,_]) hs
  exact ⟨_, rfl, rfl, hs⟩

/- function 28 spec_l00In -/
def spec_l00In.post (w0 : World) (r : Bool) (v : Value) (w : World) : Prop := v = Value.bool r ∧ St w0 [] w
set_option maxHeartbeats 8000000 in
set_option maxRecDepth 100000 in
theorem spec_l00In.calls {N : Nat} {a1 : Int} {a2 : Int} {a3 : Int} {w0 : World} {r : Bool} (H : spec_l00In.f N a1 a2 a3 = some r) :
    Calls Try.prog 28 #[Value.int .i64 a1, Value.int .i64 a2, Value.int .i64 a3] w0 fun e w => ∃ v, e = .returned v ∧ spec_l00In.post w0 r v w := by
  unfold spec_l00In.f at H
  have hs : St w0 [] w0 := St.refl w0
  refine calls_of_g (n := 12) Try.func28 rfl rfl ?_
  show G _ _ _ _ [_,_,_,_,_,_,_,_,_,_,_,_,_,_,_] _
  refine g_seq (g_rg [0] rfl ?_)
  refine g_op (v := Value.bool false) rfl rfl rfl (g_ops_nil (g_seq (g_rg [0, 1, 2, 3, 4, 5, 6, 7, 8] rfl ?_)))
  refine g_op (v := Value.int .i64 a1) rfl rfl rfl ?_
  show G _ _ _ _ [_,_,_,_,_,_,_,_,_,_,_,_,_,_,_] _
  refine g_op (v := Value.int .i64 a2) rfl rfl rfl ?_
  refine g_op_b (B := decide (a1 ≥ a2)) rfl rfl rfl ?_ ?_
  ·
   intro hb
   rw [if_pos (b_dec_t hb)] at H
   show G _ _ _ _ [_,_,_,_,_,_,_,_,_,_,_,_,_,_,_] _
   refine g_op (v := Value.bool true) rfl rfl rfl ?_
   refine g_op (v := Value.int .i64 a1) rfl rfl rfl ?_
   refine g_op (v := Value.int .i64 a3) rfl rfl rfl ?_
   show G _ _ _ _ [_,_,_,_,_,_,_,_,_,_,_,_,_,_,_] _
   refine g_op (v := Value.bool (decide (a1 ≤ a3))) rfl rfl rfl ?_
   refine g_op (v := Value.bool (decide (a1 ≤ a3))) rfl rfl rfl ?_
   refine g_op (v := Value.bool (decide (a1 ≤ a3))) rfl rfl rfl ?_
   show G _ _ _ _ [_,_,_,_,_,_,_,_,_,_,_,_,_,_,_] _
   refine g_ops_nil ?_
   obtain rfl := Option.some.inj H
   refine g_ret Try.func28 (v := Value.bool (decide (a1 ≤ a3))) (res1 rfl rfl) ?_
   have hs : St _ [] _ := St.take (Γ' := []) hs
   exact ⟨_, rfl, rfl, hs⟩
  intro hb
  rw [if_neg (b_dec_f hb)] at H
  refine g_op (v := Value.bool false) rfl rfl rfl ?_
  show G _ _ _ _ [_,_,_,_,_,_,_,_,_,_,_,_,_,_,_] _
  refine g_op_not rfl rfl (g_op_not rfl rfl (g_op_not rfl rfl ?_))
  show G _ _ _ _ [_,_,_,_,_,_,_,_,_,_,_,_,_,_,_] _
  refine g_op (v := Value.bool false) rfl rfl rfl ?_
  refine g_op (v := Value.bool false) rfl rfl rfl (g_ops_nil ?_)
  obtain rfl := Option.some.inj H
  refine g_ret Try.func28 (v := Value.bool false) (res1 rfl rfl) ?_
  have hs : St _ [] _ := St.take (Γ' := []) hs
  exact ⟨_, rfl, rfl, hs⟩

/- function 27 spec_l03Ok -/
def spec_l03Ok.post (w0 : World) (r : Bool) (v : Value) (w : World) : Prop := v = Value.bool r ∧ St w0 [] w
set_option maxHeartbeats 8000000 in
set_option maxRecDepth 100000 in
theorem spec_l03Ok.calls {N : Nat} {a1 : S_laws_Task} {w0 : World} {r : Bool} (H : spec_l03Ok.f N a1 = some r) :
    Calls Try.prog 27 #[Value.agg (enc_S_laws_Task a1).toArray] w0 fun e w => ∃ v, e = .returned v ∧ spec_l03Ok.post w0 r v w := by
  unfold spec_l03Ok.f at H
  have hs : St w0 [] w0 := St.refl w0
  refine calls_of_g (n := 12) Try.func27 rfl rfl ?_
  show G _ _ _ _ [_,_,_,_,_,_,_,_,_,_,_,_,_] _
  refine g_seq (g_rg [0, 1] rfl ?_)
  refine s_box hs rfl rfl (cs := (enc_S_laws_Task a1)) rfl rfl ?_
  intro b2 w hs
  show G _ _ _ _ [_,_,_,_,_,_,_,_,_,_,_,_,_] _
  refine g_op (v := Value.bool false) rfl rfl rfl (g_ops_nil (g_seq (g_rg [0, 1, 2, 3, 4, 5, 6, 7, 8, 9, 10] rfl ?_)))
  refine g_op (v := Value.pointer (some ⟨b2, 0, none⟩)) rfl rfl rfl ?_
  refine s_load1 rfl rfl (v := Value.int .i8 a1.f_Coins) rfl rfl (fun _ => rfl) (cells_load (hs.cells 0 rfl) 0 1 rfl) ?_
  show G _ _ _ _ [_,_,_,_,_,_,_,_,_,_,_,_,_] _
  refine g_op (v := Value.int .i64 (i64w a1.f_Coins)) rfl rfl rfl ?_
  obtain ⟨r4, Hr4, H⟩ := bind_get H
  refine s_call (args := [Value.int .i64 (i64w a1.f_Coins), Value.int .i64 1, Value.int .i64 13]) rfl rfl (x_call rfl (callFunc_enter Try.func28 rfl rfl) rfl) (spec_l00In.calls (a1 := i64w a1.f_Coins) (a2 := 1) (a3 := 13) Hr4) ?_
  rintro _ w ⟨rfl, hs2⟩
  have hs : St _ [_] _ := hs.call hs2
  cases r4 with
  | true =>
    rw [if_pos rfl] at H
    refine g_op (v := Value.bool true) rfl rfl rfl ?_
    refine g_op (v := Value.pointer (some ⟨b2, 1, none⟩)) rfl rfl rfl ?_
    show G _ _ _ _ [_,_,_,_,_,_,_,_,_,_,_,_,_] _
    refine s_load1 rfl rfl (v := Value.int .i8 a1.f_Kind) rfl rfl (fun _ => rfl) (cells_load (hs.cells 0 rfl) 1 1 rfl) ?_
    refine g_op (v := Value.int .i64 (i64w a1.f_Kind)) rfl rfl rfl ?_
    obtain ⟨r5, Hr5, H⟩ := bind_get H
    refine s_call (args := [Value.int .i64 (i64w a1.f_Kind), Value.int .i64 0, Value.int .i64 2]) rfl rfl (x_call rfl (callFunc_enter Try.func28 rfl rfl) rfl) (spec_l00In.calls (a1 := i64w a1.f_Kind) (a2 := 0) (a3 := 2) Hr5) ?_
    rintro _ w ⟨rfl, hs2⟩
    have hs : St _ [_] _ := hs.call hs2
    show G _ _ _ _ [_,_,_,_,_,_,_,_,_,_,_,_,_] _
    refine g_op (v := Value.bool r5) rfl rfl rfl ?_
    refine g_op (v := Value.bool r5) rfl rfl rfl (g_ops_nil ?_)
    obtain rfl := Option.some.inj H
    refine g_ret Try.func27 (v := Value.bool r5) (res1 rfl rfl) ?_
    have hs : St _ [] _ := St.take (Γ' := [_]) hs
    exact ⟨_, rfl, rfl, hs⟩
  | false =>
    rw [if_neg Bool.false_ne_true] at H
    refine g_op (v := Value.bool false) rfl rfl rfl ?_
    show G _ _ _ _ [_,_,_,_,_,_,_,_,_,_,_,_,_] _
    refine g_op_not rfl rfl (g_op_not rfl rfl (g_op_not rfl rfl ?_))
    show G _ _ _ _ [_,_,_,_,_,_,_,_,_,_,_,_,_] _
    refine g_op_not rfl rfl ?_
    refine g_op (v := Value.bool false) rfl rfl rfl ?_
    refine g_op (v := Value.bool false) rfl rfl rfl ?_
    show G _ _ _ _ [_,_,_,_,_,_,_,_,_,_,_,_,_] _
    refine g_ops_nil ?_
    obtain rfl := Option.some.inj H
    refine g_ret Try.func27 (v := Value.bool false) (res1 rfl rfl) ?_
    have hs : St _ [] _ := St.take (Γ' := [_]) hs
    exact ⟨_, rfl, rfl, hs⟩

end Go.Proofs.YtgpdpedpmhonkaaX
