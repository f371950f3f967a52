/- Contracts, printed by gen.py. -/
import Derived.Test.YtcocgeodfbiehaaXT
import Derived.Test.YtcocgeodfbiehaaProg
import Derived.Test.YtcocgeodfbiehaaXMap
namespace Go.Proofs.YtcocgeodfbiehaaX
open Go Go.RowKit Go.Proofs
set_option linter.unusedVariables false
set_option linter.unusedSimpArgs false
theorem eq_S_impl_Case_84_g : Try.prog.eqGuardType Try.prog.depth 84 = false := by kernel_rfl
set_option maxRecDepth 100000 in
theorem eq_S_impl_Case_84 (a b : S_impl_Case) (w : World) : (Op.equal 84 (.agg (enc_S_impl_Case a).toArray) (.agg (enc_S_impl_Case b).toArray)).run Try.prog w = .ok (decide (a = b)) w := by
  have q := equal_struct (w := w) (xs := (enc_S_impl_Case a).toArray) (ys := (enc_S_impl_Case b).toArray) Try.underlying84 (by kernel_rfl) (eqFields_step (by decide) rfl rfl (equalIn_int (d := 9998) Try.underlying22) (eqFields_step (by decide) rfl rfl (equalIn_bool (d := 9998) Try.underlying4) eqFields_nil))
  rw [q]
  congr 1
  rw [Bool.eq_iff_iff, decide_eq_true_eq]
  cases a; cases b
  simp [S_impl_Case.mk.injEq]

/- function 15 laws_szCaseS -/
def laws_szCaseS.post (w0 : World) (r : Int) (v : Value) (w : World) : Prop := v = Value.int .i64 r ∧ St w0 [] w
set_option maxHeartbeats 8000000 in
set_option maxRecDepth 100000 in
theorem laws_szCaseS.calls {N : Nat} {a1 : (List S_impl_Case)} {a3 : Int} {v2 : Value} {w0 : World} {r : Int} (hr0 : RdRow k_S_impl_Case w0 v2 a1) (H : laws_szCaseS.f N a1 a3 = some r) :
    Calls Try.prog 15 #[v2, Value.int .i64 a3] w0 fun e w => ∃ v, e = .returned v ∧ laws_szCaseS.post w0 r v w := by
  unfold laws_szCaseS.f at H
  have hs : St w0 [] w0 := St.refl w0
  refine calls_of_g (n := 10) Try.func15 rfl rfl ?_
  show G _ _ _ _ [_, _, _, _, _, _, _, _, _, _, _, _] _
  refine g_seq ?_
  refine g_region ?_
  show G _ _ _ (.inRegion _ [0] :: _) _ _
  refine g_op (v := Value.int .i64 0) rfl rfl rfl ?_
  show G _ _ _ _ [_, _, _, _, _, _, _, _, _, _, _, _] _
  refine g_ops_nil ?_
  refine g_seq ?_
  refine g_region ?_
  show G _ _ _ (.inRegion _ [0, 1, 2, 3, 4] :: _) _ _
  refine g_op (v := Value.int .i64 a3) rfl rfl rfl ?_
  show G _ _ _ _ [_, _, _, _, _, _, _, _, _, _, _, _] _
  refine g_op (v := v2) rfl rfl rfl ?_
  show G _ _ _ _ [_, _, _, _, _, _, _, _, _, _, _, _] _
  refine s_len (hs.rd hr0) rfl rfl rfl rfl rfl ?_
  show G _ _ _ _ [_, _, _, _, _, _, _, _, _, _, _, _] _
  refine g_op (v := Value.int .i64 (i64w (a3 - (a1.length : Int)))) rfl rfl rfl ?_
  show G _ _ _ _ [_, _, _, _, _, _, _, _, _, _, _, _] _
  refine g_op (v := Value.int .i64 (i64w (a3 - (a1.length : Int)))) rfl rfl rfl ?_
  show G _ _ _ _ [_, _, _, _, _, _, _, _, _, _, _, _] _
  refine g_ops_nil ?_
  refine g_seq ?_
  refine g_seq ?_
  refine g_region ?_
  show G _ _ _ (.inRegion _ [0, 1] :: _) _ _
  refine g_op (v := Value.int .i64 (i64w (a3 - (a1.length : Int)))) rfl rfl rfl ?_
  show G _ _ _ _ [_, _, _, _, _, _, _, _, _, _, _, _] _
  refine g_op_b (B := decide ((i64w (a3 - (a1.length : Int))) < 0)) rfl rfl rfl ?_ ?_
  ·
   intro hb
   rw [if_pos (b_dec_t hb)] at H
   show G _ _ _ _ [_, _, _, _, _, _, _, _, _, _, _, _] _
   refine g_ops_nil ?_
   refine g_cond_true rfl ?_
   refine g_seq ?_
   refine g_region ?_
   show G _ _ _ (.inRegion _ [0] :: _) _ _
   refine g_op (v := Value.int .i64 (-1)) rfl rfl rfl ?_
   show G _ _ _ _ [_, _, _, _, _, _, _, _, _, _, _, _] _
   refine g_ops_nil ?_
   obtain rfl := Option.some.inj H
   refine g_ret Try.func15 (v := Value.int .i64 (-1)) (res1 rfl rfl) ?_
   have hs : St _ [] _ := St.take (Γ' := []) hs
   exact ⟨_, rfl, rfl, hs⟩
  ·
   intro hb
   rw [if_neg (b_dec_f hb)] at H
   show G _ _ _ _ [_, _, _, _, _, _, _, _, _, _, _, _] _
   refine g_ops_nil ?_
   refine g_cond_false rfl ?_
   refine g_skip ?_
   refine g_seq ?_
   refine g_region ?_
   show G _ _ _ (.inRegion _ [0, 1] :: _) _ _
   refine g_op (v := Value.int .i64 (i64w (a3 - (a1.length : Int)))) rfl rfl rfl ?_
   show G _ _ _ _ [_, _, _, _, _, _, _, _, _, _, _, _] _
   refine g_op (v := Value.int .i64 (i64w (a3 - (a1.length : Int)))) rfl rfl rfl ?_
   show G _ _ _ _ [_, _, _, _, _, _, _, _, _, _, _, _] _
   refine g_ops_nil ?_
   obtain rfl := Option.some.inj H
   refine g_ret Try.func15 (v := Value.int .i64 (i64w (a3 - (a1.length : Int)))) (res1 rfl rfl) ?_
   have hs : St _ [] _ := St.take (Γ' := []) hs
   exact ⟨_, rfl, rfl, hs⟩

/- function 17 laws_toTask -/
def laws_toTask.post (w0 : World) (r : S_laws_Task) (v : Value) (w : World) : Prop := v = Value.agg (enc_S_laws_Task r).toArray ∧ St w0 [] w
set_option maxHeartbeats 8000000 in
set_option maxRecDepth 100000 in
theorem laws_toTask.calls {N : Nat} {a1 : S_laws_Task} {w0 : World} {r : S_laws_Task} (H : laws_toTask.f N a1 = some r) :
    Calls Try.prog 17 #[Value.agg (enc_S_laws_Task a1).toArray] w0 fun e w => ∃ v, e = .returned v ∧ laws_toTask.post w0 r v w := by
  unfold laws_toTask.f at H
  have hs : St w0 [] w0 := St.refl w0
  refine calls_of_g (n := 16) Try.func17 rfl rfl ?_
  show G _ _ _ _ [_, _, _, _, _, _, _, _, _, _, _, _, _, _, _, _, _] _
  refine g_seq ?_
  refine g_region ?_
  show G _ _ _ (.inRegion _ [0, 1] :: _) _ _
  refine s_box hs rfl rfl (cs := (enc_S_laws_Task a1)) rfl rfl ?_
  intro b2 w hs
  show G _ _ _ _ [_, _, _, _, _, _, _, _, _, _, _, _, _, _, _, _, _] _
  refine s_alloc hs rfl rfl (z := (Value.agg #[Value.int .i8 0, Value.int .i8 0, Value.bool false, Value.bool false])) (cs := (enc_S_laws_Task z_S_laws_Task)) rfl (fun _ => rfl) rfl ?_
  intro b4 w hs
  show G _ _ _ _ [_, _, _, _, _, _, _, _, _, _, _, _, _, _, _, _, _] _
  refine g_ops_nil ?_
  refine g_seq ?_
  refine g_region ?_
  show G _ _ _ (.inRegion _ [0] :: _) _ _
  refine s_alloc hs rfl rfl (z := (Value.agg #[Value.int .i8 0, Value.int .i8 0, Value.bool false, Value.bool false])) (cs := (enc_S_laws_Task z_S_laws_Task)) rfl (fun _ => rfl) rfl ?_
  intro b6 w hs
  show G _ _ _ _ [_, _, _, _, _, _, _, _, _, _, _, _, _, _, _, _, _] _
  refine g_ops_nil ?_
  refine g_seq ?_
  refine g_region ?_
  show G _ _ _ (.inRegion _ [0, 1, 2, 3] :: _) _ _
  refine g_op (v := Value.pointer (some ⟨b2, 0, none⟩)) rfl rfl rfl ?_
  show G _ _ _ _ [_, _, _, _, _, _, _, _, _, _, _, _, _, _, _, _, _] _
  refine s_load1 rfl rfl (v := Value.int .i8 a1.f_Coins) rfl rfl (fun _ => rfl) (cells_load (hs.cells 2 rfl) 0 1 rfl) ?_
  show G _ _ _ _ [_, _, _, _, _, _, _, _, _, _, _, _, _, _, _, _, _] _
  refine g_op (v := Value.pointer (some ⟨b6, 0, none⟩)) rfl rfl rfl ?_
  show G _ _ _ _ [_, _, _, _, _, _, _, _, _, _, _, _, _, _, _, _, _] _
  refine s_store hs rfl rfl (vs := ((encI .i8) a1.f_Coins)) (cs' := (enc_S_laws_Task (⟨a1.f_Coins, z_S_laws_Task.f_Kind, z_S_laws_Task.f_None, z_S_laws_Task.f_Good⟩ : S_laws_Task))) rfl rfl rfl (n := 1) (fun _ => rfl) ((fkI .i8).len _) (by first | exact Nat.le_of_ble_eq_true rfl | simp [encA_len]) ((fkI .i8).one _) rfl ?_
  intro w hs
  refine g_ops_nil ?_
  refine g_seq ?_
  refine g_region ?_
  show G _ _ _ (.inRegion _ [0, 1, 2, 3] :: _) _ _
  refine g_op (v := Value.pointer (some ⟨b2, 1, none⟩)) rfl rfl rfl ?_
  show G _ _ _ _ [_, _, _, _, _, _, _, _, _, _, _, _, _, _, _, _, _] _
  refine s_load1 rfl rfl (v := Value.int .i8 a1.f_Kind) rfl rfl (fun _ => rfl) (cells_load (hs.cells 2 rfl) 1 1 rfl) ?_
  show G _ _ _ _ [_, _, _, _, _, _, _, _, _, _, _, _, _, _, _, _, _] _
  refine g_op (v := Value.pointer (some ⟨b6, 1, none⟩)) rfl rfl rfl ?_
  show G _ _ _ _ [_, _, _, _, _, _, _, _, _, _, _, _, _, _, _, _, _] _
  refine s_store hs rfl rfl (vs := ((encI .i8) a1.f_Kind)) (cs' := (enc_S_laws_Task (⟨(⟨a1.f_Coins, z_S_laws_Task.f_Kind, z_S_laws_Task.f_None, z_S_laws_Task.f_Good⟩ : S_laws_Task).f_Coins, a1.f_Kind, (⟨a1.f_Coins, z_S_laws_Task.f_Kind, z_S_laws_Task.f_None, z_S_laws_Task.f_Good⟩ : S_laws_Task).f_None, (⟨a1.f_Coins, z_S_laws_Task.f_Kind, z_S_laws_Task.f_None, z_S_laws_Task.f_Good⟩ : S_laws_Task).f_Good⟩ : S_laws_Task))) rfl rfl rfl (n := 1) (fun _ => rfl) ((fkI .i8).len _) (by first | exact Nat.le_of_ble_eq_true rfl | simp [encA_len]) ((fkI .i8).one _) rfl ?_
  intro w hs
  refine g_ops_nil ?_
  refine g_seq ?_
  refine g_region ?_
  show G _ _ _ (.inRegion _ [0, 1, 2, 3] :: _) _ _
  refine g_op (v := Value.pointer (some ⟨b2, 2, none⟩)) rfl rfl rfl ?_
  show G _ _ _ _ [_, _, _, _, _, _, _, _, _, _, _, _, _, _, _, _, _] _
  refine s_load1 rfl rfl (v := Value.bool a1.f_None) rfl rfl (fun _ => rfl) (cells_load (hs.cells 2 rfl) 2 1 rfl) ?_
  show G _ _ _ _ [_, _, _, _, _, _, _, _, _, _, _, _, _, _, _, _, _] _
  refine g_op (v := Value.pointer (some ⟨b6, 2, none⟩)) rfl rfl rfl ?_
  show G _ _ _ _ [_, _, _, _, _, _, _, _, _, _, _, _, _, _, _, _, _] _
  refine s_store hs rfl rfl (vs := (encB a1.f_None)) (cs' := (enc_S_laws_Task (⟨(⟨(⟨a1.f_Coins, z_S_laws_Task.f_Kind, z_S_laws_Task.f_None, z_S_laws_Task.f_Good⟩ : S_laws_Task).f_Coins, a1.f_Kind, (⟨a1.f_Coins, z_S_laws_Task.f_Kind, z_S_laws_Task.f_None, z_S_laws_Task.f_Good⟩ : S_laws_Task).f_None, (⟨a1.f_Coins, z_S_laws_Task.f_Kind, z_S_laws_Task.f_None, z_S_laws_Task.f_Good⟩ : S_laws_Task).f_Good⟩ : S_laws_Task).f_Coins, (⟨(⟨a1.f_Coins, z_S_laws_Task.f_Kind, z_S_laws_Task.f_None, z_S_laws_Task.f_Good⟩ : S_laws_Task).f_Coins, a1.f_Kind, (⟨a1.f_Coins, z_S_laws_Task.f_Kind, z_S_laws_Task.f_None, z_S_laws_Task.f_Good⟩ : S_laws_Task).f_None, (⟨a1.f_Coins, z_S_laws_Task.f_Kind, z_S_laws_Task.f_None, z_S_laws_Task.f_Good⟩ : S_laws_Task).f_Good⟩ : S_laws_Task).f_Kind, a1.f_None, (⟨(⟨a1.f_Coins, z_S_laws_Task.f_Kind, z_S_laws_Task.f_None, z_S_laws_Task.f_Good⟩ : S_laws_Task).f_Coins, a1.f_Kind, (⟨a1.f_Coins, z_S_laws_Task.f_Kind, z_S_laws_Task.f_None, z_S_laws_Task.f_Good⟩ : S_laws_Task).f_None, (⟨a1.f_Coins, z_S_laws_Task.f_Kind, z_S_laws_Task.f_None, z_S_laws_Task.f_Good⟩ : S_laws_Task).f_Good⟩ : S_laws_Task).f_Good⟩ : S_laws_Task))) rfl rfl rfl (n := 1) (fun _ => rfl) (fkB.len _) (by first | exact Nat.le_of_ble_eq_true rfl | simp [encA_len]) (fkB.one _) rfl ?_
  intro w hs
  refine g_ops_nil ?_
  refine g_seq ?_
  refine g_region ?_
  show G _ _ _ (.inRegion _ [0, 1, 2, 3] :: _) _ _
  refine g_op (v := Value.pointer (some ⟨b2, 3, none⟩)) rfl rfl rfl ?_
  show G _ _ _ _ [_, _, _, _, _, _, _, _, _, _, _, _, _, _, _, _, _] _
  refine s_load1 rfl rfl (v := Value.bool a1.f_Good) rfl rfl (fun _ => rfl) (cells_load (hs.cells 2 rfl) 3 1 rfl) ?_
  show G _ _ _ _ [_, _, _, _, _, _, _, _, _, _, _, _, _, _, _, _, _] _
  refine g_op (v := Value.pointer (some ⟨b6, 3, none⟩)) rfl rfl rfl ?_
  show G _ _ _ _ [_, _, _, _, _, _, _, _, _, _, _, _, _, _, _, _, _] _
  refine s_store hs rfl rfl (vs := (encB a1.f_Good)) (cs' := (enc_S_laws_Task (⟨(⟨(⟨(⟨a1.f_Coins, z_S_laws_Task.f_Kind, z_S_laws_Task.f_None, z_S_laws_Task.f_Good⟩ : S_laws_Task).f_Coins, a1.f_Kind, (⟨a1.f_Coins, z_S_laws_Task.f_Kind, z_S_laws_Task.f_None, z_S_laws_Task.f_Good⟩ : S_laws_Task).f_None, (⟨a1.f_Coins, z_S_laws_Task.f_Kind, z_S_laws_Task.f_None, z_S_laws_Task.f_Good⟩ : S_laws_Task).f_Good⟩ : S_laws_Task).f_Coins, (⟨(⟨a1.f_Coins, z_S_laws_Task.f_Kind, z_S_laws_Task.f_None, z_S_laws_Task.f_Good⟩ : S_laws_Task).f_Coins, a1.f_Kind, (⟨a1.f_Coins, z_S_laws_Task.f_Kind, z_S_laws_Task.f_None, z_S_laws_Task.f_Good⟩ : S_laws_Task).f_None, (⟨a1.f_Coins, z_S_laws_Task.f_Kind, z_S_laws_Task.f_None, z_S_laws_Task.f_Good⟩ : S_laws_Task).f_Good⟩ : S_laws_Task).f_Kind, a1.f_None, (⟨(⟨a1.f_Coins, z_S_laws_Task.f_Kind, z_S_laws_Task.f_None, z_S_laws_Task.f_Good⟩ : S_laws_Task).f_Coins, a1.f_Kind, (⟨a1.f_Coins, z_S_laws_Task.f_Kind, z_S_laws_Task.f_None, z_S_laws_Task.f_Good⟩ : S_laws_Task).f_None, (⟨a1.f_Coins, z_S_laws_Task.f_Kind, z_S_laws_Task.f_None, z_S_laws_Task.f_Good⟩ : S_laws_Task).f_Good⟩ : S_laws_Task).f_Good⟩ : S_laws_Task).f_Coins, (⟨(⟨(⟨a1.f_Coins, z_S_laws_Task.f_Kind, z_S_laws_Task.f_None, z_S_laws_Task.f_Good⟩ : S_laws_Task).f_Coins, a1.f_Kind, (⟨a1.f_Coins, z_S_laws_Task.f_Kind, z_S_laws_Task.f_None, z_S_laws_Task.f_Good⟩ : S_laws_Task).f_None, (⟨a1.f_Coins, z_S_laws_Task.f_Kind, z_S_laws_Task.f_None, z_S_laws_Task.f_Good⟩ : S_laws_Task).f_Good⟩ : S_laws_Task).f_Coins, (⟨(⟨a1.f_Coins, z_S_laws_Task.f_Kind, z_S_laws_Task.f_None, z_S_laws_Task.f_Good⟩ : S_laws_Task).f_Coins, a1.f_Kind, (⟨a1.f_Coins, z_S_laws_Task.f_Kind, z_S_laws_Task.f_None, z_S_laws_Task.f_Good⟩ : S_laws_Task).f_None, (⟨a1.f_Coins, z_S_laws_Task.f_Kind, z_S_laws_Task.f_None, z_S_laws_Task.f_Good⟩ : S_laws_Task).f_Good⟩ : S_laws_Task).f_Kind, a1.f_None, (⟨(⟨a1.f_Coins, z_S_laws_Task.f_Kind, z_S_laws_Task.f_None, z_S_laws_Task.f_Good⟩ : S_laws_Task).f_Coins, a1.f_Kind, (⟨a1.f_Coins, z_S_laws_Task.f_Kind, z_S_laws_Task.f_None, z_S_laws_Task.f_Good⟩ : S_laws_Task).f_None, (⟨a1.f_Coins, z_S_laws_Task.f_Kind, z_S_laws_Task.f_None, z_S_laws_Task.f_Good⟩ : S_laws_Task).f_Good⟩ : S_laws_Task).f_Good⟩ : S_laws_Task).f_Kind, (⟨(⟨(⟨a1.f_Coins, z_S_laws_Task.f_Kind, z_S_laws_Task.f_None, z_S_laws_Task.f_Good⟩ : S_laws_Task).f_Coins, a1.f_Kind, (⟨a1.f_Coins, z_S_laws_Task.f_Kind, z_S_laws_Task.f_None, z_S_laws_Task.f_Good⟩ : S_laws_Task).f_None, (⟨a1.f_Coins, z_S_laws_Task.f_Kind, z_S_laws_Task.f_None, z_S_laws_Task.f_Good⟩ : S_laws_Task).f_Good⟩ : S_laws_Task).f_Coins, (⟨(⟨a1.f_Coins, z_S_laws_Task.f_Kind, z_S_laws_Task.f_None, z_S_laws_Task.f_Good⟩ : S_laws_Task).f_Coins, a1.f_Kind, (⟨a1.f_Coins, z_S_laws_Task.f_Kind, z_S_laws_Task.f_None, z_S_laws_Task.f_Good⟩ : S_laws_Task).f_None, (⟨a1.f_Coins, z_S_laws_Task.f_Kind, z_S_laws_Task.f_None, z_S_laws_Task.f_Good⟩ : S_laws_Task).f_Good⟩ : S_laws_Task).f_Kind, a1.f_None, (⟨(⟨a1.f_Coins, z_S_laws_Task.f_Kind, z_S_laws_Task.f_None, z_S_laws_Task.f_Good⟩ : S_laws_Task).f_Coins, a1.f_Kind, (⟨a1.f_Coins, z_S_laws_Task.f_Kind, z_S_laws_Task.f_None, z_S_laws_Task.f_Good⟩ : S_laws_Task).f_None, (⟨a1.f_Coins, z_S_laws_Task.f_Kind, z_S_laws_Task.f_None, z_S_laws_Task.f_Good⟩ : S_laws_Task).f_Good⟩ : S_laws_Task).f_Good⟩ : S_laws_Task).f_None, a1.f_Good⟩ : S_laws_Task))) rfl rfl rfl (n := 1) (fun _ => rfl) (fkB.len _) (by first | exact Nat.le_of_ble_eq_true rfl | simp [encA_len]) (fkB.one _) rfl ?_
  intro w hs
  refine g_ops_nil ?_
  refine g_seq ?_
  refine g_region ?_
  show G _ _ _ (.inRegion _ [0, 1] :: _) _ _
  refine s_loadA rfl rfl (es := (enc_S_laws_Task (⟨(⟨(⟨(⟨a1.f_Coins, z_S_laws_Task.f_Kind, z_S_laws_Task.f_None, z_S_laws_Task.f_Good⟩ : S_laws_Task).f_Coins, a1.f_Kind, (⟨a1.f_Coins, z_S_laws_Task.f_Kind, z_S_laws_Task.f_None, z_S_laws_Task.f_Good⟩ : S_laws_Task).f_None, (⟨a1.f_Coins, z_S_laws_Task.f_Kind, z_S_laws_Task.f_None, z_S_laws_Task.f_Good⟩ : S_laws_Task).f_Good⟩ : S_laws_Task).f_Coins, (⟨(⟨a1.f_Coins, z_S_laws_Task.f_Kind, z_S_laws_Task.f_None, z_S_laws_Task.f_Good⟩ : S_laws_Task).f_Coins, a1.f_Kind, (⟨a1.f_Coins, z_S_laws_Task.f_Kind, z_S_laws_Task.f_None, z_S_laws_Task.f_Good⟩ : S_laws_Task).f_None, (⟨a1.f_Coins, z_S_laws_Task.f_Kind, z_S_laws_Task.f_None, z_S_laws_Task.f_Good⟩ : S_laws_Task).f_Good⟩ : S_laws_Task).f_Kind, a1.f_None, (⟨(⟨a1.f_Coins, z_S_laws_Task.f_Kind, z_S_laws_Task.f_None, z_S_laws_Task.f_Good⟩ : S_laws_Task).f_Coins, a1.f_Kind, (⟨a1.f_Coins, z_S_laws_Task.f_Kind, z_S_laws_Task.f_None, z_S_laws_Task.f_Good⟩ : S_laws_Task).f_None, (⟨a1.f_Coins, z_S_laws_Task.f_Kind, z_S_laws_Task.f_None, z_S_laws_Task.f_Good⟩ : S_laws_Task).f_Good⟩ : S_laws_Task).f_Good⟩ : S_laws_Task).f_Coins, (⟨(⟨(⟨a1.f_Coins, z_S_laws_Task.f_Kind, z_S_laws_Task.f_None, z_S_laws_Task.f_Good⟩ : S_laws_Task).f_Coins, a1.f_Kind, (⟨a1.f_Coins, z_S_laws_Task.f_Kind, z_S_laws_Task.f_None, z_S_laws_Task.f_Good⟩ : S_laws_Task).f_None, (⟨a1.f_Coins, z_S_laws_Task.f_Kind, z_S_laws_Task.f_None, z_S_laws_Task.f_Good⟩ : S_laws_Task).f_Good⟩ : S_laws_Task).f_Coins, (⟨(⟨a1.f_Coins, z_S_laws_Task.f_Kind, z_S_laws_Task.f_None, z_S_laws_Task.f_Good⟩ : S_laws_Task).f_Coins, a1.f_Kind, (⟨a1.f_Coins, z_S_laws_Task.f_Kind, z_S_laws_Task.f_None, z_S_laws_Task.f_Good⟩ : S_laws_Task).f_None, (⟨a1.f_Coins, z_S_laws_Task.f_Kind, z_S_laws_Task.f_None, z_S_laws_Task.f_Good⟩ : S_laws_Task).f_Good⟩ : S_laws_Task).f_Kind, a1.f_None, (⟨(⟨a1.f_Coins, z_S_laws_Task.f_Kind, z_S_laws_Task.f_None, z_S_laws_Task.f_Good⟩ : S_laws_Task).f_Coins, a1.f_Kind, (⟨a1.f_Coins, z_S_laws_Task.f_Kind, z_S_laws_Task.f_None, z_S_laws_Task.f_Good⟩ : S_laws_Task).f_None, (⟨a1.f_Coins, z_S_laws_Task.f_Kind, z_S_laws_Task.f_None, z_S_laws_Task.f_Good⟩ : S_laws_Task).f_Good⟩ : S_laws_Task).f_Good⟩ : S_laws_Task).f_Kind, (⟨(⟨(⟨a1.f_Coins, z_S_laws_Task.f_Kind, z_S_laws_Task.f_None, z_S_laws_Task.f_Good⟩ : S_laws_Task).f_Coins, a1.f_Kind, (⟨a1.f_Coins, z_S_laws_Task.f_Kind, z_S_laws_Task.f_None, z_S_laws_Task.f_Good⟩ : S_laws_Task).f_None, (⟨a1.f_Coins, z_S_laws_Task.f_Kind, z_S_laws_Task.f_None, z_S_laws_Task.f_Good⟩ : S_laws_Task).f_Good⟩ : S_laws_Task).f_Coins, (⟨(⟨a1.f_Coins, z_S_laws_Task.f_Kind, z_S_laws_Task.f_None, z_S_laws_Task.f_Good⟩ : S_laws_Task).f_Coins, a1.f_Kind, (⟨a1.f_Coins, z_S_laws_Task.f_Kind, z_S_laws_Task.f_None, z_S_laws_Task.f_Good⟩ : S_laws_Task).f_None, (⟨a1.f_Coins, z_S_laws_Task.f_Kind, z_S_laws_Task.f_None, z_S_laws_Task.f_Good⟩ : S_laws_Task).f_Good⟩ : S_laws_Task).f_Kind, a1.f_None, (⟨(⟨a1.f_Coins, z_S_laws_Task.f_Kind, z_S_laws_Task.f_None, z_S_laws_Task.f_Good⟩ : S_laws_Task).f_Coins, a1.f_Kind, (⟨a1.f_Coins, z_S_laws_Task.f_Kind, z_S_laws_Task.f_None, z_S_laws_Task.f_Good⟩ : S_laws_Task).f_None, (⟨a1.f_Coins, z_S_laws_Task.f_Kind, z_S_laws_Task.f_None, z_S_laws_Task.f_Good⟩ : S_laws_Task).f_Good⟩ : S_laws_Task).f_Good⟩ : S_laws_Task).f_None, a1.f_Good⟩ : S_laws_Task))) rfl rfl (fun _ => rfl) (n := 4) (fun _ => rfl) (fk_S_laws_Task.len _) (cells_all (hs.cells 0 rfl)) ?_
  show G _ _ _ _ [_, _, _, _, _, _, _, _, _, _, _, _, _, _, _, _, _] _
  have hs := hs.pull 1 rfl
  have hs : St _ [_, _, _] _ := hs
  refine s_storeAll (n := 4) hs (fk_S_laws_Task.len _) rfl rfl (vs := (enc_S_laws_Task (⟨(⟨(⟨(⟨a1.f_Coins, z_S_laws_Task.f_Kind, z_S_laws_Task.f_None, z_S_laws_Task.f_Good⟩ : S_laws_Task).f_Coins, a1.f_Kind, (⟨a1.f_Coins, z_S_laws_Task.f_Kind, z_S_laws_Task.f_None, z_S_laws_Task.f_Good⟩ : S_laws_Task).f_None, (⟨a1.f_Coins, z_S_laws_Task.f_Kind, z_S_laws_Task.f_None, z_S_laws_Task.f_Good⟩ : S_laws_Task).f_Good⟩ : S_laws_Task).f_Coins, (⟨(⟨a1.f_Coins, z_S_laws_Task.f_Kind, z_S_laws_Task.f_None, z_S_laws_Task.f_Good⟩ : S_laws_Task).f_Coins, a1.f_Kind, (⟨a1.f_Coins, z_S_laws_Task.f_Kind, z_S_laws_Task.f_None, z_S_laws_Task.f_Good⟩ : S_laws_Task).f_None, (⟨a1.f_Coins, z_S_laws_Task.f_Kind, z_S_laws_Task.f_None, z_S_laws_Task.f_Good⟩ : S_laws_Task).f_Good⟩ : S_laws_Task).f_Kind, a1.f_None, (⟨(⟨a1.f_Coins, z_S_laws_Task.f_Kind, z_S_laws_Task.f_None, z_S_laws_Task.f_Good⟩ : S_laws_Task).f_Coins, a1.f_Kind, (⟨a1.f_Coins, z_S_laws_Task.f_Kind, z_S_laws_Task.f_None, z_S_laws_Task.f_Good⟩ : S_laws_Task).f_None, (⟨a1.f_Coins, z_S_laws_Task.f_Kind, z_S_laws_Task.f_None, z_S_laws_Task.f_Good⟩ : S_laws_Task).f_Good⟩ : S_laws_Task).f_Good⟩ : S_laws_Task).f_Coins, (⟨(⟨(⟨a1.f_Coins, z_S_laws_Task.f_Kind, z_S_laws_Task.f_None, z_S_laws_Task.f_Good⟩ : S_laws_Task).f_Coins, a1.f_Kind, (⟨a1.f_Coins, z_S_laws_Task.f_Kind, z_S_laws_Task.f_None, z_S_laws_Task.f_Good⟩ : S_laws_Task).f_None, (⟨a1.f_Coins, z_S_laws_Task.f_Kind, z_S_laws_Task.f_None, z_S_laws_Task.f_Good⟩ : S_laws_Task).f_Good⟩ : S_laws_Task).f_Coins, (⟨(⟨a1.f_Coins, z_S_laws_Task.f_Kind, z_S_laws_Task.f_None, z_S_laws_Task.f_Good⟩ : S_laws_Task).f_Coins, a1.f_Kind, (⟨a1.f_Coins, z_S_laws_Task.f_Kind, z_S_laws_Task.f_None, z_S_laws_Task.f_Good⟩ : S_laws_Task).f_None, (⟨a1.f_Coins, z_S_laws_Task.f_Kind, z_S_laws_Task.f_None, z_S_laws_Task.f_Good⟩ : S_laws_Task).f_Good⟩ : S_laws_Task).f_Kind, a1.f_None, (⟨(⟨a1.f_Coins, z_S_laws_Task.f_Kind, z_S_laws_Task.f_None, z_S_laws_Task.f_Good⟩ : S_laws_Task).f_Coins, a1.f_Kind, (⟨a1.f_Coins, z_S_laws_Task.f_Kind, z_S_laws_Task.f_None, z_S_laws_Task.f_Good⟩ : S_laws_Task).f_None, (⟨a1.f_Coins, z_S_laws_Task.f_Kind, z_S_laws_Task.f_None, z_S_laws_Task.f_Good⟩ : S_laws_Task).f_Good⟩ : S_laws_Task).f_Good⟩ : S_laws_Task).f_Kind, (⟨(⟨(⟨a1.f_Coins, z_S_laws_Task.f_Kind, z_S_laws_Task.f_None, z_S_laws_Task.f_Good⟩ : S_laws_Task).f_Coins, a1.f_Kind, (⟨a1.f_Coins, z_S_laws_Task.f_Kind, z_S_laws_Task.f_None, z_S_laws_Task.f_Good⟩ : S_laws_Task).f_None, (⟨a1.f_Coins, z_S_laws_Task.f_Kind, z_S_laws_Task.f_None, z_S_laws_Task.f_Good⟩ : S_laws_Task).f_Good⟩ : S_laws_Task).f_Coins, (⟨(⟨a1.f_Coins, z_S_laws_Task.f_Kind, z_S_laws_Task.f_None, z_S_laws_Task.f_Good⟩ : S_laws_Task).f_Coins, a1.f_Kind, (⟨a1.f_Coins, z_S_laws_Task.f_Kind, z_S_laws_Task.f_None, z_S_laws_Task.f_Good⟩ : S_laws_Task).f_None, (⟨a1.f_Coins, z_S_laws_Task.f_Kind, z_S_laws_Task.f_None, z_S_laws_Task.f_Good⟩ : S_laws_Task).f_Good⟩ : S_laws_Task).f_Kind, a1.f_None, (⟨(⟨a1.f_Coins, z_S_laws_Task.f_Kind, z_S_laws_Task.f_None, z_S_laws_Task.f_Good⟩ : S_laws_Task).f_Coins, a1.f_Kind, (⟨a1.f_Coins, z_S_laws_Task.f_Kind, z_S_laws_Task.f_None, z_S_laws_Task.f_Good⟩ : S_laws_Task).f_None, (⟨a1.f_Coins, z_S_laws_Task.f_Kind, z_S_laws_Task.f_None, z_S_laws_Task.f_Good⟩ : S_laws_Task).f_Good⟩ : S_laws_Task).f_Good⟩ : S_laws_Task).f_None, a1.f_Good⟩ : S_laws_Task))) rfl rfl rfl (fun _ => rfl) (fk_S_laws_Task.len _) (fk_S_laws_Task.one _) ?_
  intro w hs
  refine g_ops_nil ?_
  obtain rfl := Option.some.inj H
  refine g_ret Try.func17 (v := Value.agg (enc_S_laws_Task (⟨(⟨(⟨(⟨a1.f_Coins, z_S_laws_Task.f_Kind, z_S_laws_Task.f_None, z_S_laws_Task.f_Good⟩ : S_laws_Task).f_Coins, a1.f_Kind, (⟨a1.f_Coins, z_S_laws_Task.f_Kind, z_S_laws_Task.f_None, z_S_laws_Task.f_Good⟩ : S_laws_Task).f_None, (⟨a1.f_Coins, z_S_laws_Task.f_Kind, z_S_laws_Task.f_None, z_S_laws_Task.f_Good⟩ : S_laws_Task).f_Good⟩ : S_laws_Task).f_Coins, (⟨(⟨a1.f_Coins, z_S_laws_Task.f_Kind, z_S_laws_Task.f_None, z_S_laws_Task.f_Good⟩ : S_laws_Task).f_Coins, a1.f_Kind, (⟨a1.f_Coins, z_S_laws_Task.f_Kind, z_S_laws_Task.f_None, z_S_laws_Task.f_Good⟩ : S_laws_Task).f_None, (⟨a1.f_Coins, z_S_laws_Task.f_Kind, z_S_laws_Task.f_None, z_S_laws_Task.f_Good⟩ : S_laws_Task).f_Good⟩ : S_laws_Task).f_Kind, a1.f_None, (⟨(⟨a1.f_Coins, z_S_laws_Task.f_Kind, z_S_laws_Task.f_None, z_S_laws_Task.f_Good⟩ : S_laws_Task).f_Coins, a1.f_Kind, (⟨a1.f_Coins, z_S_laws_Task.f_Kind, z_S_laws_Task.f_None, z_S_laws_Task.f_Good⟩ : S_laws_Task).f_None, (⟨a1.f_Coins, z_S_laws_Task.f_Kind, z_S_laws_Task.f_None, z_S_laws_Task.f_Good⟩ : S_laws_Task).f_Good⟩ : S_laws_Task).f_Good⟩ : S_laws_Task).f_Coins, (⟨(⟨(⟨a1.f_Coins, z_S_laws_Task.f_Kind, z_S_laws_Task.f_None, z_S_laws_Task.f_Good⟩ : S_laws_Task).f_Coins, a1.f_Kind, (⟨a1.f_Coins, z_S_laws_Task.f_Kind, z_S_laws_Task.f_None, z_S_laws_Task.f_Good⟩ : S_laws_Task).f_None, (⟨a1.f_Coins, z_S_laws_Task.f_Kind, z_S_laws_Task.f_None, z_S_laws_Task.f_Good⟩ : S_laws_Task).f_Good⟩ : S_laws_Task).f_Coins, (⟨(⟨a1.f_Coins, z_S_laws_Task.f_Kind, z_S_laws_Task.f_None, z_S_laws_Task.f_Good⟩ : S_laws_Task).f_Coins, a1.f_Kind, (⟨a1.f_Coins, z_S_laws_Task.f_Kind, z_S_laws_Task.f_None, z_S_laws_Task.f_Good⟩ : S_laws_Task).f_None, (⟨a1.f_Coins, z_S_laws_Task.f_Kind, z_S_laws_Task.f_None, z_S_laws_Task.f_Good⟩ : S_laws_Task).f_Good⟩ : S_laws_Task).f_Kind, a1.f_None, (⟨(⟨a1.f_Coins, z_S_laws_Task.f_Kind, z_S_laws_Task.f_None, z_S_laws_Task.f_Good⟩ : S_laws_Task).f_Coins, a1.f_Kind, (⟨a1.f_Coins, z_S_laws_Task.f_Kind, z_S_laws_Task.f_None, z_S_laws_Task.f_Good⟩ : S_laws_Task).f_None, (⟨a1.f_Coins, z_S_laws_Task.f_Kind, z_S_laws_Task.f_None, z_S_laws_Task.f_Good⟩ : S_laws_Task).f_Good⟩ : S_laws_Task).f_Good⟩ : S_laws_Task).f_Kind, (⟨(⟨(⟨a1.f_Coins, z_S_laws_Task.f_Kind, z_S_laws_Task.f_None, z_S_laws_Task.f_Good⟩ : S_laws_Task).f_Coins, a1.f_Kind, (⟨a1.f_Coins, z_S_laws_Task.f_Kind, z_S_laws_Task.f_None, z_S_laws_Task.f_Good⟩ : S_laws_Task).f_None, (⟨a1.f_Coins, z_S_laws_Task.f_Kind, z_S_laws_Task.f_None, z_S_laws_Task.f_Good⟩ : S_laws_Task).f_Good⟩ : S_laws_Task).f_Coins, (⟨(⟨a1.f_Coins, z_S_laws_Task.f_Kind, z_S_laws_Task.f_None, z_S_laws_Task.f_Good⟩ : S_laws_Task).f_Coins, a1.f_Kind, (⟨a1.f_Coins, z_S_laws_Task.f_Kind, z_S_laws_Task.f_None, z_S_laws_Task.f_Good⟩ : S_laws_Task).f_None, (⟨a1.f_Coins, z_S_laws_Task.f_Kind, z_S_laws_Task.f_None, z_S_laws_Task.f_Good⟩ : S_laws_Task).f_Good⟩ : S_laws_Task).f_Kind, a1.f_None, (⟨(⟨a1.f_Coins, z_S_laws_Task.f_Kind, z_S_laws_Task.f_None, z_S_laws_Task.f_Good⟩ : S_laws_Task).f_Coins, a1.f_Kind, (⟨a1.f_Coins, z_S_laws_Task.f_Kind, z_S_laws_Task.f_None, z_S_laws_Task.f_Good⟩ : S_laws_Task).f_None, (⟨a1.f_Coins, z_S_laws_Task.f_Kind, z_S_laws_Task.f_None, z_S_laws_Task.f_Good⟩ : S_laws_Task).f_Good⟩ : S_laws_Task).f_Good⟩ : S_laws_Task).f_None, a1.f_Good⟩ : S_laws_Task)).toArray) (resC rfl ⟨⟨_, rfl, (run_loadVar_agg (es := (enc_S_laws_Task (⟨(⟨(⟨(⟨a1.f_Coins, z_S_laws_Task.f_Kind, z_S_laws_Task.f_None, z_S_laws_Task.f_Good⟩ : S_laws_Task).f_Coins, a1.f_Kind, (⟨a1.f_Coins, z_S_laws_Task.f_Kind, z_S_laws_Task.f_None, z_S_laws_Task.f_Good⟩ : S_laws_Task).f_None, (⟨a1.f_Coins, z_S_laws_Task.f_Kind, z_S_laws_Task.f_None, z_S_laws_Task.f_Good⟩ : S_laws_Task).f_Good⟩ : S_laws_Task).f_Coins, (⟨(⟨a1.f_Coins, z_S_laws_Task.f_Kind, z_S_laws_Task.f_None, z_S_laws_Task.f_Good⟩ : S_laws_Task).f_Coins, a1.f_Kind, (⟨a1.f_Coins, z_S_laws_Task.f_Kind, z_S_laws_Task.f_None, z_S_laws_Task.f_Good⟩ : S_laws_Task).f_None, (⟨a1.f_Coins, z_S_laws_Task.f_Kind, z_S_laws_Task.f_None, z_S_laws_Task.f_Good⟩ : S_laws_Task).f_Good⟩ : S_laws_Task).f_Kind, a1.f_None, (⟨(⟨a1.f_Coins, z_S_laws_Task.f_Kind, z_S_laws_Task.f_None, z_S_laws_Task.f_Good⟩ : S_laws_Task).f_Coins, a1.f_Kind, (⟨a1.f_Coins, z_S_laws_Task.f_Kind, z_S_laws_Task.f_None, z_S_laws_Task.f_Good⟩ : S_laws_Task).f_None, (⟨a1.f_Coins, z_S_laws_Task.f_Kind, z_S_laws_Task.f_None, z_S_laws_Task.f_Good⟩ : S_laws_Task).f_Good⟩ : S_laws_Task).f_Good⟩ : S_laws_Task).f_Coins, (⟨(⟨(⟨a1.f_Coins, z_S_laws_Task.f_Kind, z_S_laws_Task.f_None, z_S_laws_Task.f_Good⟩ : S_laws_Task).f_Coins, a1.f_Kind, (⟨a1.f_Coins, z_S_laws_Task.f_Kind, z_S_laws_Task.f_None, z_S_laws_Task.f_Good⟩ : S_laws_Task).f_None, (⟨a1.f_Coins, z_S_laws_Task.f_Kind, z_S_laws_Task.f_None, z_S_laws_Task.f_Good⟩ : S_laws_Task).f_Good⟩ : S_laws_Task).f_Coins, (⟨(⟨a1.f_Coins, z_S_laws_Task.f_Kind, z_S_laws_Task.f_None, z_S_laws_Task.f_Good⟩ : S_laws_Task).f_Coins, a1.f_Kind, (⟨a1.f_Coins, z_S_laws_Task.f_Kind, z_S_laws_Task.f_None, z_S_laws_Task.f_Good⟩ : S_laws_Task).f_None, (⟨a1.f_Coins, z_S_laws_Task.f_Kind, z_S_laws_Task.f_None, z_S_laws_Task.f_Good⟩ : S_laws_Task).f_Good⟩ : S_laws_Task).f_Kind, a1.f_None, (⟨(⟨a1.f_Coins, z_S_laws_Task.f_Kind, z_S_laws_Task.f_None, z_S_laws_Task.f_Good⟩ : S_laws_Task).f_Coins, a1.f_Kind, (⟨a1.f_Coins, z_S_laws_Task.f_Kind, z_S_laws_Task.f_None, z_S_laws_Task.f_Good⟩ : S_laws_Task).f_None, (⟨a1.f_Coins, z_S_laws_Task.f_Kind, z_S_laws_Task.f_None, z_S_laws_Task.f_Good⟩ : S_laws_Task).f_Good⟩ : S_laws_Task).f_Good⟩ : S_laws_Task).f_Kind, (⟨(⟨(⟨a1.f_Coins, z_S_laws_Task.f_Kind, z_S_laws_Task.f_None, z_S_laws_Task.f_Good⟩ : S_laws_Task).f_Coins, a1.f_Kind, (⟨a1.f_Coins, z_S_laws_Task.f_Kind, z_S_laws_Task.f_None, z_S_laws_Task.f_Good⟩ : S_laws_Task).f_None, (⟨a1.f_Coins, z_S_laws_Task.f_Kind, z_S_laws_Task.f_None, z_S_laws_Task.f_Good⟩ : S_laws_Task).f_Good⟩ : S_laws_Task).f_Coins, (⟨(⟨a1.f_Coins, z_S_laws_Task.f_Kind, z_S_laws_Task.f_None, z_S_laws_Task.f_Good⟩ : S_laws_Task).f_Coins, a1.f_Kind, (⟨a1.f_Coins, z_S_laws_Task.f_Kind, z_S_laws_Task.f_None, z_S_laws_Task.f_Good⟩ : S_laws_Task).f_None, (⟨a1.f_Coins, z_S_laws_Task.f_Kind, z_S_laws_Task.f_None, z_S_laws_Task.f_Good⟩ : S_laws_Task).f_Good⟩ : S_laws_Task).f_Kind, a1.f_None, (⟨(⟨a1.f_Coins, z_S_laws_Task.f_Kind, z_S_laws_Task.f_None, z_S_laws_Task.f_Good⟩ : S_laws_Task).f_Coins, a1.f_Kind, (⟨a1.f_Coins, z_S_laws_Task.f_Kind, z_S_laws_Task.f_None, z_S_laws_Task.f_Good⟩ : S_laws_Task).f_None, (⟨a1.f_Coins, z_S_laws_Task.f_Kind, z_S_laws_Task.f_None, z_S_laws_Task.f_Good⟩ : S_laws_Task).f_Good⟩ : S_laws_Task).f_Good⟩ : S_laws_Task).f_None, a1.f_Good⟩ : S_laws_Task))) rfl (congrArg (Result.ok · _) (fk_S_laws_Task.len _).symm) (cells_all (hs.cells 0 rfl)))⟩, trivial⟩) ?_
  have hs : St _ [] _ := St.take (Γ' := [_, _, _]) hs
  exact ⟨_, rfl, rfl, hs⟩

/- function 18 laws_toWeighing -/
def laws_toWeighing.post (w0 : World) (r : (Ar Int 14)) (v : Value) (w : World) : Prop := v = Value.agg ((encA (encI .i8)) r).toArray ∧ St w0 [] w
set_option maxHeartbeats 8000000 in
set_option maxRecDepth 100000 in
theorem laws_toWeighing.calls {N : Nat} {a1 : (Ar Int 14)} {w0 : World} {r : (Ar Int 14)} (H : laws_toWeighing.f N a1 = some r) :
    Calls Try.prog 18 #[Value.agg ((encA (encI .i8)) a1).toArray] w0 fun e w => ∃ v, e = .returned v ∧ laws_toWeighing.post w0 r v w := by
  unfold laws_toWeighing.f at H
  have hs : St w0 [] w0 := St.refl w0
  refine calls_of_g (n := 14) Try.func18 rfl rfl ?_
  show G _ _ _ _ [_, _, _, _, _, _, _, _, _, _, _, _, _, _, _] _
  refine g_seq ?_
  refine g_region ?_
  show G _ _ _ (.inRegion _ [0, 1] :: _) _ _
  refine s_box hs rfl rfl (cs := ((encA (encI .i8)) a1)) rfl rfl ?_
  intro b2 w hs
  show G _ _ _ _ [_, _, _, _, _, _, _, _, _, _, _, _, _, _, _] _
  refine s_alloc hs rfl rfl (z := (Value.agg #[Value.int .i8 0, Value.int .i8 0, Value.int .i8 0, Value.int .i8 0, Value.int .i8 0, Value.int .i8 0, Value.int .i8 0, Value.int .i8 0, Value.int .i8 0, Value.int .i8 0, Value.int .i8 0, Value.int .i8 0, Value.int .i8 0, Value.int .i8 0])) (cs := ((encA (encI .i8)) (Ar.rep 14 0))) rfl (fun _ => rfl) rfl ?_
  intro b4 w hs
  show G _ _ _ _ [_, _, _, _, _, _, _, _, _, _, _, _, _, _, _] _
  refine g_ops_nil ?_
  refine g_seq ?_
  refine g_region ?_
  show G _ _ _ (.inRegion _ [0] :: _) _ _
  refine s_alloc hs rfl rfl (z := (Value.agg #[Value.int .i8 0, Value.int .i8 0, Value.int .i8 0, Value.int .i8 0, Value.int .i8 0, Value.int .i8 0, Value.int .i8 0, Value.int .i8 0, Value.int .i8 0, Value.int .i8 0, Value.int .i8 0, Value.int .i8 0, Value.int .i8 0, Value.int .i8 0])) (cs := ((encA (encI .i8)) (Ar.rep 14 0))) rfl (fun _ => rfl) rfl ?_
  intro b6 w hs
  show G _ _ _ _ [_, _, _, _, _, _, _, _, _, _, _, _, _, _, _] _
  refine g_ops_nil ?_
  refine g_seq ?_
  refine g_seq ?_
  refine g_region ?_
  show G _ _ _ (.inRegion _ [0] :: _) _ _
  refine g_op (v := Value.int .i64 0) rfl rfl rfl ?_
  show G _ _ _ _ [_, _, _, _, _, _, _, _, _, _, _, _, _, _, _] _
  refine g_ops_nil ?_
  obtain ⟨o1_, Ho, Hr1_⟩ := bind_get H
  refine g_block_join (J := fun t w => ∃ x11 : (Ar Int 14), laws_toWeighing.a0 N x11 = some r ∧ Fr t (fun O => ([O 0, O 1, Value.pointer (some ⟨b4, 0, none⟩), Value.pointer (some ⟨b6, 0, none⟩), O 4, O 5, O 6, O 7, O 8, O 9, O 10, O 11, O 12, O 13, O 14] : List Value)) ∧ St w0 [Cells b4 ((encA (encI .i8)) (Ar.rep 14 0)) 52, Cells b6 ((encA (encI .i8)) x11) 52] w) ?_ ?_
  ·
   rintro t w ⟨x11, H, hf, hs⟩
   obtain ⟨O, rfl⟩ := hf.open
   show G _ _ _ _ [_, _, _, _, _, _, _, _, _, _, _, _, _, _, _] _
   unfold laws_toWeighing.a0 at H
   refine g_seq ?_
   refine g_region ?_
   show G _ _ _ (.inRegion _ [0, 1] :: _) _ _
   refine s_loadA rfl rfl (es := ((encA (encI .i8)) x11)) rfl rfl (fun _ => rfl) (n := 14) (fun _ => rfl) ((fkA (n := 14) (he := (fkI .i8).len) (h1 := (fkI .i8).one)).len _) (cells_all (hs.cells 1 rfl)) ?_
   show G _ _ _ _ [_, _, _, _, _, _, _, _, _, _, _, _, _, _, _] _
   refine s_storeAll (n := 14) hs ((fkA (n := 14) (he := (fkI .i8).len) (h1 := (fkI .i8).one)).len _) rfl rfl (vs := ((encA (encI .i8)) x11)) rfl rfl rfl (fun _ => rfl) ((fkA (n := 14) (he := (fkI .i8).len) (h1 := (fkI .i8).one)).len _) ((fkA (n := 14) (he := (fkI .i8).len) (h1 := (fkI .i8).one)).one _) ?_
   intro w hs
   refine g_ops_nil ?_
   obtain rfl := Option.some.inj H
   refine g_ret Try.func18 (v := Value.agg ((encA (encI .i8)) x11).toArray) (resC rfl ⟨⟨_, rfl, (run_loadVar_agg (es := ((encA (encI .i8)) x11)) rfl (congrArg (Result.ok · _) ((fkA (n := 14) (he := (fkI .i8).len) (h1 := (fkI .i8).one)).len _).symm) (cells_all (hs.cells 0 rfl)))⟩, trivial⟩) ?_
   have hs : St _ [] _ := St.take (Γ' := [_, _]) hs
   exact ⟨_, rfl, rfl, hs⟩
  ·
   intro ha1_
   have hs := hs.pull 0 rfl
   have hs := hs.pull 1 rfl
   have hs := hs.pull 2 rfl
   have hs : St _ [_, _, _] _ := St.take (Γ' := []) hs
   refine g_loop_fuel (I := fun n_ t w => ∃ x9 : (Ar Int 14), ∃ x10 : Int, rounds (fun s => laws_toWeighing.b0 N a1 s.1 s.2) n_ (x9, x10) = some o1_ ∧ Fr t (fun O => ([O 0, Value.pointer (some ⟨b2, 0, none⟩), Value.pointer (some ⟨b4, 0, none⟩), Value.pointer (some ⟨b6, 0, none⟩), Value.int .i64 x10, O 5, O 6, O 7, O 8, O 9, O 10, O 11, O 12, O 13, O 14] : List Value)) ∧ St w0 [Cells b2 ((encA (encI .i8)) a1) 43, Cells b4 ((encA (encI .i8)) (Ar.rep 14 0)) 52, Cells b6 ((encA (encI .i8)) x9) 52] w) N ⟨(Ar.rep 14 0), 0, Ho, rfl, hs⟩ ?_ ?_
   ·
    rintro _ _ ⟨x9, x10, h, _⟩
    exact rounds_zero h
   ·
    intro n_ ih1_
    rintro t w ⟨x9, x10, Ho, hf, hs⟩
    obtain ⟨O, rfl⟩ := hf.open
    show G _ _ _ _ [_, _, _, _, _, _, _, _, _, _, _, _, _, _, _] _
    obtain ⟨x5_, H, Hx1_⟩ := rounds_succ Ho
    have H : laws_toWeighing.b0 N a1 x9 x10 = some x5_ := H
    unfold laws_toWeighing.b0 at H
    refine g_seq ?_
    refine g_seq ?_
    refine g_region ?_
    show G _ _ _ (.inRegion _ [0, 1] :: _) _ _
    refine g_op (v := Value.int .i64 x10) rfl rfl rfl ?_
    show G _ _ _ _ [_, _, _, _, _, _, _, _, _, _, _, _, _, _, _] _
    refine g_op_b (B := decide (x10 < 14)) rfl rfl rfl ?_ ?_
    ·
     intro hb
     rw [if_pos (b_dec_t hb)] at H
     show G _ _ _ _ [_, _, _, _, _, _, _, _, _, _, _, _, _, _, _] _
     refine g_ops_nil ?_
     refine g_cond_true rfl ?_
     refine g_skip ?_
     refine g_seq ?_
     refine g_block ?_
     refine g_region ?_
     show G _ _ _ (.inRegion _ [0, 1, 2, 3, 4, 5] :: _) _ _
     refine g_op (v := Value.int .i64 x10) rfl rfl rfl ?_
     show G _ _ _ _ [_, _, _, _, _, _, _, _, _, _, _, _, _, _, _] _
     refine g_op (v := Value.int .i64 x10) rfl rfl rfl ?_
     show G _ _ _ _ [_, _, _, _, _, _, _, _, _, _, _, _, _, _, _] _
     obtain ⟨g3, H⟩ := ite_get H
     refine s_idxA (n := x10) (m := 1) rfl (fun _ => rfl) g3.1 g3.2 rfl rfl rfl rfl rfl ?_
     show G _ _ _ _ [_, _, _, _, _, _, _, _, _, _, _, _, _, _, _] _
     refine s_load1 rfl rfl (v := Value.int .i8 (a1.get x10 0)) rfl rfl (fun _ => rfl) (by rw [Nat.zero_add]; exact cells_load (hs.cells 0 rfl) _ _ (encA_at (fkI .i8).len _ _ 0 g3.1 g3.2)) ?_
     show G _ _ _ _ [_, _, _, _, _, _, _, _, _, _, _, _, _, _, _] _
     obtain ⟨g4, H⟩ := ite_get H
     refine s_idxA (n := x10) (m := 1) rfl (fun _ => rfl) g4.1 g4.2 rfl rfl rfl rfl rfl ?_
     show G _ _ _ _ [_, _, _, _, _, _, _, _, _, _, _, _, _, _, _] _
     have hs := hs.pull 2 rfl
     have hs : St _ [_, _, _] _ := hs
     refine s_storeA (y := a1.get x10 0) (fkI .i8).len (fkI .i8).one g4.1 g4.2 hs rfl rfl rfl rfl rfl (fun _ => rfl) ?_
     intro w hs
     refine g_ops_nil ?_
     refine g_inBlock ?_
     refine g_region ?_
     show G _ _ _ (.inRegion _ [0, 1, 2] :: _) _ _
     refine g_op (v := Value.int .i64 x10) rfl rfl rfl ?_
     show G _ _ _ _ [_, _, _, _, _, _, _, _, _, _, _, _, _, _, _] _
     refine g_op (v := Value.int .i64 (i64w (x10 + 1))) rfl rfl rfl ?_
     show G _ _ _ _ [_, _, _, _, _, _, _, _, _, _, _, _, _, _, _] _
     refine g_op (v := Value.int .i64 (i64w (x10 + 1))) rfl rfl rfl ?_
     show G _ _ _ _ [_, _, _, _, _, _, _, _, _, _, _, _, _, _, _] _
     refine g_ops_nil ?_
     obtain rfl := Option.some.inj H
     have hs := hs.pull 0 rfl
     have hs := hs.pull 2 rfl
     have hs := hs.pull 2 rfl
     have hs : St _ [_, _, _] _ := St.take (Γ' := []) hs
     exact ih1_ _ _ ⟨x9.set x10 (a1.get x10 0), i64w (x10 + 1), Hx1_, rfl, hs⟩
    ·
     intro hb
     rw [if_neg (b_dec_f hb)] at H
     show G _ _ _ _ [_, _, _, _, _, _, _, _, _, _, _, _, _, _, _] _
     refine g_ops_nil ?_
     refine g_cond_false rfl ?_
     obtain rfl := Option.some.inj H
     subst Hx1_
     have hs := hs.pull 2 rfl
     have hs := hs.pull 2 rfl
     have hs : St _ [_, _] _ := St.take (Γ' := [_]) hs
     refine g_exit rfl ?_
     exact ha1_ _ _ ⟨x9, Hr1_, rfl, hs⟩

/- function 47 laws_toCase -/
def laws_toCase.post (w0 : World) (r : S_impl_Case) (v : Value) (w : World) : Prop := v = Value.agg (enc_S_impl_Case r).toArray ∧ St w0 [] w
set_option maxHeartbeats 8000000 in
set_option maxRecDepth 100000 in
theorem laws_toCase.calls {N : Nat} {a1 : S_impl_Case} {w0 : World} {r : S_impl_Case} (H : laws_toCase.f N a1 = some r) :
    Calls Try.prog 47 #[Value.agg (enc_S_impl_Case a1).toArray] w0 fun e w => ∃ v, e = .returned v ∧ laws_toCase.post w0 r v w := by
  unfold laws_toCase.f at H
  have hs : St w0 [] w0 := St.refl w0
  refine calls_of_g (n := 10) Try.func47 rfl rfl ?_
  show G _ _ _ _ [_, _, _, _, _, _, _, _, _, _, _] _
  refine g_seq ?_
  refine g_region ?_
  show G _ _ _ (.inRegion _ [0, 1] :: _) _ _
  refine s_box hs rfl rfl (cs := (enc_S_impl_Case a1)) rfl rfl ?_
  intro b2 w hs
  show G _ _ _ _ [_, _, _, _, _, _, _, _, _, _, _] _
  refine s_alloc hs rfl rfl (z := (Value.agg #[Value.int .i8 0, Value.bool false])) (cs := (enc_S_impl_Case z_S_impl_Case)) rfl (fun _ => rfl) rfl ?_
  intro b4 w hs
  show G _ _ _ _ [_, _, _, _, _, _, _, _, _, _, _] _
  refine g_ops_nil ?_
  refine g_seq ?_
  refine g_region ?_
  show G _ _ _ (.inRegion _ [0] :: _) _ _
  refine s_alloc hs rfl rfl (z := (Value.agg #[Value.int .i8 0, Value.bool false])) (cs := (enc_S_impl_Case z_S_impl_Case)) rfl (fun _ => rfl) rfl ?_
  intro b6 w hs
  show G _ _ _ _ [_, _, _, _, _, _, _, _, _, _, _] _
  refine g_ops_nil ?_
  refine g_seq ?_
  refine g_region ?_
  show G _ _ _ (.inRegion _ [0, 1, 2, 3] :: _) _ _
  refine g_op (v := Value.pointer (some ⟨b2, 0, none⟩)) rfl rfl rfl ?_
  show G _ _ _ _ [_, _, _, _, _, _, _, _, _, _, _] _
  refine s_load1 rfl rfl (v := Value.int .i8 a1.f_Coin) rfl rfl (fun _ => rfl) (cells_load (hs.cells 2 rfl) 0 1 rfl) ?_
  show G _ _ _ _ [_, _, _, _, _, _, _, _, _, _, _] _
  refine g_op (v := Value.pointer (some ⟨b6, 0, none⟩)) rfl rfl rfl ?_
  show G _ _ _ _ [_, _, _, _, _, _, _, _, _, _, _] _
  refine s_store hs rfl rfl (vs := ((encI .i8) a1.f_Coin)) (cs' := (enc_S_impl_Case (⟨a1.f_Coin, z_S_impl_Case.f_Heavy⟩ : S_impl_Case))) rfl rfl rfl (n := 1) (fun _ => rfl) ((fkI .i8).len _) (by first | exact Nat.le_of_ble_eq_true rfl | simp [encA_len]) ((fkI .i8).one _) rfl ?_
  intro w hs
  refine g_ops_nil ?_
  refine g_seq ?_
  refine g_region ?_
  show G _ _ _ (.inRegion _ [0, 1, 2, 3] :: _) _ _
  refine g_op (v := Value.pointer (some ⟨b2, 1, none⟩)) rfl rfl rfl ?_
  show G _ _ _ _ [_, _, _, _, _, _, _, _, _, _, _] _
  refine s_load1 rfl rfl (v := Value.bool a1.f_Heavy) rfl rfl (fun _ => rfl) (cells_load (hs.cells 2 rfl) 1 1 rfl) ?_
  show G _ _ _ _ [_, _, _, _, _, _, _, _, _, _, _] _
  refine g_op (v := Value.pointer (some ⟨b6, 1, none⟩)) rfl rfl rfl ?_
  show G _ _ _ _ [_, _, _, _, _, _, _, _, _, _, _] _
  refine s_store hs rfl rfl (vs := (encB a1.f_Heavy)) (cs' := (enc_S_impl_Case (⟨(⟨a1.f_Coin, z_S_impl_Case.f_Heavy⟩ : S_impl_Case).f_Coin, a1.f_Heavy⟩ : S_impl_Case))) rfl rfl rfl (n := 1) (fun _ => rfl) (fkB.len _) (by first | exact Nat.le_of_ble_eq_true rfl | simp [encA_len]) (fkB.one _) rfl ?_
  intro w hs
  refine g_ops_nil ?_
  refine g_seq ?_
  refine g_region ?_
  show G _ _ _ (.inRegion _ [0, 1] :: _) _ _
  refine s_loadA rfl rfl (es := (enc_S_impl_Case (⟨(⟨a1.f_Coin, z_S_impl_Case.f_Heavy⟩ : S_impl_Case).f_Coin, a1.f_Heavy⟩ : S_impl_Case))) rfl rfl (fun _ => rfl) (n := 2) (fun _ => rfl) (fk_S_impl_Case.len _) (cells_all (hs.cells 0 rfl)) ?_
  show G _ _ _ _ [_, _, _, _, _, _, _, _, _, _, _] _
  have hs := hs.pull 1 rfl
  have hs : St _ [_, _, _] _ := hs
  refine s_storeAll (n := 2) hs (fk_S_impl_Case.len _) rfl rfl (vs := (enc_S_impl_Case (⟨(⟨a1.f_Coin, z_S_impl_Case.f_Heavy⟩ : S_impl_Case).f_Coin, a1.f_Heavy⟩ : S_impl_Case))) rfl rfl rfl (fun _ => rfl) (fk_S_impl_Case.len _) (fk_S_impl_Case.one _) ?_
  intro w hs
  refine g_ops_nil ?_
  obtain rfl := Option.some.inj H
  refine g_ret Try.func47 (v := Value.agg (enc_S_impl_Case (⟨(⟨a1.f_Coin, z_S_impl_Case.f_Heavy⟩ : S_impl_Case).f_Coin, a1.f_Heavy⟩ : S_impl_Case)).toArray) (resC rfl ⟨⟨_, rfl, (run_loadVar_agg (es := (enc_S_impl_Case (⟨(⟨a1.f_Coin, z_S_impl_Case.f_Heavy⟩ : S_impl_Case).f_Coin, a1.f_Heavy⟩ : S_impl_Case))) rfl (congrArg (Result.ok · _) (fk_S_impl_Case.len _).symm) (cells_all (hs.cells 0 rfl)))⟩, trivial⟩) ?_
  have hs : St _ [] _ := St.take (Γ' := [_, _, _]) hs
  exact ⟨_, rfl, rfl, hs⟩

/- function 19 laws_toCaseS -/
def laws_toCaseS.post (w0 : World) (r : (List S_impl_Case)) (v : Value) (w : World) : Prop := St w0 [Row 84 k_S_impl_Case v r] w
set_option maxHeartbeats 8000000 in
set_option maxRecDepth 100000 in
theorem laws_toCaseS.calls {N : Nat} {a1 : (List S_impl_Case)} {v2 : Value} {w0 : World} {r : (List S_impl_Case)} (hr0 : RdRow k_S_impl_Case w0 v2 a1) (H : laws_toCaseS.f N a1 = some r) :
    Calls Try.prog 19 #[v2] w0 fun e w => ∃ v, e = .returned v ∧ laws_toCaseS.post w0 r v w := by
  unfold laws_toCaseS.f at H
  have hs : St w0 [] w0 := St.refl w0
  refine calls_of_g (n := 22) Try.func19 rfl rfl ?_
  show G _ _ _ _ [_, _, _, _, _, _, _, _, _, _, _, _, _, _, _, _, _, _, _, _, _, _, _] _
  refine g_seq ?_
  refine g_region ?_
  show G _ _ _ (.inRegion _ [0] :: _) _ _
  refine g_op (v := Value.slice none 0 0) rfl rfl rfl ?_
  show G _ _ _ _ [_, _, _, _, _, _, _, _, _, _, _, _, _, _, _, _, _, _, _, _, _, _, _] _
  refine g_ops_nil ?_
  refine g_seq ?_
  refine g_region ?_
  show G _ _ _ (.inRegion _ [0, 1, 2, 3] :: _) _ _
  refine g_op (v := v2) rfl rfl rfl ?_
  show G _ _ _ _ [_, _, _, _, _, _, _, _, _, _, _, _, _, _, _, _, _, _, _, _, _, _, _] _
  refine s_len (hs.rd hr0) rfl rfl rfl rfl rfl ?_
  show G _ _ _ _ [_, _, _, _, _, _, _, _, _, _, _, _, _, _, _, _, _, _, _, _, _, _, _] _
  obtain ⟨g, H⟩ := ite_get H
  refine s_make (κ := k_S_impl_Case) (z := z_S_impl_Case) (zc := (enc_S_impl_Case z_S_impl_Case)) (zv := (Value.agg #[Value.int .i8 0, Value.bool false])) (B := 2) hs rfl rfl rfl rfl rfl g.1 rfl rfl rfl rfl rfl (fun _ => ⟨rfl, rfl⟩) rfl (by decide) (by have := g.2; omega) ?_
  intro v3 w hs
  show G _ _ _ _ [_, _, _, _, _, _, _, _, _, _, _, _, _, _, _, _, _, _, _, _, _, _, _] _
  refine g_op (v := v3) rfl rfl rfl ?_
  show G _ _ _ _ [_, _, _, _, _, _, _, _, _, _, _, _, _, _, _, _, _, _, _, _, _, _, _] _
  refine g_ops_nil ?_
  refine g_seq ?_
  refine g_seq ?_
  refine g_region ?_
  show G _ _ _ (.inRegion _ [0] :: _) _ _
  refine g_op (v := Value.int .i64 0) rfl rfl rfl ?_
  show G _ _ _ _ [_, _, _, _, _, _, _, _, _, _, _, _, _, _, _, _, _, _, _, _, _, _, _] _
  refine g_ops_nil ?_
  obtain ⟨o1_, Ho, Hr1_⟩ := bind_get H
  refine g_block_join (J := fun t w => ∃ x14 : (List S_impl_Case), laws_toCaseS.a0 N x14 = some r ∧ Fr t (fun O => ([O 0, O 1, O 2, v3, O 4, O 5, O 6, O 7, O 8, O 9, O 10, O 11, O 12, O 13, O 14, O 15, O 16, O 17, O 18, O 19, O 20, O 21, O 22] : List Value)) ∧ St w0 [Row 84 k_S_impl_Case v3 x14] w) ?_ ?_
  ·
   rintro t w ⟨x14, H, hf, hs⟩
   obtain ⟨O, rfl⟩ := hf.open
   show G _ _ _ _ [_, _, _, _, _, _, _, _, _, _, _, _, _, _, _, _, _, _, _, _, _, _, _] _
   unfold laws_toCaseS.a0 at H
   refine g_seq ?_
   refine g_region ?_
   show G _ _ _ (.inRegion _ [0, 1] :: _) _ _
   refine g_op (v := v3) rfl rfl rfl ?_
   show G _ _ _ _ [_, _, _, _, _, _, _, _, _, _, _, _, _, _, _, _, _, _, _, _, _, _, _] _
   refine g_op (v := v3) rfl rfl rfl ?_
   show G _ _ _ _ [_, _, _, _, _, _, _, _, _, _, _, _, _, _, _, _, _, _, _, _, _, _, _] _
   refine g_ops_nil ?_
   obtain rfl := Option.some.inj H
   refine g_ret Try.func19 (v := v3) (res1 rfl rfl) ?_
   have hs := hs.pull 0 rfl
   have hs : St _ [_] _ := St.take (Γ' := []) hs
   exact ⟨_, rfl, hs⟩
  ·
   intro ha1_
   have hs := hs.pull 0 rfl
   have hs : St _ [_] _ := St.take (Γ' := []) hs
   refine g_loop_fuel (I := fun n_ t w => ∃ x9 : (List S_impl_Case), ∃ x10 : Int, rounds (fun s => laws_toCaseS.b0 N a1 s.1 s.2) n_ (x9, x10) = some o1_ ∧ Fr t (fun O => ([v2, O 1, O 2, v3, Value.int .i64 x10, O 5, O 6, O 7, O 8, O 9, O 10, O 11, O 12, O 13, O 14, O 15, O 16, O 17, O 18, O 19, O 20, O 21, O 22] : List Value)) ∧ St w0 [Row 84 k_S_impl_Case v3 x9] w) N ⟨List.replicate ((a1.length : Int)).toNat z_S_impl_Case, 0, Ho, rfl, hs⟩ ?_ ?_
   ·
    rintro _ _ ⟨x9, x10, h, _⟩
    exact rounds_zero h
   ·
    intro n_ ih1_
    rintro t w ⟨x9, x10, Ho, hf, hs⟩
    obtain ⟨O, rfl⟩ := hf.open
    show G _ _ _ _ [_, _, _, _, _, _, _, _, _, _, _, _, _, _, _, _, _, _, _, _, _, _, _] _
    obtain ⟨x5_, H, Hx1_⟩ := rounds_succ Ho
    have H : laws_toCaseS.b0 N a1 x9 x10 = some x5_ := H
    unfold laws_toCaseS.b0 at H
    refine g_seq ?_
    refine g_seq ?_
    refine g_region ?_
    show G _ _ _ (.inRegion _ [0, 1, 2, 3] :: _) _ _
    refine g_op (v := Value.int .i64 x10) rfl rfl rfl ?_
    show G _ _ _ _ [_, _, _, _, _, _, _, _, _, _, _, _, _, _, _, _, _, _, _, _, _, _, _] _
    refine g_op (v := v2) rfl rfl rfl ?_
    show G _ _ _ _ [_, _, _, _, _, _, _, _, _, _, _, _, _, _, _, _, _, _, _, _, _, _, _] _
    refine s_len (hs.rd hr0) rfl rfl rfl rfl rfl ?_
    show G _ _ _ _ [_, _, _, _, _, _, _, _, _, _, _, _, _, _, _, _, _, _, _, _, _, _, _] _
    refine g_op_b (B := decide (x10 < (a1.length : Int))) rfl rfl rfl ?_ ?_
    ·
     intro hb
     rw [if_pos (b_dec_t hb)] at H
     show G _ _ _ _ [_, _, _, _, _, _, _, _, _, _, _, _, _, _, _, _, _, _, _, _, _, _, _] _
     refine g_ops_nil ?_
     refine g_cond_true rfl ?_
     refine g_skip ?_
     refine g_seq ?_
     refine g_block ?_
     refine g_region ?_
     show G _ _ _ (.inRegion _ [0, 1, 2, 3, 4, 5, 6, 7, 8] :: _) _ _
     refine g_op (v := v3) rfl rfl rfl ?_
     show G _ _ _ _ [_, _, _, _, _, _, _, _, _, _, _, _, _, _, _, _, _, _, _, _, _, _, _] _
     refine g_op (v := Value.int .i64 x10) rfl rfl rfl ?_
     show G _ _ _ _ [_, _, _, _, _, _, _, _, _, _, _, _, _, _, _, _, _, _, _, _, _, _, _] _
     refine g_op (v := v2) rfl rfl rfl ?_
     show G _ _ _ _ [_, _, _, _, _, _, _, _, _, _, _, _, _, _, _, _, _, _, _, _, _, _, _] _
     refine g_op (v := Value.int .i64 x10) rfl rfl rfl ?_
     show G _ _ _ _ [_, _, _, _, _, _, _, _, _, _, _, _, _, _, _, _, _, _, _, _, _, _, _] _
     obtain ⟨g3, H⟩ := ite_get H
     refine s_idx fk_S_impl_Case z_S_impl_Case (hs.rd hr0) rfl (fun _ => rfl) g3.1 g3.2 rfl rfl rfl rfl rfl ?_
     intro p11 hp11 lp11 op11
     show G _ _ _ _ [_, _, _, _, _, _, _, _, _, _, _, _, _, _, _, _, _, _, _, _, _, _, _] _
     refine s_loadA rfl rfl (es := (enc_S_impl_Case (rdL a1 x10 z_S_impl_Case))) rfl rfl (fun _ => rfl) (n := 2) (fun _ => rfl) (fk_S_impl_Case.len _) hp11 ?_
     show G _ _ _ _ [_, _, _, _, _, _, _, _, _, _, _, _, _, _, _, _, _, _, _, _, _, _, _] _
     obtain ⟨r12, Hr12, H⟩ := bind_get H
     refine s_call (args := [Value.agg (enc_S_impl_Case (rdL a1 x10 z_S_impl_Case)).toArray]) rfl rfl (x_call rfl (callFunc_enter Try.func47 rfl rfl) rfl) (laws_toCase.calls (a1 := rdL a1 x10 z_S_impl_Case) Hr12) ?_
     rintro _ w ⟨rfl, hs2⟩
     have hs : St _ [_] _ := hs.call hs2
     show G _ _ _ _ [_, _, _, _, _, _, _, _, _, _, _, _, _, _, _, _, _, _, _, _, _, _, _] _
     obtain ⟨g4, H⟩ := ite_get H
     refine s_idx fk_S_impl_Case z_S_impl_Case (hs.row 0 rfl) rfl (fun _ => rfl) g4.1 g4.2 rfl rfl rfl rfl rfl ?_
     intro p13 hp13 lp13 op13
     show G _ _ _ _ [_, _, _, _, _, _, _, _, _, _, _, _, _, _, _, _, _, _, _, _, _, _, _] _
     refine s_stRow (y := r12) fk_S_impl_Case g4.1 g4.2 op13 hs rfl rfl rfl rfl rfl (fun _ => rfl) ?_
     intro w hs
     refine g_ops_nil ?_
     refine g_inBlock ?_
     refine g_region ?_
     show G _ _ _ (.inRegion _ [0, 1, 2] :: _) _ _
     refine g_op (v := Value.int .i64 x10) rfl rfl rfl ?_
     show G _ _ _ _ [_, _, _, _, _, _, _, _, _, _, _, _, _, _, _, _, _, _, _, _, _, _, _] _
     refine g_op (v := Value.int .i64 (i64w (x10 + 1))) rfl rfl rfl ?_
     show G _ _ _ _ [_, _, _, _, _, _, _, _, _, _, _, _, _, _, _, _, _, _, _, _, _, _, _] _
     refine g_op (v := Value.int .i64 (i64w (x10 + 1))) rfl rfl rfl ?_
     show G _ _ _ _ [_, _, _, _, _, _, _, _, _, _, _, _, _, _, _, _, _, _, _, _, _, _, _] _
     refine g_ops_nil ?_
     obtain rfl := Option.some.inj H
     have hs := hs.pull 0 rfl
     have hs : St _ [_] _ := St.take (Γ' := []) hs
     exact ih1_ _ _ ⟨stL x9 x10 r12, i64w (x10 + 1), Hx1_, rfl, hs⟩
    ·
     intro hb
     rw [if_neg (b_dec_f hb)] at H
     show G _ _ _ _ [_, _, _, _, _, _, _, _, _, _, _, _, _, _, _, _, _, _, _, _, _, _, _] _
     refine g_ops_nil ?_
     refine g_cond_false rfl ?_
     obtain rfl := Option.some.inj H
     subst Hx1_
     have hs := hs.pull 0 rfl
     have hs : St _ [_] _ := St.take (Γ' := []) hs
     refine g_exit rfl ?_
     exact ha1_ _ _ ⟨x9, Hr1_, rfl, hs⟩

/- function 54 spec_l00In -/
def spec_l00In.post (w0 : World) (r : Bool) (v : Value) (w : World) : Prop := v = Value.bool r ∧ St w0 [] w
set_option maxHeartbeats 8000000 in
set_option maxRecDepth 100000 in
theorem spec_l00In.calls {N : Nat} {a1 : Int} {a2 : Int} {a3 : Int} {w0 : World} {r : Bool} (H : spec_l00In.f N a1 a2 a3 = some r) :
    Calls Try.prog 54 #[Value.int .i64 a1, Value.int .i64 a2, Value.int .i64 a3] w0 fun e w => ∃ v, e = .returned v ∧ spec_l00In.post w0 r v w := by
  unfold spec_l00In.f at H
  have hs : St w0 [] w0 := St.refl w0
  refine calls_of_g (n := 12) Try.func54 rfl rfl ?_
  show G _ _ _ _ [_, _, _, _, _, _, _, _, _, _, _, _, _, _, _] _
  refine g_seq ?_
  refine g_region ?_
  show G _ _ _ (.inRegion _ [0] :: _) _ _
  refine g_op (v := Value.bool false) rfl rfl rfl ?_
  show G _ _ _ _ [_, _, _, _, _, _, _, _, _, _, _, _, _, _, _] _
  refine g_ops_nil ?_
  refine g_seq ?_
  refine g_region ?_
  show G _ _ _ (.inRegion _ [0, 1, 2, 3, 4, 5, 6, 7, 8] :: _) _ _
  refine g_op (v := Value.int .i64 a1) rfl rfl rfl ?_
  show G _ _ _ _ [_, _, _, _, _, _, _, _, _, _, _, _, _, _, _] _
  refine g_op (v := Value.int .i64 a2) rfl rfl rfl ?_
  show G _ _ _ _ [_, _, _, _, _, _, _, _, _, _, _, _, _, _, _] _
  refine g_op_b (B := decide (a1 ≥ a2)) rfl rfl rfl ?_ ?_
  ·
   intro hb
   rw [if_pos (b_dec_t hb)] at H
   show G _ _ _ _ [_, _, _, _, _, _, _, _, _, _, _, _, _, _, _] _
   refine g_op (v := Value.bool true) rfl rfl rfl ?_
   show G _ _ _ _ [_, _, _, _, _, _, _, _, _, _, _, _, _, _, _] _
   refine g_op (v := Value.int .i64 a1) rfl rfl rfl ?_
   show G _ _ _ _ [_, _, _, _, _, _, _, _, _, _, _, _, _, _, _] _
   refine g_op (v := Value.int .i64 a3) rfl rfl rfl ?_
   show G _ _ _ _ [_, _, _, _, _, _, _, _, _, _, _, _, _, _, _] _
   refine g_op (v := Value.bool (decide (a1 ≤ a3))) rfl rfl rfl ?_
   show G _ _ _ _ [_, _, _, _, _, _, _, _, _, _, _, _, _, _, _] _
   refine g_op (v := Value.bool (decide (a1 ≤ a3))) rfl rfl rfl ?_
   show G _ _ _ _ [_, _, _, _, _, _, _, _, _, _, _, _, _, _, _] _
   refine g_op (v := Value.bool (decide (a1 ≤ a3))) rfl rfl rfl ?_
   show G _ _ _ _ [_, _, _, _, _, _, _, _, _, _, _, _, _, _, _] _
   refine g_ops_nil ?_
   obtain rfl := Option.some.inj H
   refine g_ret Try.func54 (v := Value.bool (decide (a1 ≤ a3))) (res1 rfl rfl) ?_
   have hs : St _ [] _ := St.take (Γ' := []) hs
   exact ⟨_, rfl, rfl, hs⟩
  ·
   intro hb
   rw [if_neg (b_dec_f hb)] at H
   show G _ _ _ _ [_, _, _, _, _, _, _, _, _, _, _, _, _, _, _] _
   refine g_op (v := Value.bool false) rfl rfl rfl ?_
   show G _ _ _ _ [_, _, _, _, _, _, _, _, _, _, _, _, _, _, _] _
   refine g_op_not rfl rfl ?_
   show G _ _ _ _ [_, _, _, _, _, _, _, _, _, _, _, _, _, _, _] _
   refine g_op_not rfl rfl ?_
   show G _ _ _ _ [_, _, _, _, _, _, _, _, _, _, _, _, _, _, _] _
   refine g_op_not rfl rfl ?_
   show G _ _ _ _ [_, _, _, _, _, _, _, _, _, _, _, _, _, _, _] _
   refine g_op (v := Value.bool false) rfl rfl rfl ?_
   show G _ _ _ _ [_, _, _, _, _, _, _, _, _, _, _, _, _, _, _] _
   refine g_op (v := Value.bool false) rfl rfl rfl ?_
   show G _ _ _ _ [_, _, _, _, _, _, _, _, _, _, _, _, _, _, _] _
   refine g_ops_nil ?_
   obtain rfl := Option.some.inj H
   refine g_ret Try.func54 (v := Value.bool false) (res1 rfl rfl) ?_
   have hs : St _ [] _ := St.take (Γ' := []) hs
   exact ⟨_, rfl, rfl, hs⟩

/- function 52 spec_l03Ok -/
def spec_l03Ok.post (w0 : World) (r : Bool) (v : Value) (w : World) : Prop := v = Value.bool r ∧ St w0 [] w
set_option maxHeartbeats 8000000 in
set_option maxRecDepth 100000 in
theorem spec_l03Ok.calls {N : Nat} {a1 : S_laws_Task} {w0 : World} {r : Bool} (H : spec_l03Ok.f N a1 = some r) :
    Calls Try.prog 52 #[Value.agg (enc_S_laws_Task a1).toArray] w0 fun e w => ∃ v, e = .returned v ∧ spec_l03Ok.post w0 r v w := by
  unfold spec_l03Ok.f at H
  have hs : St w0 [] w0 := St.refl w0
  refine calls_of_g (n := 12) Try.func52 rfl rfl ?_
  show G _ _ _ _ [_, _, _, _, _, _, _, _, _, _, _, _, _] _
  refine g_seq ?_
  refine g_region ?_
  show G _ _ _ (.inRegion _ [0, 1] :: _) _ _
  refine s_box hs rfl rfl (cs := (enc_S_laws_Task a1)) rfl rfl ?_
  intro b2 w hs
  show G _ _ _ _ [_, _, _, _, _, _, _, _, _, _, _, _, _] _
  refine g_op (v := Value.bool false) rfl rfl rfl ?_
  show G _ _ _ _ [_, _, _, _, _, _, _, _, _, _, _, _, _] _
  refine g_ops_nil ?_
  refine g_seq ?_
  refine g_region ?_
  show G _ _ _ (.inRegion _ [0, 1, 2, 3, 4, 5, 6, 7, 8, 9, 10] :: _) _ _
  refine g_op (v := Value.pointer (some ⟨b2, 0, none⟩)) rfl rfl rfl ?_
  show G _ _ _ _ [_, _, _, _, _, _, _, _, _, _, _, _, _] _
  refine s_load1 rfl rfl (v := Value.int .i8 a1.f_Coins) rfl rfl (fun _ => rfl) (cells_load (hs.cells 0 rfl) 0 1 rfl) ?_
  show G _ _ _ _ [_, _, _, _, _, _, _, _, _, _, _, _, _] _
  refine g_op (v := Value.int .i64 (i64w a1.f_Coins)) rfl rfl rfl ?_
  show G _ _ _ _ [_, _, _, _, _, _, _, _, _, _, _, _, _] _
  obtain ⟨r4, Hr4, H⟩ := bind_get H
  refine s_call (args := [Value.int .i64 (i64w a1.f_Coins), Value.int .i64 1, Value.int .i64 13]) rfl rfl (x_call rfl (callFunc_enter Try.func54 rfl rfl) rfl) (spec_l00In.calls (a1 := i64w a1.f_Coins) (a2 := 1) (a3 := 13) Hr4) ?_
  rintro _ w ⟨rfl, hs2⟩
  have hs : St _ [_] _ := hs.call hs2
  cases r4 with
  | true =>
    rw [if_pos rfl] at H
    show G _ _ _ _ [_, _, _, _, _, _, _, _, _, _, _, _, _] _
    refine g_op (v := Value.bool true) rfl rfl rfl ?_
    show G _ _ _ _ [_, _, _, _, _, _, _, _, _, _, _, _, _] _
    refine g_op (v := Value.pointer (some ⟨b2, 1, none⟩)) rfl rfl rfl ?_
    show G _ _ _ _ [_, _, _, _, _, _, _, _, _, _, _, _, _] _
    refine s_load1 rfl rfl (v := Value.int .i8 a1.f_Kind) rfl rfl (fun _ => rfl) (cells_load (hs.cells 0 rfl) 1 1 rfl) ?_
    show G _ _ _ _ [_, _, _, _, _, _, _, _, _, _, _, _, _] _
    refine g_op (v := Value.int .i64 (i64w a1.f_Kind)) rfl rfl rfl ?_
    show G _ _ _ _ [_, _, _, _, _, _, _, _, _, _, _, _, _] _
    obtain ⟨r5, Hr5, H⟩ := bind_get H
    refine s_call (args := [Value.int .i64 (i64w a1.f_Kind), Value.int .i64 0, Value.int .i64 2]) rfl rfl (x_call rfl (callFunc_enter Try.func54 rfl rfl) rfl) (spec_l00In.calls (a1 := i64w a1.f_Kind) (a2 := 0) (a3 := 2) Hr5) ?_
    rintro _ w ⟨rfl, hs2⟩
    have hs : St _ [_] _ := hs.call hs2
    show G _ _ _ _ [_, _, _, _, _, _, _, _, _, _, _, _, _] _
    refine g_op (v := Value.bool r5) rfl rfl rfl ?_
    show G _ _ _ _ [_, _, _, _, _, _, _, _, _, _, _, _, _] _
    refine g_op (v := Value.bool r5) rfl rfl rfl ?_
    show G _ _ _ _ [_, _, _, _, _, _, _, _, _, _, _, _, _] _
    refine g_ops_nil ?_
    obtain rfl := Option.some.inj H
    refine g_ret Try.func52 (v := Value.bool r5) (res1 rfl rfl) ?_
    have hs : St _ [] _ := St.take (Γ' := [_]) hs
    exact ⟨_, rfl, rfl, hs⟩
  | false =>
    rw [if_neg Bool.false_ne_true] at H
    show G _ _ _ _ [_, _, _, _, _, _, _, _, _, _, _, _, _] _
    refine g_op (v := Value.bool false) rfl rfl rfl ?_
    show G _ _ _ _ [_, _, _, _, _, _, _, _, _, _, _, _, _] _
    refine g_op_not rfl rfl ?_
    show G _ _ _ _ [_, _, _, _, _, _, _, _, _, _, _, _, _] _
    refine g_op_not rfl rfl ?_
    show G _ _ _ _ [_, _, _, _, _, _, _, _, _, _, _, _, _] _
    refine g_op_not rfl rfl ?_
    show G _ _ _ _ [_, _, _, _, _, _, _, _, _, _, _, _, _] _
    refine g_op_not rfl rfl ?_
    show G _ _ _ _ [_, _, _, _, _, _, _, _, _, _, _, _, _] _
    refine g_op (v := Value.bool false) rfl rfl rfl ?_
    show G _ _ _ _ [_, _, _, _, _, _, _, _, _, _, _, _, _] _
    refine g_op (v := Value.bool false) rfl rfl rfl ?_
    show G _ _ _ _ [_, _, _, _, _, _, _, _, _, _, _, _, _] _
    refine g_ops_nil ?_
    obtain rfl := Option.some.inj H
    refine g_ret Try.func52 (v := Value.bool false) (res1 rfl rfl) ?_
    have hs : St _ [] _ := St.take (Γ' := [_]) hs
    exact ⟨_, rfl, rfl, hs⟩

end Go.Proofs.YtcocgeodfbiehaaX
