/- Contracts, printed by gen.py. -/
import Derived.Test.YtpbkenbmjgchkaaXT
import Derived.Test.YtpbkenbmjgchkaaProg
import Derived.Test.YtpbkenbmjgchkaaXRowR
import Derived.Test.YtpbkenbmjgchkaaXExt
import Derived.Test.YtpbkenbmjgchkaaXShelf
namespace Go.Proofs.YtpbkenbmjgchkaaX
open Go Go.RowKit Go.Proofs
set_option linter.unusedVariables false
set_option linter.unusedSimpArgs false
/- function 26 laws_szAskS -/
def laws_szAskS.post (w0 : World) (r : Int) (v : Value) (w : World) : Prop := v = Value.int .i64 r ∧ St w0 [] w
set_option maxHeartbeats 8000000 in
set_option maxRecDepth 100000 in
theorem laws_szAskS.calls {N : Nat} {a1 : (List S_impl_Ask)} {a3 : Int} {v2 : Value} {w0 : World} {r : Int} (hr0 : RdRow k_S_impl_Ask w0 v2 a1) (H : laws_szAskS.f N a1 a3 = some r) :
    Calls Try.prog 26 #[v2, Value.int .i64 a3] w0 fun e w => ∃ v, e = .returned v ∧ laws_szAskS.post w0 r v w := by
  unfold laws_szAskS.f at H
  have hs : St w0 [] w0 := St.refl w0
  refine calls_of_g (n := 10) Try.func26 rfl rfl ?_
  show G _ _ _ _ [_, _, _, _, _, _, _, _, _, _, _, _] _
  refine g_seq ?_
  refine g_region ?_
  show G _ _ _ (.inRegion _ [0] :: _) _ _
  refine g_op (v := Value.int .i64 0) rfl rfl rfl ?_
  show G _ _ _ _ [_, _, _, _, _, _, _, _, _, _, _, _] _
  refine g_ops_nil ?_
  refine g_seq ?_
  refine g_region ?_
  show G _ _ _ (.inRegion _ [0, 1, 2, 3, 4] :: _) _ _
  refine g_op (v := Value.int .i64 a3) rfl rfl rfl ?_
  show G _ _ _ _ [_, _, _, _, _, _, _, _, _, _, _, _] _
  refine g_op (v := v2) rfl rfl rfl ?_
  show G _ _ _ _ [_, _, _, _, _, _, _, _, _, _, _, _] _
  refine s_len (hs.rd hr0) rfl rfl rfl rfl rfl ?_
  show G _ _ _ _ [_, _, _, _, _, _, _, _, _, _, _, _] _
  refine g_op (v := Value.int .i64 (i64w (a3 - (a1.length : Int)))) rfl rfl rfl ?_
  show G _ _ _ _ [_, _, _, _, _, _, _, _, _, _, _, _] _
  refine g_op (v := Value.int .i64 (i64w (a3 - (a1.length : Int)))) rfl rfl rfl ?_
  show G _ _ _ _ [_, _, _, _, _, _, _, _, _, _, _, _] _
  refine g_ops_nil ?_
  refine g_seq ?_
  refine g_seq ?_
  refine g_region ?_
  show G _ _ _ (.inRegion _ [0, 1] :: _) _ _
  refine g_op (v := Value.int .i64 (i64w (a3 - (a1.length : Int)))) rfl rfl rfl ?_
  show G _ _ _ _ [_, _, _, _, _, _, _, _, _, _, _, _] _
  refine g_op_b (B := decide ((i64w (a3 - (a1.length : Int))) < 0)) rfl rfl rfl ?_ ?_
  ·
   intro hb
   rw [if_pos (b_dec_t hb)] at H
   show G _ _ _ _ [_, _, _, _, _, _, _, _, _, _, _, _] _
   refine g_ops_nil ?_
   refine g_cond_true rfl ?_
   refine g_seq ?_
   refine g_region ?_
   show G _ _ _ (.inRegion _ [0] :: _) _ _
   refine g_op (v := Value.int .i64 (-1)) rfl rfl rfl ?_
   show G _ _ _ _ [_, _, _, _, _, _, _, _, _, _, _, _] _
   refine g_ops_nil ?_
   obtain rfl := Option.some.inj H
   refine g_ret Try.func26 (v := Value.int .i64 (-1)) (res1 rfl rfl) ?_
   have hs : St _ [] _ := St.take (Γ' := []) hs
   exact ⟨_, rfl, rfl, hs⟩
  ·
   intro hb
   rw [if_neg (b_dec_f hb)] at H
   show G _ _ _ _ [_, _, _, _, _, _, _, _, _, _, _, _] _
   refine g_ops_nil ?_
   refine g_cond_false rfl ?_
   refine g_skip ?_
   refine g_seq ?_
   refine g_region ?_
   show G _ _ _ (.inRegion _ [0, 1] :: _) _ _
   refine g_op (v := Value.int .i64 (i64w (a3 - (a1.length : Int)))) rfl rfl rfl ?_
   show G _ _ _ _ [_, _, _, _, _, _, _, _, _, _, _, _] _
   refine g_op (v := Value.int .i64 (i64w (a3 - (a1.length : Int)))) rfl rfl rfl ?_
   show G _ _ _ _ [_, _, _, _, _, _, _, _, _, _, _, _] _
   refine g_ops_nil ?_
   obtain rfl := Option.some.inj H
   refine g_ret Try.func26 (v := Value.int .i64 (i64w (a3 - (a1.length : Int)))) (res1 rfl rfl) ?_
   have hs : St _ [] _ := St.take (Γ' := []) hs
   exact ⟨_, rfl, rfl, hs⟩

/- function 7 laws_szGame -/
def laws_szGame.post (w0 : World) (r : Int) (v : Value) (w : World) : Prop := v = Value.int .i64 r ∧ St w0 [] w
set_option maxHeartbeats 8000000 in
set_option maxRecDepth 100000 in
theorem laws_szGame.calls {N : Nat} {a1 : S_laws_Game} {a4 : Int} {v2 : Value} {w0 : World} {r : Int} (hr3 : RdRow k_S_impl_Ask w0 v2 a1.f_Asked) (H : laws_szGame.f N a1 a4 = some r) :
    Calls Try.prog 7 #[Value.agg (([Value.int .i8 a1.f_Numbers, Value.int .i8 a1.f_Lies, v2] : List Value)).toArray, Value.int .i64 a4] w0 fun e w => ∃ v, e = .returned v ∧ laws_szGame.post w0 r v w := by
  unfold laws_szGame.f at H
  have hs : St w0 [] w0 := St.refl w0
  refine calls_of_g (n := 10) Try.func7 rfl rfl ?_
  show G _ _ _ _ [_, _, _, _, _, _, _, _, _, _, _, _] _
  refine g_seq ?_
  refine g_region ?_
  show G _ _ _ (.inRegion _ [0, 1] :: _) _ _
  refine s_box hs rfl rfl (cs := (([Value.int .i8 a1.f_Numbers, Value.int .i8 a1.f_Lies, v2] : List Value))) rfl rfl ?_
  intro b5 w hs
  show G _ _ _ _ [_, _, _, _, _, _, _, _, _, _, _, _] _
  refine g_op (v := Value.int .i64 0) rfl rfl rfl ?_
  show G _ _ _ _ [_, _, _, _, _, _, _, _, _, _, _, _] _
  refine g_ops_nil ?_
  refine g_seq ?_
  refine g_region ?_
  show G _ _ _ (.inRegion _ [0, 1, 2, 3, 4] :: _) _ _
  refine g_op (v := Value.pointer (some ⟨b5, 2, none⟩)) rfl rfl rfl ?_
  show G _ _ _ _ [_, _, _, _, _, _, _, _, _, _, _, _] _
  refine s_load1 rfl rfl (v := v2) rfl rfl (fun _ => rfl) (cells_load (hs.cells 0 rfl) 2 1 rfl) ?_
  show G _ _ _ _ [_, _, _, _, _, _, _, _, _, _, _, _] _
  refine g_op (v := Value.int .i64 a4) rfl rfl rfl ?_
  show G _ _ _ _ [_, _, _, _, _, _, _, _, _, _, _, _] _
  obtain ⟨r7, Hr7, H⟩ := bind_get H
  refine s_call (args := [v2, Value.int .i64 a4]) rfl rfl (x_call rfl (callFunc_enter Try.func26 rfl rfl) rfl) (laws_szAskS.calls (a1 := a1.f_Asked) (a3 := a4) (hs.rd hr3) Hr7) ?_
  rintro _ w ⟨rfl, hs2⟩
  have hs : St _ [_] _ := hs.call hs2
  show G _ _ _ _ [_, _, _, _, _, _, _, _, _, _, _, _] _
  refine g_op (v := Value.int .i64 r7) rfl rfl rfl ?_
  show G _ _ _ _ [_, _, _, _, _, _, _, _, _, _, _, _] _
  refine g_ops_nil ?_
  refine g_seq ?_
  refine g_seq ?_
  refine g_region ?_
  show G _ _ _ (.inRegion _ [0, 1] :: _) _ _
  refine g_op (v := Value.int .i64 r7) rfl rfl rfl ?_
  show G _ _ _ _ [_, _, _, _, _, _, _, _, _, _, _, _] _
  refine g_op_b (B := decide (r7 < 0)) rfl rfl rfl ?_ ?_
  ·
   intro hb
   rw [if_pos (b_dec_t hb)] at H
   show G _ _ _ _ [_, _, _, _, _, _, _, _, _, _, _, _] _
   refine g_ops_nil ?_
   refine g_cond_true rfl ?_
   refine g_seq ?_
   refine g_region ?_
   show G _ _ _ (.inRegion _ [0] :: _) _ _
   refine g_op (v := Value.int .i64 (-1)) rfl rfl rfl ?_
   show G _ _ _ _ [_, _, _, _, _, _, _, _, _, _, _, _] _
   refine g_ops_nil ?_
   obtain rfl := Option.some.inj H
   refine g_ret Try.func7 (v := Value.int .i64 (-1)) (res1 rfl rfl) ?_
   have hs : St _ [] _ := St.take (Γ' := [_]) hs
   exact ⟨_, rfl, rfl, hs⟩
  ·
   intro hb
   rw [if_neg (b_dec_f hb)] at H
   show G _ _ _ _ [_, _, _, _, _, _, _, _, _, _, _, _] _
   refine g_ops_nil ?_
   refine g_cond_false rfl ?_
   refine g_skip ?_
   refine g_seq ?_
   refine g_region ?_
   show G _ _ _ (.inRegion _ [0, 1] :: _) _ _
   refine g_op (v := Value.int .i64 r7) rfl rfl rfl ?_
   show G _ _ _ _ [_, _, _, _, _, _, _, _, _, _, _, _] _
   refine g_op (v := Value.int .i64 r7) rfl rfl rfl ?_
   show G _ _ _ _ [_, _, _, _, _, _, _, _, _, _, _, _] _
   refine g_ops_nil ?_
   obtain rfl := Option.some.inj H
   refine g_ret Try.func7 (v := Value.int .i64 r7) (res1 rfl rfl) ?_
   have hs : St _ [] _ := St.take (Γ' := [_]) hs
   exact ⟨_, rfl, rfl, hs⟩

/- function 46 laws_toAsk -/
def laws_toAsk.post (w0 : World) (r : S_impl_Ask) (v : Value) (w : World) : Prop := v = Value.agg (enc_S_impl_Ask r).toArray ∧ St w0 [] w
set_option maxHeartbeats 8000000 in
set_option maxRecDepth 100000 in
theorem laws_toAsk.calls {N : Nat} {a1 : S_impl_Ask} {w0 : World} {r : S_impl_Ask} (H : laws_toAsk.f N a1 = some r) :
    Calls Try.prog 46 #[Value.agg (enc_S_impl_Ask a1).toArray] w0 fun e w => ∃ v, e = .returned v ∧ laws_toAsk.post w0 r v w := by
  unfold laws_toAsk.f at H
  have hs : St w0 [] w0 := St.refl w0
  refine calls_of_g (n := 10) Try.func46 rfl rfl ?_
  show G _ _ _ _ [_, _, _, _, _, _, _, _, _, _, _] _
  refine g_seq ?_
  refine g_region ?_
  show G _ _ _ (.inRegion _ [0, 1] :: _) _ _
  refine s_box hs rfl rfl (cs := (enc_S_impl_Ask a1)) rfl rfl ?_
  intro b2 w hs
  show G _ _ _ _ [_, _, _, _, _, _, _, _, _, _, _] _
  refine s_alloc hs rfl rfl (z := (Value.agg #[Value.int .u64 0, Value.bool false])) (cs := (enc_S_impl_Ask z_S_impl_Ask)) rfl (fun _ => rfl) rfl ?_
  intro b4 w hs
  show G _ _ _ _ [_, _, _, _, _, _, _, _, _, _, _] _
  refine g_ops_nil ?_
  refine g_seq ?_
  refine g_region ?_
  show G _ _ _ (.inRegion _ [0] :: _) _ _
  refine s_alloc hs rfl rfl (z := (Value.agg #[Value.int .u64 0, Value.bool false])) (cs := (enc_S_impl_Ask z_S_impl_Ask)) rfl (fun _ => rfl) rfl ?_
  intro b6 w hs
  show G _ _ _ _ [_, _, _, _, _, _, _, _, _, _, _] _
  refine g_ops_nil ?_
  refine g_seq ?_
  refine g_region ?_
  show G _ _ _ (.inRegion _ [0, 1, 2, 3] :: _) _ _
  refine g_op (v := Value.pointer (some ⟨b2, 0, none⟩)) rfl rfl rfl ?_
  show G _ _ _ _ [_, _, _, _, _, _, _, _, _, _, _] _
  refine s_load1 rfl rfl (v := Value.int .u64 a1.f_Set) rfl rfl (fun _ => rfl) (cells_load (hs.cells 2 rfl) 0 1 rfl) ?_
  show G _ _ _ _ [_, _, _, _, _, _, _, _, _, _, _] _
  refine g_op (v := Value.pointer (some ⟨b6, 0, none⟩)) rfl rfl rfl ?_
  show G _ _ _ _ [_, _, _, _, _, _, _, _, _, _, _] _
  refine s_store hs rfl rfl (vs := ((encI .u64) a1.f_Set)) (cs' := (enc_S_impl_Ask (⟨a1.f_Set, z_S_impl_Ask.f_Yes⟩ : S_impl_Ask))) rfl rfl rfl (n := 1) (fun _ => rfl) ((fkI .u64).len _) (by first | exact Nat.le_of_ble_eq_true rfl | simp [encA_len]) ((fkI .u64).one _) rfl ?_
  intro w hs
  refine g_ops_nil ?_
  refine g_seq ?_
  refine g_region ?_
  show G _ _ _ (.inRegion _ [0, 1, 2, 3] :: _) _ _
  refine g_op (v := Value.pointer (some ⟨b2, 1, none⟩)) rfl rfl rfl ?_
  show G _ _ _ _ [_, _, _, _, _, _, _, _, _, _, _] _
  refine s_load1 rfl rfl (v := Value.bool a1.f_Yes) rfl rfl (fun _ => rfl) (cells_load (hs.cells 2 rfl) 1 1 rfl) ?_
  show G _ _ _ _ [_, _, _, _, _, _, _, _, _, _, _] _
  refine g_op (v := Value.pointer (some ⟨b6, 1, none⟩)) rfl rfl rfl ?_
  show G _ _ _ _ [_, _, _, _, _, _, _, _, _, _, _] _
  refine s_store hs rfl rfl (vs := (encB a1.f_Yes)) (cs' := (enc_S_impl_Ask (⟨(⟨a1.f_Set, z_S_impl_Ask.f_Yes⟩ : S_impl_Ask).f_Set, a1.f_Yes⟩ : S_impl_Ask))) rfl rfl rfl (n := 1) (fun _ => rfl) (fkB.len _) (by first | exact Nat.le_of_ble_eq_true rfl | simp [encA_len]) (fkB.one _) rfl ?_
  intro w hs
  refine g_ops_nil ?_
  refine g_seq ?_
  refine g_region ?_
  show G _ _ _ (.inRegion _ [0, 1] :: _) _ _
  refine s_loadA rfl rfl (es := (enc_S_impl_Ask (⟨(⟨a1.f_Set, z_S_impl_Ask.f_Yes⟩ : S_impl_Ask).f_Set, a1.f_Yes⟩ : S_impl_Ask))) rfl rfl (fun _ => rfl) (n := 2) (fun _ => rfl) (fk_S_impl_Ask.len _) (cells_all (hs.cells 0 rfl)) ?_
  show G _ _ _ _ [_, _, _, _, _, _, _, _, _, _, _] _
  have hs := hs.pull 1 rfl
  have hs : St _ [_, _, _] _ := hs
  refine s_storeAll (n := 2) hs (fk_S_impl_Ask.len _) rfl rfl (vs := (enc_S_impl_Ask (⟨(⟨a1.f_Set, z_S_impl_Ask.f_Yes⟩ : S_impl_Ask).f_Set, a1.f_Yes⟩ : S_impl_Ask))) rfl rfl rfl (fun _ => rfl) (fk_S_impl_Ask.len _) (fk_S_impl_Ask.one _) ?_
  intro w hs
  refine g_ops_nil ?_
  obtain rfl := Option.some.inj H
  refine g_ret Try.func46 (v := Value.agg (enc_S_impl_Ask (⟨(⟨a1.f_Set, z_S_impl_Ask.f_Yes⟩ : S_impl_Ask).f_Set, a1.f_Yes⟩ : S_impl_Ask)).toArray) (resC rfl ⟨⟨_, rfl, (run_loadVar_agg (es := (enc_S_impl_Ask (⟨(⟨a1.f_Set, z_S_impl_Ask.f_Yes⟩ : S_impl_Ask).f_Set, a1.f_Yes⟩ : S_impl_Ask))) rfl (congrArg (Result.ok · _) (fk_S_impl_Ask.len _).symm) (cells_all (hs.cells 0 rfl)))⟩, trivial⟩) ?_
  have hs : St _ [] _ := St.take (Γ' := [_, _, _]) hs
  exact ⟨_, rfl, rfl, hs⟩

/- function 29 laws_toAskS -/
def laws_toAskS.post (w0 : World) (r : (List S_impl_Ask)) (v : Value) (w : World) : Prop := St w0 [Row 64 k_S_impl_Ask v r] w
set_option maxHeartbeats 8000000 in
set_option maxRecDepth 100000 in
theorem laws_toAskS.calls {N : Nat} {a1 : (List S_impl_Ask)} {v2 : Value} {w0 : World} {r : (List S_impl_Ask)} (hr0 : RdRow k_S_impl_Ask w0 v2 a1) (H : laws_toAskS.f N a1 = some r) :
    Calls Try.prog 29 #[v2] w0 fun e w => ∃ v, e = .returned v ∧ laws_toAskS.post w0 r v w := by
  unfold laws_toAskS.f at H
  have hs : St w0 [] w0 := St.refl w0
  refine calls_of_g (n := 22) Try.func29 rfl rfl ?_
  show G _ _ _ _ [_, _, _, _, _, _, _, _, _, _, _, _, _, _, _, _, _, _, _, _, _, _, _] _
  refine g_seq ?_
  refine g_region ?_
  show G _ _ _ (.inRegion _ [0] :: _) _ _
  refine g_op (v := Value.slice none 0 0) rfl rfl rfl ?_
  show G _ _ _ _ [_, _, _, _, _, _, _, _, _, _, _, _, _, _, _, _, _, _, _, _, _, _, _] _
  refine g_ops_nil ?_
  refine g_seq ?_
  refine g_region ?_
  show G _ _ _ (.inRegion _ [0, 1, 2, 3] :: _) _ _
  refine g_op (v := v2) rfl rfl rfl ?_
  show G _ _ _ _ [_, _, _, _, _, _, _, _, _, _, _, _, _, _, _, _, _, _, _, _, _, _, _] _
  refine s_len (hs.rd hr0) rfl rfl rfl rfl rfl ?_
  show G _ _ _ _ [_, _, _, _, _, _, _, _, _, _, _, _, _, _, _, _, _, _, _, _, _, _, _] _
  obtain ⟨g, H⟩ := ite_get H
  refine s_make (κ := k_S_impl_Ask) (z := z_S_impl_Ask) (zc := (enc_S_impl_Ask z_S_impl_Ask)) (zv := (Value.agg #[Value.int .u64 0, Value.bool false])) (B := 16) hs rfl rfl rfl rfl rfl g.1 rfl rfl rfl rfl rfl (fun _ => ⟨rfl, rfl⟩) rfl (by decide) (by have := g.2; omega) ?_
  intro v3 w hs
  show G _ _ _ _ [_, _, _, _, _, _, _, _, _, _, _, _, _, _, _, _, _, _, _, _, _, _, _] _
  refine g_op (v := v3) rfl rfl rfl ?_
  show G _ _ _ _ [_, _, _, _, _, _, _, _, _, _, _, _, _, _, _, _, _, _, _, _, _, _, _] _
  refine g_ops_nil ?_
  refine g_seq ?_
  refine g_seq ?_
  refine g_region ?_
  show G _ _ _ (.inRegion _ [0] :: _) _ _
  refine g_op (v := Value.int .i64 0) rfl rfl rfl ?_
  show G _ _ _ _ [_, _, _, _, _, _, _, _, _, _, _, _, _, _, _, _, _, _, _, _, _, _, _] _
  refine g_ops_nil ?_
  obtain ⟨o1_, Ho, Hr1_⟩ := bind_get H
  refine g_block_join (J := fun t w => ∃ x14 : (List S_impl_Ask), laws_toAskS.a0 N x14 = some r ∧ Fr t (fun O => ([O 0, O 1, O 2, v3, O 4, O 5, O 6, O 7, O 8, O 9, O 10, O 11, O 12, O 13, O 14, O 15, O 16, O 17, O 18, O 19, O 20, O 21, O 22] : List Value)) ∧ St w0 [Row 64 k_S_impl_Ask v3 x14] w) ?_ ?_
  ·
   rintro t w ⟨x14, H, hf, hs⟩
   obtain ⟨O, rfl⟩ := hf.open
   show G _ _ _ _ [_, _, _, _, _, _, _, _, _, _, _, _, _, _, _, _, _, _, _, _, _, _, _] _
   unfold laws_toAskS.a0 at H
   refine g_seq ?_
   refine g_region ?_
   show G _ _ _ (.inRegion _ [0, 1] :: _) _ _
   refine g_op (v := v3) rfl rfl rfl ?_
   show G _ _ _ _ [_, _, _, _, _, _, _, _, _, _, _, _, _, _, _, _, _, _, _, _, _, _, _] _
   refine g_op (v := v3) rfl rfl rfl ?_
   show G _ _ _ _ [_, _, _, _, _, _, _, _, _, _, _, _, _, _, _, _, _, _, _, _, _, _, _] _
   refine g_ops_nil ?_
   obtain rfl := Option.some.inj H
   refine g_ret Try.func29 (v := v3) (res1 rfl rfl) ?_
   have hs := hs.pull 0 rfl
   have hs : St _ [_] _ := St.take (Γ' := []) hs
   exact ⟨_, rfl, hs⟩
  ·
   intro ha1_
   have hs := hs.pull 0 rfl
   have hs : St _ [_] _ := St.take (Γ' := []) hs
   refine g_loop_fuel (I := fun n_ t w => ∃ x9 : (List S_impl_Ask), ∃ x10 : Int, rounds (fun s => laws_toAskS.b0 N a1 s.1 s.2) n_ (x9, x10) = some o1_ ∧ Fr t (fun O => ([v2, O 1, O 2, v3, Value.int .i64 x10, O 5, O 6, O 7, O 8, O 9, O 10, O 11, O 12, O 13, O 14, O 15, O 16, O 17, O 18, O 19, O 20, O 21, O 22] : List Value)) ∧ St w0 [Row 64 k_S_impl_Ask v3 x9] w) N ⟨List.replicate ((a1.length : Int)).toNat z_S_impl_Ask, 0, Ho, rfl, hs⟩ ?_ ?_
   ·
    rintro _ _ ⟨x9, x10, h, _⟩
    exact rounds_zero h
   ·
    intro n_ ih1_
    rintro t w ⟨x9, x10, Ho, hf, hs⟩
    obtain ⟨O, rfl⟩ := hf.open
    show G _ _ _ _ [_, _, _, _, _, _, _, _, _, _, _, _, _, _, _, _, _, _, _, _, _, _, _] _
    obtain ⟨x5_, H, Hx1_⟩ := rounds_succ Ho
    have H : laws_toAskS.b0 N a1 x9 x10 = some x5_ := H
    unfold laws_toAskS.b0 at H
    refine g_seq ?_
    refine g_seq ?_
    refine g_region ?_
    show G _ _ _ (.inRegion _ [0, 1, 2, 3] :: _) _ _
    refine g_op (v := Value.int .i64 x10) rfl rfl rfl ?_
    show G _ _ _ _ [_, _, _, _, _, _, _, _, _, _, _, _, _, _, _, _, _, _, _, _, _, _, _] _
    refine g_op (v := v2) rfl rfl rfl ?_
    show G _ _ _ _ [_, _, _, _, _, _, _, _, _, _, _, _, _, _, _, _, _, _, _, _, _, _, _] _
    refine s_len (hs.rd hr0) rfl rfl rfl rfl rfl ?_
    show G _ _ _ _ [_, _, _, _, _, _, _, _, _, _, _, _, _, _, _, _, _, _, _, _, _, _, _] _
    refine g_op_b (B := decide (x10 < (a1.length : Int))) rfl rfl rfl ?_ ?_
    ·
     intro hb
     rw [if_pos (b_dec_t hb)] at H
     show G _ _ _ _ [_, _, _, _, _, _, _, _, _, _, _, _, _, _, _, _, _, _, _, _, _, _, _] _
     refine g_ops_nil ?_
     refine g_cond_true rfl ?_
     refine g_skip ?_
     refine g_seq ?_
     refine g_block ?_
     refine g_region ?_
     show G _ _ _ (.inRegion _ [0, 1, 2, 3, 4, 5, 6, 7, 8] :: _) _ _
     refine g_op (v := v3) rfl rfl rfl ?_
     show G _ _ _ _ [_, _, _, _, _, _, _, _, _, _, _, _, _, _, _, _, _, _, _, _, _, _, _] _
     refine g_op (v := Value.int .i64 x10) rfl rfl rfl ?_
     show G _ _ _ _ [_, _, _, _, _, _, _, _, _, _, _, _, _, _, _, _, _, _, _, _, _, _, _] _
     refine g_op (v := v2) rfl rfl rfl ?_
     show G _ _ _ _ [_, _, _, _, _, _, _, _, _, _, _, _, _, _, _, _, _, _, _, _, _, _, _] _
     refine g_op (v := Value.int .i64 x10) rfl rfl rfl ?_
     show G _ _ _ _ [_, _, _, _, _, _, _, _, _, _, _, _, _, _, _, _, _, _, _, _, _, _, _] _
     obtain ⟨g3, H⟩ := ite_get H
     refine s_idx fk_S_impl_Ask z_S_impl_Ask (hs.rd hr0) rfl (fun _ => rfl) g3.1 g3.2 rfl rfl rfl rfl rfl ?_
     intro p11 hp11 lp11 op11
     show G _ _ _ _ [_, _, _, _, _, _, _, _, _, _, _, _, _, _, _, _, _, _, _, _, _, _, _] _
     refine s_loadA rfl rfl (es := (enc_S_impl_Ask (rdL a1 x10 z_S_impl_Ask))) rfl rfl (fun _ => rfl) (n := 2) (fun _ => rfl) (fk_S_impl_Ask.len _) hp11 ?_
     show G _ _ _ _ [_, _, _, _, _, _, _, _, _, _, _, _, _, _, _, _, _, _, _, _, _, _, _] _
     obtain ⟨r12, Hr12, H⟩ := bind_get H
     refine s_call (args := [Value.agg (enc_S_impl_Ask (rdL a1 x10 z_S_impl_Ask)).toArray]) rfl rfl (x_call rfl (callFunc_enter Try.func46 rfl rfl) rfl) (laws_toAsk.calls (a1 := rdL a1 x10 z_S_impl_Ask) Hr12) ?_
     rintro _ w ⟨rfl, hs2⟩
     have hs : St _ [_] _ := hs.call hs2
     show G _ _ _ _ [_, _, _, _, _, _, _, _, _, _, _, _, _, _, _, _, _, _, _, _, _, _, _] _
     obtain ⟨g4, H⟩ := ite_get H
     refine s_idx fk_S_impl_Ask z_S_impl_Ask (hs.row 0 rfl) rfl (fun _ => rfl) g4.1 g4.2 rfl rfl rfl rfl rfl ?_
     intro p13 hp13 lp13 op13
     show G _ _ _ _ [_, _, _, _, _, _, _, _, _, _, _, _, _, _, _, _, _, _, _, _, _, _, _] _
     refine s_stRow (y := r12) fk_S_impl_Ask g4.1 g4.2 op13 hs rfl rfl rfl rfl rfl (fun _ => rfl) ?_
     intro w hs
     refine g_ops_nil ?_
     refine g_inBlock ?_
     refine g_region ?_
     show G _ _ _ (.inRegion _ [0, 1, 2] :: _) _ _
     refine g_op (v := Value.int .i64 x10) rfl rfl rfl ?_
     show G _ _ _ _ [_, _, _, _, _, _, _, _, _, _, _, _, _, _, _, _, _, _, _, _, _, _, _] _
     refine g_op (v := Value.int .i64 (i64w (x10 + 1))) rfl rfl rfl ?_
     show G _ _ _ _ [_, _, _, _, _, _, _, _, _, _, _, _, _, _, _, _, _, _, _, _, _, _, _] _
     refine g_op (v := Value.int .i64 (i64w (x10 + 1))) rfl rfl rfl ?_
     show G _ _ _ _ [_, _, _, _, _, _, _, _, _, _, _, _, _, _, _, _, _, _, _, _, _, _, _] _
     refine g_ops_nil ?_
     obtain rfl := Option.some.inj H
     have hs := hs.pull 0 rfl
     have hs : St _ [_] _ := St.take (Γ' := []) hs
     exact ih1_ _ _ ⟨stL x9 x10 r12, i64w (x10 + 1), Hx1_, rfl, hs⟩
    ·
     intro hb
     rw [if_neg (b_dec_f hb)] at H
     show G _ _ _ _ [_, _, _, _, _, _, _, _, _, _, _, _, _, _, _, _, _, _, _, _, _, _, _] _
     refine g_ops_nil ?_
     refine g_cond_false rfl ?_
     obtain rfl := Option.some.inj H
     subst Hx1_
     have hs := hs.pull 0 rfl
     have hs : St _ [_] _ := St.take (Γ' := []) hs
     refine g_exit rfl ?_
     exact ha1_ _ _ ⟨x9, Hr1_, rfl, hs⟩

/- function 9 laws_toGame -/
def laws_toGame.post (w0 : World) (r : S_impl_Game) (v : Value) (w : World) : Prop := ∃ u1 : Value, v = Value.agg (([Value.int .i8 r.f_Numbers, Value.int .i8 r.f_Lies, u1] : List Value)).toArray ∧ St w0 [Row 64 k_S_impl_Ask u1 r.f_Asked] w
set_option maxHeartbeats 8000000 in
set_option maxRecDepth 100000 in
theorem laws_toGame.calls {N : Nat} {a1 : S_laws_Game} {v2 : Value} {w0 : World} {r : S_impl_Game} (hr3 : RdRow k_S_impl_Ask w0 v2 a1.f_Asked) (H : laws_toGame.f N a1 = some r) :
    Calls Try.prog 9 #[Value.agg (([Value.int .i8 a1.f_Numbers, Value.int .i8 a1.f_Lies, v2] : List Value)).toArray] w0 fun e w => ∃ v, e = .returned v ∧ laws_toGame.post w0 r v w := by
  unfold laws_toGame.f at H
  have hs : St w0 [] w0 := St.refl w0
  refine calls_of_g (n := 14) Try.func9 rfl rfl ?_
  show G _ _ _ _ [_, _, _, _, _, _, _, _, _, _, _, _, _, _, _] _
  refine g_seq ?_
  refine g_region ?_
  show G _ _ _ (.inRegion _ [0, 1] :: _) _ _
  refine s_box hs rfl rfl (cs := (([Value.int .i8 a1.f_Numbers, Value.int .i8 a1.f_Lies, v2] : List Value))) rfl rfl ?_
  intro b4 w hs
  show G _ _ _ _ [_, _, _, _, _, _, _, _, _, _, _, _, _, _, _] _
  refine s_alloc hs rfl rfl (z := (Value.agg #[Value.int .i8 0, Value.int .i8 0, Value.slice none 0 0])) (cs := (([Value.int .i8 0, Value.int .i8 0, Value.slice none 0 0] : List Value))) rfl (fun _ => rfl) rfl ?_
  intro b6 w hs
  show G _ _ _ _ [_, _, _, _, _, _, _, _, _, _, _, _, _, _, _] _
  refine g_ops_nil ?_
  refine g_seq ?_
  refine g_region ?_
  show G _ _ _ (.inRegion _ [0] :: _) _ _
  refine s_alloc hs rfl rfl (z := (Value.agg #[Value.int .i8 0, Value.int .i8 0, Value.slice none 0 0])) (cs := (([Value.int .i8 0, Value.int .i8 0, Value.slice none 0 0] : List Value))) rfl (fun _ => rfl) rfl ?_
  intro b8 w hs
  show G _ _ _ _ [_, _, _, _, _, _, _, _, _, _, _, _, _, _, _] _
  refine g_ops_nil ?_
  refine g_seq ?_
  refine g_region ?_
  show G _ _ _ (.inRegion _ [0, 1, 2, 3] :: _) _ _
  refine g_op (v := Value.pointer (some ⟨b4, 0, none⟩)) rfl rfl rfl ?_
  show G _ _ _ _ [_, _, _, _, _, _, _, _, _, _, _, _, _, _, _] _
  refine s_load1 rfl rfl (v := Value.int .i8 a1.f_Numbers) rfl rfl (fun _ => rfl) (cells_load (hs.cells 2 rfl) 0 1 rfl) ?_
  show G _ _ _ _ [_, _, _, _, _, _, _, _, _, _, _, _, _, _, _] _
  refine g_op (v := Value.pointer (some ⟨b8, 0, none⟩)) rfl rfl rfl ?_
  show G _ _ _ _ [_, _, _, _, _, _, _, _, _, _, _, _, _, _, _] _
  refine s_store hs rfl rfl (vs := ((encI .i8) a1.f_Numbers)) (cs' := (([Value.int .i8 a1.f_Numbers, Value.int .i8 0, Value.slice none 0 0] : List Value))) rfl rfl rfl (n := 1) (fun _ => rfl) ((fkI .i8).len _) (by first | exact Nat.le_of_ble_eq_true rfl | simp [encA_len]) ((fkI .i8).one _) rfl ?_
  intro w hs
  refine g_ops_nil ?_
  refine g_seq ?_
  refine g_region ?_
  show G _ _ _ (.inRegion _ [0, 1, 2, 3] :: _) _ _
  refine g_op (v := Value.pointer (some ⟨b4, 1, none⟩)) rfl rfl rfl ?_
  show G _ _ _ _ [_, _, _, _, _, _, _, _, _, _, _, _, _, _, _] _
  refine s_load1 rfl rfl (v := Value.int .i8 a1.f_Lies) rfl rfl (fun _ => rfl) (cells_load (hs.cells 2 rfl) 1 1 rfl) ?_
  show G _ _ _ _ [_, _, _, _, _, _, _, _, _, _, _, _, _, _, _] _
  refine g_op (v := Value.pointer (some ⟨b8, 1, none⟩)) rfl rfl rfl ?_
  show G _ _ _ _ [_, _, _, _, _, _, _, _, _, _, _, _, _, _, _] _
  refine s_store hs rfl rfl (vs := ((encI .i8) a1.f_Lies)) (cs' := (([Value.int .i8 a1.f_Numbers, Value.int .i8 a1.f_Lies, Value.slice none 0 0] : List Value))) rfl rfl rfl (n := 1) (fun _ => rfl) ((fkI .i8).len _) (by first | exact Nat.le_of_ble_eq_true rfl | simp [encA_len]) ((fkI .i8).one _) rfl ?_
  intro w hs
  refine g_ops_nil ?_
  refine g_seq ?_
  refine g_region ?_
  show G _ _ _ (.inRegion _ [0, 1, 2, 3, 4] :: _) _ _
  refine g_op (v := Value.pointer (some ⟨b4, 2, none⟩)) rfl rfl rfl ?_
  show G _ _ _ _ [_, _, _, _, _, _, _, _, _, _, _, _, _, _, _] _
  refine s_load1 rfl rfl (v := v2) rfl rfl (fun _ => rfl) (cells_load (hs.cells 2 rfl) 2 1 rfl) ?_
  show G _ _ _ _ [_, _, _, _, _, _, _, _, _, _, _, _, _, _, _] _
  obtain ⟨r10, Hr10, H⟩ := bind_get H
  refine s_call (args := [v2]) rfl rfl (x_call rfl (callFunc_enter Try.func29 rfl rfl) rfl) (laws_toAskS.calls (a1 := a1.f_Asked) (hs.rd hr3) Hr10) ?_
  intro v11 w hs2
  have hs : St _ [_, _, _, _] _ := hs.call hs2
  show G _ _ _ _ [_, _, _, _, _, _, _, _, _, _, _, _, _, _, _] _
  refine g_op (v := Value.pointer (some ⟨b8, 2, none⟩)) rfl rfl rfl ?_
  show G _ _ _ _ [_, _, _, _, _, _, _, _, _, _, _, _, _, _, _] _
  have hs := hs.pull 1 rfl
  have hs : St _ [_, _, _, _] _ := hs
  refine s_store hs rfl rfl (vs := [v11]) (cs' := (([Value.int .i8 a1.f_Numbers, Value.int .i8 a1.f_Lies, v11] : List Value))) rfl rfl (slCells (hs.row 1 rfl)) (n := 1) (fun _ => rfl) rfl (by first | exact Nat.le_of_ble_eq_true rfl | simp [encA_len]) (by intro v hv; simp only [List.mem_cons, List.not_mem_nil, or_false] at hv; subst hv; exact slOne (hs.row 1 rfl)) rfl ?_
  intro w hs
  refine g_ops_nil ?_
  refine g_seq ?_
  refine g_region ?_
  show G _ _ _ (.inRegion _ [0, 1] :: _) _ _
  refine s_loadA rfl rfl (es := (([Value.int .i8 a1.f_Numbers, Value.int .i8 a1.f_Lies, v11] : List Value))) rfl rfl (fun _ => rfl) (n := 3) (fun _ => rfl) rfl (cells_all (hs.cells 0 rfl)) ?_
  show G _ _ _ _ [_, _, _, _, _, _, _, _, _, _, _, _, _, _, _] _
  have hs := hs.pull 2 rfl
  have hs : St _ [_, _, _, _] _ := hs
  refine s_storeAll (n := 3) hs rfl rfl rfl (vs := (([Value.int .i8 a1.f_Numbers, Value.int .i8 a1.f_Lies, v11] : List Value))) rfl rfl rfl (fun _ => rfl) rfl (by intro v hv; simp only [List.mem_append, List.mem_cons, List.not_mem_nil, or_false] at hv; repeat (first | (subst hv; first | rfl | exact slOne (hs.row 2 rfl)) | (rcases hv with hv | hv))) ?_
  intro w hs
  refine g_ops_nil ?_
  obtain rfl := Option.some.inj H
  refine g_ret Try.func9 (v := Value.agg (([Value.int .i8 a1.f_Numbers, Value.int .i8 a1.f_Lies, v11] : List Value)).toArray) (resC rfl ⟨⟨_, rfl, (run_loadVar_agg (es := (([Value.int .i8 a1.f_Numbers, Value.int .i8 a1.f_Lies, v11] : List Value))) rfl rfl (cells_all (hs.cells 0 rfl)))⟩, trivial⟩) ?_
  have hs := hs.pull 2 rfl
  have hs : St _ [_] _ := St.take (Γ' := [_, _, _]) hs
  exact ⟨_, rfl, v11, rfl, hs⟩

/- function 39 spec_l00In -/
def spec_l00In.post (w0 : World) (r : Bool) (v : Value) (w : World) : Prop := v = Value.bool r ∧ St w0 [] w
set_option maxHeartbeats 8000000 in
set_option maxRecDepth 100000 in
theorem spec_l00In.calls {N : Nat} {a1 : Int} {a2 : Int} {a3 : Int} {w0 : World} {r : Bool} (H : spec_l00In.f N a1 a2 a3 = some r) :
    Calls Try.prog 39 #[Value.int .i64 a1, Value.int .i64 a2, Value.int .i64 a3] w0 fun e w => ∃ v, e = .returned v ∧ spec_l00In.post w0 r v w := by
  unfold spec_l00In.f at H
  have hs : St w0 [] w0 := St.refl w0
  refine calls_of_g (n := 12) Try.func39 rfl rfl ?_
  show G _ _ _ _ [_, _, _, _, _, _, _, _, _, _, _, _, _, _, _] _
  refine g_seq ?_
  refine g_region ?_
  show G _ _ _ (.inRegion _ [0] :: _) _ _
  refine g_op (v := Value.bool false) rfl rfl rfl ?_
  show G _ _ _ _ [_, _, _, _, _, _, _, _, _, _, _, _, _, _, _] _
  refine g_ops_nil ?_
  refine g_seq ?_
  refine g_region ?_
  show G _ _ _ (.inRegion _ [0, 1, 2, 3, 4, 5, 6, 7, 8] :: _) _ _
  refine g_op (v := Value.int .i64 a1) rfl rfl rfl ?_
  show G _ _ _ _ [_, _, _, _, _, _, _, _, _, _, _, _, _, _, _] _
  refine g_op (v := Value.int .i64 a2) rfl rfl rfl ?_
  show G _ _ _ _ [_, _, _, _, _, _, _, _, _, _, _, _, _, _, _] _
  refine g_op_b (B := decide (a1 ≥ a2)) rfl rfl rfl ?_ ?_
  ·
   intro hb
   rw [if_pos (b_dec_t hb)] at H
   show G _ _ _ _ [_, _, _, _, _, _, _, _, _, _, _, _, _, _, _] _
   refine g_op (v := Value.bool true) rfl rfl rfl ?_
   show G _ _ _ _ [_, _, _, _, _, _, _, _, _, _, _, _, _, _, _] _
   refine g_op (v := Value.int .i64 a1) rfl rfl rfl ?_
   show G _ _ _ _ [_, _, _, _, _, _, _, _, _, _, _, _, _, _, _] _
   refine g_op (v := Value.int .i64 a3) rfl rfl rfl ?_
   show G _ _ _ _ [_, _, _, _, _, _, _, _, _, _, _, _, _, _, _] _
   refine g_op (v := Value.bool (decide (a1 ≤ a3))) rfl rfl rfl ?_
   show G _ _ _ _ [_, _, _, _, _, _, _, _, _, _, _, _, _, _, _] _
   refine g_op (v := Value.bool (decide (a1 ≤ a3))) rfl rfl rfl ?_
   show G _ _ _ _ [_, _, _, _, _, _, _, _, _, _, _, _, _, _, _] _
   refine g_op (v := Value.bool (decide (a1 ≤ a3))) rfl rfl rfl ?_
   show G _ _ _ _ [_, _, _, _, _, _, _, _, _, _, _, _, _, _, _] _
   refine g_ops_nil ?_
   obtain rfl := Option.some.inj H
   refine g_ret Try.func39 (v := Value.bool (decide (a1 ≤ a3))) (res1 rfl rfl) ?_
   have hs : St _ [] _ := St.take (Γ' := []) hs
   exact ⟨_, rfl, rfl, hs⟩
  ·
   intro hb
   rw [if_neg (b_dec_f hb)] at H
   show G _ _ _ _ [_, _, _, _, _, _, _, _, _, _, _, _, _, _, _] _
   refine g_op (v := Value.bool false) rfl rfl rfl ?_
   show G _ _ _ _ [_, _, _, _, _, _, _, _, _, _, _, _, _, _, _] _
   refine g_op_not rfl rfl ?_
   show G _ _ _ _ [_, _, _, _, _, _, _, _, _, _, _, _, _, _, _] _
   refine g_op_not rfl rfl ?_
   show G _ _ _ _ [_, _, _, _, _, _, _, _, _, _, _, _, _, _, _] _
   refine g_op_not rfl rfl ?_
   show G _ _ _ _ [_, _, _, _, _, _, _, _, _, _, _, _, _, _, _] _
   refine g_op (v := Value.bool false) rfl rfl rfl ?_
   show G _ _ _ _ [_, _, _, _, _, _, _, _, _, _, _, _, _, _, _] _
   refine g_op (v := Value.bool false) rfl rfl rfl ?_
   show G _ _ _ _ [_, _, _, _, _, _, _, _, _, _, _, _, _, _, _] _
   refine g_ops_nil ?_
   obtain rfl := Option.some.inj H
   refine g_ret Try.func39 (v := Value.bool false) (res1 rfl rfl) ?_
   have hs : St _ [] _ := St.take (Γ' := []) hs
   exact ⟨_, rfl, rfl, hs⟩

/- function 35 spec_l06Begin -/
def spec_l06Begin.post (w0 : World) (r : Bool) (v : Value) (w : World) : Prop := v = Value.bool r ∧ St w0 [] w
set_option maxHeartbeats 8000000 in
set_option maxRecDepth 100000 in
theorem spec_l06Begin.calls {N : Nat} {a1 : Int} {a2 : Int} {w0 : World} {r : Bool} (H : spec_l06Begin.f N a1 a2 = some r) :
    Calls Try.prog 35 #[Value.int .i64 a1, Value.int .i64 a2] w0 fun e w => ∃ v, e = .returned v ∧ spec_l06Begin.post w0 r v w := by
  unfold spec_l06Begin.f at H
  have hs : St w0 [] w0 := St.refl w0
  refine calls_of_g (n := 9) Try.func35 rfl rfl ?_
  show G _ _ _ _ [_, _, _, _, _, _, _, _, _, _, _] _
  refine g_seq ?_
  refine g_region ?_
  show G _ _ _ (.inRegion _ [0] :: _) _ _
  refine g_op (v := Value.bool false) rfl rfl rfl ?_
  show G _ _ _ _ [_, _, _, _, _, _, _, _, _, _, _] _
  refine g_ops_nil ?_
  refine g_seq ?_
  refine g_region ?_
  show G _ _ _ (.inRegion _ [0, 1, 2, 3, 4, 5, 6] :: _) _ _
  refine g_op (v := Value.int .i64 a1) rfl rfl rfl ?_
  show G _ _ _ _ [_, _, _, _, _, _, _, _, _, _, _] _
  obtain ⟨r3, Hr3, H⟩ := bind_get H
  refine s_call (args := [Value.int .i64 a1, Value.int .i64 1, Value.int .i64 60]) rfl rfl (x_call rfl (callFunc_enter Try.func39 rfl rfl) rfl) (spec_l00In.calls (a1 := a1) (a2 := 1) (a3 := 60) Hr3) ?_
  rintro _ w ⟨rfl, hs2⟩
  have hs : St _ [] _ := hs.call hs2
  cases r3 with
  | true =>
    rw [if_pos rfl] at H
    show G _ _ _ _ [_, _, _, _, _, _, _, _, _, _, _] _
    refine g_op (v := Value.bool true) rfl rfl rfl ?_
    show G _ _ _ _ [_, _, _, _, _, _, _, _, _, _, _] _
    refine g_op (v := Value.int .i64 a2) rfl rfl rfl ?_
    show G _ _ _ _ [_, _, _, _, _, _, _, _, _, _, _] _
    obtain ⟨r4, Hr4, H⟩ := bind_get H
    refine s_call (args := [Value.int .i64 a2, Value.int .i64 0, Value.int .i64 3]) rfl rfl (x_call rfl (callFunc_enter Try.func39 rfl rfl) rfl) (spec_l00In.calls (a1 := a2) (a2 := 0) (a3 := 3) Hr4) ?_
    rintro _ w ⟨rfl, hs2⟩
    have hs : St _ [] _ := hs.call hs2
    show G _ _ _ _ [_, _, _, _, _, _, _, _, _, _, _] _
    refine g_op (v := Value.bool r4) rfl rfl rfl ?_
    show G _ _ _ _ [_, _, _, _, _, _, _, _, _, _, _] _
    refine g_op (v := Value.bool r4) rfl rfl rfl ?_
    show G _ _ _ _ [_, _, _, _, _, _, _, _, _, _, _] _
    refine g_ops_nil ?_
    obtain rfl := Option.some.inj H
    refine g_ret Try.func35 (v := Value.bool r4) (res1 rfl rfl) ?_
    have hs : St _ [] _ := St.take (Γ' := []) hs
    exact ⟨_, rfl, rfl, hs⟩
  | false =>
    rw [if_neg Bool.false_ne_true] at H
    show G _ _ _ _ [_, _, _, _, _, _, _, _, _, _, _] _
    refine g_op (v := Value.bool false) rfl rfl rfl ?_
    show G _ _ _ _ [_, _, _, _, _, _, _, _, _, _, _] _
    refine g_op_not rfl rfl ?_
    show G _ _ _ _ [_, _, _, _, _, _, _, _, _, _, _] _
    refine g_op_not rfl rfl ?_
    show G _ _ _ _ [_, _, _, _, _, _, _, _, _, _, _] _
    refine g_op (v := Value.bool false) rfl rfl rfl ?_
    show G _ _ _ _ [_, _, _, _, _, _, _, _, _, _, _] _
    refine g_op (v := Value.bool false) rfl rfl rfl ?_
    show G _ _ _ _ [_, _, _, _, _, _, _, _, _, _, _] _
    refine g_ops_nil ?_
    obtain rfl := Option.some.inj H
    refine g_ret Try.func35 (v := Value.bool false) (res1 rfl rfl) ?_
    have hs : St _ [] _ := St.take (Γ' := []) hs
    exact ⟨_, rfl, rfl, hs⟩

/- function 45 spec_l06Full -/
def spec_l06Full.post (w0 : World) (r : Int) (v : Value) (w : World) : Prop := v = Value.int .u64 r ∧ St w0 [] w
set_option maxHeartbeats 8000000 in
set_option maxRecDepth 100000 in
theorem spec_l06Full.calls {N : Nat} {a1 : Int} {w0 : World} {r : Int} (H : spec_l06Full.f N a1 = some r) :
    Calls Try.prog 45 #[Value.int .i64 a1] w0 fun e w => ∃ v, e = .returned v ∧ spec_l06Full.post w0 r v w := by
  unfold spec_l06Full.f at H
  have hs : St w0 [] w0 := St.refl w0
  refine calls_of_g (n := 6) Try.func45 rfl rfl ?_
  show G _ _ _ _ [_, _, _, _, _, _, _] _
  refine g_seq ?_
  refine g_region ?_
  show G _ _ _ (.inRegion _ [0] :: _) _ _
  refine g_op (v := Value.int .u64 0) rfl rfl rfl ?_
  show G _ _ _ _ [_, _, _, _, _, _, _] _
  refine g_ops_nil ?_
  refine g_seq ?_
  refine g_region ?_
  show G _ _ _ (.inRegion _ [0, 1, 2, 3, 4] :: _) _ _
  refine g_op (v := Value.int .i64 a1) rfl rfl rfl ?_
  show G _ _ _ _ [_, _, _, _, _, _, _] _
  refine g_op (v := Value.int .i64 (i64w (64 - a1))) rfl rfl rfl ?_
  show G _ _ _ _ [_, _, _, _, _, _, _] _
  refine g_op (v := Value.int .u64 (u64w (i64w (64 - a1)))) rfl rfl rfl ?_
  show G _ _ _ _ [_, _, _, _, _, _, _] _
  obtain ⟨g1, H⟩ := ite_get H
  refine g_op (v := Value.int .u64 (shrI .u64 18446744073709551615 (u64w (i64w (64 - a1))))) rfl rfl (x_shr rfl rfl rfl g1) ?_
  show G _ _ _ _ [_, _, _, _, _, _, _] _
  refine g_op (v := Value.int .u64 (shrI .u64 18446744073709551615 (u64w (i64w (64 - a1))))) rfl rfl rfl ?_
  show G _ _ _ _ [_, _, _, _, _, _, _] _
  refine g_ops_nil ?_
  obtain rfl := Option.some.inj H
  refine g_ret Try.func45 (v := Value.int .u64 (shrI .u64 18446744073709551615 (u64w (i64w (64 - a1))))) (res1 rfl rfl) ?_
  have hs : St _ [] _ := St.take (Γ' := []) hs
  exact ⟨_, rfl, rfl, hs⟩

end Go.Proofs.YtpbkenbmjgchkaaX
