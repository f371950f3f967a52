/- Contracts, printed by gen.py. -/
import Derived.Test.YtgoblgmidejdgaaXC7
namespace Go.Proofs.YtgoblgmidejdgaaX
open Go Go.RowKit Go.Proofs
set_option linter.unusedVariables false
set_option linter.unusedSimpArgs false
/- function 15 impl_CrossAll -/
def impl_CrossAll.post (w0 : World) (r : (S_impl_Bank × Int)) (v : Value) (w : World) : Prop := v = Value.tuple #[Value.agg (enc_S_impl_Bank r.1).toArray, Value.int .i64 r.2] ∧ St w0 [] w
set_option maxHeartbeats 400000 in
set_option maxRecDepth 100000 in
theorem impl_CrossAll.calls {N : Nat} {a1 : S_laws_Ferry} {a4 : (List Int)} {v2 : Value} {v5 : Value} {w0 : World} {r : (S_impl_Bank × Int)} (hr3 : RdRow (K.int .u16) w0 v2 a1.f_Rules) (hr1 : RdRow (K.int .u16) w0 v5 a4) (H : impl_CrossAll.f N a1 a4 = some r) :
    Calls Try.prog 15 #[Value.agg (([Value.int .i8 a1.f_Things, Value.int .i8 a1.f_Boat, v2] : List Value)).toArray, v5] w0 fun e w => ∃ v, e = .returned v ∧ impl_CrossAll.post w0 r v w := by
  unfold impl_CrossAll.f at H
  have hs : St w0 [] w0 := St.refl w0
  refine calls_of_g (n := 40) Try.func15 rfl rfl ?_
  show G _ _ _ _ [_, _, _, _, _, _, _, _, _, _, _, _, _, _, _, _, _, _, _, _, _, _, _, _, _, _, _, _, _, _, _, _, _, _, _, _, _, _, _, _, _, _] _
  refine g_seq ?_
  refine g_region ?_
  show G _ _ _ (.inRegion _ [0, 1, 2] :: _) _ _
  refine s_box hs rfl rfl (cs := (([Value.int .i8 a1.f_Things, Value.int .i8 a1.f_Boat, v2] : List Value))) rfl rfl ?_
  intro b6 w hs
  show G _ _ _ _ [_, _, _, _, _, _, _, _, _, _, _, _, _, _, _, _, _, _, _, _, _, _, _, _, _, _, _, _, _, _, _, _, _, _, _, _, _, _, _, _, _, _] _
  refine s_alloc hs rfl rfl (z := (Value.agg #[Value.int .u16 0, Value.bool false])) (cs := (enc_S_impl_Bank z_S_impl_Bank)) rfl (fun _ => rfl) rfl ?_
  intro b8 w hs
  show G _ _ _ _ [_, _, _, _, _, _, _, _, _, _, _, _, _, _, _, _, _, _, _, _, _, _, _, _, _, _, _, _, _, _, _, _, _, _, _, _, _, _, _, _, _, _] _
  refine g_op (v := Value.int .i64 0) rfl rfl rfl ?_
  show G _ _ _ _ [_, _, _, _, _, _, _, _, _, _, _, _, _, _, _, _, _, _, _, _, _, _, _, _, _, _, _, _, _, _, _, _, _, _, _, _, _, _, _, _, _, _] _
  refine g_ops_nil ?_
  refine g_seq ?_
  refine g_block ?_
  refine g_seq ?_
  refine g_region ?_
  show G _ _ _ (.inRegion _ [0, 1, 2, 3] :: _) _ _
  refine s_loadA rfl rfl (es := (([Value.int .i8 a1.f_Things, Value.int .i8 a1.f_Boat, v2] : List Value))) rfl rfl (fun _ => rfl) (n := 3) (fun _ => rfl) rfl (cells_all (hs.cells 1 rfl)) ?_
  show G _ _ _ _ [_, _, _, _, _, _, _, _, _, _, _, _, _, _, _, _, _, _, _, _, _, _, _, _, _, _, _, _, _, _, _, _, _, _, _, _, _, _, _, _, _, _] _
  obtain ⟨r10, Hr10, H⟩ := bind_get H
  refine s_call (args := [Value.agg (([Value.int .i8 a1.f_Things, Value.int .i8 a1.f_Boat, v2] : List Value)).toArray]) rfl rfl (x_call rfl (callFunc_enter Try.func45 rfl rfl) rfl) (impl_ValidFerry.calls (a1 := (⟨a1.f_Things, a1.f_Boat, a1.f_Rules⟩ : S_laws_Ferry)) (hs.rd hr3) Hr10) ?_
  rintro _ w ⟨rfl, hs2⟩
  have hs : St _ [_, _] _ := hs.call hs2
  cases r10 with
  | true =>
    rw [if_pos rfl] at H
    show G _ _ _ _ [_, _, _, _, _, _, _, _, _, _, _, _, _, _, _, _, _, _, _, _, _, _, _, _, _, _, _, _, _, _, _, _, _, _, _, _, _, _, _, _, _, _] _
    refine g_op (v := Value.bool false) rfl rfl rfl ?_
    show G _ _ _ _ [_, _, _, _, _, _, _, _, _, _, _, _, _, _, _, _, _, _, _, _, _, _, _, _, _, _, _, _, _, _, _, _, _, _, _, _, _, _, _, _, _, _] _
    refine g_op (v := Value.bool false) rfl rfl rfl ?_
    show G _ _ _ _ [_, _, _, _, _, _, _, _, _, _, _, _, _, _, _, _, _, _, _, _, _, _, _, _, _, _, _, _, _, _, _, _, _, _, _, _, _, _, _, _, _, _] _
    refine g_ops_nil ?_
    refine g_cond_false rfl ?_
    refine g_seq ?_
    refine g_region ?_
    show G _ _ _ (.inRegion _ [0, 1, 2, 3] :: _) _ _
    refine g_op (v := v5) rfl rfl rfl ?_
    show G _ _ _ _ [_, _, _, _, _, _, _, _, _, _, _, _, _, _, _, _, _, _, _, _, _, _, _, _, _, _, _, _, _, _, _, _, _, _, _, _, _, _, _, _, _, _] _
    refine s_len (hs.rd hr1) rfl rfl rfl rfl rfl ?_
    show G _ _ _ _ [_, _, _, _, _, _, _, _, _, _, _, _, _, _, _, _, _, _, _, _, _, _, _, _, _, _, _, _, _, _, _, _, _, _, _, _, _, _, _, _, _, _] _
    refine g_op_b (B := decide ((a4.length : Int) > 1000)) rfl rfl rfl ?_ ?_
    · intro hb
      rw [if_pos (b_dec_t hb)] at H
      show G _ _ _ _ [_, _, _, _, _, _, _, _, _, _, _, _, _, _, _, _, _, _, _, _, _, _, _, _, _, _, _, _, _, _, _, _, _, _, _, _, _, _, _, _, _, _] _
      refine g_op (v := Value.bool true) rfl rfl rfl ?_
      show G _ _ _ _ [_, _, _, _, _, _, _, _, _, _, _, _, _, _, _, _, _, _, _, _, _, _, _, _, _, _, _, _, _, _, _, _, _, _, _, _, _, _, _, _, _, _] _
      refine g_ops_nil ?_
      refine g_cond_true rfl ?_
      refine g_seq ?_
      refine g_region ?_
      show G _ _ _ (.inRegion _ [0, 1, 2] :: _) _ _
      refine g_op (v := Value.agg (enc_S_impl_Bank (⟨0, false⟩ : S_impl_Bank)).toArray) rfl rfl (x_buildS (cs := (enc_S_impl_Bank (⟨0, false⟩ : S_impl_Bank))) (segs := [[Value.int .u16 0], [Value.bool false]]) rfl rfl (fun _ => rfl) ⟨rfl, (fun _ => rfl), rfl, (fun _ => rfl), trivial⟩ (by simp) (by first | rfl | (simp [ev, enc_S_impl_Bank]; done) | (simp [ev, enc_S_impl_Bank]; rfl))) ?_
      show G _ _ _ _ [_, _, _, _, _, _, _, _, _, _, _, _, _, _, _, _, _, _, _, _, _, _, _, _, _, _, _, _, _, _, _, _, _, _, _, _, _, _, _, _, _, _] _
      refine s_storeAll (n := 2) hs (fk_S_impl_Bank.len _) rfl rfl (vs := (enc_S_impl_Bank (⟨0, false⟩ : S_impl_Bank))) rfl rfl rfl (fun _ => rfl) (fk_S_impl_Bank.len _) (fk_S_impl_Bank.one _) ?_
      intro w hs
      refine g_op (v := Value.int .i64 2) rfl rfl rfl ?_
      show G _ _ _ _ [_, _, _, _, _, _, _, _, _, _, _, _, _, _, _, _, _, _, _, _, _, _, _, _, _, _, _, _, _, _, _, _, _, _, _, _, _, _, _, _, _, _] _
      refine g_ops_nil ?_
      obtain rfl := Option.some.inj H
      refine g_ret Try.func15 (v := Value.tuple #[Value.agg (enc_S_impl_Bank (⟨0, false⟩ : S_impl_Bank)).toArray, Value.int .i64 2]) (resN (l := Try.f15.results.toList) (vs := [Value.agg (enc_S_impl_Bank (⟨0, false⟩ : S_impl_Bank)).toArray, Value.int .i64 2]) rfl ⟨⟨_, rfl, (run_loadVar_agg (es := (enc_S_impl_Bank (⟨0, false⟩ : S_impl_Bank))) rfl (congrArg (Result.ok · _) (fk_S_impl_Bank.len _).symm) (cells_all (hs.cells 0 rfl)))⟩, rfl, trivial⟩ (by simp)) ?_
      have hs : St _ [] _ := St.take (Γ' := [_, _]) hs
      exact ⟨_, rfl, rfl, hs⟩
    · intro hb
      rw [if_neg (b_dec_f hb)] at H
      show G _ _ _ _ [_, _, _, _, _, _, _, _, _, _, _, _, _, _, _, _, _, _, _, _, _, _, _, _, _, _, _, _, _, _, _, _, _, _, _, _, _, _, _, _, _, _] _
      refine g_op (v := Value.bool false) rfl rfl rfl ?_
      show G _ _ _ _ [_, _, _, _, _, _, _, _, _, _, _, _, _, _, _, _, _, _, _, _, _, _, _, _, _, _, _, _, _, _, _, _, _, _, _, _, _, _, _, _, _, _] _
      refine g_ops_nil ?_
      refine g_cond_false rfl ?_
      refine g_skip ?_
      refine g_inBlock ?_
      refine g_seq ?_
      refine g_region ?_
      show G _ _ _ (.inRegion _ [0, 1, 2, 3, 4] :: _) _ _
      refine s_loadA rfl rfl (es := (([Value.int .i8 a1.f_Things, Value.int .i8 a1.f_Boat, v2] : List Value))) rfl rfl (fun _ => rfl) (n := 3) (fun _ => rfl) rfl (cells_all (hs.cells 1 rfl)) ?_
      show G _ _ _ _ [_, _, _, _, _, _, _, _, _, _, _, _, _, _, _, _, _, _, _, _, _, _, _, _, _, _, _, _, _, _, _, _, _, _, _, _, _, _, _, _, _, _] _
      obtain ⟨r11, Hr11, H⟩ := bind_get H
      refine s_call (args := [Value.agg (([Value.int .i8 a1.f_Things, Value.int .i8 a1.f_Boat, v2] : List Value)).toArray]) rfl rfl (x_call rfl (callFunc_enter Try.func46 rfl rfl) rfl) (_impl_Ferry_all.calls (a1 := (⟨a1.f_Things, a1.f_Boat, a1.f_Rules⟩ : S_laws_Ferry)) (hs.rd hr3) Hr11) ?_
      rintro _ w ⟨rfl, hs2⟩
      have hs : St _ [_, _] _ := hs.call hs2
      show G _ _ _ _ [_, _, _, _, _, _, _, _, _, _, _, _, _, _, _, _, _, _, _, _, _, _, _, _, _, _, _, _, _, _, _, _, _, _, _, _, _, _, _, _, _, _] _
      refine g_op (v := Value.agg (enc_S_impl_Bank (⟨r11, false⟩ : S_impl_Bank)).toArray) rfl rfl (x_buildS (cs := (enc_S_impl_Bank (⟨r11, false⟩ : S_impl_Bank))) (segs := [[Value.int .u16 0], [Value.bool false]]) rfl rfl (fun _ => rfl) ⟨rfl, (fun _ => rfl), rfl, (fun _ => rfl), trivial⟩ (by simp only [List.map_cons, List.map_nil, List.forall_mem_cons, List.not_mem_nil, false_implies, implies_true, and_true]; exact ⟨_, rfl, rfl⟩) (by first | rfl | (simp [ev, enc_S_impl_Bank]; done) | (simp [ev, enc_S_impl_Bank]; rfl))) ?_
      show G _ _ _ _ [_, _, _, _, _, _, _, _, _, _, _, _, _, _, _, _, _, _, _, _, _, _, _, _, _, _, _, _, _, _, _, _, _, _, _, _, _, _, _, _, _, _] _
      refine s_alloc hs rfl rfl (z := (Value.agg #[Value.int .u16 0, Value.bool false])) (cs := (enc_S_impl_Bank z_S_impl_Bank)) rfl (fun _ => rfl) rfl ?_
      intro b12 w hs
      show G _ _ _ _ [_, _, _, _, _, _, _, _, _, _, _, _, _, _, _, _, _, _, _, _, _, _, _, _, _, _, _, _, _, _, _, _, _, _, _, _, _, _, _, _, _, _] _
      refine s_storeAll (n := 2) hs (fk_S_impl_Bank.len _) rfl rfl (vs := (enc_S_impl_Bank (⟨r11, false⟩ : S_impl_Bank))) rfl rfl rfl (fun _ => rfl) (fk_S_impl_Bank.len _) (fk_S_impl_Bank.one _) ?_
      intro w hs
      refine g_ops_nil ?_
      refine g_seq ?_
      refine g_seq ?_
      refine g_region ?_
      show G _ _ _ (.inRegion _ [0, 1, 2] :: _) _ _
      refine g_op (v := v5) rfl rfl rfl ?_
      show G _ _ _ _ [_, _, _, _, _, _, _, _, _, _, _, _, _, _, _, _, _, _, _, _, _, _, _, _, _, _, _, _, _, _, _, _, _, _, _, _, _, _, _, _, _, _] _
      refine s_len (hs.rd hr1) rfl rfl rfl rfl rfl ?_
      show G _ _ _ _ [_, _, _, _, _, _, _, _, _, _, _, _, _, _, _, _, _, _, _, _, _, _, _, _, _, _, _, _, _, _, _, _, _, _, _, _, _, _, _, _, _, _] _
      refine g_op (v := Value.int .i64 0) rfl rfl rfl ?_
      show G _ _ _ _ [_, _, _, _, _, _, _, _, _, _, _, _, _, _, _, _, _, _, _, _, _, _, _, _, _, _, _, _, _, _, _, _, _, _, _, _, _, _, _, _, _, _] _
      refine g_ops_nil ?_
      obtain ⟨o1_, Ho, Hr1_⟩ := bind_get H
      refine g_block_join (J := fun t w => ∃ x23 : S_impl_Bank, impl_CrossAll.a0 N x23 = some r ∧ Fr t (fun O => ([O 0, O 1, O 2, O 3, Value.pointer (some ⟨b8, 0, none⟩), O 5, Value.pointer (some ⟨b12, 0, none⟩), O 7, O 8, O 9, O 10, O 11, O 12, O 13, O 14, O 15, O 16, O 17, O 18, O 19, O 20, O 21, O 22, O 23, O 24, O 25, O 26, O 27, O 28, O 29, O 30, O 31, O 32, O 33, O 34, O 35, O 36, O 37, O 38, O 39, O 40, O 41] : List Value)) ∧ St w0 [Cells b8 (enc_S_impl_Bank z_S_impl_Bank) 29, Cells b12 (enc_S_impl_Bank x23) 29] w) ?_ ?_
      · rintro t w ⟨x23, H, hf, hs⟩
        obtain ⟨O, rfl⟩ := hf.open
        show G _ _ _ _ [_, _, _, _, _, _, _, _, _, _, _, _, _, _, _, _, _, _, _, _, _, _, _, _, _, _, _, _, _, _, _, _, _, _, _, _, _, _, _, _, _, _] _
        unfold impl_CrossAll.a0 at H
        refine g_seq ?_
        refine g_region ?_
        show G _ _ _ (.inRegion _ [0, 1, 2] :: _) _ _
        refine s_loadA rfl rfl (es := (enc_S_impl_Bank x23)) rfl rfl (fun _ => rfl) (n := 2) (fun _ => rfl) (fk_S_impl_Bank.len _) (cells_all (hs.cells 1 rfl)) ?_
        show G _ _ _ _ [_, _, _, _, _, _, _, _, _, _, _, _, _, _, _, _, _, _, _, _, _, _, _, _, _, _, _, _, _, _, _, _, _, _, _, _, _, _, _, _, _, _] _
        refine s_storeAll (n := 2) hs (fk_S_impl_Bank.len _) rfl rfl (vs := (enc_S_impl_Bank x23)) rfl rfl rfl (fun _ => rfl) (fk_S_impl_Bank.len _) (fk_S_impl_Bank.one _) ?_
        intro w hs
        refine g_op (v := Value.int .i64 0) rfl rfl rfl ?_
        show G _ _ _ _ [_, _, _, _, _, _, _, _, _, _, _, _, _, _, _, _, _, _, _, _, _, _, _, _, _, _, _, _, _, _, _, _, _, _, _, _, _, _, _, _, _, _] _
        refine g_ops_nil ?_
        obtain rfl := Option.some.inj H
        refine g_ret Try.func15 (v := Value.tuple #[Value.agg (enc_S_impl_Bank x23).toArray, Value.int .i64 0]) (resN (l := Try.f15.results.toList) (vs := [Value.agg (enc_S_impl_Bank x23).toArray, Value.int .i64 0]) rfl ⟨⟨_, rfl, (run_loadVar_agg (es := (enc_S_impl_Bank x23)) rfl (congrArg (Result.ok · _) (fk_S_impl_Bank.len _).symm) (cells_all (hs.cells 0 rfl)))⟩, rfl, trivial⟩ (by simp)) ?_
        have hs : St _ [] _ := St.take (Γ' := [_, _]) hs
        exact ⟨_, rfl, rfl, hs⟩
      · intro ha1_
        have hs := hs.pull 0 rfl
        have hs := hs.pull 1 rfl
        have hs := hs.pull 2 rfl
        have hs : St _ [_, _, _] _ := St.take (Γ' := []) hs
        refine g_loop_fuel (I := fun n_ t w => ∃ x18 : S_impl_Bank, ∃ x19 : Int, rounds (fun s => impl_CrossAll.b0 N a4 a1 s.1 s.2) n_ (x18, x19) = some o1_ ∧ Fr t (fun O => ([O 0, O 1, Value.pointer (some ⟨b6, 0, none⟩), O 3, Value.pointer (some ⟨b8, 0, none⟩), O 5, Value.pointer (some ⟨b12, 0, none⟩), O 7, O 8, O 9, O 10, O 11, O 12, O 13, O 14, O 15, O 16, O 17, O 18, O 19, O 20, O 21, O 22, v5, Value.int .i64 (a4.length : Int), Value.int .i64 x19, O 26, O 27, O 28, O 29, O 30, O 31, O 32, O 33, O 34, O 35, O 36, O 37, O 38, O 39, O 40, O 41] : List Value)) ∧ St w0 [Cells b6 (([Value.int .i8 a1.f_Things, Value.int .i8 a1.f_Boat, v2] : List Value)) 32, Cells b8 (enc_S_impl_Bank z_S_impl_Bank) 29, Cells b12 (enc_S_impl_Bank x18) 29] w) N ⟨(⟨r11, false⟩ : S_impl_Bank), 0, Ho, rfl, hs⟩ ?_ ?_
        · rintro _ _ ⟨x18, x19, h, _⟩
          exact rounds_zero h
        · intro n_ ih1_
          rintro t w ⟨x18, x19, Ho, hf, hs⟩
          obtain ⟨O, rfl⟩ := hf.open
          show G _ _ _ _ [_, _, _, _, _, _, _, _, _, _, _, _, _, _, _, _, _, _, _, _, _, _, _, _, _, _, _, _, _, _, _, _, _, _, _, _, _, _, _, _, _, _] _
          obtain ⟨x3_, H, Hx1_⟩ := rounds_succ Ho
          have H : impl_CrossAll.b0 N a4 a1 x18 x19 = some x3_ := H
          unfold impl_CrossAll.b0 at H
          refine g_seq ?_
          refine g_region ?_
          show G _ _ _ (.inRegion _ [0] :: _) _ _
          refine g_op_b (B := decide (x19 < (a4.length : Int))) rfl rfl rfl ?_ ?_
          · intro hb
            rw [if_pos (b_dec_t hb)] at H
            show G _ _ _ _ [_, _, _, _, _, _, _, _, _, _, _, _, _, _, _, _, _, _, _, _, _, _, _, _, _, _, _, _, _, _, _, _, _, _, _, _, _, _, _, _, _, _] _
            refine g_ops_nil ?_
            refine g_seq ?_
            refine g_cond_true rfl ?_
            refine g_skip ?_
            refine g_seq ?_
            refine g_block ?_
            refine g_seq ?_
            refine g_region ?_
            show G _ _ _ (.inRegion _ [0, 1, 2] :: _) _ _
            obtain ⟨g2, H⟩ := ite_get H
            refine s_idx (fkI .u16) 0 (hs.rd hr1) rfl (fun _ => rfl) g2.1 g2.2 rfl rfl rfl rfl rfl ?_
            intro p20 hp20 lp20 op20
            show G _ _ _ _ [_, _, _, _, _, _, _, _, _, _, _, _, _, _, _, _, _, _, _, _, _, _, _, _, _, _, _, _, _, _, _, _, _, _, _, _, _, _, _, _, _, _] _
            refine s_load1 rfl rfl (v := Value.int .u16 (rdL a4 x19 0)) rfl rfl (fun _ => rfl) hp20 ?_
            show G _ _ _ _ [_, _, _, _, _, _, _, _, _, _, _, _, _, _, _, _, _, _, _, _, _, _, _, _, _, _, _, _, _, _, _, _, _, _, _, _, _, _, _, _, _, _] _
            refine g_op (v := Value.int .u16 (rdL a4 x19 0)) rfl rfl rfl ?_
            show G _ _ _ _ [_, _, _, _, _, _, _, _, _, _, _, _, _, _, _, _, _, _, _, _, _, _, _, _, _, _, _, _, _, _, _, _, _, _, _, _, _, _, _, _, _, _] _
            refine g_ops_nil ?_
            refine g_seq ?_
            refine g_seq ?_
            refine g_region ?_
            show G _ _ _ (.inRegion _ [0, 1, 2, 3, 4] :: _) _ _
            refine s_loadA rfl rfl (es := (([Value.int .i8 a1.f_Things, Value.int .i8 a1.f_Boat, v2] : List Value))) rfl rfl (fun _ => rfl) (n := 3) (fun _ => rfl) rfl (cells_all (hs.cells 0 rfl)) ?_
            show G _ _ _ _ [_, _, _, _, _, _, _, _, _, _, _, _, _, _, _, _, _, _, _, _, _, _, _, _, _, _, _, _, _, _, _, _, _, _, _, _, _, _, _, _, _, _] _
            refine s_loadA rfl rfl (es := (enc_S_impl_Bank x18)) rfl rfl (fun _ => rfl) (n := 2) (fun _ => rfl) (fk_S_impl_Bank.len _) (cells_all (hs.cells 2 rfl)) ?_
            show G _ _ _ _ [_, _, _, _, _, _, _, _, _, _, _, _, _, _, _, _, _, _, _, _, _, _, _, _, _, _, _, _, _, _, _, _, _, _, _, _, _, _, _, _, _, _] _
            refine g_op (v := Value.int .u16 (rdL a4 x19 0)) rfl rfl rfl ?_
            show G _ _ _ _ [_, _, _, _, _, _, _, _, _, _, _, _, _, _, _, _, _, _, _, _, _, _, _, _, _, _, _, _, _, _, _, _, _, _, _, _, _, _, _, _, _, _] _
            obtain ⟨r21, Hr21, H⟩ := bind_get H
            refine s_call (args := [Value.agg (([Value.int .i8 a1.f_Things, Value.int .i8 a1.f_Boat, v2] : List Value)).toArray, Value.agg (enc_S_impl_Bank x18).toArray, Value.int .u16 (rdL a4 x19 0)]) rfl rfl (x_call rfl (callFunc_enter Try.func47 rfl rfl) rfl) (_impl_Ferry_crossCode.calls (a1 := (⟨a1.f_Things, a1.f_Boat, a1.f_Rules⟩ : S_laws_Ferry)) (a4 := x18) (a5 := rdL a4 x19 0) (hs.rd hr3) Hr21) ?_
            rintro _ w ⟨rfl, hs2⟩
            have hs : St _ [_, _, _] _ := hs.call hs2
            show G _ _ _ _ [_, _, _, _, _, _, _, _, _, _, _, _, _, _, _, _, _, _, _, _, _, _, _, _, _, _, _, _, _, _, _, _, _, _, _, _, _, _, _, _, _, _] _
            refine g_op (v := Value.int .i64 r21) rfl rfl rfl ?_
            show G _ _ _ _ [_, _, _, _, _, _, _, _, _, _, _, _, _, _, _, _, _, _, _, _, _, _, _, _, _, _, _, _, _, _, _, _, _, _, _, _, _, _, _, _, _, _] _
            refine g_ops_nil ?_
            refine g_seq ?_
            refine g_region ?_
            show G _ _ _ (.inRegion _ [0, 1] :: _) _ _
            refine g_op (v := Value.int .i64 r21) rfl rfl rfl ?_
            show G _ _ _ _ [_, _, _, _, _, _, _, _, _, _, _, _, _, _, _, _, _, _, _, _, _, _, _, _, _, _, _, _, _, _, _, _, _, _, _, _, _, _, _, _, _, _] _
            refine g_op_b (B := r21 != 0) rfl rfl rfl ?_ ?_
            · intro hb
              rw [if_neg (b_bne_t hb)] at H
              show G _ _ _ _ [_, _, _, _, _, _, _, _, _, _, _, _, _, _, _, _, _, _, _, _, _, _, _, _, _, _, _, _, _, _, _, _, _, _, _, _, _, _, _, _, _, _] _
              refine g_ops_nil ?_
              refine g_cond_true rfl ?_
              refine g_seq ?_
              refine g_region ?_
              show G _ _ _ (.inRegion _ [0, 1, 2, 3] :: _) _ _
              refine g_op (v := Value.agg (enc_S_impl_Bank (⟨0, false⟩ : S_impl_Bank)).toArray) rfl rfl (x_buildS (cs := (enc_S_impl_Bank (⟨0, false⟩ : S_impl_Bank))) (segs := [[Value.int .u16 0], [Value.bool false]]) rfl rfl (fun _ => rfl) ⟨rfl, (fun _ => rfl), rfl, (fun _ => rfl), trivial⟩ (by simp) (by first | rfl | (simp [ev, enc_S_impl_Bank]; done) | (simp [ev, enc_S_impl_Bank]; rfl))) ?_
              show G _ _ _ _ [_, _, _, _, _, _, _, _, _, _, _, _, _, _, _, _, _, _, _, _, _, _, _, _, _, _, _, _, _, _, _, _, _, _, _, _, _, _, _, _, _, _] _
              refine g_op (v := Value.int .i64 r21) rfl rfl rfl ?_
              show G _ _ _ _ [_, _, _, _, _, _, _, _, _, _, _, _, _, _, _, _, _, _, _, _, _, _, _, _, _, _, _, _, _, _, _, _, _, _, _, _, _, _, _, _, _, _] _
              have hs := hs.pull 1 rfl
              have hs : St _ [_, _, _] _ := hs
              refine s_storeAll (n := 2) hs (fk_S_impl_Bank.len _) rfl rfl (vs := (enc_S_impl_Bank (⟨0, false⟩ : S_impl_Bank))) rfl rfl rfl (fun _ => rfl) (fk_S_impl_Bank.len _) (fk_S_impl_Bank.one _) ?_
              intro w hs
              refine g_op (v := Value.int .i64 r21) rfl rfl rfl ?_
              show G _ _ _ _ [_, _, _, _, _, _, _, _, _, _, _, _, _, _, _, _, _, _, _, _, _, _, _, _, _, _, _, _, _, _, _, _, _, _, _, _, _, _, _, _, _, _] _
              refine g_ops_nil ?_
              obtain rfl := Option.some.inj H
              subst Hx1_
              have H := Option.some.inj Hr1_
              subst H
              refine g_ret Try.func15 (v := Value.tuple #[Value.agg (enc_S_impl_Bank (⟨0, false⟩ : S_impl_Bank)).toArray, Value.int .i64 r21]) (resN (l := Try.f15.results.toList) (vs := [Value.agg (enc_S_impl_Bank (⟨0, false⟩ : S_impl_Bank)).toArray, Value.int .i64 r21]) rfl ⟨⟨_, rfl, (run_loadVar_agg (es := (enc_S_impl_Bank (⟨0, false⟩ : S_impl_Bank))) rfl (congrArg (Result.ok · _) (fk_S_impl_Bank.len _).symm) (cells_all (hs.cells 0 rfl)))⟩, rfl, trivial⟩ (by simp)) ?_
              have hs : St _ [] _ := St.take (Γ' := [_, _, _]) hs
              exact ⟨_, rfl, rfl, hs⟩
            · intro hb
              rw [if_pos (b_bne_f hb)] at H
              show G _ _ _ _ [_, _, _, _, _, _, _, _, _, _, _, _, _, _, _, _, _, _, _, _, _, _, _, _, _, _, _, _, _, _, _, _, _, _, _, _, _, _, _, _, _, _] _
              refine g_ops_nil ?_
              refine g_cond_false rfl ?_
              refine g_skip ?_
              refine g_region ?_
              show G _ _ _ (.inRegion _ [0, 1, 2, 3] :: _) _ _
              refine s_loadA rfl rfl (es := (enc_S_impl_Bank x18)) rfl rfl (fun _ => rfl) (n := 2) (fun _ => rfl) (fk_S_impl_Bank.len _) (cells_all (hs.cells 2 rfl)) ?_
              show G _ _ _ _ [_, _, _, _, _, _, _, _, _, _, _, _, _, _, _, _, _, _, _, _, _, _, _, _, _, _, _, _, _, _, _, _, _, _, _, _, _, _, _, _, _, _] _
              refine g_op (v := Value.int .u16 (rdL a4 x19 0)) rfl rfl rfl ?_
              show G _ _ _ _ [_, _, _, _, _, _, _, _, _, _, _, _, _, _, _, _, _, _, _, _, _, _, _, _, _, _, _, _, _, _, _, _, _, _, _, _, _, _, _, _, _, _] _
              obtain ⟨r22, Hr22, H⟩ := bind_get H
              refine s_call (args := [Value.agg (enc_S_impl_Bank x18).toArray, Value.int .u16 (rdL a4 x19 0)]) rfl rfl (x_call rfl (callFunc_enter Try.func48 rfl rfl) rfl) (impl_crossed.calls (a1 := x18) (a2 := rdL a4 x19 0) Hr22) ?_
              rintro _ w ⟨rfl, hs2⟩
              have hs : St _ [_, _, _] _ := hs.call hs2
              show G _ _ _ _ [_, _, _, _, _, _, _, _, _, _, _, _, _, _, _, _, _, _, _, _, _, _, _, _, _, _, _, _, _, _, _, _, _, _, _, _, _, _, _, _, _, _] _
              have hs := hs.pull 2 rfl
              have hs : St _ [_, _, _] _ := hs
              refine s_storeAll (n := 2) hs (fk_S_impl_Bank.len _) rfl rfl (vs := (enc_S_impl_Bank r22)) rfl rfl rfl (fun _ => rfl) (fk_S_impl_Bank.len _) (fk_S_impl_Bank.one _) ?_
              intro w hs
              refine g_ops_nil ?_
              refine g_inBlock ?_
              refine g_region ?_
              show G _ _ _ (.inRegion _ [0, 1] :: _) _ _
              refine g_op (v := Value.int .i64 (i64w (x19 + 1))) rfl rfl rfl ?_
              show G _ _ _ _ [_, _, _, _, _, _, _, _, _, _, _, _, _, _, _, _, _, _, _, _, _, _, _, _, _, _, _, _, _, _, _, _, _, _, _, _, _, _, _, _, _, _] _
              refine g_op (v := Value.int .i64 (i64w (x19 + 1))) rfl rfl rfl ?_
              show G _ _ _ _ [_, _, _, _, _, _, _, _, _, _, _, _, _, _, _, _, _, _, _, _, _, _, _, _, _, _, _, _, _, _, _, _, _, _, _, _, _, _, _, _, _, _] _
              refine g_ops_nil ?_
              obtain rfl := Option.some.inj H
              have hs := hs.pull 0 rfl
              have hs := hs.pull 2 rfl
              have hs := hs.pull 2 rfl
              have hs : St _ [_, _, _] _ := St.take (Γ' := []) hs
              exact ih1_ _ _ ⟨r22, i64w (x19 + 1), Hx1_, rfl, hs⟩
          · intro hb
            rw [if_neg (b_dec_f hb)] at H
            show G _ _ _ _ [_, _, _, _, _, _, _, _, _, _, _, _, _, _, _, _, _, _, _, _, _, _, _, _, _, _, _, _, _, _, _, _, _, _, _, _, _, _, _, _, _, _] _
            refine g_ops_nil ?_
            refine g_seq ?_
            refine g_cond_false rfl ?_
            obtain rfl := Option.some.inj H
            subst Hx1_
            have hs := hs.pull 2 rfl
            have hs := hs.pull 2 rfl
            have hs : St _ [_, _] _ := St.take (Γ' := [_]) hs
            refine g_exit rfl ?_
            exact ha1_ _ _ ⟨x18, Hr1_, rfl, hs⟩
  | false =>
    rw [if_neg Bool.false_ne_true] at H
    show G _ _ _ _ [_, _, _, _, _, _, _, _, _, _, _, _, _, _, _, _, _, _, _, _, _, _, _, _, _, _, _, _, _, _, _, _, _, _, _, _, _, _, _, _, _, _] _
    refine g_op (v := Value.bool true) rfl rfl rfl ?_
    show G _ _ _ _ [_, _, _, _, _, _, _, _, _, _, _, _, _, _, _, _, _, _, _, _, _, _, _, _, _, _, _, _, _, _, _, _, _, _, _, _, _, _, _, _, _, _] _
    refine g_op (v := Value.bool true) rfl rfl rfl ?_
    show G _ _ _ _ [_, _, _, _, _, _, _, _, _, _, _, _, _, _, _, _, _, _, _, _, _, _, _, _, _, _, _, _, _, _, _, _, _, _, _, _, _, _, _, _, _, _] _
    refine g_ops_nil ?_
    refine g_cond_true rfl ?_
    refine g_seq ?_
    refine g_region ?_
    show G _ _ _ (.inRegion _ [0, 1, 2] :: _) _ _
    refine g_op (v := Value.agg (enc_S_impl_Bank (⟨0, false⟩ : S_impl_Bank)).toArray) rfl rfl (x_buildS (cs := (enc_S_impl_Bank (⟨0, false⟩ : S_impl_Bank))) (segs := [[Value.int .u16 0], [Value.bool false]]) rfl rfl (fun _ => rfl) ⟨rfl, (fun _ => rfl), rfl, (fun _ => rfl), trivial⟩ (by simp) (by first | rfl | (simp [ev, enc_S_impl_Bank]; done) | (simp [ev, enc_S_impl_Bank]; rfl))) ?_
    show G _ _ _ _ [_, _, _, _, _, _, _, _, _, _, _, _, _, _, _, _, _, _, _, _, _, _, _, _, _, _, _, _, _, _, _, _, _, _, _, _, _, _, _, _, _, _] _
    refine s_storeAll (n := 2) hs (fk_S_impl_Bank.len _) rfl rfl (vs := (enc_S_impl_Bank (⟨0, false⟩ : S_impl_Bank))) rfl rfl rfl (fun _ => rfl) (fk_S_impl_Bank.len _) (fk_S_impl_Bank.one _) ?_
    intro w hs
    refine g_op (v := Value.int .i64 1) rfl rfl rfl ?_
    show G _ _ _ _ [_, _, _, _, _, _, _, _, _, _, _, _, _, _, _, _, _, _, _, _, _, _, _, _, _, _, _, _, _, _, _, _, _, _, _, _, _, _, _, _, _, _] _
    refine g_ops_nil ?_
    obtain rfl := Option.some.inj H
    refine g_ret Try.func15 (v := Value.tuple #[Value.agg (enc_S_impl_Bank (⟨0, false⟩ : S_impl_Bank)).toArray, Value.int .i64 1]) (resN (l := Try.f15.results.toList) (vs := [Value.agg (enc_S_impl_Bank (⟨0, false⟩ : S_impl_Bank)).toArray, Value.int .i64 1]) rfl ⟨⟨_, rfl, (run_loadVar_agg (es := (enc_S_impl_Bank (⟨0, false⟩ : S_impl_Bank))) rfl (congrArg (Result.ok · _) (fk_S_impl_Bank.len _).symm) (cells_all (hs.cells 0 rfl)))⟩, rfl, trivial⟩ (by simp)) ?_
    have hs : St _ [] _ := St.take (Γ' := [_, _]) hs
    exact ⟨_, rfl, rfl, hs⟩

/- function 16 laws_eqBank -/
def laws_eqBank.post (w0 : World) (r : Bool) (v : Value) (w : World) : Prop := v = Value.bool r ∧ St w0 [] w
set_option maxHeartbeats 400000 in
set_option maxRecDepth 100000 in
theorem laws_eqBank.calls {N : Nat} {a1 : S_impl_Bank} {a2 : S_impl_Bank} {w0 : World} {r : Bool} (H : laws_eqBank.f N a1 a2 = some r) :
    Calls Try.prog 16 #[Value.agg (enc_S_impl_Bank a1).toArray, Value.agg (enc_S_impl_Bank a2).toArray] w0 fun e w => ∃ v, e = .returned v ∧ laws_eqBank.post w0 r v w := by
  unfold laws_eqBank.f at H
  have hs : St w0 [] w0 := St.refl w0
  refine calls_of_g (n := 13) Try.func16 rfl rfl ?_
  show G _ _ _ _ [_, _, _, _, _, _, _, _, _, _, _, _, _, _, _] _
  refine g_seq ?_
  refine g_region ?_
  show G _ _ _ (.inRegion _ [0, 1, 2] :: _) _ _
  refine s_box hs rfl rfl (cs := (enc_S_impl_Bank a1)) rfl rfl ?_
  intro b3 w hs
  show G _ _ _ _ [_, _, _, _, _, _, _, _, _, _, _, _, _, _, _] _
  refine s_box hs rfl rfl (cs := (enc_S_impl_Bank a2)) rfl rfl ?_
  intro b5 w hs
  show G _ _ _ _ [_, _, _, _, _, _, _, _, _, _, _, _, _, _, _] _
  refine g_op (v := Value.bool false) rfl rfl rfl ?_
  show G _ _ _ _ [_, _, _, _, _, _, _, _, _, _, _, _, _, _, _] _
  refine g_ops_nil ?_
  refine g_seq ?_
  refine g_seq ?_
  refine g_region ?_
  show G _ _ _ (.inRegion _ [0, 1, 2, 3, 4] :: _) _ _
  refine g_op (v := Value.pointer (some ⟨b3, 0, none⟩)) rfl rfl rfl ?_
  show G _ _ _ _ [_, _, _, _, _, _, _, _, _, _, _, _, _, _, _] _
  refine s_load1 rfl rfl (v := Value.int .u16 a1.f_Near) rfl rfl (fun _ => rfl) (cells_load (hs.cells 1 rfl) 0 1 rfl) ?_
  show G _ _ _ _ [_, _, _, _, _, _, _, _, _, _, _, _, _, _, _] _
  refine g_op (v := Value.pointer (some ⟨b5, 0, none⟩)) rfl rfl rfl ?_
  show G _ _ _ _ [_, _, _, _, _, _, _, _, _, _, _, _, _, _, _] _
  refine s_load1 rfl rfl (v := Value.int .u16 a2.f_Near) rfl rfl (fun _ => rfl) (cells_load (hs.cells 0 rfl) 0 1 rfl) ?_
  show G _ _ _ _ [_, _, _, _, _, _, _, _, _, _, _, _, _, _, _] _
  refine g_op_b (B := a1.f_Near != a2.f_Near) rfl rfl rfl ?_ ?_
  · intro hb
    rw [if_neg (b_bne_t hb)] at H
    show G _ _ _ _ [_, _, _, _, _, _, _, _, _, _, _, _, _, _, _] _
    refine g_ops_nil ?_
    refine g_cond_true rfl ?_
    refine g_seq ?_
    refine g_region ?_
    show G _ _ _ (.inRegion _ [0] :: _) _ _
    refine g_op (v := Value.bool false) rfl rfl rfl ?_
    show G _ _ _ _ [_, _, _, _, _, _, _, _, _, _, _, _, _, _, _] _
    refine g_ops_nil ?_
    obtain rfl := Option.some.inj H
    refine g_ret Try.func16 (v := Value.bool false) (res1 rfl rfl) ?_
    have hs : St _ [] _ := St.take (Γ' := [_, _]) hs
    exact ⟨_, rfl, rfl, hs⟩
  · intro hb
    rw [if_pos (b_bne_f hb)] at H
    show G _ _ _ _ [_, _, _, _, _, _, _, _, _, _, _, _, _, _, _] _
    refine g_ops_nil ?_
    refine g_cond_false rfl ?_
    refine g_skip ?_
    refine g_seq ?_
    refine g_seq ?_
    refine g_region ?_
    show G _ _ _ (.inRegion _ [0, 1, 2, 3, 4] :: _) _ _
    refine g_op (v := Value.pointer (some ⟨b3, 1, none⟩)) rfl rfl rfl ?_
    show G _ _ _ _ [_, _, _, _, _, _, _, _, _, _, _, _, _, _, _] _
    refine s_load1 rfl rfl (v := Value.bool a1.f_Far) rfl rfl (fun _ => rfl) (cells_load (hs.cells 1 rfl) 1 1 rfl) ?_
    show G _ _ _ _ [_, _, _, _, _, _, _, _, _, _, _, _, _, _, _] _
    refine g_op (v := Value.pointer (some ⟨b5, 1, none⟩)) rfl rfl rfl ?_
    show G _ _ _ _ [_, _, _, _, _, _, _, _, _, _, _, _, _, _, _] _
    refine s_load1 rfl rfl (v := Value.bool a2.f_Far) rfl rfl (fun _ => rfl) (cells_load (hs.cells 0 rfl) 1 1 rfl) ?_
    show G _ _ _ _ [_, _, _, _, _, _, _, _, _, _, _, _, _, _, _] _
    refine g_op_b (B := a1.f_Far != a2.f_Far) rfl rfl rfl ?_ ?_
    · intro hb
      rw [if_neg (b_bne_t hb)] at H
      show G _ _ _ _ [_, _, _, _, _, _, _, _, _, _, _, _, _, _, _] _
      refine g_ops_nil ?_
      refine g_cond_true rfl ?_
      refine g_seq ?_
      refine g_region ?_
      show G _ _ _ (.inRegion _ [0] :: _) _ _
      refine g_op (v := Value.bool false) rfl rfl rfl ?_
      show G _ _ _ _ [_, _, _, _, _, _, _, _, _, _, _, _, _, _, _] _
      refine g_ops_nil ?_
      obtain rfl := Option.some.inj H
      refine g_ret Try.func16 (v := Value.bool false) (res1 rfl rfl) ?_
      have hs : St _ [] _ := St.take (Γ' := [_, _]) hs
      exact ⟨_, rfl, rfl, hs⟩
    · intro hb
      rw [if_pos (b_bne_f hb)] at H
      show G _ _ _ _ [_, _, _, _, _, _, _, _, _, _, _, _, _, _, _] _
      refine g_ops_nil ?_
      refine g_cond_false rfl ?_
      refine g_skip ?_
      refine g_seq ?_
      refine g_region ?_
      show G _ _ _ (.inRegion _ [0] :: _) _ _
      refine g_op (v := Value.bool true) rfl rfl rfl ?_
      show G _ _ _ _ [_, _, _, _, _, _, _, _, _, _, _, _, _, _, _] _
      refine g_ops_nil ?_
      obtain rfl := Option.some.inj H
      refine g_ret Try.func16 (v := Value.bool true) (res1 rfl rfl) ?_
      have hs : St _ [] _ := St.take (Γ' := [_, _]) hs
      exact ⟨_, rfl, rfl, hs⟩

/- function 18 laws_eqUint16S -/
def laws_eqUint16S.post (w0 : World) (r : Bool) (v : Value) (w : World) : Prop := v = Value.bool r ∧ St w0 [] w
set_option maxHeartbeats 400000 in
set_option maxRecDepth 100000 in
theorem laws_eqUint16S.calls {N : Nat} {a1 : (List Int)} {a3 : (List Int)} {v2 : Value} {v4 : Value} {w0 : World} {r : Bool} (hr0 : RdRow (K.int .u16) w0 v2 a1) (hr1 : RdRow (K.int .u16) w0 v4 a3) (H : laws_eqUint16S.f N a1 a3 = some r) :
    Calls Try.prog 18 #[v2, v4] w0 fun e w => ∃ v, e = .returned v ∧ laws_eqUint16S.post w0 r v w := by
  unfold laws_eqUint16S.f at H
  have hs : St w0 [] w0 := St.refl w0
  refine calls_of_g (n := 24) Try.func18 rfl rfl ?_
  show G _ _ _ _ [_, _, _, _, _, _, _, _, _, _, _, _, _, _, _, _, _, _, _, _, _, _, _, _, _, _] _
  refine g_seq ?_
  refine g_region ?_
  show G _ _ _ (.inRegion _ [0] :: _) _ _
  refine g_op (v := Value.bool false) rfl rfl rfl ?_
  show G _ _ _ _ [_, _, _, _, _, _, _, _, _, _, _, _, _, _, _, _, _, _, _, _, _, _, _, _, _, _] _
  refine g_ops_nil ?_
  refine g_seq ?_
  refine g_seq ?_
  refine g_region ?_
  show G _ _ _ (.inRegion _ [0, 1, 2, 3, 4] :: _) _ _
  refine g_op (v := v2) rfl rfl rfl ?_
  show G _ _ _ _ [_, _, _, _, _, _, _, _, _, _, _, _, _, _, _, _, _, _, _, _, _, _, _, _, _, _] _
  refine s_len (hs.rd hr0) rfl rfl rfl rfl rfl ?_
  show G _ _ _ _ [_, _, _, _, _, _, _, _, _, _, _, _, _, _, _, _, _, _, _, _, _, _, _, _, _, _] _
  refine g_op (v := v4) rfl rfl rfl ?_
  show G _ _ _ _ [_, _, _, _, _, _, _, _, _, _, _, _, _, _, _, _, _, _, _, _, _, _, _, _, _, _] _
  refine s_len (hs.rd hr1) rfl rfl rfl rfl rfl ?_
  show G _ _ _ _ [_, _, _, _, _, _, _, _, _, _, _, _, _, _, _, _, _, _, _, _, _, _, _, _, _, _] _
  refine g_op_b (B := (a1.length : Int) != (a3.length : Int)) rfl rfl rfl ?_ ?_
  · intro hb
    rw [if_neg (b_bne_t hb)] at H
    show G _ _ _ _ [_, _, _, _, _, _, _, _, _, _, _, _, _, _, _, _, _, _, _, _, _, _, _, _, _, _] _
    refine g_ops_nil ?_
    refine g_cond_true rfl ?_
    refine g_seq ?_
    refine g_region ?_
    show G _ _ _ (.inRegion _ [0] :: _) _ _
    refine g_op (v := Value.bool false) rfl rfl rfl ?_
    show G _ _ _ _ [_, _, _, _, _, _, _, _, _, _, _, _, _, _, _, _, _, _, _, _, _, _, _, _, _, _] _
    refine g_ops_nil ?_
    obtain rfl := Option.some.inj H
    refine g_ret Try.func18 (v := Value.bool false) (res1 rfl rfl) ?_
    have hs : St _ [] _ := St.take (Γ' := []) hs
    exact ⟨_, rfl, rfl, hs⟩
  · intro hb
    rw [if_pos (b_bne_f hb)] at H
    show G _ _ _ _ [_, _, _, _, _, _, _, _, _, _, _, _, _, _, _, _, _, _, _, _, _, _, _, _, _, _] _
    refine g_ops_nil ?_
    refine g_cond_false rfl ?_
    refine g_skip ?_
    refine g_seq ?_
    refine g_seq ?_
    refine g_region ?_
    show G _ _ _ (.inRegion _ [0] :: _) _ _
    refine g_op (v := Value.int .i64 0) rfl rfl rfl ?_
    show G _ _ _ _ [_, _, _, _, _, _, _, _, _, _, _, _, _, _, _, _, _, _, _, _, _, _, _, _, _, _] _
    refine g_ops_nil ?_
    obtain ⟨o1_, Ho, Hr1_⟩ := bind_get H
    refine g_block_join (J := fun t w => laws_eqUint16S.a0 N = some r ∧ Fr t (fun O => ([O 0, O 1, O 2, O 3, O 4, O 5, O 6, O 7, O 8, O 9, O 10, O 11, O 12, O 13, O 14, O 15, O 16, O 17, O 18, O 19, O 20, O 21, O 22, O 23, O 24, O 25] : List Value)) ∧ St w0 [] w) ?_ ?_
    · rintro t w ⟨H, hf, hs⟩
      obtain ⟨O, rfl⟩ := hf.open
      show G _ _ _ _ [_, _, _, _, _, _, _, _, _, _, _, _, _, _, _, _, _, _, _, _, _, _, _, _, _, _] _
      unfold laws_eqUint16S.a0 at H
      refine g_seq ?_
      refine g_region ?_
      show G _ _ _ (.inRegion _ [0] :: _) _ _
      refine g_op (v := Value.bool true) rfl rfl rfl ?_
      show G _ _ _ _ [_, _, _, _, _, _, _, _, _, _, _, _, _, _, _, _, _, _, _, _, _, _, _, _, _, _] _
      refine g_ops_nil ?_
      obtain rfl := Option.some.inj H
      refine g_ret Try.func18 (v := Value.bool true) (res1 rfl rfl) ?_
      have hs : St _ [] _ := St.take (Γ' := []) hs
      exact ⟨_, rfl, rfl, hs⟩
    · intro ha1_
      have hs : St _ [] _ := St.take (Γ' := []) hs
      refine g_loop_fuel (I := fun n_ t w => ∃ x5 : Int, rounds (fun s => laws_eqUint16S.b0 N a1 a3 s) n_ x5 = some o1_ ∧ Fr t (fun O => ([v2, v4, O 2, O 3, O 4, Value.int .i64 x5, O 6, O 7, O 8, O 9, O 10, O 11, O 12, O 13, O 14, O 15, O 16, O 17, O 18, O 19, O 20, O 21, O 22, O 23, O 24, O 25] : List Value)) ∧ St w0 [] w) N ⟨0, Ho, rfl, hs⟩ ?_ ?_
      · rintro _ _ ⟨x5, h, _⟩
        exact rounds_zero h
      · intro n_ ih1_
        rintro t w ⟨x5, Ho, hf, hs⟩
        obtain ⟨O, rfl⟩ := hf.open
        show G _ _ _ _ [_, _, _, _, _, _, _, _, _, _, _, _, _, _, _, _, _, _, _, _, _, _, _, _, _, _] _
        obtain ⟨x7_, H, Hx1_⟩ := rounds_succ Ho
        have H : laws_eqUint16S.b0 N a1 a3 x5 = some x7_ := H
        unfold laws_eqUint16S.b0 at H
        refine g_seq ?_
        refine g_seq ?_
        refine g_region ?_
        show G _ _ _ (.inRegion _ [0, 1, 2, 3] :: _) _ _
        refine g_op (v := Value.int .i64 x5) rfl rfl rfl ?_
        show G _ _ _ _ [_, _, _, _, _, _, _, _, _, _, _, _, _, _, _, _, _, _, _, _, _, _, _, _, _, _] _
        refine g_op (v := v2) rfl rfl rfl ?_
        show G _ _ _ _ [_, _, _, _, _, _, _, _, _, _, _, _, _, _, _, _, _, _, _, _, _, _, _, _, _, _] _
        refine s_len (hs.rd hr0) rfl rfl rfl rfl rfl ?_
        show G _ _ _ _ [_, _, _, _, _, _, _, _, _, _, _, _, _, _, _, _, _, _, _, _, _, _, _, _, _, _] _
        refine g_op_b (B := decide (x5 < (a1.length : Int))) rfl rfl rfl ?_ ?_
        · intro hb
          rw [if_pos (b_dec_t hb)] at H
          show G _ _ _ _ [_, _, _, _, _, _, _, _, _, _, _, _, _, _, _, _, _, _, _, _, _, _, _, _, _, _] _
          refine g_ops_nil ?_
          refine g_cond_true rfl ?_
          refine g_skip ?_
          refine g_seq ?_
          refine g_block ?_
          refine g_seq ?_
          refine g_lay (n := 9) rfl [0, 1, 2, 3, 4, 5, 6, 7, 8] [0, 1, 2, 3, 4, 5, 6, 7, 8] rfl rfl ?_
          intro rest w hh hbw hO
          have hs := hs.samew hh hbw
          show G _ _ _ _ [_, _, _, _, _, _, _, _, _, _, _, _, _, _, _, _, _, _, _, _, _, _, _, _, _, _] _
          obtain ⟨gd2, H⟩ := ite_get H
          obtain ⟨ad3_, ad3_N, ad3_C, had3_⟩ := sl_at (hs.rd hr0) gd2.1 gd2.2
          obtain ⟨gd4, H⟩ := ite_get H
          obtain ⟨ad5_, ad5_N, ad5_C, had5_⟩ := sl_at (hs.rd hr1) gd4.1 gd4.2
          refine g_name ?_
          intro T hT
          refine g_layer (m0 := 0) hO rfl 255 [0, 1, 2, 3, 4, 5, 6, 7] [0, 0, 3, 7, 0, 0, 48, 112, 255] (by decide +kernel) (fun D t w => ∃ O : Nat → Value, t = [v2, v4, O 2, O 3, O 4, Value.int .i64 x5, O 6, O 7, O 8, O 9, O 10, Value.int .i64 x5, v2, Value.int .i64 (a1.length : Int), Value.bool true, O 15, O 16, cnd (D 0) v2 (O 17), cnd (D 1) (Value.int .i64 x5) (O 18), cnd (D 2) (Value.pointer (some (ad3_.add (x5.toNat * 1)))) (O 19), cnd (D 3) (Value.int .u16 (rdL a1 x5 0)) (O 20), cnd (D 4) v4 (O 21), cnd (D 5) (Value.int .i64 x5) (O 22), cnd (D 6) (Value.pointer (some (ad5_.add (x5.toNat * 1)))) (O 23), cnd (D 7) (Value.int .u16 (rdL a3 x5 0)) (O 24), O 25] ∧ St w0 [] w) ?_ ⟨?_, ⟨?_, ⟨?_, ⟨?_, ⟨?_, ⟨?_, ⟨?_, ⟨?_, trivial⟩⟩⟩⟩⟩⟩⟩⟩ ?_
          · exact ⟨fun i => T.getD i undef, (by subst hT; rfl), hs⟩
          · intro D t w hD hp hcl hI rest hk
            obtain ⟨O, ht, hs⟩ := hI
            have hp : AllDone D [] := hp
            have q2_ : D 2 = false := not_yet (show D 2 = true → AllDone D [0, 1] from hcl 2 (by decide)) 0 0 rfl hD
            have q3_ : D 3 = false := not_yet (show D 3 = true → AllDone D [2] from hcl 3 (by decide)) 0 2 rfl q2_
            have u0_ : upd D 0 0 = true := rfl
            have u1_ : upd D 0 1 = D 1 := rfl
            have u2_ : upd D 0 2 = D 2 := rfl
            have u3_ : upd D 0 3 = D 3 := rfl
            have u4_ : upd D 0 4 = D 4 := rfl
            have u5_ : upd D 0 5 = D 5 := rfl
            have u6_ : upd D 0 6 = D 6 := rfl
            have u7_ : upd D 0 7 = D 7 := rfl
            simp only [hD, q2_, q3_, cnd_t, cnd_f, Asc_t, Asc_f] at ht hs
            subst ht
            refine g_op (v := v2) rfl rfl rfl ?_
            show G _ _ _ _ [_, _, _, _, _, _, _, _, _, _, _, _, _, _, _, _, _, _, _, _, _, _, _, _, _, _] _
            exact hk _ _ ⟨O, (by simp only [u0_, u1_, u2_, u3_, u4_, u5_, u6_, u7_, q2_, q3_, cnd_t, cnd_f, Asc_t, Asc_f]), hs.cast (by first | rfl | simp only [List.take, List.drop, List.cons_append, List.nil_append, List.set_cons_zero, List.set_cons_succ, List.eraseIdx, u0_, u1_, u2_, u3_, u4_, u5_, u6_, u7_, q2_, q3_, cnd_t, cnd_f, Asc_t, Asc_f])⟩
          · intro D t w hD hp hcl hI rest hk
            obtain ⟨O, ht, hs⟩ := hI
            have hp : AllDone D [] := hp
            have q2_ : D 2 = false := not_yet (show D 2 = true → AllDone D [0, 1] from hcl 2 (by decide)) 1 1 rfl hD
            have q3_ : D 3 = false := not_yet (show D 3 = true → AllDone D [2] from hcl 3 (by decide)) 0 2 rfl q2_
            have u0_ : upd D 1 0 = D 0 := rfl
            have u1_ : upd D 1 1 = true := rfl
            have u2_ : upd D 1 2 = D 2 := rfl
            have u3_ : upd D 1 3 = D 3 := rfl
            have u4_ : upd D 1 4 = D 4 := rfl
            have u5_ : upd D 1 5 = D 5 := rfl
            have u6_ : upd D 1 6 = D 6 := rfl
            have u7_ : upd D 1 7 = D 7 := rfl
            simp only [hD, q2_, q3_, cnd_t, cnd_f, Asc_t, Asc_f] at ht hs
            subst ht
            refine g_op (v := Value.int .i64 x5) rfl rfl rfl ?_
            show G _ _ _ _ [_, _, _, _, _, _, _, _, _, _, _, _, _, _, _, _, _, _, _, _, _, _, _, _, _, _] _
            exact hk _ _ ⟨O, (by simp only [u0_, u1_, u2_, u3_, u4_, u5_, u6_, u7_, q2_, q3_, cnd_t, cnd_f, Asc_t, Asc_f]), hs.cast (by first | rfl | simp only [List.take, List.drop, List.cons_append, List.nil_append, List.set_cons_zero, List.set_cons_succ, List.eraseIdx, u0_, u1_, u2_, u3_, u4_, u5_, u6_, u7_, q2_, q3_, cnd_t, cnd_f, Asc_t, Asc_f])⟩
          · intro D t w hD hp hcl hI rest hk
            obtain ⟨O, ht, hs⟩ := hI
            have hp : AllDone D [0, 1] := hp
            obtain ⟨p0_, p1_, _⟩ := hp
            have q3_ : D 3 = false := not_yet (show D 3 = true → AllDone D [2] from hcl 3 (by decide)) 0 2 rfl hD
            have u0_ : upd D 2 0 = D 0 := rfl
            have u1_ : upd D 2 1 = D 1 := rfl
            have u2_ : upd D 2 2 = true := rfl
            have u3_ : upd D 2 3 = D 3 := rfl
            have u4_ : upd D 2 4 = D 4 := rfl
            have u5_ : upd D 2 5 = D 5 := rfl
            have u6_ : upd D 2 6 = D 6 := rfl
            have u7_ : upd D 2 7 = D 7 := rfl
            simp only [hD, p0_, p1_, q3_, cnd_t, cnd_f, Asc_t, Asc_f] at ht hs
            subst ht
            refine s_idxD (κ := (K.int .u16)) (m := 1) rfl (hs.rd hr0) rfl (fun _ => rfl) gd2.1 gd2.2 had3_ rfl rfl rfl rfl rfl ?_
            show G _ _ _ _ [_, _, _, _, _, _, _, _, _, _, _, _, _, _, _, _, _, _, _, _, _, _, _, _, _, _] _
            exact hk _ _ ⟨O, (by simp only [u0_, u1_, u2_, u3_, u4_, u5_, u6_, u7_, p0_, p1_, q3_, cnd_t, cnd_f, Asc_t, Asc_f]), hs.cast (by first | rfl | simp only [List.take, List.drop, List.cons_append, List.nil_append, List.set_cons_zero, List.set_cons_succ, List.eraseIdx, u0_, u1_, u2_, u3_, u4_, u5_, u6_, u7_, p0_, p1_, q3_, cnd_t, cnd_f, Asc_t, Asc_f])⟩
          · intro D t w hD hp hcl hI rest hk
            obtain ⟨O, ht, hs⟩ := hI
            have hp : AllDone D [2] := hp
            obtain ⟨p2_, _⟩ := hp
            obtain ⟨p0_, p1_, _⟩ := (show D 2 = true → AllDone D [0, 1] from hcl 2 (by decide)) p2_
            have u0_ : upd D 3 0 = D 0 := rfl
            have u1_ : upd D 3 1 = D 1 := rfl
            have u2_ : upd D 3 2 = D 2 := rfl
            have u3_ : upd D 3 3 = true := rfl
            have u4_ : upd D 3 4 = D 4 := rfl
            have u5_ : upd D 3 5 = D 5 := rfl
            have u6_ : upd D 3 6 = D 6 := rfl
            have u7_ : upd D 3 7 = D 7 := rfl
            simp only [hD, p0_, p1_, p2_, cnd_t, cnd_f, Asc_t, Asc_f] at ht hs
            subst ht
            refine s_load1 rfl rfl (v := Value.int .u16 (rdL a1 x5 0)) rfl rfl (fun _ => rfl) (cellsAt_of (fkI .u16) 0 (hs.rd hr0) had3_ gd2.1 gd2.2) ?_
            show G _ _ _ _ [_, _, _, _, _, _, _, _, _, _, _, _, _, _, _, _, _, _, _, _, _, _, _, _, _, _] _
            exact hk _ _ ⟨O, (by simp only [u0_, u1_, u2_, u3_, u4_, u5_, u6_, u7_, p0_, p1_, p2_, cnd_t, cnd_f, Asc_t, Asc_f]), hs.cast (by first | rfl | simp only [List.take, List.drop, List.cons_append, List.nil_append, List.set_cons_zero, List.set_cons_succ, List.eraseIdx, u0_, u1_, u2_, u3_, u4_, u5_, u6_, u7_, p0_, p1_, p2_, cnd_t, cnd_f, Asc_t, Asc_f])⟩
          · intro D t w hD hp hcl hI rest hk
            obtain ⟨O, ht, hs⟩ := hI
            have hp : AllDone D [] := hp
            have q6_ : D 6 = false := not_yet (show D 6 = true → AllDone D [4, 5] from hcl 6 (by decide)) 0 4 rfl hD
            have q7_ : D 7 = false := not_yet (show D 7 = true → AllDone D [6] from hcl 7 (by decide)) 0 6 rfl q6_
            have u0_ : upd D 4 0 = D 0 := rfl
            have u1_ : upd D 4 1 = D 1 := rfl
            have u2_ : upd D 4 2 = D 2 := rfl
            have u3_ : upd D 4 3 = D 3 := rfl
            have u4_ : upd D 4 4 = true := rfl
            have u5_ : upd D 4 5 = D 5 := rfl
            have u6_ : upd D 4 6 = D 6 := rfl
            have u7_ : upd D 4 7 = D 7 := rfl
            simp only [hD, q6_, q7_, cnd_t, cnd_f, Asc_t, Asc_f] at ht hs
            subst ht
            refine g_op (v := v4) rfl rfl rfl ?_
            show G _ _ _ _ [_, _, _, _, _, _, _, _, _, _, _, _, _, _, _, _, _, _, _, _, _, _, _, _, _, _] _
            exact hk _ _ ⟨O, (by simp only [u0_, u1_, u2_, u3_, u4_, u5_, u6_, u7_, q6_, q7_, cnd_t, cnd_f, Asc_t, Asc_f]), hs.cast (by first | rfl | simp only [List.take, List.drop, List.cons_append, List.nil_append, List.set_cons_zero, List.set_cons_succ, List.eraseIdx, u0_, u1_, u2_, u3_, u4_, u5_, u6_, u7_, q6_, q7_, cnd_t, cnd_f, Asc_t, Asc_f])⟩
          · intro D t w hD hp hcl hI rest hk
            obtain ⟨O, ht, hs⟩ := hI
            have hp : AllDone D [] := hp
            have q6_ : D 6 = false := not_yet (show D 6 = true → AllDone D [4, 5] from hcl 6 (by decide)) 1 5 rfl hD
            have q7_ : D 7 = false := not_yet (show D 7 = true → AllDone D [6] from hcl 7 (by decide)) 0 6 rfl q6_
            have u0_ : upd D 5 0 = D 0 := rfl
            have u1_ : upd D 5 1 = D 1 := rfl
            have u2_ : upd D 5 2 = D 2 := rfl
            have u3_ : upd D 5 3 = D 3 := rfl
            have u4_ : upd D 5 4 = D 4 := rfl
            have u5_ : upd D 5 5 = true := rfl
            have u6_ : upd D 5 6 = D 6 := rfl
            have u7_ : upd D 5 7 = D 7 := rfl
            simp only [hD, q6_, q7_, cnd_t, cnd_f, Asc_t, Asc_f] at ht hs
            subst ht
            refine g_op (v := Value.int .i64 x5) rfl rfl rfl ?_
            show G _ _ _ _ [_, _, _, _, _, _, _, _, _, _, _, _, _, _, _, _, _, _, _, _, _, _, _, _, _, _] _
            exact hk _ _ ⟨O, (by simp only [u0_, u1_, u2_, u3_, u4_, u5_, u6_, u7_, q6_, q7_, cnd_t, cnd_f, Asc_t, Asc_f]), hs.cast (by first | rfl | simp only [List.take, List.drop, List.cons_append, List.nil_append, List.set_cons_zero, List.set_cons_succ, List.eraseIdx, u0_, u1_, u2_, u3_, u4_, u5_, u6_, u7_, q6_, q7_, cnd_t, cnd_f, Asc_t, Asc_f])⟩
          · intro D t w hD hp hcl hI rest hk
            obtain ⟨O, ht, hs⟩ := hI
            have hp : AllDone D [4, 5] := hp
            obtain ⟨p4_, p5_, _⟩ := hp
            have q7_ : D 7 = false := not_yet (show D 7 = true → AllDone D [6] from hcl 7 (by decide)) 0 6 rfl hD
            have u0_ : upd D 6 0 = D 0 := rfl
            have u1_ : upd D 6 1 = D 1 := rfl
            have u2_ : upd D 6 2 = D 2 := rfl
            have u3_ : upd D 6 3 = D 3 := rfl
            have u4_ : upd D 6 4 = D 4 := rfl
            have u5_ : upd D 6 5 = D 5 := rfl
            have u6_ : upd D 6 6 = true := rfl
            have u7_ : upd D 6 7 = D 7 := rfl
            simp only [hD, p4_, p5_, q7_, cnd_t, cnd_f, Asc_t, Asc_f] at ht hs
            subst ht
            refine s_idxD (κ := (K.int .u16)) (m := 1) rfl (hs.rd hr1) rfl (fun _ => rfl) gd4.1 gd4.2 had5_ rfl rfl rfl rfl rfl ?_
            show G _ _ _ _ [_, _, _, _, _, _, _, _, _, _, _, _, _, _, _, _, _, _, _, _, _, _, _, _, _, _] _
            exact hk _ _ ⟨O, (by simp only [u0_, u1_, u2_, u3_, u4_, u5_, u6_, u7_, p4_, p5_, q7_, cnd_t, cnd_f, Asc_t, Asc_f]), hs.cast (by first | rfl | simp only [List.take, List.drop, List.cons_append, List.nil_append, List.set_cons_zero, List.set_cons_succ, List.eraseIdx, u0_, u1_, u2_, u3_, u4_, u5_, u6_, u7_, p4_, p5_, q7_, cnd_t, cnd_f, Asc_t, Asc_f])⟩
          · intro D t w hD hp hcl hI rest hk
            obtain ⟨O, ht, hs⟩ := hI
            have hp : AllDone D [6] := hp
            obtain ⟨p6_, _⟩ := hp
            obtain ⟨p4_, p5_, _⟩ := (show D 6 = true → AllDone D [4, 5] from hcl 6 (by decide)) p6_
            have u0_ : upd D 7 0 = D 0 := rfl
            have u1_ : upd D 7 1 = D 1 := rfl
            have u2_ : upd D 7 2 = D 2 := rfl
            have u3_ : upd D 7 3 = D 3 := rfl
            have u4_ : upd D 7 4 = D 4 := rfl
            have u5_ : upd D 7 5 = D 5 := rfl
            have u6_ : upd D 7 6 = D 6 := rfl
            have u7_ : upd D 7 7 = true := rfl
            simp only [hD, p4_, p5_, p6_, cnd_t, cnd_f, Asc_t, Asc_f] at ht hs
            subst ht
            refine s_load1 rfl rfl (v := Value.int .u16 (rdL a3 x5 0)) rfl rfl (fun _ => rfl) (cellsAt_of (fkI .u16) 0 (hs.rd hr1) had5_ gd4.1 gd4.2) ?_
            show G _ _ _ _ [_, _, _, _, _, _, _, _, _, _, _, _, _, _, _, _, _, _, _, _, _, _, _, _, _, _] _
            exact hk _ _ ⟨O, (by simp only [u0_, u1_, u2_, u3_, u4_, u5_, u6_, u7_, p4_, p5_, p6_, cnd_t, cnd_f, Asc_t, Asc_f]), hs.cast (by first | rfl | simp only [List.take, List.drop, List.cons_append, List.nil_append, List.set_cons_zero, List.set_cons_succ, List.eraseIdx, u0_, u1_, u2_, u3_, u4_, u5_, u6_, u7_, p4_, p5_, p6_, cnd_t, cnd_f, Asc_t, Asc_f])⟩
          · intro D t w rest hall hO1_ hI
            obtain ⟨O, ht, hs⟩ := hI
            have p0_ : D 0 = true := hall 0 (by decide) rfl
            have p1_ : D 1 = true := hall 1 (by decide) rfl
            have p2_ : D 2 = true := hall 2 (by decide) rfl
            have p3_ : D 3 = true := hall 3 (by decide) rfl
            have p4_ : D 4 = true := hall 4 (by decide) rfl
            have p5_ : D 5 = true := hall 5 (by decide) rfl
            have p6_ : D 6 = true := hall 6 (by decide) rfl
            have p7_ : D 7 = true := hall 7 (by decide) rfl
            simp only [p0_, p1_, p2_, p3_, p4_, p5_, p6_, p7_, cnd_t, cnd_f, Asc_t, Asc_f] at ht hs
            subst ht
            obtain ⟨rest, rfl, hO6_⟩ := ord_one (m := 255) hO1_ rfl 8 (m' := 511) (by decide +kernel) rfl
            clear hO1_
            refine g_op_b (B := (rdL a1 x5 0) != (rdL a3 x5 0)) rfl rfl rfl ?_ ?_
            · intro hb
              rw [if_neg (b_bne_t hb)] at H
              show G _ _ _ _ [_, _, _, _, _, _, _, _, _, _, _, _, _, _, _, _, _, _, _, _, _, _, _, _, _, _] _
              obtain rfl := ord_end hO6_ rfl (by decide +kernel)
              refine g_ops_nil ?_
              refine g_cond_true rfl ?_
              refine g_seq ?_
              refine g_region ?_
              show G _ _ _ (.inRegion _ [0] :: _) _ _
              refine g_op (v := Value.bool false) rfl rfl rfl ?_
              show G _ _ _ _ [_, _, _, _, _, _, _, _, _, _, _, _, _, _, _, _, _, _, _, _, _, _, _, _, _, _] _
              refine g_ops_nil ?_
              obtain rfl := Option.some.inj H
              subst Hx1_
              have H := Option.some.inj Hr1_
              subst H
              refine g_ret Try.func18 (v := Value.bool false) (res1 rfl rfl) ?_
              have hs : St _ [] _ := St.take (Γ' := []) hs
              exact ⟨_, rfl, rfl, hs⟩
            · intro hb
              rw [if_pos (b_bne_f hb)] at H
              show G _ _ _ _ [_, _, _, _, _, _, _, _, _, _, _, _, _, _, _, _, _, _, _, _, _, _, _, _, _, _] _
              obtain rfl := ord_end hO6_ rfl (by decide +kernel)
              refine g_ops_nil ?_
              refine g_cond_false rfl ?_
              refine g_skip ?_
              refine g_inBlock ?_
              refine g_region ?_
              show G _ _ _ (.inRegion _ [0, 1, 2] :: _) _ _
              refine g_op (v := Value.int .i64 x5) rfl rfl rfl ?_
              show G _ _ _ _ [_, _, _, _, _, _, _, _, _, _, _, _, _, _, _, _, _, _, _, _, _, _, _, _, _, _] _
              refine g_op (v := Value.int .i64 (i64w (x5 + 1))) rfl rfl rfl ?_
              show G _ _ _ _ [_, _, _, _, _, _, _, _, _, _, _, _, _, _, _, _, _, _, _, _, _, _, _, _, _, _] _
              refine g_op (v := Value.int .i64 (i64w (x5 + 1))) rfl rfl rfl ?_
              show G _ _ _ _ [_, _, _, _, _, _, _, _, _, _, _, _, _, _, _, _, _, _, _, _, _, _, _, _, _, _] _
              refine g_ops_nil ?_
              obtain rfl := Option.some.inj H
              have hs : St _ [] _ := St.take (Γ' := []) hs
              exact ih1_ _ _ ⟨i64w (x5 + 1), Hx1_, rfl, hs⟩
        · intro hb
          rw [if_neg (b_dec_f hb)] at H
          show G _ _ _ _ [_, _, _, _, _, _, _, _, _, _, _, _, _, _, _, _, _, _, _, _, _, _, _, _, _, _] _
          refine g_ops_nil ?_
          refine g_cond_false rfl ?_
          obtain rfl := Option.some.inj H
          subst Hx1_
          have hs : St _ [] _ := St.take (Γ' := []) hs
          refine g_exit rfl ?_
          exact ha1_ _ _ ⟨Hr1_, rfl, hs⟩

/- function 17 laws_eqFerry -/
def laws_eqFerry.post (w0 : World) (r : Bool) (v : Value) (w : World) : Prop := v = Value.bool r ∧ St w0 [] w
set_option maxHeartbeats 400000 in
set_option maxRecDepth 100000 in
theorem laws_eqFerry.calls {N : Nat} {a1 : S_laws_Ferry} {a4 : S_laws_Ferry} {v2 : Value} {v5 : Value} {w0 : World} {r : Bool} (hr3 : RdRow (K.int .u16) w0 v2 a1.f_Rules) (hr6 : RdRow (K.int .u16) w0 v5 a4.f_Rules) (H : laws_eqFerry.f N a1 a4 = some r) :
    Calls Try.prog 17 #[Value.agg (([Value.int .i8 a1.f_Things, Value.int .i8 a1.f_Boat, v2] : List Value)).toArray, Value.agg (([Value.int .i8 a4.f_Things, Value.int .i8 a4.f_Boat, v5] : List Value)).toArray] w0 fun e w => ∃ v, e = .returned v ∧ laws_eqFerry.post w0 r v w := by
  unfold laws_eqFerry.f at H
  have hs : St w0 [] w0 := St.refl w0
  refine calls_of_g (n := 19) Try.func17 rfl rfl ?_
  show G _ _ _ _ [_, _, _, _, _, _, _, _, _, _, _, _, _, _, _, _, _, _, _, _, _] _
  refine g_seq ?_
  refine g_region ?_
  show G _ _ _ (.inRegion _ [0, 1, 2] :: _) _ _
  refine s_box hs rfl rfl (cs := (([Value.int .i8 a1.f_Things, Value.int .i8 a1.f_Boat, v2] : List Value))) rfl rfl ?_
  intro b7 w hs
  show G _ _ _ _ [_, _, _, _, _, _, _, _, _, _, _, _, _, _, _, _, _, _, _, _, _] _
  refine s_box hs rfl rfl (cs := (([Value.int .i8 a4.f_Things, Value.int .i8 a4.f_Boat, v5] : List Value))) rfl rfl ?_
  intro b9 w hs
  show G _ _ _ _ [_, _, _, _, _, _, _, _, _, _, _, _, _, _, _, _, _, _, _, _, _] _
  refine g_op (v := Value.bool false) rfl rfl rfl ?_
  show G _ _ _ _ [_, _, _, _, _, _, _, _, _, _, _, _, _, _, _, _, _, _, _, _, _] _
  refine g_ops_nil ?_
  refine g_seq ?_
  refine g_seq ?_
  refine g_region ?_
  show G _ _ _ (.inRegion _ [0, 1, 2, 3, 4] :: _) _ _
  refine g_op (v := Value.pointer (some ⟨b7, 0, none⟩)) rfl rfl rfl ?_
  show G _ _ _ _ [_, _, _, _, _, _, _, _, _, _, _, _, _, _, _, _, _, _, _, _, _] _
  refine s_load1 rfl rfl (v := Value.int .i8 a1.f_Things) rfl rfl (fun _ => rfl) (cells_load (hs.cells 1 rfl) 0 1 rfl) ?_
  show G _ _ _ _ [_, _, _, _, _, _, _, _, _, _, _, _, _, _, _, _, _, _, _, _, _] _
  refine g_op (v := Value.pointer (some ⟨b9, 0, none⟩)) rfl rfl rfl ?_
  show G _ _ _ _ [_, _, _, _, _, _, _, _, _, _, _, _, _, _, _, _, _, _, _, _, _] _
  refine s_load1 rfl rfl (v := Value.int .i8 a4.f_Things) rfl rfl (fun _ => rfl) (cells_load (hs.cells 0 rfl) 0 1 rfl) ?_
  show G _ _ _ _ [_, _, _, _, _, _, _, _, _, _, _, _, _, _, _, _, _, _, _, _, _] _
  refine g_op_b (B := a1.f_Things != a4.f_Things) rfl rfl rfl ?_ ?_
  · intro hb
    rw [if_neg (b_bne_t hb)] at H
    show G _ _ _ _ [_, _, _, _, _, _, _, _, _, _, _, _, _, _, _, _, _, _, _, _, _] _
    refine g_ops_nil ?_
    refine g_cond_true rfl ?_
    refine g_seq ?_
    refine g_region ?_
    show G _ _ _ (.inRegion _ [0] :: _) _ _
    refine g_op (v := Value.bool false) rfl rfl rfl ?_
    show G _ _ _ _ [_, _, _, _, _, _, _, _, _, _, _, _, _, _, _, _, _, _, _, _, _] _
    refine g_ops_nil ?_
    obtain rfl := Option.some.inj H
    refine g_ret Try.func17 (v := Value.bool false) (res1 rfl rfl) ?_
    have hs : St _ [] _ := St.take (Γ' := [_, _]) hs
    exact ⟨_, rfl, rfl, hs⟩
  · intro hb
    rw [if_pos (b_bne_f hb)] at H
    show G _ _ _ _ [_, _, _, _, _, _, _, _, _, _, _, _, _, _, _, _, _, _, _, _, _] _
    refine g_ops_nil ?_
    refine g_cond_false rfl ?_
    refine g_skip ?_
    refine g_seq ?_
    refine g_seq ?_
    refine g_region ?_
    show G _ _ _ (.inRegion _ [0, 1, 2, 3, 4] :: _) _ _
    refine g_op (v := Value.pointer (some ⟨b7, 1, none⟩)) rfl rfl rfl ?_
    show G _ _ _ _ [_, _, _, _, _, _, _, _, _, _, _, _, _, _, _, _, _, _, _, _, _] _
    refine s_load1 rfl rfl (v := Value.int .i8 a1.f_Boat) rfl rfl (fun _ => rfl) (cells_load (hs.cells 1 rfl) 1 1 rfl) ?_
    show G _ _ _ _ [_, _, _, _, _, _, _, _, _, _, _, _, _, _, _, _, _, _, _, _, _] _
    refine g_op (v := Value.pointer (some ⟨b9, 1, none⟩)) rfl rfl rfl ?_
    show G _ _ _ _ [_, _, _, _, _, _, _, _, _, _, _, _, _, _, _, _, _, _, _, _, _] _
    refine s_load1 rfl rfl (v := Value.int .i8 a4.f_Boat) rfl rfl (fun _ => rfl) (cells_load (hs.cells 0 rfl) 1 1 rfl) ?_
    show G _ _ _ _ [_, _, _, _, _, _, _, _, _, _, _, _, _, _, _, _, _, _, _, _, _] _
    refine g_op_b (B := a1.f_Boat != a4.f_Boat) rfl rfl rfl ?_ ?_
    · intro hb
      rw [if_neg (b_bne_t hb)] at H
      show G _ _ _ _ [_, _, _, _, _, _, _, _, _, _, _, _, _, _, _, _, _, _, _, _, _] _
      refine g_ops_nil ?_
      refine g_cond_true rfl ?_
      refine g_seq ?_
      refine g_region ?_
      show G _ _ _ (.inRegion _ [0] :: _) _ _
      refine g_op (v := Value.bool false) rfl rfl rfl ?_
      show G _ _ _ _ [_, _, _, _, _, _, _, _, _, _, _, _, _, _, _, _, _, _, _, _, _] _
      refine g_ops_nil ?_
      obtain rfl := Option.some.inj H
      refine g_ret Try.func17 (v := Value.bool false) (res1 rfl rfl) ?_
      have hs : St _ [] _ := St.take (Γ' := [_, _]) hs
      exact ⟨_, rfl, rfl, hs⟩
    · intro hb
      rw [if_pos (b_bne_f hb)] at H
      show G _ _ _ _ [_, _, _, _, _, _, _, _, _, _, _, _, _, _, _, _, _, _, _, _, _] _
      refine g_ops_nil ?_
      refine g_cond_false rfl ?_
      refine g_skip ?_
      refine g_seq ?_
      refine g_seq ?_
      refine g_region ?_
      show G _ _ _ (.inRegion _ [0, 1, 2, 3, 4, 5] :: _) _ _
      refine g_op (v := Value.pointer (some ⟨b7, 2, none⟩)) rfl rfl rfl ?_
      show G _ _ _ _ [_, _, _, _, _, _, _, _, _, _, _, _, _, _, _, _, _, _, _, _, _] _
      refine s_load1 rfl rfl (v := v2) rfl rfl (fun _ => rfl) (cells_load (hs.cells 1 rfl) 2 1 rfl) ?_
      show G _ _ _ _ [_, _, _, _, _, _, _, _, _, _, _, _, _, _, _, _, _, _, _, _, _] _
      refine g_op (v := Value.pointer (some ⟨b9, 2, none⟩)) rfl rfl rfl ?_
      show G _ _ _ _ [_, _, _, _, _, _, _, _, _, _, _, _, _, _, _, _, _, _, _, _, _] _
      refine s_load1 rfl rfl (v := v5) rfl rfl (fun _ => rfl) (cells_load (hs.cells 0 rfl) 2 1 rfl) ?_
      show G _ _ _ _ [_, _, _, _, _, _, _, _, _, _, _, _, _, _, _, _, _, _, _, _, _] _
      obtain ⟨r11, Hr11, H⟩ := bind_get H
      refine s_call (args := [v2, v5]) rfl rfl (x_call rfl (callFunc_enter Try.func18 rfl rfl) rfl) (laws_eqUint16S.calls (a1 := a1.f_Rules) (a3 := a4.f_Rules) (hs.rd hr3) (hs.rd hr6) Hr11) ?_
      rintro _ w ⟨rfl, hs2⟩
      have hs : St _ [_, _] _ := hs.call hs2
      cases r11 with
      | true =>
        rw [if_pos rfl] at H
        show G _ _ _ _ [_, _, _, _, _, _, _, _, _, _, _, _, _, _, _, _, _, _, _, _, _] _
        refine g_op (v := Value.bool false) rfl rfl rfl ?_
        show G _ _ _ _ [_, _, _, _, _, _, _, _, _, _, _, _, _, _, _, _, _, _, _, _, _] _
        refine g_ops_nil ?_
        refine g_cond_false rfl ?_
        refine g_skip ?_
        refine g_seq ?_
        refine g_region ?_
        show G _ _ _ (.inRegion _ [0] :: _) _ _
        refine g_op (v := Value.bool true) rfl rfl rfl ?_
        show G _ _ _ _ [_, _, _, _, _, _, _, _, _, _, _, _, _, _, _, _, _, _, _, _, _] _
        refine g_ops_nil ?_
        obtain rfl := Option.some.inj H
        refine g_ret Try.func17 (v := Value.bool true) (res1 rfl rfl) ?_
        have hs : St _ [] _ := St.take (Γ' := [_, _]) hs
        exact ⟨_, rfl, rfl, hs⟩
      | false =>
        rw [if_neg Bool.false_ne_true] at H
        show G _ _ _ _ [_, _, _, _, _, _, _, _, _, _, _, _, _, _, _, _, _, _, _, _, _] _
        refine g_op (v := Value.bool true) rfl rfl rfl ?_
        show G _ _ _ _ [_, _, _, _, _, _, _, _, _, _, _, _, _, _, _, _, _, _, _, _, _] _
        refine g_ops_nil ?_
        refine g_cond_true rfl ?_
        refine g_seq ?_
        refine g_region ?_
        show G _ _ _ (.inRegion _ [0] :: _) _ _
        refine g_op (v := Value.bool false) rfl rfl rfl ?_
        show G _ _ _ _ [_, _, _, _, _, _, _, _, _, _, _, _, _, _, _, _, _, _, _, _, _] _
        refine g_ops_nil ?_
        obtain rfl := Option.some.inj H
        refine g_ret Try.func17 (v := Value.bool false) (res1 rfl rfl) ?_
        have hs : St _ [] _ := St.take (Γ' := [_, _]) hs
        exact ⟨_, rfl, rfl, hs⟩

end Go.Proofs.YtgoblgmidejdgaaX
