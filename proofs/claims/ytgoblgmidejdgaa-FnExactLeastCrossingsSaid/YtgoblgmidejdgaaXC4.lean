/- Contracts, printed by gen.py. -/
import Derived.Test.YtgoblgmidejdgaaXC3
namespace Go.Proofs.YtgoblgmidejdgaaX
open Go Go.RowKit Go.Proofs
set_option linter.unusedVariables false
set_option linter.unusedSimpArgs false
/- function 12 spec_CrossAll -/
def spec_CrossAll.post (w0 : World) (r : (S_impl_Bank × Int)) (v : Value) (w : World) : Prop := v = Value.tuple #[Value.agg (enc_S_impl_Bank r.1).toArray, Value.int .i64 r.2] ∧ St w0 [] w
set_option maxHeartbeats 400000 in
set_option maxRecDepth 100000 in
theorem spec_CrossAll.calls {N : Nat} {a1 : S_laws_Ferry} {a4 : (List Int)} {v2 : Value} {v5 : Value} {w0 : World} {r : (S_impl_Bank × Int)} (hr3 : RdRow (K.int .u16) w0 v2 a1.f_Rules) (hr1 : RdRow (K.int .u16) w0 v5 a4) (H : spec_CrossAll.f N a1 a4 = some r) :
    Calls Try.prog 12 #[Value.agg (([Value.int .i8 a1.f_Things, Value.int .i8 a1.f_Boat, v2] : List Value)).toArray, v5] w0 fun e w => ∃ v, e = .returned v ∧ spec_CrossAll.post w0 r v w := by
  unfold spec_CrossAll.f at H
  have hs : St w0 [] w0 := St.refl w0
  refine calls_of_g (n := 38) Try.func12 rfl rfl ?_
  show G _ _ _ _ [_, _, _, _, _, _, _, _, _, _, _, _, _, _, _, _, _, _, _, _, _, _, _, _, _, _, _, _, _, _, _, _, _, _, _, _, _, _, _, _] _
  refine g_seq ?_
  refine g_region ?_
  show G _ _ _ (.inRegion _ [0, 1, 2] :: _) _ _
  refine s_box hs rfl rfl (cs := (([Value.int .i8 a1.f_Things, Value.int .i8 a1.f_Boat, v2] : List Value))) rfl rfl ?_
  intro b6 w hs
  show G _ _ _ _ [_, _, _, _, _, _, _, _, _, _, _, _, _, _, _, _, _, _, _, _, _, _, _, _, _, _, _, _, _, _, _, _, _, _, _, _, _, _, _, _] _
  refine s_alloc hs rfl rfl (z := (Value.agg #[Value.int .u16 0, Value.bool false])) (cs := (enc_S_impl_Bank z_S_impl_Bank)) rfl (fun _ => rfl) rfl ?_
  intro b8 w hs
  show G _ _ _ _ [_, _, _, _, _, _, _, _, _, _, _, _, _, _, _, _, _, _, _, _, _, _, _, _, _, _, _, _, _, _, _, _, _, _, _, _, _, _, _, _] _
  refine g_op (v := Value.int .i64 0) rfl rfl rfl ?_
  show G _ _ _ _ [_, _, _, _, _, _, _, _, _, _, _, _, _, _, _, _, _, _, _, _, _, _, _, _, _, _, _, _, _, _, _, _, _, _, _, _, _, _, _, _] _
  refine g_ops_nil ?_
  refine g_seq ?_
  refine g_seq ?_
  refine g_region ?_
  show G _ _ _ (.inRegion _ [0, 1] :: _) _ _
  obtain ⟨r10, Hr10, H⟩ := bind_get H
  refine s_call (args := [Value.pointer (some ⟨b6, 0, none⟩)]) rfl rfl (x_call rfl (callFunc_enter Try.func42 rfl rfl) rfl) (spec_l05Ok.calls (a1 := (⟨a1.f_Things, a1.f_Boat, a1.f_Rules⟩ : S_laws_Ferry)) (hs.rd hr3) (hs.cells 1 rfl) Hr10) ?_
  rintro _ w ⟨rfl, hs2⟩
  have hs : St _ [_, _] _ := hs.call hs2
  cases r10 with
  | true =>
    rw [if_pos rfl] at H
    show G _ _ _ _ [_, _, _, _, _, _, _, _, _, _, _, _, _, _, _, _, _, _, _, _, _, _, _, _, _, _, _, _, _, _, _, _, _, _, _, _, _, _, _, _] _
    refine g_op (v := Value.bool false) rfl rfl rfl ?_
    show G _ _ _ _ [_, _, _, _, _, _, _, _, _, _, _, _, _, _, _, _, _, _, _, _, _, _, _, _, _, _, _, _, _, _, _, _, _, _, _, _, _, _, _, _] _
    refine g_ops_nil ?_
    refine g_cond_false rfl ?_
    refine g_skip ?_
    refine g_seq ?_
    refine g_seq ?_
    refine g_region ?_
    show G _ _ _ (.inRegion _ [0, 1, 2] :: _) _ _
    refine g_op (v := v5) rfl rfl rfl ?_
    show G _ _ _ _ [_, _, _, _, _, _, _, _, _, _, _, _, _, _, _, _, _, _, _, _, _, _, _, _, _, _, _, _, _, _, _, _, _, _, _, _, _, _, _, _] _
    refine s_len (hs.rd hr1) rfl rfl rfl rfl rfl ?_
    show G _ _ _ _ [_, _, _, _, _, _, _, _, _, _, _, _, _, _, _, _, _, _, _, _, _, _, _, _, _, _, _, _, _, _, _, _, _, _, _, _, _, _, _, _] _
    refine g_op_b (B := decide ((a4.length : Int) > 1000)) rfl rfl rfl ?_ ?_
    · intro hb
      rw [if_pos (b_dec_t hb)] at H
      show G _ _ _ _ [_, _, _, _, _, _, _, _, _, _, _, _, _, _, _, _, _, _, _, _, _, _, _, _, _, _, _, _, _, _, _, _, _, _, _, _, _, _, _, _] _
      refine g_ops_nil ?_
      refine g_cond_true rfl ?_
      refine g_seq ?_
      refine g_region ?_
      show G _ _ _ (.inRegion _ [0, 1, 2] :: _) _ _
      refine g_op (v := Value.agg (enc_S_impl_Bank (⟨0, false⟩ : S_impl_Bank)).toArray) rfl rfl (x_buildS (cs := (enc_S_impl_Bank (⟨0, false⟩ : S_impl_Bank))) (segs := [[Value.int .u16 0], [Value.bool false]]) rfl rfl (fun _ => rfl) ⟨rfl, (fun _ => rfl), rfl, (fun _ => rfl), trivial⟩ (by simp) (by first | rfl | (simp [ev, enc_S_impl_Bank]; done) | (simp [ev, enc_S_impl_Bank]; rfl))) ?_
      show G _ _ _ _ [_, _, _, _, _, _, _, _, _, _, _, _, _, _, _, _, _, _, _, _, _, _, _, _, _, _, _, _, _, _, _, _, _, _, _, _, _, _, _, _] _
      refine s_storeAll (n := 2) hs (fk_S_impl_Bank.len _) rfl rfl (vs := (enc_S_impl_Bank (⟨0, false⟩ : S_impl_Bank))) rfl rfl rfl (fun _ => rfl) (fk_S_impl_Bank.len _) (fk_S_impl_Bank.one _) ?_
      intro w hs
      refine g_op (v := Value.int .i64 2) rfl rfl rfl ?_
      show G _ _ _ _ [_, _, _, _, _, _, _, _, _, _, _, _, _, _, _, _, _, _, _, _, _, _, _, _, _, _, _, _, _, _, _, _, _, _, _, _, _, _, _, _] _
      refine g_ops_nil ?_
      obtain rfl := Option.some.inj H
      refine g_ret Try.func12 (v := Value.tuple #[Value.agg (enc_S_impl_Bank (⟨0, false⟩ : S_impl_Bank)).toArray, Value.int .i64 2]) (resN (l := Try.f12.results.toList) (vs := [Value.agg (enc_S_impl_Bank (⟨0, false⟩ : S_impl_Bank)).toArray, Value.int .i64 2]) rfl ⟨⟨_, rfl, (run_loadVar_agg (es := (enc_S_impl_Bank (⟨0, false⟩ : S_impl_Bank))) rfl (congrArg (Result.ok · _) (fk_S_impl_Bank.len _).symm) (cells_all (hs.cells 0 rfl)))⟩, rfl, trivial⟩ (by simp)) ?_
      have hs : St _ [] _ := St.take (Γ' := [_, _]) hs
      exact ⟨_, rfl, rfl, hs⟩
    · intro hb
      rw [if_neg (b_dec_f hb)] at H
      show G _ _ _ _ [_, _, _, _, _, _, _, _, _, _, _, _, _, _, _, _, _, _, _, _, _, _, _, _, _, _, _, _, _, _, _, _, _, _, _, _, _, _, _, _] _
      refine g_ops_nil ?_
      refine g_cond_false rfl ?_
      refine g_skip ?_
      refine g_seq ?_
      refine g_region ?_
      show G _ _ _ (.inRegion _ [0, 1, 2, 3] :: _) _ _
      obtain ⟨r11, Hr11, H⟩ := bind_get H
      refine s_call (args := [Value.pointer (some ⟨b6, 0, none⟩)]) rfl rfl (x_call rfl (callFunc_enter Try.func43 rfl rfl) rfl) (spec_l05All.calls (a1 := (⟨a1.f_Things, a1.f_Boat, a1.f_Rules⟩ : S_laws_Ferry)) (hs.rd hr3) (hs.cells 1 rfl) Hr11) ?_
      rintro _ w ⟨rfl, hs2⟩
      have hs : St _ [_, _] _ := hs.call hs2
      show G _ _ _ _ [_, _, _, _, _, _, _, _, _, _, _, _, _, _, _, _, _, _, _, _, _, _, _, _, _, _, _, _, _, _, _, _, _, _, _, _, _, _, _, _] _
      refine g_op (v := Value.agg (enc_S_impl_Bank (⟨r11, false⟩ : S_impl_Bank)).toArray) rfl rfl (x_buildS (cs := (enc_S_impl_Bank (⟨r11, false⟩ : S_impl_Bank))) (segs := [[Value.int .u16 0], [Value.bool false]]) rfl rfl (fun _ => rfl) ⟨rfl, (fun _ => rfl), rfl, (fun _ => rfl), trivial⟩ (by simp only [List.map_cons, List.map_nil, List.forall_mem_cons, List.not_mem_nil, false_implies, implies_true, and_true]; exact ⟨_, rfl, rfl⟩) (by first | rfl | (simp [ev, enc_S_impl_Bank]; done) | (simp [ev, enc_S_impl_Bank]; rfl))) ?_
      show G _ _ _ _ [_, _, _, _, _, _, _, _, _, _, _, _, _, _, _, _, _, _, _, _, _, _, _, _, _, _, _, _, _, _, _, _, _, _, _, _, _, _, _, _] _
      refine s_alloc hs rfl rfl (z := (Value.agg #[Value.int .u16 0, Value.bool false])) (cs := (enc_S_impl_Bank z_S_impl_Bank)) rfl (fun _ => rfl) rfl ?_
      intro b12 w hs
      show G _ _ _ _ [_, _, _, _, _, _, _, _, _, _, _, _, _, _, _, _, _, _, _, _, _, _, _, _, _, _, _, _, _, _, _, _, _, _, _, _, _, _, _, _] _
      refine s_storeAll (n := 2) hs (fk_S_impl_Bank.len _) rfl rfl (vs := (enc_S_impl_Bank (⟨r11, false⟩ : S_impl_Bank))) rfl rfl rfl (fun _ => rfl) (fk_S_impl_Bank.len _) (fk_S_impl_Bank.one _) ?_
      intro w hs
      refine g_ops_nil ?_
      refine g_seq ?_
      refine g_seq ?_
      refine g_region ?_
      show G _ _ _ (.inRegion _ [0] :: _) _ _
      refine g_op (v := Value.int .i64 0) rfl rfl rfl ?_
      show G _ _ _ _ [_, _, _, _, _, _, _, _, _, _, _, _, _, _, _, _, _, _, _, _, _, _, _, _, _, _, _, _, _, _, _, _, _, _, _, _, _, _, _, _] _
      refine g_ops_nil ?_
      obtain ⟨o1_, Ho, Hr1_⟩ := bind_get H
      refine g_block_join (J := fun t w => ∃ x25 : S_impl_Bank, spec_CrossAll.a0 N x25 = some r ∧ Fr t (fun O => ([O 0, O 1, O 2, O 3, Value.pointer (some ⟨b8, 0, none⟩), O 5, Value.pointer (some ⟨b12, 0, none⟩), O 7, O 8, O 9, O 10, O 11, O 12, O 13, O 14, O 15, O 16, O 17, O 18, O 19, O 20, O 21, O 22, O 23, O 24, O 25, O 26, O 27, O 28, O 29, O 30, O 31, O 32, O 33, O 34, O 35, O 36, O 37, O 38, O 39] : List Value)) ∧ St w0 [Cells b8 (enc_S_impl_Bank z_S_impl_Bank) 29, Cells b12 (enc_S_impl_Bank x25) 29] w) ?_ ?_
      · rintro t w ⟨x25, H, hf, hs⟩
        obtain ⟨O, rfl⟩ := hf.open
        show G _ _ _ _ [_, _, _, _, _, _, _, _, _, _, _, _, _, _, _, _, _, _, _, _, _, _, _, _, _, _, _, _, _, _, _, _, _, _, _, _, _, _, _, _] _
        unfold spec_CrossAll.a0 at H
        refine g_seq ?_
        refine g_region ?_
        show G _ _ _ (.inRegion _ [0, 1, 2] :: _) _ _
        refine s_loadA rfl rfl (es := (enc_S_impl_Bank x25)) rfl rfl (fun _ => rfl) (n := 2) (fun _ => rfl) (fk_S_impl_Bank.len _) (cells_all (hs.cells 1 rfl)) ?_
        show G _ _ _ _ [_, _, _, _, _, _, _, _, _, _, _, _, _, _, _, _, _, _, _, _, _, _, _, _, _, _, _, _, _, _, _, _, _, _, _, _, _, _, _, _] _
        refine s_storeAll (n := 2) hs (fk_S_impl_Bank.len _) rfl rfl (vs := (enc_S_impl_Bank x25)) rfl rfl rfl (fun _ => rfl) (fk_S_impl_Bank.len _) (fk_S_impl_Bank.one _) ?_
        intro w hs
        refine g_op (v := Value.int .i64 0) rfl rfl rfl ?_
        show G _ _ _ _ [_, _, _, _, _, _, _, _, _, _, _, _, _, _, _, _, _, _, _, _, _, _, _, _, _, _, _, _, _, _, _, _, _, _, _, _, _, _, _, _] _
        refine g_ops_nil ?_
        obtain rfl := Option.some.inj H
        refine g_ret Try.func12 (v := Value.tuple #[Value.agg (enc_S_impl_Bank x25).toArray, Value.int .i64 0]) (resN (l := Try.f12.results.toList) (vs := [Value.agg (enc_S_impl_Bank x25).toArray, Value.int .i64 0]) rfl ⟨⟨_, rfl, (run_loadVar_agg (es := (enc_S_impl_Bank x25)) rfl (congrArg (Result.ok · _) (fk_S_impl_Bank.len _).symm) (cells_all (hs.cells 0 rfl)))⟩, rfl, trivial⟩ (by simp)) ?_
        have hs : St _ [] _ := St.take (Γ' := [_, _]) hs
        exact ⟨_, rfl, rfl, hs⟩
      · intro ha1_
        have hs := hs.pull 0 rfl
        have hs := hs.pull 1 rfl
        have hs := hs.pull 2 rfl
        have hs : St _ [_, _, _] _ := St.take (Γ' := []) hs
        refine g_loop_fuel (I := fun n_ t w => ∃ x19 : S_impl_Bank, ∃ x20 : Int, rounds (fun s => spec_CrossAll.b0 N a4 a1 s.1 s.2) n_ (x19, x20) = some o1_ ∧ Fr t (fun O => ([O 0, v5, Value.pointer (some ⟨b6, 0, none⟩), O 3, Value.pointer (some ⟨b8, 0, none⟩), O 5, Value.pointer (some ⟨b12, 0, none⟩), Value.int .i64 x20, O 8, O 9, O 10, O 11, O 12, O 13, O 14, O 15, O 16, O 17, O 18, O 19, O 20, O 21, O 22, O 23, O 24, O 25, O 26, O 27, O 28, O 29, O 30, O 31, O 32, O 33, O 34, O 35, O 36, O 37, O 38, O 39] : List Value)) ∧ St w0 [Cells b6 (([Value.int .i8 a1.f_Things, Value.int .i8 a1.f_Boat, v2] : List Value)) 32, Cells b8 (enc_S_impl_Bank z_S_impl_Bank) 29, Cells b12 (enc_S_impl_Bank x19) 29] w) N ⟨(⟨r11, false⟩ : S_impl_Bank), 0, Ho, rfl, hs⟩ ?_ ?_
        · rintro _ _ ⟨x19, x20, h, _⟩
          exact rounds_zero h
        · intro n_ ih1_
          rintro t w ⟨x19, x20, Ho, hf, hs⟩
          obtain ⟨O, rfl⟩ := hf.open
          show G _ _ _ _ [_, _, _, _, _, _, _, _, _, _, _, _, _, _, _, _, _, _, _, _, _, _, _, _, _, _, _, _, _, _, _, _, _, _, _, _, _, _, _, _] _
          obtain ⟨x5_, H, Hx1_⟩ := rounds_succ Ho
          have H : spec_CrossAll.b0 N a4 a1 x19 x20 = some x5_ := H
          unfold spec_CrossAll.b0 at H
          refine g_seq ?_
          refine g_seq ?_
          refine g_region ?_
          show G _ _ _ (.inRegion _ [0, 1, 2, 3] :: _) _ _
          refine g_op (v := Value.int .i64 x20) rfl rfl rfl ?_
          show G _ _ _ _ [_, _, _, _, _, _, _, _, _, _, _, _, _, _, _, _, _, _, _, _, _, _, _, _, _, _, _, _, _, _, _, _, _, _, _, _, _, _, _, _] _
          refine g_op (v := v5) rfl rfl rfl ?_
          show G _ _ _ _ [_, _, _, _, _, _, _, _, _, _, _, _, _, _, _, _, _, _, _, _, _, _, _, _, _, _, _, _, _, _, _, _, _, _, _, _, _, _, _, _] _
          refine s_len (hs.rd hr1) rfl rfl rfl rfl rfl ?_
          show G _ _ _ _ [_, _, _, _, _, _, _, _, _, _, _, _, _, _, _, _, _, _, _, _, _, _, _, _, _, _, _, _, _, _, _, _, _, _, _, _, _, _, _, _] _
          refine g_op_b (B := decide (x20 < (a4.length : Int))) rfl rfl rfl ?_ ?_
          · intro hb
            rw [if_pos (b_dec_t hb)] at H
            show G _ _ _ _ [_, _, _, _, _, _, _, _, _, _, _, _, _, _, _, _, _, _, _, _, _, _, _, _, _, _, _, _, _, _, _, _, _, _, _, _, _, _, _, _] _
            refine g_ops_nil ?_
            refine g_cond_true rfl ?_
            refine g_skip ?_
            refine g_seq ?_
            refine g_block ?_
            refine g_seq ?_
            obtain ⟨gd3, H⟩ := ite_get H
            obtain ⟨ad4_, ad4_N, ad4_C, had4_⟩ := sl_at (hs.rd hr1) gd3.1 gd3.2
            obtain ⟨r21, Hr21, H⟩ := bind_get H
            refine g_name ?_
            intro T hT
            refine g_any (n := 12) rfl [0, 1, 2, 3, 4, 5, 6, 7, 8, 9, 10, 11] [0, 1, 2, 3, 4, 5, 6, 7, 10, 8, 9, 11] rfl rfl (Inv := fun D t w => ∃ b22 : Nat, ∃ O : Nat → Value, t = [O 0, v5, Value.pointer (some ⟨b6, 0, none⟩), O 3, Value.pointer (some ⟨b8, 0, none⟩), O 5, Value.pointer (some ⟨b12, 0, none⟩), Value.int .i64 x20, cnd (D 9) (Value.pointer (some ⟨b22, 0, none⟩)) (O 8), cnd (D 11) (Value.int .i64 r21.2) (O 9), O 10, O 11, O 12, O 13, O 14, O 15, O 16, O 17, O 18, Value.int .i64 x20, v5, Value.int .i64 (a4.length : Int), Value.bool true, O 23, O 24, cnd (D 6) (Value.tuple #[Value.agg (enc_S_impl_Bank r21.1).toArray, Value.int .i64 r21.2]) (O 25), cnd (D 0) (Value.agg (enc_S_impl_Bank x19).toArray) (O 26), cnd (D 1) v5 (O 27), cnd (D 2) (Value.int .i64 x20) (O 28), cnd (D 3) (Value.pointer (some (ad4_.add (x20.toNat * 1)))) (O 29), cnd (D 4) (Value.int .u16 (rdL a4 x20 0)) (O 30), cnd (D 5) (Value.tuple #[Value.agg (enc_S_impl_Bank r21.1).toArray, Value.int .i64 r21.2]) (O 31), cnd (D 7) (Value.agg (enc_S_impl_Bank r21.1).toArray) (O 32), cnd (D 8) (Value.int .i64 r21.2) (O 33), O 34, O 35, O 36, O 37, O 38, O 39] ∧ St w0 [Asc (D 9) (Cells b22 (cnd (D 10) (enc_S_impl_Bank r21.1) (enc_S_impl_Bank z_S_impl_Bank)) 29), Cells b6 (([Value.int .i8 a1.f_Things, Value.int .i8 a1.f_Boat, v2] : List Value)) 32, Cells b8 (enc_S_impl_Bank z_S_impl_Bank) 29, Cells b12 (enc_S_impl_Bank x19) 29] w) ?_ ⟨⟨⟨⟨⟨⟨⟨⟨⟨⟨⟨⟨trivial, ?_⟩, ?_⟩, ?_⟩, ?_⟩, ?_⟩, ?_⟩, ?_⟩, ?_⟩, ?_⟩, ?_⟩, ?_⟩, ?_⟩ ?_
            · intro w hh hbw
              have hs := hs.samew hh hbw
              have hs := hs.emp
              exact ⟨0, fun i => T.getD i undef, (by subst hT; rfl), hs⟩
            · intro D t w hD hp hcl hI rest hk
              obtain ⟨b22, O, ht, hs⟩ := hI
              have q5_ : D 5 = false := not_yet (hcl.get 5 (by decide)) 0 0 rfl hD
              have q6_ : D 6 = false := not_yet (hcl.get 6 (by decide)) 0 5 rfl q5_
              have q7_ : D 7 = false := not_yet (hcl.get 7 (by decide)) 0 6 rfl q6_
              have q8_ : D 8 = false := not_yet (hcl.get 8 (by decide)) 0 6 rfl q6_
              have q10_ : D 10 = false := not_yet (hcl.get 10 (by decide)) 1 7 rfl q7_
              have q11_ : D 11 = false := not_yet (hcl.get 11 (by decide)) 0 8 rfl q8_
              have u0_ : upd D 0 0 = true := rfl
              have u1_ : upd D 0 1 = D 1 := rfl
              have u2_ : upd D 0 2 = D 2 := rfl
              have u3_ : upd D 0 3 = D 3 := rfl
              have u4_ : upd D 0 4 = D 4 := rfl
              have u5_ : upd D 0 5 = D 5 := rfl
              have u6_ : upd D 0 6 = D 6 := rfl
              have u7_ : upd D 0 7 = D 7 := rfl
              have u8_ : upd D 0 8 = D 8 := rfl
              have u9_ : upd D 0 9 = D 9 := rfl
              have u10_ : upd D 0 10 = D 10 := rfl
              have u11_ : upd D 0 11 = D 11 := rfl
              simp only [hD, q5_, q6_, q7_, q8_, q10_, q11_, cnd_t, cnd_f, Asc_t, Asc_f] at ht hs
              subst ht
              refine s_loadA rfl rfl (es := (enc_S_impl_Bank x19)) rfl rfl (fun _ => rfl) (n := 2) (fun _ => rfl) (fk_S_impl_Bank.len _) (cells_all (hs.cells 3 rfl)) ?_
              show G _ _ _ _ [_, _, _, _, _, _, _, _, _, _, _, _, _, _, _, _, _, _, _, _, _, _, _, _, _, _, _, _, _, _, _, _, _, _, _, _, _, _, _, _] _
              exact hk _ _ ⟨b22, O, (by simp only [u0_, u1_, u2_, u3_, u4_, u5_, u6_, u7_, u8_, u9_, u10_, u11_, q5_, q6_, q7_, q8_, q10_, q11_, cnd_t, cnd_f, Asc_t, Asc_f]), hs.cast (by first | rfl | simp only [List.take, List.drop, List.cons_append, List.nil_append, List.set_cons_zero, List.set_cons_succ, List.eraseIdx, u0_, u1_, u2_, u3_, u4_, u5_, u6_, u7_, u8_, u9_, u10_, u11_, q5_, q6_, q7_, q8_, q10_, q11_, cnd_t, cnd_f, Asc_t, Asc_f])⟩
            · intro D t w hD hp hcl hI rest hk
              obtain ⟨b22, O, ht, hs⟩ := hI
              have q3_ : D 3 = false := not_yet (hcl.get 3 (by decide)) 0 1 rfl hD
              have q4_ : D 4 = false := not_yet (hcl.get 4 (by decide)) 0 3 rfl q3_
              have q5_ : D 5 = false := not_yet (hcl.get 5 (by decide)) 1 4 rfl q4_
              have q6_ : D 6 = false := not_yet (hcl.get 6 (by decide)) 0 5 rfl q5_
              have q7_ : D 7 = false := not_yet (hcl.get 7 (by decide)) 0 6 rfl q6_
              have q8_ : D 8 = false := not_yet (hcl.get 8 (by decide)) 0 6 rfl q6_
              have q10_ : D 10 = false := not_yet (hcl.get 10 (by decide)) 1 7 rfl q7_
              have q11_ : D 11 = false := not_yet (hcl.get 11 (by decide)) 0 8 rfl q8_
              have u0_ : upd D 1 0 = D 0 := rfl
              have u1_ : upd D 1 1 = true := rfl
              have u2_ : upd D 1 2 = D 2 := rfl
              have u3_ : upd D 1 3 = D 3 := rfl
              have u4_ : upd D 1 4 = D 4 := rfl
              have u5_ : upd D 1 5 = D 5 := rfl
              have u6_ : upd D 1 6 = D 6 := rfl
              have u7_ : upd D 1 7 = D 7 := rfl
              have u8_ : upd D 1 8 = D 8 := rfl
              have u9_ : upd D 1 9 = D 9 := rfl
              have u10_ : upd D 1 10 = D 10 := rfl
              have u11_ : upd D 1 11 = D 11 := rfl
              simp only [hD, q3_, q4_, q5_, q6_, q7_, q8_, q10_, q11_, cnd_t, cnd_f, Asc_t, Asc_f] at ht hs
              subst ht
              refine g_op (v := v5) rfl rfl rfl ?_
              show G _ _ _ _ [_, _, _, _, _, _, _, _, _, _, _, _, _, _, _, _, _, _, _, _, _, _, _, _, _, _, _, _, _, _, _, _, _, _, _, _, _, _, _, _] _
              exact hk _ _ ⟨b22, O, (by simp only [u0_, u1_, u2_, u3_, u4_, u5_, u6_, u7_, u8_, u9_, u10_, u11_, q3_, q4_, q5_, q6_, q7_, q8_, q10_, q11_, cnd_t, cnd_f, Asc_t, Asc_f]), hs.cast (by first | rfl | simp only [List.take, List.drop, List.cons_append, List.nil_append, List.set_cons_zero, List.set_cons_succ, List.eraseIdx, u0_, u1_, u2_, u3_, u4_, u5_, u6_, u7_, u8_, u9_, u10_, u11_, q3_, q4_, q5_, q6_, q7_, q8_, q10_, q11_, cnd_t, cnd_f, Asc_t, Asc_f])⟩
            · intro D t w hD hp hcl hI rest hk
              obtain ⟨b22, O, ht, hs⟩ := hI
              have q3_ : D 3 = false := not_yet (hcl.get 3 (by decide)) 1 2 rfl hD
              have q4_ : D 4 = false := not_yet (hcl.get 4 (by decide)) 0 3 rfl q3_
              have q5_ : D 5 = false := not_yet (hcl.get 5 (by decide)) 1 4 rfl q4_
              have q6_ : D 6 = false := not_yet (hcl.get 6 (by decide)) 0 5 rfl q5_
              have q7_ : D 7 = false := not_yet (hcl.get 7 (by decide)) 0 6 rfl q6_
              have q8_ : D 8 = false := not_yet (hcl.get 8 (by decide)) 0 6 rfl q6_
              have q10_ : D 10 = false := not_yet (hcl.get 10 (by decide)) 1 7 rfl q7_
              have q11_ : D 11 = false := not_yet (hcl.get 11 (by decide)) 0 8 rfl q8_
              have u0_ : upd D 2 0 = D 0 := rfl
              have u1_ : upd D 2 1 = D 1 := rfl
              have u2_ : upd D 2 2 = true := rfl
              have u3_ : upd D 2 3 = D 3 := rfl
              have u4_ : upd D 2 4 = D 4 := rfl
              have u5_ : upd D 2 5 = D 5 := rfl
              have u6_ : upd D 2 6 = D 6 := rfl
              have u7_ : upd D 2 7 = D 7 := rfl
              have u8_ : upd D 2 8 = D 8 := rfl
              have u9_ : upd D 2 9 = D 9 := rfl
              have u10_ : upd D 2 10 = D 10 := rfl
              have u11_ : upd D 2 11 = D 11 := rfl
              simp only [hD, q3_, q4_, q5_, q6_, q7_, q8_, q10_, q11_, cnd_t, cnd_f, Asc_t, Asc_f] at ht hs
              subst ht
              refine g_op (v := Value.int .i64 x20) rfl rfl rfl ?_
              show G _ _ _ _ [_, _, _, _, _, _, _, _, _, _, _, _, _, _, _, _, _, _, _, _, _, _, _, _, _, _, _, _, _, _, _, _, _, _, _, _, _, _, _, _] _
              exact hk _ _ ⟨b22, O, (by simp only [u0_, u1_, u2_, u3_, u4_, u5_, u6_, u7_, u8_, u9_, u10_, u11_, q3_, q4_, q5_, q6_, q7_, q8_, q10_, q11_, cnd_t, cnd_f, Asc_t, Asc_f]), hs.cast (by first | rfl | simp only [List.take, List.drop, List.cons_append, List.nil_append, List.set_cons_zero, List.set_cons_succ, List.eraseIdx, u0_, u1_, u2_, u3_, u4_, u5_, u6_, u7_, u8_, u9_, u10_, u11_, q3_, q4_, q5_, q6_, q7_, q8_, q10_, q11_, cnd_t, cnd_f, Asc_t, Asc_f])⟩
            · intro D t w hD hp hcl hI rest hk
              obtain ⟨b22, O, ht, hs⟩ := hI
              obtain ⟨p1_, p2_, _⟩ := hp
              have q4_ : D 4 = false := not_yet (hcl.get 4 (by decide)) 0 3 rfl hD
              have q5_ : D 5 = false := not_yet (hcl.get 5 (by decide)) 1 4 rfl q4_
              have q6_ : D 6 = false := not_yet (hcl.get 6 (by decide)) 0 5 rfl q5_
              have q7_ : D 7 = false := not_yet (hcl.get 7 (by decide)) 0 6 rfl q6_
              have q8_ : D 8 = false := not_yet (hcl.get 8 (by decide)) 0 6 rfl q6_
              have q10_ : D 10 = false := not_yet (hcl.get 10 (by decide)) 1 7 rfl q7_
              have q11_ : D 11 = false := not_yet (hcl.get 11 (by decide)) 0 8 rfl q8_
              have u0_ : upd D 3 0 = D 0 := rfl
              have u1_ : upd D 3 1 = D 1 := rfl
              have u2_ : upd D 3 2 = D 2 := rfl
              have u3_ : upd D 3 3 = true := rfl
              have u4_ : upd D 3 4 = D 4 := rfl
              have u5_ : upd D 3 5 = D 5 := rfl
              have u6_ : upd D 3 6 = D 6 := rfl
              have u7_ : upd D 3 7 = D 7 := rfl
              have u8_ : upd D 3 8 = D 8 := rfl
              have u9_ : upd D 3 9 = D 9 := rfl
              have u10_ : upd D 3 10 = D 10 := rfl
              have u11_ : upd D 3 11 = D 11 := rfl
              simp only [hD, p1_, p2_, q4_, q5_, q6_, q7_, q8_, q10_, q11_, cnd_t, cnd_f, Asc_t, Asc_f] at ht hs
              subst ht
              refine s_idxD (κ := (K.int .u16)) (m := 1) rfl (hs.rd hr1) rfl (fun _ => rfl) gd3.1 gd3.2 had4_ rfl rfl rfl rfl rfl ?_
              show G _ _ _ _ [_, _, _, _, _, _, _, _, _, _, _, _, _, _, _, _, _, _, _, _, _, _, _, _, _, _, _, _, _, _, _, _, _, _, _, _, _, _, _, _] _
              exact hk _ _ ⟨b22, O, (by simp only [u0_, u1_, u2_, u3_, u4_, u5_, u6_, u7_, u8_, u9_, u10_, u11_, p1_, p2_, q4_, q5_, q6_, q7_, q8_, q10_, q11_, cnd_t, cnd_f, Asc_t, Asc_f]), hs.cast (by first | rfl | simp only [List.take, List.drop, List.cons_append, List.nil_append, List.set_cons_zero, List.set_cons_succ, List.eraseIdx, u0_, u1_, u2_, u3_, u4_, u5_, u6_, u7_, u8_, u9_, u10_, u11_, p1_, p2_, q4_, q5_, q6_, q7_, q8_, q10_, q11_, cnd_t, cnd_f, Asc_t, Asc_f])⟩
            · intro D t w hD hp hcl hI rest hk
              obtain ⟨b22, O, ht, hs⟩ := hI
              obtain ⟨p3_, _⟩ := hp
              obtain ⟨p1_, p2_, _⟩ := (hcl.get 3 (by decide)) p3_
              have q5_ : D 5 = false := not_yet (hcl.get 5 (by decide)) 1 4 rfl hD
              have q6_ : D 6 = false := not_yet (hcl.get 6 (by decide)) 0 5 rfl q5_
              have q7_ : D 7 = false := not_yet (hcl.get 7 (by decide)) 0 6 rfl q6_
              have q8_ : D 8 = false := not_yet (hcl.get 8 (by decide)) 0 6 rfl q6_
              have q10_ : D 10 = false := not_yet (hcl.get 10 (by decide)) 1 7 rfl q7_
              have q11_ : D 11 = false := not_yet (hcl.get 11 (by decide)) 0 8 rfl q8_
              have u0_ : upd D 4 0 = D 0 := rfl
              have u1_ : upd D 4 1 = D 1 := rfl
              have u2_ : upd D 4 2 = D 2 := rfl
              have u3_ : upd D 4 3 = D 3 := rfl
              have u4_ : upd D 4 4 = true := rfl
              have u5_ : upd D 4 5 = D 5 := rfl
              have u6_ : upd D 4 6 = D 6 := rfl
              have u7_ : upd D 4 7 = D 7 := rfl
              have u8_ : upd D 4 8 = D 8 := rfl
              have u9_ : upd D 4 9 = D 9 := rfl
              have u10_ : upd D 4 10 = D 10 := rfl
              have u11_ : upd D 4 11 = D 11 := rfl
              simp only [hD, p1_, p2_, p3_, q5_, q6_, q7_, q8_, q10_, q11_, cnd_t, cnd_f, Asc_t, Asc_f] at ht hs
              subst ht
              refine s_load1 rfl rfl (v := Value.int .u16 (rdL a4 x20 0)) rfl rfl (fun _ => rfl) (cellsAt_of (fkI .u16) 0 (hs.rd hr1) had4_ gd3.1 gd3.2) ?_
              show G _ _ _ _ [_, _, _, _, _, _, _, _, _, _, _, _, _, _, _, _, _, _, _, _, _, _, _, _, _, _, _, _, _, _, _, _, _, _, _, _, _, _, _, _] _
              exact hk _ _ ⟨b22, O, (by simp only [u0_, u1_, u2_, u3_, u4_, u5_, u6_, u7_, u8_, u9_, u10_, u11_, p1_, p2_, p3_, q5_, q6_, q7_, q8_, q10_, q11_, cnd_t, cnd_f, Asc_t, Asc_f]), hs.cast (by first | rfl | simp only [List.take, List.drop, List.cons_append, List.nil_append, List.set_cons_zero, List.set_cons_succ, List.eraseIdx, u0_, u1_, u2_, u3_, u4_, u5_, u6_, u7_, u8_, u9_, u10_, u11_, p1_, p2_, p3_, q5_, q6_, q7_, q8_, q10_, q11_, cnd_t, cnd_f, Asc_t, Asc_f])⟩
            · intro D t w hD hp hcl hI rest hk
              obtain ⟨b22, O, ht, hs⟩ := hI
              obtain ⟨p0_, p4_, _⟩ := hp
              obtain ⟨p3_, _⟩ := (hcl.get 4 (by decide)) p4_
              obtain ⟨p1_, p2_, _⟩ := (hcl.get 3 (by decide)) p3_
              have q6_ : D 6 = false := not_yet (hcl.get 6 (by decide)) 0 5 rfl hD
              have q7_ : D 7 = false := not_yet (hcl.get 7 (by decide)) 0 6 rfl q6_
              have q8_ : D 8 = false := not_yet (hcl.get 8 (by decide)) 0 6 rfl q6_
              have q10_ : D 10 = false := not_yet (hcl.get 10 (by decide)) 1 7 rfl q7_
              have q11_ : D 11 = false := not_yet (hcl.get 11 (by decide)) 0 8 rfl q8_
              have u0_ : upd D 5 0 = D 0 := rfl
              have u1_ : upd D 5 1 = D 1 := rfl
              have u2_ : upd D 5 2 = D 2 := rfl
              have u3_ : upd D 5 3 = D 3 := rfl
              have u4_ : upd D 5 4 = D 4 := rfl
              have u5_ : upd D 5 5 = true := rfl
              have u6_ : upd D 5 6 = D 6 := rfl
              have u7_ : upd D 5 7 = D 7 := rfl
              have u8_ : upd D 5 8 = D 8 := rfl
              have u9_ : upd D 5 9 = D 9 := rfl
              have u10_ : upd D 5 10 = D 10 := rfl
              have u11_ : upd D 5 11 = D 11 := rfl
              simp only [hD, p0_, p1_, p2_, p3_, p4_, q6_, q7_, q8_, q10_, q11_, cnd_t, cnd_f, Asc_t, Asc_f] at ht hs
              subst ht
              refine s_call (args := [Value.pointer (some ⟨b6, 0, none⟩), Value.agg (enc_S_impl_Bank x19).toArray, Value.int .u16 (rdL a4 x20 0)]) rfl rfl (x_call rfl (callFunc_enter Try.func44 rfl rfl) rfl) (spec_l05Cross.calls (a1 := (⟨a1.f_Things, a1.f_Boat, a1.f_Rules⟩ : S_laws_Ferry)) (a6 := x19) (a7 := rdL a4 x20 0) (hs.rd hr3) (hs.cells 1 rfl) Hr21) ?_
              rintro _ w ⟨rfl, hs2⟩
              have hs : St _ [_, _, _, _] _ := hs.call hs2
              show G _ _ _ _ [_, _, _, _, _, _, _, _, _, _, _, _, _, _, _, _, _, _, _, _, _, _, _, _, _, _, _, _, _, _, _, _, _, _, _, _, _, _, _, _] _
              exact hk _ _ ⟨b22, O, (by simp only [u0_, u1_, u2_, u3_, u4_, u5_, u6_, u7_, u8_, u9_, u10_, u11_, p0_, p1_, p2_, p3_, p4_, q6_, q7_, q8_, q10_, q11_, cnd_t, cnd_f, Asc_t, Asc_f]), hs.cast (by first | rfl | simp only [List.take, List.drop, List.cons_append, List.nil_append, List.set_cons_zero, List.set_cons_succ, List.eraseIdx, u0_, u1_, u2_, u3_, u4_, u5_, u6_, u7_, u8_, u9_, u10_, u11_, p0_, p1_, p2_, p3_, p4_, q6_, q7_, q8_, q10_, q11_, cnd_t, cnd_f, Asc_t, Asc_f])⟩
            · intro D t w hD hp hcl hI rest hk
              obtain ⟨b22, O, ht, hs⟩ := hI
              obtain ⟨p5_, _⟩ := hp
              obtain ⟨p0_, p4_, _⟩ := (hcl.get 5 (by decide)) p5_
              obtain ⟨p3_, _⟩ := (hcl.get 4 (by decide)) p4_
              obtain ⟨p1_, p2_, _⟩ := (hcl.get 3 (by decide)) p3_
              have q7_ : D 7 = false := not_yet (hcl.get 7 (by decide)) 0 6 rfl hD
              have q8_ : D 8 = false := not_yet (hcl.get 8 (by decide)) 0 6 rfl hD
              have q10_ : D 10 = false := not_yet (hcl.get 10 (by decide)) 1 7 rfl q7_
              have q11_ : D 11 = false := not_yet (hcl.get 11 (by decide)) 0 8 rfl q8_
              have u0_ : upd D 6 0 = D 0 := rfl
              have u1_ : upd D 6 1 = D 1 := rfl
              have u2_ : upd D 6 2 = D 2 := rfl
              have u3_ : upd D 6 3 = D 3 := rfl
              have u4_ : upd D 6 4 = D 4 := rfl
              have u5_ : upd D 6 5 = D 5 := rfl
              have u6_ : upd D 6 6 = true := rfl
              have u7_ : upd D 6 7 = D 7 := rfl
              have u8_ : upd D 6 8 = D 8 := rfl
              have u9_ : upd D 6 9 = D 9 := rfl
              have u10_ : upd D 6 10 = D 10 := rfl
              have u11_ : upd D 6 11 = D 11 := rfl
              simp only [hD, p0_, p1_, p2_, p3_, p4_, p5_, q7_, q8_, q10_, q11_, cnd_t, cnd_f, Asc_t, Asc_f] at ht hs
              subst ht
              refine g_op (v := Value.tuple #[Value.agg (enc_S_impl_Bank r21.1).toArray, Value.int .i64 r21.2]) rfl rfl rfl ?_
              show G _ _ _ _ [_, _, _, _, _, _, _, _, _, _, _, _, _, _, _, _, _, _, _, _, _, _, _, _, _, _, _, _, _, _, _, _, _, _, _, _, _, _, _, _] _
              exact hk _ _ ⟨b22, O, (by simp only [u0_, u1_, u2_, u3_, u4_, u5_, u6_, u7_, u8_, u9_, u10_, u11_, p0_, p1_, p2_, p3_, p4_, p5_, q7_, q8_, q10_, q11_, cnd_t, cnd_f, Asc_t, Asc_f]), hs.cast (by first | rfl | simp only [List.take, List.drop, List.cons_append, List.nil_append, List.set_cons_zero, List.set_cons_succ, List.eraseIdx, u0_, u1_, u2_, u3_, u4_, u5_, u6_, u7_, u8_, u9_, u10_, u11_, p0_, p1_, p2_, p3_, p4_, p5_, q7_, q8_, q10_, q11_, cnd_t, cnd_f, Asc_t, Asc_f])⟩
            · intro D t w hD hp hcl hI rest hk
              obtain ⟨b22, O, ht, hs⟩ := hI
              obtain ⟨p6_, _⟩ := hp
              obtain ⟨p5_, _⟩ := (hcl.get 6 (by decide)) p6_
              obtain ⟨p0_, p4_, _⟩ := (hcl.get 5 (by decide)) p5_
              obtain ⟨p3_, _⟩ := (hcl.get 4 (by decide)) p4_
              obtain ⟨p1_, p2_, _⟩ := (hcl.get 3 (by decide)) p3_
              have q10_ : D 10 = false := not_yet (hcl.get 10 (by decide)) 1 7 rfl hD
              have q11_ : D 11 = false := not_yet (hcl.get 11 (by decide)) 1 10 rfl q10_
              have u0_ : upd D 7 0 = D 0 := rfl
              have u1_ : upd D 7 1 = D 1 := rfl
              have u2_ : upd D 7 2 = D 2 := rfl
              have u3_ : upd D 7 3 = D 3 := rfl
              have u4_ : upd D 7 4 = D 4 := rfl
              have u5_ : upd D 7 5 = D 5 := rfl
              have u6_ : upd D 7 6 = D 6 := rfl
              have u7_ : upd D 7 7 = true := rfl
              have u8_ : upd D 7 8 = D 8 := rfl
              have u9_ : upd D 7 9 = D 9 := rfl
              have u10_ : upd D 7 10 = D 10 := rfl
              have u11_ : upd D 7 11 = D 11 := rfl
              simp only [hD, p0_, p1_, p2_, p3_, p4_, p5_, p6_, q10_, q11_, cnd_t, cnd_f, Asc_t, Asc_f] at ht hs
              subst ht
              refine g_op (v := Value.agg (enc_S_impl_Bank r21.1).toArray) rfl rfl rfl ?_
              show G _ _ _ _ [_, _, _, _, _, _, _, _, _, _, _, _, _, _, _, _, _, _, _, _, _, _, _, _, _, _, _, _, _, _, _, _, _, _, _, _, _, _, _, _] _
              exact hk _ _ ⟨b22, O, (by simp only [u0_, u1_, u2_, u3_, u4_, u5_, u6_, u7_, u8_, u9_, u10_, u11_, p0_, p1_, p2_, p3_, p4_, p5_, p6_, q10_, q11_, cnd_t, cnd_f, Asc_t, Asc_f]), hs.cast (by first | rfl | simp only [List.take, List.drop, List.cons_append, List.nil_append, List.set_cons_zero, List.set_cons_succ, List.eraseIdx, u0_, u1_, u2_, u3_, u4_, u5_, u6_, u7_, u8_, u9_, u10_, u11_, p0_, p1_, p2_, p3_, p4_, p5_, p6_, q10_, q11_, cnd_t, cnd_f, Asc_t, Asc_f])⟩
            · intro D t w hD hp hcl hI rest hk
              obtain ⟨b22, O, ht, hs⟩ := hI
              obtain ⟨p6_, _⟩ := hp
              obtain ⟨p5_, _⟩ := (hcl.get 6 (by decide)) p6_
              obtain ⟨p0_, p4_, _⟩ := (hcl.get 5 (by decide)) p5_
              obtain ⟨p3_, _⟩ := (hcl.get 4 (by decide)) p4_
              obtain ⟨p1_, p2_, _⟩ := (hcl.get 3 (by decide)) p3_
              have q11_ : D 11 = false := not_yet (hcl.get 11 (by decide)) 0 8 rfl hD
              have u0_ : upd D 8 0 = D 0 := rfl
              have u1_ : upd D 8 1 = D 1 := rfl
              have u2_ : upd D 8 2 = D 2 := rfl
              have u3_ : upd D 8 3 = D 3 := rfl
              have u4_ : upd D 8 4 = D 4 := rfl
              have u5_ : upd D 8 5 = D 5 := rfl
              have u6_ : upd D 8 6 = D 6 := rfl
              have u7_ : upd D 8 7 = D 7 := rfl
              have u8_ : upd D 8 8 = true := rfl
              have u9_ : upd D 8 9 = D 9 := rfl
              have u10_ : upd D 8 10 = D 10 := rfl
              have u11_ : upd D 8 11 = D 11 := rfl
              simp only [hD, p0_, p1_, p2_, p3_, p4_, p5_, p6_, q11_, cnd_t, cnd_f, Asc_t, Asc_f] at ht hs
              subst ht
              refine g_op (v := Value.int .i64 r21.2) rfl rfl rfl ?_
              show G _ _ _ _ [_, _, _, _, _, _, _, _, _, _, _, _, _, _, _, _, _, _, _, _, _, _, _, _, _, _, _, _, _, _, _, _, _, _, _, _, _, _, _, _] _
              exact hk _ _ ⟨b22, O, (by simp only [u0_, u1_, u2_, u3_, u4_, u5_, u6_, u7_, u8_, u9_, u10_, u11_, p0_, p1_, p2_, p3_, p4_, p5_, p6_, q11_, cnd_t, cnd_f, Asc_t, Asc_f]), hs.cast (by first | rfl | simp only [List.take, List.drop, List.cons_append, List.nil_append, List.set_cons_zero, List.set_cons_succ, List.eraseIdx, u0_, u1_, u2_, u3_, u4_, u5_, u6_, u7_, u8_, u9_, u10_, u11_, p0_, p1_, p2_, p3_, p4_, p5_, p6_, q11_, cnd_t, cnd_f, Asc_t, Asc_f])⟩
            · intro D t w hD hp hcl hI rest hk
              obtain ⟨b22, O, ht, hs⟩ := hI
              have q10_ : D 10 = false := not_yet (hcl.get 10 (by decide)) 0 9 rfl hD
              have q11_ : D 11 = false := not_yet (hcl.get 11 (by decide)) 1 10 rfl q10_
              have u0_ : upd D 9 0 = D 0 := rfl
              have u1_ : upd D 9 1 = D 1 := rfl
              have u2_ : upd D 9 2 = D 2 := rfl
              have u3_ : upd D 9 3 = D 3 := rfl
              have u4_ : upd D 9 4 = D 4 := rfl
              have u5_ : upd D 9 5 = D 5 := rfl
              have u6_ : upd D 9 6 = D 6 := rfl
              have u7_ : upd D 9 7 = D 7 := rfl
              have u8_ : upd D 9 8 = D 8 := rfl
              have u9_ : upd D 9 9 = true := rfl
              have u10_ : upd D 9 10 = D 10 := rfl
              have u11_ : upd D 9 11 = D 11 := rfl
              simp only [hD, q10_, q11_, cnd_t, cnd_f, Asc_t, Asc_f] at ht hs
              subst ht
              refine s_alloc hs rfl rfl (z := (Value.agg #[Value.int .u16 0, Value.bool false])) (cs := (enc_S_impl_Bank z_S_impl_Bank)) rfl (fun _ => rfl) rfl ?_
              intro b22 w hs
              show G _ _ _ _ [_, _, _, _, _, _, _, _, _, _, _, _, _, _, _, _, _, _, _, _, _, _, _, _, _, _, _, _, _, _, _, _, _, _, _, _, _, _, _, _] _
              have hs := hs.fill 0 rfl
              exact hk _ _ ⟨b22, O, (by simp only [u0_, u1_, u2_, u3_, u4_, u5_, u6_, u7_, u8_, u9_, u10_, u11_, q10_, q11_, cnd_t, cnd_f, Asc_t, Asc_f]), hs.cast (by first | rfl | simp only [List.take, List.drop, List.cons_append, List.nil_append, List.set_cons_zero, List.set_cons_succ, List.eraseIdx, u0_, u1_, u2_, u3_, u4_, u5_, u6_, u7_, u8_, u9_, u10_, u11_, q10_, q11_, cnd_t, cnd_f, Asc_t, Asc_f])⟩
            · intro D t w hD hp hcl hI rest hk
              obtain ⟨b22, O, ht, hs⟩ := hI
              obtain ⟨p9_, p7_, p5_, p0_, p1_, p2_, p3_, p4_, _, p6_, _, _, _⟩ := hp
              have q11_ : D 11 = false := not_yet (hcl.get 11 (by decide)) 1 10 rfl hD
              have u0_ : upd D 10 0 = D 0 := rfl
              have u1_ : upd D 10 1 = D 1 := rfl
              have u2_ : upd D 10 2 = D 2 := rfl
              have u3_ : upd D 10 3 = D 3 := rfl
              have u4_ : upd D 10 4 = D 4 := rfl
              have u5_ : upd D 10 5 = D 5 := rfl
              have u6_ : upd D 10 6 = D 6 := rfl
              have u7_ : upd D 10 7 = D 7 := rfl
              have u8_ : upd D 10 8 = D 8 := rfl
              have u9_ : upd D 10 9 = D 9 := rfl
              have u10_ : upd D 10 10 = true := rfl
              have u11_ : upd D 10 11 = D 11 := rfl
              simp only [hD, p0_, p1_, p2_, p3_, p4_, p5_, p6_, p7_, p9_, q11_, cnd_t, cnd_f, Asc_t, Asc_f] at ht hs
              subst ht
              refine s_storeAll (n := 2) hs (fk_S_impl_Bank.len _) rfl rfl (vs := (enc_S_impl_Bank r21.1)) rfl rfl rfl (fun _ => rfl) (fk_S_impl_Bank.len _) (fk_S_impl_Bank.one _) ?_
              intro w hs
              show G _ _ _ _ [_, _, _, _, _, _, _, _, _, _, _, _, _, _, _, _, _, _, _, _, _, _, _, _, _, _, _, _, _, _, _, _, _, _, _, _, _, _, _, _] _
              have hs := hs.push 0 (by simp)
              exact hk _ _ ⟨b22, O, (by simp only [u0_, u1_, u2_, u3_, u4_, u5_, u6_, u7_, u8_, u9_, u10_, u11_, p0_, p1_, p2_, p3_, p4_, p5_, p6_, p7_, p9_, q11_, cnd_t, cnd_f, Asc_t, Asc_f]), hs.cast (by first | rfl | simp only [List.take, List.drop, List.cons_append, List.nil_append, List.set_cons_zero, List.set_cons_succ, List.eraseIdx, u0_, u1_, u2_, u3_, u4_, u5_, u6_, u7_, u8_, u9_, u10_, u11_, p0_, p1_, p2_, p3_, p4_, p5_, p6_, p7_, p9_, q11_, cnd_t, cnd_f, Asc_t, Asc_f])⟩
            · intro D t w hD hp hcl hI rest hk
              obtain ⟨b22, O, ht, hs⟩ := hI
              obtain ⟨p8_, p10_, p0_, p1_, p2_, p3_, p4_, p5_, p6_, p7_, _, p9_, _, _⟩ := hp
              have u0_ : upd D 11 0 = D 0 := rfl
              have u1_ : upd D 11 1 = D 1 := rfl
              have u2_ : upd D 11 2 = D 2 := rfl
              have u3_ : upd D 11 3 = D 3 := rfl
              have u4_ : upd D 11 4 = D 4 := rfl
              have u5_ : upd D 11 5 = D 5 := rfl
              have u6_ : upd D 11 6 = D 6 := rfl
              have u7_ : upd D 11 7 = D 7 := rfl
              have u8_ : upd D 11 8 = D 8 := rfl
              have u9_ : upd D 11 9 = D 9 := rfl
              have u10_ : upd D 11 10 = D 10 := rfl
              have u11_ : upd D 11 11 = true := rfl
              simp only [hD, p0_, p1_, p2_, p3_, p4_, p5_, p6_, p7_, p8_, p9_, p10_, cnd_t, cnd_f, Asc_t, Asc_f] at ht hs
              subst ht
              refine g_op (v := Value.int .i64 r21.2) rfl rfl rfl ?_
              show G _ _ _ _ [_, _, _, _, _, _, _, _, _, _, _, _, _, _, _, _, _, _, _, _, _, _, _, _, _, _, _, _, _, _, _, _, _, _, _, _, _, _, _, _] _
              exact hk _ _ ⟨b22, O, (by simp only [u0_, u1_, u2_, u3_, u4_, u5_, u6_, u7_, u8_, u9_, u10_, u11_, p0_, p1_, p2_, p3_, p4_, p5_, p6_, p7_, p8_, p9_, p10_, cnd_t, cnd_f, Asc_t, Asc_f]), hs.cast (by first | rfl | simp only [List.take, List.drop, List.cons_append, List.nil_append, List.set_cons_zero, List.set_cons_succ, List.eraseIdx, u0_, u1_, u2_, u3_, u4_, u5_, u6_, u7_, u8_, u9_, u10_, u11_, p0_, p1_, p2_, p3_, p4_, p5_, p6_, p7_, p8_, p9_, p10_, cnd_t, cnd_f, Asc_t, Asc_f])⟩
            · intro D t w hall hI
              obtain ⟨b22, O, ht, hs⟩ := hI
              have p0_ : D 0 = true := hall 0 (by decide)
              have p1_ : D 1 = true := hall 1 (by decide)
              have p2_ : D 2 = true := hall 2 (by decide)
              have p3_ : D 3 = true := hall 3 (by decide)
              have p4_ : D 4 = true := hall 4 (by decide)
              have p5_ : D 5 = true := hall 5 (by decide)
              have p6_ : D 6 = true := hall 6 (by decide)
              have p7_ : D 7 = true := hall 7 (by decide)
              have p8_ : D 8 = true := hall 8 (by decide)
              have p9_ : D 9 = true := hall 9 (by decide)
              have p10_ : D 10 = true := hall 10 (by decide)
              have p11_ : D 11 = true := hall 11 (by decide)
              simp only [p0_, p1_, p2_, p3_, p4_, p5_, p6_, p7_, p8_, p9_, p10_, p11_, cnd_t, cnd_f, Asc_t, Asc_f] at ht hs
              subst ht
              refine g_seq ?_
              refine g_seq ?_
              refine g_region ?_
              show G _ _ _ (.inRegion _ [0, 1] :: _) _ _
              refine g_op (v := Value.int .i64 r21.2) rfl rfl rfl ?_
              show G _ _ _ _ [_, _, _, _, _, _, _, _, _, _, _, _, _, _, _, _, _, _, _, _, _, _, _, _, _, _, _, _, _, _, _, _, _, _, _, _, _, _, _, _] _
              refine g_op_b (B := r21.2 != 0) rfl rfl rfl ?_ ?_
              · intro hb
                rw [if_neg (b_bne_t hb)] at H
                show G _ _ _ _ [_, _, _, _, _, _, _, _, _, _, _, _, _, _, _, _, _, _, _, _, _, _, _, _, _, _, _, _, _, _, _, _, _, _, _, _, _, _, _, _] _
                refine g_ops_nil ?_
                refine g_cond_true rfl ?_
                refine g_seq ?_
                refine g_region ?_
                show G _ _ _ (.inRegion _ [0, 1, 2, 3] :: _) _ _
                refine g_op (v := Value.agg (enc_S_impl_Bank (⟨0, false⟩ : S_impl_Bank)).toArray) rfl rfl (x_buildS (cs := (enc_S_impl_Bank (⟨0, false⟩ : S_impl_Bank))) (segs := [[Value.int .u16 0], [Value.bool false]]) rfl rfl (fun _ => rfl) ⟨rfl, (fun _ => rfl), rfl, (fun _ => rfl), trivial⟩ (by simp) (by first | rfl | (simp [ev, enc_S_impl_Bank]; done) | (simp [ev, enc_S_impl_Bank]; rfl))) ?_
                show G _ _ _ _ [_, _, _, _, _, _, _, _, _, _, _, _, _, _, _, _, _, _, _, _, _, _, _, _, _, _, _, _, _, _, _, _, _, _, _, _, _, _, _, _] _
                refine g_op (v := Value.int .i64 r21.2) rfl rfl rfl ?_
                show G _ _ _ _ [_, _, _, _, _, _, _, _, _, _, _, _, _, _, _, _, _, _, _, _, _, _, _, _, _, _, _, _, _, _, _, _, _, _, _, _, _, _, _, _] _
                have hs := hs.pull 2 rfl
                have hs : St _ [_, _, _, _] _ := hs
                refine s_storeAll (n := 2) hs (fk_S_impl_Bank.len _) rfl rfl (vs := (enc_S_impl_Bank (⟨0, false⟩ : S_impl_Bank))) rfl rfl rfl (fun _ => rfl) (fk_S_impl_Bank.len _) (fk_S_impl_Bank.one _) ?_
                intro w hs
                refine g_op (v := Value.int .i64 r21.2) rfl rfl rfl ?_
                show G _ _ _ _ [_, _, _, _, _, _, _, _, _, _, _, _, _, _, _, _, _, _, _, _, _, _, _, _, _, _, _, _, _, _, _, _, _, _, _, _, _, _, _, _] _
                refine g_ops_nil ?_
                obtain rfl := Option.some.inj H
                subst Hx1_
                have H := Option.some.inj Hr1_
                subst H
                refine g_ret Try.func12 (v := Value.tuple #[Value.agg (enc_S_impl_Bank (⟨0, false⟩ : S_impl_Bank)).toArray, Value.int .i64 r21.2]) (resN (l := Try.f12.results.toList) (vs := [Value.agg (enc_S_impl_Bank (⟨0, false⟩ : S_impl_Bank)).toArray, Value.int .i64 r21.2]) rfl ⟨⟨_, rfl, (run_loadVar_agg (es := (enc_S_impl_Bank (⟨0, false⟩ : S_impl_Bank))) rfl (congrArg (Result.ok · _) (fk_S_impl_Bank.len _).symm) (cells_all (hs.cells 0 rfl)))⟩, rfl, trivial⟩ (by simp)) ?_
                have hs : St _ [] _ := St.take (Γ' := [_, _, _, _]) hs
                exact ⟨_, rfl, rfl, hs⟩
              · intro hb
                rw [if_pos (b_bne_f hb)] at H
                show G _ _ _ _ [_, _, _, _, _, _, _, _, _, _, _, _, _, _, _, _, _, _, _, _, _, _, _, _, _, _, _, _, _, _, _, _, _, _, _, _, _, _, _, _] _
                refine g_ops_nil ?_
                refine g_cond_false rfl ?_
                refine g_skip ?_
                refine g_region ?_
                show G _ _ _ (.inRegion _ [0, 1] :: _) _ _
                refine s_loadA rfl rfl (es := (enc_S_impl_Bank r21.1)) rfl rfl (fun _ => rfl) (n := 2) (fun _ => rfl) (fk_S_impl_Bank.len _) (cells_all (hs.cells 0 rfl)) ?_
                show G _ _ _ _ [_, _, _, _, _, _, _, _, _, _, _, _, _, _, _, _, _, _, _, _, _, _, _, _, _, _, _, _, _, _, _, _, _, _, _, _, _, _, _, _] _
                have hs := hs.pull 3 rfl
                have hs : St _ [_, _, _, _] _ := hs
                refine s_storeAll (n := 2) hs (fk_S_impl_Bank.len _) rfl rfl (vs := (enc_S_impl_Bank r21.1)) rfl rfl rfl (fun _ => rfl) (fk_S_impl_Bank.len _) (fk_S_impl_Bank.one _) ?_
                intro w hs
                refine g_ops_nil ?_
                refine g_inBlock ?_
                refine g_region ?_
                show G _ _ _ (.inRegion _ [0, 1, 2] :: _) _ _
                refine g_op (v := Value.int .i64 x20) rfl rfl rfl ?_
                show G _ _ _ _ [_, _, _, _, _, _, _, _, _, _, _, _, _, _, _, _, _, _, _, _, _, _, _, _, _, _, _, _, _, _, _, _, _, _, _, _, _, _, _, _] _
                refine g_op (v := Value.int .i64 (i64w (x20 + 1))) rfl rfl rfl ?_
                show G _ _ _ _ [_, _, _, _, _, _, _, _, _, _, _, _, _, _, _, _, _, _, _, _, _, _, _, _, _, _, _, _, _, _, _, _, _, _, _, _, _, _, _, _] _
                refine g_op (v := Value.int .i64 (i64w (x20 + 1))) rfl rfl rfl ?_
                show G _ _ _ _ [_, _, _, _, _, _, _, _, _, _, _, _, _, _, _, _, _, _, _, _, _, _, _, _, _, _, _, _, _, _, _, _, _, _, _, _, _, _, _, _] _
                refine g_ops_nil ?_
                obtain rfl := Option.some.inj H
                have hs := hs.pull 0 rfl
                have hs := hs.pull 3 rfl
                have hs := hs.pull 3 rfl
                have hs : St _ [_, _, _] _ := St.take (Γ' := [_]) hs
                exact ih1_ _ _ ⟨r21.1, i64w (x20 + 1), Hx1_, rfl, hs⟩
          · intro hb
            rw [if_neg (b_dec_f hb)] at H
            show G _ _ _ _ [_, _, _, _, _, _, _, _, _, _, _, _, _, _, _, _, _, _, _, _, _, _, _, _, _, _, _, _, _, _, _, _, _, _, _, _, _, _, _, _] _
            refine g_ops_nil ?_
            refine g_cond_false rfl ?_
            obtain rfl := Option.some.inj H
            subst Hx1_
            have hs := hs.pull 2 rfl
            have hs := hs.pull 2 rfl
            have hs : St _ [_, _] _ := St.take (Γ' := [_]) hs
            refine g_exit rfl ?_
            exact ha1_ _ _ ⟨x19, Hr1_, rfl, hs⟩
  | false =>
    rw [if_neg Bool.false_ne_true] at H
    show G _ _ _ _ [_, _, _, _, _, _, _, _, _, _, _, _, _, _, _, _, _, _, _, _, _, _, _, _, _, _, _, _, _, _, _, _, _, _, _, _, _, _, _, _] _
    refine g_op (v := Value.bool true) rfl rfl rfl ?_
    show G _ _ _ _ [_, _, _, _, _, _, _, _, _, _, _, _, _, _, _, _, _, _, _, _, _, _, _, _, _, _, _, _, _, _, _, _, _, _, _, _, _, _, _, _] _
    refine g_ops_nil ?_
    refine g_cond_true rfl ?_
    refine g_seq ?_
    refine g_region ?_
    show G _ _ _ (.inRegion _ [0, 1, 2] :: _) _ _
    refine g_op (v := Value.agg (enc_S_impl_Bank (⟨0, false⟩ : S_impl_Bank)).toArray) rfl rfl (x_buildS (cs := (enc_S_impl_Bank (⟨0, false⟩ : S_impl_Bank))) (segs := [[Value.int .u16 0], [Value.bool false]]) rfl rfl (fun _ => rfl) ⟨rfl, (fun _ => rfl), rfl, (fun _ => rfl), trivial⟩ (by simp) (by first | rfl | (simp [ev, enc_S_impl_Bank]; done) | (simp [ev, enc_S_impl_Bank]; rfl))) ?_
    show G _ _ _ _ [_, _, _, _, _, _, _, _, _, _, _, _, _, _, _, _, _, _, _, _, _, _, _, _, _, _, _, _, _, _, _, _, _, _, _, _, _, _, _, _] _
    refine s_storeAll (n := 2) hs (fk_S_impl_Bank.len _) rfl rfl (vs := (enc_S_impl_Bank (⟨0, false⟩ : S_impl_Bank))) rfl rfl rfl (fun _ => rfl) (fk_S_impl_Bank.len _) (fk_S_impl_Bank.one _) ?_
    intro w hs
    refine g_op (v := Value.int .i64 1) rfl rfl rfl ?_
    show G _ _ _ _ [_, _, _, _, _, _, _, _, _, _, _, _, _, _, _, _, _, _, _, _, _, _, _, _, _, _, _, _, _, _, _, _, _, _, _, _, _, _, _, _] _
    refine g_ops_nil ?_
    obtain rfl := Option.some.inj H
    refine g_ret Try.func12 (v := Value.tuple #[Value.agg (enc_S_impl_Bank (⟨0, false⟩ : S_impl_Bank)).toArray, Value.int .i64 1]) (resN (l := Try.f12.results.toList) (vs := [Value.agg (enc_S_impl_Bank (⟨0, false⟩ : S_impl_Bank)).toArray, Value.int .i64 1]) rfl ⟨⟨_, rfl, (run_loadVar_agg (es := (enc_S_impl_Bank (⟨0, false⟩ : S_impl_Bank))) rfl (congrArg (Result.ok · _) (fk_S_impl_Bank.len _).symm) (cells_all (hs.cells 0 rfl)))⟩, rfl, trivial⟩ (by simp)) ?_
    have hs : St _ [] _ := St.take (Γ' := [_, _]) hs
    exact ⟨_, rfl, rfl, hs⟩

/- function 67 impl_within -/
def impl_within.post (w0 : World) (r : Bool) (v : Value) (w : World) : Prop := v = Value.bool r ∧ St w0 [] w
set_option maxHeartbeats 400000 in
set_option maxRecDepth 100000 in
theorem impl_within.calls {N : Nat} {a1 : Int} {a2 : Int} {a3 : Int} {w0 : World} {r : Bool} (H : impl_within.f N a1 a2 a3 = some r) :
    Calls Try.prog 67 #[Value.int .i64 a1, Value.int .i64 a2, Value.int .i64 a3] w0 fun e w => ∃ v, e = .returned v ∧ impl_within.post w0 r v w := by
  unfold impl_within.f at H
  have hs : St w0 [] w0 := St.refl w0
  refine calls_of_g (n := 12) Try.func67 rfl rfl ?_
  show G _ _ _ _ [_, _, _, _, _, _, _, _, _, _, _, _, _, _, _] _
  refine g_seq ?_
  refine g_region ?_
  show G _ _ _ (.inRegion _ [0] :: _) _ _
  refine g_op (v := Value.bool false) rfl rfl rfl ?_
  show G _ _ _ _ [_, _, _, _, _, _, _, _, _, _, _, _, _, _, _] _
  refine g_ops_nil ?_
  refine g_seq ?_
  refine g_region ?_
  show G _ _ _ (.inRegion _ [0, 1, 2, 3, 4, 5, 6, 7, 8] :: _) _ _
  refine g_op (v := Value.int .i64 a2) rfl rfl rfl ?_
  show G _ _ _ _ [_, _, _, _, _, _, _, _, _, _, _, _, _, _, _] _
  refine g_op (v := Value.int .i64 a1) rfl rfl rfl ?_
  show G _ _ _ _ [_, _, _, _, _, _, _, _, _, _, _, _, _, _, _] _
  refine g_op_b (B := decide (a2 ≤ a1)) rfl rfl rfl ?_ ?_
  · intro hb
    rw [if_pos (b_dec_t hb)] at H
    show G _ _ _ _ [_, _, _, _, _, _, _, _, _, _, _, _, _, _, _] _
    refine g_op (v := Value.bool true) rfl rfl rfl ?_
    show G _ _ _ _ [_, _, _, _, _, _, _, _, _, _, _, _, _, _, _] _
    refine g_op (v := Value.int .i64 a1) rfl rfl rfl ?_
    show G _ _ _ _ [_, _, _, _, _, _, _, _, _, _, _, _, _, _, _] _
    refine g_op (v := Value.int .i64 a3) rfl rfl rfl ?_
    show G _ _ _ _ [_, _, _, _, _, _, _, _, _, _, _, _, _, _, _] _
    refine g_op (v := Value.bool (decide (a1 ≤ a3))) rfl rfl rfl ?_
    show G _ _ _ _ [_, _, _, _, _, _, _, _, _, _, _, _, _, _, _] _
    refine g_op (v := Value.bool (decide (a1 ≤ a3))) rfl rfl rfl ?_
    show G _ _ _ _ [_, _, _, _, _, _, _, _, _, _, _, _, _, _, _] _
    refine g_op (v := Value.bool (decide (a1 ≤ a3))) rfl rfl rfl ?_
    show G _ _ _ _ [_, _, _, _, _, _, _, _, _, _, _, _, _, _, _] _
    refine g_ops_nil ?_
    obtain rfl := Option.some.inj H
    refine g_ret Try.func67 (v := Value.bool (decide (a1 ≤ a3))) (res1 rfl rfl) ?_
    have hs : St _ [] _ := St.take (Γ' := []) hs
    exact ⟨_, rfl, rfl, hs⟩
  · intro hb
    rw [if_neg (b_dec_f hb)] at H
    show G _ _ _ _ [_, _, _, _, _, _, _, _, _, _, _, _, _, _, _] _
    refine g_op (v := Value.bool false) rfl rfl rfl ?_
    show G _ _ _ _ [_, _, _, _, _, _, _, _, _, _, _, _, _, _, _] _
    refine g_op_not rfl rfl ?_
    show G _ _ _ _ [_, _, _, _, _, _, _, _, _, _, _, _, _, _, _] _
    refine g_op_not rfl rfl ?_
    show G _ _ _ _ [_, _, _, _, _, _, _, _, _, _, _, _, _, _, _] _
    refine g_op_not rfl rfl ?_
    show G _ _ _ _ [_, _, _, _, _, _, _, _, _, _, _, _, _, _, _] _
    refine g_op (v := Value.bool false) rfl rfl rfl ?_
    show G _ _ _ _ [_, _, _, _, _, _, _, _, _, _, _, _, _, _, _] _
    refine g_op (v := Value.bool false) rfl rfl rfl ?_
    show G _ _ _ _ [_, _, _, _, _, _, _, _, _, _, _, _, _, _, _] _
    refine g_ops_nil ?_
    obtain rfl := Option.some.inj H
    refine g_ret Try.func67 (v := Value.bool false) (res1 rfl rfl) ?_
    have hs : St _ [] _ := St.take (Γ' := []) hs
    exact ⟨_, rfl, rfl, hs⟩

/- function 46 _impl_Ferry_all -/
def _impl_Ferry_all.post (w0 : World) (r : Int) (v : Value) (w : World) : Prop := v = Value.int .u16 r ∧ St w0 [] w
set_option maxHeartbeats 400000 in
set_option maxRecDepth 100000 in
theorem _impl_Ferry_all.calls {N : Nat} {a1 : S_laws_Ferry} {v2 : Value} {w0 : World} {r : Int} (hr3 : RdRow (K.int .u16) w0 v2 a1.f_Rules) (H : _impl_Ferry_all.f N a1 = some r) :
    Calls Try.prog 46 #[Value.agg (([Value.int .i8 a1.f_Things, Value.int .i8 a1.f_Boat, v2] : List Value)).toArray] w0 fun e w => ∃ v, e = .returned v ∧ _impl_Ferry_all.post w0 r v w := by
  unfold _impl_Ferry_all.f at H
  have hs : St w0 [] w0 := St.refl w0
  refine calls_of_g (n := 6) Try.func46 rfl rfl ?_
  show G _ _ _ _ [_, _, _, _, _, _, _] _
  refine g_seq ?_
  refine g_region ?_
  show G _ _ _ (.inRegion _ [0, 1] :: _) _ _
  refine s_box hs rfl rfl (cs := (([Value.int .i8 a1.f_Things, Value.int .i8 a1.f_Boat, v2] : List Value))) rfl rfl ?_
  intro b4 w hs
  show G _ _ _ _ [_, _, _, _, _, _, _] _
  refine g_op (v := Value.int .u16 0) rfl rfl rfl ?_
  show G _ _ _ _ [_, _, _, _, _, _, _] _
  refine g_ops_nil ?_
  refine g_seq ?_
  refine g_region ?_
  show G _ _ _ (.inRegion _ [0, 1, 2, 3, 4] :: _) _ _
  refine g_op (v := Value.pointer (some ⟨b4, 0, none⟩)) rfl rfl rfl ?_
  show G _ _ _ _ [_, _, _, _, _, _, _] _
  refine s_load1 rfl rfl (v := Value.int .i8 a1.f_Things) rfl rfl (fun _ => rfl) (cells_load (hs.cells 0 rfl) 0 1 rfl) ?_
  show G _ _ _ _ [_, _, _, _, _, _, _] _
  obtain ⟨g1, H⟩ := ite_get H
  refine g_op (v := Value.int .u16 (shlI .u16 1 a1.f_Things)) rfl rfl (x_shl rfl rfl rfl g1) ?_
  show G _ _ _ _ [_, _, _, _, _, _, _] _
  refine g_op (v := Value.int .u16 (u16w ((shlI .u16 1 a1.f_Things) - 1))) rfl rfl rfl ?_
  show G _ _ _ _ [_, _, _, _, _, _, _] _
  refine g_op (v := Value.int .u16 (u16w ((shlI .u16 1 a1.f_Things) - 1))) rfl rfl rfl ?_
  show G _ _ _ _ [_, _, _, _, _, _, _] _
  refine g_ops_nil ?_
  obtain rfl := Option.some.inj H
  refine g_ret Try.func46 (v := Value.int .u16 (u16w ((shlI .u16 1 a1.f_Things) - 1))) (res1 rfl rfl) ?_
  have hs : St _ [] _ := St.take (Γ' := [_]) hs
  exact ⟨_, rfl, rfl, hs⟩

/- function 70 impl_inside -/
def impl_inside.post (w0 : World) (r : Bool) (v : Value) (w : World) : Prop := v = Value.bool r ∧ St w0 [] w
set_option maxHeartbeats 400000 in
set_option maxRecDepth 100000 in
theorem impl_inside.calls {N : Nat} {a1 : Int} {a2 : Int} {w0 : World} {r : Bool} (H : impl_inside.f N a1 a2 = some r) :
    Calls Try.prog 70 #[Value.int .u16 a1, Value.int .u16 a2] w0 fun e w => ∃ v, e = .returned v ∧ impl_inside.post w0 r v w := by
  unfold impl_inside.f at H
  have hs : St w0 [] w0 := St.refl w0
  refine calls_of_g (n := 7) Try.func70 rfl rfl ?_
  show G _ _ _ _ [_, _, _, _, _, _, _, _, _] _
  refine g_seq ?_
  refine g_region ?_
  show G _ _ _ (.inRegion _ [0] :: _) _ _
  refine g_op (v := Value.bool false) rfl rfl rfl ?_
  show G _ _ _ _ [_, _, _, _, _, _, _, _, _] _
  refine g_ops_nil ?_
  refine g_seq ?_
  refine g_region ?_
  show G _ _ _ (.inRegion _ [0, 1, 2, 3, 4] :: _) _ _
  refine g_op (v := Value.int .u16 a1) rfl rfl rfl ?_
  show G _ _ _ _ [_, _, _, _, _, _, _, _, _] _
  refine g_op (v := Value.int .u16 a2) rfl rfl rfl ?_
  show G _ _ _ _ [_, _, _, _, _, _, _, _, _] _
  refine g_op (v := Value.int .u16 (bAndNot .u16 a1 a2)) rfl rfl rfl ?_
  show G _ _ _ _ [_, _, _, _, _, _, _, _, _] _
  refine g_op (v := Value.bool ((bAndNot .u16 a1 a2) == 0)) rfl rfl rfl ?_
  show G _ _ _ _ [_, _, _, _, _, _, _, _, _] _
  refine g_op (v := Value.bool ((bAndNot .u16 a1 a2) == 0)) rfl rfl rfl ?_
  show G _ _ _ _ [_, _, _, _, _, _, _, _, _] _
  refine g_ops_nil ?_
  obtain rfl := Option.some.inj H
  refine g_ret Try.func70 (v := Value.bool ((bAndNot .u16 a1 a2) == 0)) (res1 rfl rfl) ?_
  have hs : St _ [] _ := St.take (Γ' := []) hs
  exact ⟨_, rfl, rfl, hs⟩

end Go.Proofs.YtgoblgmidejdgaaX
