/- Contracts, printed by gen.py. -/
import Derived.Test.YtmjkeidcoonghaaDoorXC9
namespace Go.Proofs.YtmjkeidcoonghaaDoorX
open Go Go.RowKit Go.Proofs
set_option linter.unusedVariables false
set_option linter.unusedSimpArgs false
/- function 54 spec_l07Ok -/
def spec_l07Ok.post (w0 : World) (r : Bool) (v : Value) (w : World) : Prop := v = Value.bool r ∧ St w0 [] w
set_option maxHeartbeats 8000000 in
set_option maxRecDepth 100000 in
theorem spec_l07Ok.calls {N : Nat} {a1 : (List Int)} {a3 : (Ar Int 4)} {v2 : Value} {w0 : World} {r : Bool} (hr0 : RdRow (K.int .i16) w0 v2 a1) (H : spec_l07Ok.f N a1 a3 = some r) :
    Calls Tryd.prog 54 #[v2, Value.agg ((encA (encI .i16)) a3).toArray] w0 fun e w => ∃ v, e = .returned v ∧ spec_l07Ok.post w0 r v w := by
  unfold spec_l07Ok.f at H
  have hs : St w0 [] w0 := St.refl w0
  refine calls_of_g (n := 31) Tryd.func54 rfl rfl ?_
  show G _ _ _ _ [_, _, _, _, _, _, _, _, _, _, _, _, _, _, _, _, _, _, _, _, _, _, _, _, _, _, _, _, _, _, _, _, _] _
  refine g_seq ?_
  refine g_region ?_
  show G _ _ _ (.inRegion _ [0, 1] :: _) _ _
  refine s_box hs rfl rfl (cs := ((encA (encI .i16)) a3)) rfl rfl ?_
  intro b4 w hs
  show G _ _ _ _ [_, _, _, _, _, _, _, _, _, _, _, _, _, _, _, _, _, _, _, _, _, _, _, _, _, _, _, _, _, _, _, _, _] _
  refine g_op (v := Value.bool false) rfl rfl rfl ?_
  show G _ _ _ _ [_, _, _, _, _, _, _, _, _, _, _, _, _, _, _, _, _, _, _, _, _, _, _, _, _, _, _, _, _, _, _, _, _] _
  refine g_ops_nil ?_
  refine g_seq ?_
  refine g_seq ?_
  refine g_region ?_
  show G _ _ _ (.inRegion _ [0, 1, 2] :: _) _ _
  refine g_op (v := v2) rfl rfl rfl ?_
  obtain ⟨r6, Hr6, H⟩ := bind_get H
  refine s_call (args := [v2]) rfl rfl (x_call rfl (callFunc_enter Tryd.func90 rfl rfl) rfl) (spec_l07States.calls (a1 := a1) (hs.rd hr0) Hr6) ?_
  rintro _ w ⟨rfl, hs2⟩
  have hs : St _ [_] _ := hs.call hs2
  show G _ _ _ _ [_, _, _, _, _, _, _, _, _, _, _, _, _, _, _, _, _, _, _, _, _, _, _, _, _, _, _, _, _, _, _, _, _] _
  refine g_op_b (B := r6 == 0) rfl rfl rfl ?_ ?_
  ·
   intro hb
   rw [if_pos (b_beq_t hb)] at H
   show G _ _ _ _ [_, _, _, _, _, _, _, _, _, _, _, _, _, _, _, _, _, _, _, _, _, _, _, _, _, _, _, _, _, _, _, _, _] _
   refine g_ops_nil ?_
   refine g_cond_true rfl ?_
   refine g_seq ?_
   refine g_region ?_
   show G _ _ _ (.inRegion _ [0] :: _) _ _
   refine g_op (v := Value.bool false) rfl rfl rfl ?_
   show G _ _ _ _ [_, _, _, _, _, _, _, _, _, _, _, _, _, _, _, _, _, _, _, _, _, _, _, _, _, _, _, _, _, _, _, _, _] _
   refine g_ops_nil ?_
   obtain rfl := Option.some.inj H
   refine g_ret Tryd.func54 (v := Value.bool false) (res1 rfl rfl) ?_
   have hs : St _ [] _ := St.take (Γ' := [_]) hs
   exact ⟨_, rfl, rfl, hs⟩
  ·
   intro hb
   rw [if_neg (b_beq_f hb)] at H
   show G _ _ _ _ [_, _, _, _, _, _, _, _, _, _, _, _, _, _, _, _, _, _, _, _, _, _, _, _, _, _, _, _, _, _, _, _, _] _
   refine g_ops_nil ?_
   refine g_cond_false rfl ?_
   refine g_skip ?_
   refine g_seq ?_
   refine g_seq ?_
   refine g_region ?_
   show G _ _ _ (.inRegion _ [0] :: _) _ _
   refine g_op (v := Value.int .i64 0) rfl rfl rfl ?_
   show G _ _ _ _ [_, _, _, _, _, _, _, _, _, _, _, _, _, _, _, _, _, _, _, _, _, _, _, _, _, _, _, _, _, _, _, _, _] _
   refine g_ops_nil ?_
   obtain ⟨o1_, Ho, Hr1_⟩ := bind_get H
   refine g_block_join (J := fun t w => spec_l07Ok.a0 N = some r ∧ Fr t (fun O => ([O 0, O 1, O 2, O 3, O 4, O 5, O 6, O 7, O 8, O 9, O 10, O 11, O 12, O 13, O 14, O 15, O 16, O 17, O 18, O 19, O 20, O 21, O 22, O 23, O 24, O 25, O 26, O 27, O 28, O 29, O 30, O 31, O 32] : List Value)) ∧ St w0 [] w) ?_ ?_
   ·
    rintro t w ⟨H, hf, hs⟩
    obtain ⟨O, rfl⟩ := hf.open
    show G _ _ _ _ [_, _, _, _, _, _, _, _, _, _, _, _, _, _, _, _, _, _, _, _, _, _, _, _, _, _, _, _, _, _, _, _, _] _
    unfold spec_l07Ok.a0 at H
    refine g_seq ?_
    refine g_region ?_
    show G _ _ _ (.inRegion _ [0] :: _) _ _
    refine g_op (v := Value.bool true) rfl rfl rfl ?_
    show G _ _ _ _ [_, _, _, _, _, _, _, _, _, _, _, _, _, _, _, _, _, _, _, _, _, _, _, _, _, _, _, _, _, _, _, _, _] _
    refine g_ops_nil ?_
    obtain rfl := Option.some.inj H
    refine g_ret Tryd.func54 (v := Value.bool true) (res1 rfl rfl) ?_
    have hs : St _ [] _ := St.take (Γ' := []) hs
    exact ⟨_, rfl, rfl, hs⟩
   ·
    intro ha1_
    have hs := hs.pull 0 rfl
    have hs : St _ [_] _ := St.take (Γ' := []) hs
    refine g_loop_fuel (I := fun n_ t w => ∃ x7 : Int, rounds (fun s => spec_l07Ok.b0 N a1 a3 s) n_ x7 = some o1_ ∧ Fr t (fun O => ([v2, O 1, O 2, Value.pointer (some ⟨b4, 0, none⟩), O 4, Value.int .i64 x7, O 6, O 7, O 8, O 9, O 10, O 11, O 12, O 13, O 14, O 15, O 16, O 17, O 18, O 19, O 20, O 21, O 22, O 23, O 24, O 25, O 26, O 27, O 28, O 29, O 30, O 31, O 32] : List Value)) ∧ St w0 [Cells b4 ((encA (encI .i16)) a3) 49] w) N ⟨0, Ho, rfl, hs⟩ ?_ ?_
    ·
     rintro _ _ ⟨x7, h, _⟩
     exact rounds_zero h
    ·
     intro n_ ih1_
     rintro t w ⟨x7, Ho, hf, hs⟩
     obtain ⟨O, rfl⟩ := hf.open
     show G _ _ _ _ [_, _, _, _, _, _, _, _, _, _, _, _, _, _, _, _, _, _, _, _, _, _, _, _, _, _, _, _, _, _, _, _, _] _
     obtain ⟨x4_, H, Hx1_⟩ := rounds_succ Ho
     have H : spec_l07Ok.b0 N a1 a3 x7 = some x4_ := H
     unfold spec_l07Ok.b0 at H
     refine g_seq ?_
     refine g_seq ?_
     refine g_region ?_
     show G _ _ _ (.inRegion _ [0, 1] :: _) _ _
     refine g_op (v := Value.int .i64 x7) rfl rfl rfl ?_
     refine g_op_b (B := decide (x7 < 4)) rfl rfl rfl ?_ ?_
     ·
      intro hb
      rw [if_pos (b_dec_t hb)] at H
      show G _ _ _ _ [_, _, _, _, _, _, _, _, _, _, _, _, _, _, _, _, _, _, _, _, _, _, _, _, _, _, _, _, _, _, _, _, _] _
      refine g_ops_nil ?_
      refine g_cond_true rfl ?_
      refine g_skip ?_
      refine g_seq ?_
      refine g_block ?_
      refine g_seq ?_
      refine g_region ?_
      show G _ _ _ (.inRegion _ [0] :: _) _ _
      refine g_op (v := Value.int .i16 0) rfl rfl rfl ?_
      show G _ _ _ _ [_, _, _, _, _, _, _, _, _, _, _, _, _, _, _, _, _, _, _, _, _, _, _, _, _, _, _, _, _, _, _, _, _] _
      refine g_ops_nil ?_
      refine g_seq ?_
      refine g_seq ?_
      refine g_join2 (J := (fun t w => ∃ x9 : Int, spec_l07Ok.j2 N x7 a3 x9 = some x4_ ∧ Fr t (fun O => ([v2, O 1, O 2, Value.pointer (some ⟨b4, 0, none⟩), O 4, Value.int .i64 x7, Value.int .i16 x9, O 7, O 8, O 9, O 10, O 11, O 12, O 13, O 14, O 15, O 16, O 17, O 18, O 19, O 20, O 21, O 22, O 23, O 24, O 25, O 26, O 27, O 28, O 29, O 30, O 31, O 32] : List Value)) ∧ St w0 [Cells b4 ((encA (encI .i16)) a3) 49] w)) ?_ ?_
      ·
       rintro t w ⟨x9, H, hf, hs⟩
       obtain ⟨O, rfl⟩ := hf.open
       show G _ _ _ _ [_, _, _, _, _, _, _, _, _, _, _, _, _, _, _, _, _, _, _, _, _, _, _, _, _, _, _, _, _, _, _, _, _] _
       unfold spec_l07Ok.j2 at H
       refine g_seq ?_
       refine g_region ?_
       show G _ _ _ (.inRegion _ [0, 1, 2, 3, 4, 5, 6, 7, 8, 9, 10] :: _) _ _
       refine g_op (v := Value.int .i64 x7) rfl rfl rfl ?_
       obtain ⟨g2, H⟩ := ite_get H
       refine s_idxA (n := x7) (m := 1) rfl (fun _ => rfl) g2.1 g2.2 rfl rfl rfl rfl rfl ?_
       show G _ _ _ _ [_, _, _, _, _, _, _, _, _, _, _, _, _, _, _, _, _, _, _, _, _, _, _, _, _, _, _, _, _, _, _, _, _] _
       refine s_load1 rfl rfl (v := Value.int .i16 (a3.get x7 0)) rfl rfl (fun _ => rfl) (by rw [Nat.zero_add]; exact cells_load (hs.cells 0 rfl) _ _ (encA_at (fkI .i16).len _ _ 0 g2.1 g2.2)) ?_
       show G _ _ _ _ [_, _, _, _, _, _, _, _, _, _, _, _, _, _, _, _, _, _, _, _, _, _, _, _, _, _, _, _, _, _, _, _, _] _
       refine g_op_b (B := decide ((a3.get x7 0) < 0)) rfl rfl rfl ?_ ?_
       ·
        intro hb
        rw [if_pos (b_dec_t hb)] at H
        show G _ _ _ _ [_, _, _, _, _, _, _, _, _, _, _, _, _, _, _, _, _, _, _, _, _, _, _, _, _, _, _, _, _, _, _, _, _] _
        refine g_op (v := Value.bool true) rfl rfl rfl ?_
        refine g_op_not rfl rfl ?_
        refine g_op_not rfl rfl ?_
        show G _ _ _ _ [_, _, _, _, _, _, _, _, _, _, _, _, _, _, _, _, _, _, _, _, _, _, _, _, _, _, _, _, _, _, _, _, _] _
        refine g_op_not rfl rfl ?_
        show G _ _ _ _ [_, _, _, _, _, _, _, _, _, _, _, _, _, _, _, _, _, _, _, _, _, _, _, _, _, _, _, _, _, _, _, _, _] _
        refine g_op_not rfl rfl ?_
        refine g_op_not rfl rfl ?_
        show G _ _ _ _ [_, _, _, _, _, _, _, _, _, _, _, _, _, _, _, _, _, _, _, _, _, _, _, _, _, _, _, _, _, _, _, _, _] _
        refine g_op (v := Value.bool true) rfl rfl rfl ?_
        show G _ _ _ _ [_, _, _, _, _, _, _, _, _, _, _, _, _, _, _, _, _, _, _, _, _, _, _, _, _, _, _, _, _, _, _, _, _] _
        refine g_ops_nil ?_
        refine g_cond_true rfl ?_
        refine g_seq ?_
        refine g_region ?_
        show G _ _ _ (.inRegion _ [0] :: _) _ _
        refine g_op (v := Value.bool false) rfl rfl rfl ?_
        show G _ _ _ _ [_, _, _, _, _, _, _, _, _, _, _, _, _, _, _, _, _, _, _, _, _, _, _, _, _, _, _, _, _, _, _, _, _] _
        refine g_ops_nil ?_
        obtain rfl := Option.some.inj H
        subst Hx1_
        have H := Option.some.inj Hr1_
        subst H
        refine g_ret Tryd.func54 (v := Value.bool false) (res1 rfl rfl) ?_
        have hs : St _ [] _ := St.take (Γ' := [_]) hs
        exact ⟨_, rfl, rfl, hs⟩
       ·
        intro hb
        rw [if_neg (b_dec_f hb)] at H
        show G _ _ _ _ [_, _, _, _, _, _, _, _, _, _, _, _, _, _, _, _, _, _, _, _, _, _, _, _, _, _, _, _, _, _, _, _, _] _
        refine g_op (v := Value.bool false) rfl rfl rfl ?_
        refine g_op (v := Value.int .i64 x7) rfl rfl rfl ?_
        obtain ⟨g3, H⟩ := ite_get H
        refine s_idxA (n := x7) (m := 1) rfl (fun _ => rfl) g3.1 g3.2 rfl rfl rfl rfl rfl ?_
        show G _ _ _ _ [_, _, _, _, _, _, _, _, _, _, _, _, _, _, _, _, _, _, _, _, _, _, _, _, _, _, _, _, _, _, _, _, _] _
        refine s_load1 rfl rfl (v := Value.int .i16 (a3.get x7 0)) rfl rfl (fun _ => rfl) (by rw [Nat.zero_add]; exact cells_load (hs.cells 0 rfl) _ _ (encA_at (fkI .i16).len _ _ 0 g3.1 g3.2)) ?_
        show G _ _ _ _ [_, _, _, _, _, _, _, _, _, _, _, _, _, _, _, _, _, _, _, _, _, _, _, _, _, _, _, _, _, _, _, _, _] _
        refine g_op (v := Value.int .i16 x9) rfl rfl rfl ?_
        refine g_op_b (B := decide ((a3.get x7 0) > x9)) rfl rfl rfl ?_ ?_
        ·
         intro hb
         rw [if_pos (b_dec_t hb)] at H
         show G _ _ _ _ [_, _, _, _, _, _, _, _, _, _, _, _, _, _, _, _, _, _, _, _, _, _, _, _, _, _, _, _, _, _, _, _, _] _
         refine g_op (v := Value.bool true) rfl rfl rfl ?_
         show G _ _ _ _ [_, _, _, _, _, _, _, _, _, _, _, _, _, _, _, _, _, _, _, _, _, _, _, _, _, _, _, _, _, _, _, _, _] _
         refine g_ops_nil ?_
         refine g_cond_true rfl ?_
         refine g_seq ?_
         refine g_region ?_
         show G _ _ _ (.inRegion _ [0] :: _) _ _
         refine g_op (v := Value.bool false) rfl rfl rfl ?_
         show G _ _ _ _ [_, _, _, _, _, _, _, _, _, _, _, _, _, _, _, _, _, _, _, _, _, _, _, _, _, _, _, _, _, _, _, _, _] _
         refine g_ops_nil ?_
         obtain rfl := Option.some.inj H
         subst Hx1_
         have H := Option.some.inj Hr1_
         subst H
         refine g_ret Tryd.func54 (v := Value.bool false) (res1 rfl rfl) ?_
         have hs : St _ [] _ := St.take (Γ' := [_]) hs
         exact ⟨_, rfl, rfl, hs⟩
        ·
         intro hb
         rw [if_neg (b_dec_f hb)] at H
         show G _ _ _ _ [_, _, _, _, _, _, _, _, _, _, _, _, _, _, _, _, _, _, _, _, _, _, _, _, _, _, _, _, _, _, _, _, _] _
         refine g_op (v := Value.bool false) rfl rfl rfl ?_
         show G _ _ _ _ [_, _, _, _, _, _, _, _, _, _, _, _, _, _, _, _, _, _, _, _, _, _, _, _, _, _, _, _, _, _, _, _, _] _
         refine g_ops_nil ?_
         refine g_cond_false rfl ?_
         refine g_skip ?_
         refine g_inBlock ?_
         refine g_region ?_
         show G _ _ _ (.inRegion _ [0, 1, 2] :: _) _ _
         refine g_op (v := Value.int .i64 x7) rfl rfl rfl ?_
         refine g_op (v := Value.int .i64 (i64w (x7 + 1))) rfl rfl rfl ?_
         show G _ _ _ _ [_, _, _, _, _, _, _, _, _, _, _, _, _, _, _, _, _, _, _, _, _, _, _, _, _, _, _, _, _, _, _, _, _] _
         refine g_op (v := Value.int .i64 (i64w (x7 + 1))) rfl rfl rfl ?_
         show G _ _ _ _ [_, _, _, _, _, _, _, _, _, _, _, _, _, _, _, _, _, _, _, _, _, _, _, _, _, _, _, _, _, _, _, _, _] _
         refine g_ops_nil ?_
         obtain rfl := Option.some.inj H
         have hs := hs.pull 0 rfl
         have hs : St _ [_] _ := St.take (Γ' := []) hs
         exact ih1_ _ _ ⟨i64w (x7 + 1), Hx1_, rfl, hs⟩
      ·
       intro ha
       refine g_region ?_
       show G _ _ _ (.inRegion _ [0, 1, 2, 3] :: _) _ _
       refine g_op (v := Value.int .i64 x7) rfl rfl rfl ?_
       refine g_op (v := v2) rfl rfl rfl ?_
       refine s_len (hs.rd hr0) rfl rfl rfl rfl rfl ?_
       show G _ _ _ _ [_, _, _, _, _, _, _, _, _, _, _, _, _, _, _, _, _, _, _, _, _, _, _, _, _, _, _, _, _, _, _, _, _] _
       refine g_op_b (B := decide (x7 < (a1.length : Int))) rfl rfl rfl ?_ ?_
       ·
        intro hb
        rw [if_pos (b_dec_t hb)] at H
        show G _ _ _ _ [_, _, _, _, _, _, _, _, _, _, _, _, _, _, _, _, _, _, _, _, _, _, _, _, _, _, _, _, _, _, _, _, _] _
        refine g_ops_nil ?_
        refine g_cond_true rfl ?_
        refine g_region ?_
        show G _ _ _ (.inRegion _ [0, 1, 2, 3, 4] :: _) _ _
        refine g_op (v := v2) rfl rfl rfl ?_
        refine g_op (v := Value.int .i64 x7) rfl rfl rfl ?_
        obtain ⟨g1, H⟩ := ite_get H
        refine s_idx (fkI .i16) 0 (hs.rd hr0) rfl (fun _ => rfl) g1.1 g1.2 rfl rfl rfl rfl rfl ?_
        intro p8 hp8 lp8 op8
        show G _ _ _ _ [_, _, _, _, _, _, _, _, _, _, _, _, _, _, _, _, _, _, _, _, _, _, _, _, _, _, _, _, _, _, _, _, _] _
        refine s_load1 rfl rfl (v := Value.int .i16 (rdL a1 x7 0)) rfl rfl (fun _ => rfl) hp8 ?_
        show G _ _ _ _ [_, _, _, _, _, _, _, _, _, _, _, _, _, _, _, _, _, _, _, _, _, _, _, _, _, _, _, _, _, _, _, _, _] _
        refine g_op (v := Value.int .i16 (rdL a1 x7 0)) rfl rfl rfl ?_
        show G _ _ _ _ [_, _, _, _, _, _, _, _, _, _, _, _, _, _, _, _, _, _, _, _, _, _, _, _, _, _, _, _, _, _, _, _, _] _
        refine g_ops_nil ?_
        have hs := hs.pull 0 rfl
        have hs : St _ [_] _ := St.take (Γ' := []) hs
        exact ha _ _ ⟨rdL a1 x7 0, H, rfl, hs⟩
       ·
        intro hb
        rw [if_neg (b_dec_f hb)] at H
        show G _ _ _ _ [_, _, _, _, _, _, _, _, _, _, _, _, _, _, _, _, _, _, _, _, _, _, _, _, _, _, _, _, _, _, _, _, _] _
        refine g_ops_nil ?_
        refine g_cond_false rfl ?_
        refine g_skip ?_
        have hs := hs.pull 0 rfl
        have hs : St _ [_] _ := St.take (Γ' := []) hs
        exact ha _ _ ⟨0, H, rfl, hs⟩
     ·
      intro hb
      rw [if_neg (b_dec_f hb)] at H
      show G _ _ _ _ [_, _, _, _, _, _, _, _, _, _, _, _, _, _, _, _, _, _, _, _, _, _, _, _, _, _, _, _, _, _, _, _, _] _
      refine g_ops_nil ?_
      refine g_cond_false rfl ?_
      obtain rfl := Option.some.inj H
      subst Hx1_
      have hs : St _ [] _ := St.take (Γ' := [_]) hs
      refine g_exit rfl ?_
      exact ha1_ _ _ ⟨Hr1_, rfl, hs⟩

end Go.Proofs.YtmjkeidcoonghaaDoorX
