/- Contracts, printed by gen.py. -/
import Derived.Test.YtffjpapmmiennaaDoorXC4
namespace Go.Proofs.YtffjpapmmiennaaDoorX
open Go Go.RowKit Go.Proofs
set_option linter.unusedVariables false
set_option linter.unusedSimpArgs false
/- function 25 spec_l07Ok -/
def spec_l07Ok.post (w0 : World) (r : Bool) (v : Value) (w : World) : Prop := v = Value.bool r ∧ St w0 [] w
set_option maxHeartbeats 8000000 in
set_option maxRecDepth 100000 in
theorem spec_l07Ok.calls {N : Nat} {a1 : (List Int)} {a3 : (Ar Int 4)} {v2 : Value} {w0 : World} {r : Bool} (hr0 : RdRow (K.int .i16) w0 v2 a1) (H : spec_l07Ok.f N a1 a3 = some r) :
    Calls Tryd.prog 25 #[v2, Value.agg ((encA (encI .i16)) a3).toArray] w0 fun e w => ∃ v, e = .returned v ∧ spec_l07Ok.post w0 r v w := by
  unfold spec_l07Ok.f at H
  have hs : St w0 [] w0 := St.refl w0
  refine calls_of_g (n := 31) Tryd.func25 rfl rfl ?_
  show G _ _ _ _ [_, _, _, _, _, _, _, _, _, _, _, _, _, _, _, _, _, _, _, _, _, _, _, _, _, _, _, _, _, _, _, _, _] _
  refine g_seq ?_
  refine g_region ?_
  show G _ _ _ (.inRegion _ [0, 1] :: _) _ _
  refine s_box hs rfl rfl (cs := ((encA (encI .i16)) a3)) rfl rfl ?_
  intro b4 w hs
  show G _ _ _ _ [_, _, _, _, _, _, _, _, _, _, _, _, _, _, _, _, _, _, _, _, _, _, _, _, _, _, _, _, _, _, _, _, _] _
  refine g_op (v := Value.bool false) rfl rfl rfl ?_
  show G _ _ _ _ [_, _, _, _, _, _, _, _, _, _, _, _, _, _, _, _, _, _, _, _, _, _, _, _, _, _, _, _, _, _, _, _, _] _
  refine g_ops_nil ?_
  refine g_seq ?_
  refine g_seq ?_
  refine g_region ?_
  show G _ _ _ (.inRegion _ [0, 1, 2] :: _) _ _
  refine g_op (v := v2) rfl rfl rfl ?_
  obtain ⟨r6, Hr6, H⟩ := bind_get H
  refine s_call (args := [v2]) rfl rfl (x_call rfl (callFunc_enter Tryd.func47 rfl rfl) rfl) (spec_l07States.calls (a1 := a1) (hs.rd hr0) Hr6) ?_
  rintro _ w ⟨rfl, hs2⟩
  have hs : St _ [_] _ := hs.call hs2
  show G _ _ _ _ [_, _, _, _, _, _, _, _, _, _, _, _, _, _, _, _, _, _, _, _, _, _, _, _, _, _, _, _, _, _, _, _, _] _
  refine g_op_b (B := r6 == 0) rfl rfl rfl ?_ ?_
  ·
   intro hb
   rw [if_pos (b_beq_t hb)] at H
   show G _ _ _ _ [_, _, _, _, _, _, _, _, _, _, _, _, _, _, _, _, _, _, _, _, _, _, _, _, _, _, _, _, _, _, _, _, _] _
   refine g_ops_nil ?_
   refine g_cond_true rfl ?_
   refine g_seq ?_
   refine g_region ?_
   show G _ _ _ (.inRegion _ [0] :: _) _ _
   refine g_op (v := Value.bool false) rfl rfl rfl ?_
   show G _ _ _ _ [_, _, _, _, _, _, _, _, _, _, _, _, _, _, _, _, _, _, _, _, _, _, _, _, _, _, _, _, _, _, _, _, _] _
   refine g_ops_nil ?_
   obtain rfl := Option.some.inj H
   refine g_ret Tryd.func25 (v := Value.bool false) (res1 rfl rfl) ?_
   have hs : St _ [] _ := St.take (Γ' := [_]) hs
   exact ⟨_, rfl, rfl, hs⟩
  ·
   intro hb
   rw [if_neg (b_beq_f hb)] at H
   show G _ _ _ _ [_, _, _, _, _, _, _, _, _, _, _, _, _, _, _, _, _, _, _, _, _, _, _, _, _, _, _, _, _, _, _, _, _] _
   refine g_ops_nil ?_
   refine g_cond_false rfl ?_
   refine g_skip ?_
   refine g_seq ?_
   refine g_seq ?_
   refine g_region ?_
   show G _ _ _ (.inRegion _ [0] :: _) _ _
   refine g_op (v := Value.int .i64 0) rfl rfl rfl ?_
   show G _ _ _ _ [_, _, _, _, _, _, _, _, _, _, _, _, _, _, _, _, _, _, _, _, _, _, _, _, _, _, _, _, _, _, _, _, _] _
   refine g_ops_nil ?_
   obtain ⟨o1_, Ho, Hr1_⟩ := bind_get H
   refine g_block_join (J := fun t w => spec_l07Ok.a0 N = some r ∧ Fr t (fun O => ([O 0, O 1, O 2, O 3, O 4, O 5, O 6, O 7, O 8, O 9, O 10, O 11, O 12, O 13, O 14, O 15, O 16, O 17, O 18, O 19, O 20, O 21, O 22, O 23, O 24, O 25, O 26, O 27, O 28, O 29, O 30, O 31, O 32] : List Value)) ∧ St w0 [] w) ?_ ?_
   ·
    rintro t w ⟨H, hf, hs⟩
    obtain ⟨O, rfl⟩ := hf.open
    show G _ _ _ _ [_, _, _, _, _, _, _, _, _, _, _, _, _, _, _, _, _, _, _, _, _, _, _, _, _, _, _, _, _, _, _, _, _] _
    unfold spec_l07Ok.a0 at H
    refine g_seq ?_
    refine g_region ?_
    show G _ _ _ (.inRegion _ [0] :: _) _ _
    refine g_op (v := Value.bool true) rfl rfl rfl ?_
    show G _ _ _ _ [_, _, _, _, _, _, _, _, _, _, _, _, _, _, _, _, _, _, _, _, _, _, _, _, _, _, _, _, _, _, _, _, _] _
    refine g_ops_nil ?_
    obtain rfl := Option.some.inj H
    refine g_ret Tryd.func25 (v := Value.bool true) (res1 rfl rfl) ?_
    have hs : St _ [] _ := St.take (Γ' := []) hs
    exact ⟨_, rfl, rfl, hs⟩
   ·
    intro ha1_
    have hs := hs.pull 0 rfl
    have hs : St _ [_] _ := St.take (Γ' := []) hs
    refine g_loop_fuel (I := fun n_ t w => ∃ x7 : Int, rounds (fun s => spec_l07Ok.b0 N a1 a3 s) n_ x7 = some o1_ ∧ Fr t (fun O => ([v2, O 1, O 2, Value.pointer (some ⟨b4, 0, none⟩), O 4, Value.int .i64 x7, O 6, O 7, O 8, O 9, O 10, O 11, O 12, O 13, O 14, O 15, O 16, O 17, O 18, O 19, O 20, O 21, O 22, O 23, O 24, O 25, O 26, O 27, O 28, O 29, O 30, O 31, O 32] : List Value)) ∧ St w0 [Cells b4 ((encA (encI .i16)) a3) 33] w) N ⟨0, Ho, rfl, hs⟩ ?_ ?_
    ·
     rintro _ _ ⟨x7, h, _⟩
     exact rounds_zero h
    ·
     intro n_ ih1_
     rintro t w ⟨x7, Ho, hf, hs⟩
     obtain ⟨O, rfl⟩ := hf.open
     show G _ _ _ _ [_, _, _, _, _, _, _, _, _, _, _, _, _, _, _, _, _, _, _, _, _, _, _, _, _, _, _, _, _, _, _, _, _] _
     obtain ⟨x4_, H, Hx1_⟩ := rounds_succ Ho
     have H : spec_l07Ok.b0 N a1 a3 x7 = some x4_ := H
     unfold spec_l07Ok.b0 at H
     refine g_seq ?_
     refine g_seq ?_
     refine g_region ?_
     show G _ _ _ (.inRegion _ [0, 1] :: _) _ _
     refine g_op (v := Value.int .i64 x7) rfl rfl rfl ?_
     refine g_op_b (B := decide (x7 < 4)) rfl rfl rfl ?_ ?_
     ·
      intro hb
      rw [if_pos (b_dec_t hb)] at H
      show G _ _ _ _ [_, _, _, _, _, _, _, _, _, _, _, _, _, _, _, _, _, _, _, _, _, _, _, _, _, _, _, _, _, _, _, _, _] _
      refine g_ops_nil ?_
      refine g_cond_true rfl ?_
      refine g_skip ?_
      refine g_seq ?_
      refine g_block ?_
      refine g_seq ?_
      refine g_region ?_
      show G _ _ _ (.inRegion _ [0] :: _) _ _
      refine g_op (v := Value.int .i16 0) rfl rfl rfl ?_
      show G _ _ _ _ [_, _, _, _, _, _, _, _, _, _, _, _, _, _, _, _, _, _, _, _, _, _, _, _, _, _, _, _, _, _, _, _, _] _
      refine g_ops_nil ?_
      refine g_seq ?_
      refine g_seq ?_
      refine g_join2 (J := (fun t w => ∃ x9 : Int, spec_l07Ok.j2 N x7 a3 x9 = some x4_ ∧ Fr t (fun O => ([v2, O 1, O 2, Value.pointer (some ⟨b4, 0, none⟩), O 4, Value.int .i64 x7, Value.int .i16 x9, O 7, O 8, O 9, O 10, O 11, O 12, O 13, O 14, O 15, O 16, O 17, O 18, O 19, O 20, O 21, O 22, O 23, O 24, O 25, O 26, O 27, O 28, O 29, O 30, O 31, O 32] : List Value)) ∧ St w0 [Cells b4 ((encA (encI .i16)) a3) 33] w)) ?_ ?_
      ·
       rintro t w ⟨x9, H, hf, hs⟩
       obtain ⟨O, rfl⟩ := hf.open
       show G _ _ _ _ [_, _, _, _, _, _, _, _, _, _, _, _, _, _, _, _, _, _, _, _, _, _, _, _, _, _, _, _, _, _, _, _, _] _
       unfold spec_l07Ok.j2 at H
       refine g_seq ?_
       refine g_region ?_
       show G _ _ _ (.inRegion _ [0, 1, 2, 3, 4, 5, 6, 7, 8, 9, 10] :: _) _ _
       refine g_op (v := Value.int .i64 x7) rfl rfl rfl ?_
       obtain ⟨g2, H⟩ := ite_get H
       refine s_idxA (n := x7) (m := 1) rfl (fun _ => rfl) g2.1 g2.2 rfl rfl rfl rfl rfl ?_
       show G _ _ _ _ [_, _, _, _, _, _, _, _, _, _, _, _, _, _, _, _, _, _, _, _, _, _, _, _, _, _, _, _, _, _, _, _, _] _
       refine s_load1 rfl rfl (v := Value.int .i16 (a3.get x7 0)) rfl rfl (fun _ => rfl) (by rw [Nat.zero_add]; exact cells_load (hs.cells 0 rfl) _ _ (encA_at (fkI .i16).len _ _ 0 g2.1 g2.2)) ?_
       show G _ _ _ _ [_, _, _, _, _, _, _, _, _, _, _, _, _, _, _, _, _, _, _, _, _, _, _, _, _, _, _, _, _, _, _, _, _] _
       refine g_op_b (B := decide ((a3.get x7 0) < 0)) rfl rfl rfl ?_ ?_
       ·
        intro hb
        rw [if_pos (b_dec_t hb)] at H
        show G _ _ _ _ [_, _, _, _, _, _, _, _, _, _, _, _, _, _, _, _, _, _, _, _, _, _, _, _, _, _, _, _, _, _, _, _, _] _
        refine g_op (v := Value.bool true) rfl rfl rfl ?_
        refine g_op_not rfl rfl ?_
        refine g_op_not rfl rfl ?_
        show G _ _ _ _ [_, _, _, _, _, _, _, _, _, _, _, _, _, _, _, _, _, _, _, _, _, _, _, _, _, _, _, _, _, _, _, _, _] _
        refine g_op_not rfl rfl ?_
        show G _ _ _ _ [_, _, _, _, _, _, _, _, _, _, _, _, _, _, _, _, _, _, _, _, _, _, _, _, _, _, _, _, _, _, _, _, _] _
        refine g_op_not rfl rfl ?_
        refine g_op_not rfl rfl ?_
        show G _ _ _ _ [_, _, _, _, _, _, _, _, _, _, _, _, _, _, _, _, _, _, _, _, _, _, _, _, _, _, _, _, _, _, _, _, _] _
        refine g_op (v := Value.bool true) rfl rfl rfl ?_
        show G _ _ _ _ [_, _, _, _, _, _, _, _, _, _, _, _, _, _, _, _, _, _, _, _, _, _, _, _, _, _, _, _, _, _, _, _, _] _
        refine g_ops_nil ?_
        refine g_cond_true rfl ?_
        refine g_seq ?_
        refine g_region ?_
        show G _ _ _ (.inRegion _ [0] :: _) _ _
        refine g_op (v := Value.bool false) rfl rfl rfl ?_
        show G _ _ _ _ [_, _, _, _, _, _, _, _, _, _, _, _, _, _, _, _, _, _, _, _, _, _, _, _, _, _, _, _, _, _, _, _, _] _
        refine g_ops_nil ?_
        obtain rfl := Option.some.inj H
        subst Hx1_
        have H := Option.some.inj Hr1_
        subst H
        refine g_ret Tryd.func25 (v := Value.bool false) (res1 rfl rfl) ?_
        have hs : St _ [] _ := St.take (Γ' := [_]) hs
        exact ⟨_, rfl, rfl, hs⟩
       ·
        intro hb
        rw [if_neg (b_dec_f hb)] at H
        show G _ _ _ _ [_, _, _, _, _, _, _, _, _, _, _, _, _, _, _, _, _, _, _, _, _, _, _, _, _, _, _, _, _, _, _, _, _] _
        refine g_op (v := Value.bool false) rfl rfl rfl ?_
        refine g_op (v := Value.int .i64 x7) rfl rfl rfl ?_
        obtain ⟨g3, H⟩ := ite_get H
        refine s_idxA (n := x7) (m := 1) rfl (fun _ => rfl) g3.1 g3.2 rfl rfl rfl rfl rfl ?_
        show G _ _ _ _ [_, _, _, _, _, _, _, _, _, _, _, _, _, _, _, _, _, _, _, _, _, _, _, _, _, _, _, _, _, _, _, _, _] _
        refine s_load1 rfl rfl (v := Value.int .i16 (a3.get x7 0)) rfl rfl (fun _ => rfl) (by rw [Nat.zero_add]; exact cells_load (hs.cells 0 rfl) _ _ (encA_at (fkI .i16).len _ _ 0 g3.1 g3.2)) ?_
        show G _ _ _ _ [_, _, _, _, _, _, _, _, _, _, _, _, _, _, _, _, _, _, _, _, _, _, _, _, _, _, _, _, _, _, _, _, _] _
        refine g_op (v := Value.int .i16 x9) rfl rfl rfl ?_
        refine g_op_b (B := decide ((a3.get x7 0) > x9)) rfl rfl rfl ?_ ?_
        ·
         intro hb
         rw [if_pos (b_dec_t hb)] at H
         show G _ _ _ _ [_, _, _, _, _, _, _, _, _, _, _, _, _, _, _, _, _, _, _, _, _, _, _, _, _, _, _, _, _, _, _, _, _] _
         refine g_op (v := Value.bool true) rfl rfl rfl ?_
         show G _ _ _ _ [_, _, _, _, _, _, _, _, _, _, _, _, _, _, _, _, _, _, _, _, _, _, _, _, _, _, _, _, _, _, _, _, _] _
         refine g_ops_nil ?_
         refine g_cond_true rfl ?_
         refine g_seq ?_
         refine g_region ?_
         show G _ _ _ (.inRegion _ [0] :: _) _ _
         refine g_op (v := Value.bool false) rfl rfl rfl ?_
         show G _ _ _ _ [_, _, _, _, _, _, _, _, _, _, _, _, _, _, _, _, _, _, _, _, _, _, _, _, _, _, _, _, _, _, _, _, _] _
         refine g_ops_nil ?_
         obtain rfl := Option.some.inj H
         subst Hx1_
         have H := Option.some.inj Hr1_
         subst H
         refine g_ret Tryd.func25 (v := Value.bool false) (res1 rfl rfl) ?_
         have hs : St _ [] _ := St.take (Γ' := [_]) hs
         exact ⟨_, rfl, rfl, hs⟩
        ·
         intro hb
         rw [if_neg (b_dec_f hb)] at H
         show G _ _ _ _ [_, _, _, _, _, _, _, _, _, _, _, _, _, _, _, _, _, _, _, _, _, _, _, _, _, _, _, _, _, _, _, _, _] _
         refine g_op (v := Value.bool false) rfl rfl rfl ?_
         show G _ _ _ _ [_, _, _, _, _, _, _, _, _, _, _, _, _, _, _, _, _, _, _, _, _, _, _, _, _, _, _, _, _, _, _, _, _] _
         refine g_ops_nil ?_
         refine g_cond_false rfl ?_
         refine g_skip ?_
         refine g_inBlock ?_
         refine g_region ?_
         show G _ _ _ (.inRegion _ [0, 1, 2] :: _) _ _
         refine g_op (v := Value.int .i64 x7) rfl rfl rfl ?_
         refine g_op (v := Value.int .i64 (i64w (x7 + 1))) rfl rfl rfl ?_
         show G _ _ _ _ [_, _, _, _, _, _, _, _, _, _, _, _, _, _, _, _, _, _, _, _, _, _, _, _, _, _, _, _, _, _, _, _, _] _
         refine g_op (v := Value.int .i64 (i64w (x7 + 1))) rfl rfl rfl ?_
         show G _ _ _ _ [_, _, _, _, _, _, _, _, _, _, _, _, _, _, _, _, _, _, _, _, _, _, _, _, _, _, _, _, _, _, _, _, _] _
         refine g_ops_nil ?_
         obtain rfl := Option.some.inj H
         have hs := hs.pull 0 rfl
         have hs : St _ [_] _ := St.take (Γ' := []) hs
         exact ih1_ _ _ ⟨i64w (x7 + 1), Hx1_, rfl, hs⟩
      ·
       intro ha
       refine g_region ?_
       show G _ _ _ (.inRegion _ [0, 1, 2, 3] :: _) _ _
       refine g_op (v := Value.int .i64 x7) rfl rfl rfl ?_
       refine g_op (v := v2) rfl rfl rfl ?_
       refine s_len (hs.rd hr0) rfl rfl rfl rfl rfl ?_
       show G _ _ _ _ [_, _, _, _, _, _, _, _, _, _, _, _, _, _, _, _, _, _, _, _, _, _, _, _, _, _, _, _, _, _, _, _, _] _
       refine g_op_b (B := decide (x7 < (a1.length : Int))) rfl rfl rfl ?_ ?_
       ·
        intro hb
        rw [if_pos (b_dec_t hb)] at H
        show G _ _ _ _ [_, _, _, _, _, _, _, _, _, _, _, _, _, _, _, _, _, _, _, _, _, _, _, _, _, _, _, _, _, _, _, _, _] _
        refine g_ops_nil ?_
        refine g_cond_true rfl ?_
        refine g_region ?_
        show G _ _ _ (.inRegion _ [0, 1, 2, 3, 4] :: _) _ _
        refine g_op (v := v2) rfl rfl rfl ?_
        refine g_op (v := Value.int .i64 x7) rfl rfl rfl ?_
        obtain ⟨g1, H⟩ := ite_get H
        refine s_idx (fkI .i16) 0 (hs.rd hr0) rfl (fun _ => rfl) g1.1 g1.2 rfl rfl rfl rfl rfl ?_
        intro p8 hp8 lp8 op8
        show G _ _ _ _ [_, _, _, _, _, _, _, _, _, _, _, _, _, _, _, _, _, _, _, _, _, _, _, _, _, _, _, _, _, _, _, _, _] _
        refine s_load1 rfl rfl (v := Value.int .i16 (rdL a1 x7 0)) rfl rfl (fun _ => rfl) hp8 ?_
        show G _ _ _ _ [_, _, _, _, _, _, _, _, _, _, _, _, _, _, _, _, _, _, _, _, _, _, _, _, _, _, _, _, _, _, _, _, _] _
        refine g_op (v := Value.int .i16 (rdL a1 x7 0)) rfl rfl rfl ?_
        show G _ _ _ _ [_, _, _, _, _, _, _, _, _, _, _, _, _, _, _, _, _, _, _, _, _, _, _, _, _, _, _, _, _, _, _, _, _] _
        refine g_ops_nil ?_
        have hs := hs.pull 0 rfl
        have hs : St _ [_] _ := St.take (Γ' := []) hs
        exact ha _ _ ⟨rdL a1 x7 0, H, rfl, hs⟩
       ·
        intro hb
        rw [if_neg (b_dec_f hb)] at H
        show G _ _ _ _ [_, _, _, _, _, _, _, _, _, _, _, _, _, _, _, _, _, _, _, _, _, _, _, _, _, _, _, _, _, _, _, _, _] _
        refine g_ops_nil ?_
        refine g_cond_false rfl ?_
        refine g_skip ?_
        have hs := hs.pull 0 rfl
        have hs : St _ [_] _ := St.take (Γ' := []) hs
        exact ha _ _ ⟨0, H, rfl, hs⟩
     ·
      intro hb
      rw [if_neg (b_dec_f hb)] at H
      show G _ _ _ _ [_, _, _, _, _, _, _, _, _, _, _, _, _, _, _, _, _, _, _, _, _, _, _, _, _, _, _, _, _, _, _, _, _] _
      refine g_ops_nil ?_
      refine g_cond_false rfl ?_
      obtain rfl := Option.some.inj H
      subst Hx1_
      have hs : St _ [] _ := St.take (Γ' := [_]) hs
      refine g_exit rfl ?_
      exact ha1_ _ _ ⟨Hr1_, rfl, hs⟩

/- function 26 spec_l07Text -/
def spec_l07Text.post (w0 : World) (r : ByteArray) (v : Value) (w : World) : Prop := v = Value.string r ∧ St w0 [] w
set_option maxHeartbeats 8000000 in
set_option maxRecDepth 100000 in
theorem spec_l07Text.calls {N : Nat} {a1 : (List Int)} {a3 : (Ar Int 4)} {v2 : Value} {w0 : World} {r : ByteArray} (hr0 : RdRow (K.int .i16) w0 v2 a1) (H : spec_l07Text.f N a1 a3 = some r) :
    Calls Tryd.prog 26 #[v2, Value.agg ((encA (encI .i16)) a3).toArray] w0 fun e w => ∃ v, e = .returned v ∧ spec_l07Text.post w0 r v w := by
  unfold spec_l07Text.f at H
  have hs : St w0 [] w0 := St.refl w0
  refine calls_of_g (n := 31) Tryd.func26 rfl rfl ?_
  show G _ _ _ _ [_, _, _, _, _, _, _, _, _, _, _, _, _, _, _, _, _, _, _, _, _, _, _, _, _, _, _, _, _, _, _, _, _] _
  refine g_seq ?_
  refine g_region ?_
  show G _ _ _ (.inRegion _ [0, 1] :: _) _ _
  refine s_box hs rfl rfl (cs := ((encA (encI .i16)) a3)) rfl rfl ?_
  intro b4 w hs
  show G _ _ _ _ [_, _, _, _, _, _, _, _, _, _, _, _, _, _, _, _, _, _, _, _, _, _, _, _, _, _, _, _, _, _, _, _, _] _
  refine g_op (v := Value.string (⟨#[]⟩ : ByteArray)) rfl rfl rfl ?_
  show G _ _ _ _ [_, _, _, _, _, _, _, _, _, _, _, _, _, _, _, _, _, _, _, _, _, _, _, _, _, _, _, _, _, _, _, _, _] _
  refine g_ops_nil ?_
  refine g_seq ?_
  refine g_region ?_
  show G _ _ _ (.inRegion _ [0] :: _) _ _
  refine g_op (v := Value.string (⟨#[]⟩ : ByteArray)) rfl rfl rfl ?_
  show G _ _ _ _ [_, _, _, _, _, _, _, _, _, _, _, _, _, _, _, _, _, _, _, _, _, _, _, _, _, _, _, _, _, _, _, _, _] _
  refine g_ops_nil ?_
  refine g_seq ?_
  refine g_seq ?_
  refine g_region ?_
  show G _ _ _ (.inRegion _ [0] :: _) _ _
  refine g_op (v := Value.int .i64 0) rfl rfl rfl ?_
  show G _ _ _ _ [_, _, _, _, _, _, _, _, _, _, _, _, _, _, _, _, _, _, _, _, _, _, _, _, _, _, _, _, _, _, _, _, _] _
  refine g_ops_nil ?_
  obtain ⟨o1_, Ho, Hr1_⟩ := bind_get H
  refine g_block_join (J := fun t w => ∃ x11 : ByteArray, spec_l07Text.a0 N x11 = some r ∧ Fr t (fun O => ([O 0, O 1, O 2, O 3, O 4, Value.string x11, O 6, O 7, O 8, O 9, O 10, O 11, O 12, O 13, O 14, O 15, O 16, O 17, O 18, O 19, O 20, O 21, O 22, O 23, O 24, O 25, O 26, O 27, O 28, O 29, O 30, O 31, O 32] : List Value)) ∧ St w0 [] w) ?_ ?_
  ·
   rintro t w ⟨x11, H, hf, hs⟩
   obtain ⟨O, rfl⟩ := hf.open
   show G _ _ _ _ [_, _, _, _, _, _, _, _, _, _, _, _, _, _, _, _, _, _, _, _, _, _, _, _, _, _, _, _, _, _, _, _, _] _
   unfold spec_l07Text.a0 at H
   refine g_seq ?_
   refine g_region ?_
   show G _ _ _ (.inRegion _ [0, 1] :: _) _ _
   refine g_op (v := Value.string x11) rfl rfl rfl ?_
   refine g_op (v := Value.string x11) rfl rfl rfl ?_
   show G _ _ _ _ [_, _, _, _, _, _, _, _, _, _, _, _, _, _, _, _, _, _, _, _, _, _, _, _, _, _, _, _, _, _, _, _, _] _
   refine g_ops_nil ?_
   obtain rfl := Option.some.inj H
   refine g_ret Tryd.func26 (v := Value.string x11) (res1 rfl rfl) ?_
   have hs : St _ [] _ := St.take (Γ' := []) hs
   exact ⟨_, rfl, rfl, hs⟩
  ·
   intro ha1_
   have hs := hs.pull 0 rfl
   have hs : St _ [_] _ := St.take (Γ' := []) hs
   refine g_loop_fuel (I := fun n_ t w => ∃ x6 : ByteArray, ∃ x7 : Int, rounds (fun s => spec_l07Text.b0 N a1 a3 s.1 s.2) n_ (x6, x7) = some o1_ ∧ Fr t (fun O => ([v2, O 1, O 2, Value.pointer (some ⟨b4, 0, none⟩), O 4, Value.string x6, Value.int .i64 x7, O 7, O 8, O 9, O 10, O 11, O 12, O 13, O 14, O 15, O 16, O 17, O 18, O 19, O 20, O 21, O 22, O 23, O 24, O 25, O 26, O 27, O 28, O 29, O 30, O 31, O 32] : List Value)) ∧ St w0 [Cells b4 ((encA (encI .i16)) a3) 33] w) N ⟨(⟨#[]⟩ : ByteArray), 0, Ho, rfl, hs⟩ ?_ ?_
   ·
    rintro _ _ ⟨x6, x7, h, _⟩
    exact rounds_zero h
   ·
    intro n_ ih1_
    rintro t w ⟨x6, x7, Ho, hf, hs⟩
    obtain ⟨O, rfl⟩ := hf.open
    show G _ _ _ _ [_, _, _, _, _, _, _, _, _, _, _, _, _, _, _, _, _, _, _, _, _, _, _, _, _, _, _, _, _, _, _, _, _] _
    obtain ⟨x8_, H, Hx1_⟩ := rounds_succ Ho
    have H : spec_l07Text.b0 N a1 a3 x6 x7 = some x8_ := H
    unfold spec_l07Text.b0 at H
    refine g_seq ?_
    refine g_seq ?_
    refine g_region ?_
    show G _ _ _ (.inRegion _ [0, 1, 2, 3] :: _) _ _
    refine g_op (v := Value.int .i64 x7) rfl rfl rfl ?_
    refine g_op (v := v2) rfl rfl rfl ?_
    refine s_len (hs.rd hr0) rfl rfl rfl rfl rfl ?_
    show G _ _ _ _ [_, _, _, _, _, _, _, _, _, _, _, _, _, _, _, _, _, _, _, _, _, _, _, _, _, _, _, _, _, _, _, _, _] _
    refine g_op_b (B := decide (x7 < (a1.length : Int))) rfl rfl rfl ?_ ?_
    ·
     intro hb
     rw [if_pos (b_dec_t hb)] at H
     show G _ _ _ _ [_, _, _, _, _, _, _, _, _, _, _, _, _, _, _, _, _, _, _, _, _, _, _, _, _, _, _, _, _, _, _, _, _] _
     refine g_ops_nil ?_
     refine g_cond_true rfl ?_
     refine g_skip ?_
     refine g_seq ?_
     refine g_block ?_
     refine g_seq ?_
     refine g_seq ?_
     refine g_join2 (J := (fun t w => ∃ x8 : ByteArray, spec_l07Text.j2 N x7 a3 a1 x8 = some x8_ ∧ Fr t (fun O => ([v2, O 1, O 2, Value.pointer (some ⟨b4, 0, none⟩), O 4, Value.string x8, Value.int .i64 x7, O 7, O 8, O 9, O 10, O 11, O 12, O 13, O 14, O 15, O 16, O 17, O 18, O 19, O 20, O 21, O 22, O 23, O 24, O 25, O 26, O 27, O 28, O 29, O 30, O 31, O 32] : List Value)) ∧ St w0 [Cells b4 ((encA (encI .i16)) a3) 33] w)) ?_ ?_
     ·
      rintro t w ⟨x8, H, hf, hs⟩
      obtain ⟨O, rfl⟩ := hf.open
      show G _ _ _ _ [_, _, _, _, _, _, _, _, _, _, _, _, _, _, _, _, _, _, _, _, _, _, _, _, _, _, _, _, _, _, _, _, _] _
      unfold spec_l07Text.j2 at H
      obtain ⟨gd2, H⟩ := ite_get H
      obtain ⟨r9, Hr9, H⟩ := bind_get H
      obtain ⟨gs3, H⟩ := ite_get H
      obtain ⟨gd4, H⟩ := ite_get H
      obtain ⟨ad5_, ad5_N, ad5_C, had5_⟩ := sl_at (hs.rd hr0) gd4.1 gd4.2
      obtain ⟨r10, Hr10, H⟩ := bind_get H
      obtain ⟨gs6, H⟩ := ite_get H
      obtain ⟨gs7, H⟩ := ite_get H
      refine g_name ?_
      intro T hT
      refine g_any (n := 16) rfl [0, 1, 2, 3, 4, 5, 6, 7, 8, 9, 10, 11, 12, 13, 14, 15] [0, 1, 2, 3, 4, 5, 6, 7, 8, 9, 10, 11, 12, 13, 14, 15] rfl rfl (Inv := fun D t w => ∃ O : Nat → Value, t = [v2, O 1, O 2, Value.pointer (some ⟨b4, 0, none⟩), O 4, cnd (D 15) (Value.string (x8 ++ ((r9 ++ (⟨#[47]⟩ : ByteArray)) ++ r10))) (Value.string x8), Value.int .i64 x7, O 7, O 8, O 9, O 10, O 11, O 12, O 13, O 14, O 15, O 16, cnd (D 0) (Value.string x8) (O 17), cnd (D 1) (Value.int .i64 x7) (O 18), cnd (D 2) (Value.pointer (some ⟨b4, 0 + x7.toNat * 1, none⟩)) (O 19), cnd (D 3) (Value.int .i16 (a3.get x7 0)) (O 20), cnd (D 4) (Value.int .i64 (i64w (a3.get x7 0))) (O 21), cnd (D 5) (Value.string r9) (O 22), cnd (D 6) (Value.string (r9 ++ (⟨#[47]⟩ : ByteArray))) (O 23), cnd (D 7) v2 (O 24), cnd (D 8) (Value.int .i64 x7) (O 25), cnd (D 9) (Value.pointer (some (ad5_.add (x7.toNat * 1)))) (O 26), cnd (D 10) (Value.int .i16 (rdL a1 x7 0)) (O 27), cnd (D 11) (Value.int .i64 (i64w (rdL a1 x7 0))) (O 28), cnd (D 12) (Value.string r10) (O 29), cnd (D 13) (Value.string ((r9 ++ (⟨#[47]⟩ : ByteArray)) ++ r10)) (O 30), cnd (D 14) (Value.string (x8 ++ ((r9 ++ (⟨#[47]⟩ : ByteArray)) ++ r10))) (O 31), O 32] ∧ St w0 [Cells b4 ((encA (encI .i16)) a3) 33] w) ?_ ⟨⟨⟨⟨⟨⟨⟨⟨⟨⟨⟨⟨⟨⟨⟨⟨trivial, ?_⟩, ?_⟩, ?_⟩, ?_⟩, ?_⟩, ?_⟩, ?_⟩, ?_⟩, ?_⟩, ?_⟩, ?_⟩, ?_⟩, ?_⟩, ?_⟩, ?_⟩, ?_⟩ ?_
      ·
       intro w hh hbw
       have hs := hs.samew hh hbw
       exact ⟨fun i => T.getD i undef, (by subst hT; rfl), hs⟩
      ·
       intro D t w hD hp hcl hI rest hk
       obtain ⟨O, ht, hs⟩ := hI
       have q14_ : D 14 = false := not_yet (hcl.get 14 (by decide)) 0 0 rfl hD
       have q15_ : D 15 = false := not_yet (hcl.get 15 (by decide)) 0 14 rfl q14_
       have u0_ : upd D 0 0 = true := rfl; have u1_ : upd D 0 1 = D 1 := rfl; have u2_ : upd D 0 2 = D 2 := rfl; have u3_ : upd D 0 3 = D 3 := rfl; have u4_ : upd D 0 4 = D 4 := rfl; have u5_ : upd D 0 5 = D 5 := rfl; have u6_ : upd D 0 6 = D 6 := rfl; have u7_ : upd D 0 7 = D 7 := rfl; have u8_ : upd D 0 8 = D 8 := rfl; have u9_ : upd D 0 9 = D 9 := rfl; have u10_ : upd D 0 10 = D 10 := rfl; have u11_ : upd D 0 11 = D 11 := rfl; have u12_ : upd D 0 12 = D 12 := rfl; have u13_ : upd D 0 13 = D 13 := rfl; have u14_ : upd D 0 14 = D 14 := rfl; have u15_ : upd D 0 15 = D 15 := rfl
       simp only [hD, q14_, q15_, cnd_t, cnd_f, Asc_t, Asc_f] at ht hs
       subst ht
       refine g_op (v := Value.string x8) rfl rfl rfl ?_
       show G _ _ _ _ [_, _, _, _, _, _, _, _, _, _, _, _, _, _, _, _, _, _, _, _, _, _, _, _, _, _, _, _, _, _, _, _, _] _
       exact hk _ _ ⟨O, (by simp only [u0_, u1_, u2_, u3_, u4_, u5_, u6_, u7_, u8_, u9_, u10_, u11_, u12_, u13_, u14_, u15_, q14_, q15_, cnd_t, cnd_f, Asc_t, Asc_f]), hs.cast (by first | rfl | simp only [List.take, List.drop, List.cons_append, List.nil_append, List.set_cons_zero, List.set_cons_succ, List.eraseIdx, u0_, u1_, u2_, u3_, u4_, u5_, u6_, u7_, u8_, u9_, u10_, u11_, u12_, u13_, u14_, u15_, q14_, q15_, cnd_t, cnd_f, Asc_t, Asc_f])⟩
      ·
       intro D t w hD hp hcl hI rest hk
       obtain ⟨O, ht, hs⟩ := hI
       have q2_ : D 2 = false := not_yet (hcl.get 2 (by decide)) 0 1 rfl hD
       have q3_ : D 3 = false := not_yet (hcl.get 3 (by decide)) 0 2 rfl q2_
       have q4_ : D 4 = false := not_yet (hcl.get 4 (by decide)) 0 3 rfl q3_
       have q5_ : D 5 = false := not_yet (hcl.get 5 (by decide)) 0 4 rfl q4_
       have q6_ : D 6 = false := not_yet (hcl.get 6 (by decide)) 0 5 rfl q5_
       have q12_ : D 12 = false := not_yet (hcl.get 12 (by decide)) 1 5 rfl q5_
       have q13_ : D 13 = false := not_yet (hcl.get 13 (by decide)) 0 6 rfl q6_
       have q14_ : D 14 = false := not_yet (hcl.get 14 (by decide)) 1 13 rfl q13_
       have q15_ : D 15 = false := not_yet (hcl.get 15 (by decide)) 0 14 rfl q14_
       have u0_ : upd D 1 0 = D 0 := rfl; have u1_ : upd D 1 1 = true := rfl; have u2_ : upd D 1 2 = D 2 := rfl; have u3_ : upd D 1 3 = D 3 := rfl; have u4_ : upd D 1 4 = D 4 := rfl; have u5_ : upd D 1 5 = D 5 := rfl; have u6_ : upd D 1 6 = D 6 := rfl; have u7_ : upd D 1 7 = D 7 := rfl; have u8_ : upd D 1 8 = D 8 := rfl; have u9_ : upd D 1 9 = D 9 := rfl; have u10_ : upd D 1 10 = D 10 := rfl; have u11_ : upd D 1 11 = D 11 := rfl; have u12_ : upd D 1 12 = D 12 := rfl; have u13_ : upd D 1 13 = D 13 := rfl; have u14_ : upd D 1 14 = D 14 := rfl; have u15_ : upd D 1 15 = D 15 := rfl
       simp only [hD, q2_, q3_, q4_, q5_, q6_, q12_, q13_, q14_, q15_, cnd_t, cnd_f, Asc_t, Asc_f] at ht hs
       subst ht
       refine g_op (v := Value.int .i64 x7) rfl rfl rfl ?_
       show G _ _ _ _ [_, _, _, _, _, _, _, _, _, _, _, _, _, _, _, _, _, _, _, _, _, _, _, _, _, _, _, _, _, _, _, _, _] _
       exact hk _ _ ⟨O, (by simp only [u0_, u1_, u2_, u3_, u4_, u5_, u6_, u7_, u8_, u9_, u10_, u11_, u12_, u13_, u14_, u15_, q2_, q3_, q4_, q5_, q6_, q12_, q13_, q14_, q15_, cnd_t, cnd_f, Asc_t, Asc_f]), hs.cast (by first | rfl | simp only [List.take, List.drop, List.cons_append, List.nil_append, List.set_cons_zero, List.set_cons_succ, List.eraseIdx, u0_, u1_, u2_, u3_, u4_, u5_, u6_, u7_, u8_, u9_, u10_, u11_, u12_, u13_, u14_, u15_, q2_, q3_, q4_, q5_, q6_, q12_, q13_, q14_, q15_, cnd_t, cnd_f, Asc_t, Asc_f])⟩
      ·
       intro D t w hD hp hcl hI rest hk
       obtain ⟨O, ht, hs⟩ := hI
       obtain ⟨p1_, _⟩ := hp
       have q3_ : D 3 = false := not_yet (hcl.get 3 (by decide)) 0 2 rfl hD
       have q4_ : D 4 = false := not_yet (hcl.get 4 (by decide)) 0 3 rfl q3_
       have q5_ : D 5 = false := not_yet (hcl.get 5 (by decide)) 0 4 rfl q4_
       have q6_ : D 6 = false := not_yet (hcl.get 6 (by decide)) 0 5 rfl q5_
       have q12_ : D 12 = false := not_yet (hcl.get 12 (by decide)) 1 5 rfl q5_
       have q13_ : D 13 = false := not_yet (hcl.get 13 (by decide)) 0 6 rfl q6_
       have q14_ : D 14 = false := not_yet (hcl.get 14 (by decide)) 1 13 rfl q13_
       have q15_ : D 15 = false := not_yet (hcl.get 15 (by decide)) 0 14 rfl q14_
       have u0_ : upd D 2 0 = D 0 := rfl; have u1_ : upd D 2 1 = D 1 := rfl; have u2_ : upd D 2 2 = true := rfl; have u3_ : upd D 2 3 = D 3 := rfl; have u4_ : upd D 2 4 = D 4 := rfl; have u5_ : upd D 2 5 = D 5 := rfl; have u6_ : upd D 2 6 = D 6 := rfl; have u7_ : upd D 2 7 = D 7 := rfl; have u8_ : upd D 2 8 = D 8 := rfl; have u9_ : upd D 2 9 = D 9 := rfl; have u10_ : upd D 2 10 = D 10 := rfl; have u11_ : upd D 2 11 = D 11 := rfl; have u12_ : upd D 2 12 = D 12 := rfl; have u13_ : upd D 2 13 = D 13 := rfl; have u14_ : upd D 2 14 = D 14 := rfl; have u15_ : upd D 2 15 = D 15 := rfl
       simp only [hD, p1_, q3_, q4_, q5_, q6_, q12_, q13_, q14_, q15_, cnd_t, cnd_f, Asc_t, Asc_f] at ht hs
       subst ht
       refine s_idxA (n := x7) (m := 1) rfl (fun _ => rfl) gd2.1 gd2.2 rfl rfl rfl rfl rfl ?_
       show G _ _ _ _ [_, _, _, _, _, _, _, _, _, _, _, _, _, _, _, _, _, _, _, _, _, _, _, _, _, _, _, _, _, _, _, _, _] _
       exact hk _ _ ⟨O, (by simp only [u0_, u1_, u2_, u3_, u4_, u5_, u6_, u7_, u8_, u9_, u10_, u11_, u12_, u13_, u14_, u15_, p1_, q3_, q4_, q5_, q6_, q12_, q13_, q14_, q15_, cnd_t, cnd_f, Asc_t, Asc_f]), hs.cast (by first | rfl | simp only [List.take, List.drop, List.cons_append, List.nil_append, List.set_cons_zero, List.set_cons_succ, List.eraseIdx, u0_, u1_, u2_, u3_, u4_, u5_, u6_, u7_, u8_, u9_, u10_, u11_, u12_, u13_, u14_, u15_, p1_, q3_, q4_, q5_, q6_, q12_, q13_, q14_, q15_, cnd_t, cnd_f, Asc_t, Asc_f])⟩
      ·
       intro D t w hD hp hcl hI rest hk
       obtain ⟨O, ht, hs⟩ := hI
       obtain ⟨p2_, _⟩ := hp
       obtain ⟨p1_, _⟩ := (hcl.get 2 (by decide)) p2_
       have q4_ : D 4 = false := not_yet (hcl.get 4 (by decide)) 0 3 rfl hD
       have q5_ : D 5 = false := not_yet (hcl.get 5 (by decide)) 0 4 rfl q4_
       have q6_ : D 6 = false := not_yet (hcl.get 6 (by decide)) 0 5 rfl q5_
       have q12_ : D 12 = false := not_yet (hcl.get 12 (by decide)) 1 5 rfl q5_
       have q13_ : D 13 = false := not_yet (hcl.get 13 (by decide)) 0 6 rfl q6_
       have q14_ : D 14 = false := not_yet (hcl.get 14 (by decide)) 1 13 rfl q13_
       have q15_ : D 15 = false := not_yet (hcl.get 15 (by decide)) 0 14 rfl q14_
       have u0_ : upd D 3 0 = D 0 := rfl; have u1_ : upd D 3 1 = D 1 := rfl; have u2_ : upd D 3 2 = D 2 := rfl; have u3_ : upd D 3 3 = true := rfl; have u4_ : upd D 3 4 = D 4 := rfl; have u5_ : upd D 3 5 = D 5 := rfl; have u6_ : upd D 3 6 = D 6 := rfl; have u7_ : upd D 3 7 = D 7 := rfl; have u8_ : upd D 3 8 = D 8 := rfl; have u9_ : upd D 3 9 = D 9 := rfl; have u10_ : upd D 3 10 = D 10 := rfl; have u11_ : upd D 3 11 = D 11 := rfl; have u12_ : upd D 3 12 = D 12 := rfl; have u13_ : upd D 3 13 = D 13 := rfl; have u14_ : upd D 3 14 = D 14 := rfl; have u15_ : upd D 3 15 = D 15 := rfl
       simp only [hD, p1_, p2_, q4_, q5_, q6_, q12_, q13_, q14_, q15_, cnd_t, cnd_f, Asc_t, Asc_f] at ht hs
       subst ht
       refine s_load1 rfl rfl (v := Value.int .i16 (a3.get x7 0)) rfl rfl (fun _ => rfl) (by rw [Nat.zero_add]; exact cells_load (hs.cells 0 rfl) _ _ (encA_at (fkI .i16).len _ _ 0 gd2.1 gd2.2)) ?_
       show G _ _ _ _ [_, _, _, _, _, _, _, _, _, _, _, _, _, _, _, _, _, _, _, _, _, _, _, _, _, _, _, _, _, _, _, _, _] _
       exact hk _ _ ⟨O, (by simp only [u0_, u1_, u2_, u3_, u4_, u5_, u6_, u7_, u8_, u9_, u10_, u11_, u12_, u13_, u14_, u15_, p1_, p2_, q4_, q5_, q6_, q12_, q13_, q14_, q15_, cnd_t, cnd_f, Asc_t, Asc_f]), hs.cast (by first | rfl | simp only [List.take, List.drop, List.cons_append, List.nil_append, List.set_cons_zero, List.set_cons_succ, List.eraseIdx, u0_, u1_, u2_, u3_, u4_, u5_, u6_, u7_, u8_, u9_, u10_, u11_, u12_, u13_, u14_, u15_, p1_, p2_, q4_, q5_, q6_, q12_, q13_, q14_, q15_, cnd_t, cnd_f, Asc_t, Asc_f])⟩
      ·
       intro D t w hD hp hcl hI rest hk
       obtain ⟨O, ht, hs⟩ := hI
       obtain ⟨p3_, _⟩ := hp
       obtain ⟨p2_, _⟩ := (hcl.get 3 (by decide)) p3_
       obtain ⟨p1_, _⟩ := (hcl.get 2 (by decide)) p2_
       have q5_ : D 5 = false := not_yet (hcl.get 5 (by decide)) 0 4 rfl hD
       have q6_ : D 6 = false := not_yet (hcl.get 6 (by decide)) 0 5 rfl q5_
       have q12_ : D 12 = false := not_yet (hcl.get 12 (by decide)) 1 5 rfl q5_
       have q13_ : D 13 = false := not_yet (hcl.get 13 (by decide)) 0 6 rfl q6_
       have q14_ : D 14 = false := not_yet (hcl.get 14 (by decide)) 1 13 rfl q13_
       have q15_ : D 15 = false := not_yet (hcl.get 15 (by decide)) 0 14 rfl q14_
       have u0_ : upd D 4 0 = D 0 := rfl; have u1_ : upd D 4 1 = D 1 := rfl; have u2_ : upd D 4 2 = D 2 := rfl; have u3_ : upd D 4 3 = D 3 := rfl; have u4_ : upd D 4 4 = true := rfl; have u5_ : upd D 4 5 = D 5 := rfl; have u6_ : upd D 4 6 = D 6 := rfl; have u7_ : upd D 4 7 = D 7 := rfl; have u8_ : upd D 4 8 = D 8 := rfl; have u9_ : upd D 4 9 = D 9 := rfl; have u10_ : upd D 4 10 = D 10 := rfl; have u11_ : upd D 4 11 = D 11 := rfl; have u12_ : upd D 4 12 = D 12 := rfl; have u13_ : upd D 4 13 = D 13 := rfl; have u14_ : upd D 4 14 = D 14 := rfl; have u15_ : upd D 4 15 = D 15 := rfl
       simp only [hD, p1_, p2_, p3_, q5_, q6_, q12_, q13_, q14_, q15_, cnd_t, cnd_f, Asc_t, Asc_f] at ht hs
       subst ht
       refine g_op (v := Value.int .i64 (i64w (a3.get x7 0))) rfl rfl rfl ?_
       show G _ _ _ _ [_, _, _, _, _, _, _, _, _, _, _, _, _, _, _, _, _, _, _, _, _, _, _, _, _, _, _, _, _, _, _, _, _] _
       exact hk _ _ ⟨O, (by simp only [u0_, u1_, u2_, u3_, u4_, u5_, u6_, u7_, u8_, u9_, u10_, u11_, u12_, u13_, u14_, u15_, p1_, p2_, p3_, q5_, q6_, q12_, q13_, q14_, q15_, cnd_t, cnd_f, Asc_t, Asc_f]), hs.cast (by first | rfl | simp only [List.take, List.drop, List.cons_append, List.nil_append, List.set_cons_zero, List.set_cons_succ, List.eraseIdx, u0_, u1_, u2_, u3_, u4_, u5_, u6_, u7_, u8_, u9_, u10_, u11_, u12_, u13_, u14_, u15_, p1_, p2_, p3_, q5_, q6_, q12_, q13_, q14_, q15_, cnd_t, cnd_f, Asc_t, Asc_f])⟩
      ·
       intro D t w hD hp hcl hI rest hk
       obtain ⟨O, ht, hs⟩ := hI
       obtain ⟨p4_, _⟩ := hp
       obtain ⟨p3_, _⟩ := (hcl.get 4 (by decide)) p4_
       obtain ⟨p2_, _⟩ := (hcl.get 3 (by decide)) p3_
       obtain ⟨p1_, _⟩ := (hcl.get 2 (by decide)) p2_
       have q6_ : D 6 = false := not_yet (hcl.get 6 (by decide)) 0 5 rfl hD
       have q12_ : D 12 = false := not_yet (hcl.get 12 (by decide)) 1 5 rfl hD
       have q13_ : D 13 = false := not_yet (hcl.get 13 (by decide)) 0 6 rfl q6_
       have q14_ : D 14 = false := not_yet (hcl.get 14 (by decide)) 1 13 rfl q13_
       have q15_ : D 15 = false := not_yet (hcl.get 15 (by decide)) 0 14 rfl q14_
       have u0_ : upd D 5 0 = D 0 := rfl; have u1_ : upd D 5 1 = D 1 := rfl; have u2_ : upd D 5 2 = D 2 := rfl; have u3_ : upd D 5 3 = D 3 := rfl; have u4_ : upd D 5 4 = D 4 := rfl; have u5_ : upd D 5 5 = true := rfl; have u6_ : upd D 5 6 = D 6 := rfl; have u7_ : upd D 5 7 = D 7 := rfl; have u8_ : upd D 5 8 = D 8 := rfl; have u9_ : upd D 5 9 = D 9 := rfl; have u10_ : upd D 5 10 = D 10 := rfl; have u11_ : upd D 5 11 = D 11 := rfl; have u12_ : upd D 5 12 = D 12 := rfl; have u13_ : upd D 5 13 = D 13 := rfl; have u14_ : upd D 5 14 = D 14 := rfl; have u15_ : upd D 5 15 = D 15 := rfl
       simp only [hD, p1_, p2_, p3_, p4_, q6_, q12_, q13_, q14_, q15_, cnd_t, cnd_f, Asc_t, Asc_f] at ht hs
       subst ht
       refine s_call (args := [Value.int .i64 (i64w (a3.get x7 0))]) rfl rfl (x_call rfl (callFunc_enter Tryd.func38 rfl rfl) rfl) (spec_Decimal.calls (a1 := i64w (a3.get x7 0)) Hr9) ?_
       rintro _ w ⟨rfl, hs2⟩
       have hs : St _ [_] _ := hs.call hs2
       show G _ _ _ _ [_, _, _, _, _, _, _, _, _, _, _, _, _, _, _, _, _, _, _, _, _, _, _, _, _, _, _, _, _, _, _, _, _] _
       exact hk _ _ ⟨O, (by simp only [u0_, u1_, u2_, u3_, u4_, u5_, u6_, u7_, u8_, u9_, u10_, u11_, u12_, u13_, u14_, u15_, p1_, p2_, p3_, p4_, q6_, q12_, q13_, q14_, q15_, cnd_t, cnd_f, Asc_t, Asc_f]), hs.cast (by first | rfl | simp only [List.take, List.drop, List.cons_append, List.nil_append, List.set_cons_zero, List.set_cons_succ, List.eraseIdx, u0_, u1_, u2_, u3_, u4_, u5_, u6_, u7_, u8_, u9_, u10_, u11_, u12_, u13_, u14_, u15_, p1_, p2_, p3_, p4_, q6_, q12_, q13_, q14_, q15_, cnd_t, cnd_f, Asc_t, Asc_f])⟩
      ·
       intro D t w hD hp hcl hI rest hk
       obtain ⟨O, ht, hs⟩ := hI
       obtain ⟨p5_, _⟩ := hp
       obtain ⟨p4_, _⟩ := (hcl.get 5 (by decide)) p5_
       obtain ⟨p3_, _⟩ := (hcl.get 4 (by decide)) p4_
       obtain ⟨p2_, _⟩ := (hcl.get 3 (by decide)) p3_
       obtain ⟨p1_, _⟩ := (hcl.get 2 (by decide)) p2_
       have q13_ : D 13 = false := not_yet (hcl.get 13 (by decide)) 0 6 rfl hD
       have q14_ : D 14 = false := not_yet (hcl.get 14 (by decide)) 1 13 rfl q13_
       have q15_ : D 15 = false := not_yet (hcl.get 15 (by decide)) 0 14 rfl q14_
       have u0_ : upd D 6 0 = D 0 := rfl; have u1_ : upd D 6 1 = D 1 := rfl; have u2_ : upd D 6 2 = D 2 := rfl; have u3_ : upd D 6 3 = D 3 := rfl; have u4_ : upd D 6 4 = D 4 := rfl; have u5_ : upd D 6 5 = D 5 := rfl; have u6_ : upd D 6 6 = true := rfl; have u7_ : upd D 6 7 = D 7 := rfl; have u8_ : upd D 6 8 = D 8 := rfl; have u9_ : upd D 6 9 = D 9 := rfl; have u10_ : upd D 6 10 = D 10 := rfl; have u11_ : upd D 6 11 = D 11 := rfl; have u12_ : upd D 6 12 = D 12 := rfl; have u13_ : upd D 6 13 = D 13 := rfl; have u14_ : upd D 6 14 = D 14 := rfl; have u15_ : upd D 6 15 = D 15 := rfl
       simp only [hD, p1_, p2_, p3_, p4_, p5_, q13_, q14_, q15_, cnd_t, cnd_f, Asc_t, Asc_f] at ht hs
       subst ht
       refine g_op (v := Value.string (r9 ++ (⟨#[47]⟩ : ByteArray))) rfl rfl (x_cat rfl rfl rfl gs3) ?_
       show G _ _ _ _ [_, _, _, _, _, _, _, _, _, _, _, _, _, _, _, _, _, _, _, _, _, _, _, _, _, _, _, _, _, _, _, _, _] _
       exact hk _ _ ⟨O, (by simp only [u0_, u1_, u2_, u3_, u4_, u5_, u6_, u7_, u8_, u9_, u10_, u11_, u12_, u13_, u14_, u15_, p1_, p2_, p3_, p4_, p5_, q13_, q14_, q15_, cnd_t, cnd_f, Asc_t, Asc_f]), hs.cast (by first | rfl | simp only [List.take, List.drop, List.cons_append, List.nil_append, List.set_cons_zero, List.set_cons_succ, List.eraseIdx, u0_, u1_, u2_, u3_, u4_, u5_, u6_, u7_, u8_, u9_, u10_, u11_, u12_, u13_, u14_, u15_, p1_, p2_, p3_, p4_, p5_, q13_, q14_, q15_, cnd_t, cnd_f, Asc_t, Asc_f])⟩
      ·
       intro D t w hD hp hcl hI rest hk
       obtain ⟨O, ht, hs⟩ := hI
       have q9_ : D 9 = false := not_yet (hcl.get 9 (by decide)) 0 7 rfl hD
       have q10_ : D 10 = false := not_yet (hcl.get 10 (by decide)) 0 9 rfl q9_
       have q11_ : D 11 = false := not_yet (hcl.get 11 (by decide)) 0 10 rfl q10_
       have q12_ : D 12 = false := not_yet (hcl.get 12 (by decide)) 0 11 rfl q11_
       have q13_ : D 13 = false := not_yet (hcl.get 13 (by decide)) 1 12 rfl q12_
       have q14_ : D 14 = false := not_yet (hcl.get 14 (by decide)) 1 13 rfl q13_
       have q15_ : D 15 = false := not_yet (hcl.get 15 (by decide)) 0 14 rfl q14_
       have u0_ : upd D 7 0 = D 0 := rfl; have u1_ : upd D 7 1 = D 1 := rfl; have u2_ : upd D 7 2 = D 2 := rfl; have u3_ : upd D 7 3 = D 3 := rfl; have u4_ : upd D 7 4 = D 4 := rfl; have u5_ : upd D 7 5 = D 5 := rfl; have u6_ : upd D 7 6 = D 6 := rfl; have u7_ : upd D 7 7 = true := rfl; have u8_ : upd D 7 8 = D 8 := rfl; have u9_ : upd D 7 9 = D 9 := rfl; have u10_ : upd D 7 10 = D 10 := rfl; have u11_ : upd D 7 11 = D 11 := rfl; have u12_ : upd D 7 12 = D 12 := rfl; have u13_ : upd D 7 13 = D 13 := rfl; have u14_ : upd D 7 14 = D 14 := rfl; have u15_ : upd D 7 15 = D 15 := rfl
       simp only [hD, q9_, q10_, q11_, q12_, q13_, q14_, q15_, cnd_t, cnd_f, Asc_t, Asc_f] at ht hs
       subst ht
       refine g_op (v := v2) rfl rfl rfl ?_
       show G _ _ _ _ [_, _, _, _, _, _, _, _, _, _, _, _, _, _, _, _, _, _, _, _, _, _, _, _, _, _, _, _, _, _, _, _, _] _
       exact hk _ _ ⟨O, (by simp only [u0_, u1_, u2_, u3_, u4_, u5_, u6_, u7_, u8_, u9_, u10_, u11_, u12_, u13_, u14_, u15_, q9_, q10_, q11_, q12_, q13_, q14_, q15_, cnd_t, cnd_f, Asc_t, Asc_f]), hs.cast (by first | rfl | simp only [List.take, List.drop, List.cons_append, List.nil_append, List.set_cons_zero, List.set_cons_succ, List.eraseIdx, u0_, u1_, u2_, u3_, u4_, u5_, u6_, u7_, u8_, u9_, u10_, u11_, u12_, u13_, u14_, u15_, q9_, q10_, q11_, q12_, q13_, q14_, q15_, cnd_t, cnd_f, Asc_t, Asc_f])⟩
      ·
       intro D t w hD hp hcl hI rest hk
       obtain ⟨O, ht, hs⟩ := hI
       have q9_ : D 9 = false := not_yet (hcl.get 9 (by decide)) 1 8 rfl hD
       have q10_ : D 10 = false := not_yet (hcl.get 10 (by decide)) 0 9 rfl q9_
       have q11_ : D 11 = false := not_yet (hcl.get 11 (by decide)) 0 10 rfl q10_
       have q12_ : D 12 = false := not_yet (hcl.get 12 (by decide)) 0 11 rfl q11_
       have q13_ : D 13 = false := not_yet (hcl.get 13 (by decide)) 1 12 rfl q12_
       have q14_ : D 14 = false := not_yet (hcl.get 14 (by decide)) 1 13 rfl q13_
       have q15_ : D 15 = false := not_yet (hcl.get 15 (by decide)) 0 14 rfl q14_
       have u0_ : upd D 8 0 = D 0 := rfl; have u1_ : upd D 8 1 = D 1 := rfl; have u2_ : upd D 8 2 = D 2 := rfl; have u3_ : upd D 8 3 = D 3 := rfl; have u4_ : upd D 8 4 = D 4 := rfl; have u5_ : upd D 8 5 = D 5 := rfl; have u6_ : upd D 8 6 = D 6 := rfl; have u7_ : upd D 8 7 = D 7 := rfl; have u8_ : upd D 8 8 = true := rfl; have u9_ : upd D 8 9 = D 9 := rfl; have u10_ : upd D 8 10 = D 10 := rfl; have u11_ : upd D 8 11 = D 11 := rfl; have u12_ : upd D 8 12 = D 12 := rfl; have u13_ : upd D 8 13 = D 13 := rfl; have u14_ : upd D 8 14 = D 14 := rfl; have u15_ : upd D 8 15 = D 15 := rfl
       simp only [hD, q9_, q10_, q11_, q12_, q13_, q14_, q15_, cnd_t, cnd_f, Asc_t, Asc_f] at ht hs
       subst ht
       refine g_op (v := Value.int .i64 x7) rfl rfl rfl ?_
       show G _ _ _ _ [_, _, _, _, _, _, _, _, _, _, _, _, _, _, _, _, _, _, _, _, _, _, _, _, _, _, _, _, _, _, _, _, _] _
       exact hk _ _ ⟨O, (by simp only [u0_, u1_, u2_, u3_, u4_, u5_, u6_, u7_, u8_, u9_, u10_, u11_, u12_, u13_, u14_, u15_, q9_, q10_, q11_, q12_, q13_, q14_, q15_, cnd_t, cnd_f, Asc_t, Asc_f]), hs.cast (by first | rfl | simp only [List.take, List.drop, List.cons_append, List.nil_append, List.set_cons_zero, List.set_cons_succ, List.eraseIdx, u0_, u1_, u2_, u3_, u4_, u5_, u6_, u7_, u8_, u9_, u10_, u11_, u12_, u13_, u14_, u15_, q9_, q10_, q11_, q12_, q13_, q14_, q15_, cnd_t, cnd_f, Asc_t, Asc_f])⟩
      ·
       intro D t w hD hp hcl hI rest hk
       obtain ⟨O, ht, hs⟩ := hI
       obtain ⟨p7_, p8_, _⟩ := hp
       have q10_ : D 10 = false := not_yet (hcl.get 10 (by decide)) 0 9 rfl hD
       have q11_ : D 11 = false := not_yet (hcl.get 11 (by decide)) 0 10 rfl q10_
       have q12_ : D 12 = false := not_yet (hcl.get 12 (by decide)) 0 11 rfl q11_
       have q13_ : D 13 = false := not_yet (hcl.get 13 (by decide)) 1 12 rfl q12_
       have q14_ : D 14 = false := not_yet (hcl.get 14 (by decide)) 1 13 rfl q13_
       have q15_ : D 15 = false := not_yet (hcl.get 15 (by decide)) 0 14 rfl q14_
       have u0_ : upd D 9 0 = D 0 := rfl; have u1_ : upd D 9 1 = D 1 := rfl; have u2_ : upd D 9 2 = D 2 := rfl; have u3_ : upd D 9 3 = D 3 := rfl; have u4_ : upd D 9 4 = D 4 := rfl; have u5_ : upd D 9 5 = D 5 := rfl; have u6_ : upd D 9 6 = D 6 := rfl; have u7_ : upd D 9 7 = D 7 := rfl; have u8_ : upd D 9 8 = D 8 := rfl; have u9_ : upd D 9 9 = true := rfl; have u10_ : upd D 9 10 = D 10 := rfl; have u11_ : upd D 9 11 = D 11 := rfl; have u12_ : upd D 9 12 = D 12 := rfl; have u13_ : upd D 9 13 = D 13 := rfl; have u14_ : upd D 9 14 = D 14 := rfl; have u15_ : upd D 9 15 = D 15 := rfl
       simp only [hD, p7_, p8_, q10_, q11_, q12_, q13_, q14_, q15_, cnd_t, cnd_f, Asc_t, Asc_f] at ht hs
       subst ht
       refine s_idxD (κ := (K.int .i16)) (m := 1) rfl (hs.rd hr0) rfl (fun _ => rfl) gd4.1 gd4.2 had5_ rfl rfl rfl rfl rfl ?_
       show G _ _ _ _ [_, _, _, _, _, _, _, _, _, _, _, _, _, _, _, _, _, _, _, _, _, _, _, _, _, _, _, _, _, _, _, _, _] _
       exact hk _ _ ⟨O, (by simp only [u0_, u1_, u2_, u3_, u4_, u5_, u6_, u7_, u8_, u9_, u10_, u11_, u12_, u13_, u14_, u15_, p7_, p8_, q10_, q11_, q12_, q13_, q14_, q15_, cnd_t, cnd_f, Asc_t, Asc_f]), hs.cast (by first | rfl | simp only [List.take, List.drop, List.cons_append, List.nil_append, List.set_cons_zero, List.set_cons_succ, List.eraseIdx, u0_, u1_, u2_, u3_, u4_, u5_, u6_, u7_, u8_, u9_, u10_, u11_, u12_, u13_, u14_, u15_, p7_, p8_, q10_, q11_, q12_, q13_, q14_, q15_, cnd_t, cnd_f, Asc_t, Asc_f])⟩
      ·
       intro D t w hD hp hcl hI rest hk
       obtain ⟨O, ht, hs⟩ := hI
       obtain ⟨p9_, _⟩ := hp
       obtain ⟨p7_, p8_, _⟩ := (hcl.get 9 (by decide)) p9_
       have q11_ : D 11 = false := not_yet (hcl.get 11 (by decide)) 0 10 rfl hD
       have q12_ : D 12 = false := not_yet (hcl.get 12 (by decide)) 0 11 rfl q11_
       have q13_ : D 13 = false := not_yet (hcl.get 13 (by decide)) 1 12 rfl q12_
       have q14_ : D 14 = false := not_yet (hcl.get 14 (by decide)) 1 13 rfl q13_
       have q15_ : D 15 = false := not_yet (hcl.get 15 (by decide)) 0 14 rfl q14_
       have u0_ : upd D 10 0 = D 0 := rfl; have u1_ : upd D 10 1 = D 1 := rfl; have u2_ : upd D 10 2 = D 2 := rfl; have u3_ : upd D 10 3 = D 3 := rfl; have u4_ : upd D 10 4 = D 4 := rfl; have u5_ : upd D 10 5 = D 5 := rfl; have u6_ : upd D 10 6 = D 6 := rfl; have u7_ : upd D 10 7 = D 7 := rfl; have u8_ : upd D 10 8 = D 8 := rfl; have u9_ : upd D 10 9 = D 9 := rfl; have u10_ : upd D 10 10 = true := rfl; have u11_ : upd D 10 11 = D 11 := rfl; have u12_ : upd D 10 12 = D 12 := rfl; have u13_ : upd D 10 13 = D 13 := rfl; have u14_ : upd D 10 14 = D 14 := rfl; have u15_ : upd D 10 15 = D 15 := rfl
       simp only [hD, p7_, p8_, p9_, q11_, q12_, q13_, q14_, q15_, cnd_t, cnd_f, Asc_t, Asc_f] at ht hs
       subst ht
       refine s_load1 rfl rfl (v := Value.int .i16 (rdL a1 x7 0)) rfl rfl (fun _ => rfl) (cellsAt_of (fkI .i16) 0 (hs.rd hr0) had5_ gd4.1 gd4.2) ?_
       show G _ _ _ _ [_, _, _, _, _, _, _, _, _, _, _, _, _, _, _, _, _, _, _, _, _, _, _, _, _, _, _, _, _, _, _, _, _] _
       exact hk _ _ ⟨O, (by simp only [u0_, u1_, u2_, u3_, u4_, u5_, u6_, u7_, u8_, u9_, u10_, u11_, u12_, u13_, u14_, u15_, p7_, p8_, p9_, q11_, q12_, q13_, q14_, q15_, cnd_t, cnd_f, Asc_t, Asc_f]), hs.cast (by first | rfl | simp only [List.take, List.drop, List.cons_append, List.nil_append, List.set_cons_zero, List.set_cons_succ, List.eraseIdx, u0_, u1_, u2_, u3_, u4_, u5_, u6_, u7_, u8_, u9_, u10_, u11_, u12_, u13_, u14_, u15_, p7_, p8_, p9_, q11_, q12_, q13_, q14_, q15_, cnd_t, cnd_f, Asc_t, Asc_f])⟩
      ·
       intro D t w hD hp hcl hI rest hk
       obtain ⟨O, ht, hs⟩ := hI
       obtain ⟨p10_, _⟩ := hp
       obtain ⟨p9_, _⟩ := (hcl.get 10 (by decide)) p10_
       obtain ⟨p7_, p8_, _⟩ := (hcl.get 9 (by decide)) p9_
       have q12_ : D 12 = false := not_yet (hcl.get 12 (by decide)) 0 11 rfl hD
       have q13_ : D 13 = false := not_yet (hcl.get 13 (by decide)) 1 12 rfl q12_
       have q14_ : D 14 = false := not_yet (hcl.get 14 (by decide)) 1 13 rfl q13_
       have q15_ : D 15 = false := not_yet (hcl.get 15 (by decide)) 0 14 rfl q14_
       have u0_ : upd D 11 0 = D 0 := rfl; have u1_ : upd D 11 1 = D 1 := rfl; have u2_ : upd D 11 2 = D 2 := rfl; have u3_ : upd D 11 3 = D 3 := rfl; have u4_ : upd D 11 4 = D 4 := rfl; have u5_ : upd D 11 5 = D 5 := rfl; have u6_ : upd D 11 6 = D 6 := rfl; have u7_ : upd D 11 7 = D 7 := rfl; have u8_ : upd D 11 8 = D 8 := rfl; have u9_ : upd D 11 9 = D 9 := rfl; have u10_ : upd D 11 10 = D 10 := rfl; have u11_ : upd D 11 11 = true := rfl; have u12_ : upd D 11 12 = D 12 := rfl; have u13_ : upd D 11 13 = D 13 := rfl; have u14_ : upd D 11 14 = D 14 := rfl; have u15_ : upd D 11 15 = D 15 := rfl
       simp only [hD, p7_, p8_, p9_, p10_, q12_, q13_, q14_, q15_, cnd_t, cnd_f, Asc_t, Asc_f] at ht hs
       subst ht
       refine g_op (v := Value.int .i64 (i64w (rdL a1 x7 0))) rfl rfl rfl ?_
       show G _ _ _ _ [_, _, _, _, _, _, _, _, _, _, _, _, _, _, _, _, _, _, _, _, _, _, _, _, _, _, _, _, _, _, _, _, _] _
       exact hk _ _ ⟨O, (by simp only [u0_, u1_, u2_, u3_, u4_, u5_, u6_, u7_, u8_, u9_, u10_, u11_, u12_, u13_, u14_, u15_, p7_, p8_, p9_, p10_, q12_, q13_, q14_, q15_, cnd_t, cnd_f, Asc_t, Asc_f]), hs.cast (by first | rfl | simp only [List.take, List.drop, List.cons_append, List.nil_append, List.set_cons_zero, List.set_cons_succ, List.eraseIdx, u0_, u1_, u2_, u3_, u4_, u5_, u6_, u7_, u8_, u9_, u10_, u11_, u12_, u13_, u14_, u15_, p7_, p8_, p9_, p10_, q12_, q13_, q14_, q15_, cnd_t, cnd_f, Asc_t, Asc_f])⟩
      ·
       intro D t w hD hp hcl hI rest hk
       obtain ⟨O, ht, hs⟩ := hI
       obtain ⟨p11_, p5_, _⟩ := hp
       obtain ⟨p10_, _⟩ := (hcl.get 11 (by decide)) p11_
       obtain ⟨p9_, _⟩ := (hcl.get 10 (by decide)) p10_
       obtain ⟨p7_, p8_, _⟩ := (hcl.get 9 (by decide)) p9_
       obtain ⟨p4_, _⟩ := (hcl.get 5 (by decide)) p5_
       obtain ⟨p3_, _⟩ := (hcl.get 4 (by decide)) p4_
       obtain ⟨p2_, _⟩ := (hcl.get 3 (by decide)) p3_
       obtain ⟨p1_, _⟩ := (hcl.get 2 (by decide)) p2_
       have q13_ : D 13 = false := not_yet (hcl.get 13 (by decide)) 1 12 rfl hD
       have q14_ : D 14 = false := not_yet (hcl.get 14 (by decide)) 1 13 rfl q13_
       have q15_ : D 15 = false := not_yet (hcl.get 15 (by decide)) 0 14 rfl q14_
       have u0_ : upd D 12 0 = D 0 := rfl; have u1_ : upd D 12 1 = D 1 := rfl; have u2_ : upd D 12 2 = D 2 := rfl; have u3_ : upd D 12 3 = D 3 := rfl; have u4_ : upd D 12 4 = D 4 := rfl; have u5_ : upd D 12 5 = D 5 := rfl; have u6_ : upd D 12 6 = D 6 := rfl; have u7_ : upd D 12 7 = D 7 := rfl; have u8_ : upd D 12 8 = D 8 := rfl; have u9_ : upd D 12 9 = D 9 := rfl; have u10_ : upd D 12 10 = D 10 := rfl; have u11_ : upd D 12 11 = D 11 := rfl; have u12_ : upd D 12 12 = true := rfl; have u13_ : upd D 12 13 = D 13 := rfl; have u14_ : upd D 12 14 = D 14 := rfl; have u15_ : upd D 12 15 = D 15 := rfl
       simp only [hD, p1_, p2_, p3_, p4_, p5_, p7_, p8_, p9_, p10_, p11_, q13_, q14_, q15_, cnd_t, cnd_f, Asc_t, Asc_f] at ht hs
       subst ht
       refine s_call (args := [Value.int .i64 (i64w (rdL a1 x7 0))]) rfl rfl (x_call rfl (callFunc_enter Tryd.func38 rfl rfl) rfl) (spec_Decimal.calls (a1 := i64w (rdL a1 x7 0)) Hr10) ?_
       rintro _ w ⟨rfl, hs2⟩
       have hs : St _ [_] _ := hs.call hs2
       show G _ _ _ _ [_, _, _, _, _, _, _, _, _, _, _, _, _, _, _, _, _, _, _, _, _, _, _, _, _, _, _, _, _, _, _, _, _] _
       exact hk _ _ ⟨O, (by simp only [u0_, u1_, u2_, u3_, u4_, u5_, u6_, u7_, u8_, u9_, u10_, u11_, u12_, u13_, u14_, u15_, p1_, p2_, p3_, p4_, p5_, p7_, p8_, p9_, p10_, p11_, q13_, q14_, q15_, cnd_t, cnd_f, Asc_t, Asc_f]), hs.cast (by first | rfl | simp only [List.take, List.drop, List.cons_append, List.nil_append, List.set_cons_zero, List.set_cons_succ, List.eraseIdx, u0_, u1_, u2_, u3_, u4_, u5_, u6_, u7_, u8_, u9_, u10_, u11_, u12_, u13_, u14_, u15_, p1_, p2_, p3_, p4_, p5_, p7_, p8_, p9_, p10_, p11_, q13_, q14_, q15_, cnd_t, cnd_f, Asc_t, Asc_f])⟩
      ·
       intro D t w hD hp hcl hI rest hk
       obtain ⟨O, ht, hs⟩ := hI
       obtain ⟨p6_, p12_, _⟩ := hp
       obtain ⟨p11_, p5_, _⟩ := (hcl.get 12 (by decide)) p12_
       obtain ⟨p10_, _⟩ := (hcl.get 11 (by decide)) p11_
       obtain ⟨p9_, _⟩ := (hcl.get 10 (by decide)) p10_
       obtain ⟨p7_, p8_, _⟩ := (hcl.get 9 (by decide)) p9_
       obtain ⟨p4_, _⟩ := (hcl.get 5 (by decide)) p5_
       obtain ⟨p3_, _⟩ := (hcl.get 4 (by decide)) p4_
       obtain ⟨p2_, _⟩ := (hcl.get 3 (by decide)) p3_
       obtain ⟨p1_, _⟩ := (hcl.get 2 (by decide)) p2_
       have q14_ : D 14 = false := not_yet (hcl.get 14 (by decide)) 1 13 rfl hD
       have q15_ : D 15 = false := not_yet (hcl.get 15 (by decide)) 0 14 rfl q14_
       have u0_ : upd D 13 0 = D 0 := rfl; have u1_ : upd D 13 1 = D 1 := rfl; have u2_ : upd D 13 2 = D 2 := rfl; have u3_ : upd D 13 3 = D 3 := rfl; have u4_ : upd D 13 4 = D 4 := rfl; have u5_ : upd D 13 5 = D 5 := rfl; have u6_ : upd D 13 6 = D 6 := rfl; have u7_ : upd D 13 7 = D 7 := rfl; have u8_ : upd D 13 8 = D 8 := rfl; have u9_ : upd D 13 9 = D 9 := rfl; have u10_ : upd D 13 10 = D 10 := rfl; have u11_ : upd D 13 11 = D 11 := rfl; have u12_ : upd D 13 12 = D 12 := rfl; have u13_ : upd D 13 13 = true := rfl; have u14_ : upd D 13 14 = D 14 := rfl; have u15_ : upd D 13 15 = D 15 := rfl
       simp only [hD, p1_, p2_, p3_, p4_, p5_, p6_, p7_, p8_, p9_, p10_, p11_, p12_, q14_, q15_, cnd_t, cnd_f, Asc_t, Asc_f] at ht hs
       subst ht
       refine g_op (v := Value.string ((r9 ++ (⟨#[47]⟩ : ByteArray)) ++ r10)) rfl rfl (x_cat rfl rfl rfl gs6) ?_
       show G _ _ _ _ [_, _, _, _, _, _, _, _, _, _, _, _, _, _, _, _, _, _, _, _, _, _, _, _, _, _, _, _, _, _, _, _, _] _
       exact hk _ _ ⟨O, (by simp only [u0_, u1_, u2_, u3_, u4_, u5_, u6_, u7_, u8_, u9_, u10_, u11_, u12_, u13_, u14_, u15_, p1_, p2_, p3_, p4_, p5_, p6_, p7_, p8_, p9_, p10_, p11_, p12_, q14_, q15_, cnd_t, cnd_f, Asc_t, Asc_f]), hs.cast (by first | rfl | simp only [List.take, List.drop, List.cons_append, List.nil_append, List.set_cons_zero, List.set_cons_succ, List.eraseIdx, u0_, u1_, u2_, u3_, u4_, u5_, u6_, u7_, u8_, u9_, u10_, u11_, u12_, u13_, u14_, u15_, p1_, p2_, p3_, p4_, p5_, p6_, p7_, p8_, p9_, p10_, p11_, p12_, q14_, q15_, cnd_t, cnd_f, Asc_t, Asc_f])⟩
      ·
       intro D t w hD hp hcl hI rest hk
       obtain ⟨O, ht, hs⟩ := hI
       obtain ⟨p0_, p13_, _⟩ := hp
       obtain ⟨p6_, p12_, _⟩ := (hcl.get 13 (by decide)) p13_
       obtain ⟨p11_, p5_, _⟩ := (hcl.get 12 (by decide)) p12_
       obtain ⟨p10_, _⟩ := (hcl.get 11 (by decide)) p11_
       obtain ⟨p9_, _⟩ := (hcl.get 10 (by decide)) p10_
       obtain ⟨p7_, p8_, _⟩ := (hcl.get 9 (by decide)) p9_
       obtain ⟨p4_, _⟩ := (hcl.get 5 (by decide)) p5_
       obtain ⟨p3_, _⟩ := (hcl.get 4 (by decide)) p4_
       obtain ⟨p2_, _⟩ := (hcl.get 3 (by decide)) p3_
       obtain ⟨p1_, _⟩ := (hcl.get 2 (by decide)) p2_
       have q15_ : D 15 = false := not_yet (hcl.get 15 (by decide)) 0 14 rfl hD
       have u0_ : upd D 14 0 = D 0 := rfl; have u1_ : upd D 14 1 = D 1 := rfl; have u2_ : upd D 14 2 = D 2 := rfl; have u3_ : upd D 14 3 = D 3 := rfl; have u4_ : upd D 14 4 = D 4 := rfl; have u5_ : upd D 14 5 = D 5 := rfl; have u6_ : upd D 14 6 = D 6 := rfl; have u7_ : upd D 14 7 = D 7 := rfl; have u8_ : upd D 14 8 = D 8 := rfl; have u9_ : upd D 14 9 = D 9 := rfl; have u10_ : upd D 14 10 = D 10 := rfl; have u11_ : upd D 14 11 = D 11 := rfl; have u12_ : upd D 14 12 = D 12 := rfl; have u13_ : upd D 14 13 = D 13 := rfl; have u14_ : upd D 14 14 = true := rfl; have u15_ : upd D 14 15 = D 15 := rfl
       simp only [hD, p0_, p1_, p2_, p3_, p4_, p5_, p6_, p7_, p8_, p9_, p10_, p11_, p12_, p13_, q15_, cnd_t, cnd_f, Asc_t, Asc_f] at ht hs
       subst ht
       refine g_op (v := Value.string (x8 ++ ((r9 ++ (⟨#[47]⟩ : ByteArray)) ++ r10))) rfl rfl (x_cat rfl rfl rfl gs7) ?_
       show G _ _ _ _ [_, _, _, _, _, _, _, _, _, _, _, _, _, _, _, _, _, _, _, _, _, _, _, _, _, _, _, _, _, _, _, _, _] _
       exact hk _ _ ⟨O, (by simp only [u0_, u1_, u2_, u3_, u4_, u5_, u6_, u7_, u8_, u9_, u10_, u11_, u12_, u13_, u14_, u15_, p0_, p1_, p2_, p3_, p4_, p5_, p6_, p7_, p8_, p9_, p10_, p11_, p12_, p13_, q15_, cnd_t, cnd_f, Asc_t, Asc_f]), hs.cast (by first | rfl | simp only [List.take, List.drop, List.cons_append, List.nil_append, List.set_cons_zero, List.set_cons_succ, List.eraseIdx, u0_, u1_, u2_, u3_, u4_, u5_, u6_, u7_, u8_, u9_, u10_, u11_, u12_, u13_, u14_, u15_, p0_, p1_, p2_, p3_, p4_, p5_, p6_, p7_, p8_, p9_, p10_, p11_, p12_, p13_, q15_, cnd_t, cnd_f, Asc_t, Asc_f])⟩
      ·
       intro D t w hD hp hcl hI rest hk
       obtain ⟨O, ht, hs⟩ := hI
       obtain ⟨p14_, p12_, p0_, p1_, p2_, p3_, p4_, p5_, p6_, p7_, p8_, p9_, p10_, p11_, _, p13_, _, _⟩ := hp
       have u0_ : upd D 15 0 = D 0 := rfl; have u1_ : upd D 15 1 = D 1 := rfl; have u2_ : upd D 15 2 = D 2 := rfl; have u3_ : upd D 15 3 = D 3 := rfl; have u4_ : upd D 15 4 = D 4 := rfl; have u5_ : upd D 15 5 = D 5 := rfl; have u6_ : upd D 15 6 = D 6 := rfl; have u7_ : upd D 15 7 = D 7 := rfl; have u8_ : upd D 15 8 = D 8 := rfl; have u9_ : upd D 15 9 = D 9 := rfl; have u10_ : upd D 15 10 = D 10 := rfl; have u11_ : upd D 15 11 = D 11 := rfl; have u12_ : upd D 15 12 = D 12 := rfl; have u13_ : upd D 15 13 = D 13 := rfl; have u14_ : upd D 15 14 = D 14 := rfl; have u15_ : upd D 15 15 = true := rfl
       simp only [hD, p0_, p1_, p2_, p3_, p4_, p5_, p6_, p7_, p8_, p9_, p10_, p11_, p12_, p13_, p14_, cnd_t, cnd_f, Asc_t, Asc_f] at ht hs
       subst ht
       refine g_op (v := Value.string (x8 ++ ((r9 ++ (⟨#[47]⟩ : ByteArray)) ++ r10))) rfl rfl rfl ?_
       show G _ _ _ _ [_, _, _, _, _, _, _, _, _, _, _, _, _, _, _, _, _, _, _, _, _, _, _, _, _, _, _, _, _, _, _, _, _] _
       exact hk _ _ ⟨O, (by simp only [u0_, u1_, u2_, u3_, u4_, u5_, u6_, u7_, u8_, u9_, u10_, u11_, u12_, u13_, u14_, u15_, p0_, p1_, p2_, p3_, p4_, p5_, p6_, p7_, p8_, p9_, p10_, p11_, p12_, p13_, p14_, cnd_t, cnd_f, Asc_t, Asc_f]), hs.cast (by first | rfl | simp only [List.take, List.drop, List.cons_append, List.nil_append, List.set_cons_zero, List.set_cons_succ, List.eraseIdx, u0_, u1_, u2_, u3_, u4_, u5_, u6_, u7_, u8_, u9_, u10_, u11_, u12_, u13_, u14_, u15_, p0_, p1_, p2_, p3_, p4_, p5_, p6_, p7_, p8_, p9_, p10_, p11_, p12_, p13_, p14_, cnd_t, cnd_f, Asc_t, Asc_f])⟩
      ·
       intro D t w hall hI
       obtain ⟨O, ht, hs⟩ := hI
       have p0_ : D 0 = true := hall 0 (by decide)
       have p1_ : D 1 = true := hall 1 (by decide)
       have p2_ : D 2 = true := hall 2 (by decide)
       have p3_ : D 3 = true := hall 3 (by decide)
       have p4_ : D 4 = true := hall 4 (by decide)
       have p5_ : D 5 = true := hall 5 (by decide)
       have p6_ : D 6 = true := hall 6 (by decide)
       have p7_ : D 7 = true := hall 7 (by decide)
       have p8_ : D 8 = true := hall 8 (by decide)
       have p9_ : D 9 = true := hall 9 (by decide)
       have p10_ : D 10 = true := hall 10 (by decide)
       have p11_ : D 11 = true := hall 11 (by decide)
       have p12_ : D 12 = true := hall 12 (by decide)
       have p13_ : D 13 = true := hall 13 (by decide)
       have p14_ : D 14 = true := hall 14 (by decide)
       have p15_ : D 15 = true := hall 15 (by decide)
       simp only [p0_, p1_, p2_, p3_, p4_, p5_, p6_, p7_, p8_, p9_, p10_, p11_, p12_, p13_, p14_, p15_, cnd_t, cnd_f, Asc_t, Asc_f] at ht hs
       subst ht
       refine g_inBlock ?_
       refine g_region ?_
       show G _ _ _ (.inRegion _ [0, 1, 2] :: _) _ _
       refine g_op (v := Value.int .i64 x7) rfl rfl rfl ?_
       refine g_op (v := Value.int .i64 (i64w (x7 + 1))) rfl rfl rfl ?_
       show G _ _ _ _ [_, _, _, _, _, _, _, _, _, _, _, _, _, _, _, _, _, _, _, _, _, _, _, _, _, _, _, _, _, _, _, _, _] _
       refine g_op (v := Value.int .i64 (i64w (x7 + 1))) rfl rfl rfl ?_
       show G _ _ _ _ [_, _, _, _, _, _, _, _, _, _, _, _, _, _, _, _, _, _, _, _, _, _, _, _, _, _, _, _, _, _, _, _, _] _
       refine g_ops_nil ?_
       obtain rfl := Option.some.inj H
       have hs := hs.pull 0 rfl
       have hs : St _ [_] _ := St.take (Γ' := []) hs
       exact ih1_ _ _ ⟨x8 ++ ((r9 ++ (⟨#[47]⟩ : ByteArray)) ++ r10), i64w (x7 + 1), Hx1_, rfl, hs⟩
     ·
      intro ha
      refine g_region ?_
      show G _ _ _ (.inRegion _ [0, 1] :: _) _ _
      refine g_op (v := Value.int .i64 x7) rfl rfl rfl ?_
      refine g_op_b (B := decide (x7 > 0)) rfl rfl rfl ?_ ?_
      ·
       intro hb
       rw [if_pos (b_dec_t hb)] at H
       show G _ _ _ _ [_, _, _, _, _, _, _, _, _, _, _, _, _, _, _, _, _, _, _, _, _, _, _, _, _, _, _, _, _, _, _, _, _] _
       refine g_ops_nil ?_
       refine g_cond_true rfl ?_
       refine g_region ?_
       show G _ _ _ (.inRegion _ [0, 1, 2] :: _) _ _
       refine g_op (v := Value.string x6) rfl rfl rfl ?_
       obtain ⟨gs1, H⟩ := ite_get H
       refine g_op (v := Value.string (x6 ++ (⟨#[32]⟩ : ByteArray))) rfl rfl (x_cat rfl rfl rfl gs1) ?_
       show G _ _ _ _ [_, _, _, _, _, _, _, _, _, _, _, _, _, _, _, _, _, _, _, _, _, _, _, _, _, _, _, _, _, _, _, _, _] _
       refine g_op (v := Value.string (x6 ++ (⟨#[32]⟩ : ByteArray))) rfl rfl rfl ?_
       show G _ _ _ _ [_, _, _, _, _, _, _, _, _, _, _, _, _, _, _, _, _, _, _, _, _, _, _, _, _, _, _, _, _, _, _, _, _] _
       refine g_ops_nil ?_
       have hs := hs.pull 0 rfl
       have hs : St _ [_] _ := St.take (Γ' := []) hs
       exact ha _ _ ⟨x6 ++ (⟨#[32]⟩ : ByteArray), H, rfl, hs⟩
      ·
       intro hb
       rw [if_neg (b_dec_f hb)] at H
       show G _ _ _ _ [_, _, _, _, _, _, _, _, _, _, _, _, _, _, _, _, _, _, _, _, _, _, _, _, _, _, _, _, _, _, _, _, _] _
       refine g_ops_nil ?_
       refine g_cond_false rfl ?_
       refine g_skip ?_
       have hs := hs.pull 0 rfl
       have hs : St _ [_] _ := St.take (Γ' := []) hs
       exact ha _ _ ⟨x6, H, rfl, hs⟩
    ·
     intro hb
     rw [if_neg (b_dec_f hb)] at H
     show G _ _ _ _ [_, _, _, _, _, _, _, _, _, _, _, _, _, _, _, _, _, _, _, _, _, _, _, _, _, _, _, _, _, _, _, _, _] _
     refine g_ops_nil ?_
     refine g_cond_false rfl ?_
     obtain rfl := Option.some.inj H
     subst Hx1_
     have hs : St _ [] _ := St.take (Γ' := [_]) hs
     refine g_exit rfl ?_
     exact ha1_ _ _ ⟨x6, Hr1_, rfl, hs⟩

end Go.Proofs.YtffjpapmmiennaaDoorX
