/- Contracts, printed by gen.py. -/
import Derived.Test.YtgpdpedpmhonkaaXT
import Derived.Test.YtgpdpedpmhonkaaProg
import Derived.Test.YtgpdpedpmhonkaaXRowR
import Derived.Test.YtgpdpedpmhonkaaXSq
import Derived.Test.YtgpdpedpmhonkaaXSeg
import Derived.Test.YtgpdpedpmhonkaaXKey
import Derived.Test.YtgpdpedpmhonkaaXPart
namespace Go.Proofs.YtgpdpedpmhonkaaX
open Go Go.RowKit Go.Proofs
set_option linter.unusedVariables false
set_option linter.unusedSimpArgs false
/- function 33 _impl_Task_known -/
def _impl_Task_known.post (w0 : World) (r : (Ar (List Int) 4)) (v : Value) (w : World) : Prop := ∃ u1 : Value, ∃ u2 : Value, ∃ u3 : Value, ∃ u4 : Value, v = Value.agg (([u1, u2, u3, u4] : List Value)).toArray ∧ St w0 [Row 22 (K.int .i8) u1 (r.get 0 []), Row 22 (K.int .i8) u2 (r.get 1 []), Row 22 (K.int .i8) u3 (r.get 2 []), Row 22 (K.int .i8) u4 (r.get 3 [])] w
set_option maxHeartbeats 8000000 in
set_option maxRecDepth 100000 in
theorem _impl_Task_known.calls {N : Nat} {a1 : S_laws_Task} {w0 : World} {r : (Ar (List Int) 4)} (H : _impl_Task_known.f N a1 = some r) :
    Calls Try.prog 33 #[Value.agg (enc_S_laws_Task a1).toArray] w0 fun e w => ∃ v, e = .returned v ∧ _impl_Task_known.post w0 r v w := by
  unfold _impl_Task_known.f at H
  have hs : St w0 [] w0 := St.refl w0
  refine calls_of_g (n := 32) Try.func33 rfl rfl ?_
  show G _ _ _ _ [_,_,_,_,_,_,_,_,_,_,_,_,_,_,_,_,_,_,_,_,_,_,_,_,_,_,_,_,_,_,_,_,_] _
  refine g_seq (g_rg [0, 1] rfl ?_)
  refine s_box hs rfl rfl (cs := (enc_S_laws_Task a1)) rfl rfl ?_
  intro b2 w hs
  show G _ _ _ _ [_,_,_,_,_,_,_,_,_,_,_,_,_,_,_,_,_,_,_,_,_,_,_,_,_,_,_,_,_,_,_,_,_] _
  refine s_alloc hs rfl rfl (z := (Value.agg #[Value.slice none 0 0, Value.slice none 0 0, Value.slice none 0 0, Value.slice none 0 0])) (cs := (([Value.slice none 0 0, Value.slice none 0 0, Value.slice none 0 0, Value.slice none 0 0] : List Value))) rfl (fun _ => rfl) rfl ?_
  intro b4 w hs
  refine g_ops_nil (g_seq ?_)
  obtain ⟨gd1, H⟩ := ite_get H
  refine g_name ?_
  intro T hT
  refine g_any (n := 9) rfl [0, 1, 2, 3, 4, 5, 6, 7, 8] [0, 3, 4, 5, 6, 7, 1, 2, 8] rfl rfl (Inv := fun D t w => ∃ b6 : Nat, ∃ b7 : Nat, ∃ b9 : Nat, ∃ O : Nat → Value, t = [Value.agg (enc_S_laws_Task a1).toArray, Value.pointer (some ⟨b2, 0, none⟩), Value.pointer (some ⟨b4, 0, none⟩), cnd (D 6) (Value.pointer (some ⟨b9, 0, none⟩)) (O 3), cnd (D 8) (Value.int .i64 (rdL ([1, 2, 0] : List Int) a1.f_Kind 0)) (O 4), O 5, cnd (D 0) (Value.agg (([Value.slice none 0 0, Value.slice none 0 0, Value.slice none 0 0, Value.slice none 0 0] : List Value)).toArray) (O 6), cnd (D 1) (Value.slice (some ⟨b6, 0, none⟩) ([1, 2, 0] : List Int).length b7) (O 7), cnd (D 2) (Value.pointer (some ⟨b2, 1, none⟩)) (O 8), cnd (D 3) (Value.int .i8 a1.f_Kind) (O 9), cnd (D 4) (Value.pointer (some ((⟨b6, 0, none⟩ : Addr).add (a1.f_Kind.toNat * 1)))) (O 10), cnd (D 5) (Value.int .i64 (rdL ([1, 2, 0] : List Int) a1.f_Kind 0)) (O 11), O 12, O 13, O 14, O 15, O 16, O 17, O 18, O 19, O 20, O 21, O 22, O 23, O 24, O 25, O 26, O 27, O 28, O 29, O 30, O 31, O 32] ∧ St w0 [Asc (D 1) (Row 3 (K.int .i64) (Value.slice (some ⟨b6, 0, none⟩) ([1, 2, 0] : List Int).length b7) ([1, 2, 0] : List Int)), Asc (D 6) (Cells b9 (([Value.slice none 0 0, Value.slice none 0 0, Value.slice none 0 0, Value.slice none 0 0] : List Value)) 74), Cells b4 (([Value.slice none 0 0, Value.slice none 0 0, Value.slice none 0 0, Value.slice none 0 0] : List Value)) 74, Cells b2 (enc_S_laws_Task a1) 27] w) ?_ ⟨⟨⟨⟨⟨⟨⟨⟨⟨trivial, ?_⟩, ?_⟩, ?_⟩, ?_⟩, ?_⟩, ?_⟩, ?_⟩, ?_⟩, ?_⟩ ?_
  ·
   intro w hh hbw
   have hs := hs.samew hh hbw
   have hs := hs.emp
   have hs := hs.emp
   exact ⟨0, 0, 0, fun i => T.getD i undef, (by subst hT; rfl), hs⟩
  ·
   rintro D t w hD hp hcl ⟨b6, b7, b9, O, ht, hs⟩ rest hk
   have q7_ := nz hcl 7 1 hD
   have q8_ := nz hcl 8 1 q7_
   simp only [hD, q7_, q8_, cq] at ht hs
   subst ht
   refine g_op (v := Value.agg (([Value.slice none 0 0, Value.slice none 0 0, Value.slice none 0 0, Value.slice none 0 0] : List Value)).toArray) rfl rfl (x_build rfl rfl) ?_
   show G _ _ _ _ [_,_,_,_,_,_,_,_,_,_,_,_,_,_,_,_,_,_,_,_,_,_,_,_,_,_,_,_,_,_,_,_,_] _
   refine hk _ _ ⟨b6, b7, b9, O, ?_, hs.cast ?_⟩ <;> simp only [lq, cq, Nat.reduceBEq, q7_, q8_]
  ·
   rintro D t w hD hp hcl ⟨b6, b7, b9, O, ht, hs⟩ rest hk
   have q4_ := nz hcl 4 0 hD
   have q5_ := nz hcl 5 0 q4_
   have q8_ := nz hcl 8 0 q5_
   simp only [hD, q4_, q5_, q8_, cq] at ht hs
   subst ht
   refine s_litN (fkI .i64) (Value.int .i64) (fun _ => rfl) rfl (ys := ([1, 2, 0] : List Int)) rfl hs rfl rfl rfl rfl (fun _ => rfl) (zv := (Value.int .i64 0)) (zc := (Value.int .i64 0)) (fun _ => rfl) rfl (by simp) (by simp) rfl ?_
   intro vq_ w hs
   obtain ⟨b6, b7, rfl⟩ := own_addr hs (by simp)
   show G _ _ _ _ [_,_,_,_,_,_,_,_,_,_,_,_,_,_,_,_,_,_,_,_,_,_,_,_,_,_,_,_,_,_,_,_,_] _
   have hs := hs.fill 0 rfl
   refine hk _ _ ⟨b6, b7, b9, O, ?_, hs.cast ?_⟩ <;> simp only [lq, cq, Nat.reduceBEq, q4_, q5_, q8_]
  ·
   rintro D t w hD hp hcl ⟨b6, b7, b9, O, ht, hs⟩ rest hk
   have q3_ := nz hcl 3 0 hD
   have q4_ := nz hcl 4 1 q3_
   have q5_ := nz hcl 5 0 q4_
   have q8_ := nz hcl 8 0 q5_
   simp only [hD, q3_, q4_, q5_, q8_, cq] at ht hs
   subst ht
   refine g_op (v := Value.pointer (some ⟨b2, 1, none⟩)) rfl rfl rfl ?_
   show G _ _ _ _ [_,_,_,_,_,_,_,_,_,_,_,_,_,_,_,_,_,_,_,_,_,_,_,_,_,_,_,_,_,_,_,_,_] _
   refine hk _ _ ⟨b6, b7, b9, O, ?_, hs.cast ?_⟩ <;> simp only [lq, cq, Nat.reduceBEq, q3_, q4_, q5_, q8_]
  ·
   rintro D t w hD hp hcl ⟨b6, b7, b9, O, ht, hs⟩ rest hk
   obtain ⟨p2_, _⟩ := hp
   have q4_ := nz hcl 4 1 hD
   have q5_ := nz hcl 5 0 q4_
   have q8_ := nz hcl 8 0 q5_
   simp only [hD, p2_, q4_, q5_, q8_, cq] at ht hs
   subst ht
   refine s_load1 rfl rfl (v := Value.int .i8 a1.f_Kind) rfl rfl (fun _ => rfl) (cells_load (hs.cells 3 rfl) 1 1 rfl) ?_
   show G _ _ _ _ [_,_,_,_,_,_,_,_,_,_,_,_,_,_,_,_,_,_,_,_,_,_,_,_,_,_,_,_,_,_,_,_,_] _
   refine hk _ _ ⟨b6, b7, b9, O, ?_, hs.cast ?_⟩ <;> simp only [lq, cq, Nat.reduceBEq, p2_, q4_, q5_, q8_]
  ·
   rintro D t w hD hp hcl ⟨b6, b7, b9, O, ht, hs⟩ rest hk
   obtain ⟨p1_, p3_, _⟩ := hp
   obtain ⟨p2_, _⟩ := (hcl.get 3 (by decide)) p3_
   have q5_ := nz hcl 5 0 hD
   have q8_ := nz hcl 8 0 q5_
   simp only [hD, p1_, p2_, p3_, q5_, q8_, cq] at ht hs
   subst ht
   refine s_idxD (κ := (K.int .i64)) (m := 1) rfl (hs.row 0 rfl) rfl (fun _ => rfl) gd1.1 gd1.2 rfl rfl rfl rfl rfl rfl ?_
   show G _ _ _ _ [_,_,_,_,_,_,_,_,_,_,_,_,_,_,_,_,_,_,_,_,_,_,_,_,_,_,_,_,_,_,_,_,_] _
   refine hk _ _ ⟨b6, b7, b9, O, ?_, hs.cast ?_⟩ <;> simp only [lq, cq, Nat.reduceBEq, p1_, p2_, p3_, q5_, q8_]
  ·
   rintro D t w hD hp hcl ⟨b6, b7, b9, O, ht, hs⟩ rest hk
   obtain ⟨p4_, _⟩ := hp
   obtain ⟨p1_, p3_, _⟩ := (hcl.get 4 (by decide)) p4_
   obtain ⟨p2_, _⟩ := (hcl.get 3 (by decide)) p3_
   have q8_ := nz hcl 8 0 hD
   simp only [hD, p1_, p2_, p3_, p4_, q8_, cq] at ht hs
   subst ht
   refine s_load1 rfl rfl (v := Value.int .i64 (rdL ([1, 2, 0] : List Int) a1.f_Kind 0)) rfl rfl (fun _ => rfl) (cellsAt_of (fkI .i64) 0 (hs.row 0 rfl) rfl gd1.1 gd1.2) ?_
   show G _ _ _ _ [_,_,_,_,_,_,_,_,_,_,_,_,_,_,_,_,_,_,_,_,_,_,_,_,_,_,_,_,_,_,_,_,_] _
   refine hk _ _ ⟨b6, b7, b9, O, ?_, hs.cast ?_⟩ <;> simp only [lq, cq, Nat.reduceBEq, p1_, p2_, p3_, p4_, q8_]
  ·
   rintro D t w hD hp hcl ⟨b6, b7, b9, O, ht, hs⟩ rest hk
   have q7_ := nz hcl 7 0 hD
   have q8_ := nz hcl 8 1 q7_
   simp only [hD, q7_, q8_, cq] at ht hs
   subst ht
   refine s_alloc hs rfl rfl (z := (Value.agg #[Value.slice none 0 0, Value.slice none 0 0, Value.slice none 0 0, Value.slice none 0 0])) (cs := (([Value.slice none 0 0, Value.slice none 0 0, Value.slice none 0 0, Value.slice none 0 0] : List Value))) rfl (fun _ => rfl) rfl ?_
   intro b9 w hs
   show G _ _ _ _ [_,_,_,_,_,_,_,_,_,_,_,_,_,_,_,_,_,_,_,_,_,_,_,_,_,_,_,_,_,_,_,_,_] _
   have hs := hs.fill 1 rfl
   refine hk _ _ ⟨b6, b7, b9, O, ?_, hs.cast ?_⟩ <;> simp only [lq, cq, Nat.reduceBEq, q7_, q8_]
  ·
   rintro D t w hD hp hcl ⟨b6, b7, b9, O, ht, hs⟩ rest hk
   obtain ⟨p6_, p0_, _, _, _⟩ := hp
   have q8_ := nz hcl 8 1 hD
   simp only [hD, p0_, p6_, q8_, cq] at ht hs
   subst ht
   have hs := hs.pull 1 rfl
   have hs : St _ [_,_,_,_] _ := hs
   refine s_storeAll (n := 4) hs rfl rfl rfl (vs := (([Value.slice none 0 0, Value.slice none 0 0, Value.slice none 0 0, Value.slice none 0 0] : List Value))) rfl rfl rfl (fun _ => rfl) rfl (by simp [Value.oneCell']) ?_
   intro w hs
   show G _ _ _ _ [_,_,_,_,_,_,_,_,_,_,_,_,_,_,_,_,_,_,_,_,_,_,_,_,_,_,_,_,_,_,_,_,_] _
   have hs := hs.push 1 (by simp)
   refine hk _ _ ⟨b6, b7, b9, O, ?_, hs.cast ?_⟩ <;> simp only [lq, cq, Nat.reduceBEq, p0_, p6_, q8_]
  ·
   rintro D t w hD hp hcl ⟨b6, b7, b9, O, ht, hs⟩ rest hk
   obtain ⟨p5_, p7_, p0_, p1_, p2_, p3_, p4_, _, p6_, _, _⟩ := hp
   simp only [hD, p0_, p1_, p2_, p3_, p4_, p5_, p6_, p7_, cq] at ht hs
   subst ht
   refine g_op (v := Value.int .i64 (rdL ([1, 2, 0] : List Int) a1.f_Kind 0)) rfl rfl rfl ?_
   show G _ _ _ _ [_,_,_,_,_,_,_,_,_,_,_,_,_,_,_,_,_,_,_,_,_,_,_,_,_,_,_,_,_,_,_,_,_] _
   refine hk _ _ ⟨b6, b7, b9, O, ?_, hs.cast ?_⟩ <;> simp only [lq, cq, Nat.reduceBEq, p0_, p1_, p2_, p3_, p4_, p5_, p6_, p7_]
  intro D t w hall hI
  obtain ⟨b6, b7, b9, O, ht, hs⟩ := hI
  have p0_ := hall 0 (by decide)
  have p1_ := hall 1 (by decide)
  have p2_ := hall 2 (by decide)
  have p3_ := hall 3 (by decide)
  have p4_ := hall 4 (by decide)
  have p5_ := hall 5 (by decide)
  have p6_ := hall 6 (by decide)
  have p7_ := hall 7 (by decide)
  have p8_ := hall 8 (by decide)
  simp only [p0_, p1_, p2_, p3_, p4_, p5_, p6_, p7_, p8_, cq] at ht hs
  subst ht
  refine g_seq (g_seq (g_rg [0, 1, 2] rfl ?_))
  refine g_op (v := Value.pointer (some ⟨b2, 0, none⟩)) rfl rfl rfl ?_
  refine s_load1 rfl rfl (v := Value.int .i8 a1.f_Coins) rfl rfl (fun _ => rfl) (cells_load (hs.cells 3 rfl) 0 1 rfl) ?_
  refine g_op (v := Value.int .i8 0) rfl rfl rfl (g_ops_nil ?_)
  obtain ⟨o1_, Ho, Hr1_⟩ := bind_get H
  refine g_block_join (J := fun t w => ∃ v87 : Value, ∃ x88 : (List Int), ∃ v90 : Value, ∃ x91 : (List Int), ∃ v93 : Value, ∃ x94 : (List Int), ∃ v96 : Value, ∃ x97 : (List Int), _impl_Task_known.a0 N a1 x88 x91 x94 x97 = some r ∧ Fr t (fun O => ([O 0, Value.pointer (some ⟨b2, 0, none⟩), Value.pointer (some ⟨b4, 0, none⟩), Value.pointer (some ⟨b9, 0, none⟩), O 4, O 5, O 6, O 7, O 8, O 9, O 10, O 11, O 12, O 13, O 14, O 15, O 16, O 17, O 18, O 19, O 20, O 21, O 22, O 23, O 24, O 25, O 26, O 27, O 28, O 29, O 30, O 31, O 32] : List Value)) ∧ St w0 [Cells b2 (enc_S_laws_Task a1) 27, Cells b4 (([Value.slice none 0 0, Value.slice none 0 0, Value.slice none 0 0, Value.slice none 0 0] : List Value)) 74, Cells b9 (([v87, v90, v93, v96] : List Value)) 74, Row 22 (K.int .i8) v87 x88, Row 22 (K.int .i8) v90 x91, Row 22 (K.int .i8) v93 x94, Row 22 (K.int .i8) v96 x97] w) ?_ ?_
  ·
   rintro t w ⟨v87, x88, v90, x91, v93, x94, v96, x97, H, hf, hs⟩
   obtain ⟨O, rfl⟩ := hf.open
   show G _ _ _ _ [_,_,_,_,_,_,_,_,_,_,_,_,_,_,_,_,_,_,_,_,_,_,_,_,_,_,_,_,_,_,_,_,_] _
   unfold _impl_Task_known.a0 at H
   refine g_seq (g_seq (g_rg [0, 1] rfl ?_))
   refine g_op (v := Value.pointer (some ⟨b2, 3, none⟩)) rfl rfl rfl ?_
   by_cases hb10_ : a1.f_Good = true
   ·
    rw [if_pos hb10_] at H
    refine s_load1 rfl rfl (v := Value.bool true) rfl rfl (fun _ => rfl) (cells_load (hs.cells 0 rfl) 3 1 (Eq.trans (b := [Value.bool a1.f_Good]) rfl (congrArg (fun b => [Value.bool b]) hb10_))) (g_ops_nil (g_cond_true rfl (g_rg [0, 1, 2, 3, 4] rfl ?_)))
    refine g_op (v := Value.pointer (some ⟨b2, 0, none⟩)) rfl rfl rfl ?_
    refine s_load1 rfl rfl (v := Value.int .i8 a1.f_Coins) rfl rfl (fun _ => rfl) (cells_load (hs.cells 0 rfl) 0 1 rfl) ?_
    show G _ _ _ _ [_,_,_,_,_,_,_,_,_,_,_,_,_,_,_,_,_,_,_,_,_,_,_,_,_,_,_,_,_,_,_,_,_] _
    refine s_lit1 (fkI .i8) (y := a1.f_Coins) hs rfl rfl rfl rfl (fun _ => rfl) (zv := (Value.int .i8 0)) (fun _ => rfl) rfl (by decide) (by decide) rfl ?_
    intro v99 w hs
    refine s_idxJ (m := 1) 3 rfl (by decide) rfl (fun _ => rfl) rfl rfl rfl rfl rfl ?_
    have hs := hs.pull 3 rfl
    have hs : St _ [_,_,_,_,_,_,_,_] _ := hs
    refine s_store hs rfl rfl (vs := [v99]) (cs' := (([v87, v90, v93, v99] : List Value))) rfl rfl (slCells (hs.row 1 rfl)) (n := 1) (fun _ => rfl) rfl (by first | exact Nat.le_of_ble_eq_true rfl | simp [encAI_len, encAB_len, encA_len]) (by intro v hv; simp only [List.mem_cons, List.not_mem_nil, or_false] at hv; subst hv; exact slOne (hs.row 1 rfl)) rfl ?_
    intro w hs
    refine g_ops_nil (g_seq (g_rg [0, 1] rfl ?_))
    refine s_loadA rfl rfl (es := (([v87, v90, v93, v99] : List Value))) rfl rfl (fun _ => rfl) (n := 4) (fun _ => rfl) rfl (cells_all (hs.cells 0 rfl)) ?_
    show G _ _ _ _ [_,_,_,_,_,_,_,_,_,_,_,_,_,_,_,_,_,_,_,_,_,_,_,_,_,_,_,_,_,_,_,_,_] _
    have hs := hs.pull 3 rfl
    have hs : St _ [_,_,_,_,_,_,_,_] _ := hs
    refine s_storeAll (n := 4) hs rfl rfl rfl (vs := (([v87, v90, v93, v99] : List Value))) rfl rfl rfl (fun _ => rfl) rfl (by intro v hv; simp only [List.mem_append, List.mem_cons, List.not_mem_nil, or_false] at hv; repeat (first | (subst hv; first | rfl | exact slOne (hs.row 4 rfl) | exact slOne (hs.row 5 rfl) | exact slOne (hs.row 6 rfl) | exact slOne (hs.row 2 rfl)) | (rcases hv with hv | hv))) ?_
    intro w hs
    refine g_ops_nil ?_
    obtain rfl := Option.some.inj H
    refine g_ret Try.func33 (v := Value.agg (([v87, v90, v93, v99] : List Value)).toArray) (resC rfl ⟨⟨_, rfl, (run_loadVar_agg (es := (([v87, v90, v93, v99] : List Value))) rfl rfl (cells_all (hs.cells 0 rfl)))⟩, trivial⟩) ?_
    have hs := hs.pull 2 rfl
    have hs := hs.pull 6 rfl
    have hs := hs.pull 6 rfl
    have hs := hs.pull 6 rfl
    have hs : St _ [_,_,_,_] _ := St.take (Γ' := [_,_,_,_]) hs
    exact ⟨_, rfl, v87, v90, v93, v99, rfl, hs⟩
   rw [if_neg hb10_] at H
   refine s_load1 rfl rfl (v := Value.bool false) rfl rfl (fun _ => rfl) (cells_load (hs.cells 0 rfl) 3 1 (Eq.trans (b := [Value.bool a1.f_Good]) rfl (congrArg (fun b => [Value.bool b]) (Bool.eq_false_iff.2 hb10_)))) (g_ops_nil (g_cond_false rfl (g_skip (g_seq (g_rg [0, 1] rfl ?_)))))
   refine s_loadA rfl rfl (es := (([v87, v90, v93, v96] : List Value))) rfl rfl (fun _ => rfl) (n := 4) (fun _ => rfl) rfl (cells_all (hs.cells 2 rfl)) ?_
   show G _ _ _ _ [_,_,_,_,_,_,_,_,_,_,_,_,_,_,_,_,_,_,_,_,_,_,_,_,_,_,_,_,_,_,_,_,_] _
   have hs := hs.pull 1 rfl
   have hs : St _ [_,_,_,_,_,_,_] _ := hs
   refine s_storeAll (n := 4) hs rfl rfl rfl (vs := (([v87, v90, v93, v96] : List Value))) rfl rfl rfl (fun _ => rfl) rfl (by intro v hv; simp only [List.mem_append, List.mem_cons, List.not_mem_nil, or_false] at hv; repeat (first | (subst hv; first | rfl | exact slOne (hs.row 3 rfl) | exact slOne (hs.row 4 rfl) | exact slOne (hs.row 5 rfl) | exact slOne (hs.row 6 rfl)) | (rcases hv with hv | hv))) ?_
   intro w hs
   refine g_ops_nil ?_
   obtain rfl := Option.some.inj H
   refine g_ret Try.func33 (v := Value.agg (([v87, v90, v93, v96] : List Value)).toArray) (resC rfl ⟨⟨_, rfl, (run_loadVar_agg (es := (([v87, v90, v93, v96] : List Value))) rfl rfl (cells_all (hs.cells 0 rfl)))⟩, trivial⟩) ?_
   have hs := hs.pull 6 rfl
   have hs := hs.pull 6 rfl
   have hs := hs.pull 6 rfl
   have hs := hs.pull 6 rfl
   have hs : St _ [_,_,_,_] _ := St.take (Γ' := [_,_,_]) hs
   exact ⟨_, rfl, v87, v90, v93, v96, rfl, hs⟩
  intro ha1_
  have hs := hs.nil 22 (K.int .i8)
  have hs := hs.nil 22 (K.int .i8)
  have hs := hs.nil 22 (K.int .i8)
  have hs := hs.nil 22 (K.int .i8)
  have hs := hs.pull 5 rfl
  have hs := hs.pull 1 rfl
  have hs := hs.pull 2 rfl
  have hs := hs.pull 3 rfl
  have hs := hs.pull 4 rfl
  have hs := hs.pull 6 rfl
  have hs := hs.pull 7 rfl
  have hs : St _ [_,_,_,_,_,_,_] _ := St.take (Γ' := [_]) hs
  refine g_loop_fuel (I := fun n_ t w => ∃ v47 : Value, ∃ x48 : (List Int), ∃ v50 : Value, ∃ x51 : (List Int), ∃ v53 : Value, ∃ x54 : (List Int), ∃ v56 : Value, ∃ x57 : (List Int), ∃ x58 : Int, rounds (fun s => _impl_Task_known.b0 N a1 s.1 s.2.1 s.2.2.1 s.2.2.2.1 s.2.2.2.2) n_ (x48, x51, x54, x57, x58) = some o1_ ∧ Fr t (fun O => ([O 0, Value.pointer (some ⟨b2, 0, none⟩), Value.pointer (some ⟨b4, 0, none⟩), Value.pointer (some ⟨b9, 0, none⟩), Value.int .i64 (rdL ([1, 2, 0] : List Int) a1.f_Kind 0), O 5, O 6, O 7, O 8, O 9, O 10, O 11, O 12, Value.int .i8 a1.f_Coins, Value.int .i8 x58, O 15, O 16, O 17, O 18, O 19, O 20, O 21, O 22, O 23, O 24, O 25, O 26, O 27, O 28, O 29, O 30, O 31, O 32] : List Value)) ∧ St w0 [Cells b2 (enc_S_laws_Task a1) 27, Cells b4 (([Value.slice none 0 0, Value.slice none 0 0, Value.slice none 0 0, Value.slice none 0 0] : List Value)) 74, Row 22 (K.int .i8) v47 x48, Row 22 (K.int .i8) v50 x51, Row 22 (K.int .i8) v53 x54, Row 22 (K.int .i8) v56 x57, Cells b9 (([v47, v50, v53, v56] : List Value)) 74] w) N ⟨Value.slice none 0 0, [], Value.slice none 0 0, [], Value.slice none 0 0, [], Value.slice none 0 0, [], 0, Ho, rfl, hs⟩ ?_ ?_
  ·
   rintro _ _ ⟨v47, x48, v50, x51, v53, x54, v56, x57, x58, h, _⟩
   exact rounds_zero h
  intro n_ ih1_
  rintro t w ⟨v47, x48, v50, x51, v53, x54, v56, x57, x58, Ho, hf, hs⟩
  obtain ⟨O, rfl⟩ := hf.open
  show G _ _ _ _ [_,_,_,_,_,_,_,_,_,_,_,_,_,_,_,_,_,_,_,_,_,_,_,_,_,_,_,_,_,_,_,_,_] _
  obtain ⟨x11_, H, Hx1_⟩ := rounds_succ Ho
  have H : _impl_Task_known.b0 N a1 x48 x51 x54 x57 x58 = some x11_ := H
  unfold _impl_Task_known.b0 at H
  refine g_seq (g_rg [0] rfl ?_)
  refine g_op_b (B := decide (x58 < a1.f_Coins)) rfl rfl rfl ?_ ?_
  ·
   intro hb
   rw [if_pos (b_dec_t hb)] at H
   refine g_ops_nil (g_seq (g_cond_true rfl (g_skip (g_seq ?_))))
   refine g_block_join (J := (fun t w => ∃ v75 : Value, ∃ x76 : (List Int), ∃ v78 : Value, ∃ x79 : (List Int), ∃ v81 : Value, ∃ x82 : (List Int), ∃ v84 : Value, ∃ x85 : (List Int), _impl_Task_known.j2 N x58 x76 x79 x82 x85 = some x11_ ∧ Fr t (fun O => ([O 0, Value.pointer (some ⟨b2, 0, none⟩), Value.pointer (some ⟨b4, 0, none⟩), Value.pointer (some ⟨b9, 0, none⟩), Value.int .i64 (rdL ([1, 2, 0] : List Int) a1.f_Kind 0), O 5, O 6, O 7, O 8, O 9, O 10, O 11, O 12, Value.int .i8 a1.f_Coins, Value.int .i8 x58, O 15, O 16, O 17, O 18, O 19, O 20, O 21, O 22, O 23, O 24, O 25, O 26, O 27, O 28, O 29, O 30, O 31, O 32] : List Value)) ∧ St w0 [Cells b2 (enc_S_laws_Task a1) 27, Cells b4 (([Value.slice none 0 0, Value.slice none 0 0, Value.slice none 0 0, Value.slice none 0 0] : List Value)) 74, Cells b9 (([v75, v78, v81, v84] : List Value)) 74, Row 22 (K.int .i8) v75 x76, Row 22 (K.int .i8) v78 x79, Row 22 (K.int .i8) v81 x82, Row 22 (K.int .i8) v84 x85] w)) ?_ ?_
   ·
    rintro t w ⟨v75, x76, v78, x79, v81, x82, v84, x85, H, hf, hs⟩
    obtain ⟨O, rfl⟩ := hf.open
    show G _ _ _ _ [_,_,_,_,_,_,_,_,_,_,_,_,_,_,_,_,_,_,_,_,_,_,_,_,_,_,_,_,_,_,_,_,_] _
    unfold _impl_Task_known.j2 at H
    refine g_rg [0, 1] rfl ?_
    refine g_op (v := Value.int .i8 (i8w (x58 + 1))) rfl rfl rfl ?_
    show G _ _ _ _ [_,_,_,_,_,_,_,_,_,_,_,_,_,_,_,_,_,_,_,_,_,_,_,_,_,_,_,_,_,_,_,_,_] _
    refine g_op (v := Value.int .i8 (i8w (x58 + 1))) rfl rfl rfl (g_ops_nil ?_)
    obtain rfl := Option.some.inj H
    have hs := hs.pull 2 rfl
    have hs := hs.pull 6 rfl
    have hs := hs.pull 6 rfl
    have hs := hs.pull 6 rfl
    have hs := hs.pull 6 rfl
    have hs := hs.pull 6 rfl
    have hs := hs.pull 6 rfl
    have hs : St _ [_,_,_,_,_,_,_] _ := St.take (Γ' := []) hs
    exact ih1_ _ _ ⟨v75, x76, v78, x79, v81, x82, v84, x85, i8w (x58 + 1), Hx1_, rfl, hs⟩
   intro ha
   refine g_seq (g_rg [0, 1] rfl ?_)
   refine g_op (v := Value.int .i8 x58) rfl rfl rfl ?_
   refine g_op (v := Value.int .i8 x58) rfl rfl rfl (g_ops_nil ?_)
   by_cases hk6_ : rdL ([1, 2, 0] : List Int) a1.f_Kind 0 = 0
   ·
    rw [if_pos hk6_] at H
    refine g_rg [0, 1, 2, 3, 4, 5, 6, 7, 8] rfl ?_
    refine g_op (v := Value.int .i64 (rdL ([1, 2, 0] : List Int) a1.f_Kind 0)) rfl rfl rfl ?_
    refine g_op (v := Value.int .i64 (rdL ([1, 2, 0] : List Int) a1.f_Kind 0)) rfl rfl rfl ?_
    refine s_idxJ (m := 1) 0 hk6_ (by decide) rfl (fun _ => rfl) rfl rfl rfl rfl rfl ?_
    show G _ _ _ _ [_,_,_,_,_,_,_,_,_,_,_,_,_,_,_,_,_,_,_,_,_,_,_,_,_,_,_,_,_,_,_,_,_] _
    refine s_load1 rfl rfl (v := v47) rfl rfl (fun _ => rfl) (cells_load (hs.cells 6 rfl) 0 1 rfl) ?_
    refine g_op (v := Value.int .i8 x58) rfl rfl rfl ?_
    show G _ _ _ _ [_,_,_,_,_,_,_,_,_,_,_,_,_,_,_,_,_,_,_,_,_,_,_,_,_,_,_,_,_,_,_,_,_] _
    refine s_lit1 (fkI .i8) (y := x58) hs rfl rfl rfl rfl (fun _ => rfl) (zv := (Value.int .i8 0)) (fun _ => rfl) rfl (by decide) (by decide) rfl ?_
    intro v59 w hs
    show G _ _ _ _ [_,_,_,_,_,_,_,_,_,_,_,_,_,_,_,_,_,_,_,_,_,_,_,_,_,_,_,_,_,_,_,_,_] _
    have hs := hs.pull 3 rfl
    have hs : St _ [_,_,_,_,_,_,_,_] _ := hs
    obtain ⟨g, H⟩ := ite_get H
    refine s_append (fkI .i8) (zv := (Value.int .i8 0)) (B := 1) hs (hs.row 1 rfl) rfl rfl rfl rfl rfl rfl rfl rfl rfl (by decide) rfl rfl (by decide) (by omega) ?_
    intro v61 w hs
    refine s_idxJ (m := 1) 0 hk6_ (by decide) rfl (fun _ => rfl) rfl rfl rfl rfl rfl ?_
    have hs := hs.pull 7 rfl
    have hs : St _ [_,_,_,_,_,_,_,_] _ := hs
    refine s_store hs rfl rfl (vs := [v61]) (cs' := (([v61, v50, v53, v56] : List Value))) rfl rfl (slCells (hs.row 1 rfl)) (n := 1) (fun _ => rfl) rfl (by first | exact Nat.le_of_ble_eq_true rfl | simp [encAI_len, encAB_len, encA_len]) (by intro v hv; simp only [List.mem_cons, List.not_mem_nil, or_false] at hv; subst hv; exact slOne (hs.row 1 rfl)) rfl ?_
    intro w hs
    refine g_ops_nil ?_
    refine g_inBlock ?_
    have hs := hs.pull 7 rfl
    have hs := hs.pull 7 rfl
    have hs := hs.pull 7 rfl
    have hs := hs.pull 4 rfl
    have hs := hs.pull 4 rfl
    have hs := hs.pull 7 rfl
    have hs := hs.pull 7 rfl
    have hs : St _ [_,_,_,_,_,_,_] _ := St.take (Γ' := [_]) hs
    exact ha _ _ ⟨v61, x48 ++ ([x58]), v50, x51, v53, x54, v56, x57, H, rfl, hs⟩
   rw [if_neg hk6_] at H
   by_cases hk7_ : rdL ([1, 2, 0] : List Int) a1.f_Kind 0 = 1
   ·
    rw [if_pos hk7_] at H
    refine g_rg [0, 1, 2, 3, 4, 5, 6, 7, 8] rfl ?_
    refine g_op (v := Value.int .i64 (rdL ([1, 2, 0] : List Int) a1.f_Kind 0)) rfl rfl rfl ?_
    refine g_op (v := Value.int .i64 (rdL ([1, 2, 0] : List Int) a1.f_Kind 0)) rfl rfl rfl ?_
    refine s_idxJ (m := 1) 1 hk7_ (by decide) rfl (fun _ => rfl) rfl rfl rfl rfl rfl ?_
    show G _ _ _ _ [_,_,_,_,_,_,_,_,_,_,_,_,_,_,_,_,_,_,_,_,_,_,_,_,_,_,_,_,_,_,_,_,_] _
    refine s_load1 rfl rfl (v := v50) rfl rfl (fun _ => rfl) (cells_load (hs.cells 6 rfl) 1 1 rfl) ?_
    refine g_op (v := Value.int .i8 x58) rfl rfl rfl ?_
    show G _ _ _ _ [_,_,_,_,_,_,_,_,_,_,_,_,_,_,_,_,_,_,_,_,_,_,_,_,_,_,_,_,_,_,_,_,_] _
    refine s_lit1 (fkI .i8) (y := x58) hs rfl rfl rfl rfl (fun _ => rfl) (zv := (Value.int .i8 0)) (fun _ => rfl) rfl (by decide) (by decide) rfl ?_
    intro v63 w hs
    show G _ _ _ _ [_,_,_,_,_,_,_,_,_,_,_,_,_,_,_,_,_,_,_,_,_,_,_,_,_,_,_,_,_,_,_,_,_] _
    have hs := hs.pull 4 rfl
    have hs : St _ [_,_,_,_,_,_,_,_] _ := hs
    obtain ⟨g, H⟩ := ite_get H
    refine s_append (fkI .i8) (zv := (Value.int .i8 0)) (B := 1) hs (hs.row 1 rfl) rfl rfl rfl rfl rfl rfl rfl rfl rfl (by decide) rfl rfl (by decide) (by omega) ?_
    intro v65 w hs
    refine s_idxJ (m := 1) 1 hk7_ (by decide) rfl (fun _ => rfl) rfl rfl rfl rfl rfl ?_
    have hs := hs.pull 7 rfl
    have hs : St _ [_,_,_,_,_,_,_,_] _ := hs
    refine s_store hs rfl rfl (vs := [v65]) (cs' := (([v47, v65, v53, v56] : List Value))) rfl rfl (slCells (hs.row 1 rfl)) (n := 1) (fun _ => rfl) rfl (by first | exact Nat.le_of_ble_eq_true rfl | simp [encAI_len, encAB_len, encA_len]) (by intro v hv; simp only [List.mem_cons, List.not_mem_nil, or_false] at hv; subst hv; exact slOne (hs.row 1 rfl)) rfl ?_
    intro w hs
    refine g_ops_nil ?_
    refine g_inBlock ?_
    have hs := hs.pull 7 rfl
    have hs := hs.pull 7 rfl
    have hs := hs.pull 3 rfl
    have hs := hs.pull 7 rfl
    have hs := hs.pull 4 rfl
    have hs := hs.pull 7 rfl
    have hs := hs.pull 7 rfl
    have hs : St _ [_,_,_,_,_,_,_] _ := St.take (Γ' := [_]) hs
    exact ha _ _ ⟨v47, x48, v65, x51 ++ ([x58]), v53, x54, v56, x57, H, rfl, hs⟩
   rw [if_neg hk7_] at H
   by_cases hk8_ : rdL ([1, 2, 0] : List Int) a1.f_Kind 0 = 2
   ·
    rw [if_pos hk8_] at H
    refine g_rg [0, 1, 2, 3, 4, 5, 6, 7, 8] rfl ?_
    refine g_op (v := Value.int .i64 (rdL ([1, 2, 0] : List Int) a1.f_Kind 0)) rfl rfl rfl ?_
    refine g_op (v := Value.int .i64 (rdL ([1, 2, 0] : List Int) a1.f_Kind 0)) rfl rfl rfl ?_
    refine s_idxJ (m := 1) 2 hk8_ (by decide) rfl (fun _ => rfl) rfl rfl rfl rfl rfl ?_
    show G _ _ _ _ [_,_,_,_,_,_,_,_,_,_,_,_,_,_,_,_,_,_,_,_,_,_,_,_,_,_,_,_,_,_,_,_,_] _
    refine s_load1 rfl rfl (v := v53) rfl rfl (fun _ => rfl) (cells_load (hs.cells 6 rfl) 2 1 rfl) ?_
    refine g_op (v := Value.int .i8 x58) rfl rfl rfl ?_
    show G _ _ _ _ [_,_,_,_,_,_,_,_,_,_,_,_,_,_,_,_,_,_,_,_,_,_,_,_,_,_,_,_,_,_,_,_,_] _
    refine s_lit1 (fkI .i8) (y := x58) hs rfl rfl rfl rfl (fun _ => rfl) (zv := (Value.int .i8 0)) (fun _ => rfl) rfl (by decide) (by decide) rfl ?_
    intro v67 w hs
    show G _ _ _ _ [_,_,_,_,_,_,_,_,_,_,_,_,_,_,_,_,_,_,_,_,_,_,_,_,_,_,_,_,_,_,_,_,_] _
    have hs := hs.pull 5 rfl
    have hs : St _ [_,_,_,_,_,_,_,_] _ := hs
    obtain ⟨g, H⟩ := ite_get H
    refine s_append (fkI .i8) (zv := (Value.int .i8 0)) (B := 1) hs (hs.row 1 rfl) rfl rfl rfl rfl rfl rfl rfl rfl rfl (by decide) rfl rfl (by decide) (by omega) ?_
    intro v69 w hs
    refine s_idxJ (m := 1) 2 hk8_ (by decide) rfl (fun _ => rfl) rfl rfl rfl rfl rfl ?_
    have hs := hs.pull 7 rfl
    have hs : St _ [_,_,_,_,_,_,_,_] _ := hs
    refine s_store hs rfl rfl (vs := [v69]) (cs' := (([v47, v50, v69, v56] : List Value))) rfl rfl (slCells (hs.row 1 rfl)) (n := 1) (fun _ => rfl) rfl (by first | exact Nat.le_of_ble_eq_true rfl | simp [encAI_len, encAB_len, encA_len]) (by intro v hv; simp only [List.mem_cons, List.not_mem_nil, or_false] at hv; subst hv; exact slOne (hs.row 1 rfl)) rfl ?_
    intro w hs
    refine g_ops_nil ?_
    refine g_inBlock ?_
    have hs := hs.pull 7 rfl
    have hs := hs.pull 2 rfl
    have hs := hs.pull 7 rfl
    have hs := hs.pull 7 rfl
    have hs := hs.pull 4 rfl
    have hs := hs.pull 7 rfl
    have hs := hs.pull 7 rfl
    have hs : St _ [_,_,_,_,_,_,_] _ := St.take (Γ' := [_]) hs
    exact ha _ _ ⟨v47, x48, v50, x51, v69, x54 ++ ([x58]), v56, x57, H, rfl, hs⟩
   rw [if_neg hk8_] at H
   by_cases hk9_ : rdL ([1, 2, 0] : List Int) a1.f_Kind 0 = 3
   ·
    rw [if_pos hk9_] at H
    refine g_rg [0, 1, 2, 3, 4, 5, 6, 7, 8] rfl ?_
    refine g_op (v := Value.int .i64 (rdL ([1, 2, 0] : List Int) a1.f_Kind 0)) rfl rfl rfl ?_
    refine g_op (v := Value.int .i64 (rdL ([1, 2, 0] : List Int) a1.f_Kind 0)) rfl rfl rfl ?_
    refine s_idxJ (m := 1) 3 hk9_ (by decide) rfl (fun _ => rfl) rfl rfl rfl rfl rfl ?_
    show G _ _ _ _ [_,_,_,_,_,_,_,_,_,_,_,_,_,_,_,_,_,_,_,_,_,_,_,_,_,_,_,_,_,_,_,_,_] _
    refine s_load1 rfl rfl (v := v56) rfl rfl (fun _ => rfl) (cells_load (hs.cells 6 rfl) 3 1 rfl) ?_
    refine g_op (v := Value.int .i8 x58) rfl rfl rfl ?_
    show G _ _ _ _ [_,_,_,_,_,_,_,_,_,_,_,_,_,_,_,_,_,_,_,_,_,_,_,_,_,_,_,_,_,_,_,_,_] _
    refine s_lit1 (fkI .i8) (y := x58) hs rfl rfl rfl rfl (fun _ => rfl) (zv := (Value.int .i8 0)) (fun _ => rfl) rfl (by decide) (by decide) rfl ?_
    intro v71 w hs
    show G _ _ _ _ [_,_,_,_,_,_,_,_,_,_,_,_,_,_,_,_,_,_,_,_,_,_,_,_,_,_,_,_,_,_,_,_,_] _
    have hs := hs.pull 6 rfl
    have hs : St _ [_,_,_,_,_,_,_,_] _ := hs
    obtain ⟨g, H⟩ := ite_get H
    refine s_append (fkI .i8) (zv := (Value.int .i8 0)) (B := 1) hs (hs.row 1 rfl) rfl rfl rfl rfl rfl rfl rfl rfl rfl (by decide) rfl rfl (by decide) (by omega) ?_
    intro v73 w hs
    refine s_idxJ (m := 1) 3 hk9_ (by decide) rfl (fun _ => rfl) rfl rfl rfl rfl rfl ?_
    have hs := hs.pull 7 rfl
    have hs : St _ [_,_,_,_,_,_,_,_] _ := hs
    refine s_store hs rfl rfl (vs := [v73]) (cs' := (([v47, v50, v53, v73] : List Value))) rfl rfl (slCells (hs.row 1 rfl)) (n := 1) (fun _ => rfl) rfl (by first | exact Nat.le_of_ble_eq_true rfl | simp [encAI_len, encAB_len, encA_len]) (by intro v hv; simp only [List.mem_cons, List.not_mem_nil, or_false] at hv; subst hv; exact slOne (hs.row 1 rfl)) rfl ?_
    intro w hs
    refine g_ops_nil ?_
    refine g_inBlock ?_
    have hs := hs.pull 1 rfl
    have hs := hs.pull 7 rfl
    have hs := hs.pull 7 rfl
    have hs := hs.pull 7 rfl
    have hs := hs.pull 4 rfl
    have hs := hs.pull 7 rfl
    have hs := hs.pull 7 rfl
    have hs : St _ [_,_,_,_,_,_,_] _ := St.take (Γ' := [_]) hs
    exact ha _ _ ⟨v47, x48, v50, x51, v53, x54, v73, x57 ++ ([x58]), H, rfl, hs⟩
   rw [if_neg hk9_] at H
   cases H
  intro hb
  rw [if_neg (b_dec_f hb)] at H
  show G _ _ _ _ [_,_,_,_,_,_,_,_,_,_,_,_,_,_,_,_,_,_,_,_,_,_,_,_,_,_,_,_,_,_,_,_,_] _
  refine g_ops_nil (g_seq (g_cond_false rfl ?_))
  obtain rfl := Option.some.inj H
  subst Hx1_
  have hs := hs.pull 5 rfl
  have hs := hs.pull 5 rfl
  have hs := hs.pull 5 rfl
  have hs := hs.pull 5 rfl
  have hs := hs.pull 6 rfl
  have hs := hs.pull 6 rfl
  have hs := hs.pull 6 rfl
  have hs : St _ [_,_,_,_,_,_,_] _ := St.take (Γ' := []) hs
  refine g_exit rfl ?_
  exact ha1_ _ _ ⟨v47, x48, v50, x51, v53, x54, v56, x57, Hr1_, rfl, hs⟩

/- function 34 _impl_sorts_of -/
def _impl_sorts_of.post (w0 : World) (r : S_impl_knowledge) (v : Value) (w : World) : Prop := v = Value.agg (enc_S_impl_knowledge r).toArray ∧ St w0 [] w
set_option maxHeartbeats 8000000 in
set_option maxRecDepth 100000 in
theorem _impl_sorts_of.calls {N : Nat} {a1 : (Ar (List Int) 4)} {a10 : Bool} {v2 : Value} {v4 : Value} {v6 : Value} {v8 : Value} {w0 : World} {r : S_impl_knowledge} (hr3 : RdRow (K.int .i8) w0 v2 (a1.get 0 [])) (hr5 : RdRow (K.int .i8) w0 v4 (a1.get 1 [])) (hr7 : RdRow (K.int .i8) w0 v6 (a1.get 2 [])) (hr9 : RdRow (K.int .i8) w0 v8 (a1.get 3 [])) (H : _impl_sorts_of.f N a1 a10 = some r) :
    Calls Try.prog 34 #[Value.agg (([v2, v4, v6, v8] : List Value)).toArray, Value.bool a10] w0 fun e w => ∃ v, e = .returned v ∧ _impl_sorts_of.post w0 r v w := by
  unfold _impl_sorts_of.f at H
  have hs : St w0 [] w0 := St.refl w0
  refine calls_of_g (n := 20) Try.func34 rfl rfl ?_
  show G _ _ _ _ [_,_,_,_,_,_,_,_,_,_,_,_,_,_,_,_,_,_,_,_,_,_] _
  refine g_seq (g_rg [0, 1] rfl ?_)
  refine s_box hs rfl rfl (cs := (([v2, v4, v6, v8] : List Value))) rfl rfl ?_
  intro b11 w hs
  refine s_alloc hs rfl rfl (z := (Value.agg #[Value.int .i64 0, Value.int .i64 0, Value.int .i64 0, Value.int .i64 0, Value.bool false])) (cs := (enc_S_impl_knowledge z_S_impl_knowledge)) rfl (fun _ => rfl) rfl ?_
  intro b13 w hs
  refine g_ops_nil (g_seq (g_rg [0, 1, 2, 3] rfl ?_))
  refine g_op (v := Value.bool a10) rfl rfl rfl ?_
  show G _ _ _ _ [_,_,_,_,_,_,_,_,_,_,_,_,_,_,_,_,_,_,_,_,_,_] _
  refine g_op (v := Value.agg (enc_S_impl_knowledge (⟨(Ar.rep 4 0), a10⟩ : S_impl_knowledge)).toArray) rfl rfl (x_buildS (cs := (enc_S_impl_knowledge (⟨(Ar.rep 4 0), a10⟩ : S_impl_knowledge))) (segs := [[Value.int .i64 0, Value.int .i64 0, Value.int .i64 0, Value.int .i64 0], [Value.bool false]]) rfl rfl (fun _ => rfl) ⟨rfl, (fun _ => rfl), rfl, (fun _ => rfl), trivial⟩ (by simp only [List.map_cons, List.map_nil, List.forall_mem_cons, List.not_mem_nil, false_implies, implies_true, and_true]; exact ⟨_, rfl, rfl⟩) (by first | rfl | (simp [ev, enc_S_impl_knowledge]; done) | (simp [ev, enc_S_impl_knowledge]; rfl))) ?_
  refine s_alloc hs rfl rfl (z := (Value.agg #[Value.int .i64 0, Value.int .i64 0, Value.int .i64 0, Value.int .i64 0, Value.bool false])) (cs := (enc_S_impl_knowledge z_S_impl_knowledge)) rfl (fun _ => rfl) rfl ?_
  intro b15 w hs
  refine s_storeAll (n := 5) hs (fk_S_impl_knowledge.len _) rfl rfl (vs := (enc_S_impl_knowledge (⟨(Ar.rep 4 0), a10⟩ : S_impl_knowledge))) rfl rfl rfl (fun _ => rfl) (fk_S_impl_knowledge.len _) (fk_S_impl_knowledge.one _) ?_
  intro w hs
  refine g_ops_nil (g_seq (g_seq (g_rg [0, 1] rfl ?_)))
  refine s_loadA rfl rfl (es := (([v2, v4, v6, v8] : List Value))) rfl rfl (fun _ => rfl) (n := 4) (fun _ => rfl) rfl (cells_all (hs.cells 2 rfl)) ?_
  show G _ _ _ _ [_,_,_,_,_,_,_,_,_,_,_,_,_,_,_,_,_,_,_,_,_,_] _
  refine g_op (v := Value.int .i64 0) rfl rfl rfl (g_ops_nil ?_)
  obtain ⟨o1_, Ho, Hr1_⟩ := bind_get H
  refine g_block_join (J := fun t w => ∃ x22 : S_impl_knowledge, _impl_sorts_of.a0 N x22 = some r ∧ Fr t (fun O => ([O 0, O 1, O 2, O 3, Value.pointer (some ⟨b13, 0, none⟩), Value.pointer (some ⟨b15, 0, none⟩), O 6, O 7, O 8, O 9, O 10, O 11, O 12, O 13, O 14, O 15, O 16, O 17, O 18, O 19, O 20, O 21] : List Value)) ∧ St w0 [Cells b13 (enc_S_impl_knowledge z_S_impl_knowledge) 71, Cells b15 (enc_S_impl_knowledge x22) 71] w) ?_ ?_
  ·
   rintro t w ⟨x22, H, hf, hs⟩
   obtain ⟨O, rfl⟩ := hf.open
   show G _ _ _ _ [_,_,_,_,_,_,_,_,_,_,_,_,_,_,_,_,_,_,_,_,_,_] _
   unfold _impl_sorts_of.a0 at H
   refine g_seq (g_rg [0, 1] rfl ?_)
   refine s_loadA rfl rfl (es := (enc_S_impl_knowledge x22)) rfl rfl (fun _ => rfl) (n := 5) (fun _ => rfl) (fk_S_impl_knowledge.len _) (cells_all (hs.cells 1 rfl)) ?_
   refine s_storeAll (n := 5) hs (fk_S_impl_knowledge.len _) rfl rfl (vs := (enc_S_impl_knowledge x22)) rfl rfl rfl (fun _ => rfl) (fk_S_impl_knowledge.len _) (fk_S_impl_knowledge.one _) ?_
   intro w hs
   refine g_ops_nil ?_
   obtain rfl := Option.some.inj H
   refine g_ret Try.func34 (v := Value.agg (enc_S_impl_knowledge x22).toArray) (resC rfl ⟨⟨_, rfl, (run_loadVar_agg (es := (enc_S_impl_knowledge x22)) rfl (congrArg (Result.ok · _) (fk_S_impl_knowledge.len _).symm) (cells_all (hs.cells 0 rfl)))⟩, trivial⟩) ?_
   have hs : St _ [] _ := St.take (Γ' := [_,_]) hs
   exact ⟨_, rfl, rfl, hs⟩
  intro ha1_
  have hs := hs.pull 0 rfl
  have hs := hs.pull 1 rfl
  have hs : St _ [_,_] _ := St.take (Γ' := [_]) hs
  refine g_loop_fuel (I := fun n_ t w => ∃ x19 : S_impl_knowledge, ∃ x20 : Int, rounds (fun s => _impl_sorts_of.b0 N a1 s.1 s.2) n_ (x19, x20) = some o1_ ∧ Fr t (fun O => ([O 0, O 1, O 2, O 3, Value.pointer (some ⟨b13, 0, none⟩), Value.pointer (some ⟨b15, 0, none⟩), O 6, O 7, O 8, O 9, Value.agg (([v2, v4, v6, v8] : List Value)).toArray, Value.int .i64 x20, O 12, O 13, O 14, O 15, O 16, O 17, O 18, O 19, O 20, O 21] : List Value)) ∧ St w0 [Cells b13 (enc_S_impl_knowledge z_S_impl_knowledge) 71, Cells b15 (enc_S_impl_knowledge x19) 71] w) N ⟨(⟨(Ar.rep 4 0), a10⟩ : S_impl_knowledge), 0, Ho, rfl, hs⟩ ?_ ?_
  ·
   rintro _ _ ⟨x19, x20, h, _⟩
   exact rounds_zero h
  intro n_ ih1_
  rintro t w ⟨x19, x20, Ho, hf, hs⟩
  obtain ⟨O, rfl⟩ := hf.open
  show G _ _ _ _ [_,_,_,_,_,_,_,_,_,_,_,_,_,_,_,_,_,_,_,_,_,_] _
  obtain ⟨x17_, H, Hx1_⟩ := rounds_succ Ho
  have H : _impl_sorts_of.b0 N a1 x19 x20 = some x17_ := H
  unfold _impl_sorts_of.b0 at H
  refine g_seq (g_rg [0] rfl ?_)
  refine g_op_b (B := decide (x20 < 4)) rfl rfl rfl ?_ ?_
  ·
   intro hb
   rw [if_pos (b_dec_t hb)] at H
   show G _ _ _ _ [_,_,_,_,_,_,_,_,_,_,_,_,_,_,_,_,_,_,_,_,_,_] _
   refine g_ops_nil (g_seq (g_cond_true rfl (g_skip (g_seq ?_))))
   refine g_block_join (J := (fun t w => ∃ x21 : S_impl_knowledge, _impl_sorts_of.j2 N x20 x21 = some x17_ ∧ Fr t (fun O => ([O 0, O 1, O 2, O 3, Value.pointer (some ⟨b13, 0, none⟩), Value.pointer (some ⟨b15, 0, none⟩), O 6, O 7, O 8, O 9, Value.agg (([v2, v4, v6, v8] : List Value)).toArray, Value.int .i64 x20, O 12, O 13, O 14, O 15, O 16, O 17, O 18, O 19, O 20, O 21] : List Value)) ∧ St w0 [Cells b13 (enc_S_impl_knowledge z_S_impl_knowledge) 71, Cells b15 (enc_S_impl_knowledge x21) 71] w)) ?_ ?_
   ·
    rintro t w ⟨x21, H, hf, hs⟩
    obtain ⟨O, rfl⟩ := hf.open
    show G _ _ _ _ [_,_,_,_,_,_,_,_,_,_,_,_,_,_,_,_,_,_,_,_,_,_] _
    unfold _impl_sorts_of.j2 at H
    refine g_rg [0, 1] rfl ?_
    refine g_op (v := Value.int .i64 (i64w (x20 + 1))) rfl rfl rfl ?_
    refine g_op (v := Value.int .i64 (i64w (x20 + 1))) rfl rfl rfl ?_
    show G _ _ _ _ [_,_,_,_,_,_,_,_,_,_,_,_,_,_,_,_,_,_,_,_,_,_] _
    refine g_ops_nil ?_
    obtain rfl := Option.some.inj H
    have hs := hs.pull 1 rfl
    have hs := hs.pull 1 rfl
    have hs : St _ [_,_] _ := St.take (Γ' := []) hs
    exact ih1_ _ _ ⟨x21, i64w (x20 + 1), Hx1_, rfl, hs⟩
   intro ha
   refine g_seq ?_
   by_cases hk9_ : x20 = 0
   ·
    rw [if_pos hk9_] at H
    refine g_rg [0, 1, 2, 3] rfl ?_
    refine g_op (v := Value.int .i64 x20) rfl rfl rfl ?_
    refine s_indexJ 0 hk9_ (by decide) (cs := ([v2, v4, v6, v8] : List Value)) (v := v2) rfl rfl (fun _ => rfl) (fun _ => rfl) rfl rfl rfl rfl rfl ?_
    refine g_op (v := Value.int .i64 x20) rfl rfl rfl ?_
    show G _ _ _ _ [_,_,_,_,_,_,_,_,_,_,_,_,_,_,_,_,_,_,_,_,_,_] _
    refine g_op (v := v2) rfl rfl rfl (g_ops_nil (g_rg [0, 1, 2, 3, 4, 5] rfl ?_))
    refine g_op (v := Value.int .i64 x20) rfl rfl rfl ?_
    refine g_op (v := v2) rfl rfl rfl ?_
    show G _ _ _ _ [_,_,_,_,_,_,_,_,_,_,_,_,_,_,_,_,_,_,_,_,_,_] _
    refine s_len (hs.rd hr3) rfl rfl rfl rfl rfl ?_
    refine g_op (v := Value.pointer (some ⟨b15, 0, none⟩)) rfl rfl rfl ?_
    obtain ⟨g10, H⟩ := ite_get H
    refine s_idxA (n := x20) (m := 1) rfl (fun _ => rfl) g10.1 g10.2 rfl rfl rfl rfl rfl ?_
    show G _ _ _ _ [_,_,_,_,_,_,_,_,_,_,_,_,_,_,_,_,_,_,_,_,_,_] _
    have hs := hs.pull 1 rfl
    have hs : St _ [_,_] _ := hs
    refine s_storeP (y := ((a1.get 0 []).length : Int)) (a := x19.f_many) (fkI .i64).len (fkI .i64).one g10.1 g10.2 [] (encB x19.f_none) (by simp [enc_S_impl_knowledge, encI, encB, encS]) (by first | rfl | simp [encAI_len, encAB_len, encA_len]) hs rfl rfl (cs' := (enc_S_impl_knowledge (⟨x19.f_many.set x20 ((a1.get 0 []).length : Int), x19.f_none⟩ : S_impl_knowledge))) (by simp [enc_S_impl_knowledge, encI, encB, encS]) rfl rfl rfl (fun _ => rfl) ?_
    intro w hs
    refine g_ops_nil ?_
    refine g_inBlock ?_
    have hs := hs.pull 0 rfl
    have hs := hs.pull 1 rfl
    have hs : St _ [_,_] _ := St.take (Γ' := []) hs
    exact ha _ _ ⟨(⟨x19.f_many.set x20 ((a1.get 0 []).length : Int), x19.f_none⟩ : S_impl_knowledge), H, rfl, hs⟩
   rw [if_neg hk9_] at H
   by_cases hk11_ : x20 = 1
   ·
    rw [if_pos hk11_] at H
    refine g_rg [0, 1, 2, 3] rfl ?_
    refine g_op (v := Value.int .i64 x20) rfl rfl rfl ?_
    refine s_indexJ 1 hk11_ (by decide) (cs := ([v2, v4, v6, v8] : List Value)) (v := v4) rfl rfl (fun _ => rfl) (fun _ => rfl) rfl rfl rfl rfl rfl ?_
    refine g_op (v := Value.int .i64 x20) rfl rfl rfl ?_
    show G _ _ _ _ [_,_,_,_,_,_,_,_,_,_,_,_,_,_,_,_,_,_,_,_,_,_] _
    refine g_op (v := v4) rfl rfl rfl (g_ops_nil (g_rg [0, 1, 2, 3, 4, 5] rfl ?_))
    refine g_op (v := Value.int .i64 x20) rfl rfl rfl ?_
    refine g_op (v := v4) rfl rfl rfl ?_
    show G _ _ _ _ [_,_,_,_,_,_,_,_,_,_,_,_,_,_,_,_,_,_,_,_,_,_] _
    refine s_len (hs.rd hr5) rfl rfl rfl rfl rfl ?_
    refine g_op (v := Value.pointer (some ⟨b15, 0, none⟩)) rfl rfl rfl ?_
    obtain ⟨g12, H⟩ := ite_get H
    refine s_idxA (n := x20) (m := 1) rfl (fun _ => rfl) g12.1 g12.2 rfl rfl rfl rfl rfl ?_
    show G _ _ _ _ [_,_,_,_,_,_,_,_,_,_,_,_,_,_,_,_,_,_,_,_,_,_] _
    have hs := hs.pull 1 rfl
    have hs : St _ [_,_] _ := hs
    refine s_storeP (y := ((a1.get 1 []).length : Int)) (a := x19.f_many) (fkI .i64).len (fkI .i64).one g12.1 g12.2 [] (encB x19.f_none) (by simp [enc_S_impl_knowledge, encI, encB, encS]) (by first | rfl | simp [encAI_len, encAB_len, encA_len]) hs rfl rfl (cs' := (enc_S_impl_knowledge (⟨x19.f_many.set x20 ((a1.get 1 []).length : Int), x19.f_none⟩ : S_impl_knowledge))) (by simp [enc_S_impl_knowledge, encI, encB, encS]) rfl rfl rfl (fun _ => rfl) ?_
    intro w hs
    refine g_ops_nil ?_
    refine g_inBlock ?_
    have hs := hs.pull 0 rfl
    have hs := hs.pull 1 rfl
    have hs : St _ [_,_] _ := St.take (Γ' := []) hs
    exact ha _ _ ⟨(⟨x19.f_many.set x20 ((a1.get 1 []).length : Int), x19.f_none⟩ : S_impl_knowledge), H, rfl, hs⟩
   rw [if_neg hk11_] at H
   by_cases hk13_ : x20 = 2
   ·
    rw [if_pos hk13_] at H
    refine g_rg [0, 1, 2, 3] rfl ?_
    refine g_op (v := Value.int .i64 x20) rfl rfl rfl ?_
    refine s_indexJ 2 hk13_ (by decide) (cs := ([v2, v4, v6, v8] : List Value)) (v := v6) rfl rfl (fun _ => rfl) (fun _ => rfl) rfl rfl rfl rfl rfl ?_
    refine g_op (v := Value.int .i64 x20) rfl rfl rfl ?_
    show G _ _ _ _ [_,_,_,_,_,_,_,_,_,_,_,_,_,_,_,_,_,_,_,_,_,_] _
    refine g_op (v := v6) rfl rfl rfl (g_ops_nil (g_rg [0, 1, 2, 3, 4, 5] rfl ?_))
    refine g_op (v := Value.int .i64 x20) rfl rfl rfl ?_
    refine g_op (v := v6) rfl rfl rfl ?_
    show G _ _ _ _ [_,_,_,_,_,_,_,_,_,_,_,_,_,_,_,_,_,_,_,_,_,_] _
    refine s_len (hs.rd hr7) rfl rfl rfl rfl rfl ?_
    refine g_op (v := Value.pointer (some ⟨b15, 0, none⟩)) rfl rfl rfl ?_
    obtain ⟨g14, H⟩ := ite_get H
    refine s_idxA (n := x20) (m := 1) rfl (fun _ => rfl) g14.1 g14.2 rfl rfl rfl rfl rfl ?_
    show G _ _ _ _ [_,_,_,_,_,_,_,_,_,_,_,_,_,_,_,_,_,_,_,_,_,_] _
    have hs := hs.pull 1 rfl
    have hs : St _ [_,_] _ := hs
    refine s_storeP (y := ((a1.get 2 []).length : Int)) (a := x19.f_many) (fkI .i64).len (fkI .i64).one g14.1 g14.2 [] (encB x19.f_none) (by simp [enc_S_impl_knowledge, encI, encB, encS]) (by first | rfl | simp [encAI_len, encAB_len, encA_len]) hs rfl rfl (cs' := (enc_S_impl_knowledge (⟨x19.f_many.set x20 ((a1.get 2 []).length : Int), x19.f_none⟩ : S_impl_knowledge))) (by simp [enc_S_impl_knowledge, encI, encB, encS]) rfl rfl rfl (fun _ => rfl) ?_
    intro w hs
    refine g_ops_nil ?_
    refine g_inBlock ?_
    have hs := hs.pull 0 rfl
    have hs := hs.pull 1 rfl
    have hs : St _ [_,_] _ := St.take (Γ' := []) hs
    exact ha _ _ ⟨(⟨x19.f_many.set x20 ((a1.get 2 []).length : Int), x19.f_none⟩ : S_impl_knowledge), H, rfl, hs⟩
   rw [if_neg hk13_] at H
   by_cases hk15_ : x20 = 3
   ·
    rw [if_pos hk15_] at H
    refine g_rg [0, 1, 2, 3] rfl ?_
    refine g_op (v := Value.int .i64 x20) rfl rfl rfl ?_
    refine s_indexJ 3 hk15_ (by decide) (cs := ([v2, v4, v6, v8] : List Value)) (v := v8) rfl rfl (fun _ => rfl) (fun _ => rfl) rfl rfl rfl rfl rfl ?_
    refine g_op (v := Value.int .i64 x20) rfl rfl rfl ?_
    show G _ _ _ _ [_,_,_,_,_,_,_,_,_,_,_,_,_,_,_,_,_,_,_,_,_,_] _
    refine g_op (v := v8) rfl rfl rfl (g_ops_nil (g_rg [0, 1, 2, 3, 4, 5] rfl ?_))
    refine g_op (v := Value.int .i64 x20) rfl rfl rfl ?_
    refine g_op (v := v8) rfl rfl rfl ?_
    show G _ _ _ _ [_,_,_,_,_,_,_,_,_,_,_,_,_,_,_,_,_,_,_,_,_,_] _
    refine s_len (hs.rd hr9) rfl rfl rfl rfl rfl ?_
    refine g_op (v := Value.pointer (some ⟨b15, 0, none⟩)) rfl rfl rfl ?_
    obtain ⟨g16, H⟩ := ite_get H
    refine s_idxA (n := x20) (m := 1) rfl (fun _ => rfl) g16.1 g16.2 rfl rfl rfl rfl rfl ?_
    show G _ _ _ _ [_,_,_,_,_,_,_,_,_,_,_,_,_,_,_,_,_,_,_,_,_,_] _
    have hs := hs.pull 1 rfl
    have hs : St _ [_,_] _ := hs
    refine s_storeP (y := ((a1.get 3 []).length : Int)) (a := x19.f_many) (fkI .i64).len (fkI .i64).one g16.1 g16.2 [] (encB x19.f_none) (by simp [enc_S_impl_knowledge, encI, encB, encS]) (by first | rfl | simp [encAI_len, encAB_len, encA_len]) hs rfl rfl (cs' := (enc_S_impl_knowledge (⟨x19.f_many.set x20 ((a1.get 3 []).length : Int), x19.f_none⟩ : S_impl_knowledge))) (by simp [enc_S_impl_knowledge, encI, encB, encS]) rfl rfl rfl (fun _ => rfl) ?_
    intro w hs
    refine g_ops_nil ?_
    refine g_inBlock ?_
    have hs := hs.pull 0 rfl
    have hs := hs.pull 1 rfl
    have hs : St _ [_,_] _ := St.take (Γ' := []) hs
    exact ha _ _ ⟨(⟨x19.f_many.set x20 ((a1.get 3 []).length : Int), x19.f_none⟩ : S_impl_knowledge), H, rfl, hs⟩
   rw [if_neg hk15_] at H
   cases H
  intro hb
  rw [if_neg (b_dec_f hb)] at H
  refine g_ops_nil (g_seq (g_cond_false rfl ?_))
  obtain rfl := Option.some.inj H
  subst Hx1_
  have hs := hs.pull 1 rfl
  have hs := hs.pull 1 rfl
  have hs : St _ [_,_] _ := St.take (Γ' := []) hs
  refine g_exit rfl ?_
  exact ha1_ _ _ ⟨x19, Hr1_, rfl, hs⟩

/- function 59 _impl_knowledge_cases -/
def _impl_knowledge_cases.post (w0 : World) (r : Int) (v : Value) (w : World) : Prop := v = Value.int .i64 r ∧ St w0 [] w
set_option maxHeartbeats 8000000 in
set_option maxRecDepth 100000 in
theorem _impl_knowledge_cases.calls {N : Nat} {a1 : S_impl_knowledge} {w0 : World} {r : Int} (H : _impl_knowledge_cases.f N a1 = some r) :
    Calls Try.prog 59 #[Value.agg (enc_S_impl_knowledge a1).toArray] w0 fun e w => ∃ v, e = .returned v ∧ _impl_knowledge_cases.post w0 r v w := by
  unfold _impl_knowledge_cases.f at H
  have hs : St w0 [] w0 := St.refl w0
  refine calls_of_g (n := 20) Try.func59 rfl rfl ?_
  show G _ _ _ _ [_,_,_,_,_,_,_,_,_,_,_,_,_,_,_,_,_,_,_,_,_] _
  refine g_seq (g_rg [0, 1] rfl ?_)
  refine s_box hs rfl rfl (cs := (enc_S_impl_knowledge a1)) rfl rfl ?_
  intro b2 w hs
  refine g_op (v := Value.int .i64 0) rfl rfl rfl (g_ops_nil (g_seq (g_rg [0, 1, 2, 3, 4, 5, 6, 7, 8, 9, 10, 11, 12] rfl ?_)))
  refine g_op (v := Value.pointer (some ⟨b2, 0, none⟩)) rfl rfl rfl ?_
  show G _ _ _ _ [_,_,_,_,_,_,_,_,_,_,_,_,_,_,_,_,_,_,_,_,_] _
  obtain ⟨g1, H⟩ := ite_get H
  refine s_idxA (n := 0) (m := 1) rfl (fun _ => rfl) g1.1 g1.2 rfl rfl rfl rfl rfl ?_
  refine s_load1 rfl rfl (v := Value.int .i64 (a1.f_many.get 0 0)) rfl rfl (fun _ => rfl) (cells_load (hs.cells 0 rfl) _ _ (part_get (i := 0) (fkI .i64).len a1.f_many 0 g1.1 g1.2 [] (encB a1.f_none) (by simp [enc_S_impl_knowledge, encI, encB, encS]) (by first | rfl | simp [encAI_len, encAB_len, encA_len]))) ?_
  refine g_op (v := Value.int .i64 (i64w (2 * (a1.f_many.get 0 0)))) rfl rfl rfl ?_
  show G _ _ _ _ [_,_,_,_,_,_,_,_,_,_,_,_,_,_,_,_,_,_,_,_,_] _
  refine g_op (v := Value.pointer (some ⟨b2, 0, none⟩)) rfl rfl rfl ?_
  obtain ⟨g2, H⟩ := ite_get H
  refine s_idxA (n := 1) (m := 1) rfl (fun _ => rfl) g2.1 g2.2 rfl rfl rfl rfl rfl ?_
  refine s_load1 rfl rfl (v := Value.int .i64 (a1.f_many.get 1 0)) rfl rfl (fun _ => rfl) (cells_load (hs.cells 0 rfl) _ _ (part_get (i := 1) (fkI .i64).len a1.f_many 0 g2.1 g2.2 [] (encB a1.f_none) (by simp [enc_S_impl_knowledge, encI, encB, encS]) (by first | rfl | simp [encAI_len, encAB_len, encA_len]))) ?_
  show G _ _ _ _ [_,_,_,_,_,_,_,_,_,_,_,_,_,_,_,_,_,_,_,_,_] _
  refine g_op (v := Value.int .i64 (i64w ((i64w (2 * (a1.f_many.get 0 0))) + (a1.f_many.get 1 0)))) rfl rfl rfl ?_
  refine g_op (v := Value.pointer (some ⟨b2, 0, none⟩)) rfl rfl rfl ?_
  obtain ⟨g3, H⟩ := ite_get H
  refine s_idxA (n := 2) (m := 1) rfl (fun _ => rfl) g3.1 g3.2 rfl rfl rfl rfl rfl ?_
  show G _ _ _ _ [_,_,_,_,_,_,_,_,_,_,_,_,_,_,_,_,_,_,_,_,_] _
  refine s_load1 rfl rfl (v := Value.int .i64 (a1.f_many.get 2 0)) rfl rfl (fun _ => rfl) (cells_load (hs.cells 0 rfl) _ _ (part_get (i := 2) (fkI .i64).len a1.f_many 0 g3.1 g3.2 [] (encB a1.f_none) (by simp [enc_S_impl_knowledge, encI, encB, encS]) (by first | rfl | simp [encAI_len, encAB_len, encA_len]))) ?_
  refine g_op (v := Value.int .i64 (i64w ((i64w ((i64w (2 * (a1.f_many.get 0 0))) + (a1.f_many.get 1 0))) + (a1.f_many.get 2 0)))) rfl rfl rfl ?_
  refine g_op (v := Value.int .i64 (i64w ((i64w ((i64w (2 * (a1.f_many.get 0 0))) + (a1.f_many.get 1 0))) + (a1.f_many.get 2 0)))) rfl rfl rfl ?_
  show G _ _ _ _ [_,_,_,_,_,_,_,_,_,_,_,_,_,_,_,_,_,_,_,_,_] _
  refine g_ops_nil (g_seq (g_seq (g_rg [0, 1] rfl ?_)))
  refine g_op (v := Value.pointer (some ⟨b2, 4, none⟩)) rfl rfl rfl ?_
  by_cases hb4_ : a1.f_none = true
  ·
   rw [if_pos hb4_] at H
   refine s_load1 rfl rfl (v := Value.bool true) rfl rfl (fun _ => rfl) (cells_load (hs.cells 0 rfl) 4 1 (Eq.trans (b := [Value.bool a1.f_none]) (by first | rfl | (simp only [enc_S_impl_knowledge]; simp [List.drop_append, List.take_append, encAI_len, encAB_len, List.take_of_length_le])) (congrArg (fun b => [Value.bool b]) hb4_))) (g_ops_nil (g_cond_true rfl (g_rg [0, 1, 2] rfl ?_)))
   refine g_op (v := Value.int .i64 (i64w ((i64w ((i64w (2 * (a1.f_many.get 0 0))) + (a1.f_many.get 1 0))) + (a1.f_many.get 2 0)))) rfl rfl rfl ?_
   refine g_op (v := Value.int .i64 (i64w ((i64w ((i64w ((i64w (2 * (a1.f_many.get 0 0))) + (a1.f_many.get 1 0))) + (a1.f_many.get 2 0))) + 1))) rfl rfl rfl ?_
   show G _ _ _ _ [_,_,_,_,_,_,_,_,_,_,_,_,_,_,_,_,_,_,_,_,_] _
   refine g_op (v := Value.int .i64 (i64w ((i64w ((i64w ((i64w (2 * (a1.f_many.get 0 0))) + (a1.f_many.get 1 0))) + (a1.f_many.get 2 0))) + 1))) rfl rfl rfl (g_ops_nil (g_seq (g_rg [0, 1] rfl ?_)))
   refine g_op (v := Value.int .i64 (i64w ((i64w ((i64w ((i64w (2 * (a1.f_many.get 0 0))) + (a1.f_many.get 1 0))) + (a1.f_many.get 2 0))) + 1))) rfl rfl rfl ?_
   refine g_op (v := Value.int .i64 (i64w ((i64w ((i64w ((i64w (2 * (a1.f_many.get 0 0))) + (a1.f_many.get 1 0))) + (a1.f_many.get 2 0))) + 1))) rfl rfl rfl ?_
   show G _ _ _ _ [_,_,_,_,_,_,_,_,_,_,_,_,_,_,_,_,_,_,_,_,_] _
   refine g_ops_nil ?_
   obtain rfl := Option.some.inj H
   refine g_ret Try.func59 (v := Value.int .i64 (i64w ((i64w ((i64w ((i64w (2 * (a1.f_many.get 0 0))) + (a1.f_many.get 1 0))) + (a1.f_many.get 2 0))) + 1))) (res1 rfl rfl) ?_
   have hs : St _ [] _ := St.take (Γ' := [_]) hs
   exact ⟨_, rfl, rfl, hs⟩
  rw [if_neg hb4_] at H
  refine s_load1 rfl rfl (v := Value.bool false) rfl rfl (fun _ => rfl) (cells_load (hs.cells 0 rfl) 4 1 (Eq.trans (b := [Value.bool a1.f_none]) (by first | rfl | (simp only [enc_S_impl_knowledge]; simp [List.drop_append, List.take_append, encAI_len, encAB_len, List.take_of_length_le])) (congrArg (fun b => [Value.bool b]) (Bool.eq_false_iff.2 hb4_)))) (g_ops_nil (g_cond_false rfl (g_skip (g_seq ?_))))
  refine g_rg [0, 1] rfl ?_
  refine g_op (v := Value.int .i64 (i64w ((i64w ((i64w (2 * (a1.f_many.get 0 0))) + (a1.f_many.get 1 0))) + (a1.f_many.get 2 0)))) rfl rfl rfl ?_
  show G _ _ _ _ [_,_,_,_,_,_,_,_,_,_,_,_,_,_,_,_,_,_,_,_,_] _
  refine g_op (v := Value.int .i64 (i64w ((i64w ((i64w (2 * (a1.f_many.get 0 0))) + (a1.f_many.get 1 0))) + (a1.f_many.get 2 0)))) rfl rfl rfl (g_ops_nil ?_)
  obtain rfl := Option.some.inj H
  refine g_ret Try.func59 (v := Value.int .i64 (i64w ((i64w ((i64w (2 * (a1.f_many.get 0 0))) + (a1.f_many.get 1 0))) + (a1.f_many.get 2 0)))) (res1 rfl rfl) ?_
  have hs : St _ [] _ := St.take (Γ' := [_]) hs
  exact ⟨_, rfl, rfl, hs⟩

end Go.Proofs.YtgpdpedpmhonkaaX
