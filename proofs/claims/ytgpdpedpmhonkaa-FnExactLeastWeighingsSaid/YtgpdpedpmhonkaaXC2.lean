/- Contracts, printed by gen.py. -/
import Derived.Test.YtgpdpedpmhonkaaXT
import Derived.Test.YtgpdpedpmhonkaaProg
import Derived.Test.YtgpdpedpmhonkaaXRowR
import Derived.Test.YtgpdpedpmhonkaaXSq
import Derived.Test.YtgpdpedpmhonkaaXSeg
import Derived.Test.YtgpdpedpmhonkaaXKey
import Derived.Test.YtgpdpedpmhonkaaXPart
namespace Go.Proofs.YtgpdpedpmhonkaaX
open Go Go.RowKit Go.Proofs
set_option linter.unusedVariables false
set_option linter.unusedSimpArgs false
/- function 29 spec_l03Begin -/
def spec_l03Begin.post (w0 : World) (r : (S_spec_l03Finder × S_spec_l03Known)) (v : Value) (w : World) : Prop := ∃ b1 : Nat, ∃ u2 : Value, v = Value.tuple #[Value.pointer (some ⟨b1, 0, none⟩), Value.agg (enc_S_spec_l03Known r.2).toArray] ∧ St w0 [Cells b1 (([Value.int .i64 r.1.f_all, u2] : List Value)) 99, Row 22 (K.int .i8) u2 r.1.f_seen] w
set_option maxHeartbeats 8000000 in
set_option maxRecDepth 100000 in
theorem spec_l03Begin.calls {N : Nat} {a1 : S_laws_Task} {w0 : World} {r : (S_spec_l03Finder × S_spec_l03Known)} (H : spec_l03Begin.f N a1 = some r) :
    Calls Try.prog 29 #[Value.agg (enc_S_laws_Task a1).toArray] w0 fun e w => ∃ v, e = .returned v ∧ spec_l03Begin.post w0 r v w := by
  unfold spec_l03Begin.f at H
  have hs : St w0 [] w0 := St.refl w0
  refine calls_of_g (n := 44) Try.func29 rfl rfl ?_
  show G _ _ _ _ [_,_,_,_,_,_,_,_,_,_,_,_,_,_,_,_,_,_,_,_,_,_,_,_,_,_,_,_,_,_,_,_,_,_,_,_,_,_,_,_,_,_,_,_,_] _
  refine g_seq (g_rg [0, 1, 2] rfl ?_)
  refine s_box hs rfl rfl (cs := (enc_S_laws_Task a1)) rfl rfl ?_
  intro b2 w hs
  show G _ _ _ _ [_,_,_,_,_,_,_,_,_,_,_,_,_,_,_,_,_,_,_,_,_,_,_,_,_,_,_,_,_,_,_,_,_,_,_,_,_,_,_,_,_,_,_,_,_] _
  refine g_op (v := Value.pointer none) rfl rfl rfl ?_
  refine s_alloc hs rfl rfl (z := (Value.agg #[Value.int .i64 0, Value.int .i64 0, Value.int .i64 0, Value.int .i64 0])) (cs := (enc_S_spec_l03Known z_S_spec_l03Known)) rfl (fun _ => rfl) rfl ?_
  intro b4 w hs
  refine g_ops_nil (g_seq ?_)
  obtain ⟨gq3_, H⟩ := ite_get H
  refine g_name ?_
  intro T hT
  refine g_any (n := 7) rfl [0, 1, 2, 3, 4, 5, 6] [0, 1, 2, 3, 4, 5, 6] rfl rfl (Inv := fun D t w => ∃ v6 : Value, ∃ b8 : Nat, ∃ O : Nat → Value, t = [Value.agg (enc_S_laws_Task a1).toArray, Value.pointer (some ⟨b2, 0, none⟩), Value.pointer none, Value.pointer (some ⟨b4, 0, none⟩), cnd (D 6) (Value.pointer (some ⟨b8, 0, none⟩)) (O 4), O 5, cnd (D 0) (Value.pointer (some ⟨b2, 0, none⟩)) (O 6), cnd (D 1) (Value.int .i8 a1.f_Coins) (O 7), cnd (D 2) (Value.int .i64 (i64w a1.f_Coins)) (O 8), cnd (D 3) v6 (O 9), cnd (D 4) (Value.agg (([Value.int .i64 (i64w a1.f_Coins), v6] : List Value)).toArray) (O 10), cnd (D 5) (Value.pointer (some ⟨b8, 0, none⟩)) (O 11), O 12, O 13, O 14, O 15, O 16, O 17, O 18, O 19, O 20, O 21, O 22, O 23, O 24, O 25, O 26, O 27, O 28, O 29, O 30, O 31, O 32, O 33, O 34, O 35, O 36, O 37, O 38, O 39, O 40, O 41, O 42, O 43, O 44] ∧ St w0 [Asc (D 3) (Row 22 (K.int .i8) v6 (List.replicate ((32928 : Int)).toNat (0 : Int))), Asc (D 5) (Cells b8 (([Value.int .i64 (i64w a1.f_Coins), v6] : List Value)) 99), Cells b4 (enc_S_spec_l03Known z_S_spec_l03Known) 62, Cells b2 (enc_S_laws_Task a1) 27] w) ?_ ⟨⟨⟨⟨⟨⟨⟨trivial, ?_⟩, ?_⟩, ?_⟩, ?_⟩, ?_⟩, ?_⟩, ?_⟩ ?_
  ·
   intro w hh hbw
   have hs := hs.samew hh hbw
   have hs := hs.emp
   have hs := hs.emp
   exact ⟨undef, 0, fun i => T.getD i undef, (by subst hT; rfl), hs⟩
  ·
   rintro D t w hD hp hcl ⟨v6, b8, O, ht, hs⟩ rest hk
   have q1_ := nz hcl 1 0 hD
   have q2_ := nz hcl 2 0 q1_
   have q4_ := nz hcl 4 0 q2_
   have q5_ := nz hcl 5 0 q4_
   have q6_ := nz hcl 6 0 q5_
   simp only [hD, q1_, q2_, q4_, q5_, q6_, cq] at ht hs
   subst ht
   refine g_op (v := Value.pointer (some ⟨b2, 0, none⟩)) rfl rfl rfl ?_
   show G _ _ _ _ [_,_,_,_,_,_,_,_,_,_,_,_,_,_,_,_,_,_,_,_,_,_,_,_,_,_,_,_,_,_,_,_,_,_,_,_,_,_,_,_,_,_,_,_,_] _
   refine hk _ _ ⟨v6, b8, O, ?_, hs.cast ?_⟩ <;> simp only [lq, cq, Nat.reduceBEq, q1_, q2_, q4_, q5_, q6_]
  ·
   rintro D t w hD hp hcl ⟨v6, b8, O, ht, hs⟩ rest hk
   obtain ⟨p0_, _⟩ := hp
   have q2_ := nz hcl 2 0 hD
   have q4_ := nz hcl 4 0 q2_
   have q5_ := nz hcl 5 0 q4_
   have q6_ := nz hcl 6 0 q5_
   simp only [hD, p0_, q2_, q4_, q5_, q6_, cq] at ht hs
   subst ht
   refine s_load1 rfl rfl (v := Value.int .i8 a1.f_Coins) rfl rfl (fun _ => rfl) (cells_load (hs.cells 3 rfl) 0 1 rfl) ?_
   show G _ _ _ _ [_,_,_,_,_,_,_,_,_,_,_,_,_,_,_,_,_,_,_,_,_,_,_,_,_,_,_,_,_,_,_,_,_,_,_,_,_,_,_,_,_,_,_,_,_] _
   refine hk _ _ ⟨v6, b8, O, ?_, hs.cast ?_⟩ <;> simp only [lq, cq, Nat.reduceBEq, p0_, q2_, q4_, q5_, q6_]
  ·
   rintro D t w hD hp hcl ⟨v6, b8, O, ht, hs⟩ rest hk
   obtain ⟨p1_, _⟩ := hp
   obtain ⟨p0_, _⟩ := (hcl.get 1 (by decide)) p1_
   have q4_ := nz hcl 4 0 hD
   have q5_ := nz hcl 5 0 q4_
   have q6_ := nz hcl 6 0 q5_
   simp only [hD, p0_, p1_, q4_, q5_, q6_, cq] at ht hs
   subst ht
   refine g_op (v := Value.int .i64 (i64w a1.f_Coins)) rfl rfl rfl ?_
   show G _ _ _ _ [_,_,_,_,_,_,_,_,_,_,_,_,_,_,_,_,_,_,_,_,_,_,_,_,_,_,_,_,_,_,_,_,_,_,_,_,_,_,_,_,_,_,_,_,_] _
   refine hk _ _ ⟨v6, b8, O, ?_, hs.cast ?_⟩ <;> simp only [lq, cq, Nat.reduceBEq, p0_, p1_, q4_, q5_, q6_]
  ·
   rintro D t w hD hp hcl ⟨v6, b8, O, ht, hs⟩ rest hk
   have q4_ := nz hcl 4 1 hD
   have q5_ := nz hcl 5 0 q4_
   have q6_ := nz hcl 6 0 q5_
   simp only [hD, q4_, q5_, q6_, cq] at ht hs
   subst ht
   refine s_make (κ := (K.int .i8)) (z := 0) (zc := ((encI .i8) 0)) (zv := (Value.int .i8 0)) (B := 1) hs rfl rfl rfl rfl rfl gq3_.1 rfl rfl rfl rfl rfl (fun _ => ⟨rfl, rfl⟩) rfl (by decide) (by have := gq3_.2; omega) ?_
   intro v6 w hs
   show G _ _ _ _ [_,_,_,_,_,_,_,_,_,_,_,_,_,_,_,_,_,_,_,_,_,_,_,_,_,_,_,_,_,_,_,_,_,_,_,_,_,_,_,_,_,_,_,_,_] _
   have hs := hs.fill 0 rfl
   refine hk _ _ ⟨v6, b8, O, ?_, hs.cast ?_⟩ <;> simp only [lq, cq, Nat.reduceBEq, q4_, q5_, q6_]
  ·
   rintro D t w hD hp hcl ⟨v6, b8, O, ht, hs⟩ rest hk
   obtain ⟨p2_, p3_, _⟩ := hp
   obtain ⟨p1_, _⟩ := (hcl.get 2 (by decide)) p2_
   obtain ⟨p0_, _⟩ := (hcl.get 1 (by decide)) p1_
   have q5_ := nz hcl 5 0 hD
   have q6_ := nz hcl 6 0 q5_
   simp only [hD, p0_, p1_, p2_, p3_, q5_, q6_, cq] at ht hs
   subst ht
   refine g_op (v := Value.agg (([Value.int .i64 (i64w a1.f_Coins), v6] : List Value)).toArray) rfl rfl (x_buildS (cs := (([Value.int .i64 (i64w a1.f_Coins), v6] : List Value))) (segs := [[Value.int .i64 0], [Value.slice none 0 0]]) rfl rfl (fun _ => rfl) ⟨rfl, (fun _ => rfl), rfl, (fun _ => rfl), trivial⟩ (by simp only [List.map_cons, List.map_nil, List.forall_mem_cons, List.not_mem_nil, false_implies, implies_true, and_true]; exact ⟨⟨_, rfl, rfl⟩, ⟨_, rfl, slSize (hs.row 0 rfl)⟩⟩) (by first | rfl | (simp [ev, encA, slCells (hs.row 0 rfl)]; done) | (simp [ev, encA, slCells (hs.row 0 rfl)]; rfl))) ?_
   show G _ _ _ _ [_,_,_,_,_,_,_,_,_,_,_,_,_,_,_,_,_,_,_,_,_,_,_,_,_,_,_,_,_,_,_,_,_,_,_,_,_,_,_,_,_,_,_,_,_] _
   refine hk _ _ ⟨v6, b8, O, ?_, hs.cast ?_⟩ <;> simp only [lq, cq, Nat.reduceBEq, p0_, p1_, p2_, p3_, q5_, q6_]
  ·
   rintro D t w hD hp hcl ⟨v6, b8, O, ht, hs⟩ rest hk
   obtain ⟨p4_, _⟩ := hp
   obtain ⟨p2_, p3_, _⟩ := (hcl.get 4 (by decide)) p4_
   obtain ⟨p1_, _⟩ := (hcl.get 2 (by decide)) p2_
   obtain ⟨p0_, _⟩ := (hcl.get 1 (by decide)) p1_
   have q6_ := nz hcl 6 0 hD
   simp only [hD, p0_, p1_, p2_, p3_, p4_, q6_, cq] at ht hs
   subst ht
   refine s_box hs rfl rfl (cs := (([Value.int .i64 (i64w a1.f_Coins), v6] : List Value))) rfl rfl ?_
   intro b8 w hs
   show G _ _ _ _ [_,_,_,_,_,_,_,_,_,_,_,_,_,_,_,_,_,_,_,_,_,_,_,_,_,_,_,_,_,_,_,_,_,_,_,_,_,_,_,_,_,_,_,_,_] _
   have hs := hs.fill 1 rfl
   refine hk _ _ ⟨v6, b8, O, ?_, hs.cast ?_⟩ <;> simp only [lq, cq, Nat.reduceBEq, p0_, p1_, p2_, p3_, p4_, q6_]
  ·
   rintro D t w hD hp hcl ⟨v6, b8, O, ht, hs⟩ rest hk
   obtain ⟨p5_, p0_, p1_, p2_, p3_, p4_, _, _⟩ := hp
   simp only [hD, p0_, p1_, p2_, p3_, p4_, p5_, cq] at ht hs
   subst ht
   refine g_op (v := Value.pointer (some ⟨b8, 0, none⟩)) rfl rfl rfl ?_
   show G _ _ _ _ [_,_,_,_,_,_,_,_,_,_,_,_,_,_,_,_,_,_,_,_,_,_,_,_,_,_,_,_,_,_,_,_,_,_,_,_,_,_,_,_,_,_,_,_,_] _
   refine hk _ _ ⟨v6, b8, O, ?_, hs.cast ?_⟩ <;> simp only [lq, cq, Nat.reduceBEq, p0_, p1_, p2_, p3_, p4_, p5_]
  intro D t w hall hI
  obtain ⟨v6, b8, O, ht, hs⟩ := hI
  have p0_ := hall 0 (by decide)
  have p1_ := hall 1 (by decide)
  have p2_ := hall 2 (by decide)
  have p3_ := hall 3 (by decide)
  have p4_ := hall 4 (by decide)
  have p5_ := hall 5 (by decide)
  have p6_ := hall 6 (by decide)
  simp only [p0_, p1_, p2_, p3_, p4_, p5_, p6_, cq] at ht hs
  subst ht
  refine g_seq (g_seq ?_)
  refine g_join2 (J := (fun t w => ∃ x12 : Int, spec_l03Begin.j0 N a1 x12 = some r ∧ Fr t (fun O => ([O 0, Value.pointer (some ⟨b2, 0, none⟩), O 2, Value.pointer (some ⟨b4, 0, none⟩), Value.pointer (some ⟨b8, 0, none⟩), O 5, O 6, O 7, O 8, O 9, O 10, O 11, O 12, O 13, O 14, O 15, O 16, O 17, O 18, O 19, O 20, O 21, O 22, O 23, O 24, O 25, O 26, O 27, O 28, O 29, O 30, O 31, O 32, O 33, O 34, O 35, O 36, O 37, O 38, O 39, O 40, O 41, O 42, O 43, O 44] : List Value)) ∧ St w0 [Cells b2 (enc_S_laws_Task a1) 27, Cells b4 (enc_S_spec_l03Known z_S_spec_l03Known) 62, Cells b8 (([Value.int .i64 x12, v6] : List Value)) 99, Row 22 (K.int .i8) v6 (List.replicate ((32928 : Int)).toNat (0 : Int))] w)) ?_ ?_
  ·
   rintro t w ⟨x12, H, hf, hs⟩
   obtain ⟨O, rfl⟩ := hf.open
   show G _ _ _ _ [_,_,_,_,_,_,_,_,_,_,_,_,_,_,_,_,_,_,_,_,_,_,_,_,_,_,_,_,_,_,_,_,_,_,_,_,_,_,_,_,_,_,_,_,_] _
   unfold spec_l03Begin.j0 at H
   refine g_seq (g_rg [0, 1, 2] rfl ?_)
   refine g_op (v := Value.agg (enc_S_spec_l03Known (⟨0, 0, 0, 0⟩ : S_spec_l03Known)).toArray) rfl rfl (x_buildS (cs := (enc_S_spec_l03Known (⟨0, 0, 0, 0⟩ : S_spec_l03Known))) (segs := [[Value.int .i64 0], [Value.int .i64 0], [Value.int .i64 0], [Value.int .i64 0]]) rfl rfl (fun _ => rfl) ⟨rfl, (fun _ => rfl), rfl, (fun _ => rfl), rfl, (fun _ => rfl), rfl, (fun _ => rfl), trivial⟩ (by simp) (by first | rfl | (simp [ev, enc_S_spec_l03Known]; done) | (simp [ev, enc_S_spec_l03Known]; rfl))) ?_
   refine s_alloc hs rfl rfl (z := (Value.agg #[Value.int .i64 0, Value.int .i64 0, Value.int .i64 0, Value.int .i64 0])) (cs := (enc_S_spec_l03Known z_S_spec_l03Known)) rfl (fun _ => rfl) rfl ?_
   intro b14 w hs
   refine s_storeAll (n := 4) hs (fk_S_spec_l03Known.len _) rfl rfl (vs := (enc_S_spec_l03Known (⟨0, 0, 0, 0⟩ : S_spec_l03Known))) rfl rfl rfl (fun _ => rfl) (fk_S_spec_l03Known.len _) (fk_S_spec_l03Known.one _) ?_
   intro w hs
   refine g_ops_nil (g_seq (g_seq (g_rg [0, 1] rfl ?_)))
   refine g_op (v := Value.pointer (some ⟨b2, 1, none⟩)) rfl rfl rfl ?_
   refine s_load1 rfl rfl (v := Value.int .i8 a1.f_Kind) rfl rfl (fun _ => rfl) (cells_load (hs.cells 1 rfl) 1 1 rfl) ?_
   show G _ _ _ _ [_,_,_,_,_,_,_,_,_,_,_,_,_,_,_,_,_,_,_,_,_,_,_,_,_,_,_,_,_,_,_,_,_,_,_,_,_,_,_,_,_,_,_,_,_] _
   refine g_ops_nil ?_
   refine g_block_join (J := (fun t w => ∃ x17 : S_spec_l03Known, spec_l03Begin.j1 N a1 x12 x17 = some r ∧ Fr t (fun O => ([O 0, Value.pointer (some ⟨b2, 0, none⟩), O 2, Value.pointer (some ⟨b4, 0, none⟩), Value.pointer (some ⟨b8, 0, none⟩), Value.pointer (some ⟨b14, 0, none⟩), O 6, O 7, O 8, O 9, O 10, O 11, O 12, O 13, O 14, O 15, O 16, O 17, O 18, O 19, O 20, O 21, O 22, O 23, O 24, O 25, O 26, O 27, O 28, O 29, O 30, O 31, O 32, O 33, O 34, O 35, O 36, O 37, O 38, O 39, O 40, O 41, O 42, O 43, O 44] : List Value)) ∧ St w0 [Cells b2 (enc_S_laws_Task a1) 27, Cells b4 (enc_S_spec_l03Known z_S_spec_l03Known) 62, Cells b8 (([Value.int .i64 x12, v6] : List Value)) 99, Row 22 (K.int .i8) v6 (List.replicate ((32928 : Int)).toNat (0 : Int)), Cells b14 (enc_S_spec_l03Known x17) 62] w)) ?_ ?_
   ·
    rintro t w ⟨x17, H, hf, hs⟩
    obtain ⟨O, rfl⟩ := hf.open
    show G _ _ _ _ [_,_,_,_,_,_,_,_,_,_,_,_,_,_,_,_,_,_,_,_,_,_,_,_,_,_,_,_,_,_,_,_,_,_,_,_,_,_,_,_,_,_,_,_,_] _
    unfold spec_l03Begin.j1 at H
    refine g_seq (g_seq (g_rg [0, 1] rfl ?_))
    refine g_op (v := Value.pointer (some ⟨b2, 2, none⟩)) rfl rfl rfl ?_
    by_cases hb2_ : a1.f_None = true
    ·
     rw [if_pos hb2_] at H
     refine s_load1 rfl rfl (v := Value.bool true) rfl rfl (fun _ => rfl) (cells_load (hs.cells 0 rfl) 2 1 (Eq.trans (b := [Value.bool a1.f_None]) rfl (congrArg (fun b => [Value.bool b]) hb2_))) ?_
     show G _ _ _ _ [_,_,_,_,_,_,_,_,_,_,_,_,_,_,_,_,_,_,_,_,_,_,_,_,_,_,_,_,_,_,_,_,_,_,_,_,_,_,_,_,_,_,_,_,_] _
     refine g_ops_nil (g_cond_true rfl (g_rg [0, 1] rfl ?_))
     refine g_op (v := Value.pointer (some ⟨b14, 3, none⟩)) rfl rfl rfl ?_
     have hs := hs.pull 4 rfl
     have hs : St _ [_,_,_,_,_] _ := hs
     refine s_store hs rfl rfl (vs := ((encI .i64) 1)) (cs' := (enc_S_spec_l03Known (⟨x17.f_open, x17.f_heavy, x17.f_light, 1⟩ : S_spec_l03Known))) rfl rfl rfl (n := 1) (fun _ => rfl) ((fkI .i64).len _) (by first | exact Nat.le_of_ble_eq_true rfl | simp [encAI_len, encAB_len, encA_len]) ((fkI .i64).one _) rfl ?_
     intro w hs
     refine g_ops_nil (g_seq ?_)
     refine g_name ?_
     intro T hT
     refine g_any (n := 4) rfl [0, 1, 2, 3] [0, 2, 1, 3] rfl rfl (Inv := fun D t w => ∃ O : Nat → Value, t = [O 0, Value.pointer (some ⟨b2, 0, none⟩), cnd (D 2) (Value.pointer (some ⟨b8, 0, none⟩)) (O 2), Value.pointer (some ⟨b4, 0, none⟩), Value.pointer (some ⟨b8, 0, none⟩), Value.pointer (some ⟨b14, 0, none⟩), O 6, O 7, O 8, O 9, O 10, O 11, O 12, O 13, O 14, O 15, O 16, O 17, O 18, O 19, O 20, O 21, O 22, O 23, O 24, O 25, O 26, O 27, O 28, O 29, O 30, O 31, O 32, O 33, O 34, O 35, O 36, O 37, O 38, O 39, Value.pointer (some ⟨b2, 2, none⟩), Value.bool true, Value.pointer (some ⟨b14, 3, none⟩), cnd (D 0) (Value.pointer (some ⟨b8, 0, none⟩)) (O 43), cnd (D 1) (Value.agg (enc_S_spec_l03Known (⟨x17.f_open, x17.f_heavy, x17.f_light, 1⟩ : S_spec_l03Known)).toArray) (O 44)] ∧ St w0 [Cells b14 (enc_S_spec_l03Known (⟨x17.f_open, x17.f_heavy, x17.f_light, 1⟩ : S_spec_l03Known)) 62, Cells b2 (enc_S_laws_Task a1) 27, Cells b4 (cnd (D 3) (enc_S_spec_l03Known (⟨x17.f_open, x17.f_heavy, x17.f_light, 1⟩ : S_spec_l03Known)) (enc_S_spec_l03Known z_S_spec_l03Known)) 62, Cells b8 (([Value.int .i64 x12, v6] : List Value)) 99, Row 22 (K.int .i8) v6 (List.replicate ((32928 : Int)).toNat (0 : Int))] w) ?_ ⟨⟨⟨⟨trivial, ?_⟩, ?_⟩, ?_⟩, ?_⟩ ?_
     ·
      intro w hh hbw
      have hs := hs.samew hh hbw
      exact ⟨fun i => T.getD i undef, (by subst hT; rfl), hs⟩
     ·
      rintro D t w hD hp hcl ⟨O, ht, hs⟩ rest hk
      have q2_ := nz hcl 2 0 hD
      have q3_ := nz hcl 3 1 q2_
      simp only [hD, q2_, q3_, cq] at ht hs
      subst ht
      refine g_op (v := Value.pointer (some ⟨b8, 0, none⟩)) rfl rfl rfl ?_
      show G _ _ _ _ [_,_,_,_,_,_,_,_,_,_,_,_,_,_,_,_,_,_,_,_,_,_,_,_,_,_,_,_,_,_,_,_,_,_,_,_,_,_,_,_,_,_,_,_,_] _
      refine hk _ _ ⟨O, ?_, hs.cast ?_⟩ <;> simp only [lq, cq, Nat.reduceBEq, q2_, q3_]
     ·
      rintro D t w hD hp hcl ⟨O, ht, hs⟩ rest hk
      have q3_ := nz hcl 3 0 hD
      simp only [hD, q3_, cq] at ht hs
      subst ht
      refine s_loadA rfl rfl (es := (enc_S_spec_l03Known (⟨x17.f_open, x17.f_heavy, x17.f_light, 1⟩ : S_spec_l03Known))) rfl rfl (fun _ => rfl) (n := 4) (fun _ => rfl) (fk_S_spec_l03Known.len _) (cells_all (hs.cells 0 rfl)) ?_
      show G _ _ _ _ [_,_,_,_,_,_,_,_,_,_,_,_,_,_,_,_,_,_,_,_,_,_,_,_,_,_,_,_,_,_,_,_,_,_,_,_,_,_,_,_,_,_,_,_,_] _
      refine hk _ _ ⟨O, ?_, hs.cast ?_⟩ <;> simp only [lq, cq, Nat.reduceBEq, q3_]
     ·
      rintro D t w hD hp hcl ⟨O, ht, hs⟩ rest hk
      obtain ⟨p0_, _, _⟩ := hp
      have q3_ := nz hcl 3 1 hD
      simp only [hD, p0_, q3_, cq] at ht hs
      subst ht
      refine g_op (v := Value.pointer (some ⟨b8, 0, none⟩)) rfl rfl rfl ?_
      show G _ _ _ _ [_,_,_,_,_,_,_,_,_,_,_,_,_,_,_,_,_,_,_,_,_,_,_,_,_,_,_,_,_,_,_,_,_,_,_,_,_,_,_,_,_,_,_,_,_] _
      refine hk _ _ ⟨O, ?_, hs.cast ?_⟩ <;> simp only [lq, cq, Nat.reduceBEq, p0_, q3_]
     ·
      rintro D t w hD hp hcl ⟨O, ht, hs⟩ rest hk
      obtain ⟨p1_, p2_, p0_, _, _, _⟩ := hp
      simp only [hD, p0_, p1_, p2_, cq] at ht hs
      subst ht
      have hs := hs.pull 2 rfl
      have hs : St _ [_,_,_,_,_] _ := hs
      refine s_storeAll (n := 4) hs (fk_S_spec_l03Known.len _) rfl rfl (vs := (enc_S_spec_l03Known (⟨x17.f_open, x17.f_heavy, x17.f_light, 1⟩ : S_spec_l03Known))) rfl rfl rfl (fun _ => rfl) (fk_S_spec_l03Known.len _) (fk_S_spec_l03Known.one _) ?_
      intro w hs
      show G _ _ _ _ [_,_,_,_,_,_,_,_,_,_,_,_,_,_,_,_,_,_,_,_,_,_,_,_,_,_,_,_,_,_,_,_,_,_,_,_,_,_,_,_,_,_,_,_,_] _
      have hs := hs.push 2 (by simp)
      refine hk _ _ ⟨O, ?_, hs.cast ?_⟩ <;> simp only [lq, cq, Nat.reduceBEq, p0_, p1_, p2_]
     intro D t w hall hI
     obtain ⟨O, ht, hs⟩ := hI
     have p0_ := hall 0 (by decide)
     have p1_ := hall 1 (by decide)
     have p2_ := hall 2 (by decide)
     have p3_ := hall 3 (by decide)
     simp only [p0_, p1_, p2_, p3_, cq] at ht hs
     subst ht
     obtain rfl := Option.some.inj H
     refine g_ret Try.func29 (v := Value.tuple #[Value.pointer (some ⟨b8, 0, none⟩), Value.agg (enc_S_spec_l03Known (⟨x17.f_open, x17.f_heavy, x17.f_light, 1⟩ : S_spec_l03Known)).toArray]) (resN (l := Try.f29.results.toList) (vs := [Value.pointer (some ⟨b8, 0, none⟩), Value.agg (enc_S_spec_l03Known (⟨x17.f_open, x17.f_heavy, x17.f_light, 1⟩ : S_spec_l03Known)).toArray]) rfl ⟨rfl, ⟨_, rfl, (run_loadVar_agg (es := (enc_S_spec_l03Known (⟨x17.f_open, x17.f_heavy, x17.f_light, 1⟩ : S_spec_l03Known))) rfl (congrArg (Result.ok · _) (fk_S_spec_l03Known.len _).symm) (cells_all (hs.cells 2 rfl)))⟩, trivial⟩ (by simp)) ?_
     have hs := hs.pull 4 rfl
     have hs := hs.pull 4 rfl
     have hs : St _ [_,_] _ := St.take (Γ' := [_,_,_]) hs
     exact ⟨_, rfl, b8, v6, rfl, hs⟩
    rw [if_neg hb2_] at H
    refine s_load1 rfl rfl (v := Value.bool false) rfl rfl (fun _ => rfl) (cells_load (hs.cells 0 rfl) 2 1 (Eq.trans (b := [Value.bool a1.f_None]) rfl (congrArg (fun b => [Value.bool b]) (Bool.eq_false_iff.2 hb2_)))) (g_ops_nil (g_cond_false rfl (g_skip (g_seq ?_))))
    refine g_name ?_
    intro T hT
    refine g_any (n := 4) rfl [0, 1, 2, 3] [0, 2, 1, 3] rfl rfl (Inv := fun D t w => ∃ O : Nat → Value, t = [O 0, Value.pointer (some ⟨b2, 0, none⟩), cnd (D 2) (Value.pointer (some ⟨b8, 0, none⟩)) (O 2), Value.pointer (some ⟨b4, 0, none⟩), Value.pointer (some ⟨b8, 0, none⟩), Value.pointer (some ⟨b14, 0, none⟩), O 6, O 7, O 8, O 9, O 10, O 11, O 12, O 13, O 14, O 15, O 16, O 17, O 18, O 19, O 20, O 21, O 22, O 23, O 24, O 25, O 26, O 27, O 28, O 29, O 30, O 31, O 32, O 33, O 34, O 35, O 36, O 37, O 38, O 39, Value.pointer (some ⟨b2, 2, none⟩), Value.bool false, O 42, cnd (D 0) (Value.pointer (some ⟨b8, 0, none⟩)) (O 43), cnd (D 1) (Value.agg (enc_S_spec_l03Known x17).toArray) (O 44)] ∧ St w0 [Cells b2 (enc_S_laws_Task a1) 27, Cells b4 (cnd (D 3) (enc_S_spec_l03Known x17) (enc_S_spec_l03Known z_S_spec_l03Known)) 62, Cells b8 (([Value.int .i64 x12, v6] : List Value)) 99, Row 22 (K.int .i8) v6 (List.replicate ((32928 : Int)).toNat (0 : Int)), Cells b14 (enc_S_spec_l03Known x17) 62] w) ?_ ⟨⟨⟨⟨trivial, ?_⟩, ?_⟩, ?_⟩, ?_⟩ ?_
    ·
     intro w hh hbw
     have hs := hs.samew hh hbw
     exact ⟨fun i => T.getD i undef, (by subst hT; rfl), hs⟩
    ·
     rintro D t w hD hp hcl ⟨O, ht, hs⟩ rest hk
     have q2_ := nz hcl 2 0 hD
     have q3_ := nz hcl 3 1 q2_
     simp only [hD, q2_, q3_, cq] at ht hs
     subst ht
     refine g_op (v := Value.pointer (some ⟨b8, 0, none⟩)) rfl rfl rfl ?_
     show G _ _ _ _ [_,_,_,_,_,_,_,_,_,_,_,_,_,_,_,_,_,_,_,_,_,_,_,_,_,_,_,_,_,_,_,_,_,_,_,_,_,_,_,_,_,_,_,_,_] _
     refine hk _ _ ⟨O, ?_, hs.cast ?_⟩ <;> simp only [lq, cq, Nat.reduceBEq, q2_, q3_]
    ·
     rintro D t w hD hp hcl ⟨O, ht, hs⟩ rest hk
     have q3_ := nz hcl 3 0 hD
     simp only [hD, q3_, cq] at ht hs
     subst ht
     refine s_loadA rfl rfl (es := (enc_S_spec_l03Known x17)) rfl rfl (fun _ => rfl) (n := 4) (fun _ => rfl) (fk_S_spec_l03Known.len _) (cells_all (hs.cells 4 rfl)) ?_
     show G _ _ _ _ [_,_,_,_,_,_,_,_,_,_,_,_,_,_,_,_,_,_,_,_,_,_,_,_,_,_,_,_,_,_,_,_,_,_,_,_,_,_,_,_,_,_,_,_,_] _
     refine hk _ _ ⟨O, ?_, hs.cast ?_⟩ <;> simp only [lq, cq, Nat.reduceBEq, q3_]
    ·
     rintro D t w hD hp hcl ⟨O, ht, hs⟩ rest hk
     obtain ⟨p0_, _, _⟩ := hp
     have q3_ := nz hcl 3 1 hD
     simp only [hD, p0_, q3_, cq] at ht hs
     subst ht
     refine g_op (v := Value.pointer (some ⟨b8, 0, none⟩)) rfl rfl rfl ?_
     show G _ _ _ _ [_,_,_,_,_,_,_,_,_,_,_,_,_,_,_,_,_,_,_,_,_,_,_,_,_,_,_,_,_,_,_,_,_,_,_,_,_,_,_,_,_,_,_,_,_] _
     refine hk _ _ ⟨O, ?_, hs.cast ?_⟩ <;> simp only [lq, cq, Nat.reduceBEq, p0_, q3_]
    ·
     rintro D t w hD hp hcl ⟨O, ht, hs⟩ rest hk
     obtain ⟨p1_, p2_, p0_, _, _, _⟩ := hp
     simp only [hD, p0_, p1_, p2_, cq] at ht hs
     subst ht
     have hs := hs.pull 1 rfl
     have hs : St _ [_,_,_,_,_] _ := hs
     refine s_storeAll (n := 4) hs (fk_S_spec_l03Known.len _) rfl rfl (vs := (enc_S_spec_l03Known x17)) rfl rfl rfl (fun _ => rfl) (fk_S_spec_l03Known.len _) (fk_S_spec_l03Known.one _) ?_
     intro w hs
     show G _ _ _ _ [_,_,_,_,_,_,_,_,_,_,_,_,_,_,_,_,_,_,_,_,_,_,_,_,_,_,_,_,_,_,_,_,_,_,_,_,_,_,_,_,_,_,_,_,_] _
     have hs := hs.push 1 (by simp)
     refine hk _ _ ⟨O, ?_, hs.cast ?_⟩ <;> simp only [lq, cq, Nat.reduceBEq, p0_, p1_, p2_]
    intro D t w hall hI
    obtain ⟨O, ht, hs⟩ := hI
    have p0_ := hall 0 (by decide)
    have p1_ := hall 1 (by decide)
    have p2_ := hall 2 (by decide)
    have p3_ := hall 3 (by decide)
    simp only [p0_, p1_, p2_, p3_, cq] at ht hs
    subst ht
    obtain rfl := Option.some.inj H
    refine g_ret Try.func29 (v := Value.tuple #[Value.pointer (some ⟨b8, 0, none⟩), Value.agg (enc_S_spec_l03Known x17).toArray]) (resN (l := Try.f29.results.toList) (vs := [Value.pointer (some ⟨b8, 0, none⟩), Value.agg (enc_S_spec_l03Known x17).toArray]) rfl ⟨rfl, ⟨_, rfl, (run_loadVar_agg (es := (enc_S_spec_l03Known x17)) rfl (congrArg (Result.ok · _) (fk_S_spec_l03Known.len _).symm) (cells_all (hs.cells 1 rfl)))⟩, trivial⟩ (by simp)) ?_
    have hs := hs.pull 3 rfl
    have hs := hs.pull 3 rfl
    have hs : St _ [_,_] _ := St.take (Γ' := [_,_,_]) hs
    exact ⟨_, rfl, b8, v6, rfl, hs⟩
   intro ha
   refine g_seq (g_rg [0, 1] rfl ?_)
   refine g_op_b (B := a1.f_Kind == 0) rfl rfl rfl ?_ ?_
   ·
    intro hb
    rw [if_pos (b_beq_t hb)] at H
    show G _ _ _ _ [_,_,_,_,_,_,_,_,_,_,_,_,_,_,_,_,_,_,_,_,_,_,_,_,_,_,_,_,_,_,_,_,_,_,_,_,_,_,_,_,_,_,_,_,_] _
    refine g_op (v := Value.bool true) rfl rfl rfl (g_ops_nil (g_cond_true rfl (g_rg [0, 1, 2, 3, 4] rfl ?_)))
    refine g_op (v := Value.pointer (some ⟨b2, 0, none⟩)) rfl rfl rfl ?_
    refine s_load1 rfl rfl (v := Value.int .i8 a1.f_Coins) rfl rfl (fun _ => rfl) (cells_load (hs.cells 1 rfl) 0 1 rfl) ?_
    refine g_op (v := Value.int .i64 (i64w a1.f_Coins)) rfl rfl rfl ?_
    refine g_op (v := Value.pointer (some ⟨b14, 1, none⟩)) rfl rfl rfl ?_
    refine s_store hs rfl rfl (vs := ((encI .i64) (i64w a1.f_Coins))) (cs' := (enc_S_spec_l03Known (⟨(⟨0, 0, 0, 0⟩ : S_spec_l03Known).f_open, i64w a1.f_Coins, (⟨0, 0, 0, 0⟩ : S_spec_l03Known).f_light, (⟨0, 0, 0, 0⟩ : S_spec_l03Known).f_none⟩ : S_spec_l03Known))) rfl rfl rfl (n := 1) (fun _ => rfl) ((fkI .i64).len _) (by first | exact Nat.le_of_ble_eq_true rfl | simp [encAI_len, encAB_len, encA_len]) ((fkI .i64).one _) rfl ?_
    intro w hs
    refine g_ops_nil ?_
    refine g_inBlock ?_
    have hs := hs.pull 0 rfl
    have hs := hs.pull 4 rfl
    have hs := hs.pull 4 rfl
    have hs := hs.pull 4 rfl
    have hs := hs.pull 4 rfl
    have hs : St _ [_,_,_,_,_] _ := St.take (Γ' := []) hs
    exact ha _ _ ⟨(⟨(⟨0, 0, 0, 0⟩ : S_spec_l03Known).f_open, i64w a1.f_Coins, (⟨0, 0, 0, 0⟩ : S_spec_l03Known).f_light, (⟨0, 0, 0, 0⟩ : S_spec_l03Known).f_none⟩ : S_spec_l03Known), H, rfl, hs⟩
   intro hb
   rw [if_neg (b_beq_f hb)] at H
   refine g_op (v := Value.bool false) rfl rfl rfl (g_ops_nil (g_cond_false rfl (g_seq (g_rg [0, 1] rfl ?_))))
   refine g_op_b (B := a1.f_Kind == 1) rfl rfl rfl ?_ ?_
   ·
    intro hb
    rw [if_pos (b_beq_t hb)] at H
    show G _ _ _ _ [_,_,_,_,_,_,_,_,_,_,_,_,_,_,_,_,_,_,_,_,_,_,_,_,_,_,_,_,_,_,_,_,_,_,_,_,_,_,_,_,_,_,_,_,_] _
    refine g_op (v := Value.bool true) rfl rfl rfl (g_ops_nil (g_cond_true rfl (g_rg [0, 1, 2, 3, 4] rfl ?_)))
    refine g_op (v := Value.pointer (some ⟨b2, 0, none⟩)) rfl rfl rfl ?_
    refine s_load1 rfl rfl (v := Value.int .i8 a1.f_Coins) rfl rfl (fun _ => rfl) (cells_load (hs.cells 1 rfl) 0 1 rfl) ?_
    refine g_op (v := Value.int .i64 (i64w a1.f_Coins)) rfl rfl rfl ?_
    refine g_op (v := Value.pointer (some ⟨b14, 2, none⟩)) rfl rfl rfl ?_
    refine s_store hs rfl rfl (vs := ((encI .i64) (i64w a1.f_Coins))) (cs' := (enc_S_spec_l03Known (⟨(⟨0, 0, 0, 0⟩ : S_spec_l03Known).f_open, (⟨0, 0, 0, 0⟩ : S_spec_l03Known).f_heavy, i64w a1.f_Coins, (⟨0, 0, 0, 0⟩ : S_spec_l03Known).f_none⟩ : S_spec_l03Known))) rfl rfl rfl (n := 1) (fun _ => rfl) ((fkI .i64).len _) (by first | exact Nat.le_of_ble_eq_true rfl | simp [encAI_len, encAB_len, encA_len]) ((fkI .i64).one _) rfl ?_
    intro w hs
    refine g_ops_nil ?_
    refine g_inBlock ?_
    have hs := hs.pull 0 rfl
    have hs := hs.pull 4 rfl
    have hs := hs.pull 4 rfl
    have hs := hs.pull 4 rfl
    have hs := hs.pull 4 rfl
    have hs : St _ [_,_,_,_,_] _ := St.take (Γ' := []) hs
    exact ha _ _ ⟨(⟨(⟨0, 0, 0, 0⟩ : S_spec_l03Known).f_open, (⟨0, 0, 0, 0⟩ : S_spec_l03Known).f_heavy, i64w a1.f_Coins, (⟨0, 0, 0, 0⟩ : S_spec_l03Known).f_none⟩ : S_spec_l03Known), H, rfl, hs⟩
   intro hb
   rw [if_neg (b_beq_f hb)] at H
   show G _ _ _ _ [_,_,_,_,_,_,_,_,_,_,_,_,_,_,_,_,_,_,_,_,_,_,_,_,_,_,_,_,_,_,_,_,_,_,_,_,_,_,_,_,_,_,_,_,_] _
   refine g_op (v := Value.bool false) rfl rfl rfl (g_ops_nil (g_cond_false rfl (g_rg [0, 1, 2, 3, 4] rfl ?_)))
   refine g_op (v := Value.pointer (some ⟨b2, 0, none⟩)) rfl rfl rfl ?_
   refine s_load1 rfl rfl (v := Value.int .i8 a1.f_Coins) rfl rfl (fun _ => rfl) (cells_load (hs.cells 1 rfl) 0 1 rfl) ?_
   refine g_op (v := Value.int .i64 (i64w a1.f_Coins)) rfl rfl rfl ?_
   refine g_op (v := Value.pointer (some ⟨b14, 0, none⟩)) rfl rfl rfl ?_
   refine s_store hs rfl rfl (vs := ((encI .i64) (i64w a1.f_Coins))) (cs' := (enc_S_spec_l03Known (⟨i64w a1.f_Coins, (⟨0, 0, 0, 0⟩ : S_spec_l03Known).f_heavy, (⟨0, 0, 0, 0⟩ : S_spec_l03Known).f_light, (⟨0, 0, 0, 0⟩ : S_spec_l03Known).f_none⟩ : S_spec_l03Known))) rfl rfl rfl (n := 1) (fun _ => rfl) ((fkI .i64).len _) (by first | exact Nat.le_of_ble_eq_true rfl | simp [encAI_len, encAB_len, encA_len]) ((fkI .i64).one _) rfl ?_
   intro w hs
   refine g_ops_nil ?_
   refine g_inBlock ?_
   have hs := hs.pull 0 rfl
   have hs := hs.pull 4 rfl
   have hs := hs.pull 4 rfl
   have hs := hs.pull 4 rfl
   have hs := hs.pull 4 rfl
   have hs : St _ [_,_,_,_,_] _ := St.take (Γ' := []) hs
   exact ha _ _ ⟨(⟨i64w a1.f_Coins, (⟨0, 0, 0, 0⟩ : S_spec_l03Known).f_heavy, (⟨0, 0, 0, 0⟩ : S_spec_l03Known).f_light, (⟨0, 0, 0, 0⟩ : S_spec_l03Known).f_none⟩ : S_spec_l03Known), H, rfl, hs⟩
  intro ha
  refine g_rg [0, 1] rfl ?_
  refine g_op (v := Value.pointer (some ⟨b2, 3, none⟩)) rfl rfl rfl ?_
  by_cases hb1_ : a1.f_Good = true
  ·
   rw [if_pos hb1_] at H
   refine s_load1 rfl rfl (v := Value.bool true) rfl rfl (fun _ => rfl) (cells_load (hs.cells 3 rfl) 3 1 (Eq.trans (b := [Value.bool a1.f_Good]) rfl (congrArg (fun b => [Value.bool b]) hb1_))) (g_ops_nil (g_cond_true rfl (g_rg [0, 1, 2, 3, 4, 5, 6, 7] rfl ?_)))
   refine g_op (v := Value.pointer (some ⟨b8, 0, none⟩)) rfl rfl rfl ?_
   refine g_op (v := Value.pointer (some ⟨b8, 0, none⟩)) rfl rfl rfl ?_
   refine g_op (v := Value.pointer (some ⟨b8, 0, none⟩)) rfl rfl rfl ?_
   refine s_load1 rfl rfl (v := Value.int .i64 (i64w a1.f_Coins)) rfl rfl (fun _ => rfl) (cells_load (hs.cells 1 rfl) 0 1 rfl) ?_
   refine g_op (v := Value.int .i64 (i64w ((i64w a1.f_Coins) + 1))) rfl rfl rfl ?_
   show G _ _ _ _ [_,_,_,_,_,_,_,_,_,_,_,_,_,_,_,_,_,_,_,_,_,_,_,_,_,_,_,_,_,_,_,_,_,_,_,_,_,_,_,_,_,_,_,_,_] _
   refine g_op (v := Value.pointer (some ⟨b8, 0, none⟩)) rfl rfl rfl ?_
   refine g_op (v := Value.pointer (some ⟨b8, 0, none⟩)) rfl rfl rfl ?_
   have hs := hs.pull 1 rfl
   have hs : St _ [_,_,_,_] _ := hs
   refine s_store hs rfl rfl (vs := ((encI .i64) (i64w ((i64w a1.f_Coins) + 1)))) (cs' := (([Value.int .i64 (i64w ((i64w a1.f_Coins) + 1)), v6] : List Value))) rfl rfl rfl (n := 1) (fun _ => rfl) ((fkI .i64).len _) (by first | exact Nat.le_of_ble_eq_true rfl | simp [encAI_len, encAB_len, encA_len]) ((fkI .i64).one _) rfl ?_
   intro w hs
   refine g_ops_nil ?_
   have hs := hs.pull 1 rfl
   have hs := hs.pull 1 rfl
   have hs := hs.pull 2 rfl
   have hs := hs.pull 3 rfl
   have hs : St _ [_,_,_,_] _ := St.take (Γ' := []) hs
   exact ha _ _ ⟨i64w ((i64w a1.f_Coins) + 1), H, rfl, hs⟩
  rw [if_neg hb1_] at H
  refine s_load1 rfl rfl (v := Value.bool false) rfl rfl (fun _ => rfl) (cells_load (hs.cells 3 rfl) 3 1 (Eq.trans (b := [Value.bool a1.f_Good]) rfl (congrArg (fun b => [Value.bool b]) (Bool.eq_false_iff.2 hb1_)))) ?_
  show G _ _ _ _ [_,_,_,_,_,_,_,_,_,_,_,_,_,_,_,_,_,_,_,_,_,_,_,_,_,_,_,_,_,_,_,_,_,_,_,_,_,_,_,_,_,_,_,_,_] _
  refine g_ops_nil (g_cond_false rfl (g_skip ?_))
  have hs := hs.pull 0 rfl
  have hs := hs.pull 1 rfl
  have hs := hs.pull 2 rfl
  have hs := hs.pull 3 rfl
  have hs : St _ [_,_,_,_] _ := St.take (Γ' := []) hs
  exact ha _ _ ⟨i64w a1.f_Coins, H, rfl, hs⟩

/- function 56 _spec_l03Known_cases -/
def _spec_l03Known_cases.post (w0 : World) (r : Int) (v : Value) (w : World) : Prop := v = Value.int .i64 r ∧ St w0 [] w
set_option maxHeartbeats 8000000 in
set_option maxRecDepth 100000 in
theorem _spec_l03Known_cases.calls {N : Nat} {a1 : S_spec_l03Known} {w0 : World} {r : Int} (H : _spec_l03Known_cases.f N a1 = some r) :
    Calls Try.prog 56 #[Value.agg (enc_S_spec_l03Known a1).toArray] w0 fun e w => ∃ v, e = .returned v ∧ _spec_l03Known_cases.post w0 r v w := by
  unfold _spec_l03Known_cases.f at H
  have hs : St w0 [] w0 := St.refl w0
  refine calls_of_g (n := 14) Try.func56 rfl rfl ?_
  show G _ _ _ _ [_,_,_,_,_,_,_,_,_,_,_,_,_,_,_] _
  refine g_seq (g_rg [0, 1] rfl ?_)
  refine s_box hs rfl rfl (cs := (enc_S_spec_l03Known a1)) rfl rfl ?_
  intro b2 w hs
  show G _ _ _ _ [_,_,_,_,_,_,_,_,_,_,_,_,_,_,_] _
  refine g_op (v := Value.int .i64 0) rfl rfl rfl (g_ops_nil (g_seq (g_rg [0, 1, 2, 3, 4, 5, 6, 7, 8, 9, 10, 11, 12] rfl ?_)))
  refine g_op (v := Value.pointer (some ⟨b2, 0, none⟩)) rfl rfl rfl ?_
  refine s_load1 rfl rfl (v := Value.int .i64 a1.f_open) rfl rfl (fun _ => rfl) (cells_load (hs.cells 0 rfl) 0 1 rfl) ?_
  show G _ _ _ _ [_,_,_,_,_,_,_,_,_,_,_,_,_,_,_] _
  refine g_op (v := Value.int .i64 (i64w (2 * a1.f_open))) rfl rfl rfl ?_
  refine g_op (v := Value.pointer (some ⟨b2, 1, none⟩)) rfl rfl rfl ?_
  refine s_load1 rfl rfl (v := Value.int .i64 a1.f_heavy) rfl rfl (fun _ => rfl) (cells_load (hs.cells 0 rfl) 1 1 rfl) ?_
  show G _ _ _ _ [_,_,_,_,_,_,_,_,_,_,_,_,_,_,_] _
  refine g_op (v := Value.int .i64 (i64w ((i64w (2 * a1.f_open)) + a1.f_heavy))) rfl rfl rfl ?_
  refine g_op (v := Value.pointer (some ⟨b2, 2, none⟩)) rfl rfl rfl ?_
  refine s_load1 rfl rfl (v := Value.int .i64 a1.f_light) rfl rfl (fun _ => rfl) (cells_load (hs.cells 0 rfl) 2 1 rfl) ?_
  show G _ _ _ _ [_,_,_,_,_,_,_,_,_,_,_,_,_,_,_] _
  refine g_op (v := Value.int .i64 (i64w ((i64w ((i64w (2 * a1.f_open)) + a1.f_heavy)) + a1.f_light))) rfl rfl rfl ?_
  refine g_op (v := Value.pointer (some ⟨b2, 3, none⟩)) rfl rfl rfl ?_
  refine s_load1 rfl rfl (v := Value.int .i64 a1.f_none) rfl rfl (fun _ => rfl) (cells_load (hs.cells 0 rfl) 3 1 rfl) ?_
  show G _ _ _ _ [_,_,_,_,_,_,_,_,_,_,_,_,_,_,_] _
  refine g_op (v := Value.int .i64 (i64w ((i64w ((i64w ((i64w (2 * a1.f_open)) + a1.f_heavy)) + a1.f_light)) + a1.f_none))) rfl rfl rfl ?_
  refine g_op (v := Value.int .i64 (i64w ((i64w ((i64w ((i64w (2 * a1.f_open)) + a1.f_heavy)) + a1.f_light)) + a1.f_none))) rfl rfl rfl (g_ops_nil ?_)
  obtain rfl := Option.some.inj H
  refine g_ret Try.func56 (v := Value.int .i64 (i64w ((i64w ((i64w ((i64w (2 * a1.f_open)) + a1.f_heavy)) + a1.f_light)) + a1.f_none))) (res1 rfl rfl) ?_
  have hs : St _ [] _ := St.take (Γ' := [_]) hs
  exact ⟨_, rfl, rfl, hs⟩

/- function 57 spec_l03Power -/
def spec_l03Power.post (w0 : World) (r : Int) (v : Value) (w : World) : Prop := v = Value.int .i64 r ∧ St w0 [] w
set_option maxHeartbeats 8000000 in
set_option maxRecDepth 100000 in
theorem spec_l03Power.calls {N : Nat} {a1 : Int} {w0 : World} {r : Int} (H : spec_l03Power.f N a1 = some r) :
    Calls Try.prog 57 #[Value.int .i64 a1] w0 fun e w => ∃ v, e = .returned v ∧ spec_l03Power.post w0 r v w := by
  unfold spec_l03Power.f at H
  have hs : St w0 [] w0 := St.refl w0
  refine calls_of_g (n := 10) Try.func57 rfl rfl ?_
  show G _ _ _ _ [_,_,_,_,_,_,_,_,_,_,_] _
  refine g_seq (g_rg [0] rfl ?_)
  refine g_op (v := Value.int .i64 0) rfl rfl rfl (g_ops_nil (g_seq (g_rg [0] rfl ?_)))
  refine g_op (v := Value.int .i64 1) rfl rfl rfl (g_ops_nil (g_seq ?_))
  obtain ⟨o1_, Ho, Hr1_⟩ := bind_get H
  refine g_block_join (J := fun t w => ∃ x4 : Int, spec_l03Power.a0 N x4 = some r ∧ Fr t (fun O => ([O 0, O 1, O 2, Value.int .i64 x4, O 4, O 5, O 6, O 7, O 8, O 9, O 10] : List Value)) ∧ St w0 [] w) ?_ ?_
  ·
   rintro t w ⟨x4, H, hf, hs⟩
   obtain ⟨O, rfl⟩ := hf.open
   show G _ _ _ _ [_,_,_,_,_,_,_,_,_,_,_] _
   unfold spec_l03Power.a0 at H
   refine g_seq (g_rg [0, 1] rfl ?_)
   refine g_op (v := Value.int .i64 x4) rfl rfl rfl ?_
   show G _ _ _ _ [_,_,_,_,_,_,_,_,_,_,_] _
   refine g_op (v := Value.int .i64 x4) rfl rfl rfl (g_ops_nil ?_)
   obtain rfl := Option.some.inj H
   refine g_ret Try.func57 (v := Value.int .i64 x4) (res1 rfl rfl) ?_
   have hs : St _ [] _ := St.take (Γ' := []) hs
   exact ⟨_, rfl, rfl, hs⟩
  intro ha1_
  have hs : St _ [] _ := St.take (Γ' := []) hs
  refine g_loop_fuel (I := fun n_ t w => ∃ x2 : Int, ∃ x3 : Int, rounds (fun s => spec_l03Power.b0 N s.1 s.2) n_ (x2, x3) = some o1_ ∧ Fr t (fun O => ([Value.int .i64 x2, O 1, O 2, Value.int .i64 x3, O 4, O 5, O 6, O 7, O 8, O 9, O 10] : List Value)) ∧ St w0 [] w) N ⟨a1, 1, Ho, rfl, hs⟩ ?_ ?_
  ·
   rintro _ _ ⟨x2, x3, h, _⟩
   exact rounds_zero h
  intro n_ ih1_
  rintro t w ⟨x2, x3, Ho, hf, hs⟩
  obtain ⟨O, rfl⟩ := hf.open
  show G _ _ _ _ [_,_,_,_,_,_,_,_,_,_,_] _
  obtain ⟨x1_, H, Hx1_⟩ := rounds_succ Ho
  have H : spec_l03Power.b0 N x2 x3 = some x1_ := H
  unfold spec_l03Power.b0 at H
  refine g_seq (g_seq (g_rg [0, 1] rfl ?_))
  refine g_op (v := Value.int .i64 x2) rfl rfl rfl ?_
  show G _ _ _ _ [_,_,_,_,_,_,_,_,_,_,_] _
  refine g_op_b (B := decide (x2 > 0)) rfl rfl rfl ?_ ?_
  ·
   intro hb
   rw [if_pos (b_dec_t hb)] at H
   refine g_ops_nil (g_cond_true rfl (g_skip (g_seq ?_)))
   refine g_block (g_rg [0, 1, 2] rfl ?_)
   refine g_op (v := Value.int .i64 x3) rfl rfl rfl ?_
   show G _ _ _ _ [_,_,_,_,_,_,_,_,_,_,_] _
   refine g_op (v := Value.int .i64 (i64w (x3 * 3))) rfl rfl rfl ?_
   refine g_op (v := Value.int .i64 (i64w (x3 * 3))) rfl rfl rfl (g_ops_nil ?_)
   refine g_inBlock (g_rg [0, 1, 2] rfl ?_)
   refine g_op (v := Value.int .i64 x2) rfl rfl rfl ?_
   show G _ _ _ _ [_,_,_,_,_,_,_,_,_,_,_] _
   refine g_op (v := Value.int .i64 (i64w (x2 - 1))) rfl rfl rfl ?_
   refine g_op (v := Value.int .i64 (i64w (x2 - 1))) rfl rfl rfl (g_ops_nil ?_)
   obtain rfl := Option.some.inj H
   have hs : St _ [] _ := St.take (Γ' := []) hs
   exact ih1_ _ _ ⟨i64w (x2 - 1), i64w (x3 * 3), Hx1_, rfl, hs⟩
  intro hb
  rw [if_neg (b_dec_f hb)] at H
  refine g_ops_nil (g_cond_false rfl ?_)
  obtain rfl := Option.some.inj H
  subst Hx1_
  have hs : St _ [] _ := St.take (Γ' := []) hs
  refine g_exit rfl ?_
  exact ha1_ _ _ ⟨x3, Hr1_, rfl, hs⟩

/- function 75 spec_l00Max -/
def spec_l00Max.post (w0 : World) (r : Int) (v : Value) (w : World) : Prop := v = Value.int .i64 r ∧ St w0 [] w
set_option maxHeartbeats 8000000 in
set_option maxRecDepth 100000 in
theorem spec_l00Max.calls {N : Nat} {a1 : Int} {a2 : Int} {w0 : World} {r : Int} (H : spec_l00Max.f N a1 a2 = some r) :
    Calls Try.prog 75 #[Value.int .i64 a1, Value.int .i64 a2] w0 fun e w => ∃ v, e = .returned v ∧ spec_l00Max.post w0 r v w := by
  unfold spec_l00Max.f at H
  have hs : St w0 [] w0 := St.refl w0
  refine calls_of_g (n := 8) Try.func75 rfl rfl ?_
  show G _ _ _ _ [_,_,_,_,_,_,_,_,_,_] _
  refine g_seq (g_rg [0] rfl ?_)
  refine g_op (v := Value.int .i64 0) rfl rfl rfl (g_ops_nil (g_seq (g_seq (g_rg [0, 1, 2] rfl ?_))))
  refine g_op (v := Value.int .i64 a1) rfl rfl rfl ?_
  refine g_op (v := Value.int .i64 a2) rfl rfl rfl ?_
  show G _ _ _ _ [_,_,_,_,_,_,_,_,_,_] _
  refine g_op_b (B := decide (a1 > a2)) rfl rfl rfl ?_ ?_
  ·
   intro hb
   rw [if_pos (b_dec_t hb)] at H
   show G _ _ _ _ [_,_,_,_,_,_,_,_,_,_] _
   refine g_ops_nil (g_cond_true rfl (g_seq (g_rg [0, 1] rfl ?_)))
   refine g_op (v := Value.int .i64 a1) rfl rfl rfl ?_
   refine g_op (v := Value.int .i64 a1) rfl rfl rfl (g_ops_nil ?_)
   obtain rfl := Option.some.inj H
   refine g_ret Try.func75 (v := Value.int .i64 a1) (res1 rfl rfl) ?_
   have hs : St _ [] _ := St.take (Γ' := []) hs
   exact ⟨_, rfl, rfl, hs⟩
  intro hb
  rw [if_neg (b_dec_f hb)] at H
  refine g_ops_nil (g_cond_false rfl (g_skip (g_seq (g_rg [0, 1] rfl ?_))))
  refine g_op (v := Value.int .i64 a2) rfl rfl rfl ?_
  refine g_op (v := Value.int .i64 a2) rfl rfl rfl ?_
  show G _ _ _ _ [_,_,_,_,_,_,_,_,_,_] _
  refine g_ops_nil ?_
  obtain rfl := Option.some.inj H
  refine g_ret Try.func75 (v := Value.int .i64 a2) (res1 rfl rfl) ?_
  have hs : St _ [] _ := St.take (Γ' := []) hs
  exact ⟨_, rfl, rfl, hs⟩

end Go.Proofs.YtgpdpedpmhonkaaX
