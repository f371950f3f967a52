/- Contracts, printed by gen.py. -/
import Derived.Test.YtgpdpedpmhonkaaXT
import Derived.Test.YtgpdpedpmhonkaaProg
import Derived.Test.YtgpdpedpmhonkaaXRowR
import Derived.Test.YtgpdpedpmhonkaaXSq
import Derived.Test.YtgpdpedpmhonkaaXSeg
import Derived.Test.YtgpdpedpmhonkaaXKey
import Derived.Test.YtgpdpedpmhonkaaXPart
import Derived.Test.YtgpdpedpmhonkaaXC3
namespace Go.Proofs.YtgpdpedpmhonkaaX
open Go Go.RowKit Go.Proofs
set_option linter.unusedVariables false
set_option linter.unusedSimpArgs false
/- function 76 _spec_l03Finder_works -/
def _spec_l03Finder_can.post (wb : World) (Z : As) (v3 : Value) (b2 : Nat) (v3 : Value) (r : (Bool × (List Int) × S_spec_l03Finder)) (v : Value) (w : World) : Prop := v = Value.bool r.1 ∧ St wb [Row 22 (K.int .i8) v3 r.2.1, Cells b2 (([Value.int .i64 r.2.2.f_all, v3] : List Value)) 99, Z] w
def _spec_l03Finder_works.post (wb : World) (Z : As) (v3 : Value) (b2 : Nat) (v3 : Value) (r : (Bool × (List Int) × S_spec_l03Finder)) (v : Value) (w : World) : Prop := v = Value.bool r.1 ∧ St wb [Row 22 (K.int .i8) v3 r.2.1, Cells b2 (([Value.int .i64 r.2.2.f_all, v3] : List Value)) 99, Z] w
set_option maxHeartbeats 8000000 in
set_option maxRecDepth 100000 in
theorem _spec_l03Finder_works.calls {N : Nat} {self : S_spec_l03Finder → S_spec_l03Known → Int → Option (Bool × (List Int) × S_spec_l03Finder)} (ih : ∀ (a1 : S_spec_l03Finder) (a6 : S_spec_l03Known) (a7 : Int) (b2 : Nat) (v3 : Value) (wb : World) (Z : As) (w0 : World) (r : (Bool × (List Int) × S_spec_l03Finder)) (hs : St wb [Row 22 (K.int .i8) v3 a1.f_seen, Cells b2 (([Value.int .i64 a1.f_all, v3] : List Value)) 99, Z] w0), self a1 a6 a7 = some r → Calls Try.prog 30 #[Value.pointer (some ⟨b2, 0, none⟩), Value.agg (enc_S_spec_l03Known a6).toArray, Value.int .i64 a7] w0 fun e w => ∃ v, e = .returned v ∧ _spec_l03Finder_can.post wb Z v3 b2 v3 r v w) {a1 : S_spec_l03Finder} {a6 : S_spec_l03Known} {a7 : (Ar Int 8)} {a10 : Int} {b2 : Nat} {v3 : Value} {b8 : Nat} {wb : World} {Z : As} {w0 : World} {r : (Bool × (List Int) × S_spec_l03Finder)} (hs : St wb [Row 22 (K.int .i8) v3 a1.f_seen, Cells b2 (([Value.int .i64 a1.f_all, v3] : List Value)) 99, Z] w0) (hp2 : wb.heap[b8]? = some (.cells (((encA (encI .i64)) a7) : List Value).toArray 103 (0, 0))) (H : _spec_l03Finder_works.f N self a1 a6 a7 a10 = some r) :
    Calls Try.prog 76 #[Value.pointer (some ⟨b2, 0, none⟩), Value.agg (enc_S_spec_l03Known a6).toArray, Value.pointer (some ⟨b8, 0, none⟩), Value.int .i64 a10] w0 fun e w => ∃ v, e = .returned v ∧ _spec_l03Finder_works.post wb Z v3 b2 v3 r v w := by
  unfold _spec_l03Finder_works.f at H
  refine calls_of_g (n := 19) Try.func76 rfl rfl ?_
  show G _ _ _ _ [_,_,_,_,_,_,_,_,_,_,_,_,_,_,_,_,_,_,_,_,_,_,_] _
  refine g_seq (g_rg [0, 1] rfl ?_)
  refine s_box hs rfl rfl (cs := (enc_S_spec_l03Known a6)) rfl rfl ?_
  intro b11 w hs
  refine g_op (v := Value.bool false) rfl rfl rfl ?_
  show G _ _ _ _ [_,_,_,_,_,_,_,_,_,_,_,_,_,_,_,_,_,_,_,_,_,_,_] _
  refine g_ops_nil (g_seq (g_seq (g_rg [0] rfl ?_)))
  refine g_op (v := Value.int .i64 (-1)) rfl rfl rfl (g_ops_nil ?_)
  obtain ⟨o1_, Ho, Hr1_⟩ := bind_get H
  refine g_block_join (J := fun t w => ∃ x21 : (List Int), ∃ x23 : Int, _spec_l03Finder_works.a0 N self x21 x23 = some r ∧ Fr t (fun O => ([O 0, O 1, O 2, O 3, O 4, O 5, O 6, O 7, O 8, O 9, O 10, O 11, O 12, O 13, O 14, O 15, O 16, O 17, O 18, O 19, O 20, O 21, O 22] : List Value)) ∧ St wb [Row 22 (K.int .i8) v3 x21, Cells b2 (([Value.int .i64 x23, v3] : List Value)) 99, Z] w) ?_ ?_
  ·
   rintro t w ⟨x21, x23, H, hf, hs⟩
   obtain ⟨O, rfl⟩ := hf.open
   show G _ _ _ _ [_,_,_,_,_,_,_,_,_,_,_,_,_,_,_,_,_,_,_,_,_,_,_] _
   unfold _spec_l03Finder_works.a0 at H
   refine g_seq (g_rg [0] rfl ?_)
   refine g_op (v := Value.bool true) rfl rfl rfl (g_ops_nil ?_)
   obtain rfl := Option.some.inj H
   refine g_ret Try.func76 (v := Value.bool true) (res1 rfl rfl) ?_
   have hs := hs.pull 2 rfl
   have hs := hs.pull 2 rfl
   have hs := hs.pull 2 rfl
   have hs : St _ [_,_,_] _ := St.take (Γ' := []) hs
   exact ⟨_, rfl, rfl, hs⟩
  intro ha1_
  have hs := hs.pull 3 rfl
  have hs := hs.pull 1 rfl
  have hs := hs.pull 3 rfl
  have hs := hs.pull 3 rfl
  have hs : St _ [_,_,_,_] _ := St.take (Γ' := []) hs
  refine g_loop_fuel (I := fun n_ t w => ∃ x16 : Int, ∃ x17 : (List Int), ∃ x18 : Int, rounds (fun s => _spec_l03Finder_works.b0 N self a6 a7 a10 s.1 s.2.1 s.2.2) n_ (x16, x17, x18) = some o1_ ∧ Fr t (fun O => ([Value.pointer (some ⟨b2, 0, none⟩), O 1, Value.pointer (some ⟨b8, 0, none⟩), Value.int .i64 a10, O 4, Value.pointer (some ⟨b11, 0, none⟩), O 6, O 7, O 8, Value.int .i64 x18, O 10, O 11, O 12, O 13, O 14, O 15, O 16, O 17, O 18, O 19, O 20, O 21, O 22] : List Value)) ∧ St wb [Row 22 (K.int .i8) v3 x17, Cells b2 (([Value.int .i64 x16, v3] : List Value)) 99, Cells b11 (enc_S_spec_l03Known a6) 62, Z] w) N ⟨a1.f_all, a1.f_seen, (-1), Ho, rfl, hs⟩ ?_ ?_
  ·
   rintro _ _ ⟨x16, x17, x18, h, _⟩
   exact rounds_zero h
  intro n_ ih1_
  rintro t w ⟨x16, x17, x18, Ho, hf, hs⟩
  obtain ⟨O, rfl⟩ := hf.open
  show G _ _ _ _ [_,_,_,_,_,_,_,_,_,_,_,_,_,_,_,_,_,_,_,_,_,_,_] _
  obtain ⟨x3_, H, Hx1_⟩ := rounds_succ Ho
  have H : _spec_l03Finder_works.b0 N self a6 a7 a10 x16 x17 x18 = some x3_ := H
  unfold _spec_l03Finder_works.b0 at H
  refine g_seq (g_seq (g_rg [0, 1] rfl ?_))
  refine g_op (v := Value.int .i64 x18) rfl rfl rfl ?_
  refine g_op_b (B := decide (x18 ≤ 1)) rfl rfl rfl ?_ ?_
  ·
   intro hb
   rw [if_pos (b_dec_t hb)] at H
   refine g_ops_nil (g_cond_true rfl (g_skip (g_seq ?_)))
   refine g_block (g_seq (g_rg [0, 1, 2, 3, 4, 5, 6, 7, 8] rfl ?_))
   refine g_op (v := Value.pointer (some ⟨b2, 0, none⟩)) rfl rfl rfl ?_
   refine s_loadA rfl rfl (es := (enc_S_spec_l03Known a6)) rfl rfl (fun _ => rfl) (n := 4) (fun _ => rfl) (fk_S_spec_l03Known.len _) (cells_all (hs.cells 2 rfl)) ?_
   show G _ _ _ _ [_,_,_,_,_,_,_,_,_,_,_,_,_,_,_,_,_,_,_,_,_,_,_] _
   refine g_op (v := Value.pointer (some ⟨b8, 0, none⟩)) rfl rfl rfl ?_
   refine g_op (v := Value.int .i64 x18) rfl rfl rfl ?_
   obtain ⟨r19, Hr19, H⟩ := bind_get H
   refine s_call (args := [Value.agg (enc_S_spec_l03Known a6).toArray, Value.pointer (some ⟨b8, 0, none⟩), Value.int .i64 x18]) rfl rfl (x_call rfl (callFunc_enter Try.func84 rfl rfl) rfl) (_spec_l03Known_after.calls (a1 := a6) (a2 := a7) (a5 := x18) (hs.box hp2) Hr19) ?_
   rintro _ w ⟨rfl, hs2⟩
   have hs : St _ [_,_,_,_] _ := hs.call hs2
   show G _ _ _ _ [_,_,_,_,_,_,_,_,_,_,_,_,_,_,_,_,_,_,_,_,_,_,_] _
   refine g_op (v := Value.int .i64 a10) rfl rfl rfl ?_
   refine g_op (v := Value.int .i64 (i64w (a10 - 1))) rfl rfl rfl ?_
   obtain ⟨r20, Hr20, H⟩ := bind_get H
   have hs := hs.pull 1 rfl
   have hs := hs.pull 1 rfl
   have hs : St _ [_,_,_,_] _ := hs
   have hs := hs.pack 2
   refine s_call (args := [Value.pointer (some ⟨b2, 0, none⟩), Value.agg (enc_S_spec_l03Known r19).toArray, Value.int .i64 (i64w (a10 - 1))]) rfl rfl (x_call rfl (callFunc_enter Try.func30 rfl rfl) rfl) (ih (⟨x16, x17⟩ : S_spec_l03Finder) r19 (i64w (a10 - 1)) _ _ _ _ _ _ hs Hr20) ?_
   rintro _ w ⟨rfl, hs⟩
   have hs := St.unpack (Γ := [_,_]) hs
   have hs : St _ [_,_,_,_] _ := hs
   generalize hb2_ : r20.1 = b_ at H ⊢
   cases b_ with
   | true =>
     rw [if_pos rfl] at H
     show G _ _ _ _ [_,_,_,_,_,_,_,_,_,_,_,_,_,_,_,_,_,_,_,_,_,_,_] _
     refine g_op (v := Value.bool false) rfl rfl rfl (g_ops_nil (g_cond_false rfl (g_skip ?_)))
     refine g_inBlock (g_rg [0, 1, 2] rfl ?_)
     refine g_op (v := Value.int .i64 x18) rfl rfl rfl ?_
     refine g_op (v := Value.int .i64 (i64w (x18 + 1))) rfl rfl rfl ?_
     show G _ _ _ _ [_,_,_,_,_,_,_,_,_,_,_,_,_,_,_,_,_,_,_,_,_,_,_] _
     refine g_op (v := Value.int .i64 (i64w (x18 + 1))) rfl rfl rfl (g_ops_nil ?_)
     obtain rfl := Option.some.inj H
     have hs := hs.pull 3 rfl
     have hs := hs.pull 3 rfl
     have hs := hs.pull 3 rfl
     have hs := hs.pull 3 rfl
     have hs : St _ [_,_,_,_] _ := St.take (Γ' := []) hs
     exact ih1_ _ _ ⟨r20.2.2.f_all, r20.2.1, i64w (x18 + 1), Hx1_, rfl, hs⟩
   | false =>
     rw [if_neg Bool.false_ne_true] at H
     show G _ _ _ _ [_,_,_,_,_,_,_,_,_,_,_,_,_,_,_,_,_,_,_,_,_,_,_] _
     refine g_op (v := Value.bool true) rfl rfl rfl (g_ops_nil (g_cond_true rfl (g_seq (g_rg [0] rfl ?_))))
     refine g_op (v := Value.bool false) rfl rfl rfl (g_ops_nil ?_)
     obtain rfl := Option.some.inj H
     subst Hx1_
     have H := Option.some.inj Hr1_
     subst H
     refine g_ret Try.func76 (v := Value.bool false) (res1 rfl rfl) ?_
     have hs := hs.pull 3 rfl
     have hs := hs.pull 2 rfl
     have hs := hs.pull 2 rfl
     have hs : St _ [_,_,_] _ := St.take (Γ' := [_]) hs
     exact ⟨_, rfl, rfl, hs⟩
  intro hb
  rw [if_neg (b_dec_f hb)] at H
  show G _ _ _ _ [_,_,_,_,_,_,_,_,_,_,_,_,_,_,_,_,_,_,_,_,_,_,_] _
  refine g_ops_nil (g_cond_false rfl ?_)
  obtain rfl := Option.some.inj H
  subst Hx1_
  have hs := hs.pull 3 rfl
  have hs := hs.pull 2 rfl
  have hs := hs.pull 2 rfl
  have hs : St _ [_,_,_] _ := St.take (Γ' := [_]) hs
  refine g_exit rfl ?_
  exact ha1_ _ _ ⟨x17, x16, Hr1_, rfl, hs⟩

/- function 76 _spec_l03Finder_works_at_own -/
def _spec_l03Finder_works_at_own.post (wb : World) (Z : As) (v3 : Value) (b2 : Nat) (v3 : Value) (b8 : Nat) (r : (Bool × (List Int) × S_spec_l03Finder × (Ar Int 8))) (v : Value) (w : World) : Prop := v = Value.bool r.1 ∧ St wb [Row 22 (K.int .i8) v3 r.2.1, Cells b2 (([Value.int .i64 r.2.2.1.f_all, v3] : List Value)) 99, Cells b8 ((encA (encI .i64)) r.2.2.2) 103, Z] w
set_option maxHeartbeats 8000000 in
set_option maxRecDepth 100000 in
theorem _spec_l03Finder_works_at_own.calls {N : Nat} {self : S_spec_l03Finder → S_spec_l03Known → Int → Option (Bool × (List Int) × S_spec_l03Finder)} (ih : ∀ (a1 : S_spec_l03Finder) (a6 : S_spec_l03Known) (a7 : Int) (b2 : Nat) (v3 : Value) (wb : World) (Z : As) (w0 : World) (r : (Bool × (List Int) × S_spec_l03Finder)) (hs : St wb [Row 22 (K.int .i8) v3 a1.f_seen, Cells b2 (([Value.int .i64 a1.f_all, v3] : List Value)) 99, Z] w0), self a1 a6 a7 = some r → Calls Try.prog 30 #[Value.pointer (some ⟨b2, 0, none⟩), Value.agg (enc_S_spec_l03Known a6).toArray, Value.int .i64 a7] w0 fun e w => ∃ v, e = .returned v ∧ _spec_l03Finder_can.post wb Z v3 b2 v3 r v w) {a1 : S_spec_l03Finder} {a6 : S_spec_l03Known} {a7 : (Ar Int 8)} {a10 : Int} {b2 : Nat} {v3 : Value} {b8 : Nat} {wb : World} {Z : As} {w0 : World} {r : (Bool × (List Int) × S_spec_l03Finder × (Ar Int 8))} (hs : St wb [Row 22 (K.int .i8) v3 a1.f_seen, Cells b2 (([Value.int .i64 a1.f_all, v3] : List Value)) 99, Cells b8 ((encA (encI .i64)) a7) 103, Z] w0) (H : _spec_l03Finder_works_at_own.f N self a1 a6 a7 a10 = some r) :
    Calls Try.prog 76 #[Value.pointer (some ⟨b2, 0, none⟩), Value.agg (enc_S_spec_l03Known a6).toArray, Value.pointer (some ⟨b8, 0, none⟩), Value.int .i64 a10] w0 fun e w => ∃ v, e = .returned v ∧ _spec_l03Finder_works_at_own.post wb Z v3 b2 v3 b8 r v w := by
  unfold _spec_l03Finder_works_at_own.f at H
  refine calls_of_g (n := 19) Try.func76 rfl rfl ?_
  show G _ _ _ _ [_,_,_,_,_,_,_,_,_,_,_,_,_,_,_,_,_,_,_,_,_,_,_] _
  refine g_seq (g_rg [0, 1] rfl ?_)
  refine s_box hs rfl rfl (cs := (enc_S_spec_l03Known a6)) rfl rfl ?_
  intro b11 w hs
  refine g_op (v := Value.bool false) rfl rfl rfl ?_
  show G _ _ _ _ [_,_,_,_,_,_,_,_,_,_,_,_,_,_,_,_,_,_,_,_,_,_,_] _
  refine g_ops_nil (g_seq (g_seq (g_rg [0] rfl ?_)))
  refine g_op (v := Value.int .i64 (-1)) rfl rfl rfl (g_ops_nil ?_)
  obtain ⟨o1_, Ho, Hr1_⟩ := bind_get H
  refine g_block_join (J := fun t w => ∃ x21 : (List Int), ∃ x23 : Int, _spec_l03Finder_works_at_own.a0 N self a7 x21 x23 = some r ∧ Fr t (fun O => ([O 0, O 1, O 2, O 3, O 4, O 5, O 6, O 7, O 8, O 9, O 10, O 11, O 12, O 13, O 14, O 15, O 16, O 17, O 18, O 19, O 20, O 21, O 22] : List Value)) ∧ St wb [Row 22 (K.int .i8) v3 x21, Cells b2 (([Value.int .i64 x23, v3] : List Value)) 99, Cells b8 ((encA (encI .i64)) a7) 103, Z] w) ?_ ?_
  ·
   rintro t w ⟨x21, x23, H, hf, hs⟩
   obtain ⟨O, rfl⟩ := hf.open
   show G _ _ _ _ [_,_,_,_,_,_,_,_,_,_,_,_,_,_,_,_,_,_,_,_,_,_,_] _
   unfold _spec_l03Finder_works_at_own.a0 at H
   refine g_seq (g_rg [0] rfl ?_)
   refine g_op (v := Value.bool true) rfl rfl rfl (g_ops_nil ?_)
   obtain rfl := Option.some.inj H
   refine g_ret Try.func76 (v := Value.bool true) (res1 rfl rfl) ?_
   have hs := hs.pull 3 rfl
   have hs := hs.pull 3 rfl
   have hs := hs.pull 3 rfl
   have hs := hs.pull 3 rfl
   have hs : St _ [_,_,_,_] _ := St.take (Γ' := []) hs
   exact ⟨_, rfl, rfl, hs⟩
  intro ha1_
  have hs := hs.pull 4 rfl
  have hs := hs.pull 1 rfl
  have hs := hs.pull 4 rfl
  have hs := hs.pull 4 rfl
  have hs := hs.pull 4 rfl
  have hs : St _ [_,_,_,_,_] _ := St.take (Γ' := []) hs
  refine g_loop_fuel (I := fun n_ t w => ∃ x16 : Int, ∃ x17 : (List Int), ∃ x18 : Int, rounds (fun s => _spec_l03Finder_works_at_own.b0 N self a6 a7 a10 s.1 s.2.1 s.2.2) n_ (x16, x17, x18) = some o1_ ∧ Fr t (fun O => ([Value.pointer (some ⟨b2, 0, none⟩), O 1, Value.pointer (some ⟨b8, 0, none⟩), Value.int .i64 a10, O 4, Value.pointer (some ⟨b11, 0, none⟩), O 6, O 7, O 8, Value.int .i64 x18, O 10, O 11, O 12, O 13, O 14, O 15, O 16, O 17, O 18, O 19, O 20, O 21, O 22] : List Value)) ∧ St wb [Row 22 (K.int .i8) v3 x17, Cells b2 (([Value.int .i64 x16, v3] : List Value)) 99, Cells b8 ((encA (encI .i64)) a7) 103, Cells b11 (enc_S_spec_l03Known a6) 62, Z] w) N ⟨a1.f_all, a1.f_seen, (-1), Ho, rfl, hs⟩ ?_ ?_
  ·
   rintro _ _ ⟨x16, x17, x18, h, _⟩
   exact rounds_zero h
  intro n_ ih1_
  rintro t w ⟨x16, x17, x18, Ho, hf, hs⟩
  obtain ⟨O, rfl⟩ := hf.open
  show G _ _ _ _ [_,_,_,_,_,_,_,_,_,_,_,_,_,_,_,_,_,_,_,_,_,_,_] _
  obtain ⟨x3_, H, Hx1_⟩ := rounds_succ Ho
  have H : _spec_l03Finder_works_at_own.b0 N self a6 a7 a10 x16 x17 x18 = some x3_ := H
  unfold _spec_l03Finder_works_at_own.b0 at H
  refine g_seq (g_seq (g_rg [0, 1] rfl ?_))
  refine g_op (v := Value.int .i64 x18) rfl rfl rfl ?_
  refine g_op_b (B := decide (x18 ≤ 1)) rfl rfl rfl ?_ ?_
  ·
   intro hb
   rw [if_pos (b_dec_t hb)] at H
   refine g_ops_nil (g_cond_true rfl (g_skip (g_seq ?_)))
   refine g_block (g_seq (g_rg [0, 1, 2, 3, 4, 5, 6, 7, 8] rfl ?_))
   refine g_op (v := Value.pointer (some ⟨b2, 0, none⟩)) rfl rfl rfl ?_
   refine s_loadA rfl rfl (es := (enc_S_spec_l03Known a6)) rfl rfl (fun _ => rfl) (n := 4) (fun _ => rfl) (fk_S_spec_l03Known.len _) (cells_all (hs.cells 3 rfl)) ?_
   show G _ _ _ _ [_,_,_,_,_,_,_,_,_,_,_,_,_,_,_,_,_,_,_,_,_,_,_] _
   refine g_op (v := Value.pointer (some ⟨b8, 0, none⟩)) rfl rfl rfl ?_
   refine g_op (v := Value.int .i64 x18) rfl rfl rfl ?_
   obtain ⟨r19, Hr19, H⟩ := bind_get H
   refine s_call (args := [Value.agg (enc_S_spec_l03Known a6).toArray, Value.pointer (some ⟨b8, 0, none⟩), Value.int .i64 x18]) rfl rfl (x_call rfl (callFunc_enter Try.func84 rfl rfl) rfl) (_spec_l03Known_after.calls (a1 := a6) (a2 := a7) (a5 := x18) (hs.cells 2 rfl) Hr19) ?_
   rintro _ w ⟨rfl, hs2⟩
   have hs : St _ [_,_,_,_,_] _ := hs.call hs2
   show G _ _ _ _ [_,_,_,_,_,_,_,_,_,_,_,_,_,_,_,_,_,_,_,_,_,_,_] _
   refine g_op (v := Value.int .i64 a10) rfl rfl rfl ?_
   refine g_op (v := Value.int .i64 (i64w (a10 - 1))) rfl rfl rfl ?_
   obtain ⟨r20, Hr20, H⟩ := bind_get H
   have hs := hs.pull 1 rfl
   have hs := hs.pull 1 rfl
   have hs : St _ [_,_,_,_,_] _ := hs
   have hs := hs.pack 2
   refine s_call (args := [Value.pointer (some ⟨b2, 0, none⟩), Value.agg (enc_S_spec_l03Known r19).toArray, Value.int .i64 (i64w (a10 - 1))]) rfl rfl (x_call rfl (callFunc_enter Try.func30 rfl rfl) rfl) (ih (⟨x16, x17⟩ : S_spec_l03Finder) r19 (i64w (a10 - 1)) _ _ _ _ _ _ hs Hr20) ?_
   rintro _ w ⟨rfl, hs⟩
   have hs := St.unpack (Γ := [_,_]) hs
   have hs : St _ [_,_,_,_,_] _ := hs
   generalize hb2_ : r20.1 = b_ at H ⊢
   cases b_ with
   | true =>
     rw [if_pos rfl] at H
     show G _ _ _ _ [_,_,_,_,_,_,_,_,_,_,_,_,_,_,_,_,_,_,_,_,_,_,_] _
     refine g_op (v := Value.bool false) rfl rfl rfl (g_ops_nil (g_cond_false rfl (g_skip ?_)))
     refine g_inBlock (g_rg [0, 1, 2] rfl ?_)
     refine g_op (v := Value.int .i64 x18) rfl rfl rfl ?_
     refine g_op (v := Value.int .i64 (i64w (x18 + 1))) rfl rfl rfl ?_
     show G _ _ _ _ [_,_,_,_,_,_,_,_,_,_,_,_,_,_,_,_,_,_,_,_,_,_,_] _
     refine g_op (v := Value.int .i64 (i64w (x18 + 1))) rfl rfl rfl (g_ops_nil ?_)
     obtain rfl := Option.some.inj H
     have hs := hs.pull 4 rfl
     have hs := hs.pull 4 rfl
     have hs := hs.pull 4 rfl
     have hs := hs.pull 4 rfl
     have hs := hs.pull 4 rfl
     have hs : St _ [_,_,_,_,_] _ := St.take (Γ' := []) hs
     exact ih1_ _ _ ⟨r20.2.2.f_all, r20.2.1, i64w (x18 + 1), Hx1_, rfl, hs⟩
   | false =>
     rw [if_neg Bool.false_ne_true] at H
     show G _ _ _ _ [_,_,_,_,_,_,_,_,_,_,_,_,_,_,_,_,_,_,_,_,_,_,_] _
     refine g_op (v := Value.bool true) rfl rfl rfl (g_ops_nil (g_cond_true rfl (g_seq (g_rg [0] rfl ?_))))
     refine g_op (v := Value.bool false) rfl rfl rfl (g_ops_nil ?_)
     obtain rfl := Option.some.inj H
     subst Hx1_
     have H := Option.some.inj Hr1_
     subst H
     refine g_ret Try.func76 (v := Value.bool false) (res1 rfl rfl) ?_
     have hs := hs.pull 4 rfl
     have hs := hs.pull 3 rfl
     have hs := hs.pull 3 rfl
     have hs := hs.pull 3 rfl
     have hs : St _ [_,_,_,_] _ := St.take (Γ' := [_]) hs
     exact ⟨_, rfl, rfl, hs⟩
  intro hb
  rw [if_neg (b_dec_f hb)] at H
  show G _ _ _ _ [_,_,_,_,_,_,_,_,_,_,_,_,_,_,_,_,_,_,_,_,_,_,_] _
  refine g_ops_nil (g_cond_false rfl ?_)
  obtain rfl := Option.some.inj H
  subst Hx1_
  have hs := hs.pull 4 rfl
  have hs := hs.pull 3 rfl
  have hs := hs.pull 3 rfl
  have hs := hs.pull 3 rfl
  have hs : St _ [_,_,_,_] _ := St.take (Γ' := [_]) hs
  refine g_exit rfl ?_
  exact ha1_ _ _ ⟨x17, x16, Hr1_, rfl, hs⟩

end Go.Proofs.YtgpdpedpmhonkaaX
