/- Contracts, printed by gen.py. -/
import Derived.Test.YtmnaclghakalmaaXT
import Derived.Test.YtmnaclghakalmaaProg
import Derived.Test.YtmnaclghakalmaaXRowR
import Derived.Test.YtmnaclghakalmaaXSq
import Derived.Test.YtmnaclghakalmaaXSeg
import Derived.Test.YtmnaclghakalmaaXKey
import Derived.Test.YtmnaclghakalmaaXIter
import Derived.Test.YtmnaclghakalmaaXRow2
import Derived.Test.YtmnaclghakalmaaXEla
import Derived.Test.YtmnaclghakalmaaTCX
namespace Go.Proofs.YtmnaclghakalmaaX
open Go Go.RowKit Go.Proofs
set_option linter.unusedVariables false
set_option linter.unusedSimpArgs false
/- function 11 laws_markTopsS -/
def laws_markTopsS.post (wb : World) (Z : As) (v2 : Value) (r : (Int × (List (Ar Int 4)))) (v : Value) (w : World) : Prop := v = Value.int .i64 r.1 ∧ St wb [Row 30 (K.ar 4 1 (encI .i16) (fkI .i16).len (fkI .i16).one) v2 r.2, Z] w
set_option maxHeartbeats 8000000 in
set_option maxRecDepth 100000 in
theorem laws_markTopsS.calls {N : Nat} {a1 : (List (Ar Int 4))} {a4 : Int} {v2 : Value} {wb : World} {Z : As} {w0 : World} {r : (Int × (List (Ar Int 4)))} (hs : St wb [Row 30 (K.ar 4 1 (encI .i16) (fkI .i16).len (fkI .i16).one) v2 a1, Z] w0) (H : laws_markTopsS.f N a1 a4 = some r) :
    Calls Try.prog 11 #[v2, Value.int .i64 a4] w0 fun e w => ∃ v, e = .returned v ∧ laws_markTopsS.post wb Z v2 r v w := by
  unfold laws_markTopsS.f at H
  refine calls_of_g (n := 25) Try.func11 rfl rfl ?_
  show G _ _ _ _ [_,_,_,_,_,_,_,_,_,_,_,_,_,_,_,_,_,_,_,_,_,_,_,_,_,_,_] _
  refine g_seq (g_rg [0] rfl ?_)
  refine g_op (v := Value.int .i64 0) rfl rfl rfl ?_
  show G _ _ _ _ [_,_,_,_,_,_,_,_,_,_,_,_,_,_,_,_,_,_,_,_,_,_,_,_,_,_,_] _
  refine g_ops_nil (g_seq (g_seq (g_rg [0] rfl ?_)))
  refine g_op (v := Value.int .i64 0) rfl rfl rfl (g_ops_nil ?_)
  obtain ⟨o1_, Ho, Hr1_⟩ := bind_get H
  refine g_block_join (J := fun t w => ∃ x30 : Int, ∃ x31 : (List (Ar Int 4)), laws_markTopsS.a0 N x30 x31 = some r ∧ Fr t (fun O => ([O 0, Value.int .i64 x30, O 2, O 3, O 4, O 5, O 6, O 7, O 8, O 9, O 10, O 11, O 12, O 13, O 14, O 15, O 16, O 17, O 18, O 19, O 20, O 21, O 22, O 23, O 24, O 25, O 26] : List Value)) ∧ St wb [Row 30 (K.ar 4 1 (encI .i16) (fkI .i16).len (fkI .i16).one) v2 x31, Z] w) ?_ ?_
  ·
   rintro t w ⟨x30, x31, H, hf, hs⟩
   obtain ⟨O, rfl⟩ := hf.open
   show G _ _ _ _ [_,_,_,_,_,_,_,_,_,_,_,_,_,_,_,_,_,_,_,_,_,_,_,_,_,_,_] _
   unfold laws_markTopsS.a0 at H
   refine g_seq (g_rg [0, 1] rfl ?_)
   refine g_op (v := Value.int .i64 x30) rfl rfl rfl ?_
   refine g_op (v := Value.int .i64 x30) rfl rfl rfl (g_ops_nil ?_)
   obtain rfl := Option.some.inj H
   refine g_ret Try.func11 (v := Value.int .i64 x30) (res1 rfl rfl) ?_
   have hs := hs.pull 1 rfl
   have hs := hs.pull 1 rfl
   have hs : St _ [_,_] _ := St.take (Γ' := []) hs
   exact ⟨_, rfl, rfl, hs⟩
  intro ha1_
  have hs := hs.pull 1 rfl
  have hs := hs.pull 1 rfl
  have hs : St _ [_,_] _ := St.take (Γ' := []) hs
  refine g_loop_fuel (I := fun n_ t w => ∃ x17 : (List (Ar Int 4)), ∃ x18 : Int, ∃ x19 : Int, rounds (fun s => laws_markTopsS.b0 N s.1 s.2.1 s.2.2) n_ (x17, x18, x19) = some o1_ ∧ Fr t (fun O => ([v2, Value.int .i64 x18, O 2, O 3, O 4, Value.int .i64 x19, O 6, O 7, O 8, O 9, O 10, O 11, O 12, O 13, O 14, O 15, O 16, O 17, O 18, O 19, O 20, O 21, O 22, O 23, O 24, O 25, O 26] : List Value)) ∧ St wb [Row 30 (K.ar 4 1 (encI .i16) (fkI .i16).len (fkI .i16).one) v2 x17, Z] w) N ⟨a1, a4, 0, Ho, rfl, hs⟩ ?_ ?_
  ·
   rintro _ _ ⟨x17, x18, x19, h, _⟩
   exact rounds_zero h
  intro n_ ih1_
  rintro t w ⟨x17, x18, x19, Ho, hf, hs⟩
  obtain ⟨O, rfl⟩ := hf.open
  show G _ _ _ _ [_,_,_,_,_,_,_,_,_,_,_,_,_,_,_,_,_,_,_,_,_,_,_,_,_,_,_] _
  obtain ⟨x11_, H, Hx1_⟩ := rounds_succ Ho
  have H : laws_markTopsS.b0 N x17 x18 x19 = some x11_ := H
  unfold laws_markTopsS.b0 at H
  refine g_seq (g_seq (g_rg [0, 1, 2, 3] rfl ?_))
  refine g_op (v := Value.int .i64 x19) rfl rfl rfl ?_
  refine g_op (v := v2) rfl rfl rfl ?_
  refine s_len (hs.row 0 rfl) rfl rfl rfl rfl rfl ?_
  refine g_op_b (B := decide (x19 < (x17.length : Int))) rfl rfl rfl ?_ ?_
  ·
   intro hb
   rw [if_pos (b_dec_t hb)] at H
   refine g_ops_nil (g_cond_true rfl (g_skip (g_seq ?_)))
   refine g_block (g_seq (g_rg [0] rfl ?_))
   refine g_op (v := Value.int .i64 0) rfl rfl rfl (g_ops_nil ?_)
   obtain ⟨o2_, Ho, Hr2_⟩ := bind_get H
   refine g_block_join (J := fun t w => ∃ x27 : (List (Ar Int 4)), ∃ x29 : Int, laws_markTopsS.a2 N x19 x27 x29 = some x11_ ∧ Fr t (fun O => ([v2, Value.int .i64 x29, O 2, O 3, O 4, Value.int .i64 x19, O 6, O 7, O 8, O 9, O 10, O 11, O 12, O 13, O 14, O 15, O 16, O 17, O 18, O 19, O 20, O 21, O 22, O 23, O 24, O 25, O 26] : List Value)) ∧ St wb [Row 30 (K.ar 4 1 (encI .i16) (fkI .i16).len (fkI .i16).one) v2 x27, Z] w) ?_ ?_
   ·
    rintro t w ⟨x27, x29, H, hf, hs⟩
    obtain ⟨O, rfl⟩ := hf.open
    show G _ _ _ _ [_,_,_,_,_,_,_,_,_,_,_,_,_,_,_,_,_,_,_,_,_,_,_,_,_,_,_] _
    unfold laws_markTopsS.a2 at H
    refine g_inBlock (g_rg [0, 1, 2] rfl ?_)
    refine g_op (v := Value.int .i64 x19) rfl rfl rfl ?_
    refine g_op (v := Value.int .i64 (i64w (x19 + 1))) rfl rfl rfl ?_
    refine g_op (v := Value.int .i64 (i64w (x19 + 1))) rfl rfl rfl ?_
    show G _ _ _ _ [_,_,_,_,_,_,_,_,_,_,_,_,_,_,_,_,_,_,_,_,_,_,_,_,_,_,_] _
    refine g_ops_nil ?_
    obtain rfl := Option.some.inj H
    have hs := hs.pull 1 rfl
    have hs := hs.pull 1 rfl
    have hs : St _ [_,_] _ := St.take (Γ' := []) hs
    exact ih1_ _ _ ⟨x27, x29, i64w (x19 + 1), Hx1_, rfl, hs⟩
   intro ha2_
   have hs := hs.pull 1 rfl
   have hs := hs.pull 1 rfl
   have hs : St _ [_,_] _ := St.take (Γ' := []) hs
   refine g_loop_fuel (I := fun n_ t w => ∃ x23 : (List (Ar Int 4)), ∃ x24 : Int, ∃ x25 : Int, rounds (fun s => laws_markTopsS.b2 N x19 s.1 s.2.1 s.2.2) n_ (x23, x24, x25) = some o2_ ∧ Fr t (fun O => ([v2, Value.int .i64 x24, O 2, O 3, O 4, Value.int .i64 x19, Value.int .i64 x25, O 7, O 8, O 9, O 10, O 11, O 12, O 13, O 14, O 15, O 16, O 17, O 18, O 19, O 20, O 21, O 22, O 23, O 24, O 25, O 26] : List Value)) ∧ St wb [Row 30 (K.ar 4 1 (encI .i16) (fkI .i16).len (fkI .i16).one) v2 x23, Z] w) N ⟨x17, x18, 0, Ho, rfl, hs⟩ ?_ ?_
   ·
    rintro _ _ ⟨x23, x24, x25, h, _⟩
    exact rounds_zero h
   intro n_ ih2_
   rintro t w ⟨x23, x24, x25, Ho, hf, hs⟩
   obtain ⟨O, rfl⟩ := hf.open
   show G _ _ _ _ [_,_,_,_,_,_,_,_,_,_,_,_,_,_,_,_,_,_,_,_,_,_,_,_,_,_,_] _
   obtain ⟨x10_, H, Hx2_⟩ := rounds_succ Ho
   have H : laws_markTopsS.b2 N x19 x23 x24 x25 = some x10_ := H
   unfold laws_markTopsS.b2 at H
   refine g_seq (g_seq (g_rg [0, 1] rfl ?_))
   refine g_op (v := Value.int .i64 x25) rfl rfl rfl ?_
   refine g_op_b (B := decide (x25 < 4)) rfl rfl rfl ?_ ?_
   ·
    intro hb
    rw [if_pos (b_dec_t hb)] at H
    refine g_ops_nil (g_cond_true rfl (g_skip (g_seq ?_)))
    refine g_block (g_seq (g_rg [0, 1, 2, 3, 4, 5, 6, 7] rfl ?_))
    refine g_op (v := v2) rfl rfl rfl ?_
    refine g_op (v := Value.int .i64 x19) rfl rfl rfl ?_
    refine g_op (v := Value.int .i64 x25) rfl rfl rfl ?_
    refine g_op (v := Value.int .i64 x24) rfl rfl rfl ?_
    refine g_op (v := Value.int .i16 (i16w x24)) rfl rfl rfl ?_
    obtain ⟨g8, H⟩ := ite_get H
    refine s_idx (fkA (n := 4) (he := (fkI .i16).len) (h1 := (fkI .i16).one)) (Ar.rep 4 0) (hs.row 0 rfl) rfl (fun _ => rfl) g8.1 g8.2 rfl rfl rfl rfl rfl ?_
    intro p26 hp26 lp26 op26
    obtain ⟨g9, H⟩ := ite_get H
    refine s_idxEA (n := x25) (m := 1) rfl (fun _ => rfl) g9.1 g9.2 rfl rfl rfl rfl rfl ?_
    show G _ _ _ _ [_,_,_,_,_,_,_,_,_,_,_,_,_,_,_,_,_,_,_,_,_,_,_,_,_,_,_] _
    refine s_stFld (y := (rdL x23 x19 (Ar.rep 4 0)).set x25 (i16w x24)) (off := x25.toNat * 1) (fs := ((encI .i16) (i16w x24))) (fkA (n := 4) (he := (fkI .i16).len) (h1 := (fkI .i16).one)) (Ar.rep 4 0) g8.1 g8.2 op26 hs rfl rfl rfl rfl rfl (fun _ => rfl) ((fkI .i16).len _) ((fkI .i16).one _) (show x25.toNat * 1 + 1 ≤ 4 by have h0_ := g9.1; have h1_ := g9.2; omega) ((encA_set (fkI .i16).len _ _ _ g9.1 g9.2).symm.trans (by rw [(fkI .i16).len]; rfl)) ?_
    intro w hs
    refine g_ops_nil (g_rg [0, 1, 2] rfl ?_)
    refine g_op (v := Value.int .i64 x24) rfl rfl rfl ?_
    refine g_op (v := Value.int .i64 (i64w (x24 + 1))) rfl rfl rfl ?_
    refine g_op (v := Value.int .i64 (i64w (x24 + 1))) rfl rfl rfl (g_ops_nil ?_)
    refine g_inBlock (g_rg [0, 1, 2] rfl ?_)
    refine g_op (v := Value.int .i64 x25) rfl rfl rfl ?_
    refine g_op (v := Value.int .i64 (i64w (x25 + 1))) rfl rfl rfl ?_
    show G _ _ _ _ [_,_,_,_,_,_,_,_,_,_,_,_,_,_,_,_,_,_,_,_,_,_,_,_,_,_,_] _
    refine g_op (v := Value.int .i64 (i64w (x25 + 1))) rfl rfl rfl (g_ops_nil ?_)
    obtain rfl := Option.some.inj H
    have hs := hs.pull 1 rfl
    have hs := hs.pull 1 rfl
    have hs : St _ [_,_] _ := St.take (Γ' := []) hs
    exact ih2_ _ _ ⟨stL x23 x19 ((rdL x23 x19 (Ar.rep 4 0)).set x25 (i16w x24)), i64w (x24 + 1), i64w (x25 + 1), Hx2_, rfl, hs⟩
   intro hb
   rw [if_neg (b_dec_f hb)] at H
   show G _ _ _ _ [_,_,_,_,_,_,_,_,_,_,_,_,_,_,_,_,_,_,_,_,_,_,_,_,_,_,_] _
   refine g_ops_nil (g_cond_false rfl ?_)
   obtain rfl := Option.some.inj H
   subst Hx2_
   have hs := hs.pull 1 rfl
   have hs := hs.pull 1 rfl
   have hs : St _ [_,_] _ := St.take (Γ' := []) hs
   refine g_exit rfl ?_
   exact ha2_ _ _ ⟨x23, x24, Hr2_, rfl, hs⟩
  intro hb
  rw [if_neg (b_dec_f hb)] at H
  show G _ _ _ _ [_,_,_,_,_,_,_,_,_,_,_,_,_,_,_,_,_,_,_,_,_,_,_,_,_,_,_] _
  refine g_ops_nil (g_cond_false rfl ?_)
  obtain rfl := Option.some.inj H
  subst Hx1_
  have hs := hs.pull 1 rfl
  have hs := hs.pull 1 rfl
  have hs : St _ [_,_] _ := St.take (Γ' := []) hs
  refine g_exit rfl ?_
  exact ha1_ _ _ ⟨x18, x17, Hr1_, rfl, hs⟩

/- function 12 laws_heldTopsS -/
def laws_heldTopsS.post (w0 : World) (r : Int) (v : Value) (w : World) : Prop := v = Value.int .i64 r ∧ St w0 [] w
set_option maxHeartbeats 8000000 in
set_option maxRecDepth 100000 in
theorem laws_heldTopsS.calls {N : Nat} {a1 : (List (Ar Int 4))} {a3 : Int} {v2 : Value} {w0 : World} {r : Int} (hr0 : RdRow (K.ar 4 1 (encI .i16) (fkI .i16).len (fkI .i16).one) w0 v2 a1) (H : laws_heldTopsS.f N a1 a3 = some r) :
    Calls Try.prog 12 #[v2, Value.int .i64 a3] w0 fun e w => ∃ v, e = .returned v ∧ laws_heldTopsS.post w0 r v w := by
  unfold laws_heldTopsS.f at H
  have hs : St w0 [] w0 := St.refl w0
  refine calls_of_g (n := 27) Try.func12 rfl rfl ?_
  show G _ _ _ _ [_,_,_,_,_,_,_,_,_,_,_,_,_,_,_,_,_,_,_,_,_,_,_,_,_,_,_,_,_] _
  refine g_seq (g_rg [0] rfl ?_)
  refine g_op (v := Value.int .i64 0) rfl rfl rfl (g_ops_nil (g_seq (g_seq (g_rg [0] rfl ?_))))
  refine g_op (v := Value.int .i64 0) rfl rfl rfl ?_
  show G _ _ _ _ [_,_,_,_,_,_,_,_,_,_,_,_,_,_,_,_,_,_,_,_,_,_,_,_,_,_,_,_,_] _
  refine g_ops_nil ?_
  obtain ⟨o1_, Ho, Hr1_⟩ := bind_get H
  refine g_block_join (J := fun t w => ∃ x10 : Int, laws_heldTopsS.a0 N x10 = some r ∧ Fr t (fun O => ([O 0, Value.int .i64 x10, O 2, O 3, O 4, O 5, O 6, O 7, O 8, O 9, O 10, O 11, O 12, O 13, O 14, O 15, O 16, O 17, O 18, O 19, O 20, O 21, O 22, O 23, O 24, O 25, O 26, O 27, O 28] : List Value)) ∧ St w0 [] w) ?_ ?_
  ·
   rintro t w ⟨x10, H, hf, hs⟩
   obtain ⟨O, rfl⟩ := hf.open
   show G _ _ _ _ [_,_,_,_,_,_,_,_,_,_,_,_,_,_,_,_,_,_,_,_,_,_,_,_,_,_,_,_,_] _
   unfold laws_heldTopsS.a0 at H
   refine g_seq (g_rg [0, 1] rfl ?_)
   refine g_op (v := Value.int .i64 x10) rfl rfl rfl ?_
   refine g_op (v := Value.int .i64 x10) rfl rfl rfl (g_ops_nil ?_)
   obtain rfl := Option.some.inj H
   refine g_ret Try.func12 (v := Value.int .i64 x10) (res1 rfl rfl) ?_
   have hs : St _ [] _ := St.take (Γ' := []) hs
   exact ⟨_, rfl, rfl, hs⟩
  intro ha1_
  have hs : St _ [] _ := St.take (Γ' := []) hs
  refine g_loop_fuel (I := fun n_ t w => ∃ x4 : Int, ∃ x5 : Int, rounds (fun s => laws_heldTopsS.b0 N a1 s.1 s.2) n_ (x4, x5) = some o1_ ∧ Fr t (fun O => ([v2, Value.int .i64 x4, O 2, O 3, O 4, Value.int .i64 x5, O 6, O 7, O 8, O 9, O 10, O 11, O 12, O 13, O 14, O 15, O 16, O 17, O 18, O 19, O 20, O 21, O 22, O 23, O 24, O 25, O 26, O 27, O 28] : List Value)) ∧ St w0 [] w) N ⟨a3, 0, Ho, rfl, hs⟩ ?_ ?_
  ·
   rintro _ _ ⟨x4, x5, h, _⟩
   exact rounds_zero h
  intro n_ ih1_
  rintro t w ⟨x4, x5, Ho, hf, hs⟩
  obtain ⟨O, rfl⟩ := hf.open
  show G _ _ _ _ [_,_,_,_,_,_,_,_,_,_,_,_,_,_,_,_,_,_,_,_,_,_,_,_,_,_,_,_,_] _
  obtain ⟨x4_, H, Hx1_⟩ := rounds_succ Ho
  have H : laws_heldTopsS.b0 N a1 x4 x5 = some x4_ := H
  unfold laws_heldTopsS.b0 at H
  refine g_seq (g_seq (g_rg [0, 1, 2, 3] rfl ?_))
  refine g_op (v := Value.int .i64 x5) rfl rfl rfl ?_
  refine g_op (v := v2) rfl rfl rfl ?_
  refine s_len (hs.rd hr0) rfl rfl rfl rfl rfl ?_
  refine g_op_b (B := decide (x5 < (a1.length : Int))) rfl rfl rfl ?_ ?_
  ·
   intro hb
   rw [if_pos (b_dec_t hb)] at H
   show G _ _ _ _ [_,_,_,_,_,_,_,_,_,_,_,_,_,_,_,_,_,_,_,_,_,_,_,_,_,_,_,_,_] _
   refine g_ops_nil (g_cond_true rfl (g_skip (g_seq ?_)))
   refine g_block (g_seq (g_rg [0] rfl ?_))
   refine g_op (v := Value.int .i64 0) rfl rfl rfl (g_ops_nil ?_)
   obtain ⟨o2_, Ho, Hr2_⟩ := bind_get H
   refine g_block_join (J := fun t w => ∃ x9 : Int, laws_heldTopsS.a2 N x5 x9 = some x4_ ∧ Fr t (fun O => ([v2, Value.int .i64 x9, O 2, O 3, O 4, Value.int .i64 x5, O 6, O 7, O 8, O 9, O 10, O 11, O 12, O 13, O 14, O 15, O 16, O 17, O 18, O 19, O 20, O 21, O 22, O 23, O 24, O 25, O 26, O 27, O 28] : List Value)) ∧ St w0 [] w) ?_ ?_
   ·
    rintro t w ⟨x9, H, hf, hs⟩
    obtain ⟨O, rfl⟩ := hf.open
    show G _ _ _ _ [_,_,_,_,_,_,_,_,_,_,_,_,_,_,_,_,_,_,_,_,_,_,_,_,_,_,_,_,_] _
    unfold laws_heldTopsS.a2 at H
    refine g_inBlock (g_rg [0, 1, 2] rfl ?_)
    refine g_op (v := Value.int .i64 x5) rfl rfl rfl ?_
    refine g_op (v := Value.int .i64 (i64w (x5 + 1))) rfl rfl rfl ?_
    refine g_op (v := Value.int .i64 (i64w (x5 + 1))) rfl rfl rfl ?_
    show G _ _ _ _ [_,_,_,_,_,_,_,_,_,_,_,_,_,_,_,_,_,_,_,_,_,_,_,_,_,_,_,_,_] _
    refine g_ops_nil ?_
    obtain rfl := Option.some.inj H
    have hs : St _ [] _ := St.take (Γ' := []) hs
    exact ih1_ _ _ ⟨x9, i64w (x5 + 1), Hx1_, rfl, hs⟩
   intro ha2_
   have hs : St _ [] _ := St.take (Γ' := []) hs
   refine g_loop_fuel (I := fun n_ t w => ∃ x6 : Int, ∃ x7 : Int, rounds (fun s => laws_heldTopsS.b2 N x5 a1 s.1 s.2) n_ (x6, x7) = some o2_ ∧ Fr t (fun O => ([v2, Value.int .i64 x6, O 2, O 3, O 4, Value.int .i64 x5, Value.int .i64 x7, O 7, O 8, O 9, O 10, O 11, O 12, O 13, O 14, O 15, O 16, O 17, O 18, O 19, O 20, O 21, O 22, O 23, O 24, O 25, O 26, O 27, O 28] : List Value)) ∧ St w0 [] w) N ⟨x4, 0, Ho, rfl, hs⟩ ?_ ?_
   ·
    rintro _ _ ⟨x6, x7, h, _⟩
    exact rounds_zero h
   intro n_ ih2_
   rintro t w ⟨x6, x7, Ho, hf, hs⟩
   obtain ⟨O, rfl⟩ := hf.open
   show G _ _ _ _ [_,_,_,_,_,_,_,_,_,_,_,_,_,_,_,_,_,_,_,_,_,_,_,_,_,_,_,_,_] _
   obtain ⟨x3_, H, Hx2_⟩ := rounds_succ Ho
   have H : laws_heldTopsS.b2 N x5 a1 x6 x7 = some x3_ := H
   unfold laws_heldTopsS.b2 at H
   refine g_seq (g_seq (g_rg [0, 1] rfl ?_))
   refine g_op (v := Value.int .i64 x7) rfl rfl rfl ?_
   refine g_op_b (B := decide (x7 < 4)) rfl rfl rfl ?_ ?_
   ·
    intro hb
    rw [if_pos (b_dec_t hb)] at H
    show G _ _ _ _ [_,_,_,_,_,_,_,_,_,_,_,_,_,_,_,_,_,_,_,_,_,_,_,_,_,_,_,_,_] _
    refine g_ops_nil (g_cond_true rfl (g_skip (g_seq ?_)))
    refine g_block (g_seq (g_seq (g_rg [0, 1, 2, 3, 4, 5, 6, 7, 8] rfl ?_)))
    refine g_op (v := v2) rfl rfl rfl ?_
    refine g_op (v := Value.int .i64 x5) rfl rfl rfl ?_
    refine g_op (v := Value.int .i64 x7) rfl rfl rfl ?_
    obtain ⟨g1, H⟩ := ite_get H
    refine s_idx (fkA (n := 4) (he := (fkI .i16).len) (h1 := (fkI .i16).one)) (Ar.rep 4 0) (hs.rd hr0) rfl (fun _ => rfl) g1.1 g1.2 rfl rfl rfl rfl rfl ?_
    intro p8 hp8 lp8 op8
    obtain ⟨g2, H⟩ := ite_get H
    refine s_idxEA (n := x7) (m := 1) rfl (fun _ => rfl) g2.1 g2.2 rfl rfl rfl rfl rfl ?_
    refine s_load1 rfl rfl (v := Value.int .i16 ((rdL a1 x5 (Ar.rep 4 0)).get x7 0)) rfl rfl (fun _ => rfl) (CellsAt.sub hp8 _ 1 (encA_at (fkI .i16).len _ _ 0 g2.1 g2.2)) ?_
    show G _ _ _ _ [_,_,_,_,_,_,_,_,_,_,_,_,_,_,_,_,_,_,_,_,_,_,_,_,_,_,_,_,_] _
    refine g_op (v := Value.int .i64 x6) rfl rfl rfl ?_
    refine g_op (v := Value.int .i16 (i16w x6)) rfl rfl rfl ?_
    refine g_op_b (B := ((rdL a1 x5 (Ar.rep 4 0)).get x7 0) != (i16w x6)) rfl rfl rfl ?_ ?_
    ·
     intro hb
     rw [if_neg (b_bne_t hb)] at H
     show G _ _ _ _ [_,_,_,_,_,_,_,_,_,_,_,_,_,_,_,_,_,_,_,_,_,_,_,_,_,_,_,_,_] _
     refine g_ops_nil (g_cond_true rfl (g_seq (g_rg [0] rfl ?_)))
     refine g_op (v := Value.int .i64 (-1)) rfl rfl rfl (g_ops_nil ?_)
     obtain rfl := Option.some.inj H
     subst Hx2_
     have H := Option.some.inj Hr2_
     subst H
     subst Hx1_
     have H := Option.some.inj Hr1_
     subst H
     refine g_ret Try.func12 (v := Value.int .i64 (-1)) (res1 rfl rfl) ?_
     have hs : St _ [] _ := St.take (Γ' := []) hs
     exact ⟨_, rfl, rfl, hs⟩
    intro hb
    rw [if_pos (b_bne_f hb)] at H
    refine g_ops_nil (g_cond_false rfl (g_skip (g_rg [0, 1, 2] rfl ?_)))
    refine g_op (v := Value.int .i64 x6) rfl rfl rfl ?_
    refine g_op (v := Value.int .i64 (i64w (x6 + 1))) rfl rfl rfl ?_
    refine g_op (v := Value.int .i64 (i64w (x6 + 1))) rfl rfl rfl ?_
    show G _ _ _ _ [_,_,_,_,_,_,_,_,_,_,_,_,_,_,_,_,_,_,_,_,_,_,_,_,_,_,_,_,_] _
    refine g_ops_nil ?_
    refine g_inBlock (g_rg [0, 1, 2] rfl ?_)
    refine g_op (v := Value.int .i64 x7) rfl rfl rfl ?_
    refine g_op (v := Value.int .i64 (i64w (x7 + 1))) rfl rfl rfl ?_
    refine g_op (v := Value.int .i64 (i64w (x7 + 1))) rfl rfl rfl (g_ops_nil ?_)
    obtain rfl := Option.some.inj H
    have hs : St _ [] _ := St.take (Γ' := []) hs
    exact ih2_ _ _ ⟨i64w (x6 + 1), i64w (x7 + 1), Hx2_, rfl, hs⟩
   intro hb
   rw [if_neg (b_dec_f hb)] at H
   refine g_ops_nil (g_cond_false rfl ?_)
   obtain rfl := Option.some.inj H
   subst Hx2_
   have hs : St _ [] _ := St.take (Γ' := []) hs
   refine g_exit rfl ?_
   exact ha2_ _ _ ⟨x6, Hr2_, rfl, hs⟩
  intro hb
  rw [if_neg (b_dec_f hb)] at H
  refine g_ops_nil (g_cond_false rfl ?_)
  obtain rfl := Option.some.inj H
  subst Hx1_
  have hs : St _ [] _ := St.take (Γ' := []) hs
  refine g_exit rfl ?_
  exact ha1_ _ _ ⟨x4, Hr1_, rfl, hs⟩

end Go.Proofs.YtmnaclghakalmaaX
