/- Contracts, printed by gen.py. -/
import Derived.Test.YtmnaclghakalmaaXT
import Derived.Test.YtmnaclghakalmaaProg
import Derived.Test.YtmnaclghakalmaaXRowR
import Derived.Test.YtmnaclghakalmaaXSq
import Derived.Test.YtmnaclghakalmaaXSeg
import Derived.Test.YtmnaclghakalmaaXKey
import Derived.Test.YtmnaclghakalmaaXIter
import Derived.Test.YtmnaclghakalmaaXRow2
import Derived.Test.YtmnaclghakalmaaXEla
import Derived.Test.YtmnaclghakalmaaTCX
namespace Go.Proofs.YtmnaclghakalmaaX
open Go Go.RowKit Go.Proofs
set_option linter.unusedVariables false
set_option linter.unusedSimpArgs false
/- function 22 laws_eqTops -/
def laws_eqTops.post (w0 : World) (r : Bool) (v : Value) (w : World) : Prop := v = Value.bool r ∧ St w0 [] w
set_option maxHeartbeats 8000000 in
set_option maxRecDepth 100000 in
theorem laws_eqTops.calls {N : Nat} {a1 : (Ar Int 4)} {a2 : (Ar Int 4)} {w0 : World} {r : Bool} (H : laws_eqTops.f N a1 a2 = some r) :
    Calls Try.prog 22 #[Value.agg ((encA (encI .i16)) a1).toArray, Value.agg ((encA (encI .i16)) a2).toArray] w0 fun e w => ∃ v, e = .returned v ∧ laws_eqTops.post w0 r v w := by
  unfold laws_eqTops.f at H
  have hs : St w0 [] w0 := St.refl w0
  refine calls_of_g (n := 15) Try.func22 rfl rfl ?_
  show G _ _ _ _ [_,_,_,_,_,_,_,_,_,_,_,_,_,_,_,_,_] _
  refine g_seq (g_rg [0, 1, 2] rfl ?_)
  refine s_box hs rfl rfl (cs := ((encA (encI .i16)) a1)) rfl rfl ?_
  intro b3 w hs
  refine s_box hs rfl rfl (cs := ((encA (encI .i16)) a2)) rfl rfl ?_
  intro b5 w hs
  refine g_op (v := Value.bool false) rfl rfl rfl ?_
  show G _ _ _ _ [_,_,_,_,_,_,_,_,_,_,_,_,_,_,_,_,_] _
  refine g_ops_nil (g_seq (g_seq (g_rg [0] rfl ?_)))
  refine g_op (v := Value.int .i64 0) rfl rfl rfl (g_ops_nil ?_)
  obtain ⟨o1_, Ho, Hr1_⟩ := bind_get H
  refine g_block_join (J := fun t w => laws_eqTops.a0 N = some r ∧ Fr t (fun O => ([O 0, O 1, O 2, O 3, O 4, O 5, O 6, O 7, O 8, O 9, O 10, O 11, O 12, O 13, O 14, O 15, O 16] : List Value)) ∧ St w0 [] w) ?_ ?_
  ·
   rintro t w ⟨H, hf, hs⟩
   obtain ⟨O, rfl⟩ := hf.open
   show G _ _ _ _ [_,_,_,_,_,_,_,_,_,_,_,_,_,_,_,_,_] _
   unfold laws_eqTops.a0 at H
   refine g_seq (g_rg [0] rfl ?_)
   refine g_op (v := Value.bool true) rfl rfl rfl (g_ops_nil ?_)
   obtain rfl := Option.some.inj H
   refine g_ret Try.func22 (v := Value.bool true) (res1 rfl rfl) ?_
   have hs : St _ [] _ := St.take (Γ' := []) hs
   exact ⟨_, rfl, rfl, hs⟩
  intro ha1_
  have hs := hs.pull 0 rfl
  have hs := hs.pull 1 rfl
  have hs : St _ [_,_] _ := St.take (Γ' := []) hs
  refine g_loop_fuel (I := fun n_ t w => ∃ x7 : Int, rounds (fun s => laws_eqTops.b0 N a1 a2 s) n_ x7 = some o1_ ∧ Fr t (fun O => ([O 0, O 1, Value.pointer (some ⟨b3, 0, none⟩), Value.pointer (some ⟨b5, 0, none⟩), O 4, Value.int .i64 x7, O 6, O 7, O 8, O 9, O 10, O 11, O 12, O 13, O 14, O 15, O 16] : List Value)) ∧ St w0 [Cells b3 ((encA (encI .i16)) a1) 30, Cells b5 ((encA (encI .i16)) a2) 30] w) N ⟨0, Ho, rfl, hs⟩ ?_ ?_
  ·
   rintro _ _ ⟨x7, h, _⟩
   exact rounds_zero h
  intro n_ ih1_
  rintro t w ⟨x7, Ho, hf, hs⟩
  obtain ⟨O, rfl⟩ := hf.open
  show G _ _ _ _ [_,_,_,_,_,_,_,_,_,_,_,_,_,_,_,_,_] _
  obtain ⟨x5_, H, Hx1_⟩ := rounds_succ Ho
  have H : laws_eqTops.b0 N a1 a2 x7 = some x5_ := H
  unfold laws_eqTops.b0 at H
  refine g_seq (g_seq (g_rg [0, 1] rfl ?_))
  refine g_op (v := Value.int .i64 x7) rfl rfl rfl ?_
  refine g_op_b (B := decide (x7 < 4)) rfl rfl rfl ?_ ?_
  ·
   intro hb
   rw [if_pos (b_dec_t hb)] at H
   refine g_ops_nil (g_cond_true rfl (g_skip (g_seq ?_)))
   refine g_block (g_seq ?_)
   refine g_lay (n := 7) rfl [0, 1, 2, 3, 4, 5, 6] [0, 1, 2, 3, 4, 5, 6] rfl rfl ?_
   intro rest w hh hbw hO
   have hs := hs.samew hh hbw
   show G _ _ _ _ [_,_,_,_,_,_,_,_,_,_,_,_,_,_,_,_,_] _
   obtain ⟨gd2, H⟩ := ite_get H
   obtain ⟨gd3, H⟩ := ite_get H
   refine g_name ?_
   intro T hT
   refine g_layer (m0 := 0) hO rfl 63 [0, 1, 2, 3, 4, 5] [0, 1, 3, 0, 8, 24, 63] (by decide +kernel) (fun D t w => ∃ O : Nat → Value, t = [O 0, O 1, Value.pointer (some ⟨b3, 0, none⟩), Value.pointer (some ⟨b5, 0, none⟩), O 4, Value.int .i64 x7, Value.int .i64 x7, Value.bool true, O 8, O 9, cnd (D 0) (Value.int .i64 x7) (O 10), cnd (D 1) (Value.pointer (some ⟨b3, 0 + x7.toNat * 1, none⟩)) (O 11), cnd (D 2) (Value.int .i16 (a1.get x7 0)) (O 12), cnd (D 3) (Value.int .i64 x7) (O 13), cnd (D 4) (Value.pointer (some ⟨b5, 0 + x7.toNat * 1, none⟩)) (O 14), cnd (D 5) (Value.int .i16 (a2.get x7 0)) (O 15), O 16] ∧ St w0 [Cells b3 ((encA (encI .i16)) a1) 30, Cells b5 ((encA (encI .i16)) a2) 30] w) ?_ ⟨?_, ⟨?_, ⟨?_, ⟨?_, ⟨?_, ⟨?_, trivial⟩⟩⟩⟩⟩⟩ ?_
   · exact ⟨fun i => T.getD i undef, (by subst hT; rfl), hs⟩
   ·
    rintro D t w hD hp hcl ⟨O, ht, hs⟩ rest hk
    have hp : AllDone D [] := hp
    have q1_ := ny hcl 1 0 hD
    have q2_ := ny hcl 2 0 q1_
    simp only [hD, q1_, q2_, cq] at ht hs
    subst ht
    refine g_op (v := Value.int .i64 x7) rfl rfl rfl ?_
    show G _ _ _ _ [_,_,_,_,_,_,_,_,_,_,_,_,_,_,_,_,_] _
    refine hk _ _ ⟨O, ?_, hs.cast ?_⟩ <;> simp only [lq, cq, Nat.reduceBEq, q1_, q2_]
   ·
    rintro D t w hD hp hcl ⟨O, ht, hs⟩ rest hk
    have hp : AllDone D [0] := hp
    obtain ⟨p0_, _⟩ := hp
    have q2_ := ny hcl 2 0 hD
    simp only [hD, p0_, q2_, cq] at ht hs
    subst ht
    refine s_idxA (n := x7) (m := 1) rfl (fun _ => rfl) gd2.1 gd2.2 rfl rfl rfl rfl rfl ?_
    show G _ _ _ _ [_,_,_,_,_,_,_,_,_,_,_,_,_,_,_,_,_] _
    refine hk _ _ ⟨O, ?_, hs.cast ?_⟩ <;> simp only [lq, cq, Nat.reduceBEq, p0_, q2_]
   ·
    rintro D t w hD hp hcl ⟨O, ht, hs⟩ rest hk
    have hp : AllDone D [1] := hp
    obtain ⟨p1_, _⟩ := hp
    obtain ⟨p0_, _⟩ := (show D 1 = true → AllDone D [0] from hcl 1 (by decide)) p1_
    simp only [hD, p0_, p1_, cq] at ht hs
    subst ht
    refine s_load1 rfl rfl (v := Value.int .i16 (a1.get x7 0)) rfl rfl (fun _ => rfl) (by rw [Nat.zero_add]; exact cells_load (hs.cells 0 rfl) _ _ (encA_at (fkI .i16).len _ _ 0 gd2.1 gd2.2)) ?_
    show G _ _ _ _ [_,_,_,_,_,_,_,_,_,_,_,_,_,_,_,_,_] _
    refine hk _ _ ⟨O, ?_, hs.cast ?_⟩ <;> simp only [lq, cq, Nat.reduceBEq, p0_, p1_]
   ·
    rintro D t w hD hp hcl ⟨O, ht, hs⟩ rest hk
    have hp : AllDone D [] := hp
    have q4_ := ny hcl 4 0 hD
    have q5_ := ny hcl 5 0 q4_
    simp only [hD, q4_, q5_, cq] at ht hs
    subst ht
    refine g_op (v := Value.int .i64 x7) rfl rfl rfl ?_
    show G _ _ _ _ [_,_,_,_,_,_,_,_,_,_,_,_,_,_,_,_,_] _
    refine hk _ _ ⟨O, ?_, hs.cast ?_⟩ <;> simp only [lq, cq, Nat.reduceBEq, q4_, q5_]
   ·
    rintro D t w hD hp hcl ⟨O, ht, hs⟩ rest hk
    have hp : AllDone D [3] := hp
    obtain ⟨p3_, _⟩ := hp
    have q5_ := ny hcl 5 0 hD
    simp only [hD, p3_, q5_, cq] at ht hs
    subst ht
    refine s_idxA (n := x7) (m := 1) rfl (fun _ => rfl) gd3.1 gd3.2 rfl rfl rfl rfl rfl ?_
    show G _ _ _ _ [_,_,_,_,_,_,_,_,_,_,_,_,_,_,_,_,_] _
    refine hk _ _ ⟨O, ?_, hs.cast ?_⟩ <;> simp only [lq, cq, Nat.reduceBEq, p3_, q5_]
   ·
    rintro D t w hD hp hcl ⟨O, ht, hs⟩ rest hk
    have hp : AllDone D [4] := hp
    obtain ⟨p4_, _⟩ := hp
    obtain ⟨p3_, _⟩ := (show D 4 = true → AllDone D [3] from hcl 4 (by decide)) p4_
    simp only [hD, p3_, p4_, cq] at ht hs
    subst ht
    refine s_load1 rfl rfl (v := Value.int .i16 (a2.get x7 0)) rfl rfl (fun _ => rfl) (by rw [Nat.zero_add]; exact cells_load (hs.cells 1 rfl) _ _ (encA_at (fkI .i16).len _ _ 0 gd3.1 gd3.2)) ?_
    show G _ _ _ _ [_,_,_,_,_,_,_,_,_,_,_,_,_,_,_,_,_] _
    refine hk _ _ ⟨O, ?_, hs.cast ?_⟩ <;> simp only [lq, cq, Nat.reduceBEq, p3_, p4_]
   intro D t w rest hall hO1_ hI
   obtain ⟨O, ht, hs⟩ := hI
   have p0_ := hall 0 (by decide) rfl
   have p1_ := hall 1 (by decide) rfl
   have p2_ := hall 2 (by decide) rfl
   have p3_ := hall 3 (by decide) rfl
   have p4_ := hall 4 (by decide) rfl
   have p5_ := hall 5 (by decide) rfl
   simp only [p0_, p1_, p2_, p3_, p4_, p5_, cq] at ht hs
   subst ht
   obtain ⟨rest, rfl, hO4_⟩ := ord_one (m := 63) hO1_ rfl 6 (m' := 127) (by decide +kernel) rfl
   clear hO1_
   refine g_op_b (B := (a1.get x7 0) != (a2.get x7 0)) rfl rfl rfl ?_ ?_
   ·
    intro hb
    rw [if_neg (b_bne_t hb)] at H
    show G _ _ _ _ [_,_,_,_,_,_,_,_,_,_,_,_,_,_,_,_,_] _
    obtain rfl := ord_end hO4_ rfl (by decide +kernel)
    refine g_ops_nil (g_cond_true rfl (g_seq (g_rg [0] rfl ?_)))
    refine g_op (v := Value.bool false) rfl rfl rfl (g_ops_nil ?_)
    obtain rfl := Option.some.inj H
    subst Hx1_
    have H := Option.some.inj Hr1_
    subst H
    refine g_ret Try.func22 (v := Value.bool false) (res1 rfl rfl) ?_
    have hs : St _ [] _ := St.take (Γ' := [_,_]) hs
    exact ⟨_, rfl, rfl, hs⟩
   intro hb
   rw [if_pos (b_bne_f hb)] at H
   obtain rfl := ord_end hO4_ rfl (by decide +kernel)
   refine g_ops_nil (g_cond_false rfl (g_skip ?_))
   refine g_inBlock (g_rg [0, 1, 2] rfl ?_)
   refine g_op (v := Value.int .i64 x7) rfl rfl rfl ?_
   show G _ _ _ _ [_,_,_,_,_,_,_,_,_,_,_,_,_,_,_,_,_] _
   refine g_op (v := Value.int .i64 (i64w (x7 + 1))) rfl rfl rfl ?_
   refine g_op (v := Value.int .i64 (i64w (x7 + 1))) rfl rfl rfl (g_ops_nil ?_)
   obtain rfl := Option.some.inj H
   have hs := hs.pull 1 rfl
   have hs := hs.pull 1 rfl
   have hs : St _ [_,_] _ := St.take (Γ' := []) hs
   exact ih1_ _ _ ⟨i64w (x7 + 1), Hx1_, rfl, hs⟩
  intro hb
  rw [if_neg (b_dec_f hb)] at H
  show G _ _ _ _ [_,_,_,_,_,_,_,_,_,_,_,_,_,_,_,_,_] _
  refine g_ops_nil (g_cond_false rfl ?_)
  obtain rfl := Option.some.inj H
  subst Hx1_
  have hs : St _ [] _ := St.take (Γ' := [_,_]) hs
  refine g_exit rfl ?_
  exact ha1_ _ _ ⟨Hr1_, rfl, hs⟩

/- function 8 laws_eqTopsS -/
def laws_eqTopsS.post (w0 : World) (r : Bool) (v : Value) (w : World) : Prop := v = Value.bool r ∧ St w0 [] w
set_option maxHeartbeats 8000000 in
set_option maxRecDepth 100000 in
theorem laws_eqTopsS.calls {N : Nat} {a1 : (List (Ar Int 4))} {a3 : (List (Ar Int 4))} {v2 : Value} {v4 : Value} {w0 : World} {r : Bool} (hr0 : RdRow (K.ar 4 1 (encI .i16) (fkI .i16).len (fkI .i16).one) w0 v2 a1) (hr1 : RdRow (K.ar 4 1 (encI .i16) (fkI .i16).len (fkI .i16).one) w0 v4 a3) (H : laws_eqTopsS.f N a1 a3 = some r) :
    Calls Try.prog 8 #[v2, v4] w0 fun e w => ∃ v, e = .returned v ∧ laws_eqTopsS.post w0 r v w := by
  unfold laws_eqTopsS.f at H
  have hs : St w0 [] w0 := St.refl w0
  refine calls_of_g (n := 25) Try.func8 rfl rfl ?_
  show G _ _ _ _ [_,_,_,_,_,_,_,_,_,_,_,_,_,_,_,_,_,_,_,_,_,_,_,_,_,_,_] _
  refine g_seq (g_rg [0] rfl ?_)
  refine g_op (v := Value.bool false) rfl rfl rfl (g_ops_nil (g_seq (g_seq (g_rg [0, 1, 2, 3, 4] rfl ?_))))
  refine g_op (v := v2) rfl rfl rfl ?_
  refine s_len (hs.rd hr0) rfl rfl rfl rfl rfl ?_
  refine g_op (v := v4) rfl rfl rfl ?_
  refine s_len (hs.rd hr1) rfl rfl rfl rfl rfl ?_
  show G _ _ _ _ [_,_,_,_,_,_,_,_,_,_,_,_,_,_,_,_,_,_,_,_,_,_,_,_,_,_,_] _
  refine g_op_b (B := (a1.length : Int) != (a3.length : Int)) rfl rfl rfl ?_ ?_
  ·
   intro hb
   rw [if_neg (b_bne_t hb)] at H
   show G _ _ _ _ [_,_,_,_,_,_,_,_,_,_,_,_,_,_,_,_,_,_,_,_,_,_,_,_,_,_,_] _
   refine g_ops_nil (g_cond_true rfl (g_seq (g_rg [0] rfl ?_)))
   refine g_op (v := Value.bool false) rfl rfl rfl (g_ops_nil ?_)
   obtain rfl := Option.some.inj H
   refine g_ret Try.func8 (v := Value.bool false) (res1 rfl rfl) ?_
   have hs : St _ [] _ := St.take (Γ' := []) hs
   exact ⟨_, rfl, rfl, hs⟩
  intro hb
  rw [if_pos (b_bne_f hb)] at H
  refine g_ops_nil (g_cond_false rfl (g_skip (g_seq (g_seq (g_rg [0] rfl ?_)))))
  refine g_op (v := Value.int .i64 0) rfl rfl rfl (g_ops_nil ?_)
  obtain ⟨o1_, Ho, Hr1_⟩ := bind_get H
  refine g_block_join (J := fun t w => laws_eqTopsS.a0 N = some r ∧ Fr t (fun O => ([O 0, O 1, O 2, O 3, O 4, O 5, O 6, O 7, O 8, O 9, O 10, O 11, O 12, O 13, O 14, O 15, O 16, O 17, O 18, O 19, O 20, O 21, O 22, O 23, O 24, O 25, O 26] : List Value)) ∧ St w0 [] w) ?_ ?_
  ·
   rintro t w ⟨H, hf, hs⟩
   obtain ⟨O, rfl⟩ := hf.open
   show G _ _ _ _ [_,_,_,_,_,_,_,_,_,_,_,_,_,_,_,_,_,_,_,_,_,_,_,_,_,_,_] _
   unfold laws_eqTopsS.a0 at H
   refine g_seq (g_rg [0] rfl ?_)
   refine g_op (v := Value.bool true) rfl rfl rfl (g_ops_nil ?_)
   obtain rfl := Option.some.inj H
   refine g_ret Try.func8 (v := Value.bool true) (res1 rfl rfl) ?_
   have hs : St _ [] _ := St.take (Γ' := []) hs
   exact ⟨_, rfl, rfl, hs⟩
  intro ha1_
  have hs : St _ [] _ := St.take (Γ' := []) hs
  refine g_loop_fuel (I := fun n_ t w => ∃ x5 : Int, rounds (fun s => laws_eqTopsS.b0 N a1 a3 s) n_ x5 = some o1_ ∧ Fr t (fun O => ([v2, v4, O 2, O 3, O 4, Value.int .i64 x5, O 6, O 7, O 8, O 9, O 10, O 11, O 12, O 13, O 14, O 15, O 16, O 17, O 18, O 19, O 20, O 21, O 22, O 23, O 24, O 25, O 26] : List Value)) ∧ St w0 [] w) N ⟨0, Ho, rfl, hs⟩ ?_ ?_
  ·
   rintro _ _ ⟨x5, h, _⟩
   exact rounds_zero h
  intro n_ ih1_
  rintro t w ⟨x5, Ho, hf, hs⟩
  obtain ⟨O, rfl⟩ := hf.open
  show G _ _ _ _ [_,_,_,_,_,_,_,_,_,_,_,_,_,_,_,_,_,_,_,_,_,_,_,_,_,_,_] _
  obtain ⟨x9_, H, Hx1_⟩ := rounds_succ Ho
  have H : laws_eqTopsS.b0 N a1 a3 x5 = some x9_ := H
  unfold laws_eqTopsS.b0 at H
  refine g_seq (g_seq (g_rg [0, 1, 2, 3] rfl ?_))
  refine g_op (v := Value.int .i64 x5) rfl rfl rfl ?_
  refine g_op (v := v2) rfl rfl rfl ?_
  refine s_len (hs.rd hr0) rfl rfl rfl rfl rfl ?_
  show G _ _ _ _ [_,_,_,_,_,_,_,_,_,_,_,_,_,_,_,_,_,_,_,_,_,_,_,_,_,_,_] _
  refine g_op_b (B := decide (x5 < (a1.length : Int))) rfl rfl rfl ?_ ?_
  ·
   intro hb
   rw [if_pos (b_dec_t hb)] at H
   refine g_ops_nil (g_cond_true rfl (g_skip (g_seq ?_)))
   refine g_block (g_seq ?_)
   refine g_lay (n := 10) rfl [0, 1, 2, 3, 4, 5, 6, 7, 8, 9] [0, 1, 2, 3, 4, 5, 6, 7, 8, 9] rfl rfl ?_
   intro rest w hh hbw hO
   have hs := hs.samew hh hbw
   show G _ _ _ _ [_,_,_,_,_,_,_,_,_,_,_,_,_,_,_,_,_,_,_,_,_,_,_,_,_,_,_] _
   obtain ⟨gd2, H⟩ := ite_get H
   obtain ⟨ad3_, ad3_N, ad3_C, had3_⟩ := sl_at (hs.rd hr0) gd2.1 gd2.2
   obtain ⟨gd4, H⟩ := ite_get H
   obtain ⟨ad5_, ad5_N, ad5_C, had5_⟩ := sl_at (hs.rd hr1) gd4.1 gd4.2
   refine g_name ?_
   intro T hT
   refine g_layer (m0 := 0) hO rfl 255 [0, 1, 2, 3, 4, 5, 6, 7] [0, 0, 3, 7, 0, 0, 48, 112, 255, 511] (by decide +kernel) (fun D t w => ∃ O : Nat → Value, t = [v2, v4, O 2, O 3, O 4, Value.int .i64 x5, O 6, O 7, O 8, O 9, O 10, Value.int .i64 x5, v2, Value.int .i64 (a1.length : Int), Value.bool true, O 15, O 16, cnd (D 0) v2 (O 17), cnd (D 1) (Value.int .i64 x5) (O 18), cnd (D 2) (Value.pointer (some (ad3_.add (x5.toNat * 4)))) (O 19), cnd (D 3) (Value.agg ((encA (encI .i16)) (rdL a1 x5 (Ar.rep 4 0))).toArray) (O 20), cnd (D 4) v4 (O 21), cnd (D 5) (Value.int .i64 x5) (O 22), cnd (D 6) (Value.pointer (some (ad5_.add (x5.toNat * 4)))) (O 23), cnd (D 7) (Value.agg ((encA (encI .i16)) (rdL a3 x5 (Ar.rep 4 0))).toArray) (O 24), O 25, O 26] ∧ St w0 [] w) ?_ ⟨?_, ⟨?_, ⟨?_, ⟨?_, ⟨?_, ⟨?_, ⟨?_, ⟨?_, trivial⟩⟩⟩⟩⟩⟩⟩⟩ ?_
   · exact ⟨fun i => T.getD i undef, (by subst hT; rfl), hs⟩
   ·
    rintro D t w hD hp hcl ⟨O, ht, hs⟩ rest hk
    have hp : AllDone D [] := hp
    have q2_ := ny hcl 2 0 hD
    have q3_ := ny hcl 3 0 q2_
    simp only [hD, q2_, q3_, cq] at ht hs
    subst ht
    refine g_op (v := v2) rfl rfl rfl ?_
    show G _ _ _ _ [_,_,_,_,_,_,_,_,_,_,_,_,_,_,_,_,_,_,_,_,_,_,_,_,_,_,_] _
    refine hk _ _ ⟨O, ?_, hs.cast ?_⟩ <;> simp only [lq, cq, Nat.reduceBEq, q2_, q3_]
   ·
    rintro D t w hD hp hcl ⟨O, ht, hs⟩ rest hk
    have hp : AllDone D [] := hp
    have q2_ := ny hcl 2 1 hD
    have q3_ := ny hcl 3 0 q2_
    simp only [hD, q2_, q3_, cq] at ht hs
    subst ht
    refine g_op (v := Value.int .i64 x5) rfl rfl rfl ?_
    show G _ _ _ _ [_,_,_,_,_,_,_,_,_,_,_,_,_,_,_,_,_,_,_,_,_,_,_,_,_,_,_] _
    refine hk _ _ ⟨O, ?_, hs.cast ?_⟩ <;> simp only [lq, cq, Nat.reduceBEq, q2_, q3_]
   ·
    rintro D t w hD hp hcl ⟨O, ht, hs⟩ rest hk
    have hp : AllDone D [0, 1] := hp
    obtain ⟨p0_, p1_, _⟩ := hp
    have q3_ := ny hcl 3 0 hD
    simp only [hD, p0_, p1_, q3_, cq] at ht hs
    subst ht
    refine s_idxD (κ := (K.ar 4 1 (encI .i16) (fkI .i16).len (fkI .i16).one)) (m := 4) rfl (hs.rd hr0) rfl (fun _ => rfl) gd2.1 gd2.2 had3_ rfl rfl rfl rfl rfl ?_
    show G _ _ _ _ [_,_,_,_,_,_,_,_,_,_,_,_,_,_,_,_,_,_,_,_,_,_,_,_,_,_,_] _
    refine hk _ _ ⟨O, ?_, hs.cast ?_⟩ <;> simp only [lq, cq, Nat.reduceBEq, p0_, p1_, q3_]
   ·
    rintro D t w hD hp hcl ⟨O, ht, hs⟩ rest hk
    have hp : AllDone D [2] := hp
    obtain ⟨p2_, _⟩ := hp
    obtain ⟨p0_, p1_, _⟩ := (show D 2 = true → AllDone D [0, 1] from hcl 2 (by decide)) p2_
    simp only [hD, p0_, p1_, p2_, cq] at ht hs
    subst ht
    refine s_loadA rfl rfl (es := ((encA (encI .i16)) (rdL a1 x5 (Ar.rep 4 0)))) rfl rfl (fun _ => rfl) (n := 4) (fun _ => rfl) ((fkA (n := 4) (he := (fkI .i16).len) (h1 := (fkI .i16).one)).len _) (cellsAt_of (fkA (n := 4) (he := (fkI .i16).len) (h1 := (fkI .i16).one)) (Ar.rep 4 0) (hs.rd hr0) had3_ gd2.1 gd2.2) ?_
    show G _ _ _ _ [_,_,_,_,_,_,_,_,_,_,_,_,_,_,_,_,_,_,_,_,_,_,_,_,_,_,_] _
    refine hk _ _ ⟨O, ?_, hs.cast ?_⟩ <;> simp only [lq, cq, Nat.reduceBEq, p0_, p1_, p2_]
   ·
    rintro D t w hD hp hcl ⟨O, ht, hs⟩ rest hk
    have hp : AllDone D [] := hp
    have q6_ := ny hcl 6 0 hD
    have q7_ := ny hcl 7 0 q6_
    simp only [hD, q6_, q7_, cq] at ht hs
    subst ht
    refine g_op (v := v4) rfl rfl rfl ?_
    show G _ _ _ _ [_,_,_,_,_,_,_,_,_,_,_,_,_,_,_,_,_,_,_,_,_,_,_,_,_,_,_] _
    refine hk _ _ ⟨O, ?_, hs.cast ?_⟩ <;> simp only [lq, cq, Nat.reduceBEq, q6_, q7_]
   ·
    rintro D t w hD hp hcl ⟨O, ht, hs⟩ rest hk
    have hp : AllDone D [] := hp
    have q6_ := ny hcl 6 1 hD
    have q7_ := ny hcl 7 0 q6_
    simp only [hD, q6_, q7_, cq] at ht hs
    subst ht
    refine g_op (v := Value.int .i64 x5) rfl rfl rfl ?_
    show G _ _ _ _ [_,_,_,_,_,_,_,_,_,_,_,_,_,_,_,_,_,_,_,_,_,_,_,_,_,_,_] _
    refine hk _ _ ⟨O, ?_, hs.cast ?_⟩ <;> simp only [lq, cq, Nat.reduceBEq, q6_, q7_]
   ·
    rintro D t w hD hp hcl ⟨O, ht, hs⟩ rest hk
    have hp : AllDone D [4, 5] := hp
    obtain ⟨p4_, p5_, _⟩ := hp
    have q7_ := ny hcl 7 0 hD
    simp only [hD, p4_, p5_, q7_, cq] at ht hs
    subst ht
    refine s_idxD (κ := (K.ar 4 1 (encI .i16) (fkI .i16).len (fkI .i16).one)) (m := 4) rfl (hs.rd hr1) rfl (fun _ => rfl) gd4.1 gd4.2 had5_ rfl rfl rfl rfl rfl ?_
    show G _ _ _ _ [_,_,_,_,_,_,_,_,_,_,_,_,_,_,_,_,_,_,_,_,_,_,_,_,_,_,_] _
    refine hk _ _ ⟨O, ?_, hs.cast ?_⟩ <;> simp only [lq, cq, Nat.reduceBEq, p4_, p5_, q7_]
   ·
    rintro D t w hD hp hcl ⟨O, ht, hs⟩ rest hk
    have hp : AllDone D [6] := hp
    obtain ⟨p6_, _⟩ := hp
    obtain ⟨p4_, p5_, _⟩ := (show D 6 = true → AllDone D [4, 5] from hcl 6 (by decide)) p6_
    simp only [hD, p4_, p5_, p6_, cq] at ht hs
    subst ht
    refine s_loadA rfl rfl (es := ((encA (encI .i16)) (rdL a3 x5 (Ar.rep 4 0)))) rfl rfl (fun _ => rfl) (n := 4) (fun _ => rfl) ((fkA (n := 4) (he := (fkI .i16).len) (h1 := (fkI .i16).one)).len _) (cellsAt_of (fkA (n := 4) (he := (fkI .i16).len) (h1 := (fkI .i16).one)) (Ar.rep 4 0) (hs.rd hr1) had5_ gd4.1 gd4.2) ?_
    show G _ _ _ _ [_,_,_,_,_,_,_,_,_,_,_,_,_,_,_,_,_,_,_,_,_,_,_,_,_,_,_] _
    refine hk _ _ ⟨O, ?_, hs.cast ?_⟩ <;> simp only [lq, cq, Nat.reduceBEq, p4_, p5_, p6_]
   intro D t w rest hall hO1_ hI
   obtain ⟨O, ht, hs⟩ := hI
   have p0_ := hall 0 (by decide) rfl
   have p1_ := hall 1 (by decide) rfl
   have p2_ := hall 2 (by decide) rfl
   have p3_ := hall 3 (by decide) rfl
   have p4_ := hall 4 (by decide) rfl
   have p5_ := hall 5 (by decide) rfl
   have p6_ := hall 6 (by decide) rfl
   have p7_ := hall 7 (by decide) rfl
   simp only [p0_, p1_, p2_, p3_, p4_, p5_, p6_, p7_, cq] at ht hs
   subst ht
   obtain ⟨rest, rfl, hO6_⟩ := ord_one (m := 255) hO1_ rfl 8 (m' := 511) (by decide +kernel) rfl
   clear hO1_
   obtain ⟨r6, Hr6, H⟩ := bind_get H
   refine s_call (args := [Value.agg ((encA (encI .i16)) (rdL a1 x5 (Ar.rep 4 0))).toArray, Value.agg ((encA (encI .i16)) (rdL a3 x5 (Ar.rep 4 0))).toArray]) rfl rfl (x_call rfl (callFunc_enter Try.func22 rfl rfl) rfl) (laws_eqTops.calls (a1 := rdL a1 x5 (Ar.rep 4 0)) (a2 := rdL a3 x5 (Ar.rep 4 0)) Hr6) ?_
   rintro _ w ⟨rfl, hs2⟩
   have hs : St _ [] _ := hs.call hs2
   cases r6 with
   | true =>
     rw [if_pos rfl] at H
     show G _ _ _ _ [_,_,_,_,_,_,_,_,_,_,_,_,_,_,_,_,_,_,_,_,_,_,_,_,_,_,_] _
     obtain ⟨rest, rfl, hO7_⟩ := ord_one (m := 511) hO6_ rfl 9 (m' := 1023) (by decide +kernel) rfl
     clear hO6_
     refine g_op (v := Value.bool false) rfl rfl rfl ?_
     obtain rfl := ord_end hO7_ rfl (by decide +kernel)
     refine g_ops_nil (g_cond_false rfl (g_skip ?_))
     refine g_inBlock (g_rg [0, 1, 2] rfl ?_)
     refine g_op (v := Value.int .i64 x5) rfl rfl rfl ?_
     refine g_op (v := Value.int .i64 (i64w (x5 + 1))) rfl rfl rfl ?_
     refine g_op (v := Value.int .i64 (i64w (x5 + 1))) rfl rfl rfl ?_
     show G _ _ _ _ [_,_,_,_,_,_,_,_,_,_,_,_,_,_,_,_,_,_,_,_,_,_,_,_,_,_,_] _
     refine g_ops_nil ?_
     obtain rfl := Option.some.inj H
     have hs : St _ [] _ := St.take (Γ' := []) hs
     exact ih1_ _ _ ⟨i64w (x5 + 1), Hx1_, rfl, hs⟩
   | false =>
     rw [if_neg Bool.false_ne_true] at H
     show G _ _ _ _ [_,_,_,_,_,_,_,_,_,_,_,_,_,_,_,_,_,_,_,_,_,_,_,_,_,_,_] _
     obtain ⟨rest, rfl, hO8_⟩ := ord_one (m := 511) hO6_ rfl 9 (m' := 1023) (by decide +kernel) rfl
     clear hO6_
     refine g_op (v := Value.bool true) rfl rfl rfl ?_
     obtain rfl := ord_end hO8_ rfl (by decide +kernel)
     refine g_ops_nil (g_cond_true rfl (g_seq (g_rg [0] rfl ?_)))
     refine g_op (v := Value.bool false) rfl rfl rfl (g_ops_nil ?_)
     obtain rfl := Option.some.inj H
     subst Hx1_
     have H := Option.some.inj Hr1_
     subst H
     refine g_ret Try.func8 (v := Value.bool false) (res1 rfl rfl) ?_
     have hs : St _ [] _ := St.take (Γ' := []) hs
     exact ⟨_, rfl, rfl, hs⟩
  intro hb
  rw [if_neg (b_dec_f hb)] at H
  refine g_ops_nil (g_cond_false rfl ?_)
  obtain rfl := Option.some.inj H
  subst Hx1_
  have hs : St _ [] _ := St.take (Γ' := []) hs
  refine g_exit rfl ?_
  exact ha1_ _ _ ⟨Hr1_, rfl, hs⟩

/- function 9 laws_eqGlasses -/
def laws_eqGlasses.post (w0 : World) (r : Bool) (v : Value) (w : World) : Prop := v = Value.bool r ∧ St w0 [] w
set_option maxHeartbeats 8000000 in
set_option maxRecDepth 100000 in
theorem laws_eqGlasses.calls {N : Nat} {a1 : (List Int)} {a3 : (List Int)} {v2 : Value} {v4 : Value} {w0 : World} {r : Bool} (hr0 : RdRow (K.int .i16) w0 v2 a1) (hr1 : RdRow (K.int .i16) w0 v4 a3) (H : laws_eqGlasses.f N a1 a3 = some r) :
    Calls Try.prog 9 #[v2, v4] w0 fun e w => ∃ v, e = .returned v ∧ laws_eqGlasses.post w0 r v w := by
  unfold laws_eqGlasses.f at H
  have hs : St w0 [] w0 := St.refl w0
  refine calls_of_g (n := 24) Try.func9 rfl rfl ?_
  show G _ _ _ _ [_,_,_,_,_,_,_,_,_,_,_,_,_,_,_,_,_,_,_,_,_,_,_,_,_,_] _
  refine g_seq (g_rg [0] rfl ?_)
  refine g_op (v := Value.bool false) rfl rfl rfl (g_ops_nil (g_seq (g_seq (g_rg [0, 1, 2, 3, 4] rfl ?_))))
  refine g_op (v := v2) rfl rfl rfl ?_
  refine s_len (hs.rd hr0) rfl rfl rfl rfl rfl ?_
  refine g_op (v := v4) rfl rfl rfl ?_
  refine s_len (hs.rd hr1) rfl rfl rfl rfl rfl ?_
  show G _ _ _ _ [_,_,_,_,_,_,_,_,_,_,_,_,_,_,_,_,_,_,_,_,_,_,_,_,_,_] _
  refine g_op_b (B := (a1.length : Int) != (a3.length : Int)) rfl rfl rfl ?_ ?_
  ·
   intro hb
   rw [if_neg (b_bne_t hb)] at H
   show G _ _ _ _ [_,_,_,_,_,_,_,_,_,_,_,_,_,_,_,_,_,_,_,_,_,_,_,_,_,_] _
   refine g_ops_nil (g_cond_true rfl (g_seq (g_rg [0] rfl ?_)))
   refine g_op (v := Value.bool false) rfl rfl rfl (g_ops_nil ?_)
   obtain rfl := Option.some.inj H
   refine g_ret Try.func9 (v := Value.bool false) (res1 rfl rfl) ?_
   have hs : St _ [] _ := St.take (Γ' := []) hs
   exact ⟨_, rfl, rfl, hs⟩
  intro hb
  rw [if_pos (b_bne_f hb)] at H
  refine g_ops_nil (g_cond_false rfl (g_skip (g_seq (g_seq (g_rg [0] rfl ?_)))))
  refine g_op (v := Value.int .i64 0) rfl rfl rfl (g_ops_nil ?_)
  obtain ⟨o1_, Ho, Hr1_⟩ := bind_get H
  refine g_block_join (J := fun t w => laws_eqGlasses.a0 N = some r ∧ Fr t (fun O => ([O 0, O 1, O 2, O 3, O 4, O 5, O 6, O 7, O 8, O 9, O 10, O 11, O 12, O 13, O 14, O 15, O 16, O 17, O 18, O 19, O 20, O 21, O 22, O 23, O 24, O 25] : List Value)) ∧ St w0 [] w) ?_ ?_
  ·
   rintro t w ⟨H, hf, hs⟩
   obtain ⟨O, rfl⟩ := hf.open
   show G _ _ _ _ [_,_,_,_,_,_,_,_,_,_,_,_,_,_,_,_,_,_,_,_,_,_,_,_,_,_] _
   unfold laws_eqGlasses.a0 at H
   refine g_seq (g_rg [0] rfl ?_)
   refine g_op (v := Value.bool true) rfl rfl rfl (g_ops_nil ?_)
   obtain rfl := Option.some.inj H
   refine g_ret Try.func9 (v := Value.bool true) (res1 rfl rfl) ?_
   have hs : St _ [] _ := St.take (Γ' := []) hs
   exact ⟨_, rfl, rfl, hs⟩
  intro ha1_
  have hs : St _ [] _ := St.take (Γ' := []) hs
  refine g_loop_fuel (I := fun n_ t w => ∃ x5 : Int, rounds (fun s => laws_eqGlasses.b0 N a1 a3 s) n_ x5 = some o1_ ∧ Fr t (fun O => ([v2, v4, O 2, O 3, O 4, Value.int .i64 x5, O 6, O 7, O 8, O 9, O 10, O 11, O 12, O 13, O 14, O 15, O 16, O 17, O 18, O 19, O 20, O 21, O 22, O 23, O 24, O 25] : List Value)) ∧ St w0 [] w) N ⟨0, Ho, rfl, hs⟩ ?_ ?_
  ·
   rintro _ _ ⟨x5, h, _⟩
   exact rounds_zero h
  intro n_ ih1_
  rintro t w ⟨x5, Ho, hf, hs⟩
  obtain ⟨O, rfl⟩ := hf.open
  show G _ _ _ _ [_,_,_,_,_,_,_,_,_,_,_,_,_,_,_,_,_,_,_,_,_,_,_,_,_,_] _
  obtain ⟨x7_, H, Hx1_⟩ := rounds_succ Ho
  have H : laws_eqGlasses.b0 N a1 a3 x5 = some x7_ := H
  unfold laws_eqGlasses.b0 at H
  refine g_seq (g_seq (g_rg [0, 1, 2, 3] rfl ?_))
  refine g_op (v := Value.int .i64 x5) rfl rfl rfl ?_
  refine g_op (v := v2) rfl rfl rfl ?_
  refine s_len (hs.rd hr0) rfl rfl rfl rfl rfl ?_
  show G _ _ _ _ [_,_,_,_,_,_,_,_,_,_,_,_,_,_,_,_,_,_,_,_,_,_,_,_,_,_] _
  refine g_op_b (B := decide (x5 < (a1.length : Int))) rfl rfl rfl ?_ ?_
  ·
   intro hb
   rw [if_pos (b_dec_t hb)] at H
   refine g_ops_nil (g_cond_true rfl (g_skip (g_seq ?_)))
   refine g_block (g_seq ?_)
   refine g_lay (n := 9) rfl [0, 1, 2, 3, 4, 5, 6, 7, 8] [0, 1, 2, 3, 4, 5, 6, 7, 8] rfl rfl ?_
   intro rest w hh hbw hO
   have hs := hs.samew hh hbw
   show G _ _ _ _ [_,_,_,_,_,_,_,_,_,_,_,_,_,_,_,_,_,_,_,_,_,_,_,_,_,_] _
   obtain ⟨gd2, H⟩ := ite_get H
   obtain ⟨ad3_, ad3_N, ad3_C, had3_⟩ := sl_at (hs.rd hr0) gd2.1 gd2.2
   obtain ⟨gd4, H⟩ := ite_get H
   obtain ⟨ad5_, ad5_N, ad5_C, had5_⟩ := sl_at (hs.rd hr1) gd4.1 gd4.2
   refine g_name ?_
   intro T hT
   refine g_layer (m0 := 0) hO rfl 255 [0, 1, 2, 3, 4, 5, 6, 7] [0, 0, 3, 7, 0, 0, 48, 112, 255] (by decide +kernel) (fun D t w => ∃ O : Nat → Value, t = [v2, v4, O 2, O 3, O 4, Value.int .i64 x5, O 6, O 7, O 8, O 9, O 10, Value.int .i64 x5, v2, Value.int .i64 (a1.length : Int), Value.bool true, O 15, O 16, cnd (D 0) v2 (O 17), cnd (D 1) (Value.int .i64 x5) (O 18), cnd (D 2) (Value.pointer (some (ad3_.add (x5.toNat * 1)))) (O 19), cnd (D 3) (Value.int .i16 (rdL a1 x5 0)) (O 20), cnd (D 4) v4 (O 21), cnd (D 5) (Value.int .i64 x5) (O 22), cnd (D 6) (Value.pointer (some (ad5_.add (x5.toNat * 1)))) (O 23), cnd (D 7) (Value.int .i16 (rdL a3 x5 0)) (O 24), O 25] ∧ St w0 [] w) ?_ ⟨?_, ⟨?_, ⟨?_, ⟨?_, ⟨?_, ⟨?_, ⟨?_, ⟨?_, trivial⟩⟩⟩⟩⟩⟩⟩⟩ ?_
   · exact ⟨fun i => T.getD i undef, (by subst hT; rfl), hs⟩
   ·
    rintro D t w hD hp hcl ⟨O, ht, hs⟩ rest hk
    have hp : AllDone D [] := hp
    have q2_ := ny hcl 2 0 hD
    have q3_ := ny hcl 3 0 q2_
    simp only [hD, q2_, q3_, cq] at ht hs
    subst ht
    refine g_op (v := v2) rfl rfl rfl ?_
    show G _ _ _ _ [_,_,_,_,_,_,_,_,_,_,_,_,_,_,_,_,_,_,_,_,_,_,_,_,_,_] _
    refine hk _ _ ⟨O, ?_, hs.cast ?_⟩ <;> simp only [lq, cq, Nat.reduceBEq, q2_, q3_]
   ·
    rintro D t w hD hp hcl ⟨O, ht, hs⟩ rest hk
    have hp : AllDone D [] := hp
    have q2_ := ny hcl 2 1 hD
    have q3_ := ny hcl 3 0 q2_
    simp only [hD, q2_, q3_, cq] at ht hs
    subst ht
    refine g_op (v := Value.int .i64 x5) rfl rfl rfl ?_
    show G _ _ _ _ [_,_,_,_,_,_,_,_,_,_,_,_,_,_,_,_,_,_,_,_,_,_,_,_,_,_] _
    refine hk _ _ ⟨O, ?_, hs.cast ?_⟩ <;> simp only [lq, cq, Nat.reduceBEq, q2_, q3_]
   ·
    rintro D t w hD hp hcl ⟨O, ht, hs⟩ rest hk
    have hp : AllDone D [0, 1] := hp
    obtain ⟨p0_, p1_, _⟩ := hp
    have q3_ := ny hcl 3 0 hD
    simp only [hD, p0_, p1_, q3_, cq] at ht hs
    subst ht
    refine s_idxD (κ := (K.int .i16)) (m := 1) rfl (hs.rd hr0) rfl (fun _ => rfl) gd2.1 gd2.2 had3_ rfl rfl rfl rfl rfl ?_
    show G _ _ _ _ [_,_,_,_,_,_,_,_,_,_,_,_,_,_,_,_,_,_,_,_,_,_,_,_,_,_] _
    refine hk _ _ ⟨O, ?_, hs.cast ?_⟩ <;> simp only [lq, cq, Nat.reduceBEq, p0_, p1_, q3_]
   ·
    rintro D t w hD hp hcl ⟨O, ht, hs⟩ rest hk
    have hp : AllDone D [2] := hp
    obtain ⟨p2_, _⟩ := hp
    obtain ⟨p0_, p1_, _⟩ := (show D 2 = true → AllDone D [0, 1] from hcl 2 (by decide)) p2_
    simp only [hD, p0_, p1_, p2_, cq] at ht hs
    subst ht
    refine s_load1 rfl rfl (v := Value.int .i16 (rdL a1 x5 0)) rfl rfl (fun _ => rfl) (cellsAt_of (fkI .i16) 0 (hs.rd hr0) had3_ gd2.1 gd2.2) ?_
    show G _ _ _ _ [_,_,_,_,_,_,_,_,_,_,_,_,_,_,_,_,_,_,_,_,_,_,_,_,_,_] _
    refine hk _ _ ⟨O, ?_, hs.cast ?_⟩ <;> simp only [lq, cq, Nat.reduceBEq, p0_, p1_, p2_]
   ·
    rintro D t w hD hp hcl ⟨O, ht, hs⟩ rest hk
    have hp : AllDone D [] := hp
    have q6_ := ny hcl 6 0 hD
    have q7_ := ny hcl 7 0 q6_
    simp only [hD, q6_, q7_, cq] at ht hs
    subst ht
    refine g_op (v := v4) rfl rfl rfl ?_
    show G _ _ _ _ [_,_,_,_,_,_,_,_,_,_,_,_,_,_,_,_,_,_,_,_,_,_,_,_,_,_] _
    refine hk _ _ ⟨O, ?_, hs.cast ?_⟩ <;> simp only [lq, cq, Nat.reduceBEq, q6_, q7_]
   ·
    rintro D t w hD hp hcl ⟨O, ht, hs⟩ rest hk
    have hp : AllDone D [] := hp
    have q6_ := ny hcl 6 1 hD
    have q7_ := ny hcl 7 0 q6_
    simp only [hD, q6_, q7_, cq] at ht hs
    subst ht
    refine g_op (v := Value.int .i64 x5) rfl rfl rfl ?_
    show G _ _ _ _ [_,_,_,_,_,_,_,_,_,_,_,_,_,_,_,_,_,_,_,_,_,_,_,_,_,_] _
    refine hk _ _ ⟨O, ?_, hs.cast ?_⟩ <;> simp only [lq, cq, Nat.reduceBEq, q6_, q7_]
   ·
    rintro D t w hD hp hcl ⟨O, ht, hs⟩ rest hk
    have hp : AllDone D [4, 5] := hp
    obtain ⟨p4_, p5_, _⟩ := hp
    have q7_ := ny hcl 7 0 hD
    simp only [hD, p4_, p5_, q7_, cq] at ht hs
    subst ht
    refine s_idxD (κ := (K.int .i16)) (m := 1) rfl (hs.rd hr1) rfl (fun _ => rfl) gd4.1 gd4.2 had5_ rfl rfl rfl rfl rfl ?_
    show G _ _ _ _ [_,_,_,_,_,_,_,_,_,_,_,_,_,_,_,_,_,_,_,_,_,_,_,_,_,_] _
    refine hk _ _ ⟨O, ?_, hs.cast ?_⟩ <;> simp only [lq, cq, Nat.reduceBEq, p4_, p5_, q7_]
   ·
    rintro D t w hD hp hcl ⟨O, ht, hs⟩ rest hk
    have hp : AllDone D [6] := hp
    obtain ⟨p6_, _⟩ := hp
    obtain ⟨p4_, p5_, _⟩ := (show D 6 = true → AllDone D [4, 5] from hcl 6 (by decide)) p6_
    simp only [hD, p4_, p5_, p6_, cq] at ht hs
    subst ht
    refine s_load1 rfl rfl (v := Value.int .i16 (rdL a3 x5 0)) rfl rfl (fun _ => rfl) (cellsAt_of (fkI .i16) 0 (hs.rd hr1) had5_ gd4.1 gd4.2) ?_
    show G _ _ _ _ [_,_,_,_,_,_,_,_,_,_,_,_,_,_,_,_,_,_,_,_,_,_,_,_,_,_] _
    refine hk _ _ ⟨O, ?_, hs.cast ?_⟩ <;> simp only [lq, cq, Nat.reduceBEq, p4_, p5_, p6_]
   intro D t w rest hall hO1_ hI
   obtain ⟨O, ht, hs⟩ := hI
   have p0_ := hall 0 (by decide) rfl
   have p1_ := hall 1 (by decide) rfl
   have p2_ := hall 2 (by decide) rfl
   have p3_ := hall 3 (by decide) rfl
   have p4_ := hall 4 (by decide) rfl
   have p5_ := hall 5 (by decide) rfl
   have p6_ := hall 6 (by decide) rfl
   have p7_ := hall 7 (by decide) rfl
   simp only [p0_, p1_, p2_, p3_, p4_, p5_, p6_, p7_, cq] at ht hs
   subst ht
   obtain ⟨rest, rfl, hO6_⟩ := ord_one (m := 255) hO1_ rfl 8 (m' := 511) (by decide +kernel) rfl
   clear hO1_
   refine g_op_b (B := (rdL a1 x5 0) != (rdL a3 x5 0)) rfl rfl rfl ?_ ?_
   ·
    intro hb
    rw [if_neg (b_bne_t hb)] at H
    show G _ _ _ _ [_,_,_,_,_,_,_,_,_,_,_,_,_,_,_,_,_,_,_,_,_,_,_,_,_,_] _
    obtain rfl := ord_end hO6_ rfl (by decide +kernel)
    refine g_ops_nil (g_cond_true rfl (g_seq (g_rg [0] rfl ?_)))
    refine g_op (v := Value.bool false) rfl rfl rfl (g_ops_nil ?_)
    obtain rfl := Option.some.inj H
    subst Hx1_
    have H := Option.some.inj Hr1_
    subst H
    refine g_ret Try.func9 (v := Value.bool false) (res1 rfl rfl) ?_
    have hs : St _ [] _ := St.take (Γ' := []) hs
    exact ⟨_, rfl, rfl, hs⟩
   intro hb
   rw [if_pos (b_bne_f hb)] at H
   show G _ _ _ _ [_,_,_,_,_,_,_,_,_,_,_,_,_,_,_,_,_,_,_,_,_,_,_,_,_,_] _
   obtain rfl := ord_end hO6_ rfl (by decide +kernel)
   refine g_ops_nil (g_cond_false rfl (g_skip ?_))
   refine g_inBlock (g_rg [0, 1, 2] rfl ?_)
   refine g_op (v := Value.int .i64 x5) rfl rfl rfl ?_
   refine g_op (v := Value.int .i64 (i64w (x5 + 1))) rfl rfl rfl ?_
   refine g_op (v := Value.int .i64 (i64w (x5 + 1))) rfl rfl rfl (g_ops_nil ?_)
   obtain rfl := Option.some.inj H
   have hs : St _ [] _ := St.take (Γ' := []) hs
   exact ih1_ _ _ ⟨i64w (x5 + 1), Hx1_, rfl, hs⟩
  intro hb
  rw [if_neg (b_dec_f hb)] at H
  refine g_ops_nil (g_cond_false rfl ?_)
  obtain rfl := Option.some.inj H
  subst Hx1_
  have hs : St _ [] _ := St.take (Γ' := []) hs
  refine g_exit rfl ?_
  exact ha1_ _ _ ⟨Hr1_, rfl, hs⟩

/- function 10 laws_markGlasses -/
def laws_markGlasses.post (wb : World) (Z : As) (v2 : Value) (r : (Int × (List Int))) (v : Value) (w : World) : Prop := v = Value.int .i64 r.1 ∧ St wb [Row 23 (K.int .i16) v2 r.2, Z] w
set_option maxHeartbeats 8000000 in
set_option maxRecDepth 100000 in
theorem laws_markGlasses.calls {N : Nat} {a1 : (List Int)} {a4 : Int} {v2 : Value} {wb : World} {Z : As} {w0 : World} {r : (Int × (List Int))} (hs : St wb [Row 23 (K.int .i16) v2 a1, Z] w0) (H : laws_markGlasses.f N a1 a4 = some r) :
    Calls Try.prog 10 #[v2, Value.int .i64 a4] w0 fun e w => ∃ v, e = .returned v ∧ laws_markGlasses.post wb Z v2 r v w := by
  unfold laws_markGlasses.f at H
  refine calls_of_g (n := 18) Try.func10 rfl rfl ?_
  show G _ _ _ _ [_,_,_,_,_,_,_,_,_,_,_,_,_,_,_,_,_,_,_,_] _
  refine g_seq (g_rg [0] rfl ?_)
  refine g_op (v := Value.int .i64 0) rfl rfl rfl (g_ops_nil (g_seq (g_seq (g_rg [0] rfl ?_))))
  refine g_op (v := Value.int .i64 0) rfl rfl rfl (g_ops_nil ?_)
  obtain ⟨o1_, Ho, Hr1_⟩ := bind_get H
  refine g_block_join (J := fun t w => ∃ x12 : Int, ∃ x13 : (List Int), laws_markGlasses.a0 N x12 x13 = some r ∧ Fr t (fun O => ([O 0, Value.int .i64 x12, O 2, O 3, O 4, O 5, O 6, O 7, O 8, O 9, O 10, O 11, O 12, O 13, O 14, O 15, O 16, O 17, O 18, O 19] : List Value)) ∧ St wb [Row 23 (K.int .i16) v2 x13, Z] w) ?_ ?_
  ·
   rintro t w ⟨x12, x13, H, hf, hs⟩
   obtain ⟨O, rfl⟩ := hf.open
   show G _ _ _ _ [_,_,_,_,_,_,_,_,_,_,_,_,_,_,_,_,_,_,_,_] _
   unfold laws_markGlasses.a0 at H
   refine g_seq (g_rg [0, 1] rfl ?_)
   refine g_op (v := Value.int .i64 x12) rfl rfl rfl ?_
   refine g_op (v := Value.int .i64 x12) rfl rfl rfl (g_ops_nil ?_)
   obtain rfl := Option.some.inj H
   refine g_ret Try.func10 (v := Value.int .i64 x12) (res1 rfl rfl) ?_
   have hs := hs.pull 1 rfl
   have hs := hs.pull 1 rfl
   have hs : St _ [_,_] _ := St.take (Γ' := []) hs
   exact ⟨_, rfl, rfl, hs⟩
  intro ha1_
  have hs := hs.pull 1 rfl
  have hs := hs.pull 1 rfl
  have hs : St _ [_,_] _ := St.take (Γ' := []) hs
  refine g_loop_fuel (I := fun n_ t w => ∃ x8 : (List Int), ∃ x9 : Int, ∃ x10 : Int, rounds (fun s => laws_markGlasses.b0 N s.1 s.2.1 s.2.2) n_ (x8, x9, x10) = some o1_ ∧ Fr t (fun O => ([v2, Value.int .i64 x9, O 2, O 3, O 4, Value.int .i64 x10, O 6, O 7, O 8, O 9, O 10, O 11, O 12, O 13, O 14, O 15, O 16, O 17, O 18, O 19] : List Value)) ∧ St wb [Row 23 (K.int .i16) v2 x8, Z] w) N ⟨a1, a4, 0, Ho, rfl, hs⟩ ?_ ?_
  ·
   rintro _ _ ⟨x8, x9, x10, h, _⟩
   exact rounds_zero h
  intro n_ ih1_
  rintro t w ⟨x8, x9, x10, Ho, hf, hs⟩
  obtain ⟨O, rfl⟩ := hf.open
  show G _ _ _ _ [_,_,_,_,_,_,_,_,_,_,_,_,_,_,_,_,_,_,_,_] _
  obtain ⟨x3_, H, Hx1_⟩ := rounds_succ Ho
  have H : laws_markGlasses.b0 N x8 x9 x10 = some x3_ := H
  unfold laws_markGlasses.b0 at H
  refine g_seq (g_seq (g_rg [0, 1, 2, 3] rfl ?_))
  refine g_op (v := Value.int .i64 x10) rfl rfl rfl ?_
  show G _ _ _ _ [_,_,_,_,_,_,_,_,_,_,_,_,_,_,_,_,_,_,_,_] _
  refine g_op (v := v2) rfl rfl rfl ?_
  refine s_len (hs.row 0 rfl) rfl rfl rfl rfl rfl ?_
  refine g_op_b (B := decide (x10 < (x8.length : Int))) rfl rfl rfl ?_ ?_
  ·
   intro hb
   rw [if_pos (b_dec_t hb)] at H
   refine g_ops_nil (g_cond_true rfl (g_skip (g_seq ?_)))
   refine g_block (g_seq (g_rg [0, 1, 2, 3, 4, 5] rfl ?_))
   refine g_op (v := v2) rfl rfl rfl ?_
   refine g_op (v := Value.int .i64 x10) rfl rfl rfl ?_
   show G _ _ _ _ [_,_,_,_,_,_,_,_,_,_,_,_,_,_,_,_,_,_,_,_] _
   refine g_op (v := Value.int .i64 x9) rfl rfl rfl ?_
   refine g_op (v := Value.int .i16 (i16w x9)) rfl rfl rfl ?_
   obtain ⟨g2, H⟩ := ite_get H
   refine s_idx (fkI .i16) 0 (hs.row 0 rfl) rfl (fun _ => rfl) g2.1 g2.2 rfl rfl rfl rfl rfl ?_
   intro p11 hp11 lp11 op11
   show G _ _ _ _ [_,_,_,_,_,_,_,_,_,_,_,_,_,_,_,_,_,_,_,_] _
   refine s_stRow (y := i16w x9) (fkI .i16) g2.1 g2.2 op11 hs rfl rfl rfl rfl rfl (fun _ => rfl) ?_
   intro w hs
   refine g_ops_nil (g_rg [0, 1, 2] rfl ?_)
   refine g_op (v := Value.int .i64 x9) rfl rfl rfl ?_
   refine g_op (v := Value.int .i64 (i64w (x9 + 1))) rfl rfl rfl ?_
   refine g_op (v := Value.int .i64 (i64w (x9 + 1))) rfl rfl rfl ?_
   show G _ _ _ _ [_,_,_,_,_,_,_,_,_,_,_,_,_,_,_,_,_,_,_,_] _
   refine g_ops_nil ?_
   refine g_inBlock (g_rg [0, 1, 2] rfl ?_)
   refine g_op (v := Value.int .i64 x10) rfl rfl rfl ?_
   refine g_op (v := Value.int .i64 (i64w (x10 + 1))) rfl rfl rfl ?_
   refine g_op (v := Value.int .i64 (i64w (x10 + 1))) rfl rfl rfl ?_
   show G _ _ _ _ [_,_,_,_,_,_,_,_,_,_,_,_,_,_,_,_,_,_,_,_] _
   refine g_ops_nil ?_
   obtain rfl := Option.some.inj H
   have hs := hs.pull 1 rfl
   have hs := hs.pull 1 rfl
   have hs : St _ [_,_] _ := St.take (Γ' := []) hs
   exact ih1_ _ _ ⟨stL x8 x10 (i16w x9), i64w (x9 + 1), i64w (x10 + 1), Hx1_, rfl, hs⟩
  intro hb
  rw [if_neg (b_dec_f hb)] at H
  show G _ _ _ _ [_,_,_,_,_,_,_,_,_,_,_,_,_,_,_,_,_,_,_,_] _
  refine g_ops_nil (g_cond_false rfl ?_)
  obtain rfl := Option.some.inj H
  subst Hx1_
  have hs := hs.pull 1 rfl
  have hs := hs.pull 1 rfl
  have hs : St _ [_,_] _ := St.take (Γ' := []) hs
  refine g_exit rfl ?_
  exact ha1_ _ _ ⟨x9, x8, Hr1_, rfl, hs⟩

end Go.Proofs.YtmnaclghakalmaaX
