/- Contracts, printed by gen.py. -/
import Derived.Test.YtekcbhgojjdcoaaXT
import Derived.Test.YtekcbhgojjdcoaaProg
import Derived.Test.YtekcbhgojjdcoaaXRowR
import Derived.Test.YtekcbhgojjdcoaaXSeg
import Derived.Test.YtekcbhgojjdcoaaXKey
import Derived.Test.YtekcbhgojjdcoaaXIter
import Derived.Test.YtekcbhgojjdcoaaXRow2
import Derived.Test.YtekcbhgojjdcoaaXDel
import Derived.Test.YtekcbhgojjdcoaaXShelf
import Derived.Test.YtekcbhgojjdcoaaXC0
import Derived.Test.YtekcbhgojjdcoaaXC1
import Derived.Test.YtekcbhgojjdcoaaXC2
namespace Go.Proofs.YtekcbhgojjdcoaaX
open Go Go.RowKit Go.Proofs
set_option linter.unusedVariables false
set_option linter.unusedSimpArgs false
/- function 17 spec_l01Missing -/
def spec_l01Missing.post (w0 : World) (r : (List Int)) (v : Value) (w : World) : Prop := St w0 [Row 2 (K.int .i64) v r] w
set_option maxHeartbeats 8000000 in
set_option maxRecDepth 100000 in
theorem spec_l01Missing.calls {N : Nat} {a1 : (List Int)} {a3 : Int} {a4 : Bool} {v2 : Value} {w0 : World} {r : (List Int)} (hr0 : RdRow (K.int .i16) w0 v2 a1) (H : spec_l01Missing.f N a1 a3 a4 = some r) :
    Calls Try.prog 17 #[v2, Value.int .i64 a3, Value.bool a4] w0 fun e w => ∃ v, e = .returned v ∧ spec_l01Missing.post w0 r v w := by
  unfold spec_l01Missing.f at H
  have hs : St w0 [] w0 := St.refl w0
  refine calls_of_g (n := 29) Try.func17 rfl rfl ?_
  show G _ _ _ _ [_,_,_,_,_,_,_,_,_,_,_,_,_,_,_,_,_,_,_,_,_,_,_,_,_,_,_,_,_,_,_,_] _
  refine g_seq ?_
  refine g_region ?_
  show G _ _ _ (.inRegion _ [0] :: _) _ _
  refine g_op (v := Value.slice none 0 0) rfl rfl rfl ?_
  show G _ _ _ _ [_,_,_,_,_,_,_,_,_,_,_,_,_,_,_,_,_,_,_,_,_,_,_,_,_,_,_,_,_,_,_,_] _
  refine g_ops_nil ?_
  refine g_seq ?_
  refine g_region ?_
  show G _ _ _ (.inRegion _ [0, 1, 2, 3] :: _) _ _
  refine g_op (v := v2) rfl rfl rfl ?_
  refine g_op (v := Value.bool a4) rfl rfl rfl ?_
  obtain ⟨r5, Hr5, H⟩ := bind_get H
  refine s_call (args := [v2, Value.bool a4]) rfl rfl (x_call rfl (callFunc_enter Try.func24 rfl rfl) rfl) (spec_l01Fewest.calls (a1 := a1) (a3 := a4) (hs.rd hr0) Hr5) ?_
  rintro v6 w ⟨_, ms7, rfl, hs2⟩
  have hs : St _ [_] _ := hs.call hs2
  show G _ _ _ _ [_,_,_,_,_,_,_,_,_,_,_,_,_,_,_,_,_,_,_,_,_,_,_,_,_,_,_,_,_,_,_,_] _
  refine g_op (v := v6) rfl rfl rfl ?_
  show G _ _ _ _ [_,_,_,_,_,_,_,_,_,_,_,_,_,_,_,_,_,_,_,_,_,_,_,_,_,_,_,_,_,_,_,_] _
  refine g_ops_nil ?_
  refine g_seq ?_
  refine g_region ?_
  show G _ _ _ (.inRegion _ [0, 1] :: _) _ _
  refine s_lit0 (κ := (K.int .i64)) hs rfl rfl rfl rfl (fun _ => rfl) ?_
  intro v9 w hs
  show G _ _ _ _ [_,_,_,_,_,_,_,_,_,_,_,_,_,_,_,_,_,_,_,_,_,_,_,_,_,_,_,_,_,_,_,_] _
  refine g_op (v := v9) rfl rfl rfl ?_
  show G _ _ _ _ [_,_,_,_,_,_,_,_,_,_,_,_,_,_,_,_,_,_,_,_,_,_,_,_,_,_,_,_,_,_,_,_] _
  refine g_ops_nil ?_
  refine g_seq ?_
  refine g_seq ?_
  refine g_region ?_
  show G _ _ _ (.inRegion _ [0] :: _) _ _
  refine g_op (v := Value.int .i64 1) rfl rfl rfl ?_
  show G _ _ _ _ [_,_,_,_,_,_,_,_,_,_,_,_,_,_,_,_,_,_,_,_,_,_,_,_,_,_,_,_,_,_,_,_] _
  refine g_ops_nil ?_
  obtain ⟨o1_, Ho, Hr1_⟩ := bind_get H
  refine g_block_join (J := fun t w => ∃ v24 : Value, ∃ x25 : (List Int), spec_l01Missing.a0 N x25 = some r ∧ Fr t (fun O => ([O 0, O 1, O 2, O 3, O 4, O 5, O 6, O 7, v24, O 9, O 10, O 11, O 12, O 13, O 14, O 15, O 16, O 17, O 18, O 19, O 20, O 21, O 22, O 23, O 24, O 25, O 26, O 27, O 28, O 29, O 30, O 31] : List Value)) ∧ St w0 [Row 2 (K.int .i64) v24 x25] w) ?_ ?_
  ·
   rintro t w ⟨v24, x25, H, hf, hs⟩
   obtain ⟨O, rfl⟩ := hf.open
   show G _ _ _ _ [_,_,_,_,_,_,_,_,_,_,_,_,_,_,_,_,_,_,_,_,_,_,_,_,_,_,_,_,_,_,_,_] _
   unfold spec_l01Missing.a0 at H
   refine g_seq ?_
   refine g_region ?_
   show G _ _ _ (.inRegion _ [0, 1] :: _) _ _
   refine g_op (v := v24) rfl rfl rfl ?_
   refine g_op (v := v24) rfl rfl rfl ?_
   show G _ _ _ _ [_,_,_,_,_,_,_,_,_,_,_,_,_,_,_,_,_,_,_,_,_,_,_,_,_,_,_,_,_,_,_,_] _
   refine g_ops_nil ?_
   obtain rfl := Option.some.inj H
   refine g_ret Try.func17 (v := v24) (res1 rfl rfl) ?_
   have hs := hs.pull 0 rfl
   have hs : St _ [_] _ := St.take (Γ' := []) hs
   exact ⟨_, rfl, hs⟩
  ·
   intro ha1_
   have hs := hs.pull 0 rfl
   have hs := hs.pull 1 rfl
   have hs : St _ [_,_] _ := St.take (Γ' := []) hs
   refine g_loop_fuel (I := fun n_ t w => ∃ v12 : Value, ∃ x13 : (List Int), ∃ x14 : Int, rounds (fun s => spec_l01Missing.b0 N a3 r5 s.1 s.2) n_ (x13, x14) = some o1_ ∧ Fr t (fun O => ([O 0, Value.int .i64 a3, O 2, O 3, O 4, O 5, O 6, v6, v12, Value.int .i64 x14, O 10, O 11, O 12, O 13, O 14, O 15, O 16, O 17, O 18, O 19, O 20, O 21, O 22, O 23, O 24, O 25, O 26, O 27, O 28, O 29, O 30, O 31] : List Value)) ∧ St w0 [Rows2 38 kHS (RowO 2 (K.int .i64)) v6 ms7 r5, Row 2 (K.int .i64) v12 x13] w) N ⟨v9, ([] : List Int), 1, Ho, rfl, hs⟩ ?_ ?_
   ·
    rintro _ _ ⟨v12, x13, x14, h, _⟩
    exact rounds_zero h
   ·
    intro n_ ih1_
    rintro t w ⟨v12, x13, x14, Ho, hf, hs⟩
    obtain ⟨O, rfl⟩ := hf.open
    show G _ _ _ _ [_,_,_,_,_,_,_,_,_,_,_,_,_,_,_,_,_,_,_,_,_,_,_,_,_,_,_,_,_,_,_,_] _
    obtain ⟨x3_, H, Hx1_⟩ := rounds_succ Ho
    have H : spec_l01Missing.b0 N a3 r5 x13 x14 = some x3_ := H
    unfold spec_l01Missing.b0 at H
    refine g_seq ?_
    refine g_seq ?_
    refine g_region ?_
    show G _ _ _ (.inRegion _ [0, 1, 2] :: _) _ _
    refine g_op (v := Value.int .i64 x14) rfl rfl rfl ?_
    refine g_op (v := Value.int .i64 a3) rfl rfl rfl ?_
    refine g_op_b (B := decide (x14 ≤ a3)) rfl rfl rfl ?_ ?_
    ·
     intro hb
     rw [if_pos (b_dec_t hb)] at H
     show G _ _ _ _ [_,_,_,_,_,_,_,_,_,_,_,_,_,_,_,_,_,_,_,_,_,_,_,_,_,_,_,_,_,_,_,_] _
     refine g_ops_nil ?_
     refine g_cond_true rfl ?_
     refine g_skip ?_
     refine g_seq ?_
     refine g_block_join (J := (fun t w => ∃ v21 : Value, ∃ x22 : (List Int), spec_l01Missing.j2 N x14 x22 = some x3_ ∧ Fr t (fun O => ([O 0, Value.int .i64 a3, O 2, O 3, O 4, O 5, O 6, v6, v21, Value.int .i64 x14, O 10, O 11, O 12, O 13, O 14, O 15, O 16, O 17, O 18, O 19, O 20, O 21, O 22, O 23, O 24, O 25, O 26, O 27, O 28, O 29, O 30, O 31] : List Value)) ∧ St w0 [Rows2 38 kHS (RowO 2 (K.int .i64)) v6 ms7 r5, Row 2 (K.int .i64) v21 x22] w)) ?_ ?_
     ·
      rintro t w ⟨v21, x22, H, hf, hs⟩
      obtain ⟨O, rfl⟩ := hf.open
      show G _ _ _ _ [_,_,_,_,_,_,_,_,_,_,_,_,_,_,_,_,_,_,_,_,_,_,_,_,_,_,_,_,_,_,_,_] _
      unfold spec_l01Missing.j2 at H
      refine g_region ?_
      show G _ _ _ (.inRegion _ [0, 1, 2] :: _) _ _
      refine g_op (v := Value.int .i64 x14) rfl rfl rfl ?_
      refine g_op (v := Value.int .i64 (i64w (x14 + 1))) rfl rfl rfl ?_
      show G _ _ _ _ [_,_,_,_,_,_,_,_,_,_,_,_,_,_,_,_,_,_,_,_,_,_,_,_,_,_,_,_,_,_,_,_] _
      refine g_op (v := Value.int .i64 (i64w (x14 + 1))) rfl rfl rfl ?_
      show G _ _ _ _ [_,_,_,_,_,_,_,_,_,_,_,_,_,_,_,_,_,_,_,_,_,_,_,_,_,_,_,_,_,_,_,_] _
      refine g_ops_nil ?_
      obtain rfl := Option.some.inj H
      have hs := hs.pull 1 rfl
      have hs := hs.pull 1 rfl
      have hs : St _ [_,_] _ := St.take (Γ' := []) hs
      exact ih1_ _ _ ⟨v21, x22, i64w (x14 + 1), Hx1_, rfl, hs⟩
     ·
      intro ha
      refine g_seq ?_
      refine g_region ?_
      show G _ _ _ (.inRegion _ [0, 1, 2, 3, 4, 5, 6, 7] :: _) _ _
      refine g_op (v := v6) rfl rfl rfl ?_
      obtain ⟨g1, H⟩ := ite_get H
      refine s_idx fkHS zHS (hs.r2row 0 rfl) rfl (fun _ => rfl) g1.1 (hs.r2lt 0 rfl g1.2) rfl rfl rfl rfl rfl ?_
      intro p15 hp15 lp15 op15
      show G _ _ _ _ [_,_,_,_,_,_,_,_,_,_,_,_,_,_,_,_,_,_,_,_,_,_,_,_,_,_,_,_,_,_,_,_] _
      refine s_load1 rfl rfl (v := Value.slice (rdL ms7 0 zHS).a (rdL ms7 0 zHS).n (rdL ms7 0 zHS).c) rfl rfl (fun _ => rfl) hp15 ?_
      show G _ _ _ _ [_,_,_,_,_,_,_,_,_,_,_,_,_,_,_,_,_,_,_,_,_,_,_,_,_,_,_,_,_,_,_,_] _
      refine g_op (v := Value.int .i64 x14) rfl rfl rfl ?_
      refine g_op (v := Value.int .i64 (i64w (2000 + x14))) rfl rfl rfl ?_
      show G _ _ _ _ [_,_,_,_,_,_,_,_,_,_,_,_,_,_,_,_,_,_,_,_,_,_,_,_,_,_,_,_,_,_,_,_] _
      obtain ⟨g2, H⟩ := ite_get H
      refine s_idx (fkI .i64) 0 (hs.r2rd 0 rfl g1.1 g1.2) rfl (fun _ => rfl) g2.1 g2.2 rfl rfl rfl rfl rfl ?_
      intro p16 hp16 lp16 op16
      show G _ _ _ _ [_,_,_,_,_,_,_,_,_,_,_,_,_,_,_,_,_,_,_,_,_,_,_,_,_,_,_,_,_,_,_,_] _
      refine s_load1 rfl rfl (v := Value.int .i64 (rdL (rdL r5 0 []) (i64w (2000 + x14)) 0)) rfl rfl (fun _ => rfl) hp16 ?_
      show G _ _ _ _ [_,_,_,_,_,_,_,_,_,_,_,_,_,_,_,_,_,_,_,_,_,_,_,_,_,_,_,_,_,_,_,_] _
      refine g_op_b (B := decide ((rdL (rdL r5 0 []) (i64w (2000 + x14)) 0) < 0)) rfl rfl rfl ?_ ?_
      ·
       intro hb
       rw [if_pos (b_dec_t hb)] at H
       show G _ _ _ _ [_,_,_,_,_,_,_,_,_,_,_,_,_,_,_,_,_,_,_,_,_,_,_,_,_,_,_,_,_,_,_,_] _
       refine g_ops_nil ?_
       refine g_cond_true rfl ?_
       refine g_region ?_
       show G _ _ _ (.inRegion _ [0, 1, 2, 3, 4] :: _) _ _
       refine g_op (v := v12) rfl rfl rfl ?_
       refine g_op (v := Value.int .i64 x14) rfl rfl rfl ?_
       refine s_lit1 (fkI .i64) (y := x14) hs rfl rfl rfl rfl (fun _ => rfl) (zv := (Value.int .i64 0)) (fun _ => rfl) rfl (by decide) (by decide) rfl ?_
       intro v17 w hs
       show G _ _ _ _ [_,_,_,_,_,_,_,_,_,_,_,_,_,_,_,_,_,_,_,_,_,_,_,_,_,_,_,_,_,_,_,_] _
       have hs := hs.pull 2 rfl
       have hs : St _ [_,_,_] _ := hs
       obtain ⟨g, H⟩ := ite_get H
       refine s_append (fkI .i64) (zv := (Value.int .i64 0)) (B := 8) hs (hs.row 1 rfl) rfl rfl rfl rfl rfl rfl rfl rfl rfl (by decide) rfl rfl (by decide) (by omega) ?_
       intro v19 w hs
       show G _ _ _ _ [_,_,_,_,_,_,_,_,_,_,_,_,_,_,_,_,_,_,_,_,_,_,_,_,_,_,_,_,_,_,_,_] _
       refine g_op (v := v19) rfl rfl rfl ?_
       show G _ _ _ _ [_,_,_,_,_,_,_,_,_,_,_,_,_,_,_,_,_,_,_,_,_,_,_,_,_,_,_,_,_,_,_,_] _
       refine g_ops_nil ?_
       refine g_inBlock ?_
       have hs := hs.pull 0 rfl
       have hs := hs.pull 2 rfl
       have hs : St _ [_,_] _ := St.take (Γ' := [_]) hs
       exact ha _ _ ⟨v19, x13 ++ ([x14]), H, rfl, hs⟩
      ·
       intro hb
       rw [if_neg (b_dec_f hb)] at H
       show G _ _ _ _ [_,_,_,_,_,_,_,_,_,_,_,_,_,_,_,_,_,_,_,_,_,_,_,_,_,_,_,_,_,_,_,_] _
       refine g_ops_nil ?_
       refine g_cond_false rfl ?_
       refine g_skip ?_
       refine g_inBlock ?_
       have hs := hs.pull 1 rfl
       have hs := hs.pull 1 rfl
       have hs : St _ [_,_] _ := St.take (Γ' := []) hs
       exact ha _ _ ⟨v12, x13, H, rfl, hs⟩
    ·
     intro hb
     rw [if_neg (b_dec_f hb)] at H
     show G _ _ _ _ [_,_,_,_,_,_,_,_,_,_,_,_,_,_,_,_,_,_,_,_,_,_,_,_,_,_,_,_,_,_,_,_] _
     refine g_ops_nil ?_
     refine g_cond_false rfl ?_
     obtain rfl := Option.some.inj H
     subst Hx1_
     have hs := hs.pull 1 rfl
     have hs : St _ [_] _ := St.take (Γ' := [_]) hs
     refine g_exit rfl ?_
     exact ha1_ _ _ ⟨v12, x13, Hr1_, rfl, hs⟩

/- function 5 spec_NeedlessWeight -/
def spec_NeedlessWeight.post (w0 : World) (r : (Int × Int)) (v : Value) (w : World) : Prop := v = Value.tuple #[Value.int .i64 r.1, Value.int .i64 r.2] ∧ St w0 [] w
set_option maxHeartbeats 8000000 in
set_option maxRecDepth 100000 in
theorem spec_NeedlessWeight.calls {N : Nat} {a1 : (List Int)} {a3 : Int} {a4 : Bool} {v2 : Value} {w0 : World} {r : (Int × Int)} (hr0 : RdRow (K.int .i16) w0 v2 a1) (H : spec_NeedlessWeight.f N a1 a3 a4 = some r) :
    Calls Try.prog 5 #[v2, Value.int .i64 a3, Value.bool a4] w0 fun e w => ∃ v, e = .returned v ∧ spec_NeedlessWeight.post w0 r v w := by
  unfold spec_NeedlessWeight.f at H
  have hs : St w0 [] w0 := St.refl w0
  refine calls_of_g (n := 47) Try.func5 rfl rfl ?_
  show G _ _ _ _ [_,_,_,_,_,_,_,_,_,_,_,_,_,_,_,_,_,_,_,_,_,_,_,_,_,_,_,_,_,_,_,_,_,_,_,_,_,_,_,_,_,_,_,_,_,_,_,_,_,_] _
  refine g_seq ?_
  refine g_region ?_
  show G _ _ _ (.inRegion _ [0, 1] :: _) _ _
  refine g_op (v := Value.int .i64 0) rfl rfl rfl ?_
  refine g_op (v := Value.int .i64 0) rfl rfl rfl ?_
  refine g_ops_nil ?_
  refine g_seq ?_
  refine g_seq ?_
  refine g_region ?_
  show G _ _ _ (.inRegion _ [0, 1, 2] :: _) _ _
  refine g_op (v := v2) rfl rfl rfl ?_
  obtain ⟨r5, Hr5, H⟩ := bind_get H
  refine s_call (args := [v2]) rfl rfl (x_call rfl (callFunc_enter Try.func15 rfl rfl) rfl) (spec_l01Ok.calls (a1 := a1) (hs.rd hr0) Hr5) ?_
  rintro _ w ⟨rfl, hs2⟩
  have hs : St _ [] _ := hs.call hs2
  cases r5 with
  | true =>
    rw [if_pos rfl] at H
    show G _ _ _ _ [_,_,_,_,_,_,_,_,_,_,_,_,_,_,_,_,_,_,_,_,_,_,_,_,_,_,_,_,_,_,_,_,_,_,_,_,_,_,_,_,_,_,_,_,_,_,_,_,_,_] _
    refine g_op (v := Value.bool false) rfl rfl rfl ?_
    refine g_ops_nil ?_
    refine g_cond_false rfl ?_
    refine g_skip ?_
    refine g_seq ?_
    refine g_seq ?_
    refine g_region ?_
    show G _ _ _ (.inRegion _ [0, 1, 2] :: _) _ _
    refine g_op (v := Value.int .i64 a3) rfl rfl rfl ?_
    obtain ⟨r6, Hr6, H⟩ := bind_get H
    refine s_call (args := [Value.int .i64 a3, Value.int .i64 1, Value.int .i64 2000]) rfl rfl (x_call rfl (callFunc_enter Try.func16 rfl rfl) rfl) (spec_l00In.calls (a1 := a3) (a2 := 1) (a3 := 2000) Hr6) ?_
    rintro _ w ⟨rfl, hs2⟩
    have hs : St _ [] _ := hs.call hs2
    cases r6 with
    | true =>
      rw [if_pos rfl] at H
      refine g_op (v := Value.bool false) rfl rfl rfl ?_
      show G _ _ _ _ [_,_,_,_,_,_,_,_,_,_,_,_,_,_,_,_,_,_,_,_,_,_,_,_,_,_,_,_,_,_,_,_,_,_,_,_,_,_,_,_,_,_,_,_,_,_,_,_,_,_] _
      refine g_ops_nil ?_
      refine g_cond_false rfl ?_
      refine g_skip ?_
      refine g_seq ?_
      refine g_seq ?_
      refine g_region ?_
      show G _ _ _ (.inRegion _ [0, 1, 2, 3, 4, 5] :: _) _ _
      refine g_op (v := v2) rfl rfl rfl ?_
      refine g_op (v := Value.int .i64 a3) rfl rfl rfl ?_
      refine g_op (v := Value.bool a4) rfl rfl rfl ?_
      obtain ⟨r7, Hr7, H⟩ := bind_get H
      refine s_call (args := [v2, Value.int .i64 a3, Value.bool a4]) rfl rfl (x_call rfl (callFunc_enter Try.func17 rfl rfl) rfl) (spec_l01Missing.calls (a1 := a1) (a3 := a3) (a4 := a4) (hs.rd hr0) Hr7) ?_
      intro v8 w hs2
      have hs : St _ [_] _ := hs.call hs2
      refine s_len (hs.row 0 rfl) rfl rfl rfl rfl rfl ?_
      refine g_op_b (B := decide ((r7.length : Int) > 0)) rfl rfl rfl ?_ ?_
      ·
       intro hb
       rw [if_pos (b_dec_t hb)] at H
       refine g_ops_nil ?_
       refine g_cond_true rfl ?_
       refine g_seq ?_
       refine g_region ?_
       show G _ _ _ (.inRegion _ [0, 1] :: _) _ _
       refine g_op (v := Value.int .i64 0) rfl rfl rfl ?_
       refine g_op (v := Value.int .i64 4) rfl rfl rfl ?_
       show G _ _ _ _ [_,_,_,_,_,_,_,_,_,_,_,_,_,_,_,_,_,_,_,_,_,_,_,_,_,_,_,_,_,_,_,_,_,_,_,_,_,_,_,_,_,_,_,_,_,_,_,_,_,_] _
       refine g_ops_nil ?_
       obtain rfl := Option.some.inj H
       refine g_ret Try.func5 (v := Value.tuple #[Value.int .i64 0, Value.int .i64 4]) (resN (l := Try.f5.results.toList) (vs := [Value.int .i64 0, Value.int .i64 4]) rfl ⟨rfl, rfl, trivial⟩ (by simp)) ?_
       have hs : St _ [] _ := St.take (Γ' := [_]) hs
       exact ⟨_, rfl, rfl, hs⟩
      ·
       intro hb
       rw [if_neg (b_dec_f hb)] at H
       show G _ _ _ _ [_,_,_,_,_,_,_,_,_,_,_,_,_,_,_,_,_,_,_,_,_,_,_,_,_,_,_,_,_,_,_,_,_,_,_,_,_,_,_,_,_,_,_,_,_,_,_,_,_,_] _
       refine g_ops_nil ?_
       refine g_cond_false rfl ?_
       refine g_skip ?_
       refine g_seq ?_
       refine g_seq ?_
       refine g_region ?_
       show G _ _ _ (.inRegion _ [0] :: _) _ _
       refine g_op (v := Value.int .i64 0) rfl rfl rfl ?_
       refine g_ops_nil ?_
       obtain ⟨o1_, Ho, Hr1_⟩ := bind_get H
       refine g_block_join (J := fun t w => spec_NeedlessWeight.a0 N = some r ∧ Fr t (fun O => ([O 0, O 1, O 2, O 3, O 4, O 5, O 6, O 7, O 8, O 9, O 10, O 11, O 12, O 13, O 14, O 15, O 16, O 17, O 18, O 19, O 20, O 21, O 22, O 23, O 24, O 25, O 26, O 27, O 28, O 29, O 30, O 31, O 32, O 33, O 34, O 35, O 36, O 37, O 38, O 39, O 40, O 41, O 42, O 43, O 44, O 45, O 46, O 47, O 48, O 49] : List Value)) ∧ St w0 [] w) ?_ ?_
       ·
        rintro t w ⟨H, hf, hs⟩
        obtain ⟨O, rfl⟩ := hf.open
        show G _ _ _ _ [_,_,_,_,_,_,_,_,_,_,_,_,_,_,_,_,_,_,_,_,_,_,_,_,_,_,_,_,_,_,_,_,_,_,_,_,_,_,_,_,_,_,_,_,_,_,_,_,_,_] _
        unfold spec_NeedlessWeight.a0 at H
        refine g_seq ?_
        refine g_region ?_
        show G _ _ _ (.inRegion _ [0, 1] :: _) _ _
        refine g_op (v := Value.int .i64 0) rfl rfl rfl ?_
        show G _ _ _ _ [_,_,_,_,_,_,_,_,_,_,_,_,_,_,_,_,_,_,_,_,_,_,_,_,_,_,_,_,_,_,_,_,_,_,_,_,_,_,_,_,_,_,_,_,_,_,_,_,_,_] _
        refine g_op (v := Value.int .i64 6) rfl rfl rfl ?_
        refine g_ops_nil ?_
        obtain rfl := Option.some.inj H
        refine g_ret Try.func5 (v := Value.tuple #[Value.int .i64 0, Value.int .i64 6]) (resN (l := Try.f5.results.toList) (vs := [Value.int .i64 0, Value.int .i64 6]) rfl ⟨rfl, rfl, trivial⟩ (by simp)) ?_
        have hs : St _ [] _ := St.take (Γ' := []) hs
        exact ⟨_, rfl, rfl, hs⟩
       ·
        intro ha1_
        have hs : St _ [] _ := St.take (Γ' := [_]) hs
        refine g_loop_fuel (I := fun n_ t w => ∃ x10 : Int, rounds (fun s => spec_NeedlessWeight.b0 N a1 a3 a4 s) n_ x10 = some o1_ ∧ Fr t (fun O => ([v2, Value.int .i64 a3, Value.bool a4, O 3, O 4, O 5, O 6, O 7, Value.int .i64 x10, O 9, O 10, O 11, O 12, O 13, O 14, O 15, O 16, O 17, O 18, O 19, O 20, O 21, O 22, O 23, O 24, O 25, O 26, O 27, O 28, O 29, O 30, O 31, O 32, O 33, O 34, O 35, O 36, O 37, O 38, O 39, O 40, O 41, O 42, O 43, O 44, O 45, O 46, O 47, O 48, O 49] : List Value)) ∧ St w0 [] w) N ⟨0, Ho, rfl, hs⟩ ?_ ?_
        ·
         rintro _ _ ⟨x10, h, _⟩
         exact rounds_zero h
        ·
         intro n_ ih1_
         rintro t w ⟨x10, Ho, hf, hs⟩
         obtain ⟨O, rfl⟩ := hf.open
         show G _ _ _ _ [_,_,_,_,_,_,_,_,_,_,_,_,_,_,_,_,_,_,_,_,_,_,_,_,_,_,_,_,_,_,_,_,_,_,_,_,_,_,_,_,_,_,_,_,_,_,_,_,_,_] _
         obtain ⟨x3_, H, Hx1_⟩ := rounds_succ Ho
         have H : spec_NeedlessWeight.b0 N a1 a3 a4 x10 = some x3_ := H
         unfold spec_NeedlessWeight.b0 at H
         refine g_seq ?_
         refine g_seq ?_
         refine g_region ?_
         show G _ _ _ (.inRegion _ [0, 1, 2, 3, 4, 5, 6, 7, 8] :: _) _ _
         refine g_op (v := Value.int .i64 x10) rfl rfl rfl ?_
         refine g_op (v := v2) rfl rfl rfl ?_
         refine s_len (hs.rd hr0) rfl rfl rfl rfl rfl ?_
         refine g_op_b (B := decide (x10 < (a1.length : Int))) rfl rfl rfl ?_ ?_
         ·
          intro hb
          rw [if_pos (b_dec_t hb)] at H
          refine g_op (v := Value.bool true) rfl rfl rfl ?_
          refine g_op (v := v2) rfl rfl rfl ?_
          refine s_len (hs.rd hr0) rfl rfl rfl rfl rfl ?_
          refine g_op_b (B := decide ((a1.length : Int) > 1)) rfl rfl rfl ?_ ?_
          ·
           intro hb
           rw [if_pos (b_dec_t hb)] at H
           refine g_op (v := Value.bool true) rfl rfl rfl ?_
           show G _ _ _ _ [_,_,_,_,_,_,_,_,_,_,_,_,_,_,_,_,_,_,_,_,_,_,_,_,_,_,_,_,_,_,_,_,_,_,_,_,_,_,_,_,_,_,_,_,_,_,_,_,_,_] _
           refine g_ops_nil ?_
           refine g_cond_true rfl ?_
           refine g_skip ?_
           refine g_seq ?_
           refine g_block ?_
           refine g_seq ?_
           obtain ⟨gd1, H⟩ := ite_get H
           obtain ⟨gq4_, H⟩ := ite_get H
           obtain ⟨gd2, H⟩ := ite_get H
           obtain ⟨gq9_, H⟩ := ite_get H
           refine g_name ?_
           intro T hT
           refine g_any (n := 11) rfl [0, 1, 2, 3, 4, 5, 6, 7, 8, 9, 10] [0, 1, 2, 3, 4, 5, 6, 7, 8, 9, 10] rfl rfl (Inv := fun D t w => ∃ v11 : Value, ∃ v13 : Value, ∃ v15 : Value, ∃ O : Nat → Value, t = [v2, Value.int .i64 a3, Value.bool a4, O 3, O 4, O 5, O 6, O 7, Value.int .i64 x10, cnd (D 10) v15 (O 9), O 10, O 11, O 12, O 13, O 14, O 15, O 16, O 17, O 18, O 19, O 20, O 21, Value.int .i64 x10, v2, Value.int .i64 (a1.length : Int), Value.bool true, Value.bool true, v2, Value.int .i64 (a1.length : Int), Value.bool true, Value.bool true, O 31, O 32, cnd (D 0) v11 (O 33), cnd (D 1) v2 (O 34), cnd (D 2) (Value.int .i64 x10) (O 35), cnd (D 3) (subV v2 1 ((0 : Int)).toNat (x10).toNat) (O 36), cnd (D 4) v13 (O 37), cnd (D 5) v2 (O 38), cnd (D 6) (Value.int .i64 x10) (O 39), cnd (D 7) (Value.int .i64 (i64w (x10 + 1))) (O 40), cnd (D 8) (subV v2 1 ((i64w (x10 + 1))).toNat ((a1.length : Int)).toNat) (O 41), cnd (D 9) v15 (O 42), O 43, O 44, O 45, O 46, O 47, O 48, O 49] ∧ St w0 [Asc (D 0) (Row 40 (K.int .i16) (cnd (D 9) v15 (cnd (D 4) v13 v11)) (cnd (D 9) ((([] : List Int) ++ ((a1.drop ((0 : Int)).toNat).take ((x10).toNat - ((0 : Int)).toNat))) ++ ((a1.drop ((i64w (x10 + 1))).toNat).take (((a1.length : Int)).toNat - ((i64w (x10 + 1))).toNat))) (cnd (D 4) (([] : List Int) ++ ((a1.drop ((0 : Int)).toNat).take ((x10).toNat - ((0 : Int)).toNat))) ([] : List Int))))] w) ?_ ⟨⟨⟨⟨⟨⟨⟨⟨⟨⟨⟨trivial, ?_⟩, ?_⟩, ?_⟩, ?_⟩, ?_⟩, ?_⟩, ?_⟩, ?_⟩, ?_⟩, ?_⟩, ?_⟩ ?_
           ·
            intro w hh hbw
            have hs := hs.samew hh hbw
            have hs := hs.emp
            exact ⟨undef, undef, undef, fun i => T.getD i undef, (by subst hT; rfl), hs⟩
           ·
            intro D t w hD hp hcl hI rest hk
            obtain ⟨v11, v13, v15, O, ht, hs⟩ := hI
            have q4_ : D 4 = false := not_yet (hcl.get 4 (by decide)) 0 0 rfl hD
            have q9_ : D 9 = false := not_yet (hcl.get 9 (by decide)) 0 4 rfl q4_
            have q10_ : D 10 = false := not_yet (hcl.get 10 (by decide)) 0 9 rfl q9_
            simp only [hD, q4_, q9_, q10_, cnd_t, cnd_f, Asc_t, Asc_f] at ht hs
            subst ht
            refine s_lit0 (κ := (K.int .i16)) hs rfl rfl rfl rfl (fun _ => rfl) ?_
            intro v11 w hs
            show G _ _ _ _ [_,_,_,_,_,_,_,_,_,_,_,_,_,_,_,_,_,_,_,_,_,_,_,_,_,_,_,_,_,_,_,_,_,_,_,_,_,_,_,_,_,_,_,_,_,_,_,_,_,_] _
            have hs := hs.fill 0 rfl
            exact hk _ _ ⟨v11, v13, v15, O, (by simp only [upd, Nat.reduceBEq, Bool.true_or, Bool.false_or, q4_, q9_, q10_, cnd_t, cnd_f, Asc_t, Asc_f]), hs.cast (by first | rfl | simp only [List.take, List.drop, List.cons_append, List.nil_append, List.set_cons_zero, List.set_cons_succ, List.eraseIdx, upd, Nat.reduceBEq, Bool.true_or, Bool.false_or, q4_, q9_, q10_, cnd_t, cnd_f, Asc_t, Asc_f])⟩
           ·
            intro D t w hD hp hcl hI rest hk
            obtain ⟨v11, v13, v15, O, ht, hs⟩ := hI
            have q3_ : D 3 = false := not_yet (hcl.get 3 (by decide)) 0 1 rfl hD
            have q4_ : D 4 = false := not_yet (hcl.get 4 (by decide)) 1 3 rfl q3_
            have q9_ : D 9 = false := not_yet (hcl.get 9 (by decide)) 0 4 rfl q4_
            have q10_ : D 10 = false := not_yet (hcl.get 10 (by decide)) 0 9 rfl q9_
            simp only [hD, q3_, q4_, q9_, q10_, cnd_t, cnd_f, Asc_t, Asc_f] at ht hs
            subst ht
            refine g_op (v := v2) rfl rfl rfl ?_
            show G _ _ _ _ [_,_,_,_,_,_,_,_,_,_,_,_,_,_,_,_,_,_,_,_,_,_,_,_,_,_,_,_,_,_,_,_,_,_,_,_,_,_,_,_,_,_,_,_,_,_,_,_,_,_] _
            exact hk _ _ ⟨v11, v13, v15, O, (by simp only [upd, Nat.reduceBEq, Bool.true_or, Bool.false_or, q3_, q4_, q9_, q10_, cnd_t, cnd_f, Asc_t, Asc_f]), hs.cast (by first | rfl | simp only [List.take, List.drop, List.cons_append, List.nil_append, List.set_cons_zero, List.set_cons_succ, List.eraseIdx, upd, Nat.reduceBEq, Bool.true_or, Bool.false_or, q3_, q4_, q9_, q10_, cnd_t, cnd_f, Asc_t, Asc_f])⟩
           ·
            intro D t w hD hp hcl hI rest hk
            obtain ⟨v11, v13, v15, O, ht, hs⟩ := hI
            have q3_ : D 3 = false := not_yet (hcl.get 3 (by decide)) 1 2 rfl hD
            have q4_ : D 4 = false := not_yet (hcl.get 4 (by decide)) 1 3 rfl q3_
            have q9_ : D 9 = false := not_yet (hcl.get 9 (by decide)) 0 4 rfl q4_
            have q10_ : D 10 = false := not_yet (hcl.get 10 (by decide)) 0 9 rfl q9_
            simp only [hD, q3_, q4_, q9_, q10_, cnd_t, cnd_f, Asc_t, Asc_f] at ht hs
            subst ht
            refine g_op (v := Value.int .i64 x10) rfl rfl rfl ?_
            show G _ _ _ _ [_,_,_,_,_,_,_,_,_,_,_,_,_,_,_,_,_,_,_,_,_,_,_,_,_,_,_,_,_,_,_,_,_,_,_,_,_,_,_,_,_,_,_,_,_,_,_,_,_,_] _
            exact hk _ _ ⟨v11, v13, v15, O, (by simp only [upd, Nat.reduceBEq, Bool.true_or, Bool.false_or, q3_, q4_, q9_, q10_, cnd_t, cnd_f, Asc_t, Asc_f]), hs.cast (by first | rfl | simp only [List.take, List.drop, List.cons_append, List.nil_append, List.set_cons_zero, List.set_cons_succ, List.eraseIdx, upd, Nat.reduceBEq, Bool.true_or, Bool.false_or, q3_, q4_, q9_, q10_, cnd_t, cnd_f, Asc_t, Asc_f])⟩
           ·
            intro D t w hD hp hcl hI rest hk
            obtain ⟨v11, v13, v15, O, ht, hs⟩ := hI
            obtain ⟨p1_, p2_, _⟩ := hp
            have q4_ : D 4 = false := not_yet (hcl.get 4 (by decide)) 1 3 rfl hD
            have q9_ : D 9 = false := not_yet (hcl.get 9 (by decide)) 0 4 rfl q4_
            have q10_ : D 10 = false := not_yet (hcl.get 10 (by decide)) 0 9 rfl q9_
            simp only [hD, p1_, p2_, q4_, q9_, q10_, cnd_t, cnd_f, Asc_t, Asc_f] at ht hs
            subst ht
            refine g_op (v := subV v2 1 ((0 : Int)).toNat (x10).toNat) rfl rfl (x_slice (hs.rd hr0) rfl rfl (fun _ => rfl) rfl (.inl ⟨rfl, rfl⟩) (.inr ⟨_, _, rfl, rfl⟩) gd1.1 gd1.2.1 gd1.2.2) ?_
            show G _ _ _ _ [_,_,_,_,_,_,_,_,_,_,_,_,_,_,_,_,_,_,_,_,_,_,_,_,_,_,_,_,_,_,_,_,_,_,_,_,_,_,_,_,_,_,_,_,_,_,_,_,_,_] _
            exact hk _ _ ⟨v11, v13, v15, O, (by simp only [upd, Nat.reduceBEq, Bool.true_or, Bool.false_or, p1_, p2_, q4_, q9_, q10_, cnd_t, cnd_f, Asc_t, Asc_f]), hs.cast (by first | rfl | simp only [List.take, List.drop, List.cons_append, List.nil_append, List.set_cons_zero, List.set_cons_succ, List.eraseIdx, upd, Nat.reduceBEq, Bool.true_or, Bool.false_or, p1_, p2_, q4_, q9_, q10_, cnd_t, cnd_f, Asc_t, Asc_f])⟩
           ·
            intro D t w hD hp hcl hI rest hk
            obtain ⟨v11, v13, v15, O, ht, hs⟩ := hI
            obtain ⟨p0_, p3_, _⟩ := hp
            obtain ⟨p1_, p2_, _⟩ := (hcl.get 3 (by decide)) p3_
            have q9_ : D 9 = false := not_yet (hcl.get 9 (by decide)) 0 4 rfl hD
            have q10_ : D 10 = false := not_yet (hcl.get 10 (by decide)) 0 9 rfl q9_
            simp only [hD, p0_, p1_, p2_, p3_, q9_, q10_, cnd_t, cnd_f, Asc_t, Asc_f] at ht hs
            subst ht
            refine s_append (fkI .i16) (zv := (Value.int .i16 0)) (B := 2) hs (rdSub (hs.rd hr0) 1 rfl gd1.1 gd1.2.1 gd1.2.2) rfl rfl rfl rfl rfl rfl rfl rfl rfl (by decide) rfl rfl (by decide) (by have := gq4_; omega) ?_
            intro v13 w hs
            show G _ _ _ _ [_,_,_,_,_,_,_,_,_,_,_,_,_,_,_,_,_,_,_,_,_,_,_,_,_,_,_,_,_,_,_,_,_,_,_,_,_,_,_,_,_,_,_,_,_,_,_,_,_,_] _
            have hs := hs.push 0 (by simp)
            exact hk _ _ ⟨v11, v13, v15, O, (by simp only [upd, Nat.reduceBEq, Bool.true_or, Bool.false_or, p0_, p1_, p2_, p3_, q9_, q10_, cnd_t, cnd_f, Asc_t, Asc_f]), hs.cast (by first | rfl | simp only [List.take, List.drop, List.cons_append, List.nil_append, List.set_cons_zero, List.set_cons_succ, List.eraseIdx, upd, Nat.reduceBEq, Bool.true_or, Bool.false_or, p0_, p1_, p2_, p3_, q9_, q10_, cnd_t, cnd_f, Asc_t, Asc_f])⟩
           ·
            intro D t w hD hp hcl hI rest hk
            obtain ⟨v11, v13, v15, O, ht, hs⟩ := hI
            have q8_ : D 8 = false := not_yet (hcl.get 8 (by decide)) 0 5 rfl hD
            have q9_ : D 9 = false := not_yet (hcl.get 9 (by decide)) 1 8 rfl q8_
            have q10_ : D 10 = false := not_yet (hcl.get 10 (by decide)) 0 9 rfl q9_
            simp only [hD, q8_, q9_, q10_, cnd_t, cnd_f, Asc_t, Asc_f] at ht hs
            subst ht
            refine g_op (v := v2) rfl rfl rfl ?_
            show G _ _ _ _ [_,_,_,_,_,_,_,_,_,_,_,_,_,_,_,_,_,_,_,_,_,_,_,_,_,_,_,_,_,_,_,_,_,_,_,_,_,_,_,_,_,_,_,_,_,_,_,_,_,_] _
            exact hk _ _ ⟨v11, v13, v15, O, (by simp only [upd, Nat.reduceBEq, Bool.true_or, Bool.false_or, q8_, q9_, q10_, cnd_t, cnd_f, Asc_t, Asc_f]), hs.cast (by first | rfl | simp only [List.take, List.drop, List.cons_append, List.nil_append, List.set_cons_zero, List.set_cons_succ, List.eraseIdx, upd, Nat.reduceBEq, Bool.true_or, Bool.false_or, q8_, q9_, q10_, cnd_t, cnd_f, Asc_t, Asc_f])⟩
           ·
            intro D t w hD hp hcl hI rest hk
            obtain ⟨v11, v13, v15, O, ht, hs⟩ := hI
            have q7_ : D 7 = false := not_yet (hcl.get 7 (by decide)) 0 6 rfl hD
            have q8_ : D 8 = false := not_yet (hcl.get 8 (by decide)) 1 7 rfl q7_
            have q9_ : D 9 = false := not_yet (hcl.get 9 (by decide)) 1 8 rfl q8_
            have q10_ : D 10 = false := not_yet (hcl.get 10 (by decide)) 0 9 rfl q9_
            simp only [hD, q7_, q8_, q9_, q10_, cnd_t, cnd_f, Asc_t, Asc_f] at ht hs
            subst ht
            refine g_op (v := Value.int .i64 x10) rfl rfl rfl ?_
            show G _ _ _ _ [_,_,_,_,_,_,_,_,_,_,_,_,_,_,_,_,_,_,_,_,_,_,_,_,_,_,_,_,_,_,_,_,_,_,_,_,_,_,_,_,_,_,_,_,_,_,_,_,_,_] _
            exact hk _ _ ⟨v11, v13, v15, O, (by simp only [upd, Nat.reduceBEq, Bool.true_or, Bool.false_or, q7_, q8_, q9_, q10_, cnd_t, cnd_f, Asc_t, Asc_f]), hs.cast (by first | rfl | simp only [List.take, List.drop, List.cons_append, List.nil_append, List.set_cons_zero, List.set_cons_succ, List.eraseIdx, upd, Nat.reduceBEq, Bool.true_or, Bool.false_or, q7_, q8_, q9_, q10_, cnd_t, cnd_f, Asc_t, Asc_f])⟩
           ·
            intro D t w hD hp hcl hI rest hk
            obtain ⟨v11, v13, v15, O, ht, hs⟩ := hI
            obtain ⟨p6_, _⟩ := hp
            have q8_ : D 8 = false := not_yet (hcl.get 8 (by decide)) 1 7 rfl hD
            have q9_ : D 9 = false := not_yet (hcl.get 9 (by decide)) 1 8 rfl q8_
            have q10_ : D 10 = false := not_yet (hcl.get 10 (by decide)) 0 9 rfl q9_
            simp only [hD, p6_, q8_, q9_, q10_, cnd_t, cnd_f, Asc_t, Asc_f] at ht hs
            subst ht
            refine g_op (v := Value.int .i64 (i64w (x10 + 1))) rfl rfl rfl ?_
            show G _ _ _ _ [_,_,_,_,_,_,_,_,_,_,_,_,_,_,_,_,_,_,_,_,_,_,_,_,_,_,_,_,_,_,_,_,_,_,_,_,_,_,_,_,_,_,_,_,_,_,_,_,_,_] _
            exact hk _ _ ⟨v11, v13, v15, O, (by simp only [upd, Nat.reduceBEq, Bool.true_or, Bool.false_or, p6_, q8_, q9_, q10_, cnd_t, cnd_f, Asc_t, Asc_f]), hs.cast (by first | rfl | simp only [List.take, List.drop, List.cons_append, List.nil_append, List.set_cons_zero, List.set_cons_succ, List.eraseIdx, upd, Nat.reduceBEq, Bool.true_or, Bool.false_or, p6_, q8_, q9_, q10_, cnd_t, cnd_f, Asc_t, Asc_f])⟩
           ·
            intro D t w hD hp hcl hI rest hk
            obtain ⟨v11, v13, v15, O, ht, hs⟩ := hI
            obtain ⟨p5_, p7_, _⟩ := hp
            obtain ⟨p6_, _⟩ := (hcl.get 7 (by decide)) p7_
            have q9_ : D 9 = false := not_yet (hcl.get 9 (by decide)) 1 8 rfl hD
            have q10_ : D 10 = false := not_yet (hcl.get 10 (by decide)) 0 9 rfl q9_
            simp only [hD, p5_, p6_, p7_, q9_, q10_, cnd_t, cnd_f, Asc_t, Asc_f] at ht hs
            subst ht
            refine g_op (v := subV v2 1 ((i64w (x10 + 1))).toNat ((a1.length : Int)).toNat) rfl rfl (x_slice (hs.rd hr0) rfl rfl (fun _ => rfl) rfl (.inr ⟨_, _, rfl, rfl⟩) (.inl ⟨rfl, rfl⟩) gd2.1 gd2.2.1 gd2.2.2) ?_
            show G _ _ _ _ [_,_,_,_,_,_,_,_,_,_,_,_,_,_,_,_,_,_,_,_,_,_,_,_,_,_,_,_,_,_,_,_,_,_,_,_,_,_,_,_,_,_,_,_,_,_,_,_,_,_] _
            exact hk _ _ ⟨v11, v13, v15, O, (by simp only [upd, Nat.reduceBEq, Bool.true_or, Bool.false_or, p5_, p6_, p7_, q9_, q10_, cnd_t, cnd_f, Asc_t, Asc_f]), hs.cast (by first | rfl | simp only [List.take, List.drop, List.cons_append, List.nil_append, List.set_cons_zero, List.set_cons_succ, List.eraseIdx, upd, Nat.reduceBEq, Bool.true_or, Bool.false_or, p5_, p6_, p7_, q9_, q10_, cnd_t, cnd_f, Asc_t, Asc_f])⟩
           ·
            intro D t w hD hp hcl hI rest hk
            obtain ⟨v11, v13, v15, O, ht, hs⟩ := hI
            obtain ⟨p4_, p8_, _, _⟩ := hp
            obtain ⟨p5_, p7_, _⟩ := (hcl.get 8 (by decide)) p8_
            obtain ⟨p6_, _⟩ := (hcl.get 7 (by decide)) p7_
            obtain ⟨p0_, p3_, _⟩ := (hcl.get 4 (by decide)) p4_
            obtain ⟨p1_, p2_, _⟩ := (hcl.get 3 (by decide)) p3_
            have q10_ : D 10 = false := not_yet (hcl.get 10 (by decide)) 0 9 rfl hD
            simp only [hD, p0_, p1_, p2_, p3_, p4_, p5_, p6_, p7_, p8_, q10_, cnd_t, cnd_f, Asc_t, Asc_f] at ht hs
            subst ht
            refine s_append (fkI .i16) (zv := (Value.int .i16 0)) (B := 2) hs (rdSub (hs.rd hr0) 1 rfl gd2.1 gd2.2.1 gd2.2.2) rfl rfl rfl rfl rfl rfl rfl rfl rfl (by decide) rfl rfl (by decide) (by have := gq9_; omega) ?_
            intro v15 w hs
            show G _ _ _ _ [_,_,_,_,_,_,_,_,_,_,_,_,_,_,_,_,_,_,_,_,_,_,_,_,_,_,_,_,_,_,_,_,_,_,_,_,_,_,_,_,_,_,_,_,_,_,_,_,_,_] _
            have hs := hs.push 0 (by simp)
            exact hk _ _ ⟨v11, v13, v15, O, (by simp only [upd, Nat.reduceBEq, Bool.true_or, Bool.false_or, p0_, p1_, p2_, p3_, p4_, p5_, p6_, p7_, p8_, q10_, cnd_t, cnd_f, Asc_t, Asc_f]), hs.cast (by first | rfl | simp only [List.take, List.drop, List.cons_append, List.nil_append, List.set_cons_zero, List.set_cons_succ, List.eraseIdx, upd, Nat.reduceBEq, Bool.true_or, Bool.false_or, p0_, p1_, p2_, p3_, p4_, p5_, p6_, p7_, p8_, q10_, cnd_t, cnd_f, Asc_t, Asc_f])⟩
           ·
            intro D t w hD hp hcl hI rest hk
            obtain ⟨v11, v13, v15, O, ht, hs⟩ := hI
            obtain ⟨p9_, _, p0_, p1_, p2_, p3_, p4_, p5_, p6_, p7_, p8_, _, _⟩ := hp
            simp only [hD, p0_, p1_, p2_, p3_, p4_, p5_, p6_, p7_, p8_, p9_, cnd_t, cnd_f, Asc_t, Asc_f] at ht hs
            subst ht
            refine g_op (v := v15) rfl rfl rfl ?_
            show G _ _ _ _ [_,_,_,_,_,_,_,_,_,_,_,_,_,_,_,_,_,_,_,_,_,_,_,_,_,_,_,_,_,_,_,_,_,_,_,_,_,_,_,_,_,_,_,_,_,_,_,_,_,_] _
            exact hk _ _ ⟨v11, v13, v15, O, (by simp only [upd, Nat.reduceBEq, Bool.true_or, Bool.false_or, p0_, p1_, p2_, p3_, p4_, p5_, p6_, p7_, p8_, p9_, cnd_t, cnd_f, Asc_t, Asc_f]), hs.cast (by first | rfl | simp only [List.take, List.drop, List.cons_append, List.nil_append, List.set_cons_zero, List.set_cons_succ, List.eraseIdx, upd, Nat.reduceBEq, Bool.true_or, Bool.false_or, p0_, p1_, p2_, p3_, p4_, p5_, p6_, p7_, p8_, p9_, cnd_t, cnd_f, Asc_t, Asc_f])⟩
           ·
            intro D t w hall hI
            obtain ⟨v11, v13, v15, O, ht, hs⟩ := hI
            have p0_ : D 0 = true := hall 0 (by decide)
            have p1_ : D 1 = true := hall 1 (by decide)
            have p2_ : D 2 = true := hall 2 (by decide)
            have p3_ : D 3 = true := hall 3 (by decide)
            have p4_ : D 4 = true := hall 4 (by decide)
            have p5_ : D 5 = true := hall 5 (by decide)
            have p6_ : D 6 = true := hall 6 (by decide)
            have p7_ : D 7 = true := hall 7 (by decide)
            have p8_ : D 8 = true := hall 8 (by decide)
            have p9_ : D 9 = true := hall 9 (by decide)
            have p10_ : D 10 = true := hall 10 (by decide)
            simp only [p0_, p1_, p2_, p3_, p4_, p5_, p6_, p7_, p8_, p9_, p10_, cnd_t, cnd_f, Asc_t, Asc_f] at ht hs
            subst ht
            refine g_seq ?_
            refine g_region ?_
            show G _ _ _ (.inRegion _ [0, 1, 2, 3, 4, 5] :: _) _ _
            refine g_op (v := v15) rfl rfl rfl ?_
            refine g_op (v := Value.int .i64 a3) rfl rfl rfl ?_
            refine g_op (v := Value.bool a4) rfl rfl rfl ?_
            obtain ⟨r20, Hr20, H⟩ := bind_get H
            refine s_call (args := [v15, Value.int .i64 a3, Value.bool a4]) rfl rfl (x_call rfl (callFunc_enter Try.func17 rfl rfl) rfl) (spec_l01Missing.calls (a1 := (([] : List Int) ++ ((a1.drop ((0 : Int)).toNat).take ((x10).toNat - ((0 : Int)).toNat))) ++ ((a1.drop ((i64w (x10 + 1))).toNat).take (((a1.length : Int)).toNat - ((i64w (x10 + 1))).toNat))) (a3 := a3) (a4 := a4) (hs.row 0 rfl) Hr20) ?_
            intro v21 w hs2
            have hs : St _ [_,_] _ := hs.call hs2
            refine s_len (hs.row 0 rfl) rfl rfl rfl rfl rfl ?_
            refine g_op_b (B := (r20.length : Int) == 0) rfl rfl rfl ?_ ?_
            ·
             intro hb
             rw [if_pos (b_beq_t hb)] at H
             show G _ _ _ _ [_,_,_,_,_,_,_,_,_,_,_,_,_,_,_,_,_,_,_,_,_,_,_,_,_,_,_,_,_,_,_,_,_,_,_,_,_,_,_,_,_,_,_,_,_,_,_,_,_,_] _
             refine g_ops_nil ?_
             refine g_cond_true rfl ?_
             refine g_seq ?_
             refine g_region ?_
             show G _ _ _ (.inRegion _ [0, 1, 2] :: _) _ _
             refine g_op (v := Value.int .i64 x10) rfl rfl rfl ?_
             refine g_op (v := Value.int .i64 x10) rfl rfl rfl ?_
             refine g_op (v := Value.int .i64 0) rfl rfl rfl ?_
             refine g_ops_nil ?_
             obtain rfl := Option.some.inj H
             subst Hx1_
             have H := Option.some.inj Hr1_
             subst H
             refine g_ret Try.func5 (v := Value.tuple #[Value.int .i64 x10, Value.int .i64 0]) (resN (l := Try.f5.results.toList) (vs := [Value.int .i64 x10, Value.int .i64 0]) rfl ⟨rfl, rfl, trivial⟩ (by simp)) ?_
             have hs : St _ [] _ := St.take (Γ' := [_,_]) hs
             exact ⟨_, rfl, rfl, hs⟩
            ·
             intro hb
             rw [if_neg (b_beq_f hb)] at H
             show G _ _ _ _ [_,_,_,_,_,_,_,_,_,_,_,_,_,_,_,_,_,_,_,_,_,_,_,_,_,_,_,_,_,_,_,_,_,_,_,_,_,_,_,_,_,_,_,_,_,_,_,_,_,_] _
             refine g_ops_nil ?_
             refine g_cond_false rfl ?_
             refine g_skip ?_
             refine g_inBlock ?_
             refine g_region ?_
             show G _ _ _ (.inRegion _ [0, 1, 2] :: _) _ _
             refine g_op (v := Value.int .i64 x10) rfl rfl rfl ?_
             refine g_op (v := Value.int .i64 (i64w (x10 + 1))) rfl rfl rfl ?_
             refine g_op (v := Value.int .i64 (i64w (x10 + 1))) rfl rfl rfl ?_
             refine g_ops_nil ?_
             obtain rfl := Option.some.inj H
             have hs : St _ [] _ := St.take (Γ' := [_,_]) hs
             exact ih1_ _ _ ⟨i64w (x10 + 1), Hx1_, rfl, hs⟩
          ·
           intro hb
           rw [if_neg (b_dec_f hb)] at H
           show G _ _ _ _ [_,_,_,_,_,_,_,_,_,_,_,_,_,_,_,_,_,_,_,_,_,_,_,_,_,_,_,_,_,_,_,_,_,_,_,_,_,_,_,_,_,_,_,_,_,_,_,_,_,_] _
           refine g_op (v := Value.bool false) rfl rfl rfl ?_
           refine g_ops_nil ?_
           refine g_cond_false rfl ?_
           obtain rfl := Option.some.inj H
           subst Hx1_
           have hs : St _ [] _ := St.take (Γ' := []) hs
           refine g_exit rfl ?_
           exact ha1_ _ _ ⟨Hr1_, rfl, hs⟩
         ·
          intro hb
          rw [if_neg (b_dec_f hb)] at H
          show G _ _ _ _ [_,_,_,_,_,_,_,_,_,_,_,_,_,_,_,_,_,_,_,_,_,_,_,_,_,_,_,_,_,_,_,_,_,_,_,_,_,_,_,_,_,_,_,_,_,_,_,_,_,_] _
          refine g_op (v := Value.bool false) rfl rfl rfl ?_
          refine g_op_not rfl rfl ?_
          refine g_op_not rfl rfl ?_
          refine g_op_not rfl rfl ?_
          refine g_op (v := Value.bool false) rfl rfl rfl ?_
          show G _ _ _ _ [_,_,_,_,_,_,_,_,_,_,_,_,_,_,_,_,_,_,_,_,_,_,_,_,_,_,_,_,_,_,_,_,_,_,_,_,_,_,_,_,_,_,_,_,_,_,_,_,_,_] _
          refine g_ops_nil ?_
          refine g_cond_false rfl ?_
          obtain rfl := Option.some.inj H
          subst Hx1_
          have hs : St _ [] _ := St.take (Γ' := []) hs
          refine g_exit rfl ?_
          exact ha1_ _ _ ⟨Hr1_, rfl, hs⟩
    | false =>
      rw [if_neg Bool.false_ne_true] at H
      refine g_op (v := Value.bool true) rfl rfl rfl ?_
      show G _ _ _ _ [_,_,_,_,_,_,_,_,_,_,_,_,_,_,_,_,_,_,_,_,_,_,_,_,_,_,_,_,_,_,_,_,_,_,_,_,_,_,_,_,_,_,_,_,_,_,_,_,_,_] _
      refine g_ops_nil ?_
      refine g_cond_true rfl ?_
      refine g_seq ?_
      refine g_region ?_
      show G _ _ _ (.inRegion _ [0, 1] :: _) _ _
      refine g_op (v := Value.int .i64 0) rfl rfl rfl ?_
      refine g_op (v := Value.int .i64 2) rfl rfl rfl ?_
      refine g_ops_nil ?_
      obtain rfl := Option.some.inj H
      refine g_ret Try.func5 (v := Value.tuple #[Value.int .i64 0, Value.int .i64 2]) (resN (l := Try.f5.results.toList) (vs := [Value.int .i64 0, Value.int .i64 2]) rfl ⟨rfl, rfl, trivial⟩ (by simp)) ?_
      have hs : St _ [] _ := St.take (Γ' := []) hs
      exact ⟨_, rfl, rfl, hs⟩
  | false =>
    rw [if_neg Bool.false_ne_true] at H
    show G _ _ _ _ [_,_,_,_,_,_,_,_,_,_,_,_,_,_,_,_,_,_,_,_,_,_,_,_,_,_,_,_,_,_,_,_,_,_,_,_,_,_,_,_,_,_,_,_,_,_,_,_,_,_] _
    refine g_op (v := Value.bool true) rfl rfl rfl ?_
    refine g_ops_nil ?_
    refine g_cond_true rfl ?_
    refine g_seq ?_
    refine g_region ?_
    show G _ _ _ (.inRegion _ [0, 1] :: _) _ _
    refine g_op (v := Value.int .i64 0) rfl rfl rfl ?_
    refine g_op (v := Value.int .i64 1) rfl rfl rfl ?_
    show G _ _ _ _ [_,_,_,_,_,_,_,_,_,_,_,_,_,_,_,_,_,_,_,_,_,_,_,_,_,_,_,_,_,_,_,_,_,_,_,_,_,_,_,_,_,_,_,_,_,_,_,_,_,_] _
    refine g_ops_nil ?_
    obtain rfl := Option.some.inj H
    refine g_ret Try.func5 (v := Value.tuple #[Value.int .i64 0, Value.int .i64 1]) (resN (l := Try.f5.results.toList) (vs := [Value.int .i64 0, Value.int .i64 1]) rfl ⟨rfl, rfl, trivial⟩ (by simp)) ?_
    have hs : St _ [] _ := St.take (Γ' := []) hs
    exact ⟨_, rfl, rfl, hs⟩

/- function 30 impl_size_int16 -/
def impl_size_int16.post (w0 : World) (r : Int) (v : Value) (w : World) : Prop := v = Value.int .i64 r ∧ St w0 [] w
set_option maxHeartbeats 8000000 in
set_option maxRecDepth 100000 in
theorem impl_size_int16.calls {N : Nat} {a1 : (List Int)} {v2 : Value} {w0 : World} {r : Int} (hr0 : RdRow (K.int .i16) w0 v2 a1) (H : impl_size_int16.f N a1 = some r) :
    Calls Try.prog 30 #[v2] w0 fun e w => ∃ v, e = .returned v ∧ impl_size_int16.post w0 r v w := by
  unfold impl_size_int16.f at H
  have hs : St w0 [] w0 := St.refl w0
  refine calls_of_g (n := 4) Try.func30 rfl rfl ?_
  show G _ _ _ _ [_,_,_,_,_] _
  refine g_seq ?_
  refine g_region ?_
  show G _ _ _ (.inRegion _ [0] :: _) _ _
  refine g_op (v := Value.int .i64 0) rfl rfl rfl ?_
  show G _ _ _ _ [_,_,_,_,_] _
  refine g_ops_nil ?_
  refine g_seq ?_
  refine g_region ?_
  show G _ _ _ (.inRegion _ [0, 1, 2] :: _) _ _
  refine g_op (v := v2) rfl rfl rfl ?_
  show G _ _ _ _ [_,_,_,_,_] _
  refine s_len (hs.rd hr0) rfl rfl rfl rfl rfl ?_
  show G _ _ _ _ [_,_,_,_,_] _
  refine g_op (v := Value.int .i64 (a1.length : Int)) rfl rfl rfl ?_
  show G _ _ _ _ [_,_,_,_,_] _
  refine g_ops_nil ?_
  obtain rfl := Option.some.inj H
  refine g_ret Try.func30 (v := Value.int .i64 (a1.length : Int)) (res1 rfl rfl) ?_
  have hs : St _ [] _ := St.take (Γ' := []) hs
  exact ⟨_, rfl, rfl, hs⟩

/- function 19 impl_within -/
def impl_within.post (w0 : World) (r : Bool) (v : Value) (w : World) : Prop := v = Value.bool r ∧ St w0 [] w
set_option maxHeartbeats 8000000 in
set_option maxRecDepth 100000 in
theorem impl_within.calls {N : Nat} {a1 : Int} {a2 : Int} {a3 : Int} {w0 : World} {r : Bool} (H : impl_within.f N a1 a2 a3 = some r) :
    Calls Try.prog 19 #[Value.int .i64 a1, Value.int .i64 a2, Value.int .i64 a3] w0 fun e w => ∃ v, e = .returned v ∧ impl_within.post w0 r v w := by
  unfold impl_within.f at H
  have hs : St w0 [] w0 := St.refl w0
  refine calls_of_g (n := 12) Try.func19 rfl rfl ?_
  show G _ _ _ _ [_,_,_,_,_,_,_,_,_,_,_,_,_,_,_] _
  refine g_seq ?_
  refine g_region ?_
  show G _ _ _ (.inRegion _ [0] :: _) _ _
  refine g_op (v := Value.bool false) rfl rfl rfl ?_
  show G _ _ _ _ [_,_,_,_,_,_,_,_,_,_,_,_,_,_,_] _
  refine g_ops_nil ?_
  refine g_seq ?_
  refine g_region ?_
  show G _ _ _ (.inRegion _ [0, 1, 2, 3, 4, 5, 6, 7, 8] :: _) _ _
  refine g_op (v := Value.int .i64 a2) rfl rfl rfl ?_
  show G _ _ _ _ [_,_,_,_,_,_,_,_,_,_,_,_,_,_,_] _
  refine g_op (v := Value.int .i64 a1) rfl rfl rfl ?_
  show G _ _ _ _ [_,_,_,_,_,_,_,_,_,_,_,_,_,_,_] _
  refine g_op_b (B := decide (a2 ≤ a1)) rfl rfl rfl ?_ ?_
  ·
   intro hb
   rw [if_pos (b_dec_t hb)] at H
   show G _ _ _ _ [_,_,_,_,_,_,_,_,_,_,_,_,_,_,_] _
   refine g_op (v := Value.bool true) rfl rfl rfl ?_
   show G _ _ _ _ [_,_,_,_,_,_,_,_,_,_,_,_,_,_,_] _
   refine g_op (v := Value.int .i64 a1) rfl rfl rfl ?_
   show G _ _ _ _ [_,_,_,_,_,_,_,_,_,_,_,_,_,_,_] _
   refine g_op (v := Value.int .i64 a3) rfl rfl rfl ?_
   show G _ _ _ _ [_,_,_,_,_,_,_,_,_,_,_,_,_,_,_] _
   refine g_op (v := Value.bool (decide (a1 ≤ a3))) rfl rfl rfl ?_
   show G _ _ _ _ [_,_,_,_,_,_,_,_,_,_,_,_,_,_,_] _
   refine g_op (v := Value.bool (decide (a1 ≤ a3))) rfl rfl rfl ?_
   show G _ _ _ _ [_,_,_,_,_,_,_,_,_,_,_,_,_,_,_] _
   refine g_op (v := Value.bool (decide (a1 ≤ a3))) rfl rfl rfl ?_
   show G _ _ _ _ [_,_,_,_,_,_,_,_,_,_,_,_,_,_,_] _
   refine g_ops_nil ?_
   obtain rfl := Option.some.inj H
   refine g_ret Try.func19 (v := Value.bool (decide (a1 ≤ a3))) (res1 rfl rfl) ?_
   have hs : St _ [] _ := St.take (Γ' := []) hs
   exact ⟨_, rfl, rfl, hs⟩
  ·
   intro hb
   rw [if_neg (b_dec_f hb)] at H
   show G _ _ _ _ [_,_,_,_,_,_,_,_,_,_,_,_,_,_,_] _
   refine g_op (v := Value.bool false) rfl rfl rfl ?_
   show G _ _ _ _ [_,_,_,_,_,_,_,_,_,_,_,_,_,_,_] _
   refine g_op_not rfl rfl ?_
   show G _ _ _ _ [_,_,_,_,_,_,_,_,_,_,_,_,_,_,_] _
   refine g_op_not rfl rfl ?_
   show G _ _ _ _ [_,_,_,_,_,_,_,_,_,_,_,_,_,_,_] _
   refine g_op_not rfl rfl ?_
   show G _ _ _ _ [_,_,_,_,_,_,_,_,_,_,_,_,_,_,_] _
   refine g_op (v := Value.bool false) rfl rfl rfl ?_
   show G _ _ _ _ [_,_,_,_,_,_,_,_,_,_,_,_,_,_,_] _
   refine g_op (v := Value.bool false) rfl rfl rfl ?_
   show G _ _ _ _ [_,_,_,_,_,_,_,_,_,_,_,_,_,_,_] _
   refine g_ops_nil ?_
   obtain rfl := Option.some.inj H
   refine g_ret Try.func19 (v := Value.bool false) (res1 rfl rfl) ?_
   have hs : St _ [] _ := St.take (Γ' := []) hs
   exact ⟨_, rfl, rfl, hs⟩

/- function 37 cmp_isNaN_int16 -/
def cmp_isNaN_int16.post (w0 : World) (r : Bool) (v : Value) (w : World) : Prop := v = Value.bool r ∧ St w0 [] w
set_option maxHeartbeats 8000000 in
set_option maxRecDepth 100000 in
theorem cmp_isNaN_int16.calls {N : Nat} {a1 : Int} {w0 : World} {r : Bool} (H : cmp_isNaN_int16.f N a1 = some r) :
    Calls Try.prog 37 #[Value.int .i16 a1] w0 fun e w => ∃ v, e = .returned v ∧ cmp_isNaN_int16.post w0 r v w := by
  unfold cmp_isNaN_int16.f at H
  have hs : St w0 [] w0 := St.refl w0
  refine calls_of_g (n := 5) Try.func37 rfl rfl ?_
  show G _ _ _ _ [_,_,_,_,_,_] _
  refine g_seq ?_
  refine g_region ?_
  show G _ _ _ (.inRegion _ [0] :: _) _ _
  refine g_op (v := Value.bool false) rfl rfl rfl ?_
  show G _ _ _ _ [_,_,_,_,_,_] _
  refine g_ops_nil ?_
  refine g_seq ?_
  refine g_region ?_
  show G _ _ _ (.inRegion _ [0, 1, 2, 3] :: _) _ _
  refine g_op (v := Value.int .i16 a1) rfl rfl rfl ?_
  show G _ _ _ _ [_,_,_,_,_,_] _
  refine g_op (v := Value.int .i16 a1) rfl rfl rfl ?_
  show G _ _ _ _ [_,_,_,_,_,_] _
  refine g_op (v := Value.bool (a1 != a1)) rfl rfl rfl ?_
  show G _ _ _ _ [_,_,_,_,_,_] _
  refine g_op (v := Value.bool (a1 != a1)) rfl rfl rfl ?_
  show G _ _ _ _ [_,_,_,_,_,_] _
  refine g_ops_nil ?_
  obtain rfl := Option.some.inj H
  refine g_ret Try.func37 (v := Value.bool (a1 != a1)) (res1 rfl rfl) ?_
  have hs : St _ [] _ := St.take (Γ' := []) hs
  exact ⟨_, rfl, rfl, hs⟩

/- function 35 cmp_Less_int16 -/
def cmp_Less_int16.post (w0 : World) (r : Bool) (v : Value) (w : World) : Prop := v = Value.bool r ∧ St w0 [] w
set_option maxHeartbeats 8000000 in
set_option maxRecDepth 100000 in
theorem cmp_Less_int16.calls {N : Nat} {a1 : Int} {a2 : Int} {w0 : World} {r : Bool} (H : cmp_Less_int16.f N a1 a2 = some r) :
    Calls Try.prog 35 #[Value.int .i16 a1, Value.int .i16 a2] w0 fun e w => ∃ v, e = .returned v ∧ cmp_Less_int16.post w0 r v w := by
  unfold cmp_Less_int16.f at H
  have hs : St w0 [] w0 := St.refl w0
  refine calls_of_g (n := 15) Try.func35 rfl rfl ?_
  show G _ _ _ _ [_,_,_,_,_,_,_,_,_,_,_,_,_,_,_,_,_] _
  refine g_seq ?_
  refine g_region ?_
  show G _ _ _ (.inRegion _ [0] :: _) _ _
  refine g_op (v := Value.bool false) rfl rfl rfl ?_
  show G _ _ _ _ [_,_,_,_,_,_,_,_,_,_,_,_,_,_,_,_,_] _
  refine g_ops_nil ?_
  refine g_seq ?_
  refine g_region ?_
  show G _ _ _ (.inRegion _ [0, 1, 2, 3, 4, 5, 6, 7, 8, 9, 10, 11, 12] :: _) _ _
  refine g_op (v := Value.int .i16 a1) rfl rfl rfl ?_
  show G _ _ _ _ [_,_,_,_,_,_,_,_,_,_,_,_,_,_,_,_,_] _
  obtain ⟨r3, Hr3, H⟩ := bind_get H
  refine s_call (args := [Value.int .i16 a1]) rfl rfl (x_call rfl (callFunc_enter Try.func37 rfl rfl) rfl) (cmp_isNaN_int16.calls (a1 := a1) Hr3) ?_
  rintro _ w ⟨rfl, hs2⟩
  have hs : St _ [] _ := hs.call hs2
  cases r3 with
  | true =>
    rw [if_pos rfl] at H
    show G _ _ _ _ [_,_,_,_,_,_,_,_,_,_,_,_,_,_,_,_,_] _
    refine g_op (v := Value.bool true) rfl rfl rfl ?_
    show G _ _ _ _ [_,_,_,_,_,_,_,_,_,_,_,_,_,_,_,_,_] _
    refine g_op (v := Value.int .i16 a2) rfl rfl rfl ?_
    show G _ _ _ _ [_,_,_,_,_,_,_,_,_,_,_,_,_,_,_,_,_] _
    obtain ⟨r4, Hr4, H⟩ := bind_get H
    refine s_call (args := [Value.int .i16 a2]) rfl rfl (x_call rfl (callFunc_enter Try.func37 rfl rfl) rfl) (cmp_isNaN_int16.calls (a1 := a2) Hr4) ?_
    rintro _ w ⟨rfl, hs2⟩
    have hs : St _ [] _ := hs.call hs2
    show G _ _ _ _ [_,_,_,_,_,_,_,_,_,_,_,_,_,_,_,_,_] _
    refine g_op (v := Value.bool (!r4)) rfl rfl rfl ?_
    show G _ _ _ _ [_,_,_,_,_,_,_,_,_,_,_,_,_,_,_,_,_] _
    refine g_op_b (B := !r4) rfl rfl rfl ?_ ?_
    ·
     intro hb
     rw [if_neg (b_not_t hb)] at H
     show G _ _ _ _ [_,_,_,_,_,_,_,_,_,_,_,_,_,_,_,_,_] _
     refine g_op (v := Value.bool true) rfl rfl rfl ?_
     show G _ _ _ _ [_,_,_,_,_,_,_,_,_,_,_,_,_,_,_,_,_] _
     refine g_op_not rfl rfl ?_
     show G _ _ _ _ [_,_,_,_,_,_,_,_,_,_,_,_,_,_,_,_,_] _
     refine g_op_not rfl rfl ?_
     show G _ _ _ _ [_,_,_,_,_,_,_,_,_,_,_,_,_,_,_,_,_] _
     refine g_op_not rfl rfl ?_
     show G _ _ _ _ [_,_,_,_,_,_,_,_,_,_,_,_,_,_,_,_,_] _
     refine g_op (v := Value.bool true) rfl rfl rfl ?_
     show G _ _ _ _ [_,_,_,_,_,_,_,_,_,_,_,_,_,_,_,_,_] _
     refine g_op (v := Value.bool true) rfl rfl rfl ?_
     show G _ _ _ _ [_,_,_,_,_,_,_,_,_,_,_,_,_,_,_,_,_] _
     refine g_ops_nil ?_
     obtain rfl := Option.some.inj H
     refine g_ret Try.func35 (v := Value.bool true) (res1 rfl rfl) ?_
     have hs : St _ [] _ := St.take (Γ' := []) hs
     exact ⟨_, rfl, rfl, hs⟩
    ·
     intro hb
     rw [if_pos (b_not_f hb)] at H
     show G _ _ _ _ [_,_,_,_,_,_,_,_,_,_,_,_,_,_,_,_,_] _
     refine g_op (v := Value.bool false) rfl rfl rfl ?_
     show G _ _ _ _ [_,_,_,_,_,_,_,_,_,_,_,_,_,_,_,_,_] _
     refine g_op (v := Value.int .i16 a1) rfl rfl rfl ?_
     show G _ _ _ _ [_,_,_,_,_,_,_,_,_,_,_,_,_,_,_,_,_] _
     refine g_op (v := Value.int .i16 a2) rfl rfl rfl ?_
     show G _ _ _ _ [_,_,_,_,_,_,_,_,_,_,_,_,_,_,_,_,_] _
     refine g_op (v := Value.bool (decide (a1 < a2))) rfl rfl rfl ?_
     show G _ _ _ _ [_,_,_,_,_,_,_,_,_,_,_,_,_,_,_,_,_] _
     refine g_op (v := Value.bool (decide (a1 < a2))) rfl rfl rfl ?_
     show G _ _ _ _ [_,_,_,_,_,_,_,_,_,_,_,_,_,_,_,_,_] _
     refine g_op (v := Value.bool (decide (a1 < a2))) rfl rfl rfl ?_
     show G _ _ _ _ [_,_,_,_,_,_,_,_,_,_,_,_,_,_,_,_,_] _
     refine g_ops_nil ?_
     obtain rfl := Option.some.inj H
     refine g_ret Try.func35 (v := Value.bool (decide (a1 < a2))) (res1 rfl rfl) ?_
     have hs : St _ [] _ := St.take (Γ' := []) hs
     exact ⟨_, rfl, rfl, hs⟩
  | false =>
    rw [if_neg Bool.false_ne_true] at H
    show G _ _ _ _ [_,_,_,_,_,_,_,_,_,_,_,_,_,_,_,_,_] _
    refine g_op (v := Value.bool false) rfl rfl rfl ?_
    show G _ _ _ _ [_,_,_,_,_,_,_,_,_,_,_,_,_,_,_,_,_] _
    refine g_op_not rfl rfl ?_
    show G _ _ _ _ [_,_,_,_,_,_,_,_,_,_,_,_,_,_,_,_,_] _
    refine g_op_not rfl rfl ?_
    show G _ _ _ _ [_,_,_,_,_,_,_,_,_,_,_,_,_,_,_,_,_] _
    refine g_op_not rfl rfl ?_
    show G _ _ _ _ [_,_,_,_,_,_,_,_,_,_,_,_,_,_,_,_,_] _
    refine g_op (v := Value.bool false) rfl rfl rfl ?_
    show G _ _ _ _ [_,_,_,_,_,_,_,_,_,_,_,_,_,_,_,_,_] _
    refine g_op (v := Value.bool false) rfl rfl rfl ?_
    show G _ _ _ _ [_,_,_,_,_,_,_,_,_,_,_,_,_,_,_,_,_] _
    refine g_op (v := Value.int .i16 a1) rfl rfl rfl ?_
    show G _ _ _ _ [_,_,_,_,_,_,_,_,_,_,_,_,_,_,_,_,_] _
    refine g_op (v := Value.int .i16 a2) rfl rfl rfl ?_
    show G _ _ _ _ [_,_,_,_,_,_,_,_,_,_,_,_,_,_,_,_,_] _
    refine g_op (v := Value.bool (decide (a1 < a2))) rfl rfl rfl ?_
    show G _ _ _ _ [_,_,_,_,_,_,_,_,_,_,_,_,_,_,_,_,_] _
    refine g_op (v := Value.bool (decide (a1 < a2))) rfl rfl rfl ?_
    show G _ _ _ _ [_,_,_,_,_,_,_,_,_,_,_,_,_,_,_,_,_] _
    refine g_op (v := Value.bool (decide (a1 < a2))) rfl rfl rfl ?_
    show G _ _ _ _ [_,_,_,_,_,_,_,_,_,_,_,_,_,_,_,_,_] _
    refine g_ops_nil ?_
    obtain rfl := Option.some.inj H
    refine g_ret Try.func35 (v := Value.bool (decide (a1 < a2))) (res1 rfl rfl) ?_
    have hs : St _ [] _ := St.take (Γ' := []) hs
    exact ⟨_, rfl, rfl, hs⟩

end Go.Proofs.YtekcbhgojjdcoaaX
