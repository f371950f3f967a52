/- Contracts, printed by gen.py. -/
import Derived.Test.YtmjkeidcoonghaaDoorXT
import Derived.Test.YtmjkeidcoonghaaDoorProg
import Derived.Test.YtmjkeidcoonghaaDoorXRowR
import Derived.Test.YtmjkeidcoonghaaDoorXExt
import Derived.Test.YtmjkeidcoonghaaDoorXShelf
import Derived.Test.YtmjkeidcoonghaaDoorXStart
namespace Go.Proofs.YtmjkeidcoonghaaDoorX
open Go Go.RowKit Go.Proofs
set_option linter.unusedVariables false
set_option linter.unusedSimpArgs false
/- function 34 spec_l01Split -/
def spec_l01Split.post (w0 : World) (r : (List ByteArray)) (v : Value) (w : World) : Prop := St w0 [Row 9 K.str v r] w
set_option maxHeartbeats 8000000 in
set_option maxRecDepth 100000 in
theorem spec_l01Split.calls {N : Nat} {a1 : ByteArray} {a2 : Int} {w0 : World} {r : (List ByteArray)} (H : spec_l01Split.f N a1 a2 = some r) :
    Calls Tryd.prog 34 #[Value.string a1, Value.int .u8 a2] w0 fun e w => ∃ v, e = .returned v ∧ spec_l01Split.post w0 r v w := by
  unfold spec_l01Split.f at H
  have hs : St w0 [] w0 := St.refl w0
  refine calls_of_g (n := 33) Tryd.func34 rfl rfl ?_
  show G _ _ _ _ [_, _, _, _, _, _, _, _, _, _, _, _, _, _, _, _, _, _, _, _, _, _, _, _, _, _, _, _, _, _, _, _, _, _, _] _
  refine g_seq ?_
  refine g_region ?_
  show G _ _ _ (.inRegion _ [0] :: _) _ _
  refine g_op (v := Value.slice none 0 0) rfl rfl rfl ?_
  show G _ _ _ _ [_, _, _, _, _, _, _, _, _, _, _, _, _, _, _, _, _, _, _, _, _, _, _, _, _, _, _, _, _, _, _, _, _, _, _] _
  refine g_ops_nil ?_
  refine g_seq ?_
  refine g_region ?_
  show G _ _ _ (.inRegion _ [0, 1] :: _) _ _
  refine s_lit0 (κ := K.str) hs rfl rfl rfl rfl (fun _ => rfl) ?_
  intro v3 w hs
  show G _ _ _ _ [_, _, _, _, _, _, _, _, _, _, _, _, _, _, _, _, _, _, _, _, _, _, _, _, _, _, _, _, _, _, _, _, _, _, _] _
  refine g_op (v := v3) rfl rfl rfl ?_
  show G _ _ _ _ [_, _, _, _, _, _, _, _, _, _, _, _, _, _, _, _, _, _, _, _, _, _, _, _, _, _, _, _, _, _, _, _, _, _, _] _
  refine g_ops_nil ?_
  refine g_seq ?_
  refine g_region ?_
  show G _ _ _ (.inRegion _ [0] :: _) _ _
  refine g_op (v := Value.int .i64 0) rfl rfl rfl ?_
  show G _ _ _ _ [_, _, _, _, _, _, _, _, _, _, _, _, _, _, _, _, _, _, _, _, _, _, _, _, _, _, _, _, _, _, _, _, _, _, _] _
  refine g_ops_nil ?_
  refine g_seq ?_
  refine g_seq ?_
  refine g_region ?_
  show G _ _ _ (.inRegion _ [0] :: _) _ _
  refine g_op (v := Value.int .i64 0) rfl rfl rfl ?_
  show G _ _ _ _ [_, _, _, _, _, _, _, _, _, _, _, _, _, _, _, _, _, _, _, _, _, _, _, _, _, _, _, _, _, _, _, _, _, _, _] _
  refine g_ops_nil ?_
  obtain ⟨o1_, Ho, Hr1_⟩ := bind_get H
  refine g_block_join (J := fun t w => ∃ v18 : Value, ∃ x19 : (List ByteArray), ∃ x21 : Int, spec_l01Split.a0 N a1 x19 x21 = some r ∧ Fr t (fun O => ([Value.string a1, O 1, O 2, O 3, O 4, v18, Value.int .i64 x21, O 7, O 8, O 9, O 10, O 11, O 12, O 13, O 14, O 15, O 16, O 17, O 18, O 19, O 20, O 21, O 22, O 23, O 24, O 25, O 26, O 27, O 28, O 29, O 30, O 31, O 32, O 33, O 34] : List Value)) ∧ St w0 [Row 9 K.str v18 x19] w) ?_ ?_
  ·
   rintro t w ⟨v18, x19, x21, H, hf, hs⟩
   obtain ⟨O, rfl⟩ := hf.open
   show G _ _ _ _ [_, _, _, _, _, _, _, _, _, _, _, _, _, _, _, _, _, _, _, _, _, _, _, _, _, _, _, _, _, _, _, _, _, _, _] _
   unfold spec_l01Split.a0 at H
   refine g_seq ?_
   refine g_region ?_
   show G _ _ _ (.inRegion _ [0, 1, 2, 3, 4, 5, 6] :: _) _ _
   refine g_op (v := v18) rfl rfl rfl ?_
   refine g_op (v := Value.string a1) rfl rfl rfl ?_
   refine g_op (v := Value.int .i64 x21) rfl rfl rfl ?_
   obtain ⟨g, H⟩ := ite_get H
   refine g_op (v := Value.string (subS a1 x21 (a1.size : Int))) rfl rfl (x_sliceS rfl rfl rfl (.inr ⟨_, _, rfl, rfl⟩) (.inl ⟨rfl, rfl⟩) g.1 g.2.1 g.2.2) ?_
   show G _ _ _ _ [_, _, _, _, _, _, _, _, _, _, _, _, _, _, _, _, _, _, _, _, _, _, _, _, _, _, _, _, _, _, _, _, _, _, _] _
   refine s_lit1 fkS (y := subS a1 x21 (a1.size : Int)) hs rfl rfl rfl rfl (fun _ => rfl) (zv := (Value.string ⟨#[]⟩)) (fun _ => rfl) rfl (by decide) (by decide) rfl ?_
   intro v22 w hs
   show G _ _ _ _ [_, _, _, _, _, _, _, _, _, _, _, _, _, _, _, _, _, _, _, _, _, _, _, _, _, _, _, _, _, _, _, _, _, _, _] _
   have hs := hs.pull 1 rfl
   have hs : St _ [_, _] _ := hs
   obtain ⟨g, H⟩ := ite_get H
   refine s_append fkS (zv := (Value.string ⟨#[]⟩)) (B := 16) hs (hs.row 1 rfl) rfl rfl rfl rfl rfl rfl rfl rfl rfl (by decide) rfl rfl (by decide) (by omega) ?_
   intro v24 w hs
   show G _ _ _ _ [_, _, _, _, _, _, _, _, _, _, _, _, _, _, _, _, _, _, _, _, _, _, _, _, _, _, _, _, _, _, _, _, _, _, _] _
   refine g_op (v := v24) rfl rfl rfl ?_
   show G _ _ _ _ [_, _, _, _, _, _, _, _, _, _, _, _, _, _, _, _, _, _, _, _, _, _, _, _, _, _, _, _, _, _, _, _, _, _, _] _
   refine g_ops_nil ?_
   obtain rfl := Option.some.inj H
   refine g_ret Tryd.func34 (v := v24) (res1 rfl rfl) ?_
   have hs := hs.pull 0 rfl
   have hs : St _ [_] _ := St.take (Γ' := [_]) hs
   exact ⟨_, rfl, hs⟩
  ·
   intro ha1_
   have hs := hs.pull 0 rfl
   have hs : St _ [_] _ := St.take (Γ' := []) hs
   refine g_loop_fuel (I := fun n_ t w => ∃ v6 : Value, ∃ x7 : (List ByteArray), ∃ x8 : Int, ∃ x9 : Int, rounds (fun s => spec_l01Split.b0 N a1 a2 s.1 s.2.1 s.2.2) n_ (x7, x8, x9) = some o1_ ∧ Fr t (fun O => ([Value.string a1, Value.int .u8 a2, O 2, O 3, O 4, v6, Value.int .i64 x8, Value.int .i64 x9, O 8, O 9, O 10, O 11, O 12, O 13, O 14, O 15, O 16, O 17, O 18, O 19, O 20, O 21, O 22, O 23, O 24, O 25, O 26, O 27, O 28, O 29, O 30, O 31, O 32, O 33, O 34] : List Value)) ∧ St w0 [Row 9 K.str v6 x7] w) N ⟨v3, ([] : List ByteArray), 0, 0, Ho, rfl, hs⟩ ?_ ?_
   ·
    rintro _ _ ⟨v6, x7, x8, x9, h, _⟩
    exact rounds_zero h
   ·
    intro n_ ih1_
    rintro t w ⟨v6, x7, x8, x9, Ho, hf, hs⟩
    obtain ⟨O, rfl⟩ := hf.open
    show G _ _ _ _ [_, _, _, _, _, _, _, _, _, _, _, _, _, _, _, _, _, _, _, _, _, _, _, _, _, _, _, _, _, _, _, _, _, _, _] _
    obtain ⟨x2_, H, Hx1_⟩ := rounds_succ Ho
    have H : spec_l01Split.b0 N a1 a2 x7 x8 x9 = some x2_ := H
    unfold spec_l01Split.b0 at H
    refine g_seq ?_
    refine g_seq ?_
    refine g_region ?_
    show G _ _ _ (.inRegion _ [0, 1, 2, 3] :: _) _ _
    refine g_op (v := Value.int .i64 x9) rfl rfl rfl ?_
    refine g_op (v := Value.string a1) rfl rfl rfl ?_
    refine g_op (v := Value.int .i64 (a1.size : Int)) rfl rfl (x_lenS rfl rfl rfl) ?_
    show G _ _ _ _ [_, _, _, _, _, _, _, _, _, _, _, _, _, _, _, _, _, _, _, _, _, _, _, _, _, _, _, _, _, _, _, _, _, _, _] _
    refine g_op_b (B := decide (x9 < (a1.size : Int))) rfl rfl rfl ?_ ?_
    ·
     intro hb
     rw [if_pos (b_dec_t hb)] at H
     show G _ _ _ _ [_, _, _, _, _, _, _, _, _, _, _, _, _, _, _, _, _, _, _, _, _, _, _, _, _, _, _, _, _, _, _, _, _, _, _] _
     refine g_ops_nil ?_
     refine g_cond_true rfl ?_
     refine g_skip ?_
     refine g_seq ?_
     refine g_block_join (J := (fun t w => ∃ v14 : Value, ∃ x15 : (List ByteArray), ∃ x17 : Int, spec_l01Split.j2 N x9 x15 x17 = some x2_ ∧ Fr t (fun O => ([Value.string a1, Value.int .u8 a2, O 2, O 3, O 4, v14, Value.int .i64 x17, Value.int .i64 x9, O 8, O 9, O 10, O 11, O 12, O 13, O 14, O 15, O 16, O 17, O 18, O 19, O 20, O 21, O 22, O 23, O 24, O 25, O 26, O 27, O 28, O 29, O 30, O 31, O 32, O 33, O 34] : List Value)) ∧ St w0 [Row 9 K.str v14 x15] w)) ?_ ?_
     ·
      rintro t w ⟨v14, x15, x17, H, hf, hs⟩
      obtain ⟨O, rfl⟩ := hf.open
      show G _ _ _ _ [_, _, _, _, _, _, _, _, _, _, _, _, _, _, _, _, _, _, _, _, _, _, _, _, _, _, _, _, _, _, _, _, _, _, _] _
      unfold spec_l01Split.j2 at H
      refine g_region ?_
      show G _ _ _ (.inRegion _ [0, 1, 2] :: _) _ _
      refine g_op (v := Value.int .i64 x9) rfl rfl rfl ?_
      refine g_op (v := Value.int .i64 (i64w (x9 + 1))) rfl rfl rfl ?_
      show G _ _ _ _ [_, _, _, _, _, _, _, _, _, _, _, _, _, _, _, _, _, _, _, _, _, _, _, _, _, _, _, _, _, _, _, _, _, _, _] _
      refine g_op (v := Value.int .i64 (i64w (x9 + 1))) rfl rfl rfl ?_
      show G _ _ _ _ [_, _, _, _, _, _, _, _, _, _, _, _, _, _, _, _, _, _, _, _, _, _, _, _, _, _, _, _, _, _, _, _, _, _, _] _
      refine g_ops_nil ?_
      obtain rfl := Option.some.inj H
      have hs := hs.pull 0 rfl
      have hs : St _ [_] _ := St.take (Γ' := []) hs
      exact ih1_ _ _ ⟨v14, x15, x17, i64w (x9 + 1), Hx1_, rfl, hs⟩
     ·
      intro ha
      refine g_seq ?_
      refine g_region ?_
      show G _ _ _ (.inRegion _ [0, 1, 2, 3, 4] :: _) _ _
      refine g_op (v := Value.string a1) rfl rfl rfl ?_
      refine g_op (v := Value.int .i64 x9) rfl rfl rfl ?_
      obtain ⟨g1, H⟩ := ite_get H
      refine g_op (v := Value.int .u8 (btS a1 x9)) rfl rfl (x_indexS rfl rfl rfl rfl g1.1 g1.2) ?_
      show G _ _ _ _ [_, _, _, _, _, _, _, _, _, _, _, _, _, _, _, _, _, _, _, _, _, _, _, _, _, _, _, _, _, _, _, _, _, _, _] _
      refine g_op (v := Value.int .u8 a2) rfl rfl rfl ?_
      refine g_op_b (B := (btS a1 x9) == a2) rfl rfl rfl ?_ ?_
      ·
       intro hb
       rw [if_pos (b_beq_t hb)] at H
       show G _ _ _ _ [_, _, _, _, _, _, _, _, _, _, _, _, _, _, _, _, _, _, _, _, _, _, _, _, _, _, _, _, _, _, _, _, _, _, _] _
       refine g_ops_nil ?_
       refine g_cond_true rfl ?_
       refine g_seq ?_
       refine g_region ?_
       show G _ _ _ (.inRegion _ [0, 1, 2, 3, 4, 5, 6, 7] :: _) _ _
       refine g_op (v := v6) rfl rfl rfl ?_
       refine g_op (v := Value.string a1) rfl rfl rfl ?_
       refine g_op (v := Value.int .i64 x8) rfl rfl rfl ?_
       refine g_op (v := Value.int .i64 x9) rfl rfl rfl ?_
       obtain ⟨g, H⟩ := ite_get H
       refine g_op (v := Value.string (subS a1 x8 x9)) rfl rfl (x_sliceS rfl rfl rfl (.inr ⟨_, _, rfl, rfl⟩) (.inr ⟨_, _, rfl, rfl⟩) g.1 g.2.1 g.2.2) ?_
       show G _ _ _ _ [_, _, _, _, _, _, _, _, _, _, _, _, _, _, _, _, _, _, _, _, _, _, _, _, _, _, _, _, _, _, _, _, _, _, _] _
       refine s_lit1 fkS (y := subS a1 x8 x9) hs rfl rfl rfl rfl (fun _ => rfl) (zv := (Value.string ⟨#[]⟩)) (fun _ => rfl) rfl (by decide) (by decide) rfl ?_
       intro v10 w hs
       show G _ _ _ _ [_, _, _, _, _, _, _, _, _, _, _, _, _, _, _, _, _, _, _, _, _, _, _, _, _, _, _, _, _, _, _, _, _, _, _] _
       have hs := hs.pull 1 rfl
       have hs : St _ [_, _] _ := hs
       obtain ⟨g, H⟩ := ite_get H
       refine s_append fkS (zv := (Value.string ⟨#[]⟩)) (B := 16) hs (hs.row 1 rfl) rfl rfl rfl rfl rfl rfl rfl rfl rfl (by decide) rfl rfl (by decide) (by omega) ?_
       intro v12 w hs
       show G _ _ _ _ [_, _, _, _, _, _, _, _, _, _, _, _, _, _, _, _, _, _, _, _, _, _, _, _, _, _, _, _, _, _, _, _, _, _, _] _
       refine g_op (v := v12) rfl rfl rfl ?_
       show G _ _ _ _ [_, _, _, _, _, _, _, _, _, _, _, _, _, _, _, _, _, _, _, _, _, _, _, _, _, _, _, _, _, _, _, _, _, _, _] _
       refine g_ops_nil ?_
       refine g_region ?_
       show G _ _ _ (.inRegion _ [0, 1, 2] :: _) _ _
       refine g_op (v := Value.int .i64 x9) rfl rfl rfl ?_
       refine g_op (v := Value.int .i64 (i64w (x9 + 1))) rfl rfl rfl ?_
       show G _ _ _ _ [_, _, _, _, _, _, _, _, _, _, _, _, _, _, _, _, _, _, _, _, _, _, _, _, _, _, _, _, _, _, _, _, _, _, _] _
       refine g_op (v := Value.int .i64 (i64w (x9 + 1))) rfl rfl rfl ?_
       show G _ _ _ _ [_, _, _, _, _, _, _, _, _, _, _, _, _, _, _, _, _, _, _, _, _, _, _, _, _, _, _, _, _, _, _, _, _, _, _] _
       refine g_ops_nil ?_
       refine g_inBlock ?_
       have hs := hs.pull 0 rfl
       have hs : St _ [_] _ := St.take (Γ' := [_]) hs
       exact ha _ _ ⟨v12, x7 ++ ([subS a1 x8 x9]), i64w (x9 + 1), H, rfl, hs⟩
      ·
       intro hb
       rw [if_neg (b_beq_f hb)] at H
       show G _ _ _ _ [_, _, _, _, _, _, _, _, _, _, _, _, _, _, _, _, _, _, _, _, _, _, _, _, _, _, _, _, _, _, _, _, _, _, _] _
       refine g_ops_nil ?_
       refine g_cond_false rfl ?_
       refine g_skip ?_
       refine g_inBlock ?_
       have hs := hs.pull 0 rfl
       have hs : St _ [_] _ := St.take (Γ' := []) hs
       exact ha _ _ ⟨v6, x7, x8, H, rfl, hs⟩
    ·
     intro hb
     rw [if_neg (b_dec_f hb)] at H
     show G _ _ _ _ [_, _, _, _, _, _, _, _, _, _, _, _, _, _, _, _, _, _, _, _, _, _, _, _, _, _, _, _, _, _, _, _, _, _, _] _
     refine g_ops_nil ?_
     refine g_cond_false rfl ?_
     obtain rfl := Option.some.inj H
     subst Hx1_
     have hs := hs.pull 0 rfl
     have hs : St _ [_] _ := St.take (Γ' := []) hs
     refine g_exit rfl ?_
     exact ha1_ _ _ ⟨v6, x7, x8, Hr1_, rfl, hs⟩

/- function 50 spec_l01Number -/
def spec_l01Number.post (w0 : World) (r : (Int × Bool)) (v : Value) (w : World) : Prop := v = Value.tuple #[Value.int .i64 r.1, Value.bool r.2] ∧ St w0 [] w
set_option maxHeartbeats 8000000 in
set_option maxRecDepth 100000 in
theorem spec_l01Number.calls {N : Nat} {a1 : ByteArray} {w0 : World} {r : (Int × Bool)} (H : spec_l01Number.f N a1 = some r) :
    Calls Tryd.prog 50 #[Value.string a1] w0 fun e w => ∃ v, e = .returned v ∧ spec_l01Number.post w0 r v w := by
  unfold spec_l01Number.f at H
  have hs : St w0 [] w0 := St.refl w0
  refine calls_of_g (n := 47) Tryd.func50 rfl rfl ?_
  show G _ _ _ _ [_, _, _, _, _, _, _, _, _, _, _, _, _, _, _, _, _, _, _, _, _, _, _, _, _, _, _, _, _, _, _, _, _, _, _, _, _, _, _, _, _, _, _, _, _, _, _, _] _
  refine g_seq ?_
  refine g_region ?_
  show G _ _ _ (.inRegion _ [0, 1] :: _) _ _
  refine g_op (v := Value.int .i64 0) rfl rfl rfl ?_
  show G _ _ _ _ [_, _, _, _, _, _, _, _, _, _, _, _, _, _, _, _, _, _, _, _, _, _, _, _, _, _, _, _, _, _, _, _, _, _, _, _, _, _, _, _, _, _, _, _, _, _, _, _] _
  refine g_op (v := Value.bool false) rfl rfl rfl ?_
  show G _ _ _ _ [_, _, _, _, _, _, _, _, _, _, _, _, _, _, _, _, _, _, _, _, _, _, _, _, _, _, _, _, _, _, _, _, _, _, _, _, _, _, _, _, _, _, _, _, _, _, _, _] _
  refine g_ops_nil ?_
  refine g_seq ?_
  refine g_seq ?_
  refine g_join2 (J := (fun t w => spec_l01Number.j0 N a1 = some r ∧ Fr t (fun O => ([Value.string a1, O 1, O 2, O 3, O 4, O 5, O 6, O 7, O 8, O 9, O 10, O 11, O 12, O 13, O 14, O 15, O 16, O 17, O 18, O 19, O 20, O 21, O 22, O 23, O 24, O 25, O 26, O 27, O 28, O 29, O 30, O 31, O 32, O 33, O 34, O 35, O 36, O 37, O 38, O 39, O 40, O 41, O 42, O 43, O 44, O 45, O 46, O 47] : List Value)) ∧ St w0 [] w)) ?_ ?_
  ·
   rintro t w ⟨H, hf, hs⟩
   obtain ⟨O, rfl⟩ := hf.open
   show G _ _ _ _ [_, _, _, _, _, _, _, _, _, _, _, _, _, _, _, _, _, _, _, _, _, _, _, _, _, _, _, _, _, _, _, _, _, _, _, _, _, _, _, _, _, _, _, _, _, _, _, _] _
   unfold spec_l01Number.j0 at H
   refine g_seq ?_
   refine g_region ?_
   show G _ _ _ (.inRegion _ [0] :: _) _ _
   refine g_op (v := Value.int .i64 0) rfl rfl rfl ?_
   show G _ _ _ _ [_, _, _, _, _, _, _, _, _, _, _, _, _, _, _, _, _, _, _, _, _, _, _, _, _, _, _, _, _, _, _, _, _, _, _, _, _, _, _, _, _, _, _, _, _, _, _, _] _
   refine g_ops_nil ?_
   refine g_seq ?_
   refine g_seq ?_
   refine g_region ?_
   show G _ _ _ (.inRegion _ [0] :: _) _ _
   refine g_op (v := Value.int .i64 0) rfl rfl rfl ?_
   show G _ _ _ _ [_, _, _, _, _, _, _, _, _, _, _, _, _, _, _, _, _, _, _, _, _, _, _, _, _, _, _, _, _, _, _, _, _, _, _, _, _, _, _, _, _, _, _, _, _, _, _, _] _
   refine g_ops_nil ?_
   obtain ⟨o1_, Ho, Hr1_⟩ := bind_get H
   refine g_block_join (J := fun t w => ∃ x4 : Int, spec_l01Number.a1 N x4 = some r ∧ Fr t (fun O => ([O 0, O 1, O 2, O 3, Value.int .i64 x4, O 5, O 6, O 7, O 8, O 9, O 10, O 11, O 12, O 13, O 14, O 15, O 16, O 17, O 18, O 19, O 20, O 21, O 22, O 23, O 24, O 25, O 26, O 27, O 28, O 29, O 30, O 31, O 32, O 33, O 34, O 35, O 36, O 37, O 38, O 39, O 40, O 41, O 42, O 43, O 44, O 45, O 46, O 47] : List Value)) ∧ St w0 [] w) ?_ ?_
   ·
    rintro t w ⟨x4, H, hf, hs⟩
    obtain ⟨O, rfl⟩ := hf.open
    show G _ _ _ _ [_, _, _, _, _, _, _, _, _, _, _, _, _, _, _, _, _, _, _, _, _, _, _, _, _, _, _, _, _, _, _, _, _, _, _, _, _, _, _, _, _, _, _, _, _, _, _, _] _
    unfold spec_l01Number.a1 at H
    refine g_seq ?_
    refine g_region ?_
    show G _ _ _ (.inRegion _ [0, 1, 2] :: _) _ _
    refine g_op (v := Value.int .i64 x4) rfl rfl rfl ?_
    refine g_op (v := Value.int .i64 x4) rfl rfl rfl ?_
    show G _ _ _ _ [_, _, _, _, _, _, _, _, _, _, _, _, _, _, _, _, _, _, _, _, _, _, _, _, _, _, _, _, _, _, _, _, _, _, _, _, _, _, _, _, _, _, _, _, _, _, _, _] _
    refine g_op (v := Value.bool true) rfl rfl rfl ?_
    show G _ _ _ _ [_, _, _, _, _, _, _, _, _, _, _, _, _, _, _, _, _, _, _, _, _, _, _, _, _, _, _, _, _, _, _, _, _, _, _, _, _, _, _, _, _, _, _, _, _, _, _, _] _
    refine g_ops_nil ?_
    obtain rfl := Option.some.inj H
    refine g_ret Tryd.func50 (v := Value.tuple #[Value.int .i64 x4, Value.bool true]) (resN (l := Tryd.f50.results.toList) (vs := [Value.int .i64 x4, Value.bool true]) rfl ⟨rfl, rfl, trivial⟩ (by simp)) ?_
    have hs : St _ [] _ := St.take (Γ' := []) hs
    exact ⟨_, rfl, rfl, hs⟩
   ·
    intro ha1_
    have hs : St _ [] _ := St.take (Γ' := []) hs
    refine g_loop_fuel (I := fun n_ t w => ∃ x2 : Int, ∃ x3 : Int, rounds (fun s => spec_l01Number.b1 N a1 s.1 s.2) n_ (x2, x3) = some o1_ ∧ Fr t (fun O => ([Value.string a1, O 1, O 2, O 3, Value.int .i64 x2, Value.int .i64 x3, O 6, O 7, O 8, O 9, O 10, O 11, O 12, O 13, O 14, O 15, O 16, O 17, O 18, O 19, O 20, O 21, O 22, O 23, O 24, O 25, O 26, O 27, O 28, O 29, O 30, O 31, O 32, O 33, O 34, O 35, O 36, O 37, O 38, O 39, O 40, O 41, O 42, O 43, O 44, O 45, O 46, O 47] : List Value)) ∧ St w0 [] w) N ⟨0, 0, Ho, rfl, hs⟩ ?_ ?_
    ·
     rintro _ _ ⟨x2, x3, h, _⟩
     exact rounds_zero h
    ·
     intro n_ ih1_
     rintro t w ⟨x2, x3, Ho, hf, hs⟩
     obtain ⟨O, rfl⟩ := hf.open
     show G _ _ _ _ [_, _, _, _, _, _, _, _, _, _, _, _, _, _, _, _, _, _, _, _, _, _, _, _, _, _, _, _, _, _, _, _, _, _, _, _, _, _, _, _, _, _, _, _, _, _, _, _] _
     obtain ⟨x5_, H, Hx1_⟩ := rounds_succ Ho
     have H : spec_l01Number.b1 N a1 x2 x3 = some x5_ := H
     unfold spec_l01Number.b1 at H
     refine g_seq ?_
     refine g_seq ?_
     refine g_region ?_
     show G _ _ _ (.inRegion _ [0, 1, 2, 3] :: _) _ _
     refine g_op (v := Value.int .i64 x3) rfl rfl rfl ?_
     refine g_op (v := Value.string a1) rfl rfl rfl ?_
     refine g_op (v := Value.int .i64 (a1.size : Int)) rfl rfl (x_lenS rfl rfl rfl) ?_
     show G _ _ _ _ [_, _, _, _, _, _, _, _, _, _, _, _, _, _, _, _, _, _, _, _, _, _, _, _, _, _, _, _, _, _, _, _, _, _, _, _, _, _, _, _, _, _, _, _, _, _, _, _] _
     refine g_op_b (B := decide (x3 < (a1.size : Int))) rfl rfl rfl ?_ ?_
     ·
      intro hb
      rw [if_pos (b_dec_t hb)] at H
      show G _ _ _ _ [_, _, _, _, _, _, _, _, _, _, _, _, _, _, _, _, _, _, _, _, _, _, _, _, _, _, _, _, _, _, _, _, _, _, _, _, _, _, _, _, _, _, _, _, _, _, _, _] _
      refine g_ops_nil ?_
      refine g_cond_true rfl ?_
      refine g_skip ?_
      refine g_seq ?_
      refine g_block ?_
      refine g_seq ?_
      refine g_seq ?_
      refine g_region ?_
      show G _ _ _ (.inRegion _ [0, 1, 2, 3, 4, 5, 6, 7, 8, 9] :: _) _ _
      refine g_op (v := Value.string a1) rfl rfl rfl ?_
      refine g_op (v := Value.int .i64 x3) rfl rfl rfl ?_
      obtain ⟨g2, H⟩ := ite_get H
      refine g_op (v := Value.int .u8 (btS a1 x3)) rfl rfl (x_indexS rfl rfl rfl rfl g2.1 g2.2) ?_
      show G _ _ _ _ [_, _, _, _, _, _, _, _, _, _, _, _, _, _, _, _, _, _, _, _, _, _, _, _, _, _, _, _, _, _, _, _, _, _, _, _, _, _, _, _, _, _, _, _, _, _, _, _] _
      refine g_op_b (B := decide ((btS a1 x3) < 48)) rfl rfl rfl ?_ ?_
      ·
       intro hb
       rw [if_pos (b_dec_t hb)] at H
       show G _ _ _ _ [_, _, _, _, _, _, _, _, _, _, _, _, _, _, _, _, _, _, _, _, _, _, _, _, _, _, _, _, _, _, _, _, _, _, _, _, _, _, _, _, _, _, _, _, _, _, _, _] _
       refine g_op (v := Value.bool true) rfl rfl rfl ?_
       refine g_op_not rfl rfl ?_
       refine g_op_not rfl rfl ?_
       refine g_op_not rfl rfl ?_
       show G _ _ _ _ [_, _, _, _, _, _, _, _, _, _, _, _, _, _, _, _, _, _, _, _, _, _, _, _, _, _, _, _, _, _, _, _, _, _, _, _, _, _, _, _, _, _, _, _, _, _, _, _] _
       refine g_op_not rfl rfl ?_
       show G _ _ _ _ [_, _, _, _, _, _, _, _, _, _, _, _, _, _, _, _, _, _, _, _, _, _, _, _, _, _, _, _, _, _, _, _, _, _, _, _, _, _, _, _, _, _, _, _, _, _, _, _] _
       refine g_op (v := Value.bool true) rfl rfl rfl ?_
       show G _ _ _ _ [_, _, _, _, _, _, _, _, _, _, _, _, _, _, _, _, _, _, _, _, _, _, _, _, _, _, _, _, _, _, _, _, _, _, _, _, _, _, _, _, _, _, _, _, _, _, _, _] _
       refine g_ops_nil ?_
       refine g_cond_true rfl ?_
       refine g_seq ?_
       refine g_region ?_
       show G _ _ _ (.inRegion _ [0, 1] :: _) _ _
       refine g_op (v := Value.int .i64 0) rfl rfl rfl ?_
       show G _ _ _ _ [_, _, _, _, _, _, _, _, _, _, _, _, _, _, _, _, _, _, _, _, _, _, _, _, _, _, _, _, _, _, _, _, _, _, _, _, _, _, _, _, _, _, _, _, _, _, _, _] _
       refine g_op (v := Value.bool false) rfl rfl rfl ?_
       show G _ _ _ _ [_, _, _, _, _, _, _, _, _, _, _, _, _, _, _, _, _, _, _, _, _, _, _, _, _, _, _, _, _, _, _, _, _, _, _, _, _, _, _, _, _, _, _, _, _, _, _, _] _
       refine g_ops_nil ?_
       obtain rfl := Option.some.inj H
       subst Hx1_
       have H := Option.some.inj Hr1_
       subst H
       refine g_ret Tryd.func50 (v := Value.tuple #[Value.int .i64 0, Value.bool false]) (resN (l := Tryd.f50.results.toList) (vs := [Value.int .i64 0, Value.bool false]) rfl ⟨rfl, rfl, trivial⟩ (by simp)) ?_
       have hs : St _ [] _ := St.take (Γ' := []) hs
       exact ⟨_, rfl, rfl, hs⟩
      ·
       intro hb
       rw [if_neg (b_dec_f hb)] at H
       show G _ _ _ _ [_, _, _, _, _, _, _, _, _, _, _, _, _, _, _, _, _, _, _, _, _, _, _, _, _, _, _, _, _, _, _, _, _, _, _, _, _, _, _, _, _, _, _, _, _, _, _, _] _
       refine g_op (v := Value.bool false) rfl rfl rfl ?_
       refine g_op (v := Value.string a1) rfl rfl rfl ?_
       refine g_op (v := Value.int .i64 x3) rfl rfl rfl ?_
       obtain ⟨g3, H⟩ := ite_get H
       refine g_op (v := Value.int .u8 (btS a1 x3)) rfl rfl (x_indexS rfl rfl rfl rfl g3.1 g3.2) ?_
       show G _ _ _ _ [_, _, _, _, _, _, _, _, _, _, _, _, _, _, _, _, _, _, _, _, _, _, _, _, _, _, _, _, _, _, _, _, _, _, _, _, _, _, _, _, _, _, _, _, _, _, _, _] _
       refine g_op_b (B := decide ((btS a1 x3) > 57)) rfl rfl rfl ?_ ?_
       ·
        intro hb
        rw [if_pos (b_dec_t hb)] at H
        show G _ _ _ _ [_, _, _, _, _, _, _, _, _, _, _, _, _, _, _, _, _, _, _, _, _, _, _, _, _, _, _, _, _, _, _, _, _, _, _, _, _, _, _, _, _, _, _, _, _, _, _, _] _
        refine g_op (v := Value.bool true) rfl rfl rfl ?_
        show G _ _ _ _ [_, _, _, _, _, _, _, _, _, _, _, _, _, _, _, _, _, _, _, _, _, _, _, _, _, _, _, _, _, _, _, _, _, _, _, _, _, _, _, _, _, _, _, _, _, _, _, _] _
        refine g_ops_nil ?_
        refine g_cond_true rfl ?_
        refine g_seq ?_
        refine g_region ?_
        show G _ _ _ (.inRegion _ [0, 1] :: _) _ _
        refine g_op (v := Value.int .i64 0) rfl rfl rfl ?_
        show G _ _ _ _ [_, _, _, _, _, _, _, _, _, _, _, _, _, _, _, _, _, _, _, _, _, _, _, _, _, _, _, _, _, _, _, _, _, _, _, _, _, _, _, _, _, _, _, _, _, _, _, _] _
        refine g_op (v := Value.bool false) rfl rfl rfl ?_
        show G _ _ _ _ [_, _, _, _, _, _, _, _, _, _, _, _, _, _, _, _, _, _, _, _, _, _, _, _, _, _, _, _, _, _, _, _, _, _, _, _, _, _, _, _, _, _, _, _, _, _, _, _] _
        refine g_ops_nil ?_
        obtain rfl := Option.some.inj H
        subst Hx1_
        have H := Option.some.inj Hr1_
        subst H
        refine g_ret Tryd.func50 (v := Value.tuple #[Value.int .i64 0, Value.bool false]) (resN (l := Tryd.f50.results.toList) (vs := [Value.int .i64 0, Value.bool false]) rfl ⟨rfl, rfl, trivial⟩ (by simp)) ?_
        have hs : St _ [] _ := St.take (Γ' := []) hs
        exact ⟨_, rfl, rfl, hs⟩
       ·
        intro hb
        rw [if_neg (b_dec_f hb)] at H
        show G _ _ _ _ [_, _, _, _, _, _, _, _, _, _, _, _, _, _, _, _, _, _, _, _, _, _, _, _, _, _, _, _, _, _, _, _, _, _, _, _, _, _, _, _, _, _, _, _, _, _, _, _] _
        refine g_op (v := Value.bool false) rfl rfl rfl ?_
        show G _ _ _ _ [_, _, _, _, _, _, _, _, _, _, _, _, _, _, _, _, _, _, _, _, _, _, _, _, _, _, _, _, _, _, _, _, _, _, _, _, _, _, _, _, _, _, _, _, _, _, _, _] _
        refine g_ops_nil ?_
        refine g_cond_false rfl ?_
        refine g_skip ?_
        refine g_region ?_
        show G _ _ _ (.inRegion _ [0, 1, 2, 3, 4, 5, 6, 7, 8] :: _) _ _
        refine g_op (v := Value.int .i64 x2) rfl rfl rfl ?_
        refine g_op (v := Value.int .i64 (i64w (10 * x2))) rfl rfl rfl ?_
        show G _ _ _ _ [_, _, _, _, _, _, _, _, _, _, _, _, _, _, _, _, _, _, _, _, _, _, _, _, _, _, _, _, _, _, _, _, _, _, _, _, _, _, _, _, _, _, _, _, _, _, _, _] _
        refine g_op (v := Value.string a1) rfl rfl rfl ?_
        refine g_op (v := Value.int .i64 x3) rfl rfl rfl ?_
        obtain ⟨g4, H⟩ := ite_get H
        refine g_op (v := Value.int .u8 (btS a1 x3)) rfl rfl (x_indexS rfl rfl rfl rfl g4.1 g4.2) ?_
        show G _ _ _ _ [_, _, _, _, _, _, _, _, _, _, _, _, _, _, _, _, _, _, _, _, _, _, _, _, _, _, _, _, _, _, _, _, _, _, _, _, _, _, _, _, _, _, _, _, _, _, _, _] _
        refine g_op (v := Value.int .u8 (u8w ((btS a1 x3) - 48))) rfl rfl rfl ?_
        show G _ _ _ _ [_, _, _, _, _, _, _, _, _, _, _, _, _, _, _, _, _, _, _, _, _, _, _, _, _, _, _, _, _, _, _, _, _, _, _, _, _, _, _, _, _, _, _, _, _, _, _, _] _
        refine g_op (v := Value.int .i64 (i64w (u8w ((btS a1 x3) - 48)))) rfl rfl rfl ?_
        refine g_op (v := Value.int .i64 (i64w ((i64w (10 * x2)) + (i64w (u8w ((btS a1 x3) - 48)))))) rfl rfl rfl ?_
        show G _ _ _ _ [_, _, _, _, _, _, _, _, _, _, _, _, _, _, _, _, _, _, _, _, _, _, _, _, _, _, _, _, _, _, _, _, _, _, _, _, _, _, _, _, _, _, _, _, _, _, _, _] _
        refine g_op (v := Value.int .i64 (i64w ((i64w (10 * x2)) + (i64w (u8w ((btS a1 x3) - 48)))))) rfl rfl rfl ?_
        show G _ _ _ _ [_, _, _, _, _, _, _, _, _, _, _, _, _, _, _, _, _, _, _, _, _, _, _, _, _, _, _, _, _, _, _, _, _, _, _, _, _, _, _, _, _, _, _, _, _, _, _, _] _
        refine g_ops_nil ?_
        refine g_inBlock ?_
        refine g_region ?_
        show G _ _ _ (.inRegion _ [0, 1, 2] :: _) _ _
        refine g_op (v := Value.int .i64 x3) rfl rfl rfl ?_
        refine g_op (v := Value.int .i64 (i64w (x3 + 1))) rfl rfl rfl ?_
        show G _ _ _ _ [_, _, _, _, _, _, _, _, _, _, _, _, _, _, _, _, _, _, _, _, _, _, _, _, _, _, _, _, _, _, _, _, _, _, _, _, _, _, _, _, _, _, _, _, _, _, _, _] _
        refine g_op (v := Value.int .i64 (i64w (x3 + 1))) rfl rfl rfl ?_
        show G _ _ _ _ [_, _, _, _, _, _, _, _, _, _, _, _, _, _, _, _, _, _, _, _, _, _, _, _, _, _, _, _, _, _, _, _, _, _, _, _, _, _, _, _, _, _, _, _, _, _, _, _] _
        refine g_ops_nil ?_
        obtain rfl := Option.some.inj H
        have hs : St _ [] _ := St.take (Γ' := []) hs
        exact ih1_ _ _ ⟨i64w ((i64w (10 * x2)) + (i64w (u8w ((btS a1 x3) - 48)))), i64w (x3 + 1), Hx1_, rfl, hs⟩
     ·
      intro hb
      rw [if_neg (b_dec_f hb)] at H
      show G _ _ _ _ [_, _, _, _, _, _, _, _, _, _, _, _, _, _, _, _, _, _, _, _, _, _, _, _, _, _, _, _, _, _, _, _, _, _, _, _, _, _, _, _, _, _, _, _, _, _, _, _] _
      refine g_ops_nil ?_
      refine g_cond_false rfl ?_
      obtain rfl := Option.some.inj H
      subst Hx1_
      have hs : St _ [] _ := St.take (Γ' := []) hs
      refine g_exit rfl ?_
      exact ha1_ _ _ ⟨x2, Hr1_, rfl, hs⟩
  ·
   intro ha
   refine g_region ?_
   show G _ _ _ (.inRegion _ [0, 1, 2, 3, 4, 5, 6, 7, 8, 9, 10, 11, 12, 13, 14, 15, 16] :: _) _ _
   refine g_op (v := Value.string a1) rfl rfl rfl ?_
   refine g_op_b (B := a1.toList == (⟨#[]⟩ : ByteArray).toList) rfl rfl rfl ?_ ?_
   ·
    intro hb
    rw [if_pos (b_beq_t hb)] at H
    show G _ _ _ _ [_, _, _, _, _, _, _, _, _, _, _, _, _, _, _, _, _, _, _, _, _, _, _, _, _, _, _, _, _, _, _, _, _, _, _, _, _, _, _, _, _, _, _, _, _, _, _, _] _
    refine g_op (v := Value.bool true) rfl rfl rfl ?_
    refine g_op_not rfl rfl ?_
    refine g_op_not rfl rfl ?_
    show G _ _ _ _ [_, _, _, _, _, _, _, _, _, _, _, _, _, _, _, _, _, _, _, _, _, _, _, _, _, _, _, _, _, _, _, _, _, _, _, _, _, _, _, _, _, _, _, _, _, _, _, _] _
    refine g_op_not rfl rfl ?_
    show G _ _ _ _ [_, _, _, _, _, _, _, _, _, _, _, _, _, _, _, _, _, _, _, _, _, _, _, _, _, _, _, _, _, _, _, _, _, _, _, _, _, _, _, _, _, _, _, _, _, _, _, _] _
    refine g_op (v := Value.bool true) rfl rfl rfl ?_
    show G _ _ _ _ [_, _, _, _, _, _, _, _, _, _, _, _, _, _, _, _, _, _, _, _, _, _, _, _, _, _, _, _, _, _, _, _, _, _, _, _, _, _, _, _, _, _, _, _, _, _, _, _] _
    refine g_op (v := Value.bool true) rfl rfl rfl ?_
    refine g_op_not rfl rfl ?_
    refine g_op_not rfl rfl ?_
    show G _ _ _ _ [_, _, _, _, _, _, _, _, _, _, _, _, _, _, _, _, _, _, _, _, _, _, _, _, _, _, _, _, _, _, _, _, _, _, _, _, _, _, _, _, _, _, _, _, _, _, _, _] _
    refine g_op_not rfl rfl ?_
    show G _ _ _ _ [_, _, _, _, _, _, _, _, _, _, _, _, _, _, _, _, _, _, _, _, _, _, _, _, _, _, _, _, _, _, _, _, _, _, _, _, _, _, _, _, _, _, _, _, _, _, _, _] _
    refine g_op_not rfl rfl ?_
    refine g_op_not rfl rfl ?_
    refine g_op_not rfl rfl ?_
    show G _ _ _ _ [_, _, _, _, _, _, _, _, _, _, _, _, _, _, _, _, _, _, _, _, _, _, _, _, _, _, _, _, _, _, _, _, _, _, _, _, _, _, _, _, _, _, _, _, _, _, _, _] _
    refine g_op_not rfl rfl ?_
    show G _ _ _ _ [_, _, _, _, _, _, _, _, _, _, _, _, _, _, _, _, _, _, _, _, _, _, _, _, _, _, _, _, _, _, _, _, _, _, _, _, _, _, _, _, _, _, _, _, _, _, _, _] _
    refine g_op_not rfl rfl ?_
    show G _ _ _ _ [_, _, _, _, _, _, _, _, _, _, _, _, _, _, _, _, _, _, _, _, _, _, _, _, _, _, _, _, _, _, _, _, _, _, _, _, _, _, _, _, _, _, _, _, _, _, _, _] _
    refine g_op (v := Value.bool true) rfl rfl rfl ?_
    show G _ _ _ _ [_, _, _, _, _, _, _, _, _, _, _, _, _, _, _, _, _, _, _, _, _, _, _, _, _, _, _, _, _, _, _, _, _, _, _, _, _, _, _, _, _, _, _, _, _, _, _, _] _
    refine g_ops_nil ?_
    refine g_cond_true rfl ?_
    refine g_seq ?_
    refine g_region ?_
    show G _ _ _ (.inRegion _ [0, 1] :: _) _ _
    refine g_op (v := Value.int .i64 0) rfl rfl rfl ?_
    show G _ _ _ _ [_, _, _, _, _, _, _, _, _, _, _, _, _, _, _, _, _, _, _, _, _, _, _, _, _, _, _, _, _, _, _, _, _, _, _, _, _, _, _, _, _, _, _, _, _, _, _, _] _
    refine g_op (v := Value.bool false) rfl rfl rfl ?_
    show G _ _ _ _ [_, _, _, _, _, _, _, _, _, _, _, _, _, _, _, _, _, _, _, _, _, _, _, _, _, _, _, _, _, _, _, _, _, _, _, _, _, _, _, _, _, _, _, _, _, _, _, _] _
    refine g_ops_nil ?_
    obtain rfl := Option.some.inj H
    refine g_ret Tryd.func50 (v := Value.tuple #[Value.int .i64 0, Value.bool false]) (resN (l := Tryd.f50.results.toList) (vs := [Value.int .i64 0, Value.bool false]) rfl ⟨rfl, rfl, trivial⟩ (by simp)) ?_
    have hs : St _ [] _ := St.take (Γ' := []) hs
    exact ⟨_, rfl, rfl, hs⟩
   ·
    intro hb
    rw [if_neg (b_beq_f hb)] at H
    show G _ _ _ _ [_, _, _, _, _, _, _, _, _, _, _, _, _, _, _, _, _, _, _, _, _, _, _, _, _, _, _, _, _, _, _, _, _, _, _, _, _, _, _, _, _, _, _, _, _, _, _, _] _
    refine g_op (v := Value.bool false) rfl rfl rfl ?_
    refine g_op (v := Value.string a1) rfl rfl rfl ?_
    refine g_op (v := Value.int .i64 (a1.size : Int)) rfl rfl (x_lenS rfl rfl rfl) ?_
    show G _ _ _ _ [_, _, _, _, _, _, _, _, _, _, _, _, _, _, _, _, _, _, _, _, _, _, _, _, _, _, _, _, _, _, _, _, _, _, _, _, _, _, _, _, _, _, _, _, _, _, _, _] _
    refine g_op (v := Value.bool (decide ((a1.size : Int) > 10))) rfl rfl rfl ?_
    show G _ _ _ _ [_, _, _, _, _, _, _, _, _, _, _, _, _, _, _, _, _, _, _, _, _, _, _, _, _, _, _, _, _, _, _, _, _, _, _, _, _, _, _, _, _, _, _, _, _, _, _, _] _
    refine g_op_b (B := decide ((a1.size : Int) > 10)) rfl rfl rfl ?_ ?_
    ·
     intro hb
     rw [if_pos (b_dec_t hb)] at H
     show G _ _ _ _ [_, _, _, _, _, _, _, _, _, _, _, _, _, _, _, _, _, _, _, _, _, _, _, _, _, _, _, _, _, _, _, _, _, _, _, _, _, _, _, _, _, _, _, _, _, _, _, _] _
     refine g_op (v := Value.bool true) rfl rfl rfl ?_
     refine g_op_not rfl rfl ?_
     refine g_op_not rfl rfl ?_
     show G _ _ _ _ [_, _, _, _, _, _, _, _, _, _, _, _, _, _, _, _, _, _, _, _, _, _, _, _, _, _, _, _, _, _, _, _, _, _, _, _, _, _, _, _, _, _, _, _, _, _, _, _] _
     refine g_op_not rfl rfl ?_
     show G _ _ _ _ [_, _, _, _, _, _, _, _, _, _, _, _, _, _, _, _, _, _, _, _, _, _, _, _, _, _, _, _, _, _, _, _, _, _, _, _, _, _, _, _, _, _, _, _, _, _, _, _] _
     refine g_op_not rfl rfl ?_
     refine g_op_not rfl rfl ?_
     refine g_op_not rfl rfl ?_
     show G _ _ _ _ [_, _, _, _, _, _, _, _, _, _, _, _, _, _, _, _, _, _, _, _, _, _, _, _, _, _, _, _, _, _, _, _, _, _, _, _, _, _, _, _, _, _, _, _, _, _, _, _] _
     refine g_op_not rfl rfl ?_
     show G _ _ _ _ [_, _, _, _, _, _, _, _, _, _, _, _, _, _, _, _, _, _, _, _, _, _, _, _, _, _, _, _, _, _, _, _, _, _, _, _, _, _, _, _, _, _, _, _, _, _, _, _] _
     refine g_op_not rfl rfl ?_
     show G _ _ _ _ [_, _, _, _, _, _, _, _, _, _, _, _, _, _, _, _, _, _, _, _, _, _, _, _, _, _, _, _, _, _, _, _, _, _, _, _, _, _, _, _, _, _, _, _, _, _, _, _] _
     refine g_op (v := Value.bool true) rfl rfl rfl ?_
     show G _ _ _ _ [_, _, _, _, _, _, _, _, _, _, _, _, _, _, _, _, _, _, _, _, _, _, _, _, _, _, _, _, _, _, _, _, _, _, _, _, _, _, _, _, _, _, _, _, _, _, _, _] _
     refine g_ops_nil ?_
     refine g_cond_true rfl ?_
     refine g_seq ?_
     refine g_region ?_
     show G _ _ _ (.inRegion _ [0, 1] :: _) _ _
     refine g_op (v := Value.int .i64 0) rfl rfl rfl ?_
     show G _ _ _ _ [_, _, _, _, _, _, _, _, _, _, _, _, _, _, _, _, _, _, _, _, _, _, _, _, _, _, _, _, _, _, _, _, _, _, _, _, _, _, _, _, _, _, _, _, _, _, _, _] _
     refine g_op (v := Value.bool false) rfl rfl rfl ?_
     show G _ _ _ _ [_, _, _, _, _, _, _, _, _, _, _, _, _, _, _, _, _, _, _, _, _, _, _, _, _, _, _, _, _, _, _, _, _, _, _, _, _, _, _, _, _, _, _, _, _, _, _, _] _
     refine g_ops_nil ?_
     obtain rfl := Option.some.inj H
     refine g_ret Tryd.func50 (v := Value.tuple #[Value.int .i64 0, Value.bool false]) (resN (l := Tryd.f50.results.toList) (vs := [Value.int .i64 0, Value.bool false]) rfl ⟨rfl, rfl, trivial⟩ (by simp)) ?_
     have hs : St _ [] _ := St.take (Γ' := []) hs
     exact ⟨_, rfl, rfl, hs⟩
    ·
     intro hb
     rw [if_neg (b_dec_f hb)] at H
     show G _ _ _ _ [_, _, _, _, _, _, _, _, _, _, _, _, _, _, _, _, _, _, _, _, _, _, _, _, _, _, _, _, _, _, _, _, _, _, _, _, _, _, _, _, _, _, _, _, _, _, _, _] _
     refine g_op (v := Value.bool false) rfl rfl rfl ?_
     refine g_op (v := Value.string a1) rfl rfl rfl ?_
     obtain ⟨g1, H⟩ := ite_get H
     refine g_op (v := Value.int .u8 (btS a1 0)) rfl rfl (x_indexS rfl rfl rfl rfl g1.1 g1.2) ?_
     show G _ _ _ _ [_, _, _, _, _, _, _, _, _, _, _, _, _, _, _, _, _, _, _, _, _, _, _, _, _, _, _, _, _, _, _, _, _, _, _, _, _, _, _, _, _, _, _, _, _, _, _, _] _
     refine g_op_b (B := (btS a1 0) == 48) rfl rfl rfl ?_ ?_
     ·
      intro hb
      rw [if_pos (b_beq_t hb)] at H
      show G _ _ _ _ [_, _, _, _, _, _, _, _, _, _, _, _, _, _, _, _, _, _, _, _, _, _, _, _, _, _, _, _, _, _, _, _, _, _, _, _, _, _, _, _, _, _, _, _, _, _, _, _] _
      refine g_op (v := Value.bool true) rfl rfl rfl ?_
      refine g_op (v := Value.string a1) rfl rfl rfl ?_
      refine g_op (v := Value.int .i64 (a1.size : Int)) rfl rfl (x_lenS rfl rfl rfl) ?_
      show G _ _ _ _ [_, _, _, _, _, _, _, _, _, _, _, _, _, _, _, _, _, _, _, _, _, _, _, _, _, _, _, _, _, _, _, _, _, _, _, _, _, _, _, _, _, _, _, _, _, _, _, _] _
      refine g_op (v := Value.bool (decide ((a1.size : Int) > 1))) rfl rfl rfl ?_
      show G _ _ _ _ [_, _, _, _, _, _, _, _, _, _, _, _, _, _, _, _, _, _, _, _, _, _, _, _, _, _, _, _, _, _, _, _, _, _, _, _, _, _, _, _, _, _, _, _, _, _, _, _] _
      refine g_op_b (B := decide ((a1.size : Int) > 1)) rfl rfl rfl ?_ ?_
      ·
       intro hb
       rw [if_pos (b_dec_t hb)] at H
       show G _ _ _ _ [_, _, _, _, _, _, _, _, _, _, _, _, _, _, _, _, _, _, _, _, _, _, _, _, _, _, _, _, _, _, _, _, _, _, _, _, _, _, _, _, _, _, _, _, _, _, _, _] _
       refine g_op (v := Value.bool true) rfl rfl rfl ?_
       show G _ _ _ _ [_, _, _, _, _, _, _, _, _, _, _, _, _, _, _, _, _, _, _, _, _, _, _, _, _, _, _, _, _, _, _, _, _, _, _, _, _, _, _, _, _, _, _, _, _, _, _, _] _
       refine g_ops_nil ?_
       refine g_cond_true rfl ?_
       refine g_seq ?_
       refine g_region ?_
       show G _ _ _ (.inRegion _ [0, 1] :: _) _ _
       refine g_op (v := Value.int .i64 0) rfl rfl rfl ?_
       show G _ _ _ _ [_, _, _, _, _, _, _, _, _, _, _, _, _, _, _, _, _, _, _, _, _, _, _, _, _, _, _, _, _, _, _, _, _, _, _, _, _, _, _, _, _, _, _, _, _, _, _, _] _
       refine g_op (v := Value.bool false) rfl rfl rfl ?_
       show G _ _ _ _ [_, _, _, _, _, _, _, _, _, _, _, _, _, _, _, _, _, _, _, _, _, _, _, _, _, _, _, _, _, _, _, _, _, _, _, _, _, _, _, _, _, _, _, _, _, _, _, _] _
       refine g_ops_nil ?_
       obtain rfl := Option.some.inj H
       refine g_ret Tryd.func50 (v := Value.tuple #[Value.int .i64 0, Value.bool false]) (resN (l := Tryd.f50.results.toList) (vs := [Value.int .i64 0, Value.bool false]) rfl ⟨rfl, rfl, trivial⟩ (by simp)) ?_
       have hs : St _ [] _ := St.take (Γ' := []) hs
       exact ⟨_, rfl, rfl, hs⟩
      ·
       intro hb
       rw [if_neg (b_dec_f hb)] at H
       show G _ _ _ _ [_, _, _, _, _, _, _, _, _, _, _, _, _, _, _, _, _, _, _, _, _, _, _, _, _, _, _, _, _, _, _, _, _, _, _, _, _, _, _, _, _, _, _, _, _, _, _, _] _
       refine g_op (v := Value.bool false) rfl rfl rfl ?_
       show G _ _ _ _ [_, _, _, _, _, _, _, _, _, _, _, _, _, _, _, _, _, _, _, _, _, _, _, _, _, _, _, _, _, _, _, _, _, _, _, _, _, _, _, _, _, _, _, _, _, _, _, _] _
       refine g_ops_nil ?_
       refine g_cond_false rfl ?_
       refine g_skip ?_
       have hs : St _ [] _ := St.take (Γ' := []) hs
       exact ha _ _ ⟨H, rfl, hs⟩
     ·
      intro hb
      rw [if_neg (b_beq_f hb)] at H
      show G _ _ _ _ [_, _, _, _, _, _, _, _, _, _, _, _, _, _, _, _, _, _, _, _, _, _, _, _, _, _, _, _, _, _, _, _, _, _, _, _, _, _, _, _, _, _, _, _, _, _, _, _] _
      refine g_op (v := Value.bool false) rfl rfl rfl ?_
      refine g_op_not rfl rfl ?_
      refine g_op_not rfl rfl ?_
      show G _ _ _ _ [_, _, _, _, _, _, _, _, _, _, _, _, _, _, _, _, _, _, _, _, _, _, _, _, _, _, _, _, _, _, _, _, _, _, _, _, _, _, _, _, _, _, _, _, _, _, _, _] _
      refine g_op_not rfl rfl ?_
      show G _ _ _ _ [_, _, _, _, _, _, _, _, _, _, _, _, _, _, _, _, _, _, _, _, _, _, _, _, _, _, _, _, _, _, _, _, _, _, _, _, _, _, _, _, _, _, _, _, _, _, _, _] _
      refine g_op (v := Value.bool false) rfl rfl rfl ?_
      show G _ _ _ _ [_, _, _, _, _, _, _, _, _, _, _, _, _, _, _, _, _, _, _, _, _, _, _, _, _, _, _, _, _, _, _, _, _, _, _, _, _, _, _, _, _, _, _, _, _, _, _, _] _
      refine g_op (v := Value.bool false) rfl rfl rfl ?_
      show G _ _ _ _ [_, _, _, _, _, _, _, _, _, _, _, _, _, _, _, _, _, _, _, _, _, _, _, _, _, _, _, _, _, _, _, _, _, _, _, _, _, _, _, _, _, _, _, _, _, _, _, _] _
      refine g_ops_nil ?_
      refine g_cond_false rfl ?_
      refine g_skip ?_
      have hs : St _ [] _ := St.take (Γ' := []) hs
      exact ha _ _ ⟨H, rfl, hs⟩

/- function 63 spec_l05Text -/
def spec_l05Text.post (w0 : World) (r : ByteArray) (v : Value) (w : World) : Prop := v = Value.string r ∧ St w0 [] w
set_option maxHeartbeats 8000000 in
set_option maxRecDepth 100000 in
theorem spec_l05Text.calls {N : Nat} {a1 : Int} {w0 : World} {r : ByteArray} (H : spec_l05Text.f N a1 = some r) :
    Calls Tryd.prog 63 #[Value.int .u16 a1] w0 fun e w => ∃ v, e = .returned v ∧ spec_l05Text.post w0 r v w := by
  unfold spec_l05Text.f at H
  have hs : St w0 [] w0 := St.refl w0
  refine calls_of_g (n := 24) Tryd.func63 rfl rfl ?_
  show G _ _ _ _ [_, _, _, _, _, _, _, _, _, _, _, _, _, _, _, _, _, _, _, _, _, _, _, _, _] _
  refine g_seq ?_
  refine g_region ?_
  show G _ _ _ (.inRegion _ [0] :: _) _ _
  refine g_op (v := Value.string (⟨#[]⟩ : ByteArray)) rfl rfl rfl ?_
  show G _ _ _ _ [_, _, _, _, _, _, _, _, _, _, _, _, _, _, _, _, _, _, _, _, _, _, _, _, _] _
  refine g_ops_nil ?_
  refine g_seq ?_
  refine g_seq ?_
  refine g_region ?_
  show G _ _ _ (.inRegion _ [0, 1] :: _) _ _
  refine g_op (v := Value.int .u16 a1) rfl rfl rfl ?_
  show G _ _ _ _ [_, _, _, _, _, _, _, _, _, _, _, _, _, _, _, _, _, _, _, _, _, _, _, _, _] _
  refine g_op_b (B := a1 == 0) rfl rfl rfl ?_ ?_
  ·
   intro hb
   rw [if_pos (b_beq_t hb)] at H
   show G _ _ _ _ [_, _, _, _, _, _, _, _, _, _, _, _, _, _, _, _, _, _, _, _, _, _, _, _, _] _
   refine g_ops_nil ?_
   refine g_cond_true rfl ?_
   refine g_seq ?_
   refine g_region ?_
   show G _ _ _ (.inRegion _ [0] :: _) _ _
   refine g_op (v := Value.string (⟨#[45]⟩ : ByteArray)) rfl rfl rfl ?_
   show G _ _ _ _ [_, _, _, _, _, _, _, _, _, _, _, _, _, _, _, _, _, _, _, _, _, _, _, _, _] _
   refine g_ops_nil ?_
   obtain rfl := Option.some.inj H
   refine g_ret Tryd.func63 (v := Value.string (⟨#[45]⟩ : ByteArray)) (res1 rfl rfl) ?_
   have hs : St _ [] _ := St.take (Γ' := []) hs
   exact ⟨_, rfl, rfl, hs⟩
  ·
   intro hb
   rw [if_neg (b_beq_f hb)] at H
   show G _ _ _ _ [_, _, _, _, _, _, _, _, _, _, _, _, _, _, _, _, _, _, _, _, _, _, _, _, _] _
   refine g_ops_nil ?_
   refine g_cond_false rfl ?_
   refine g_skip ?_
   refine g_seq ?_
   refine g_region ?_
   show G _ _ _ (.inRegion _ [0] :: _) _ _
   refine g_op (v := Value.string (⟨#[]⟩ : ByteArray)) rfl rfl rfl ?_
   show G _ _ _ _ [_, _, _, _, _, _, _, _, _, _, _, _, _, _, _, _, _, _, _, _, _, _, _, _, _] _
   refine g_ops_nil ?_
   refine g_seq ?_
   refine g_seq ?_
   refine g_region ?_
   show G _ _ _ (.inRegion _ [0] :: _) _ _
   refine g_op (v := Value.int .i64 0) rfl rfl rfl ?_
   show G _ _ _ _ [_, _, _, _, _, _, _, _, _, _, _, _, _, _, _, _, _, _, _, _, _, _, _, _, _] _
   refine g_ops_nil ?_
   obtain ⟨o1_, Ho, Hr1_⟩ := bind_get H
   refine g_block_join (J := fun t w => ∃ x7 : ByteArray, spec_l05Text.a0 N x7 = some r ∧ Fr t (fun O => ([O 0, O 1, O 2, Value.string x7, O 4, O 5, O 6, O 7, O 8, O 9, O 10, O 11, O 12, O 13, O 14, O 15, O 16, O 17, O 18, O 19, O 20, O 21, O 22, O 23, O 24] : List Value)) ∧ St w0 [] w) ?_ ?_
   ·
    rintro t w ⟨x7, H, hf, hs⟩
    obtain ⟨O, rfl⟩ := hf.open
    show G _ _ _ _ [_, _, _, _, _, _, _, _, _, _, _, _, _, _, _, _, _, _, _, _, _, _, _, _, _] _
    unfold spec_l05Text.a0 at H
    refine g_seq ?_
    refine g_region ?_
    show G _ _ _ (.inRegion _ [0, 1] :: _) _ _
    refine g_op (v := Value.string x7) rfl rfl rfl ?_
    show G _ _ _ _ [_, _, _, _, _, _, _, _, _, _, _, _, _, _, _, _, _, _, _, _, _, _, _, _, _] _
    refine g_op (v := Value.string x7) rfl rfl rfl ?_
    show G _ _ _ _ [_, _, _, _, _, _, _, _, _, _, _, _, _, _, _, _, _, _, _, _, _, _, _, _, _] _
    refine g_ops_nil ?_
    obtain rfl := Option.some.inj H
    refine g_ret Tryd.func63 (v := Value.string x7) (res1 rfl rfl) ?_
    have hs : St _ [] _ := St.take (Γ' := []) hs
    exact ⟨_, rfl, rfl, hs⟩
   ·
    intro ha1_
    have hs : St _ [] _ := St.take (Γ' := []) hs
    refine g_loop_fuel (I := fun n_ t w => ∃ x2 : ByteArray, ∃ x3 : Int, rounds (fun s => spec_l05Text.b0 N a1 s.1 s.2) n_ (x2, x3) = some o1_ ∧ Fr t (fun O => ([Value.int .u16 a1, O 1, O 2, Value.string x2, Value.int .i64 x3, O 5, O 6, O 7, O 8, O 9, O 10, O 11, O 12, O 13, O 14, O 15, O 16, O 17, O 18, O 19, O 20, O 21, O 22, O 23, O 24] : List Value)) ∧ St w0 [] w) N ⟨(⟨#[]⟩ : ByteArray), 0, Ho, rfl, hs⟩ ?_ ?_
    ·
     rintro _ _ ⟨x2, x3, h, _⟩
     exact rounds_zero h
    ·
     intro n_ ih1_
     rintro t w ⟨x2, x3, Ho, hf, hs⟩
     obtain ⟨O, rfl⟩ := hf.open
     show G _ _ _ _ [_, _, _, _, _, _, _, _, _, _, _, _, _, _, _, _, _, _, _, _, _, _, _, _, _] _
     obtain ⟨x3_, H, Hx1_⟩ := rounds_succ Ho
     have H : spec_l05Text.b0 N a1 x2 x3 = some x3_ := H
     unfold spec_l05Text.b0 at H
     refine g_seq ?_
     refine g_seq ?_
     refine g_region ?_
     show G _ _ _ (.inRegion _ [0, 1] :: _) _ _
     refine g_op (v := Value.int .i64 x3) rfl rfl rfl ?_
     show G _ _ _ _ [_, _, _, _, _, _, _, _, _, _, _, _, _, _, _, _, _, _, _, _, _, _, _, _, _] _
     refine g_op_b (B := decide (x3 < 8)) rfl rfl rfl ?_ ?_
     ·
      intro hb
      rw [if_pos (b_dec_t hb)] at H
      show G _ _ _ _ [_, _, _, _, _, _, _, _, _, _, _, _, _, _, _, _, _, _, _, _, _, _, _, _, _] _
      refine g_ops_nil ?_
      refine g_cond_true rfl ?_
      refine g_skip ?_
      refine g_seq ?_
      refine g_block_join (J := (fun t w => ∃ x6 : ByteArray, spec_l05Text.j2 N x3 x6 = some x3_ ∧ Fr t (fun O => ([Value.int .u16 a1, O 1, O 2, Value.string x6, Value.int .i64 x3, O 5, O 6, O 7, O 8, O 9, O 10, O 11, O 12, O 13, O 14, O 15, O 16, O 17, O 18, O 19, O 20, O 21, O 22, O 23, O 24] : List Value)) ∧ St w0 [] w)) ?_ ?_
      ·
       rintro t w ⟨x6, H, hf, hs⟩
       obtain ⟨O, rfl⟩ := hf.open
       show G _ _ _ _ [_, _, _, _, _, _, _, _, _, _, _, _, _, _, _, _, _, _, _, _, _, _, _, _, _] _
       unfold spec_l05Text.j2 at H
       refine g_region ?_
       show G _ _ _ (.inRegion _ [0, 1, 2] :: _) _ _
       refine g_op (v := Value.int .i64 x3) rfl rfl rfl ?_
       show G _ _ _ _ [_, _, _, _, _, _, _, _, _, _, _, _, _, _, _, _, _, _, _, _, _, _, _, _, _] _
       refine g_op (v := Value.int .i64 (i64w (x3 + 1))) rfl rfl rfl ?_
       show G _ _ _ _ [_, _, _, _, _, _, _, _, _, _, _, _, _, _, _, _, _, _, _, _, _, _, _, _, _] _
       refine g_op (v := Value.int .i64 (i64w (x3 + 1))) rfl rfl rfl ?_
       show G _ _ _ _ [_, _, _, _, _, _, _, _, _, _, _, _, _, _, _, _, _, _, _, _, _, _, _, _, _] _
       refine g_ops_nil ?_
       obtain rfl := Option.some.inj H
       have hs : St _ [] _ := St.take (Γ' := []) hs
       exact ih1_ _ _ ⟨x6, i64w (x3 + 1), Hx1_, rfl, hs⟩
      ·
       intro ha
       refine g_seq ?_
       refine g_region ?_
       show G _ _ _ (.inRegion _ [0, 1, 2, 3, 4, 5] :: _) _ _
       refine g_op (v := Value.int .u16 a1) rfl rfl rfl ?_
       show G _ _ _ _ [_, _, _, _, _, _, _, _, _, _, _, _, _, _, _, _, _, _, _, _, _, _, _, _, _] _
       refine g_op (v := Value.int .i64 x3) rfl rfl rfl ?_
       show G _ _ _ _ [_, _, _, _, _, _, _, _, _, _, _, _, _, _, _, _, _, _, _, _, _, _, _, _, _] _
       refine g_op (v := Value.int .u64 (u64w x3)) rfl rfl rfl ?_
       show G _ _ _ _ [_, _, _, _, _, _, _, _, _, _, _, _, _, _, _, _, _, _, _, _, _, _, _, _, _] _
       obtain ⟨g1, H⟩ := ite_get H
       refine g_op (v := Value.int .u16 (shrI .u16 a1 (u64w x3))) rfl rfl (x_shr rfl rfl rfl g1) ?_
       show G _ _ _ _ [_, _, _, _, _, _, _, _, _, _, _, _, _, _, _, _, _, _, _, _, _, _, _, _, _] _
       refine g_op (v := Value.int .u16 ((shrI .u16 a1 (u64w x3)).tmod 2)) rfl rfl rfl ?_
       show G _ _ _ _ [_, _, _, _, _, _, _, _, _, _, _, _, _, _, _, _, _, _, _, _, _, _, _, _, _] _
       refine g_op_b (B := ((shrI .u16 a1 (u64w x3)).tmod 2) == 1) rfl rfl rfl ?_ ?_
       ·
        intro hb
        rw [if_pos (b_beq_t hb)] at H
        show G _ _ _ _ [_, _, _, _, _, _, _, _, _, _, _, _, _, _, _, _, _, _, _, _, _, _, _, _, _] _
        refine g_ops_nil ?_
        refine g_cond_true rfl ?_
        refine g_region ?_
        show G _ _ _ (.inRegion _ [0, 1, 2, 3, 4, 5, 6, 7] :: _) _ _
        refine g_op (v := Value.string x2) rfl rfl rfl ?_
        show G _ _ _ _ [_, _, _, _, _, _, _, _, _, _, _, _, _, _, _, _, _, _, _, _, _, _, _, _, _] _
        refine g_op (v := Value.int .i64 x3) rfl rfl rfl ?_
        show G _ _ _ _ [_, _, _, _, _, _, _, _, _, _, _, _, _, _, _, _, _, _, _, _, _, _, _, _, _] _
        refine g_op (v := Value.int .i64 (i64w (97 + x3))) rfl rfl rfl ?_
        show G _ _ _ _ [_, _, _, _, _, _, _, _, _, _, _, _, _, _, _, _, _, _, _, _, _, _, _, _, _] _
        refine g_op (v := Value.int .u8 (u8w (i64w (97 + x3)))) rfl rfl rfl ?_
        show G _ _ _ _ [_, _, _, _, _, _, _, _, _, _, _, _, _, _, _, _, _, _, _, _, _, _, _, _, _] _
        refine s_lit1 (fkI .u8) (y := u8w (i64w (97 + x3))) hs rfl rfl rfl rfl (fun _ => rfl) (zv := (Value.int .u8 0)) (fun _ => rfl) rfl (by decide) (by decide) rfl ?_
        intro v4 w hs
        show G _ _ _ _ [_, _, _, _, _, _, _, _, _, _, _, _, _, _, _, _, _, _, _, _, _, _, _, _, _] _
        refine g_op (v := Value.string (bsOf ([u8w (i64w (97 + x3))]))) rfl rfl (x_string rfl rfl rfl rfl rfl (hs.row 0 rfl)) ?_
        show G _ _ _ _ [_, _, _, _, _, _, _, _, _, _, _, _, _, _, _, _, _, _, _, _, _, _, _, _, _] _
        obtain ⟨gs2, H⟩ := ite_get H
        refine g_op (v := Value.string (x2 ++ (bsOf ([u8w (i64w (97 + x3))])))) rfl rfl (x_cat rfl rfl rfl gs2) ?_
        show G _ _ _ _ [_, _, _, _, _, _, _, _, _, _, _, _, _, _, _, _, _, _, _, _, _, _, _, _, _] _
        refine g_op (v := Value.string (x2 ++ (bsOf ([u8w (i64w (97 + x3))])))) rfl rfl rfl ?_
        show G _ _ _ _ [_, _, _, _, _, _, _, _, _, _, _, _, _, _, _, _, _, _, _, _, _, _, _, _, _] _
        refine g_ops_nil ?_
        refine g_inBlock ?_
        have hs : St _ [] _ := St.take (Γ' := [_]) hs
        exact ha _ _ ⟨x2 ++ (bsOf ([u8w (i64w (97 + x3))])), H, rfl, hs⟩
       ·
        intro hb
        rw [if_neg (b_beq_f hb)] at H
        show G _ _ _ _ [_, _, _, _, _, _, _, _, _, _, _, _, _, _, _, _, _, _, _, _, _, _, _, _, _] _
        refine g_ops_nil ?_
        refine g_cond_false rfl ?_
        refine g_skip ?_
        refine g_inBlock ?_
        have hs : St _ [] _ := St.take (Γ' := []) hs
        exact ha _ _ ⟨x2, H, rfl, hs⟩
     ·
      intro hb
      rw [if_neg (b_dec_f hb)] at H
      show G _ _ _ _ [_, _, _, _, _, _, _, _, _, _, _, _, _, _, _, _, _, _, _, _, _, _, _, _, _] _
      refine g_ops_nil ?_
      refine g_cond_false rfl ?_
      obtain rfl := Option.some.inj H
      subst Hx1_
      have hs : St _ [] _ := St.take (Γ' := []) hs
      refine g_exit rfl ?_
      exact ha1_ _ _ ⟨x2, Hr1_, rfl, hs⟩

/- function 35 spec_l05Read -/
def spec_l05Read.post (w0 : World) (r : (Int × Bool)) (v : Value) (w : World) : Prop := v = Value.tuple #[Value.int .u16 r.1, Value.bool r.2] ∧ St w0 [] w
set_option maxHeartbeats 8000000 in
set_option maxRecDepth 100000 in
theorem spec_l05Read.calls {N : Nat} {a1 : ByteArray} {w0 : World} {r : (Int × Bool)} (H : spec_l05Read.f N a1 = some r) :
    Calls Tryd.prog 35 #[Value.string a1] w0 fun e w => ∃ v, e = .returned v ∧ spec_l05Read.post w0 r v w := by
  unfold spec_l05Read.f at H
  have hs : St w0 [] w0 := St.refl w0
  refine calls_of_g (n := 40) Tryd.func35 rfl rfl ?_
  show G _ _ _ _ [_, _, _, _, _, _, _, _, _, _, _, _, _, _, _, _, _, _, _, _, _, _, _, _, _, _, _, _, _, _, _, _, _, _, _, _, _, _, _, _, _] _
  refine g_seq ?_
  refine g_region ?_
  show G _ _ _ (.inRegion _ [0, 1] :: _) _ _
  refine g_op (v := Value.int .u16 0) rfl rfl rfl ?_
  show G _ _ _ _ [_, _, _, _, _, _, _, _, _, _, _, _, _, _, _, _, _, _, _, _, _, _, _, _, _, _, _, _, _, _, _, _, _, _, _, _, _, _, _, _, _] _
  refine g_op (v := Value.bool false) rfl rfl rfl ?_
  show G _ _ _ _ [_, _, _, _, _, _, _, _, _, _, _, _, _, _, _, _, _, _, _, _, _, _, _, _, _, _, _, _, _, _, _, _, _, _, _, _, _, _, _, _, _] _
  refine g_ops_nil ?_
  refine g_seq ?_
  refine g_seq ?_
  refine g_region ?_
  show G _ _ _ (.inRegion _ [0, 1] :: _) _ _
  refine g_op (v := Value.string a1) rfl rfl rfl ?_
  refine g_op_b (B := a1.toList == (⟨#[45]⟩ : ByteArray).toList) rfl rfl rfl ?_ ?_
  ·
   intro hb
   rw [if_pos (b_beq_t hb)] at H
   show G _ _ _ _ [_, _, _, _, _, _, _, _, _, _, _, _, _, _, _, _, _, _, _, _, _, _, _, _, _, _, _, _, _, _, _, _, _, _, _, _, _, _, _, _, _] _
   refine g_ops_nil ?_
   refine g_cond_true rfl ?_
   refine g_seq ?_
   refine g_region ?_
   show G _ _ _ (.inRegion _ [0, 1] :: _) _ _
   refine g_op (v := Value.int .u16 0) rfl rfl rfl ?_
   show G _ _ _ _ [_, _, _, _, _, _, _, _, _, _, _, _, _, _, _, _, _, _, _, _, _, _, _, _, _, _, _, _, _, _, _, _, _, _, _, _, _, _, _, _, _] _
   refine g_op (v := Value.bool true) rfl rfl rfl ?_
   show G _ _ _ _ [_, _, _, _, _, _, _, _, _, _, _, _, _, _, _, _, _, _, _, _, _, _, _, _, _, _, _, _, _, _, _, _, _, _, _, _, _, _, _, _, _] _
   refine g_ops_nil ?_
   obtain rfl := Option.some.inj H
   refine g_ret Tryd.func35 (v := Value.tuple #[Value.int .u16 0, Value.bool true]) (resN (l := Tryd.f35.results.toList) (vs := [Value.int .u16 0, Value.bool true]) rfl ⟨rfl, rfl, trivial⟩ (by simp)) ?_
   have hs : St _ [] _ := St.take (Γ' := []) hs
   exact ⟨_, rfl, rfl, hs⟩
  ·
   intro hb
   rw [if_neg (b_beq_f hb)] at H
   show G _ _ _ _ [_, _, _, _, _, _, _, _, _, _, _, _, _, _, _, _, _, _, _, _, _, _, _, _, _, _, _, _, _, _, _, _, _, _, _, _, _, _, _, _, _] _
   refine g_ops_nil ?_
   refine g_cond_false rfl ?_
   refine g_skip ?_
   refine g_seq ?_
   refine g_region ?_
   show G _ _ _ (.inRegion _ [0] :: _) _ _
   refine g_op (v := Value.int .u16 0) rfl rfl rfl ?_
   show G _ _ _ _ [_, _, _, _, _, _, _, _, _, _, _, _, _, _, _, _, _, _, _, _, _, _, _, _, _, _, _, _, _, _, _, _, _, _, _, _, _, _, _, _, _] _
   refine g_ops_nil ?_
   refine g_seq ?_
   refine g_seq ?_
   refine g_region ?_
   show G _ _ _ (.inRegion _ [0] :: _) _ _
   refine g_op (v := Value.int .i64 0) rfl rfl rfl ?_
   show G _ _ _ _ [_, _, _, _, _, _, _, _, _, _, _, _, _, _, _, _, _, _, _, _, _, _, _, _, _, _, _, _, _, _, _, _, _, _, _, _, _, _, _, _, _] _
   refine g_ops_nil ?_
   obtain ⟨o1_, Ho, Hr1_⟩ := bind_get H
   refine g_block_join (J := fun t w => ∃ x4 : Int, spec_l05Read.a0 N a1 x4 = some r ∧ Fr t (fun O => ([Value.string a1, O 1, O 2, O 3, Value.int .u16 x4, O 5, O 6, O 7, O 8, O 9, O 10, O 11, O 12, O 13, O 14, O 15, O 16, O 17, O 18, O 19, O 20, O 21, O 22, O 23, O 24, O 25, O 26, O 27, O 28, O 29, O 30, O 31, O 32, O 33, O 34, O 35, O 36, O 37, O 38, O 39, O 40] : List Value)) ∧ St w0 [] w) ?_ ?_
   ·
    rintro t w ⟨x4, H, hf, hs⟩
    obtain ⟨O, rfl⟩ := hf.open
    show G _ _ _ _ [_, _, _, _, _, _, _, _, _, _, _, _, _, _, _, _, _, _, _, _, _, _, _, _, _, _, _, _, _, _, _, _, _, _, _, _, _, _, _, _, _] _
    unfold spec_l05Read.a0 at H
    refine g_seq ?_
    refine g_region ?_
    show G _ _ _ (.inRegion _ [0, 1, 2, 3, 4, 5, 6, 7, 8, 9, 10] :: _) _ _
    refine g_op (v := Value.int .u16 x4) rfl rfl rfl ?_
    refine g_op (v := Value.string a1) rfl rfl rfl ?_
    refine g_op_b (B := !(a1.toList == (⟨#[]⟩ : ByteArray).toList)) rfl rfl rfl ?_ ?_
    ·
     intro hb
     rw [if_neg (b_nbeq_t hb)] at H
     show G _ _ _ _ [_, _, _, _, _, _, _, _, _, _, _, _, _, _, _, _, _, _, _, _, _, _, _, _, _, _, _, _, _, _, _, _, _, _, _, _, _, _, _, _, _] _
     refine g_op (v := Value.bool true) rfl rfl rfl ?_
     refine g_op (v := Value.int .u16 x4) rfl rfl rfl ?_
     obtain ⟨r5, Hr5, H⟩ := bind_get H
     refine s_call (args := [Value.int .u16 x4]) rfl rfl (x_call rfl (callFunc_enter Tryd.func63 rfl rfl) rfl) (spec_l05Text.calls (a1 := x4) Hr5) ?_
     rintro _ w ⟨rfl, hs2⟩
     have hs : St _ [] _ := hs.call hs2
     show G _ _ _ _ [_, _, _, _, _, _, _, _, _, _, _, _, _, _, _, _, _, _, _, _, _, _, _, _, _, _, _, _, _, _, _, _, _, _, _, _, _, _, _, _, _] _
     refine g_op (v := Value.string a1) rfl rfl rfl ?_
     refine g_op (v := Value.bool (r5.toList == a1.toList)) rfl rfl rfl ?_
     show G _ _ _ _ [_, _, _, _, _, _, _, _, _, _, _, _, _, _, _, _, _, _, _, _, _, _, _, _, _, _, _, _, _, _, _, _, _, _, _, _, _, _, _, _, _] _
     refine g_op (v := Value.bool (r5.toList == a1.toList)) rfl rfl rfl ?_
     show G _ _ _ _ [_, _, _, _, _, _, _, _, _, _, _, _, _, _, _, _, _, _, _, _, _, _, _, _, _, _, _, _, _, _, _, _, _, _, _, _, _, _, _, _, _] _
     refine g_op (v := Value.int .u16 x4) rfl rfl rfl ?_
     show G _ _ _ _ [_, _, _, _, _, _, _, _, _, _, _, _, _, _, _, _, _, _, _, _, _, _, _, _, _, _, _, _, _, _, _, _, _, _, _, _, _, _, _, _, _] _
     refine g_op (v := Value.bool (r5.toList == a1.toList)) rfl rfl rfl ?_
     show G _ _ _ _ [_, _, _, _, _, _, _, _, _, _, _, _, _, _, _, _, _, _, _, _, _, _, _, _, _, _, _, _, _, _, _, _, _, _, _, _, _, _, _, _, _] _
     refine g_ops_nil ?_
     obtain rfl := Option.some.inj H
     refine g_ret Tryd.func35 (v := Value.tuple #[Value.int .u16 x4, Value.bool (r5.toList == a1.toList)]) (resN (l := Tryd.f35.results.toList) (vs := [Value.int .u16 x4, Value.bool (r5.toList == a1.toList)]) rfl ⟨rfl, rfl, trivial⟩ (by simp)) ?_
     have hs : St _ [] _ := St.take (Γ' := []) hs
     exact ⟨_, rfl, rfl, hs⟩
    ·
     intro hb
     rw [if_pos (b_nbeq_f hb)] at H
     show G _ _ _ _ [_, _, _, _, _, _, _, _, _, _, _, _, _, _, _, _, _, _, _, _, _, _, _, _, _, _, _, _, _, _, _, _, _, _, _, _, _, _, _, _, _] _
     refine g_op (v := Value.bool false) rfl rfl rfl ?_
     refine g_op_not rfl rfl ?_
     refine g_op_not rfl rfl ?_
     show G _ _ _ _ [_, _, _, _, _, _, _, _, _, _, _, _, _, _, _, _, _, _, _, _, _, _, _, _, _, _, _, _, _, _, _, _, _, _, _, _, _, _, _, _, _] _
     refine g_op_not rfl rfl ?_
     refine g_op_not rfl rfl ?_
     show G _ _ _ _ [_, _, _, _, _, _, _, _, _, _, _, _, _, _, _, _, _, _, _, _, _, _, _, _, _, _, _, _, _, _, _, _, _, _, _, _, _, _, _, _, _] _
     refine g_op (v := Value.bool false) rfl rfl rfl ?_
     show G _ _ _ _ [_, _, _, _, _, _, _, _, _, _, _, _, _, _, _, _, _, _, _, _, _, _, _, _, _, _, _, _, _, _, _, _, _, _, _, _, _, _, _, _, _] _
     refine g_op (v := Value.int .u16 x4) rfl rfl rfl ?_
     show G _ _ _ _ [_, _, _, _, _, _, _, _, _, _, _, _, _, _, _, _, _, _, _, _, _, _, _, _, _, _, _, _, _, _, _, _, _, _, _, _, _, _, _, _, _] _
     refine g_op (v := Value.bool false) rfl rfl rfl ?_
     show G _ _ _ _ [_, _, _, _, _, _, _, _, _, _, _, _, _, _, _, _, _, _, _, _, _, _, _, _, _, _, _, _, _, _, _, _, _, _, _, _, _, _, _, _, _] _
     refine g_ops_nil ?_
     obtain rfl := Option.some.inj H
     refine g_ret Tryd.func35 (v := Value.tuple #[Value.int .u16 x4, Value.bool false]) (resN (l := Tryd.f35.results.toList) (vs := [Value.int .u16 x4, Value.bool false]) rfl ⟨rfl, rfl, trivial⟩ (by simp)) ?_
     have hs : St _ [] _ := St.take (Γ' := []) hs
     exact ⟨_, rfl, rfl, hs⟩
   ·
    intro ha1_
    have hs : St _ [] _ := St.take (Γ' := []) hs
    refine g_loop_fuel (I := fun n_ t w => ∃ x2 : Int, ∃ x3 : Int, rounds (fun s => spec_l05Read.b0 N a1 s.1 s.2) n_ (x2, x3) = some o1_ ∧ Fr t (fun O => ([Value.string a1, O 1, O 2, O 3, Value.int .u16 x2, Value.int .i64 x3, O 6, O 7, O 8, O 9, O 10, O 11, O 12, O 13, O 14, O 15, O 16, O 17, O 18, O 19, O 20, O 21, O 22, O 23, O 24, O 25, O 26, O 27, O 28, O 29, O 30, O 31, O 32, O 33, O 34, O 35, O 36, O 37, O 38, O 39, O 40] : List Value)) ∧ St w0 [] w) N ⟨0, 0, Ho, rfl, hs⟩ ?_ ?_
    ·
     rintro _ _ ⟨x2, x3, h, _⟩
     exact rounds_zero h
    ·
     intro n_ ih1_
     rintro t w ⟨x2, x3, Ho, hf, hs⟩
     obtain ⟨O, rfl⟩ := hf.open
     show G _ _ _ _ [_, _, _, _, _, _, _, _, _, _, _, _, _, _, _, _, _, _, _, _, _, _, _, _, _, _, _, _, _, _, _, _, _, _, _, _, _, _, _, _, _] _
     obtain ⟨x5_, H, Hx1_⟩ := rounds_succ Ho
     have H : spec_l05Read.b0 N a1 x2 x3 = some x5_ := H
     unfold spec_l05Read.b0 at H
     refine g_seq ?_
     refine g_seq ?_
     refine g_region ?_
     show G _ _ _ (.inRegion _ [0, 1, 2, 3] :: _) _ _
     refine g_op (v := Value.int .i64 x3) rfl rfl rfl ?_
     refine g_op (v := Value.string a1) rfl rfl rfl ?_
     refine g_op (v := Value.int .i64 (a1.size : Int)) rfl rfl (x_lenS rfl rfl rfl) ?_
     show G _ _ _ _ [_, _, _, _, _, _, _, _, _, _, _, _, _, _, _, _, _, _, _, _, _, _, _, _, _, _, _, _, _, _, _, _, _, _, _, _, _, _, _, _, _] _
     refine g_op_b (B := decide (x3 < (a1.size : Int))) rfl rfl rfl ?_ ?_
     ·
      intro hb
      rw [if_pos (b_dec_t hb)] at H
      show G _ _ _ _ [_, _, _, _, _, _, _, _, _, _, _, _, _, _, _, _, _, _, _, _, _, _, _, _, _, _, _, _, _, _, _, _, _, _, _, _, _, _, _, _, _] _
      refine g_ops_nil ?_
      refine g_cond_true rfl ?_
      refine g_skip ?_
      refine g_seq ?_
      refine g_block ?_
      refine g_seq ?_
      refine g_seq ?_
      refine g_region ?_
      show G _ _ _ (.inRegion _ [0, 1, 2, 3, 4, 5, 6, 7, 8, 9] :: _) _ _
      refine g_op (v := Value.string a1) rfl rfl rfl ?_
      refine g_op (v := Value.int .i64 x3) rfl rfl rfl ?_
      obtain ⟨g1, H⟩ := ite_get H
      refine g_op (v := Value.int .u8 (btS a1 x3)) rfl rfl (x_indexS rfl rfl rfl rfl g1.1 g1.2) ?_
      show G _ _ _ _ [_, _, _, _, _, _, _, _, _, _, _, _, _, _, _, _, _, _, _, _, _, _, _, _, _, _, _, _, _, _, _, _, _, _, _, _, _, _, _, _, _] _
      refine g_op_b (B := decide ((btS a1 x3) < 97)) rfl rfl rfl ?_ ?_
      ·
       intro hb
       rw [if_pos (b_dec_t hb)] at H
       show G _ _ _ _ [_, _, _, _, _, _, _, _, _, _, _, _, _, _, _, _, _, _, _, _, _, _, _, _, _, _, _, _, _, _, _, _, _, _, _, _, _, _, _, _, _] _
       refine g_op (v := Value.bool true) rfl rfl rfl ?_
       refine g_op_not rfl rfl ?_
       refine g_op_not rfl rfl ?_
       refine g_op_not rfl rfl ?_
       show G _ _ _ _ [_, _, _, _, _, _, _, _, _, _, _, _, _, _, _, _, _, _, _, _, _, _, _, _, _, _, _, _, _, _, _, _, _, _, _, _, _, _, _, _, _] _
       refine g_op_not rfl rfl ?_
       show G _ _ _ _ [_, _, _, _, _, _, _, _, _, _, _, _, _, _, _, _, _, _, _, _, _, _, _, _, _, _, _, _, _, _, _, _, _, _, _, _, _, _, _, _, _] _
       refine g_op (v := Value.bool true) rfl rfl rfl ?_
       show G _ _ _ _ [_, _, _, _, _, _, _, _, _, _, _, _, _, _, _, _, _, _, _, _, _, _, _, _, _, _, _, _, _, _, _, _, _, _, _, _, _, _, _, _, _] _
       refine g_ops_nil ?_
       refine g_cond_true rfl ?_
       refine g_seq ?_
       refine g_region ?_
       show G _ _ _ (.inRegion _ [0, 1] :: _) _ _
       refine g_op (v := Value.int .u16 0) rfl rfl rfl ?_
       show G _ _ _ _ [_, _, _, _, _, _, _, _, _, _, _, _, _, _, _, _, _, _, _, _, _, _, _, _, _, _, _, _, _, _, _, _, _, _, _, _, _, _, _, _, _] _
       refine g_op (v := Value.bool false) rfl rfl rfl ?_
       show G _ _ _ _ [_, _, _, _, _, _, _, _, _, _, _, _, _, _, _, _, _, _, _, _, _, _, _, _, _, _, _, _, _, _, _, _, _, _, _, _, _, _, _, _, _] _
       refine g_ops_nil ?_
       obtain rfl := Option.some.inj H
       subst Hx1_
       have H := Option.some.inj Hr1_
       subst H
       refine g_ret Tryd.func35 (v := Value.tuple #[Value.int .u16 0, Value.bool false]) (resN (l := Tryd.f35.results.toList) (vs := [Value.int .u16 0, Value.bool false]) rfl ⟨rfl, rfl, trivial⟩ (by simp)) ?_
       have hs : St _ [] _ := St.take (Γ' := []) hs
       exact ⟨_, rfl, rfl, hs⟩
      ·
       intro hb
       rw [if_neg (b_dec_f hb)] at H
       show G _ _ _ _ [_, _, _, _, _, _, _, _, _, _, _, _, _, _, _, _, _, _, _, _, _, _, _, _, _, _, _, _, _, _, _, _, _, _, _, _, _, _, _, _, _] _
       refine g_op (v := Value.bool false) rfl rfl rfl ?_
       refine g_op (v := Value.string a1) rfl rfl rfl ?_
       refine g_op (v := Value.int .i64 x3) rfl rfl rfl ?_
       obtain ⟨g2, H⟩ := ite_get H
       refine g_op (v := Value.int .u8 (btS a1 x3)) rfl rfl (x_indexS rfl rfl rfl rfl g2.1 g2.2) ?_
       show G _ _ _ _ [_, _, _, _, _, _, _, _, _, _, _, _, _, _, _, _, _, _, _, _, _, _, _, _, _, _, _, _, _, _, _, _, _, _, _, _, _, _, _, _, _] _
       refine g_op_b (B := decide ((btS a1 x3) ≥ 105)) rfl rfl rfl ?_ ?_
       ·
        intro hb
        rw [if_pos (b_dec_t hb)] at H
        show G _ _ _ _ [_, _, _, _, _, _, _, _, _, _, _, _, _, _, _, _, _, _, _, _, _, _, _, _, _, _, _, _, _, _, _, _, _, _, _, _, _, _, _, _, _] _
        refine g_op (v := Value.bool true) rfl rfl rfl ?_
        show G _ _ _ _ [_, _, _, _, _, _, _, _, _, _, _, _, _, _, _, _, _, _, _, _, _, _, _, _, _, _, _, _, _, _, _, _, _, _, _, _, _, _, _, _, _] _
        refine g_ops_nil ?_
        refine g_cond_true rfl ?_
        refine g_seq ?_
        refine g_region ?_
        show G _ _ _ (.inRegion _ [0, 1] :: _) _ _
        refine g_op (v := Value.int .u16 0) rfl rfl rfl ?_
        show G _ _ _ _ [_, _, _, _, _, _, _, _, _, _, _, _, _, _, _, _, _, _, _, _, _, _, _, _, _, _, _, _, _, _, _, _, _, _, _, _, _, _, _, _, _] _
        refine g_op (v := Value.bool false) rfl rfl rfl ?_
        show G _ _ _ _ [_, _, _, _, _, _, _, _, _, _, _, _, _, _, _, _, _, _, _, _, _, _, _, _, _, _, _, _, _, _, _, _, _, _, _, _, _, _, _, _, _] _
        refine g_ops_nil ?_
        obtain rfl := Option.some.inj H
        subst Hx1_
        have H := Option.some.inj Hr1_
        subst H
        refine g_ret Tryd.func35 (v := Value.tuple #[Value.int .u16 0, Value.bool false]) (resN (l := Tryd.f35.results.toList) (vs := [Value.int .u16 0, Value.bool false]) rfl ⟨rfl, rfl, trivial⟩ (by simp)) ?_
        have hs : St _ [] _ := St.take (Γ' := []) hs
        exact ⟨_, rfl, rfl, hs⟩
       ·
        intro hb
        rw [if_neg (b_dec_f hb)] at H
        show G _ _ _ _ [_, _, _, _, _, _, _, _, _, _, _, _, _, _, _, _, _, _, _, _, _, _, _, _, _, _, _, _, _, _, _, _, _, _, _, _, _, _, _, _, _] _
        refine g_op (v := Value.bool false) rfl rfl rfl ?_
        show G _ _ _ _ [_, _, _, _, _, _, _, _, _, _, _, _, _, _, _, _, _, _, _, _, _, _, _, _, _, _, _, _, _, _, _, _, _, _, _, _, _, _, _, _, _] _
        refine g_ops_nil ?_
        refine g_cond_false rfl ?_
        refine g_skip ?_
        refine g_region ?_
        show G _ _ _ (.inRegion _ [0, 1, 2, 3, 4, 5, 6, 7, 8] :: _) _ _
        refine g_op (v := Value.int .u16 x2) rfl rfl rfl ?_
        refine g_op (v := Value.string a1) rfl rfl rfl ?_
        refine g_op (v := Value.int .i64 x3) rfl rfl rfl ?_
        obtain ⟨g3, H⟩ := ite_get H
        refine g_op (v := Value.int .u8 (btS a1 x3)) rfl rfl (x_indexS rfl rfl rfl rfl g3.1 g3.2) ?_
        show G _ _ _ _ [_, _, _, _, _, _, _, _, _, _, _, _, _, _, _, _, _, _, _, _, _, _, _, _, _, _, _, _, _, _, _, _, _, _, _, _, _, _, _, _, _] _
        refine g_op (v := Value.int .u8 (u8w ((btS a1 x3) - 97))) rfl rfl rfl ?_
        show G _ _ _ _ [_, _, _, _, _, _, _, _, _, _, _, _, _, _, _, _, _, _, _, _, _, _, _, _, _, _, _, _, _, _, _, _, _, _, _, _, _, _, _, _, _] _
        refine g_op (v := Value.int .u64 (u64w (u8w ((btS a1 x3) - 97)))) rfl rfl rfl ?_
        obtain ⟨g4, H⟩ := ite_get H
        refine g_op (v := Value.int .u16 (shlI .u16 1 (u64w (u8w ((btS a1 x3) - 97))))) rfl rfl (x_shl rfl rfl rfl g4) ?_
        show G _ _ _ _ [_, _, _, _, _, _, _, _, _, _, _, _, _, _, _, _, _, _, _, _, _, _, _, _, _, _, _, _, _, _, _, _, _, _, _, _, _, _, _, _, _] _
        refine g_op (v := Value.int .u16 (bOr .u16 x2 (shlI .u16 1 (u64w (u8w ((btS a1 x3) - 97)))))) rfl rfl rfl ?_
        show G _ _ _ _ [_, _, _, _, _, _, _, _, _, _, _, _, _, _, _, _, _, _, _, _, _, _, _, _, _, _, _, _, _, _, _, _, _, _, _, _, _, _, _, _, _] _
        refine g_op (v := Value.int .u16 (bOr .u16 x2 (shlI .u16 1 (u64w (u8w ((btS a1 x3) - 97)))))) rfl rfl rfl ?_
        show G _ _ _ _ [_, _, _, _, _, _, _, _, _, _, _, _, _, _, _, _, _, _, _, _, _, _, _, _, _, _, _, _, _, _, _, _, _, _, _, _, _, _, _, _, _] _
        refine g_ops_nil ?_
        refine g_inBlock ?_
        refine g_region ?_
        show G _ _ _ (.inRegion _ [0, 1, 2] :: _) _ _
        refine g_op (v := Value.int .i64 x3) rfl rfl rfl ?_
        refine g_op (v := Value.int .i64 (i64w (x3 + 1))) rfl rfl rfl ?_
        show G _ _ _ _ [_, _, _, _, _, _, _, _, _, _, _, _, _, _, _, _, _, _, _, _, _, _, _, _, _, _, _, _, _, _, _, _, _, _, _, _, _, _, _, _, _] _
        refine g_op (v := Value.int .i64 (i64w (x3 + 1))) rfl rfl rfl ?_
        show G _ _ _ _ [_, _, _, _, _, _, _, _, _, _, _, _, _, _, _, _, _, _, _, _, _, _, _, _, _, _, _, _, _, _, _, _, _, _, _, _, _, _, _, _, _] _
        refine g_ops_nil ?_
        obtain rfl := Option.some.inj H
        have hs : St _ [] _ := St.take (Γ' := []) hs
        exact ih1_ _ _ ⟨bOr .u16 x2 (shlI .u16 1 (u64w (u8w ((btS a1 x3) - 97)))), i64w (x3 + 1), Hx1_, rfl, hs⟩
     ·
      intro hb
      rw [if_neg (b_dec_f hb)] at H
      show G _ _ _ _ [_, _, _, _, _, _, _, _, _, _, _, _, _, _, _, _, _, _, _, _, _, _, _, _, _, _, _, _, _, _, _, _, _, _, _, _, _, _, _, _, _] _
      refine g_ops_nil ?_
      refine g_cond_false rfl ?_
      obtain rfl := Option.some.inj H
      subst Hx1_
      have hs : St _ [] _ := St.take (Γ' := []) hs
      refine g_exit rfl ?_
      exact ha1_ _ _ ⟨x2, Hr1_, rfl, hs⟩

/- function 83 spec_l00In -/
def spec_l00In.post (w0 : World) (r : Bool) (v : Value) (w : World) : Prop := v = Value.bool r ∧ St w0 [] w
set_option maxHeartbeats 8000000 in
set_option maxRecDepth 100000 in
theorem spec_l00In.calls {N : Nat} {a1 : Int} {a2 : Int} {a3 : Int} {w0 : World} {r : Bool} (H : spec_l00In.f N a1 a2 a3 = some r) :
    Calls Tryd.prog 83 #[Value.int .i64 a1, Value.int .i64 a2, Value.int .i64 a3] w0 fun e w => ∃ v, e = .returned v ∧ spec_l00In.post w0 r v w := by
  unfold spec_l00In.f at H
  have hs : St w0 [] w0 := St.refl w0
  refine calls_of_g (n := 12) Tryd.func83 rfl rfl ?_
  show G _ _ _ _ [_, _, _, _, _, _, _, _, _, _, _, _, _, _, _] _
  refine g_seq ?_
  refine g_region ?_
  show G _ _ _ (.inRegion _ [0] :: _) _ _
  refine g_op (v := Value.bool false) rfl rfl rfl ?_
  show G _ _ _ _ [_, _, _, _, _, _, _, _, _, _, _, _, _, _, _] _
  refine g_ops_nil ?_
  refine g_seq ?_
  refine g_region ?_
  show G _ _ _ (.inRegion _ [0, 1, 2, 3, 4, 5, 6, 7, 8] :: _) _ _
  refine g_op (v := Value.int .i64 a1) rfl rfl rfl ?_
  show G _ _ _ _ [_, _, _, _, _, _, _, _, _, _, _, _, _, _, _] _
  refine g_op (v := Value.int .i64 a2) rfl rfl rfl ?_
  show G _ _ _ _ [_, _, _, _, _, _, _, _, _, _, _, _, _, _, _] _
  refine g_op_b (B := decide (a1 ≥ a2)) rfl rfl rfl ?_ ?_
  ·
   intro hb
   rw [if_pos (b_dec_t hb)] at H
   show G _ _ _ _ [_, _, _, _, _, _, _, _, _, _, _, _, _, _, _] _
   refine g_op (v := Value.bool true) rfl rfl rfl ?_
   show G _ _ _ _ [_, _, _, _, _, _, _, _, _, _, _, _, _, _, _] _
   refine g_op (v := Value.int .i64 a1) rfl rfl rfl ?_
   show G _ _ _ _ [_, _, _, _, _, _, _, _, _, _, _, _, _, _, _] _
   refine g_op (v := Value.int .i64 a3) rfl rfl rfl ?_
   show G _ _ _ _ [_, _, _, _, _, _, _, _, _, _, _, _, _, _, _] _
   refine g_op (v := Value.bool (decide (a1 ≤ a3))) rfl rfl rfl ?_
   show G _ _ _ _ [_, _, _, _, _, _, _, _, _, _, _, _, _, _, _] _
   refine g_op (v := Value.bool (decide (a1 ≤ a3))) rfl rfl rfl ?_
   show G _ _ _ _ [_, _, _, _, _, _, _, _, _, _, _, _, _, _, _] _
   refine g_op (v := Value.bool (decide (a1 ≤ a3))) rfl rfl rfl ?_
   show G _ _ _ _ [_, _, _, _, _, _, _, _, _, _, _, _, _, _, _] _
   refine g_ops_nil ?_
   obtain rfl := Option.some.inj H
   refine g_ret Tryd.func83 (v := Value.bool (decide (a1 ≤ a3))) (res1 rfl rfl) ?_
   have hs : St _ [] _ := St.take (Γ' := []) hs
   exact ⟨_, rfl, rfl, hs⟩
  ·
   intro hb
   rw [if_neg (b_dec_f hb)] at H
   show G _ _ _ _ [_, _, _, _, _, _, _, _, _, _, _, _, _, _, _] _
   refine g_op (v := Value.bool false) rfl rfl rfl ?_
   show G _ _ _ _ [_, _, _, _, _, _, _, _, _, _, _, _, _, _, _] _
   refine g_op_not rfl rfl ?_
   show G _ _ _ _ [_, _, _, _, _, _, _, _, _, _, _, _, _, _, _] _
   refine g_op_not rfl rfl ?_
   show G _ _ _ _ [_, _, _, _, _, _, _, _, _, _, _, _, _, _, _] _
   refine g_op_not rfl rfl ?_
   show G _ _ _ _ [_, _, _, _, _, _, _, _, _, _, _, _, _, _, _] _
   refine g_op (v := Value.bool false) rfl rfl rfl ?_
   show G _ _ _ _ [_, _, _, _, _, _, _, _, _, _, _, _, _, _, _] _
   refine g_op (v := Value.bool false) rfl rfl rfl ?_
   show G _ _ _ _ [_, _, _, _, _, _, _, _, _, _, _, _, _, _, _] _
   refine g_ops_nil ?_
   obtain rfl := Option.some.inj H
   refine g_ret Tryd.func83 (v := Value.bool false) (res1 rfl rfl) ?_
   have hs : St _ [] _ := St.take (Γ' := []) hs
   exact ⟨_, rfl, rfl, hs⟩

/- function 94 spec_l05All -/
def spec_l05All.post (w0 : World) (r : Int) (v : Value) (w : World) : Prop := v = Value.int .u16 r ∧ St w0 [] w
set_option maxHeartbeats 8000000 in
set_option maxRecDepth 100000 in
theorem spec_l05All.calls {N : Nat} {a1 : S_impl_Ferry} {b2 : Nat} {v3 : Value} {w0 : World} {r : Int} (hr4 : RdRow (K.int .u16) w0 v3 a1.f_Rules) (hp0 : w0.heap[b2]? = some (.cells ((([Value.int .i8 a1.f_Things, Value.int .i8 a1.f_Boat, v3] : List Value)) : List Value).toArray 57 (0, 0))) (H : spec_l05All.f N a1 = some r) :
    Calls Tryd.prog 94 #[Value.pointer (some ⟨b2, 0, none⟩)] w0 fun e w => ∃ v, e = .returned v ∧ spec_l05All.post w0 r v w := by
  unfold spec_l05All.f at H
  have hs : St w0 [] w0 := St.refl w0
  refine calls_of_g (n := 9) Tryd.func94 rfl rfl ?_
  show G _ _ _ _ [_, _, _, _, _, _, _, _, _, _] _
  refine g_seq ?_
  refine g_region ?_
  show G _ _ _ (.inRegion _ [0] :: _) _ _
  refine g_op (v := Value.int .u16 0) rfl rfl rfl ?_
  show G _ _ _ _ [_, _, _, _, _, _, _, _, _, _] _
  refine g_ops_nil ?_
  refine g_seq ?_
  refine g_region ?_
  show G _ _ _ (.inRegion _ [0, 1, 2, 3, 4, 5, 6, 7] :: _) _ _
  refine g_op (v := Value.pointer (some ⟨b2, 0, none⟩)) rfl rfl rfl ?_
  show G _ _ _ _ [_, _, _, _, _, _, _, _, _, _] _
  refine g_op (v := Value.pointer (some ⟨b2, 0, none⟩)) rfl rfl rfl ?_
  show G _ _ _ _ [_, _, _, _, _, _, _, _, _, _] _
  refine g_op (v := Value.pointer (some ⟨b2, 0, none⟩)) rfl rfl rfl ?_
  show G _ _ _ _ [_, _, _, _, _, _, _, _, _, _] _
  refine s_load1 rfl rfl (v := Value.int .i8 a1.f_Things) rfl rfl (fun _ => rfl) (cells_load (hs.box hp0) 0 1 rfl) ?_
  show G _ _ _ _ [_, _, _, _, _, _, _, _, _, _] _
  refine g_op (v := Value.int .u64 (u64w a1.f_Things)) rfl rfl rfl ?_
  show G _ _ _ _ [_, _, _, _, _, _, _, _, _, _] _
  obtain ⟨g1, H⟩ := ite_get H
  refine g_op (v := Value.int .u16 (shlI .u16 1 (u64w a1.f_Things))) rfl rfl (x_shl rfl rfl rfl g1) ?_
  show G _ _ _ _ [_, _, _, _, _, _, _, _, _, _] _
  refine g_op (v := Value.int .u16 (u16w ((shlI .u16 1 (u64w a1.f_Things)) - 1))) rfl rfl rfl ?_
  show G _ _ _ _ [_, _, _, _, _, _, _, _, _, _] _
  refine g_op (v := Value.int .u16 (u16w ((shlI .u16 1 (u64w a1.f_Things)) - 1))) rfl rfl rfl ?_
  show G _ _ _ _ [_, _, _, _, _, _, _, _, _, _] _
  refine g_ops_nil ?_
  obtain rfl := Option.some.inj H
  refine g_ret Tryd.func94 (v := Value.int .u16 (u16w ((shlI .u16 1 (u64w a1.f_Things)) - 1))) (res1 rfl rfl) ?_
  have hs : St _ [] _ := St.take (Γ' := []) hs
  exact ⟨_, rfl, rfl, hs⟩

/- function 95 spec_l05Size -/
def spec_l05Size.post (w0 : World) (r : Int) (v : Value) (w : World) : Prop := v = Value.int .i64 r ∧ St w0 [] w
set_option maxHeartbeats 8000000 in
set_option maxRecDepth 100000 in
theorem spec_l05Size.calls {N : Nat} {a1 : Int} {w0 : World} {r : Int} (H : spec_l05Size.f N a1 = some r) :
    Calls Tryd.prog 95 #[Value.int .u16 a1] w0 fun e w => ∃ v, e = .returned v ∧ spec_l05Size.post w0 r v w := by
  unfold spec_l05Size.f at H
  have hs : St w0 [] w0 := St.refl w0
  refine calls_of_g (n := 13) Tryd.func95 rfl rfl ?_
  show G _ _ _ _ [_, _, _, _, _, _, _, _, _, _, _, _, _, _] _
  refine g_seq ?_
  refine g_region ?_
  show G _ _ _ (.inRegion _ [0] :: _) _ _
  refine g_op (v := Value.int .i64 0) rfl rfl rfl ?_
  show G _ _ _ _ [_, _, _, _, _, _, _, _, _, _, _, _, _, _] _
  refine g_ops_nil ?_
  refine g_seq ?_
  refine g_region ?_
  show G _ _ _ (.inRegion _ [0] :: _) _ _
  refine g_op (v := Value.int .i64 0) rfl rfl rfl ?_
  show G _ _ _ _ [_, _, _, _, _, _, _, _, _, _, _, _, _, _] _
  refine g_ops_nil ?_
  refine g_seq ?_
  obtain ⟨o1_, Ho, Hr1_⟩ := bind_get H
  refine g_block_join (J := fun t w => ∃ x4 : Int, spec_l05Size.a0 N x4 = some r ∧ Fr t (fun O => ([O 0, O 1, O 2, Value.int .i64 x4, O 4, O 5, O 6, O 7, O 8, O 9, O 10, O 11, O 12, O 13] : List Value)) ∧ St w0 [] w) ?_ ?_
  ·
   rintro t w ⟨x4, H, hf, hs⟩
   obtain ⟨O, rfl⟩ := hf.open
   show G _ _ _ _ [_, _, _, _, _, _, _, _, _, _, _, _, _, _] _
   unfold spec_l05Size.a0 at H
   refine g_seq ?_
   refine g_region ?_
   show G _ _ _ (.inRegion _ [0, 1] :: _) _ _
   refine g_op (v := Value.int .i64 x4) rfl rfl rfl ?_
   show G _ _ _ _ [_, _, _, _, _, _, _, _, _, _, _, _, _, _] _
   refine g_op (v := Value.int .i64 x4) rfl rfl rfl ?_
   show G _ _ _ _ [_, _, _, _, _, _, _, _, _, _, _, _, _, _] _
   refine g_ops_nil ?_
   obtain rfl := Option.some.inj H
   refine g_ret Tryd.func95 (v := Value.int .i64 x4) (res1 rfl rfl) ?_
   have hs : St _ [] _ := St.take (Γ' := []) hs
   exact ⟨_, rfl, rfl, hs⟩
  ·
   intro ha1_
   have hs : St _ [] _ := St.take (Γ' := []) hs
   refine g_loop_fuel (I := fun n_ t w => ∃ x2 : Int, ∃ x3 : Int, rounds (fun s => spec_l05Size.b0 N s.1 s.2) n_ (x2, x3) = some o1_ ∧ Fr t (fun O => ([Value.int .u16 x2, O 1, O 2, Value.int .i64 x3, O 4, O 5, O 6, O 7, O 8, O 9, O 10, O 11, O 12, O 13] : List Value)) ∧ St w0 [] w) N ⟨a1, 0, Ho, rfl, hs⟩ ?_ ?_
   ·
    rintro _ _ ⟨x2, x3, h, _⟩
    exact rounds_zero h
   ·
    intro n_ ih1_
    rintro t w ⟨x2, x3, Ho, hf, hs⟩
    obtain ⟨O, rfl⟩ := hf.open
    show G _ _ _ _ [_, _, _, _, _, _, _, _, _, _, _, _, _, _] _
    obtain ⟨x1_, H, Hx1_⟩ := rounds_succ Ho
    have H : spec_l05Size.b0 N x2 x3 = some x1_ := H
    unfold spec_l05Size.b0 at H
    refine g_seq ?_
    refine g_seq ?_
    refine g_region ?_
    show G _ _ _ (.inRegion _ [0, 1] :: _) _ _
    refine g_op (v := Value.int .u16 x2) rfl rfl rfl ?_
    show G _ _ _ _ [_, _, _, _, _, _, _, _, _, _, _, _, _, _] _
    refine g_op_b (B := decide (x2 > 0)) rfl rfl rfl ?_ ?_
    ·
     intro hb
     rw [if_pos (b_dec_t hb)] at H
     show G _ _ _ _ [_, _, _, _, _, _, _, _, _, _, _, _, _, _] _
     refine g_ops_nil ?_
     refine g_cond_true rfl ?_
     refine g_skip ?_
     refine g_seq ?_
     refine g_block ?_
     refine g_region ?_
     show G _ _ _ (.inRegion _ [0, 1, 2, 3, 4, 5] :: _) _ _
     refine g_op (v := Value.int .i64 x3) rfl rfl rfl ?_
     show G _ _ _ _ [_, _, _, _, _, _, _, _, _, _, _, _, _, _] _
     refine g_op (v := Value.int .u16 x2) rfl rfl rfl ?_
     show G _ _ _ _ [_, _, _, _, _, _, _, _, _, _, _, _, _, _] _
     refine g_op (v := Value.int .u16 (x2.tmod 2)) rfl rfl rfl ?_
     show G _ _ _ _ [_, _, _, _, _, _, _, _, _, _, _, _, _, _] _
     refine g_op (v := Value.int .i64 (i64w (x2.tmod 2))) rfl rfl rfl ?_
     show G _ _ _ _ [_, _, _, _, _, _, _, _, _, _, _, _, _, _] _
     refine g_op (v := Value.int .i64 (i64w (x3 + (i64w (x2.tmod 2))))) rfl rfl rfl ?_
     show G _ _ _ _ [_, _, _, _, _, _, _, _, _, _, _, _, _, _] _
     refine g_op (v := Value.int .i64 (i64w (x3 + (i64w (x2.tmod 2))))) rfl rfl rfl ?_
     show G _ _ _ _ [_, _, _, _, _, _, _, _, _, _, _, _, _, _] _
     refine g_ops_nil ?_
     refine g_inBlock ?_
     refine g_region ?_
     show G _ _ _ (.inRegion _ [0, 1, 2] :: _) _ _
     refine g_op (v := Value.int .u16 x2) rfl rfl rfl ?_
     show G _ _ _ _ [_, _, _, _, _, _, _, _, _, _, _, _, _, _] _
     refine g_op (v := Value.int .u16 (u16w (x2.tdiv 2))) rfl rfl rfl ?_
     show G _ _ _ _ [_, _, _, _, _, _, _, _, _, _, _, _, _, _] _
     refine g_op (v := Value.int .u16 (u16w (x2.tdiv 2))) rfl rfl rfl ?_
     show G _ _ _ _ [_, _, _, _, _, _, _, _, _, _, _, _, _, _] _
     refine g_ops_nil ?_
     obtain rfl := Option.some.inj H
     have hs : St _ [] _ := St.take (Γ' := []) hs
     exact ih1_ _ _ ⟨u16w (x2.tdiv 2), i64w (x3 + (i64w (x2.tmod 2))), Hx1_, rfl, hs⟩
    ·
     intro hb
     rw [if_neg (b_dec_f hb)] at H
     show G _ _ _ _ [_, _, _, _, _, _, _, _, _, _, _, _, _, _] _
     refine g_ops_nil ?_
     refine g_cond_false rfl ?_
     obtain rfl := Option.some.inj H
     subst Hx1_
     have hs : St _ [] _ := St.take (Γ' := []) hs
     refine g_exit rfl ?_
     exact ha1_ _ _ ⟨x3, Hr1_, rfl, hs⟩

end Go.Proofs.YtmjkeidcoonghaaDoorX
