/- Contracts, printed by gen.py. -/
import Derived.Test.YtpphepkapccjeaaXC1
namespace Go.Proofs.YtpphepkapccjeaaX
open Go Go.RowKit Go.Proofs
set_option linter.unusedVariables false
set_option linter.unusedSimpArgs false
/- function 17 _spec_l00Src_pick -/
def _spec_l00Src_pick.post (wb : World) (Z : As) (b2 : Nat) (v3 : Value) (r : (Int × S_spec_l00Src)) (v : Value) (w : World) : Prop := v = Value.int .i64 r.1 ∧ St wb [Cells b2 (([v3, Value.int .i64 r.2.f_at, Value.int .u64 r.2.f_seed] : List Value)) 49, Z] w
set_option maxHeartbeats 8000000 in
set_option maxRecDepth 100000 in
theorem _spec_l00Src_pick.calls {N : Nat} {a1 : S_spec_l00Src} {a6 : Int} {b2 : Nat} {v3 : Value} {wb : World} {Z : As} {w0 : World} {r : (Int × S_spec_l00Src)} (hs : St wb [Cells b2 (([v3, Value.int .i64 a1.f_at, Value.int .u64 a1.f_seed] : List Value)) 49, Z] w0) (hr4 : RdRow (K.int .u8) wb v3 a1.f_code) (H : _spec_l00Src_pick.f N a1 a6 = some r) :
    Calls Try.prog 17 #[Value.pointer (some ⟨b2, 0, none⟩), Value.int .i64 a6] w0 fun e w => ∃ v, e = .returned v ∧ _spec_l00Src_pick.post wb Z b2 v3 r v w := by
  unfold _spec_l00Src_pick.f at H
  refine calls_of_g (n := 18) Try.func17 rfl rfl ?_
  show G _ _ _ _ [_, _, _, _, _, _, _, _, _, _, _, _, _, _, _, _, _, _, _, _] _
  refine g_seq ?_
  refine g_region ?_
  show G _ _ _ (.inRegion _ [0] :: _) _ _
  refine g_op (v := Value.int .i64 0) rfl rfl rfl ?_
  show G _ _ _ _ [_, _, _, _, _, _, _, _, _, _, _, _, _, _, _, _, _, _, _, _] _
  refine g_ops_nil ?_
  refine g_seq ?_
  refine g_seq ?_
  refine g_region ?_
  show G _ _ _ (.inRegion _ [0, 1] :: _) _ _
  refine g_op (v := Value.int .i64 a6) rfl rfl rfl ?_
  show G _ _ _ _ [_, _, _, _, _, _, _, _, _, _, _, _, _, _, _, _, _, _, _, _] _
  refine g_op_b (B := decide (a6 ≤ 1)) rfl rfl rfl ?_ ?_
  ·
   intro hb
   rw [if_pos (b_dec_t hb)] at H
   show G _ _ _ _ [_, _, _, _, _, _, _, _, _, _, _, _, _, _, _, _, _, _, _, _] _
   refine g_ops_nil ?_
   refine g_cond_true rfl ?_
   refine g_seq ?_
   refine g_region ?_
   show G _ _ _ (.inRegion _ [0] :: _) _ _
   refine g_op (v := Value.int .i64 0) rfl rfl rfl ?_
   show G _ _ _ _ [_, _, _, _, _, _, _, _, _, _, _, _, _, _, _, _, _, _, _, _] _
   refine g_ops_nil ?_
   obtain rfl := Option.some.inj H
   refine g_ret Try.func17 (v := Value.int .i64 0) (res1 rfl rfl) ?_
   have hs := hs.pull 1 rfl
   have hs := hs.pull 1 rfl
   have hs : St _ [_, _] _ := St.take (Γ' := []) hs
   exact ⟨_, rfl, rfl, hs⟩
  ·
   intro hb
   rw [if_neg (b_dec_f hb)] at H
   show G _ _ _ _ [_, _, _, _, _, _, _, _, _, _, _, _, _, _, _, _, _, _, _, _] _
   refine g_ops_nil ?_
   refine g_cond_false rfl ?_
   refine g_skip ?_
   refine g_seq ?_
   refine g_region ?_
   show G _ _ _ (.inRegion _ [0, 1, 2] :: _) _ _
   refine g_op (v := Value.pointer (some ⟨b2, 0, none⟩)) rfl rfl rfl ?_
   show G _ _ _ _ [_, _, _, _, _, _, _, _, _, _, _, _, _, _, _, _, _, _, _, _] _
   obtain ⟨r7, Hr7, H⟩ := bind_get H
   have hs := hs.pull 0 rfl
   have hs : St _ [_, _] _ := hs
   have hs := hs.pack 1
   refine s_call (args := [Value.pointer (some ⟨b2, 0, none⟩)]) rfl rfl (x_call rfl (callFunc_enter Try.func25 rfl rfl) rfl) (_spec_l00Src_next.calls (a1 := (⟨a1.f_code, a1.f_at, a1.f_seed⟩ : S_spec_l00Src)) hs hr4 Hr7) ?_
   rintro _ w ⟨rfl, hs⟩
   have hs := St.unpack (Γ := [_]) hs
   have hs : St _ [_, _] _ := hs
   show G _ _ _ _ [_, _, _, _, _, _, _, _, _, _, _, _, _, _, _, _, _, _, _, _] _
   refine g_op (v := Value.int .i64 r7.1) rfl rfl rfl ?_
   show G _ _ _ _ [_, _, _, _, _, _, _, _, _, _, _, _, _, _, _, _, _, _, _, _] _
   refine g_ops_nil ?_
   refine g_seq ?_
   refine g_seq ?_
   refine g_region ?_
   show G _ _ _ (.inRegion _ [0, 1] :: _) _ _
   refine g_op (v := Value.int .i64 a6) rfl rfl rfl ?_
   show G _ _ _ _ [_, _, _, _, _, _, _, _, _, _, _, _, _, _, _, _, _, _, _, _] _
   refine g_op_b (B := decide (a6 > 200)) rfl rfl rfl ?_ ?_
   ·
    intro hb
    rw [if_pos (b_dec_t hb)] at H
    show G _ _ _ _ [_, _, _, _, _, _, _, _, _, _, _, _, _, _, _, _, _, _, _, _] _
    refine g_ops_nil ?_
    refine g_cond_true rfl ?_
    refine g_region ?_
    show G _ _ _ (.inRegion _ [0, 1, 2, 3, 4, 5] :: _) _ _
    refine g_op (v := Value.int .i64 r7.1) rfl rfl rfl ?_
    show G _ _ _ _ [_, _, _, _, _, _, _, _, _, _, _, _, _, _, _, _, _, _, _, _] _
    refine g_op (v := Value.int .i64 (i64w (r7.1 * 256))) rfl rfl rfl ?_
    show G _ _ _ _ [_, _, _, _, _, _, _, _, _, _, _, _, _, _, _, _, _, _, _, _] _
    refine g_op (v := Value.pointer (some ⟨b2, 0, none⟩)) rfl rfl rfl ?_
    show G _ _ _ _ [_, _, _, _, _, _, _, _, _, _, _, _, _, _, _, _, _, _, _, _] _
    obtain ⟨r8, Hr8, H⟩ := bind_get H
    have hs := hs.pull 0 rfl
    have hs : St _ [_, _] _ := hs
    have hs := hs.pack 1
    refine s_call (args := [Value.pointer (some ⟨b2, 0, none⟩)]) rfl rfl (x_call rfl (callFunc_enter Try.func25 rfl rfl) rfl) (_spec_l00Src_next.calls (a1 := (⟨a1.f_code, r7.2.f_at, r7.2.f_seed⟩ : S_spec_l00Src)) hs hr4 Hr8) ?_
    rintro _ w ⟨rfl, hs⟩
    have hs := St.unpack (Γ := [_]) hs
    have hs : St _ [_, _] _ := hs
    show G _ _ _ _ [_, _, _, _, _, _, _, _, _, _, _, _, _, _, _, _, _, _, _, _] _
    refine g_op (v := Value.int .i64 (i64w ((i64w (r7.1 * 256)) + r8.1))) rfl rfl rfl ?_
    show G _ _ _ _ [_, _, _, _, _, _, _, _, _, _, _, _, _, _, _, _, _, _, _, _] _
    refine g_op (v := Value.int .i64 (i64w ((i64w (r7.1 * 256)) + r8.1))) rfl rfl rfl ?_
    show G _ _ _ _ [_, _, _, _, _, _, _, _, _, _, _, _, _, _, _, _, _, _, _, _] _
    refine g_ops_nil ?_
    refine g_seq ?_
    refine g_region ?_
    show G _ _ _ (.inRegion _ [0, 1, 2, 3] :: _) _ _
    refine g_op (v := Value.int .i64 (i64w ((i64w (r7.1 * 256)) + r8.1))) rfl rfl rfl ?_
    show G _ _ _ _ [_, _, _, _, _, _, _, _, _, _, _, _, _, _, _, _, _, _, _, _] _
    refine g_op (v := Value.int .i64 a6) rfl rfl rfl ?_
    show G _ _ _ _ [_, _, _, _, _, _, _, _, _, _, _, _, _, _, _, _, _, _, _, _] _
    obtain ⟨g1, H⟩ := ite_get H
    refine g_op (v := Value.int .i64 ((i64w ((i64w (r7.1 * 256)) + r8.1)).tmod a6)) rfl rfl (x_divrem rfl rfl rfl g1) ?_
    show G _ _ _ _ [_, _, _, _, _, _, _, _, _, _, _, _, _, _, _, _, _, _, _, _] _
    refine g_op (v := Value.int .i64 ((i64w ((i64w (r7.1 * 256)) + r8.1)).tmod a6)) rfl rfl rfl ?_
    show G _ _ _ _ [_, _, _, _, _, _, _, _, _, _, _, _, _, _, _, _, _, _, _, _] _
    refine g_ops_nil ?_
    obtain rfl := Option.some.inj H
    refine g_ret Try.func17 (v := Value.int .i64 ((i64w ((i64w (r7.1 * 256)) + r8.1)).tmod a6)) (res1 rfl rfl) ?_
    have hs := hs.pull 1 rfl
    have hs := hs.pull 1 rfl
    have hs : St _ [_, _] _ := St.take (Γ' := []) hs
    exact ⟨_, rfl, rfl, hs⟩
   ·
    intro hb
    rw [if_neg (b_dec_f hb)] at H
    show G _ _ _ _ [_, _, _, _, _, _, _, _, _, _, _, _, _, _, _, _, _, _, _, _] _
    refine g_ops_nil ?_
    refine g_cond_false rfl ?_
    refine g_skip ?_
    refine g_seq ?_
    refine g_region ?_
    show G _ _ _ (.inRegion _ [0, 1, 2, 3] :: _) _ _
    refine g_op (v := Value.int .i64 r7.1) rfl rfl rfl ?_
    show G _ _ _ _ [_, _, _, _, _, _, _, _, _, _, _, _, _, _, _, _, _, _, _, _] _
    refine g_op (v := Value.int .i64 a6) rfl rfl rfl ?_
    show G _ _ _ _ [_, _, _, _, _, _, _, _, _, _, _, _, _, _, _, _, _, _, _, _] _
    obtain ⟨g2, H⟩ := ite_get H
    refine g_op (v := Value.int .i64 (r7.1.tmod a6)) rfl rfl (x_divrem rfl rfl rfl g2) ?_
    show G _ _ _ _ [_, _, _, _, _, _, _, _, _, _, _, _, _, _, _, _, _, _, _, _] _
    refine g_op (v := Value.int .i64 (r7.1.tmod a6)) rfl rfl rfl ?_
    show G _ _ _ _ [_, _, _, _, _, _, _, _, _, _, _, _, _, _, _, _, _, _, _, _] _
    refine g_ops_nil ?_
    obtain rfl := Option.some.inj H
    refine g_ret Try.func17 (v := Value.int .i64 (r7.1.tmod a6)) (res1 rfl rfl) ?_
    have hs := hs.pull 1 rfl
    have hs := hs.pull 1 rfl
    have hs : St _ [_, _] _ := St.take (Γ' := []) hs
    exact ⟨_, rfl, rfl, hs⟩

/- function 15 spec_l01Drawn -/
def spec_l01Drawn.post (wb : World) (Z : As) (b2 : Nat) (v3 : Value) (r : ((List Int) × S_spec_l00Src)) (v : Value) (w : World) : Prop := ∃ u1 : Value, v = u1 ∧ St wb [Row 37 (K.int .i16) u1 r.1, Cells b2 (([v3, Value.int .i64 r.2.f_at, Value.int .u64 r.2.f_seed] : List Value)) 49, Z] w
set_option maxHeartbeats 8000000 in
set_option maxRecDepth 100000 in
theorem spec_l01Drawn.calls {N : Nat} {a1 : S_spec_l00Src} {b2 : Nat} {v3 : Value} {wb : World} {Z : As} {w0 : World} {r : ((List Int) × S_spec_l00Src)} (hs : St wb [Cells b2 (([v3, Value.int .i64 a1.f_at, Value.int .u64 a1.f_seed] : List Value)) 49, Z] w0) (hr4 : RdRow (K.int .u8) wb v3 a1.f_code) (H : spec_l01Drawn.f N a1 = some r) :
    Calls Try.prog 15 #[Value.pointer (some ⟨b2, 0, none⟩)] w0 fun e w => ∃ v, e = .returned v ∧ spec_l01Drawn.post wb Z b2 v3 r v w := by
  unfold spec_l01Drawn.f at H
  refine calls_of_g (n := 42) Try.func15 rfl rfl ?_
  show G _ _ _ _ [_, _, _, _, _, _, _, _, _, _, _, _, _, _, _, _, _, _, _, _, _, _, _, _, _, _, _, _, _, _, _, _, _, _, _, _, _, _, _, _, _, _, _] _
  refine g_seq ?_
  refine g_region ?_
  show G _ _ _ (.inRegion _ [0] :: _) _ _
  refine g_op (v := Value.slice none 0 0) rfl rfl rfl ?_
  show G _ _ _ _ [_, _, _, _, _, _, _, _, _, _, _, _, _, _, _, _, _, _, _, _, _, _, _, _, _, _, _, _, _, _, _, _, _, _, _, _, _, _, _, _, _, _, _] _
  refine g_ops_nil ?_
  refine g_seq ?_
  refine g_seq ?_
  refine g_region ?_
  show G _ _ _ (.inRegion _ [0, 1] :: _) _ _
  refine g_op (v := Value.pointer (some ⟨b2, 0, none⟩)) rfl rfl rfl ?_
  obtain ⟨r6, Hr6, H⟩ := bind_get H
  have hs := hs.pull 0 rfl
  have hs : St _ [_, _] _ := hs
  have hs := hs.pack 1
  refine s_call (args := [Value.pointer (some ⟨b2, 0, none⟩), Value.int .i64 4]) rfl rfl (x_call rfl (callFunc_enter Try.func17 rfl rfl) rfl) (_spec_l00Src_pick.calls (a1 := (⟨a1.f_code, a1.f_at, a1.f_seed⟩ : S_spec_l00Src)) (a6 := 4) hs hr4 Hr6) ?_
  rintro _ w ⟨rfl, hs⟩
  have hs := St.unpack (Γ := [_]) hs
  have hs : St _ [_, _] _ := hs
  show G _ _ _ _ [_, _, _, _, _, _, _, _, _, _, _, _, _, _, _, _, _, _, _, _, _, _, _, _, _, _, _, _, _, _, _, _, _, _, _, _, _, _, _, _, _, _, _] _
  refine g_ops_nil ?_
  refine g_block ?_
  refine g_seq ?_
  refine g_region ?_
  show G _ _ _ (.inRegion _ [0, 1] :: _) _ _
  refine g_op_b (B := r6.1 == 0) rfl rfl rfl ?_ ?_
  ·
   intro hb
   rw [if_pos (b_beq_t hb)] at H
   show G _ _ _ _ [_, _, _, _, _, _, _, _, _, _, _, _, _, _, _, _, _, _, _, _, _, _, _, _, _, _, _, _, _, _, _, _, _, _, _, _, _, _, _, _, _, _, _] _
   refine g_op (v := Value.bool true) rfl rfl rfl ?_
   show G _ _ _ _ [_, _, _, _, _, _, _, _, _, _, _, _, _, _, _, _, _, _, _, _, _, _, _, _, _, _, _, _, _, _, _, _, _, _, _, _, _, _, _, _, _, _, _] _
   refine g_ops_nil ?_
   refine g_cond_true rfl ?_
   refine g_seq ?_
   refine g_region ?_
   show G _ _ _ (.inRegion _ [0, 1, 2, 3, 4, 5] :: _) _ _
   refine s_litN (fkI .i16) (Value.int .i16) (fun _ => rfl) rfl (ys := [1, 3, 9, 27]) rfl hs rfl rfl rfl rfl (fun _ => rfl) (zv := (Value.int .i16 0)) (zc := (Value.int .i16 0)) (fun _ => rfl) rfl (by decide) (by decide) rfl ?_
   intro v7 w hs
   show G _ _ _ _ [_, _, _, _, _, _, _, _, _, _, _, _, _, _, _, _, _, _, _, _, _, _, _, _, _, _, _, _, _, _, _, _, _, _, _, _, _, _, _, _, _, _, _] _
   refine g_op (v := Value.pointer (some ⟨b2, 0, none⟩)) rfl rfl rfl ?_
   obtain ⟨r9, Hr9, H⟩ := bind_get H
   have hs := hs.pull 1 rfl
   have hs : St _ [_, _, _] _ := hs
   have hs := hs.pack 1
   refine s_call (args := [Value.pointer (some ⟨b2, 0, none⟩), Value.int .i64 4]) rfl rfl (x_call rfl (callFunc_enter Try.func17 rfl rfl) rfl) (_spec_l00Src_pick.calls (a1 := (⟨a1.f_code, r6.2.f_at, r6.2.f_seed⟩ : S_spec_l00Src)) (a6 := 4) hs hr4 Hr9) ?_
   rintro _ w ⟨rfl, hs⟩
   have hs := St.unpack (Γ := [_]) hs
   have hs : St _ [_, _, _] _ := hs
   show G _ _ _ _ [_, _, _, _, _, _, _, _, _, _, _, _, _, _, _, _, _, _, _, _, _, _, _, _, _, _, _, _, _, _, _, _, _, _, _, _, _, _, _, _, _, _, _] _
   refine g_op (v := Value.int .i64 (i64w (1 + r9.1))) rfl rfl rfl ?_
   show G _ _ _ _ [_, _, _, _, _, _, _, _, _, _, _, _, _, _, _, _, _, _, _, _, _, _, _, _, _, _, _, _, _, _, _, _, _, _, _, _, _, _, _, _, _, _, _] _
   obtain ⟨g1, H⟩ := ite_get H
   refine g_op (v := subV v7 1 ((0 : Int)).toNat ((i64w (1 + r9.1))).toNat) rfl rfl (x_slice (hs.row 1 rfl) rfl rfl (fun _ => rfl) rfl (.inl ⟨rfl, rfl⟩) (.inr ⟨_, _, rfl, rfl⟩) g1.1 g1.2.1 g1.2.2) ?_
   show G _ _ _ _ [_, _, _, _, _, _, _, _, _, _, _, _, _, _, _, _, _, _, _, _, _, _, _, _, _, _, _, _, _, _, _, _, _, _, _, _, _, _, _, _, _, _, _] _
   refine g_op (v := subV v7 1 ((0 : Int)).toNat ((i64w (1 + r9.1))).toNat) rfl rfl rfl ?_
   show G _ _ _ _ [_, _, _, _, _, _, _, _, _, _, _, _, _, _, _, _, _, _, _, _, _, _, _, _, _, _, _, _, _, _, _, _, _, _, _, _, _, _, _, _, _, _, _] _
   refine g_ops_nil ?_
   obtain rfl := Option.some.inj H
   have hs := hs.pull 1 rfl
   have hs : St _ [_, _, _] _ := hs
   have hs := hs.prefix (fkI .i16) 1 g1.2.2
   refine g_ret Try.func15 (v := subV v7 1 ((0 : Int)).toNat ((i64w (1 + r9.1))).toNat) (res1 rfl rfl) ?_
   have hs := hs.pull 2 rfl
   have hs := hs.pull 2 rfl
   have hs := hs.pull 2 rfl
   have hs : St _ [_, _, _] _ := St.take (Γ' := []) hs
   exact ⟨_, rfl, subV v7 1 ((0 : Int)).toNat ((i64w (1 + r9.1))).toNat, rfl, hs⟩
  ·
   intro hb
   rw [if_neg (b_beq_f hb)] at H
   show G _ _ _ _ [_, _, _, _, _, _, _, _, _, _, _, _, _, _, _, _, _, _, _, _, _, _, _, _, _, _, _, _, _, _, _, _, _, _, _, _, _, _, _, _, _, _, _] _
   refine g_op (v := Value.bool false) rfl rfl rfl ?_
   show G _ _ _ _ [_, _, _, _, _, _, _, _, _, _, _, _, _, _, _, _, _, _, _, _, _, _, _, _, _, _, _, _, _, _, _, _, _, _, _, _, _, _, _, _, _, _, _] _
   refine g_ops_nil ?_
   refine g_cond_false rfl ?_
   refine g_seq ?_
   refine g_region ?_
   show G _ _ _ (.inRegion _ [0, 1] :: _) _ _
   refine g_op_b (B := r6.1 == 1) rfl rfl rfl ?_ ?_
   ·
    intro hb
    rw [if_pos (b_beq_t hb)] at H
    show G _ _ _ _ [_, _, _, _, _, _, _, _, _, _, _, _, _, _, _, _, _, _, _, _, _, _, _, _, _, _, _, _, _, _, _, _, _, _, _, _, _, _, _, _, _, _, _] _
    refine g_op (v := Value.bool true) rfl rfl rfl ?_
    show G _ _ _ _ [_, _, _, _, _, _, _, _, _, _, _, _, _, _, _, _, _, _, _, _, _, _, _, _, _, _, _, _, _, _, _, _, _, _, _, _, _, _, _, _, _, _, _] _
    refine g_ops_nil ?_
    refine g_cond_true rfl ?_
    refine g_seq ?_
    refine g_region ?_
    show G _ _ _ (.inRegion _ [0, 1, 2, 3, 4, 5] :: _) _ _
    refine s_litN (fkI .i16) (Value.int .i16) (fun _ => rfl) rfl (ys := [1, 2, 4, 8, 16]) rfl hs rfl rfl rfl rfl (fun _ => rfl) (zv := (Value.int .i16 0)) (zc := (Value.int .i16 0)) (fun _ => rfl) rfl (by decide) (by decide) rfl ?_
    intro v10 w hs
    show G _ _ _ _ [_, _, _, _, _, _, _, _, _, _, _, _, _, _, _, _, _, _, _, _, _, _, _, _, _, _, _, _, _, _, _, _, _, _, _, _, _, _, _, _, _, _, _] _
    refine g_op (v := Value.pointer (some ⟨b2, 0, none⟩)) rfl rfl rfl ?_
    obtain ⟨r12, Hr12, H⟩ := bind_get H
    have hs := hs.pull 1 rfl
    have hs : St _ [_, _, _] _ := hs
    have hs := hs.pack 1
    refine s_call (args := [Value.pointer (some ⟨b2, 0, none⟩), Value.int .i64 5]) rfl rfl (x_call rfl (callFunc_enter Try.func17 rfl rfl) rfl) (_spec_l00Src_pick.calls (a1 := (⟨a1.f_code, r6.2.f_at, r6.2.f_seed⟩ : S_spec_l00Src)) (a6 := 5) hs hr4 Hr12) ?_
    rintro _ w ⟨rfl, hs⟩
    have hs := St.unpack (Γ := [_]) hs
    have hs : St _ [_, _, _] _ := hs
    show G _ _ _ _ [_, _, _, _, _, _, _, _, _, _, _, _, _, _, _, _, _, _, _, _, _, _, _, _, _, _, _, _, _, _, _, _, _, _, _, _, _, _, _, _, _, _, _] _
    refine g_op (v := Value.int .i64 (i64w (1 + r12.1))) rfl rfl rfl ?_
    show G _ _ _ _ [_, _, _, _, _, _, _, _, _, _, _, _, _, _, _, _, _, _, _, _, _, _, _, _, _, _, _, _, _, _, _, _, _, _, _, _, _, _, _, _, _, _, _] _
    obtain ⟨g2, H⟩ := ite_get H
    refine g_op (v := subV v10 1 ((0 : Int)).toNat ((i64w (1 + r12.1))).toNat) rfl rfl (x_slice (hs.row 1 rfl) rfl rfl (fun _ => rfl) rfl (.inl ⟨rfl, rfl⟩) (.inr ⟨_, _, rfl, rfl⟩) g2.1 g2.2.1 g2.2.2) ?_
    show G _ _ _ _ [_, _, _, _, _, _, _, _, _, _, _, _, _, _, _, _, _, _, _, _, _, _, _, _, _, _, _, _, _, _, _, _, _, _, _, _, _, _, _, _, _, _, _] _
    refine g_op (v := subV v10 1 ((0 : Int)).toNat ((i64w (1 + r12.1))).toNat) rfl rfl rfl ?_
    show G _ _ _ _ [_, _, _, _, _, _, _, _, _, _, _, _, _, _, _, _, _, _, _, _, _, _, _, _, _, _, _, _, _, _, _, _, _, _, _, _, _, _, _, _, _, _, _] _
    refine g_ops_nil ?_
    obtain rfl := Option.some.inj H
    have hs := hs.pull 1 rfl
    have hs : St _ [_, _, _] _ := hs
    have hs := hs.prefix (fkI .i16) 1 g2.2.2
    refine g_ret Try.func15 (v := subV v10 1 ((0 : Int)).toNat ((i64w (1 + r12.1))).toNat) (res1 rfl rfl) ?_
    have hs := hs.pull 2 rfl
    have hs := hs.pull 2 rfl
    have hs := hs.pull 2 rfl
    have hs : St _ [_, _, _] _ := St.take (Γ' := []) hs
    exact ⟨_, rfl, subV v10 1 ((0 : Int)).toNat ((i64w (1 + r12.1))).toNat, rfl, hs⟩
   ·
    intro hb
    rw [if_neg (b_beq_f hb)] at H
    show G _ _ _ _ [_, _, _, _, _, _, _, _, _, _, _, _, _, _, _, _, _, _, _, _, _, _, _, _, _, _, _, _, _, _, _, _, _, _, _, _, _, _, _, _, _, _, _] _
    refine g_op (v := Value.bool false) rfl rfl rfl ?_
    show G _ _ _ _ [_, _, _, _, _, _, _, _, _, _, _, _, _, _, _, _, _, _, _, _, _, _, _, _, _, _, _, _, _, _, _, _, _, _, _, _, _, _, _, _, _, _, _] _
    refine g_ops_nil ?_
    refine g_cond_false rfl ?_
    refine g_skip ?_
    refine g_inBlock ?_
    refine g_seq ?_
    refine g_region ?_
    show G _ _ _ (.inRegion _ [0, 1] :: _) _ _
    refine s_lit0 (κ := (K.int .i16)) hs rfl rfl rfl rfl (fun _ => rfl) ?_
    intro v13 w hs
    show G _ _ _ _ [_, _, _, _, _, _, _, _, _, _, _, _, _, _, _, _, _, _, _, _, _, _, _, _, _, _, _, _, _, _, _, _, _, _, _, _, _, _, _, _, _, _, _] _
    refine g_op (v := v13) rfl rfl rfl ?_
    show G _ _ _ _ [_, _, _, _, _, _, _, _, _, _, _, _, _, _, _, _, _, _, _, _, _, _, _, _, _, _, _, _, _, _, _, _, _, _, _, _, _, _, _, _, _, _, _] _
    refine g_ops_nil ?_
    refine g_seq ?_
    refine g_region ?_
    show G _ _ _ (.inRegion _ [0, 1, 2, 3] :: _) _ _
    refine g_op (v := Value.pointer (some ⟨b2, 0, none⟩)) rfl rfl rfl ?_
    obtain ⟨r15, Hr15, H⟩ := bind_get H
    have hs := hs.pull 1 rfl
    have hs : St _ [_, _, _] _ := hs
    have hs := hs.pack 1
    refine s_call (args := [Value.pointer (some ⟨b2, 0, none⟩), Value.int .i64 3]) rfl rfl (x_call rfl (callFunc_enter Try.func17 rfl rfl) rfl) (_spec_l00Src_pick.calls (a1 := (⟨a1.f_code, r6.2.f_at, r6.2.f_seed⟩ : S_spec_l00Src)) (a6 := 3) hs hr4 Hr15) ?_
    rintro _ w ⟨rfl, hs⟩
    have hs := St.unpack (Γ := [_]) hs
    have hs : St _ [_, _, _] _ := hs
    show G _ _ _ _ [_, _, _, _, _, _, _, _, _, _, _, _, _, _, _, _, _, _, _, _, _, _, _, _, _, _, _, _, _, _, _, _, _, _, _, _, _, _, _, _, _, _, _] _
    refine g_op (v := Value.int .i64 (i64w (1 + r15.1))) rfl rfl rfl ?_
    show G _ _ _ _ [_, _, _, _, _, _, _, _, _, _, _, _, _, _, _, _, _, _, _, _, _, _, _, _, _, _, _, _, _, _, _, _, _, _, _, _, _, _, _, _, _, _, _] _
    refine g_op (v := Value.int .i64 (i64w (1 + r15.1))) rfl rfl rfl ?_
    show G _ _ _ _ [_, _, _, _, _, _, _, _, _, _, _, _, _, _, _, _, _, _, _, _, _, _, _, _, _, _, _, _, _, _, _, _, _, _, _, _, _, _, _, _, _, _, _] _
    refine g_ops_nil ?_
    refine g_seq ?_
    refine g_seq ?_
    refine g_region ?_
    show G _ _ _ (.inRegion _ [0, 1, 2, 3] :: _) _ _
    refine g_op (v := Value.pointer (some ⟨b2, 0, none⟩)) rfl rfl rfl ?_
    obtain ⟨r16, Hr16, H⟩ := bind_get H
    have hs := hs.pull 0 rfl
    have hs : St _ [_, _, _] _ := hs
    have hs := hs.pack 1
    refine s_call (args := [Value.pointer (some ⟨b2, 0, none⟩), Value.int .i64 5]) rfl rfl (x_call rfl (callFunc_enter Try.func17 rfl rfl) rfl) (_spec_l00Src_pick.calls (a1 := (⟨a1.f_code, r15.2.f_at, r15.2.f_seed⟩ : S_spec_l00Src)) (a6 := 5) hs hr4 Hr16) ?_
    rintro _ w ⟨rfl, hs⟩
    have hs := St.unpack (Γ := [_]) hs
    have hs : St _ [_, _, _] _ := hs
    show G _ _ _ _ [_, _, _, _, _, _, _, _, _, _, _, _, _, _, _, _, _, _, _, _, _, _, _, _, _, _, _, _, _, _, _, _, _, _, _, _, _, _, _, _, _, _, _] _
    refine g_op (v := Value.int .i64 (i64w (1 + r16.1))) rfl rfl rfl ?_
    show G _ _ _ _ [_, _, _, _, _, _, _, _, _, _, _, _, _, _, _, _, _, _, _, _, _, _, _, _, _, _, _, _, _, _, _, _, _, _, _, _, _, _, _, _, _, _, _] _
    refine g_op (v := Value.int .i64 (i64w (1 + r16.1))) rfl rfl rfl ?_
    show G _ _ _ _ [_, _, _, _, _, _, _, _, _, _, _, _, _, _, _, _, _, _, _, _, _, _, _, _, _, _, _, _, _, _, _, _, _, _, _, _, _, _, _, _, _, _, _] _
    refine g_ops_nil ?_
    obtain ⟨o1_, Ho, Hr1_⟩ := bind_get H
    refine g_block_join (J := fun t w => ∃ v39 : Value, ∃ x40 : (List Int), ∃ x42 : Int, ∃ x43 : Int, spec_l01Drawn.a0 N a1 x40 x42 x43 = some r ∧ Fr t (fun O => ([O 0, O 1, O 2, v39, O 4, O 5, O 6, O 7, O 8, O 9, O 10, O 11, O 12, O 13, O 14, O 15, O 16, O 17, O 18, O 19, O 20, O 21, O 22, O 23, O 24, O 25, O 26, O 27, O 28, O 29, O 30, O 31, O 32, O 33, O 34, O 35, O 36, O 37, O 38, O 39, O 40, O 41, O 42] : List Value)) ∧ St wb [Row 37 (K.int .i16) v39 x40, Cells b2 (([v3, Value.int .i64 x42, Value.int .u64 x43] : List Value)) 49, Z] w) ?_ ?_
    ·
     rintro t w ⟨v39, x40, x42, x43, H, hf, hs⟩
     obtain ⟨O, rfl⟩ := hf.open
     show G _ _ _ _ [_, _, _, _, _, _, _, _, _, _, _, _, _, _, _, _, _, _, _, _, _, _, _, _, _, _, _, _, _, _, _, _, _, _, _, _, _, _, _, _, _, _, _] _
     unfold spec_l01Drawn.a0 at H
     refine g_seq ?_
     refine g_region ?_
     show G _ _ _ (.inRegion _ [0, 1] :: _) _ _
     refine g_op (v := v39) rfl rfl rfl ?_
     refine g_op (v := v39) rfl rfl rfl ?_
     show G _ _ _ _ [_, _, _, _, _, _, _, _, _, _, _, _, _, _, _, _, _, _, _, _, _, _, _, _, _, _, _, _, _, _, _, _, _, _, _, _, _, _, _, _, _, _, _] _
     refine g_ops_nil ?_
     obtain rfl := Option.some.inj H
     refine g_ret Try.func15 (v := v39) (res1 rfl rfl) ?_
     have hs := hs.pull 2 rfl
     have hs := hs.pull 2 rfl
     have hs := hs.pull 2 rfl
     have hs : St _ [_, _, _] _ := St.take (Γ' := []) hs
     exact ⟨_, rfl, v39, rfl, hs⟩
    ·
     intro ha1_
     have hs := hs.pull 2 rfl
     have hs := hs.pull 2 rfl
     have hs := hs.pull 2 rfl
     have hs : St _ [_, _, _] _ := St.take (Γ' := []) hs
     refine g_loop_fuel (I := fun n_ t w => ∃ x27 : Int, ∃ x28 : Int, ∃ v30 : Value, ∃ x31 : (List Int), ∃ x32 : Int, ∃ x33 : Int, rounds (fun s => spec_l01Drawn.b0 N a1 s.1 s.2.1 s.2.2.1 s.2.2.2.1 s.2.2.2.2) n_ (x27, x28, x31, x32, x33) = some o1_ ∧ Fr t (fun O => ([Value.pointer (some ⟨b2, 0, none⟩), O 1, O 2, v30, Value.int .i64 x32, Value.int .i64 x33, O 6, O 7, O 8, O 9, O 10, O 11, O 12, O 13, O 14, O 15, O 16, O 17, O 18, O 19, O 20, O 21, O 22, O 23, O 24, O 25, O 26, O 27, O 28, O 29, O 30, O 31, O 32, O 33, O 34, O 35, O 36, O 37, O 38, O 39, O 40, O 41, O 42] : List Value)) ∧ St wb [Cells b2 (([v3, Value.int .i64 x27, Value.int .u64 x28] : List Value)) 49, Row 37 (K.int .i16) v30 x31, Z] w) N ⟨r16.2.f_at, r16.2.f_seed, v13, ([] : List Int), i64w (1 + r15.1), i64w (1 + r16.1), Ho, rfl, hs⟩ ?_ ?_
     ·
      rintro _ _ ⟨x27, x28, v30, x31, x32, x33, h, _⟩
      exact rounds_zero h
     ·
      intro n_ ih1_
      rintro t w ⟨x27, x28, v30, x31, x32, x33, Ho, hf, hs⟩
      obtain ⟨O, rfl⟩ := hf.open
      show G _ _ _ _ [_, _, _, _, _, _, _, _, _, _, _, _, _, _, _, _, _, _, _, _, _, _, _, _, _, _, _, _, _, _, _, _, _, _, _, _, _, _, _, _, _, _, _] _
      obtain ⟨x3_, H, Hx1_⟩ := rounds_succ Ho
      have H : spec_l01Drawn.b0 N a1 x27 x28 x31 x32 x33 = some x3_ := H
      unfold spec_l01Drawn.b0 at H
      refine g_seq ?_
      refine g_seq ?_
      refine g_region ?_
      show G _ _ _ (.inRegion _ [0, 1] :: _) _ _
      refine g_op (v := Value.int .i64 x33) rfl rfl rfl ?_
      refine g_op_b (B := decide (x33 > 0)) rfl rfl rfl ?_ ?_
      ·
       intro hb
       rw [if_pos (b_dec_t hb)] at H
       show G _ _ _ _ [_, _, _, _, _, _, _, _, _, _, _, _, _, _, _, _, _, _, _, _, _, _, _, _, _, _, _, _, _, _, _, _, _, _, _, _, _, _, _, _, _, _, _] _
       refine g_ops_nil ?_
       refine g_cond_true rfl ?_
       refine g_skip ?_
       refine g_seq ?_
       refine g_block ?_
       refine g_seq ?_
       refine g_region ?_
       show G _ _ _ (.inRegion _ [0, 1, 2, 3, 4, 5] :: _) _ _
       refine g_op (v := v30) rfl rfl rfl ?_
       refine g_op (v := Value.int .i64 x32) rfl rfl rfl ?_
       refine g_op (v := Value.int .i16 (i16w x32)) rfl rfl rfl ?_
       refine s_lit1 (fkI .i16) (y := i16w x32) hs rfl rfl rfl rfl (fun _ => rfl) (zv := (Value.int .i16 0)) (fun _ => rfl) rfl (by decide) (by decide) rfl ?_
       intro v34 w hs
       show G _ _ _ _ [_, _, _, _, _, _, _, _, _, _, _, _, _, _, _, _, _, _, _, _, _, _, _, _, _, _, _, _, _, _, _, _, _, _, _, _, _, _, _, _, _, _, _] _
       have hs := hs.pull 2 rfl
       have hs : St _ [_, _, _, _] _ := hs
       obtain ⟨g, H⟩ := ite_get H
       refine s_append (fkI .i16) (zv := (Value.int .i16 0)) (B := 2) hs (hs.row 1 rfl) rfl rfl rfl rfl rfl rfl rfl rfl rfl (by decide) rfl rfl (by decide) (by omega) ?_
       intro v36 w hs
       show G _ _ _ _ [_, _, _, _, _, _, _, _, _, _, _, _, _, _, _, _, _, _, _, _, _, _, _, _, _, _, _, _, _, _, _, _, _, _, _, _, _, _, _, _, _, _, _] _
       refine g_op (v := v36) rfl rfl rfl ?_
       show G _ _ _ _ [_, _, _, _, _, _, _, _, _, _, _, _, _, _, _, _, _, _, _, _, _, _, _, _, _, _, _, _, _, _, _, _, _, _, _, _, _, _, _, _, _, _, _] _
       refine g_ops_nil ?_
       refine g_region ?_
       show G _ _ _ (.inRegion _ [0, 1, 2, 3, 4] :: _) _ _
       refine g_op (v := Value.int .i64 x32) rfl rfl rfl ?_
       refine g_op (v := Value.pointer (some ⟨b2, 0, none⟩)) rfl rfl rfl ?_
       obtain ⟨r38, Hr38, H⟩ := bind_get H
       have hs := hs.pull 2 rfl
       have hs : St _ [_, _, _, _] _ := hs
       have hs := hs.pack 1
       refine s_call (args := [Value.pointer (some ⟨b2, 0, none⟩), Value.int .i64 9]) rfl rfl (x_call rfl (callFunc_enter Try.func17 rfl rfl) rfl) (_spec_l00Src_pick.calls (a1 := (⟨a1.f_code, x27, x28⟩ : S_spec_l00Src)) (a6 := 9) hs hr4 Hr38) ?_
       rintro _ w ⟨rfl, hs⟩
       have hs := St.unpack (Γ := [_]) hs
       have hs : St _ [_, _, _, _] _ := hs
       show G _ _ _ _ [_, _, _, _, _, _, _, _, _, _, _, _, _, _, _, _, _, _, _, _, _, _, _, _, _, _, _, _, _, _, _, _, _, _, _, _, _, _, _, _, _, _, _] _
       refine g_op (v := Value.int .i64 (i64w (x32 + r38.1))) rfl rfl rfl ?_
       show G _ _ _ _ [_, _, _, _, _, _, _, _, _, _, _, _, _, _, _, _, _, _, _, _, _, _, _, _, _, _, _, _, _, _, _, _, _, _, _, _, _, _, _, _, _, _, _] _
       refine g_op (v := Value.int .i64 (i64w (x32 + r38.1))) rfl rfl rfl ?_
       show G _ _ _ _ [_, _, _, _, _, _, _, _, _, _, _, _, _, _, _, _, _, _, _, _, _, _, _, _, _, _, _, _, _, _, _, _, _, _, _, _, _, _, _, _, _, _, _] _
       refine g_ops_nil ?_
       refine g_inBlock ?_
       refine g_region ?_
       show G _ _ _ (.inRegion _ [0, 1, 2] :: _) _ _
       refine g_op (v := Value.int .i64 x33) rfl rfl rfl ?_
       refine g_op (v := Value.int .i64 (i64w (x33 - 1))) rfl rfl rfl ?_
       show G _ _ _ _ [_, _, _, _, _, _, _, _, _, _, _, _, _, _, _, _, _, _, _, _, _, _, _, _, _, _, _, _, _, _, _, _, _, _, _, _, _, _, _, _, _, _, _] _
       refine g_op (v := Value.int .i64 (i64w (x33 - 1))) rfl rfl rfl ?_
       show G _ _ _ _ [_, _, _, _, _, _, _, _, _, _, _, _, _, _, _, _, _, _, _, _, _, _, _, _, _, _, _, _, _, _, _, _, _, _, _, _, _, _, _, _, _, _, _] _
       refine g_ops_nil ?_
       obtain rfl := Option.some.inj H
       have hs := hs.pull 3 rfl
       have hs := hs.pull 2 rfl
       have hs := hs.pull 2 rfl
       have hs : St _ [_, _, _] _ := St.take (Γ' := [_]) hs
       exact ih1_ _ _ ⟨r38.2.f_at, r38.2.f_seed, v36, x31 ++ ([i16w x32]), i64w (x32 + r38.1), i64w (x33 - 1), Hx1_, rfl, hs⟩
      ·
       intro hb
       rw [if_neg (b_dec_f hb)] at H
       show G _ _ _ _ [_, _, _, _, _, _, _, _, _, _, _, _, _, _, _, _, _, _, _, _, _, _, _, _, _, _, _, _, _, _, _, _, _, _, _, _, _, _, _, _, _, _, _] _
       refine g_ops_nil ?_
       refine g_cond_false rfl ?_
       obtain rfl := Option.some.inj H
       subst Hx1_
       have hs := hs.pull 2 rfl
       have hs := hs.pull 1 rfl
       have hs := hs.pull 2 rfl
       have hs : St _ [_, _, _] _ := St.take (Γ' := []) hs
       refine g_exit rfl ?_
       exact ha1_ _ _ ⟨v30, x31, x27, x28, Hr1_, rfl, hs⟩

/- function 5 spec_A2Weights -/
def spec_A2Weights.post (w0 : World) (r : (List Int)) (v : Value) (w : World) : Prop := St w0 [Row 37 (K.int .i16) v r] w
set_option maxHeartbeats 8000000 in
set_option maxRecDepth 100000 in
theorem spec_A2Weights.calls {N : Nat} {a1 : (List Int)} {v2 : Value} {w0 : World} {r : (List Int)} (hr0 : RdRow (K.int .u8) w0 v2 a1) (H : spec_A2Weights.f N a1 = some r) :
    Calls Try.prog 5 #[v2] w0 fun e w => ∃ v, e = .returned v ∧ spec_A2Weights.post w0 r v w := by
  unfold spec_A2Weights.f at H
  have hs : St w0 [] w0 := St.refl w0
  refine calls_of_g (n := 5) Try.func5 rfl rfl ?_
  show G _ _ _ _ [_, _, _, _, _, _] _
  refine g_seq ?_
  refine g_region ?_
  show G _ _ _ (.inRegion _ [0] :: _) _ _
  refine g_op (v := Value.slice none 0 0) rfl rfl rfl ?_
  show G _ _ _ _ [_, _, _, _, _, _] _
  refine g_ops_nil ?_
  refine g_seq ?_
  refine g_region ?_
  show G _ _ _ (.inRegion _ [0, 1, 2, 3] :: _) _ _
  refine g_op (v := v2) rfl rfl rfl ?_
  show G _ _ _ _ [_, _, _, _, _, _] _
  obtain ⟨r3, Hr3, H⟩ := bind_get H
  refine s_call (args := [v2]) rfl rfl (x_call rfl (callFunc_enter Try.func16 rfl rfl) rfl) (spec_l00From.calls (a1 := a1) (hs.rd hr0) Hr3) ?_
  rintro _ w ⟨b4, rfl, hs2⟩
  have hs : St _ [_] _ := hs.call hs2
  show G _ _ _ _ [_, _, _, _, _, _] _
  obtain ⟨r6, Hr6, H⟩ := bind_get H
  have hs := hs.pull 0 rfl
  have hs : St _ [_] _ := hs
  have hs := hs.pack 1
  refine s_call (args := [Value.pointer (some ⟨b4, 0, none⟩)]) rfl rfl (x_call rfl (callFunc_enter Try.func15 rfl rfl) rfl) (spec_l01Drawn.calls (a1 := (⟨a1, r3.f_at, r3.f_seed⟩ : S_spec_l00Src)) hs hr0 Hr6) ?_
  rintro v7 w ⟨_, rfl, hs⟩
  have hs := St.unpack (Γ := [_, _]) hs
  have hs : St _ [_, _] _ := hs
  show G _ _ _ _ [_, _, _, _, _, _] _
  refine g_op (v := v7) rfl rfl rfl ?_
  show G _ _ _ _ [_, _, _, _, _, _] _
  refine g_ops_nil ?_
  obtain rfl := Option.some.inj H
  refine g_ret Try.func5 (v := v7) (res1 rfl rfl) ?_
  have hs := hs.pull 0 rfl
  have hs : St _ [_] _ := St.take (Γ' := [_]) hs
  exact ⟨_, rfl, hs⟩

/- function 6 spec_A2Placing -/
def spec_A2Placing.post (w0 : World) (r : (List Int)) (v : Value) (w : World) : Prop := St w0 [Row 38 (K.int .i8) v r] w
set_option maxHeartbeats 8000000 in
set_option maxRecDepth 100000 in
theorem spec_A2Placing.calls {N : Nat} {a1 : (List Int)} {a3 : (List Int)} {v2 : Value} {v4 : Value} {w0 : World} {r : (List Int)} (hr0 : RdRow (K.int .u8) w0 v2 a1) (hr1 : RdRow (K.int .i16) w0 v4 a3) (H : spec_A2Placing.f N a1 a3 = some r) :
    Calls Try.prog 6 #[v2, v4] w0 fun e w => ∃ v, e = .returned v ∧ spec_A2Placing.post w0 r v w := by
  unfold spec_A2Placing.f at H
  have hs : St w0 [] w0 := St.refl w0
  refine calls_of_g (n := 23) Try.func6 rfl rfl ?_
  show G _ _ _ _ [_, _, _, _, _, _, _, _, _, _, _, _, _, _, _, _, _, _, _, _, _, _, _, _, _] _
  refine g_seq ?_
  refine g_region ?_
  show G _ _ _ (.inRegion _ [0] :: _) _ _
  refine g_op (v := Value.slice none 0 0) rfl rfl rfl ?_
  show G _ _ _ _ [_, _, _, _, _, _, _, _, _, _, _, _, _, _, _, _, _, _, _, _, _, _, _, _, _] _
  refine g_ops_nil ?_
  refine g_seq ?_
  refine g_region ?_
  show G _ _ _ (.inRegion _ [0, 1, 2] :: _) _ _
  refine g_op (v := v2) rfl rfl rfl ?_
  show G _ _ _ _ [_, _, _, _, _, _, _, _, _, _, _, _, _, _, _, _, _, _, _, _, _, _, _, _, _] _
  obtain ⟨r5, Hr5, H⟩ := bind_get H
  refine s_call (args := [v2]) rfl rfl (x_call rfl (callFunc_enter Try.func16 rfl rfl) rfl) (spec_l00From.calls (a1 := a1) (hs.rd hr0) Hr5) ?_
  rintro _ w ⟨b6, rfl, hs2⟩
  have hs : St _ [_] _ := hs.call hs2
  show G _ _ _ _ [_, _, _, _, _, _, _, _, _, _, _, _, _, _, _, _, _, _, _, _, _, _, _, _, _] _
  refine g_op (v := Value.pointer (some ⟨b6, 0, none⟩)) rfl rfl rfl ?_
  show G _ _ _ _ [_, _, _, _, _, _, _, _, _, _, _, _, _, _, _, _, _, _, _, _, _, _, _, _, _] _
  refine g_ops_nil ?_
  refine g_seq ?_
  refine g_region ?_
  show G _ _ _ (.inRegion _ [0, 1] :: _) _ _
  refine s_lit0 (κ := (K.int .i8)) hs rfl rfl rfl rfl (fun _ => rfl) ?_
  intro v8 w hs
  show G _ _ _ _ [_, _, _, _, _, _, _, _, _, _, _, _, _, _, _, _, _, _, _, _, _, _, _, _, _] _
  refine g_op (v := v8) rfl rfl rfl ?_
  show G _ _ _ _ [_, _, _, _, _, _, _, _, _, _, _, _, _, _, _, _, _, _, _, _, _, _, _, _, _] _
  refine g_ops_nil ?_
  refine g_seq ?_
  refine g_seq ?_
  refine g_region ?_
  show G _ _ _ (.inRegion _ [0] :: _) _ _
  refine g_op (v := Value.int .i64 0) rfl rfl rfl ?_
  show G _ _ _ _ [_, _, _, _, _, _, _, _, _, _, _, _, _, _, _, _, _, _, _, _, _, _, _, _, _] _
  refine g_ops_nil ?_
  obtain ⟨o1_, Ho, Hr1_⟩ := bind_get H
  refine g_block_join (J := fun t w => ∃ v30 : Value, ∃ x31 : (List Int), spec_A2Placing.a0 N x31 = some r ∧ Fr t (fun O => ([O 0, O 1, O 2, O 3, O 4, O 5, v30, O 7, O 8, O 9, O 10, O 11, O 12, O 13, O 14, O 15, O 16, O 17, O 18, O 19, O 20, O 21, O 22, O 23, O 24] : List Value)) ∧ St w0 [Row 38 (K.int .i8) v30 x31] w) ?_ ?_
  ·
   rintro t w ⟨v30, x31, H, hf, hs⟩
   obtain ⟨O, rfl⟩ := hf.open
   show G _ _ _ _ [_, _, _, _, _, _, _, _, _, _, _, _, _, _, _, _, _, _, _, _, _, _, _, _, _] _
   unfold spec_A2Placing.a0 at H
   refine g_seq ?_
   refine g_region ?_
   show G _ _ _ (.inRegion _ [0, 1] :: _) _ _
   refine g_op (v := v30) rfl rfl rfl ?_
   show G _ _ _ _ [_, _, _, _, _, _, _, _, _, _, _, _, _, _, _, _, _, _, _, _, _, _, _, _, _] _
   refine g_op (v := v30) rfl rfl rfl ?_
   show G _ _ _ _ [_, _, _, _, _, _, _, _, _, _, _, _, _, _, _, _, _, _, _, _, _, _, _, _, _] _
   refine g_ops_nil ?_
   obtain rfl := Option.some.inj H
   refine g_ret Try.func6 (v := v30) (res1 rfl rfl) ?_
   have hs := hs.pull 0 rfl
   have hs : St _ [_] _ := St.take (Γ' := []) hs
   exact ⟨_, rfl, hs⟩
  ·
   intro ha1_
   have hs := hs.pull 0 rfl
   have hs := hs.pull 1 rfl
   have hs : St _ [_, _] _ := St.take (Γ' := []) hs
   refine g_loop_fuel (I := fun n_ t w => ∃ x19 : Int, ∃ x20 : Int, ∃ v22 : Value, ∃ x23 : (List Int), ∃ x24 : Int, rounds (fun s => spec_A2Placing.b0 N a3 a1 s.1 s.2.1 s.2.2.1 s.2.2.2) n_ (x19, x20, x23, x24) = some o1_ ∧ Fr t (fun O => ([O 0, v4, O 2, O 3, O 4, Value.pointer (some ⟨b6, 0, none⟩), v22, Value.int .i64 x24, O 8, O 9, O 10, O 11, O 12, O 13, O 14, O 15, O 16, O 17, O 18, O 19, O 20, O 21, O 22, O 23, O 24] : List Value)) ∧ St w0 [Cells b6 (([v2, Value.int .i64 x19, Value.int .u64 x20] : List Value)) 49, Row 38 (K.int .i8) v22 x23] w) N ⟨r5.f_at, r5.f_seed, v8, ([] : List Int), 0, Ho, rfl, hs⟩ ?_ ?_
   ·
    rintro _ _ ⟨x19, x20, v22, x23, x24, h, _⟩
    exact rounds_zero h
   ·
    intro n_ ih1_
    rintro t w ⟨x19, x20, v22, x23, x24, Ho, hf, hs⟩
    obtain ⟨O, rfl⟩ := hf.open
    show G _ _ _ _ [_, _, _, _, _, _, _, _, _, _, _, _, _, _, _, _, _, _, _, _, _, _, _, _, _] _
    obtain ⟨x1_, H, Hx1_⟩ := rounds_succ Ho
    have H : spec_A2Placing.b0 N a3 a1 x19 x20 x23 x24 = some x1_ := H
    unfold spec_A2Placing.b0 at H
    refine g_seq ?_
    refine g_seq ?_
    refine g_region ?_
    show G _ _ _ (.inRegion _ [0, 1, 2, 3] :: _) _ _
    refine g_op (v := Value.int .i64 x24) rfl rfl rfl ?_
    show G _ _ _ _ [_, _, _, _, _, _, _, _, _, _, _, _, _, _, _, _, _, _, _, _, _, _, _, _, _] _
    refine g_op (v := v4) rfl rfl rfl ?_
    show G _ _ _ _ [_, _, _, _, _, _, _, _, _, _, _, _, _, _, _, _, _, _, _, _, _, _, _, _, _] _
    refine s_len (hs.rd hr1) rfl rfl rfl rfl rfl ?_
    show G _ _ _ _ [_, _, _, _, _, _, _, _, _, _, _, _, _, _, _, _, _, _, _, _, _, _, _, _, _] _
    refine g_op_b (B := decide (x24 < (a3.length : Int))) rfl rfl rfl ?_ ?_
    ·
     intro hb
     rw [if_pos (b_dec_t hb)] at H
     show G _ _ _ _ [_, _, _, _, _, _, _, _, _, _, _, _, _, _, _, _, _, _, _, _, _, _, _, _, _] _
     refine g_ops_nil ?_
     refine g_cond_true rfl ?_
     refine g_skip ?_
     refine g_seq ?_
     refine g_block ?_
     refine g_region ?_
     show G _ _ _ (.inRegion _ [0, 1, 2, 3, 4, 5, 6, 7] :: _) _ _
     refine g_op (v := v22) rfl rfl rfl ?_
     show G _ _ _ _ [_, _, _, _, _, _, _, _, _, _, _, _, _, _, _, _, _, _, _, _, _, _, _, _, _] _
     refine g_op (v := Value.pointer (some ⟨b6, 0, none⟩)) rfl rfl rfl ?_
     show G _ _ _ _ [_, _, _, _, _, _, _, _, _, _, _, _, _, _, _, _, _, _, _, _, _, _, _, _, _] _
     obtain ⟨r25, Hr25, H⟩ := bind_get H
     have hs := hs.pull 0 rfl
     have hs : St _ [_, _] _ := hs
     have hs := hs.pack 1
     refine s_call (args := [Value.pointer (some ⟨b6, 0, none⟩), Value.int .i64 3]) rfl rfl (x_call rfl (callFunc_enter Try.func17 rfl rfl) rfl) (_spec_l00Src_pick.calls (a1 := (⟨a1, x19, x20⟩ : S_spec_l00Src)) (a6 := 3) hs hr0 Hr25) ?_
     rintro _ w ⟨rfl, hs⟩
     have hs := St.unpack (Γ := [_]) hs
     have hs : St _ [_, _] _ := hs
     show G _ _ _ _ [_, _, _, _, _, _, _, _, _, _, _, _, _, _, _, _, _, _, _, _, _, _, _, _, _] _
     refine g_op (v := Value.int .i64 (i64w (r25.1 - 1))) rfl rfl rfl ?_
     show G _ _ _ _ [_, _, _, _, _, _, _, _, _, _, _, _, _, _, _, _, _, _, _, _, _, _, _, _, _] _
     refine g_op (v := Value.int .i8 (i8w (i64w (r25.1 - 1)))) rfl rfl rfl ?_
     show G _ _ _ _ [_, _, _, _, _, _, _, _, _, _, _, _, _, _, _, _, _, _, _, _, _, _, _, _, _] _
     refine s_lit1 (fkI .i8) (y := i8w (i64w (r25.1 - 1))) hs rfl rfl rfl rfl (fun _ => rfl) (zv := (Value.int .i8 0)) (fun _ => rfl) rfl (by decide) (by decide) rfl ?_
     intro v26 w hs
     show G _ _ _ _ [_, _, _, _, _, _, _, _, _, _, _, _, _, _, _, _, _, _, _, _, _, _, _, _, _] _
     have hs := hs.pull 2 rfl
     have hs : St _ [_, _, _] _ := hs
     obtain ⟨g, H⟩ := ite_get H
     refine s_append (fkI .i8) (zv := (Value.int .i8 0)) (B := 1) hs (hs.row 1 rfl) rfl rfl rfl rfl rfl rfl rfl rfl rfl (by decide) rfl rfl (by decide) (by omega) ?_
     intro v28 w hs
     show G _ _ _ _ [_, _, _, _, _, _, _, _, _, _, _, _, _, _, _, _, _, _, _, _, _, _, _, _, _] _
     refine g_op (v := v28) rfl rfl rfl ?_
     show G _ _ _ _ [_, _, _, _, _, _, _, _, _, _, _, _, _, _, _, _, _, _, _, _, _, _, _, _, _] _
     refine g_ops_nil ?_
     refine g_inBlock ?_
     refine g_region ?_
     show G _ _ _ (.inRegion _ [0, 1, 2] :: _) _ _
     refine g_op (v := Value.int .i64 x24) rfl rfl rfl ?_
     show G _ _ _ _ [_, _, _, _, _, _, _, _, _, _, _, _, _, _, _, _, _, _, _, _, _, _, _, _, _] _
     refine g_op (v := Value.int .i64 (i64w (x24 + 1))) rfl rfl rfl ?_
     show G _ _ _ _ [_, _, _, _, _, _, _, _, _, _, _, _, _, _, _, _, _, _, _, _, _, _, _, _, _] _
     refine g_op (v := Value.int .i64 (i64w (x24 + 1))) rfl rfl rfl ?_
     show G _ _ _ _ [_, _, _, _, _, _, _, _, _, _, _, _, _, _, _, _, _, _, _, _, _, _, _, _, _] _
     refine g_ops_nil ?_
     obtain rfl := Option.some.inj H
     have hs := hs.pull 0 rfl
     have hs := hs.pull 2 rfl
     have hs : St _ [_, _] _ := St.take (Γ' := [_]) hs
     exact ih1_ _ _ ⟨r25.2.f_at, r25.2.f_seed, v28, x23 ++ ([i8w (i64w (r25.1 - 1))]), i64w (x24 + 1), Hx1_, rfl, hs⟩
    ·
     intro hb
     rw [if_neg (b_dec_f hb)] at H
     show G _ _ _ _ [_, _, _, _, _, _, _, _, _, _, _, _, _, _, _, _, _, _, _, _, _, _, _, _, _] _
     refine g_ops_nil ?_
     refine g_cond_false rfl ?_
     obtain rfl := Option.some.inj H
     subst Hx1_
     have hs := hs.pull 1 rfl
     have hs : St _ [_] _ := St.take (Γ' := [_]) hs
     refine g_exit rfl ?_
     exact ha1_ _ _ ⟨v22, x23, Hr1_, rfl, hs⟩

/- function 7 laws_a2At -/
def laws_a2At.post (w0 : World) (r : Int) (v : Value) (w : World) : Prop := v = Value.int .i64 r ∧ St w0 [] w
set_option maxHeartbeats 8000000 in
set_option maxRecDepth 100000 in
theorem laws_a2At.calls {N : Nat} {a1 : (List Int)} {a3 : Int} {a4 : Int} {v2 : Value} {w0 : World} {r : Int} (hr0 : RdRow (K.int .u8) w0 v2 a1) (H : laws_a2At.f N a1 a3 a4 = some r) :
    Calls Try.prog 7 #[v2, Value.int .i64 a3, Value.int .i64 a4] w0 fun e w => ∃ v, e = .returned v ∧ laws_a2At.post w0 r v w := by
  unfold laws_a2At.f at H
  have hs : St w0 [] w0 := St.refl w0
  refine calls_of_g (n := 19) Try.func7 rfl rfl ?_
  show G _ _ _ _ [_, _, _, _, _, _, _, _, _, _, _, _, _, _, _, _, _, _, _, _, _, _] _
  refine g_seq ?_
  refine g_region ?_
  show G _ _ _ (.inRegion _ [0] :: _) _ _
  refine g_op (v := Value.int .i64 0) rfl rfl rfl ?_
  show G _ _ _ _ [_, _, _, _, _, _, _, _, _, _, _, _, _, _, _, _, _, _, _, _, _, _] _
  refine g_ops_nil ?_
  refine g_seq ?_
  refine g_seq ?_
  refine g_region ?_
  show G _ _ _ (.inRegion _ [0, 1, 2, 3, 4, 5, 6, 7] :: _) _ _
  refine g_op (v := Value.int .i64 a3) rfl rfl rfl ?_
  show G _ _ _ _ [_, _, _, _, _, _, _, _, _, _, _, _, _, _, _, _, _, _, _, _, _, _] _
  refine g_op (v := v2) rfl rfl rfl ?_
  show G _ _ _ _ [_, _, _, _, _, _, _, _, _, _, _, _, _, _, _, _, _, _, _, _, _, _] _
  refine s_len (hs.rd hr0) rfl rfl rfl rfl rfl ?_
  show G _ _ _ _ [_, _, _, _, _, _, _, _, _, _, _, _, _, _, _, _, _, _, _, _, _, _] _
  refine g_op_b (B := decide (a3 ≥ (a1.length : Int))) rfl rfl rfl ?_ ?_
  ·
   intro hb
   rw [if_pos (b_dec_t hb)] at H
   show G _ _ _ _ [_, _, _, _, _, _, _, _, _, _, _, _, _, _, _, _, _, _, _, _, _, _] _
   refine g_op (v := Value.bool true) rfl rfl rfl ?_
   show G _ _ _ _ [_, _, _, _, _, _, _, _, _, _, _, _, _, _, _, _, _, _, _, _, _, _] _
   refine g_op_not rfl rfl ?_
   show G _ _ _ _ [_, _, _, _, _, _, _, _, _, _, _, _, _, _, _, _, _, _, _, _, _, _] _
   refine g_op_not rfl rfl ?_
   show G _ _ _ _ [_, _, _, _, _, _, _, _, _, _, _, _, _, _, _, _, _, _, _, _, _, _] _
   refine g_op (v := Value.bool true) rfl rfl rfl ?_
   show G _ _ _ _ [_, _, _, _, _, _, _, _, _, _, _, _, _, _, _, _, _, _, _, _, _, _] _
   refine g_ops_nil ?_
   refine g_cond_true rfl ?_
   refine g_seq ?_
   refine g_region ?_
   show G _ _ _ (.inRegion _ [0] :: _) _ _
   refine g_op (v := Value.int .i64 0) rfl rfl rfl ?_
   show G _ _ _ _ [_, _, _, _, _, _, _, _, _, _, _, _, _, _, _, _, _, _, _, _, _, _] _
   refine g_ops_nil ?_
   obtain rfl := Option.some.inj H
   refine g_ret Try.func7 (v := Value.int .i64 0) (res1 rfl rfl) ?_
   have hs : St _ [] _ := St.take (Γ' := []) hs
   exact ⟨_, rfl, rfl, hs⟩
  ·
   intro hb
   rw [if_neg (b_dec_f hb)] at H
   show G _ _ _ _ [_, _, _, _, _, _, _, _, _, _, _, _, _, _, _, _, _, _, _, _, _, _] _
   refine g_op (v := Value.bool false) rfl rfl rfl ?_
   show G _ _ _ _ [_, _, _, _, _, _, _, _, _, _, _, _, _, _, _, _, _, _, _, _, _, _] _
   refine g_op (v := Value.int .i64 a4) rfl rfl rfl ?_
   show G _ _ _ _ [_, _, _, _, _, _, _, _, _, _, _, _, _, _, _, _, _, _, _, _, _, _] _
   refine g_op_b (B := decide (a4 < 1)) rfl rfl rfl ?_ ?_
   ·
    intro hb
    rw [if_pos (b_dec_t hb)] at H
    show G _ _ _ _ [_, _, _, _, _, _, _, _, _, _, _, _, _, _, _, _, _, _, _, _, _, _] _
    refine g_op (v := Value.bool true) rfl rfl rfl ?_
    show G _ _ _ _ [_, _, _, _, _, _, _, _, _, _, _, _, _, _, _, _, _, _, _, _, _, _] _
    refine g_ops_nil ?_
    refine g_cond_true rfl ?_
    refine g_seq ?_
    refine g_region ?_
    show G _ _ _ (.inRegion _ [0] :: _) _ _
    refine g_op (v := Value.int .i64 0) rfl rfl rfl ?_
    show G _ _ _ _ [_, _, _, _, _, _, _, _, _, _, _, _, _, _, _, _, _, _, _, _, _, _] _
    refine g_ops_nil ?_
    obtain rfl := Option.some.inj H
    refine g_ret Try.func7 (v := Value.int .i64 0) (res1 rfl rfl) ?_
    have hs : St _ [] _ := St.take (Γ' := []) hs
    exact ⟨_, rfl, rfl, hs⟩
   ·
    intro hb
    rw [if_neg (b_dec_f hb)] at H
    show G _ _ _ _ [_, _, _, _, _, _, _, _, _, _, _, _, _, _, _, _, _, _, _, _, _, _] _
    refine g_op (v := Value.bool false) rfl rfl rfl ?_
    show G _ _ _ _ [_, _, _, _, _, _, _, _, _, _, _, _, _, _, _, _, _, _, _, _, _, _] _
    refine g_ops_nil ?_
    refine g_cond_false rfl ?_
    refine g_skip ?_
    refine g_seq ?_
    refine g_region ?_
    show G _ _ _ (.inRegion _ [0, 1, 2, 3, 4, 5, 6, 7] :: _) _ _
    refine g_op (v := v2) rfl rfl rfl ?_
    show G _ _ _ _ [_, _, _, _, _, _, _, _, _, _, _, _, _, _, _, _, _, _, _, _, _, _] _
    refine g_op (v := Value.int .i64 a3) rfl rfl rfl ?_
    show G _ _ _ _ [_, _, _, _, _, _, _, _, _, _, _, _, _, _, _, _, _, _, _, _, _, _] _
    obtain ⟨g1, H⟩ := ite_get H
    refine s_idx (fkI .u8) 0 (hs.rd hr0) rfl (fun _ => rfl) g1.1 g1.2 rfl rfl rfl rfl rfl ?_
    intro p5 hp5 lp5 op5
    show G _ _ _ _ [_, _, _, _, _, _, _, _, _, _, _, _, _, _, _, _, _, _, _, _, _, _] _
    refine s_load1 rfl rfl (v := Value.int .u8 (rdL a1 a3 0)) rfl rfl (fun _ => rfl) hp5 ?_
    show G _ _ _ _ [_, _, _, _, _, _, _, _, _, _, _, _, _, _, _, _, _, _, _, _, _, _] _
    refine g_op (v := Value.int .i64 (i64w (rdL a1 a3 0))) rfl rfl rfl ?_
    show G _ _ _ _ [_, _, _, _, _, _, _, _, _, _, _, _, _, _, _, _, _, _, _, _, _, _] _
    refine g_op (v := Value.int .i64 a4) rfl rfl rfl ?_
    show G _ _ _ _ [_, _, _, _, _, _, _, _, _, _, _, _, _, _, _, _, _, _, _, _, _, _] _
    obtain ⟨g2, H⟩ := ite_get H
    refine g_op (v := Value.int .i64 ((i64w (rdL a1 a3 0)).tmod a4)) rfl rfl (x_divrem rfl rfl rfl g2) ?_
    show G _ _ _ _ [_, _, _, _, _, _, _, _, _, _, _, _, _, _, _, _, _, _, _, _, _, _] _
    refine g_op (v := Value.int .i64 ((i64w (rdL a1 a3 0)).tmod a4)) rfl rfl rfl ?_
    show G _ _ _ _ [_, _, _, _, _, _, _, _, _, _, _, _, _, _, _, _, _, _, _, _, _, _] _
    refine g_ops_nil ?_
    obtain rfl := Option.some.inj H
    refine g_ret Try.func7 (v := Value.int .i64 ((i64w (rdL a1 a3 0)).tmod a4)) (res1 rfl rfl) ?_
    have hs : St _ [] _ := St.take (Γ' := []) hs
    exact ⟨_, rfl, rfl, hs⟩

/- function 29 impl_size_int16 -/
def impl_size_int16.post (w0 : World) (r : Int) (v : Value) (w : World) : Prop := v = Value.int .i64 r ∧ St w0 [] w
set_option maxHeartbeats 8000000 in
set_option maxRecDepth 100000 in
theorem impl_size_int16.calls {N : Nat} {a1 : (List Int)} {v2 : Value} {w0 : World} {r : Int} (hr0 : RdRow (K.int .i16) w0 v2 a1) (H : impl_size_int16.f N a1 = some r) :
    Calls Try.prog 29 #[v2] w0 fun e w => ∃ v, e = .returned v ∧ impl_size_int16.post w0 r v w := by
  unfold impl_size_int16.f at H
  have hs : St w0 [] w0 := St.refl w0
  refine calls_of_g (n := 4) Try.func29 rfl rfl ?_
  show G _ _ _ _ [_, _, _, _, _] _
  refine g_seq ?_
  refine g_region ?_
  show G _ _ _ (.inRegion _ [0] :: _) _ _
  refine g_op (v := Value.int .i64 0) rfl rfl rfl ?_
  show G _ _ _ _ [_, _, _, _, _] _
  refine g_ops_nil ?_
  refine g_seq ?_
  refine g_region ?_
  show G _ _ _ (.inRegion _ [0, 1, 2] :: _) _ _
  refine g_op (v := v2) rfl rfl rfl ?_
  show G _ _ _ _ [_, _, _, _, _] _
  refine s_len (hs.rd hr0) rfl rfl rfl rfl rfl ?_
  show G _ _ _ _ [_, _, _, _, _] _
  refine g_op (v := Value.int .i64 (a1.length : Int)) rfl rfl rfl ?_
  show G _ _ _ _ [_, _, _, _, _] _
  refine g_ops_nil ?_
  obtain rfl := Option.some.inj H
  refine g_ret Try.func29 (v := Value.int .i64 (a1.length : Int)) (res1 rfl rfl) ?_
  have hs : St _ [] _ := St.take (Γ' := []) hs
  exact ⟨_, rfl, rfl, hs⟩

/- function 19 impl_within -/
def impl_within.post (w0 : World) (r : Bool) (v : Value) (w : World) : Prop := v = Value.bool r ∧ St w0 [] w
set_option maxHeartbeats 8000000 in
set_option maxRecDepth 100000 in
theorem impl_within.calls {N : Nat} {a1 : Int} {a2 : Int} {a3 : Int} {w0 : World} {r : Bool} (H : impl_within.f N a1 a2 a3 = some r) :
    Calls Try.prog 19 #[Value.int .i64 a1, Value.int .i64 a2, Value.int .i64 a3] w0 fun e w => ∃ v, e = .returned v ∧ impl_within.post w0 r v w := by
  unfold impl_within.f at H
  have hs : St w0 [] w0 := St.refl w0
  refine calls_of_g (n := 12) Try.func19 rfl rfl ?_
  show G _ _ _ _ [_, _, _, _, _, _, _, _, _, _, _, _, _, _, _] _
  refine g_seq ?_
  refine g_region ?_
  show G _ _ _ (.inRegion _ [0] :: _) _ _
  refine g_op (v := Value.bool false) rfl rfl rfl ?_
  show G _ _ _ _ [_, _, _, _, _, _, _, _, _, _, _, _, _, _, _] _
  refine g_ops_nil ?_
  refine g_seq ?_
  refine g_region ?_
  show G _ _ _ (.inRegion _ [0, 1, 2, 3, 4, 5, 6, 7, 8] :: _) _ _
  refine g_op (v := Value.int .i64 a2) rfl rfl rfl ?_
  show G _ _ _ _ [_, _, _, _, _, _, _, _, _, _, _, _, _, _, _] _
  refine g_op (v := Value.int .i64 a1) rfl rfl rfl ?_
  show G _ _ _ _ [_, _, _, _, _, _, _, _, _, _, _, _, _, _, _] _
  refine g_op_b (B := decide (a2 ≤ a1)) rfl rfl rfl ?_ ?_
  ·
   intro hb
   rw [if_pos (b_dec_t hb)] at H
   show G _ _ _ _ [_, _, _, _, _, _, _, _, _, _, _, _, _, _, _] _
   refine g_op (v := Value.bool true) rfl rfl rfl ?_
   show G _ _ _ _ [_, _, _, _, _, _, _, _, _, _, _, _, _, _, _] _
   refine g_op (v := Value.int .i64 a1) rfl rfl rfl ?_
   show G _ _ _ _ [_, _, _, _, _, _, _, _, _, _, _, _, _, _, _] _
   refine g_op (v := Value.int .i64 a3) rfl rfl rfl ?_
   show G _ _ _ _ [_, _, _, _, _, _, _, _, _, _, _, _, _, _, _] _
   refine g_op (v := Value.bool (decide (a1 ≤ a3))) rfl rfl rfl ?_
   show G _ _ _ _ [_, _, _, _, _, _, _, _, _, _, _, _, _, _, _] _
   refine g_op (v := Value.bool (decide (a1 ≤ a3))) rfl rfl rfl ?_
   show G _ _ _ _ [_, _, _, _, _, _, _, _, _, _, _, _, _, _, _] _
   refine g_op (v := Value.bool (decide (a1 ≤ a3))) rfl rfl rfl ?_
   show G _ _ _ _ [_, _, _, _, _, _, _, _, _, _, _, _, _, _, _] _
   refine g_ops_nil ?_
   obtain rfl := Option.some.inj H
   refine g_ret Try.func19 (v := Value.bool (decide (a1 ≤ a3))) (res1 rfl rfl) ?_
   have hs : St _ [] _ := St.take (Γ' := []) hs
   exact ⟨_, rfl, rfl, hs⟩
  ·
   intro hb
   rw [if_neg (b_dec_f hb)] at H
   show G _ _ _ _ [_, _, _, _, _, _, _, _, _, _, _, _, _, _, _] _
   refine g_op (v := Value.bool false) rfl rfl rfl ?_
   show G _ _ _ _ [_, _, _, _, _, _, _, _, _, _, _, _, _, _, _] _
   refine g_op_not rfl rfl ?_
   show G _ _ _ _ [_, _, _, _, _, _, _, _, _, _, _, _, _, _, _] _
   refine g_op_not rfl rfl ?_
   show G _ _ _ _ [_, _, _, _, _, _, _, _, _, _, _, _, _, _, _] _
   refine g_op_not rfl rfl ?_
   show G _ _ _ _ [_, _, _, _, _, _, _, _, _, _, _, _, _, _, _] _
   refine g_op (v := Value.bool false) rfl rfl rfl ?_
   show G _ _ _ _ [_, _, _, _, _, _, _, _, _, _, _, _, _, _, _] _
   refine g_op (v := Value.bool false) rfl rfl rfl ?_
   show G _ _ _ _ [_, _, _, _, _, _, _, _, _, _, _, _, _, _, _] _
   refine g_ops_nil ?_
   obtain rfl := Option.some.inj H
   refine g_ret Try.func19 (v := Value.bool false) (res1 rfl rfl) ?_
   have hs : St _ [] _ := St.take (Γ' := []) hs
   exact ⟨_, rfl, rfl, hs⟩

/- function 34 cmp_isNaN_int16 -/
def cmp_isNaN_int16.post (w0 : World) (r : Bool) (v : Value) (w : World) : Prop := v = Value.bool r ∧ St w0 [] w
set_option maxHeartbeats 8000000 in
set_option maxRecDepth 100000 in
theorem cmp_isNaN_int16.calls {N : Nat} {a1 : Int} {w0 : World} {r : Bool} (H : cmp_isNaN_int16.f N a1 = some r) :
    Calls Try.prog 34 #[Value.int .i16 a1] w0 fun e w => ∃ v, e = .returned v ∧ cmp_isNaN_int16.post w0 r v w := by
  unfold cmp_isNaN_int16.f at H
  have hs : St w0 [] w0 := St.refl w0
  refine calls_of_g (n := 5) Try.func34 rfl rfl ?_
  show G _ _ _ _ [_, _, _, _, _, _] _
  refine g_seq ?_
  refine g_region ?_
  show G _ _ _ (.inRegion _ [0] :: _) _ _
  refine g_op (v := Value.bool false) rfl rfl rfl ?_
  show G _ _ _ _ [_, _, _, _, _, _] _
  refine g_ops_nil ?_
  refine g_seq ?_
  refine g_region ?_
  show G _ _ _ (.inRegion _ [0, 1, 2, 3] :: _) _ _
  refine g_op (v := Value.int .i16 a1) rfl rfl rfl ?_
  show G _ _ _ _ [_, _, _, _, _, _] _
  refine g_op (v := Value.int .i16 a1) rfl rfl rfl ?_
  show G _ _ _ _ [_, _, _, _, _, _] _
  refine g_op (v := Value.bool (a1 != a1)) rfl rfl rfl ?_
  show G _ _ _ _ [_, _, _, _, _, _] _
  refine g_op (v := Value.bool (a1 != a1)) rfl rfl rfl ?_
  show G _ _ _ _ [_, _, _, _, _, _] _
  refine g_ops_nil ?_
  obtain rfl := Option.some.inj H
  refine g_ret Try.func34 (v := Value.bool (a1 != a1)) (res1 rfl rfl) ?_
  have hs : St _ [] _ := St.take (Γ' := []) hs
  exact ⟨_, rfl, rfl, hs⟩

/- function 33 cmp_Less_int16 -/
def cmp_Less_int16.post (w0 : World) (r : Bool) (v : Value) (w : World) : Prop := v = Value.bool r ∧ St w0 [] w
set_option maxHeartbeats 8000000 in
set_option maxRecDepth 100000 in
theorem cmp_Less_int16.calls {N : Nat} {a1 : Int} {a2 : Int} {w0 : World} {r : Bool} (H : cmp_Less_int16.f N a1 a2 = some r) :
    Calls Try.prog 33 #[Value.int .i16 a1, Value.int .i16 a2] w0 fun e w => ∃ v, e = .returned v ∧ cmp_Less_int16.post w0 r v w := by
  unfold cmp_Less_int16.f at H
  have hs : St w0 [] w0 := St.refl w0
  refine calls_of_g (n := 15) Try.func33 rfl rfl ?_
  show G _ _ _ _ [_, _, _, _, _, _, _, _, _, _, _, _, _, _, _, _, _] _
  refine g_seq ?_
  refine g_region ?_
  show G _ _ _ (.inRegion _ [0] :: _) _ _
  refine g_op (v := Value.bool false) rfl rfl rfl ?_
  show G _ _ _ _ [_, _, _, _, _, _, _, _, _, _, _, _, _, _, _, _, _] _
  refine g_ops_nil ?_
  refine g_seq ?_
  refine g_region ?_
  show G _ _ _ (.inRegion _ [0, 1, 2, 3, 4, 5, 6, 7, 8, 9, 10, 11, 12] :: _) _ _
  refine g_op (v := Value.int .i16 a1) rfl rfl rfl ?_
  show G _ _ _ _ [_, _, _, _, _, _, _, _, _, _, _, _, _, _, _, _, _] _
  obtain ⟨r3, Hr3, H⟩ := bind_get H
  refine s_call (args := [Value.int .i16 a1]) rfl rfl (x_call rfl (callFunc_enter Try.func34 rfl rfl) rfl) (cmp_isNaN_int16.calls (a1 := a1) Hr3) ?_
  rintro _ w ⟨rfl, hs2⟩
  have hs : St _ [] _ := hs.call hs2
  cases r3 with
  | true =>
    rw [if_pos rfl] at H
    show G _ _ _ _ [_, _, _, _, _, _, _, _, _, _, _, _, _, _, _, _, _] _
    refine g_op (v := Value.bool true) rfl rfl rfl ?_
    show G _ _ _ _ [_, _, _, _, _, _, _, _, _, _, _, _, _, _, _, _, _] _
    refine g_op (v := Value.int .i16 a2) rfl rfl rfl ?_
    show G _ _ _ _ [_, _, _, _, _, _, _, _, _, _, _, _, _, _, _, _, _] _
    obtain ⟨r4, Hr4, H⟩ := bind_get H
    refine s_call (args := [Value.int .i16 a2]) rfl rfl (x_call rfl (callFunc_enter Try.func34 rfl rfl) rfl) (cmp_isNaN_int16.calls (a1 := a2) Hr4) ?_
    rintro _ w ⟨rfl, hs2⟩
    have hs : St _ [] _ := hs.call hs2
    show G _ _ _ _ [_, _, _, _, _, _, _, _, _, _, _, _, _, _, _, _, _] _
    refine g_op (v := Value.bool (!r4)) rfl rfl rfl ?_
    show G _ _ _ _ [_, _, _, _, _, _, _, _, _, _, _, _, _, _, _, _, _] _
    refine g_op_b (B := !r4) rfl rfl rfl ?_ ?_
    ·
     intro hb
     rw [if_neg (b_not_t hb)] at H
     show G _ _ _ _ [_, _, _, _, _, _, _, _, _, _, _, _, _, _, _, _, _] _
     refine g_op (v := Value.bool true) rfl rfl rfl ?_
     show G _ _ _ _ [_, _, _, _, _, _, _, _, _, _, _, _, _, _, _, _, _] _
     refine g_op_not rfl rfl ?_
     show G _ _ _ _ [_, _, _, _, _, _, _, _, _, _, _, _, _, _, _, _, _] _
     refine g_op_not rfl rfl ?_
     show G _ _ _ _ [_, _, _, _, _, _, _, _, _, _, _, _, _, _, _, _, _] _
     refine g_op_not rfl rfl ?_
     show G _ _ _ _ [_, _, _, _, _, _, _, _, _, _, _, _, _, _, _, _, _] _
     refine g_op (v := Value.bool true) rfl rfl rfl ?_
     show G _ _ _ _ [_, _, _, _, _, _, _, _, _, _, _, _, _, _, _, _, _] _
     refine g_op (v := Value.bool true) rfl rfl rfl ?_
     show G _ _ _ _ [_, _, _, _, _, _, _, _, _, _, _, _, _, _, _, _, _] _
     refine g_ops_nil ?_
     obtain rfl := Option.some.inj H
     refine g_ret Try.func33 (v := Value.bool true) (res1 rfl rfl) ?_
     have hs : St _ [] _ := St.take (Γ' := []) hs
     exact ⟨_, rfl, rfl, hs⟩
    ·
     intro hb
     rw [if_pos (b_not_f hb)] at H
     show G _ _ _ _ [_, _, _, _, _, _, _, _, _, _, _, _, _, _, _, _, _] _
     refine g_op (v := Value.bool false) rfl rfl rfl ?_
     show G _ _ _ _ [_, _, _, _, _, _, _, _, _, _, _, _, _, _, _, _, _] _
     refine g_op (v := Value.int .i16 a1) rfl rfl rfl ?_
     show G _ _ _ _ [_, _, _, _, _, _, _, _, _, _, _, _, _, _, _, _, _] _
     refine g_op (v := Value.int .i16 a2) rfl rfl rfl ?_
     show G _ _ _ _ [_, _, _, _, _, _, _, _, _, _, _, _, _, _, _, _, _] _
     refine g_op (v := Value.bool (decide (a1 < a2))) rfl rfl rfl ?_
     show G _ _ _ _ [_, _, _, _, _, _, _, _, _, _, _, _, _, _, _, _, _] _
     refine g_op (v := Value.bool (decide (a1 < a2))) rfl rfl rfl ?_
     show G _ _ _ _ [_, _, _, _, _, _, _, _, _, _, _, _, _, _, _, _, _] _
     refine g_op (v := Value.bool (decide (a1 < a2))) rfl rfl rfl ?_
     show G _ _ _ _ [_, _, _, _, _, _, _, _, _, _, _, _, _, _, _, _, _] _
     refine g_ops_nil ?_
     obtain rfl := Option.some.inj H
     refine g_ret Try.func33 (v := Value.bool (decide (a1 < a2))) (res1 rfl rfl) ?_
     have hs : St _ [] _ := St.take (Γ' := []) hs
     exact ⟨_, rfl, rfl, hs⟩
  | false =>
    rw [if_neg Bool.false_ne_true] at H
    show G _ _ _ _ [_, _, _, _, _, _, _, _, _, _, _, _, _, _, _, _, _] _
    refine g_op (v := Value.bool false) rfl rfl rfl ?_
    show G _ _ _ _ [_, _, _, _, _, _, _, _, _, _, _, _, _, _, _, _, _] _
    refine g_op_not rfl rfl ?_
    show G _ _ _ _ [_, _, _, _, _, _, _, _, _, _, _, _, _, _, _, _, _] _
    refine g_op_not rfl rfl ?_
    show G _ _ _ _ [_, _, _, _, _, _, _, _, _, _, _, _, _, _, _, _, _] _
    refine g_op_not rfl rfl ?_
    show G _ _ _ _ [_, _, _, _, _, _, _, _, _, _, _, _, _, _, _, _, _] _
    refine g_op (v := Value.bool false) rfl rfl rfl ?_
    show G _ _ _ _ [_, _, _, _, _, _, _, _, _, _, _, _, _, _, _, _, _] _
    refine g_op (v := Value.bool false) rfl rfl rfl ?_
    show G _ _ _ _ [_, _, _, _, _, _, _, _, _, _, _, _, _, _, _, _, _] _
    refine g_op (v := Value.int .i16 a1) rfl rfl rfl ?_
    show G _ _ _ _ [_, _, _, _, _, _, _, _, _, _, _, _, _, _, _, _, _] _
    refine g_op (v := Value.int .i16 a2) rfl rfl rfl ?_
    show G _ _ _ _ [_, _, _, _, _, _, _, _, _, _, _, _, _, _, _, _, _] _
    refine g_op (v := Value.bool (decide (a1 < a2))) rfl rfl rfl ?_
    show G _ _ _ _ [_, _, _, _, _, _, _, _, _, _, _, _, _, _, _, _, _] _
    refine g_op (v := Value.bool (decide (a1 < a2))) rfl rfl rfl ?_
    show G _ _ _ _ [_, _, _, _, _, _, _, _, _, _, _, _, _, _, _, _, _] _
    refine g_op (v := Value.bool (decide (a1 < a2))) rfl rfl rfl ?_
    show G _ _ _ _ [_, _, _, _, _, _, _, _, _, _, _, _, _, _, _, _, _] _
    refine g_ops_nil ?_
    obtain rfl := Option.some.inj H
    refine g_ret Try.func33 (v := Value.bool (decide (a1 < a2))) (res1 rfl rfl) ?_
    have hs : St _ [] _ := St.take (Γ' := []) hs
    exact ⟨_, rfl, rfl, hs⟩

end Go.Proofs.YtpphepkapccjeaaX
