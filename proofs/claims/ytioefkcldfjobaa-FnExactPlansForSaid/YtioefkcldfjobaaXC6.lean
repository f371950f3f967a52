/- Contracts, printed by gen.py. -/
import Derived.Test.YtioefkcldfjobaaXT
import Derived.Test.YtioefkcldfjobaaProg
import Derived.Test.YtioefkcldfjobaaXRowR
import Derived.Test.YtioefkcldfjobaaXSeg
import Derived.Test.YtioefkcldfjobaaXKey
import Derived.Test.YtioefkcldfjobaaXIter
import Derived.Test.YtioefkcldfjobaaXC0
namespace Go.Proofs.YtioefkcldfjobaaX
open Go Go.RowKit Go.Proofs
set_option linter.unusedVariables false
set_option linter.unusedSimpArgs false
/- function 68 _impl_Glasses_turned -/
def _impl_Glasses_turned.post (w0 : World) (r : (Ar Int 4)) (v : Value) (w : World) : Prop := v = Value.agg ((encA (encI .i16)) r).toArray ∧ St w0 [] w
set_option maxHeartbeats 8000000 in
set_option maxRecDepth 100000 in
theorem _impl_Glasses_turned.calls {N : Nat} {a1 : (List Int)} {a3 : (Ar Int 4)} {a4 : Int} {v2 : Value} {w0 : World} {r : (Ar Int 4)} (hr0 : RdRow (K.int .i16) w0 v2 a1) (H : _impl_Glasses_turned.f N a1 a3 a4 = some r) :
    Calls Try.prog 68 #[v2, Value.agg ((encA (encI .i16)) a3).toArray, Value.int .u8 a4] w0 fun e w => ∃ v, e = .returned v ∧ _impl_Glasses_turned.post w0 r v w := by
  unfold _impl_Glasses_turned.f at H
  have hs : St w0 [] w0 := St.refl w0
  refine calls_of_g (n := 27) Try.func68 rfl rfl ?_
  show G _ _ _ _ [_,_,_,_,_,_,_,_,_,_,_,_,_,_,_,_,_,_,_,_,_,_,_,_,_,_,_,_,_,_] _
  refine g_seq ?_
  refine g_region ?_
  show G _ _ _ (.inRegion _ [0, 1] :: _) _ _
  refine s_box hs rfl rfl (cs := ((encA (encI .i16)) a3)) rfl rfl ?_
  intro b5 w hs
  show G _ _ _ _ [_,_,_,_,_,_,_,_,_,_,_,_,_,_,_,_,_,_,_,_,_,_,_,_,_,_,_,_,_,_] _
  refine s_alloc hs rfl rfl (z := (Value.agg #[Value.int .i16 0, Value.int .i16 0, Value.int .i16 0, Value.int .i16 0])) (cs := ((encA (encI .i16)) (Ar.rep 4 0))) rfl (fun _ => rfl) rfl ?_
  intro b7 w hs
  show G _ _ _ _ [_,_,_,_,_,_,_,_,_,_,_,_,_,_,_,_,_,_,_,_,_,_,_,_,_,_,_,_,_,_] _
  refine g_ops_nil ?_
  refine g_seq ?_
  refine g_seq ?_
  refine g_region ?_
  show G _ _ _ (.inRegion _ [0, 1, 2] :: _) _ _
  refine g_op (v := v2) rfl rfl rfl ?_
  refine s_len (hs.rd hr0) rfl rfl rfl rfl rfl ?_
  show G _ _ _ _ [_,_,_,_,_,_,_,_,_,_,_,_,_,_,_,_,_,_,_,_,_,_,_,_,_,_,_,_,_,_] _
  refine g_op (v := Value.int .i64 0) rfl rfl rfl ?_
  refine g_ops_nil ?_
  obtain ⟨o1_, Ho, Hr1_⟩ := bind_get H
  refine g_block_join (J := fun t w => ∃ x16 : (Ar Int 4), _impl_Glasses_turned.a0 N x16 = some r ∧ Fr t (fun O => ([O 0, O 1, O 2, O 3, Value.pointer (some ⟨b5, 0, none⟩), O 5, Value.pointer (some ⟨b7, 0, none⟩), O 7, O 8, O 9, O 10, O 11, O 12, O 13, O 14, O 15, O 16, O 17, O 18, O 19, O 20, O 21, O 22, O 23, O 24, O 25, O 26, O 27, O 28, O 29] : List Value)) ∧ St w0 [Cells b5 ((encA (encI .i16)) x16) 29, Cells b7 ((encA (encI .i16)) (Ar.rep 4 0)) 29] w) ?_ ?_
  ·
   rintro t w ⟨x16, H, hf, hs⟩
   obtain ⟨O, rfl⟩ := hf.open
   show G _ _ _ _ [_,_,_,_,_,_,_,_,_,_,_,_,_,_,_,_,_,_,_,_,_,_,_,_,_,_,_,_,_,_] _
   unfold _impl_Glasses_turned.a0 at H
   refine g_seq ?_
   refine g_region ?_
   show G _ _ _ (.inRegion _ [0, 1] :: _) _ _
   refine s_loadA rfl rfl (es := ((encA (encI .i16)) x16)) rfl rfl (fun _ => rfl) (n := 4) (fun _ => rfl) ((fkA (n := 4) (he := (fkI .i16).len) (h1 := (fkI .i16).one)).len _) (cells_all (hs.cells 0 rfl)) ?_
   show G _ _ _ _ [_,_,_,_,_,_,_,_,_,_,_,_,_,_,_,_,_,_,_,_,_,_,_,_,_,_,_,_,_,_] _
   have hs := hs.pull 1 rfl
   have hs : St _ [_,_] _ := hs
   refine s_storeAll (n := 4) hs ((fkA (n := 4) (he := (fkI .i16).len) (h1 := (fkI .i16).one)).len _) rfl rfl (vs := ((encA (encI .i16)) x16)) rfl rfl rfl (fun _ => rfl) ((fkA (n := 4) (he := (fkI .i16).len) (h1 := (fkI .i16).one)).len _) ((fkA (n := 4) (he := (fkI .i16).len) (h1 := (fkI .i16).one)).one _) ?_
   intro w hs
   refine g_ops_nil ?_
   obtain rfl := Option.some.inj H
   refine g_ret Try.func68 (v := Value.agg ((encA (encI .i16)) x16).toArray) (resC rfl ⟨⟨_, rfl, (run_loadVar_agg (es := ((encA (encI .i16)) x16)) rfl (congrArg (Result.ok · _) ((fkA (n := 4) (he := (fkI .i16).len) (h1 := (fkI .i16).one)).len _).symm) (cells_all (hs.cells 0 rfl)))⟩, trivial⟩) ?_
   have hs : St _ [] _ := St.take (Γ' := [_,_]) hs
   exact ⟨_, rfl, rfl, hs⟩
  ·
   intro ha1_
   have hs := hs.pull 0 rfl
   have hs := hs.pull 1 rfl
   have hs : St _ [_,_] _ := St.take (Γ' := []) hs
   refine g_loop_fuel (I := fun n_ t w => ∃ x12 : (Ar Int 4), ∃ x13 : Int, rounds (fun s => _impl_Glasses_turned.b0 N a1 a4 s.1 s.2) n_ (x12, x13) = some o1_ ∧ Fr t (fun O => ([O 0, O 1, Value.int .u8 a4, O 3, Value.pointer (some ⟨b5, 0, none⟩), O 5, Value.pointer (some ⟨b7, 0, none⟩), O 7, O 8, v2, Value.int .i64 (a1.length : Int), Value.int .i64 x13, O 12, O 13, O 14, O 15, O 16, O 17, O 18, O 19, O 20, O 21, O 22, O 23, O 24, O 25, O 26, O 27, O 28, O 29] : List Value)) ∧ St w0 [Cells b5 ((encA (encI .i16)) x12) 29, Cells b7 ((encA (encI .i16)) (Ar.rep 4 0)) 29] w) N ⟨a3, 0, Ho, rfl, hs⟩ ?_ ?_
   ·
    rintro _ _ ⟨x12, x13, h, _⟩
    exact rounds_zero h
   ·
    intro n_ ih1_
    rintro t w ⟨x12, x13, Ho, hf, hs⟩
    obtain ⟨O, rfl⟩ := hf.open
    show G _ _ _ _ [_,_,_,_,_,_,_,_,_,_,_,_,_,_,_,_,_,_,_,_,_,_,_,_,_,_,_,_,_,_] _
    obtain ⟨x9_, H, Hx1_⟩ := rounds_succ Ho
    have H : _impl_Glasses_turned.b0 N a1 a4 x12 x13 = some x9_ := H
    unfold _impl_Glasses_turned.b0 at H
    refine g_seq ?_
    refine g_region ?_
    show G _ _ _ (.inRegion _ [0] :: _) _ _
    refine g_op_b (B := decide (x13 < (a1.length : Int))) rfl rfl rfl ?_ ?_
    ·
     intro hb
     rw [if_pos (b_dec_t hb)] at H
     show G _ _ _ _ [_,_,_,_,_,_,_,_,_,_,_,_,_,_,_,_,_,_,_,_,_,_,_,_,_,_,_,_,_,_] _
     refine g_ops_nil ?_
     refine g_seq ?_
     refine g_cond_true rfl ?_
     refine g_skip ?_
     refine g_seq ?_
     refine g_block_join (J := (fun t w => ∃ x15 : (Ar Int 4), _impl_Glasses_turned.j2 N x13 x15 = some x9_ ∧ Fr t (fun O => ([O 0, O 1, Value.int .u8 a4, O 3, Value.pointer (some ⟨b5, 0, none⟩), O 5, Value.pointer (some ⟨b7, 0, none⟩), O 7, O 8, v2, Value.int .i64 (a1.length : Int), Value.int .i64 x13, O 12, O 13, O 14, O 15, O 16, O 17, O 18, O 19, O 20, O 21, O 22, O 23, O 24, O 25, O 26, O 27, O 28, O 29] : List Value)) ∧ St w0 [Cells b5 ((encA (encI .i16)) x15) 29, Cells b7 ((encA (encI .i16)) (Ar.rep 4 0)) 29] w)) ?_ ?_
     ·
      rintro t w ⟨x15, H, hf, hs⟩
      obtain ⟨O, rfl⟩ := hf.open
      show G _ _ _ _ [_,_,_,_,_,_,_,_,_,_,_,_,_,_,_,_,_,_,_,_,_,_,_,_,_,_,_,_,_,_] _
      unfold _impl_Glasses_turned.j2 at H
      refine g_region ?_
      show G _ _ _ (.inRegion _ [0, 1] :: _) _ _
      refine g_op (v := Value.int .i64 (i64w (x13 + 1))) rfl rfl rfl ?_
      show G _ _ _ _ [_,_,_,_,_,_,_,_,_,_,_,_,_,_,_,_,_,_,_,_,_,_,_,_,_,_,_,_,_,_] _
      refine g_op (v := Value.int .i64 (i64w (x13 + 1))) rfl rfl rfl ?_
      refine g_ops_nil ?_
      obtain rfl := Option.some.inj H
      have hs := hs.pull 1 rfl
      have hs := hs.pull 1 rfl
      have hs : St _ [_,_] _ := St.take (Γ' := []) hs
      exact ih1_ _ _ ⟨x15, i64w (x13 + 1), Hx1_, rfl, hs⟩
     ·
      intro ha
      refine g_seq ?_
      refine g_region ?_
      show G _ _ _ (.inRegion _ [0, 1, 2, 3, 4] :: _) _ _
      refine g_op (v := Value.int .i64 x13) rfl rfl rfl ?_
      obtain ⟨g5, H⟩ := ite_get H
      refine s_idx (fkI .i16) 0 (hs.rd hr0) rfl (fun _ => rfl) g5.1 g5.2 rfl rfl rfl rfl rfl ?_
      intro p14 hp14 lp14 op14
      show G _ _ _ _ [_,_,_,_,_,_,_,_,_,_,_,_,_,_,_,_,_,_,_,_,_,_,_,_,_,_,_,_,_,_] _
      refine s_load1 rfl rfl (v := Value.int .i16 (rdL a1 x13 0)) rfl rfl (fun _ => rfl) hp14 ?_
      show G _ _ _ _ [_,_,_,_,_,_,_,_,_,_,_,_,_,_,_,_,_,_,_,_,_,_,_,_,_,_,_,_,_,_] _
      refine g_op (v := Value.int .i64 x13) rfl rfl rfl ?_
      show G _ _ _ _ [_,_,_,_,_,_,_,_,_,_,_,_,_,_,_,_,_,_,_,_,_,_,_,_,_,_,_,_,_,_] _
      refine g_op (v := Value.int .i16 (rdL a1 x13 0)) rfl rfl rfl ?_
      show G _ _ _ _ [_,_,_,_,_,_,_,_,_,_,_,_,_,_,_,_,_,_,_,_,_,_,_,_,_,_,_,_,_,_] _
      refine g_ops_nil ?_
      refine g_seq ?_
      refine g_region ?_
      show G _ _ _ (.inRegion _ [0, 1, 2, 3, 4] :: _) _ _
      refine g_op (v := Value.int .u8 a4) rfl rfl rfl ?_
      refine g_op (v := Value.int .i64 x13) rfl rfl rfl ?_
      obtain ⟨g6, H⟩ := ite_get H
      refine g_op (v := Value.int .u8 (shrI .u8 a4 x13)) rfl rfl (x_shr rfl rfl rfl g6) ?_
      show G _ _ _ _ [_,_,_,_,_,_,_,_,_,_,_,_,_,_,_,_,_,_,_,_,_,_,_,_,_,_,_,_,_,_] _
      refine g_op (v := Value.int .u8 (bAnd .u8 (shrI .u8 a4 x13) 1)) rfl rfl rfl ?_
      show G _ _ _ _ [_,_,_,_,_,_,_,_,_,_,_,_,_,_,_,_,_,_,_,_,_,_,_,_,_,_,_,_,_,_] _
      refine g_op_b (B := (bAnd .u8 (shrI .u8 a4 x13) 1) == 1) rfl rfl rfl ?_ ?_
      ·
       intro hb
       rw [if_pos (b_beq_t hb)] at H
       show G _ _ _ _ [_,_,_,_,_,_,_,_,_,_,_,_,_,_,_,_,_,_,_,_,_,_,_,_,_,_,_,_,_,_] _
       refine g_ops_nil ?_
       refine g_cond_true rfl ?_
       refine g_region ?_
       show G _ _ _ (.inRegion _ [0, 1, 2, 3, 4, 5, 6, 7] :: _) _ _
       refine g_op (v := Value.int .i64 x13) rfl rfl rfl ?_
       refine g_op (v := Value.int .i16 (rdL a1 x13 0)) rfl rfl rfl ?_
       refine g_op (v := Value.int .i64 x13) rfl rfl rfl ?_
       obtain ⟨g7, H⟩ := ite_get H
       refine s_idxA (n := x13) (m := 1) rfl (fun _ => rfl) g7.1 g7.2 rfl rfl rfl rfl rfl ?_
       show G _ _ _ _ [_,_,_,_,_,_,_,_,_,_,_,_,_,_,_,_,_,_,_,_,_,_,_,_,_,_,_,_,_,_] _
       refine s_load1 rfl rfl (v := Value.int .i16 (x12.get x13 0)) rfl rfl (fun _ => rfl) (by rw [Nat.zero_add]; exact cells_load (hs.cells 0 rfl) _ _ (encA_at (fkI .i16).len _ _ 0 g7.1 g7.2)) ?_
       show G _ _ _ _ [_,_,_,_,_,_,_,_,_,_,_,_,_,_,_,_,_,_,_,_,_,_,_,_,_,_,_,_,_,_] _
       refine g_op (v := Value.int .i16 (i16w ((rdL a1 x13 0) - (x12.get x13 0)))) rfl rfl rfl ?_
       show G _ _ _ _ [_,_,_,_,_,_,_,_,_,_,_,_,_,_,_,_,_,_,_,_,_,_,_,_,_,_,_,_,_,_] _
       obtain ⟨g8, H⟩ := ite_get H
       refine s_idxA (n := x13) (m := 1) rfl (fun _ => rfl) g8.1 g8.2 rfl rfl rfl rfl rfl ?_
       show G _ _ _ _ [_,_,_,_,_,_,_,_,_,_,_,_,_,_,_,_,_,_,_,_,_,_,_,_,_,_,_,_,_,_] _
       refine s_storeA (y := i16w ((rdL a1 x13 0) - (x12.get x13 0))) (fkI .i16).len (fkI .i16).one g8.1 g8.2 hs rfl rfl rfl rfl rfl (fun _ => rfl) ?_
       intro w hs
       refine g_ops_nil ?_
       refine g_inBlock ?_
       have hs := hs.pull 1 rfl
       have hs := hs.pull 1 rfl
       have hs : St _ [_,_] _ := St.take (Γ' := []) hs
       exact ha _ _ ⟨x12.set x13 (i16w ((rdL a1 x13 0) - (x12.get x13 0))), H, rfl, hs⟩
      ·
       intro hb
       rw [if_neg (b_beq_f hb)] at H
       show G _ _ _ _ [_,_,_,_,_,_,_,_,_,_,_,_,_,_,_,_,_,_,_,_,_,_,_,_,_,_,_,_,_,_] _
       refine g_ops_nil ?_
       refine g_cond_false rfl ?_
       refine g_skip ?_
       refine g_inBlock ?_
       have hs := hs.pull 1 rfl
       have hs := hs.pull 1 rfl
       have hs : St _ [_,_] _ := St.take (Γ' := []) hs
       exact ha _ _ ⟨x12, H, rfl, hs⟩
    ·
     intro hb
     rw [if_neg (b_dec_f hb)] at H
     show G _ _ _ _ [_,_,_,_,_,_,_,_,_,_,_,_,_,_,_,_,_,_,_,_,_,_,_,_,_,_,_,_,_,_] _
     refine g_ops_nil ?_
     refine g_seq ?_
     refine g_cond_false rfl ?_
     obtain rfl := Option.some.inj H
     subst Hx1_
     have hs := hs.pull 1 rfl
     have hs := hs.pull 1 rfl
     have hs : St _ [_,_] _ := St.take (Γ' := []) hs
     refine g_exit rfl ?_
     exact ha1_ _ _ ⟨x12, Hr1_, rfl, hs⟩

/- function 67 impl_wait -/
def impl_wait.post (w0 : World) (r : ((Ar Int 4) × Int)) (v : Value) (w : World) : Prop := v = Value.tuple #[Value.agg ((encA (encI .i16)) r.1).toArray, Value.int .i64 r.2] ∧ St w0 [] w
set_option maxHeartbeats 8000000 in
set_option maxRecDepth 100000 in
theorem impl_wait.calls {N : Nat} {a1 : (Ar Int 4)} {w0 : World} {r : ((Ar Int 4) × Int)} (H : impl_wait.f N a1 = some r) :
    Calls Try.prog 67 #[Value.agg ((encA (encI .i16)) a1).toArray] w0 fun e w => ∃ v, e = .returned v ∧ impl_wait.post w0 r v w := by
  unfold impl_wait.f at H
  have hs : St w0 [] w0 := St.refl w0
  refine calls_of_g (n := 39) Try.func67 rfl rfl ?_
  show G _ _ _ _ [_,_,_,_,_,_,_,_,_,_,_,_,_,_,_,_,_,_,_,_,_,_,_,_,_,_,_,_,_,_,_,_,_,_,_,_,_,_,_,_] _
  refine g_seq ?_
  refine g_region ?_
  show G _ _ _ (.inRegion _ [0, 1, 2] :: _) _ _
  refine s_box hs rfl rfl (cs := ((encA (encI .i16)) a1)) rfl rfl ?_
  intro b2 w hs
  show G _ _ _ _ [_,_,_,_,_,_,_,_,_,_,_,_,_,_,_,_,_,_,_,_,_,_,_,_,_,_,_,_,_,_,_,_,_,_,_,_,_,_,_,_] _
  refine s_alloc hs rfl rfl (z := (Value.agg #[Value.int .i16 0, Value.int .i16 0, Value.int .i16 0, Value.int .i16 0])) (cs := ((encA (encI .i16)) (Ar.rep 4 0))) rfl (fun _ => rfl) rfl ?_
  intro b4 w hs
  show G _ _ _ _ [_,_,_,_,_,_,_,_,_,_,_,_,_,_,_,_,_,_,_,_,_,_,_,_,_,_,_,_,_,_,_,_,_,_,_,_,_,_,_,_] _
  refine g_op (v := Value.int .i64 0) rfl rfl rfl ?_
  show G _ _ _ _ [_,_,_,_,_,_,_,_,_,_,_,_,_,_,_,_,_,_,_,_,_,_,_,_,_,_,_,_,_,_,_,_,_,_,_,_,_,_,_,_] _
  refine g_ops_nil ?_
  refine g_seq ?_
  refine g_region ?_
  show G _ _ _ (.inRegion _ [0] :: _) _ _
  refine g_op (v := Value.int .i16 0) rfl rfl rfl ?_
  show G _ _ _ _ [_,_,_,_,_,_,_,_,_,_,_,_,_,_,_,_,_,_,_,_,_,_,_,_,_,_,_,_,_,_,_,_,_,_,_,_,_,_,_,_] _
  refine g_ops_nil ?_
  refine g_seq ?_
  refine g_seq ?_
  refine g_region ?_
  show G _ _ _ (.inRegion _ [0, 1] :: _) _ _
  refine s_loadA rfl rfl (es := ((encA (encI .i16)) a1)) rfl rfl (fun _ => rfl) (n := 4) (fun _ => rfl) ((fkA (n := 4) (he := (fkI .i16).len) (h1 := (fkI .i16).one)).len _) (cells_all (hs.cells 1 rfl)) ?_
  show G _ _ _ _ [_,_,_,_,_,_,_,_,_,_,_,_,_,_,_,_,_,_,_,_,_,_,_,_,_,_,_,_,_,_,_,_,_,_,_,_,_,_,_,_] _
  refine g_op (v := Value.int .i64 0) rfl rfl rfl ?_
  refine g_ops_nil ?_
  obtain ⟨o1_, Ho, Hr1_⟩ := bind_get H
  refine g_block_join (J := fun t w => ∃ x9 : Int, impl_wait.a0 N a1 x9 = some r ∧ Fr t (fun O => ([O 0, Value.pointer (some ⟨b2, 0, none⟩), Value.pointer (some ⟨b4, 0, none⟩), O 3, Value.int .i16 x9, O 5, O 6, O 7, O 8, O 9, O 10, O 11, O 12, O 13, O 14, O 15, O 16, O 17, O 18, O 19, O 20, O 21, O 22, O 23, O 24, O 25, O 26, O 27, O 28, O 29, O 30, O 31, O 32, O 33, O 34, O 35, O 36, O 37, O 38, O 39] : List Value)) ∧ St w0 [Cells b2 ((encA (encI .i16)) a1) 29, Cells b4 ((encA (encI .i16)) (Ar.rep 4 0)) 29] w) ?_ ?_
  ·
   rintro t w ⟨x9, H, hf, hs⟩
   obtain ⟨O, rfl⟩ := hf.open
   show G _ _ _ _ [_,_,_,_,_,_,_,_,_,_,_,_,_,_,_,_,_,_,_,_,_,_,_,_,_,_,_,_,_,_,_,_,_,_,_,_,_,_,_,_] _
   unfold impl_wait.a0 at H
   refine g_seq ?_
   refine g_seq ?_
   refine g_region ?_
   show G _ _ _ (.inRegion _ [0] :: _) _ _
   refine g_op (v := Value.int .i64 0) rfl rfl rfl ?_
   refine g_ops_nil ?_
   obtain ⟨o1_, Ho, Hr1_⟩ := bind_get H
   refine g_block_join (J := fun t w => ∃ x13 : (Ar Int 4), impl_wait.a2 N x9 x13 = some r ∧ Fr t (fun O => ([O 0, Value.pointer (some ⟨b2, 0, none⟩), Value.pointer (some ⟨b4, 0, none⟩), O 3, Value.int .i16 x9, O 5, O 6, O 7, O 8, O 9, O 10, O 11, O 12, O 13, O 14, O 15, O 16, O 17, O 18, O 19, O 20, O 21, O 22, O 23, O 24, O 25, O 26, O 27, O 28, O 29, O 30, O 31, O 32, O 33, O 34, O 35, O 36, O 37, O 38, O 39] : List Value)) ∧ St w0 [Cells b2 ((encA (encI .i16)) x13) 29, Cells b4 ((encA (encI .i16)) (Ar.rep 4 0)) 29] w) ?_ ?_
   ·
    rintro t w ⟨x13, H, hf, hs⟩
    obtain ⟨O, rfl⟩ := hf.open
    show G _ _ _ _ [_,_,_,_,_,_,_,_,_,_,_,_,_,_,_,_,_,_,_,_,_,_,_,_,_,_,_,_,_,_,_,_,_,_,_,_,_,_,_,_] _
    unfold impl_wait.a2 at H
    refine g_seq ?_
    refine g_region ?_
    show G _ _ _ (.inRegion _ [0, 1, 2, 3, 4] :: _) _ _
    refine s_loadA rfl rfl (es := ((encA (encI .i16)) x13)) rfl rfl (fun _ => rfl) (n := 4) (fun _ => rfl) ((fkA (n := 4) (he := (fkI .i16).len) (h1 := (fkI .i16).one)).len _) (cells_all (hs.cells 0 rfl)) ?_
    show G _ _ _ _ [_,_,_,_,_,_,_,_,_,_,_,_,_,_,_,_,_,_,_,_,_,_,_,_,_,_,_,_,_,_,_,_,_,_,_,_,_,_,_,_] _
    refine g_op (v := Value.int .i16 x9) rfl rfl rfl ?_
    refine g_op (v := Value.int .i64 (i64w x9)) rfl rfl rfl ?_
    have hs := hs.pull 1 rfl
    have hs : St _ [_,_] _ := hs
    refine s_storeAll (n := 4) hs ((fkA (n := 4) (he := (fkI .i16).len) (h1 := (fkI .i16).one)).len _) rfl rfl (vs := ((encA (encI .i16)) x13)) rfl rfl rfl (fun _ => rfl) ((fkA (n := 4) (he := (fkI .i16).len) (h1 := (fkI .i16).one)).len _) ((fkA (n := 4) (he := (fkI .i16).len) (h1 := (fkI .i16).one)).one _) ?_
    intro w hs
    refine g_op (v := Value.int .i64 (i64w x9)) rfl rfl rfl ?_
    show G _ _ _ _ [_,_,_,_,_,_,_,_,_,_,_,_,_,_,_,_,_,_,_,_,_,_,_,_,_,_,_,_,_,_,_,_,_,_,_,_,_,_,_,_] _
    refine g_ops_nil ?_
    obtain rfl := Option.some.inj H
    refine g_ret Try.func67 (v := Value.tuple #[Value.agg ((encA (encI .i16)) x13).toArray, Value.int .i64 (i64w x9)]) (resN (l := Try.f67.results.toList) (vs := [Value.agg ((encA (encI .i16)) x13).toArray, Value.int .i64 (i64w x9)]) rfl ⟨⟨_, rfl, (run_loadVar_agg (es := ((encA (encI .i16)) x13)) rfl (congrArg (Result.ok · _) ((fkA (n := 4) (he := (fkI .i16).len) (h1 := (fkI .i16).one)).len _).symm) (cells_all (hs.cells 0 rfl)))⟩, rfl, trivial⟩ (by simp)) ?_
    have hs : St _ [] _ := St.take (Γ' := [_,_]) hs
    exact ⟨_, rfl, rfl, hs⟩
   ·
    intro ha1_
    have hs := hs.pull 1 rfl
    have hs := hs.pull 1 rfl
    have hs : St _ [_,_] _ := St.take (Γ' := []) hs
    refine g_loop_fuel (I := fun n_ t w => ∃ x11 : (Ar Int 4), ∃ x12 : Int, rounds (fun s => impl_wait.b2 N x9 s.1 s.2) n_ (x11, x12) = some o1_ ∧ Fr t (fun O => ([O 0, Value.pointer (some ⟨b2, 0, none⟩), Value.pointer (some ⟨b4, 0, none⟩), O 3, Value.int .i16 x9, O 5, O 6, O 7, O 8, O 9, O 10, O 11, O 12, O 13, O 14, O 15, O 16, O 17, O 18, O 19, O 20, O 21, O 22, O 23, O 24, Value.int .i64 x12, O 26, O 27, O 28, O 29, O 30, O 31, O 32, O 33, O 34, O 35, O 36, O 37, O 38, O 39] : List Value)) ∧ St w0 [Cells b2 ((encA (encI .i16)) x11) 29, Cells b4 ((encA (encI .i16)) (Ar.rep 4 0)) 29] w) N ⟨a1, 0, Ho, rfl, hs⟩ ?_ ?_
    ·
     rintro _ _ ⟨x11, x12, h, _⟩
     exact rounds_zero h
    ·
     intro n_ ih1_
     rintro t w ⟨x11, x12, Ho, hf, hs⟩
     obtain ⟨O, rfl⟩ := hf.open
     show G _ _ _ _ [_,_,_,_,_,_,_,_,_,_,_,_,_,_,_,_,_,_,_,_,_,_,_,_,_,_,_,_,_,_,_,_,_,_,_,_,_,_,_,_] _
     obtain ⟨x6_, H, Hx1_⟩ := rounds_succ Ho
     have H : impl_wait.b2 N x9 x11 x12 = some x6_ := H
     unfold impl_wait.b2 at H
     refine g_seq ?_
     refine g_region ?_
     show G _ _ _ (.inRegion _ [0] :: _) _ _
     refine g_op_b (B := decide (x12 < 4)) rfl rfl rfl ?_ ?_
     ·
      intro hb
      rw [if_pos (b_dec_t hb)] at H
      show G _ _ _ _ [_,_,_,_,_,_,_,_,_,_,_,_,_,_,_,_,_,_,_,_,_,_,_,_,_,_,_,_,_,_,_,_,_,_,_,_,_,_,_,_] _
      refine g_ops_nil ?_
      refine g_seq ?_
      refine g_cond_true rfl ?_
      refine g_skip ?_
      refine g_seq ?_
      refine g_block ?_
      refine g_seq ?_
      refine g_region ?_
      show G _ _ _ (.inRegion _ [0, 1] :: _) _ _
      refine g_op (v := Value.int .i64 x12) rfl rfl rfl ?_
      refine g_op (v := Value.int .i64 x12) rfl rfl rfl ?_
      show G _ _ _ _ [_,_,_,_,_,_,_,_,_,_,_,_,_,_,_,_,_,_,_,_,_,_,_,_,_,_,_,_,_,_,_,_,_,_,_,_,_,_,_,_] _
      refine g_ops_nil ?_
      refine g_region ?_
      show G _ _ _ (.inRegion _ [0, 1, 2, 3, 4, 5, 6, 7, 8] :: _) _ _
      refine g_op (v := Value.int .i64 x12) rfl rfl rfl ?_
      refine g_op (v := Value.int .i64 x12) rfl rfl rfl ?_
      obtain ⟨g4, H⟩ := ite_get H
      refine s_idxA (n := x12) (m := 1) rfl (fun _ => rfl) g4.1 g4.2 rfl rfl rfl rfl rfl ?_
      show G _ _ _ _ [_,_,_,_,_,_,_,_,_,_,_,_,_,_,_,_,_,_,_,_,_,_,_,_,_,_,_,_,_,_,_,_,_,_,_,_,_,_,_,_] _
      refine s_load1 rfl rfl (v := Value.int .i16 (x11.get x12 0)) rfl rfl (fun _ => rfl) (by rw [Nat.zero_add]; exact cells_load (hs.cells 0 rfl) _ _ (encA_at (fkI .i16).len _ _ 0 g4.1 g4.2)) ?_
      show G _ _ _ _ [_,_,_,_,_,_,_,_,_,_,_,_,_,_,_,_,_,_,_,_,_,_,_,_,_,_,_,_,_,_,_,_,_,_,_,_,_,_,_,_] _
      refine g_op (v := Value.int .i16 x9) rfl rfl rfl ?_
      refine g_op (v := Value.int .i16 (i16w ((x11.get x12 0) - x9))) rfl rfl rfl ?_
      show G _ _ _ _ [_,_,_,_,_,_,_,_,_,_,_,_,_,_,_,_,_,_,_,_,_,_,_,_,_,_,_,_,_,_,_,_,_,_,_,_,_,_,_,_] _
      refine g_op (v := Value.int .i16 (mxI (i16w ((x11.get x12 0) - x9)) 0)) rfl rfl (x_max rfl rfl rfl) ?_
      show G _ _ _ _ [_,_,_,_,_,_,_,_,_,_,_,_,_,_,_,_,_,_,_,_,_,_,_,_,_,_,_,_,_,_,_,_,_,_,_,_,_,_,_,_] _
      obtain ⟨g5, H⟩ := ite_get H
      refine s_idxA (n := x12) (m := 1) rfl (fun _ => rfl) g5.1 g5.2 rfl rfl rfl rfl rfl ?_
      show G _ _ _ _ [_,_,_,_,_,_,_,_,_,_,_,_,_,_,_,_,_,_,_,_,_,_,_,_,_,_,_,_,_,_,_,_,_,_,_,_,_,_,_,_] _
      refine s_storeA (y := mxI (i16w ((x11.get x12 0) - x9)) 0) (fkI .i16).len (fkI .i16).one g5.1 g5.2 hs rfl rfl rfl rfl rfl (fun _ => rfl) ?_
      intro w hs
      refine g_ops_nil ?_
      refine g_inBlock ?_
      refine g_region ?_
      show G _ _ _ (.inRegion _ [0, 1] :: _) _ _
      refine g_op (v := Value.int .i64 (i64w (x12 + 1))) rfl rfl rfl ?_
      show G _ _ _ _ [_,_,_,_,_,_,_,_,_,_,_,_,_,_,_,_,_,_,_,_,_,_,_,_,_,_,_,_,_,_,_,_,_,_,_,_,_,_,_,_] _
      refine g_op (v := Value.int .i64 (i64w (x12 + 1))) rfl rfl rfl ?_
      refine g_ops_nil ?_
      obtain rfl := Option.some.inj H
      have hs := hs.pull 1 rfl
      have hs := hs.pull 1 rfl
      have hs : St _ [_,_] _ := St.take (Γ' := []) hs
      exact ih1_ _ _ ⟨x11.set x12 (mxI (i16w ((x11.get x12 0) - x9)) 0), i64w (x12 + 1), Hx1_, rfl, hs⟩
     ·
      intro hb
      rw [if_neg (b_dec_f hb)] at H
      show G _ _ _ _ [_,_,_,_,_,_,_,_,_,_,_,_,_,_,_,_,_,_,_,_,_,_,_,_,_,_,_,_,_,_,_,_,_,_,_,_,_,_,_,_] _
      refine g_ops_nil ?_
      refine g_seq ?_
      refine g_cond_false rfl ?_
      obtain rfl := Option.some.inj H
      subst Hx1_
      have hs := hs.pull 1 rfl
      have hs := hs.pull 1 rfl
      have hs : St _ [_,_] _ := St.take (Γ' := []) hs
      refine g_exit rfl ?_
      exact ha1_ _ _ ⟨x11, Hr1_, rfl, hs⟩
  ·
   intro ha1_
   have hs := hs.pull 0 rfl
   have hs := hs.pull 1 rfl
   have hs : St _ [_,_] _ := St.take (Γ' := []) hs
   refine g_loop_fuel (I := fun n_ t w => ∃ x6 : Int, ∃ x7 : Int, rounds (fun s => impl_wait.b0 N a1 s.1 s.2) n_ (x6, x7) = some o1_ ∧ Fr t (fun O => ([O 0, Value.pointer (some ⟨b2, 0, none⟩), Value.pointer (some ⟨b4, 0, none⟩), O 3, Value.int .i16 x6, O 5, O 6, O 7, Value.agg ((encA (encI .i16)) a1).toArray, Value.int .i64 x7, O 10, O 11, O 12, O 13, O 14, O 15, O 16, O 17, O 18, O 19, O 20, O 21, O 22, O 23, O 24, O 25, O 26, O 27, O 28, O 29, O 30, O 31, O 32, O 33, O 34, O 35, O 36, O 37, O 38, O 39] : List Value)) ∧ St w0 [Cells b2 ((encA (encI .i16)) a1) 29, Cells b4 ((encA (encI .i16)) (Ar.rep 4 0)) 29] w) N ⟨0, 0, Ho, rfl, hs⟩ ?_ ?_
   ·
    rintro _ _ ⟨x6, x7, h, _⟩
    exact rounds_zero h
   ·
    intro n_ ih1_
    rintro t w ⟨x6, x7, Ho, hf, hs⟩
    obtain ⟨O, rfl⟩ := hf.open
    show G _ _ _ _ [_,_,_,_,_,_,_,_,_,_,_,_,_,_,_,_,_,_,_,_,_,_,_,_,_,_,_,_,_,_,_,_,_,_,_,_,_,_,_,_] _
    obtain ⟨x7_, H, Hx1_⟩ := rounds_succ Ho
    have H : impl_wait.b0 N a1 x6 x7 = some x7_ := H
    unfold impl_wait.b0 at H
    refine g_seq ?_
    refine g_region ?_
    show G _ _ _ (.inRegion _ [0] :: _) _ _
    refine g_op_b (B := decide (x7 < 4)) rfl rfl rfl ?_ ?_
    ·
     intro hb
     rw [if_pos (b_dec_t hb)] at H
     show G _ _ _ _ [_,_,_,_,_,_,_,_,_,_,_,_,_,_,_,_,_,_,_,_,_,_,_,_,_,_,_,_,_,_,_,_,_,_,_,_,_,_,_,_] _
     refine g_ops_nil ?_
     refine g_seq ?_
     refine g_cond_true rfl ?_
     refine g_skip ?_
     refine g_seq ?_
     refine g_block_join (J := (fun t w => ∃ x8 : Int, impl_wait.j4 N x7 x8 = some x7_ ∧ Fr t (fun O => ([O 0, Value.pointer (some ⟨b2, 0, none⟩), Value.pointer (some ⟨b4, 0, none⟩), O 3, Value.int .i16 x8, O 5, O 6, O 7, Value.agg ((encA (encI .i16)) a1).toArray, Value.int .i64 x7, O 10, O 11, O 12, O 13, O 14, O 15, O 16, O 17, O 18, O 19, O 20, O 21, O 22, O 23, O 24, O 25, O 26, O 27, O 28, O 29, O 30, O 31, O 32, O 33, O 34, O 35, O 36, O 37, O 38, O 39] : List Value)) ∧ St w0 [Cells b2 ((encA (encI .i16)) a1) 29, Cells b4 ((encA (encI .i16)) (Ar.rep 4 0)) 29] w)) ?_ ?_
     ·
      rintro t w ⟨x8, H, hf, hs⟩
      obtain ⟨O, rfl⟩ := hf.open
      show G _ _ _ _ [_,_,_,_,_,_,_,_,_,_,_,_,_,_,_,_,_,_,_,_,_,_,_,_,_,_,_,_,_,_,_,_,_,_,_,_,_,_,_,_] _
      unfold impl_wait.j4 at H
      refine g_region ?_
      show G _ _ _ (.inRegion _ [0, 1] :: _) _ _
      refine g_op (v := Value.int .i64 (i64w (x7 + 1))) rfl rfl rfl ?_
      show G _ _ _ _ [_,_,_,_,_,_,_,_,_,_,_,_,_,_,_,_,_,_,_,_,_,_,_,_,_,_,_,_,_,_,_,_,_,_,_,_,_,_,_,_] _
      refine g_op (v := Value.int .i64 (i64w (x7 + 1))) rfl rfl rfl ?_
      refine g_ops_nil ?_
      obtain rfl := Option.some.inj H
      have hs := hs.pull 1 rfl
      have hs := hs.pull 1 rfl
      have hs : St _ [_,_] _ := St.take (Γ' := []) hs
      exact ih1_ _ _ ⟨x8, i64w (x7 + 1), Hx1_, rfl, hs⟩
     ·
      intro ha
      refine g_seq ?_
      refine g_region ?_
      show G _ _ _ (.inRegion _ [0, 1] :: _) _ _
      obtain ⟨g1, H⟩ := ite_get H
      refine s_indexV (enc := (encI .i16)) (c := Value.int .i16) (fun _ => rfl) 0 rfl (fun _ => rfl) (fun _ => rfl) g1.1 g1.2 rfl rfl rfl rfl rfl ?_
      show G _ _ _ _ [_,_,_,_,_,_,_,_,_,_,_,_,_,_,_,_,_,_,_,_,_,_,_,_,_,_,_,_,_,_,_,_,_,_,_,_,_,_,_,_] _
      refine g_op (v := Value.int .i16 (a1.get x7 0)) rfl rfl rfl ?_
      show G _ _ _ _ [_,_,_,_,_,_,_,_,_,_,_,_,_,_,_,_,_,_,_,_,_,_,_,_,_,_,_,_,_,_,_,_,_,_,_,_,_,_,_,_] _
      refine g_ops_nil ?_
      refine g_seq ?_
      refine g_region ?_
      show G _ _ _ (.inRegion _ [0, 1, 2, 3, 4, 5, 6, 7, 8, 9, 10] :: _) _ _
      refine g_op (v := Value.int .i16 (a1.get x7 0)) rfl rfl rfl ?_
      refine g_op_b (B := decide ((a1.get x7 0) > 0)) rfl rfl rfl ?_ ?_
      ·
       intro hb
       rw [if_pos (b_dec_t hb)] at H
       show G _ _ _ _ [_,_,_,_,_,_,_,_,_,_,_,_,_,_,_,_,_,_,_,_,_,_,_,_,_,_,_,_,_,_,_,_,_,_,_,_,_,_,_,_] _
       refine g_op (v := Value.bool true) rfl rfl rfl ?_
       refine g_op (v := Value.int .i16 x6) rfl rfl rfl ?_
       refine g_op_b (B := x6 == 0) rfl rfl rfl ?_ ?_
       ·
        intro hb
        rw [if_pos (b_beq_t hb)] at H
        show G _ _ _ _ [_,_,_,_,_,_,_,_,_,_,_,_,_,_,_,_,_,_,_,_,_,_,_,_,_,_,_,_,_,_,_,_,_,_,_,_,_,_,_,_] _
        refine g_op (v := Value.bool true) rfl rfl rfl ?_
        refine g_op_not rfl rfl ?_
        refine g_op_not rfl rfl ?_
        refine g_op_not rfl rfl ?_
        show G _ _ _ _ [_,_,_,_,_,_,_,_,_,_,_,_,_,_,_,_,_,_,_,_,_,_,_,_,_,_,_,_,_,_,_,_,_,_,_,_,_,_,_,_] _
        refine g_op (v := Value.bool true) rfl rfl rfl ?_
        show G _ _ _ _ [_,_,_,_,_,_,_,_,_,_,_,_,_,_,_,_,_,_,_,_,_,_,_,_,_,_,_,_,_,_,_,_,_,_,_,_,_,_,_,_] _
        refine g_op (v := Value.bool true) rfl rfl rfl ?_
        show G _ _ _ _ [_,_,_,_,_,_,_,_,_,_,_,_,_,_,_,_,_,_,_,_,_,_,_,_,_,_,_,_,_,_,_,_,_,_,_,_,_,_,_,_] _
        refine g_ops_nil ?_
        refine g_cond_true rfl ?_
        refine g_region ?_
        show G _ _ _ (.inRegion _ [0, 1] :: _) _ _
        refine g_op (v := Value.int .i16 (a1.get x7 0)) rfl rfl rfl ?_
        refine g_op (v := Value.int .i16 (a1.get x7 0)) rfl rfl rfl ?_
        show G _ _ _ _ [_,_,_,_,_,_,_,_,_,_,_,_,_,_,_,_,_,_,_,_,_,_,_,_,_,_,_,_,_,_,_,_,_,_,_,_,_,_,_,_] _
        refine g_ops_nil ?_
        refine g_inBlock ?_
        have hs := hs.pull 1 rfl
        have hs := hs.pull 1 rfl
        have hs : St _ [_,_] _ := St.take (Γ' := []) hs
        exact ha _ _ ⟨a1.get x7 0, H, rfl, hs⟩
       ·
        intro hb
        rw [if_neg (b_beq_f hb)] at H
        show G _ _ _ _ [_,_,_,_,_,_,_,_,_,_,_,_,_,_,_,_,_,_,_,_,_,_,_,_,_,_,_,_,_,_,_,_,_,_,_,_,_,_,_,_] _
        refine g_op (v := Value.bool false) rfl rfl rfl ?_
        refine g_op (v := Value.int .i16 (a1.get x7 0)) rfl rfl rfl ?_
        refine g_op (v := Value.int .i16 x6) rfl rfl rfl ?_
        refine g_op (v := Value.bool (decide ((a1.get x7 0) < x6))) rfl rfl rfl ?_
        show G _ _ _ _ [_,_,_,_,_,_,_,_,_,_,_,_,_,_,_,_,_,_,_,_,_,_,_,_,_,_,_,_,_,_,_,_,_,_,_,_,_,_,_,_] _
        refine g_op_b (B := decide ((a1.get x7 0) < x6)) rfl rfl rfl ?_ ?_
        ·
         intro hb
         rw [if_pos (b_dec_t hb)] at H
         show G _ _ _ _ [_,_,_,_,_,_,_,_,_,_,_,_,_,_,_,_,_,_,_,_,_,_,_,_,_,_,_,_,_,_,_,_,_,_,_,_,_,_,_,_] _
         refine g_op (v := Value.bool true) rfl rfl rfl ?_
         show G _ _ _ _ [_,_,_,_,_,_,_,_,_,_,_,_,_,_,_,_,_,_,_,_,_,_,_,_,_,_,_,_,_,_,_,_,_,_,_,_,_,_,_,_] _
         refine g_ops_nil ?_
         refine g_cond_true rfl ?_
         refine g_region ?_
         show G _ _ _ (.inRegion _ [0, 1] :: _) _ _
         refine g_op (v := Value.int .i16 (a1.get x7 0)) rfl rfl rfl ?_
         refine g_op (v := Value.int .i16 (a1.get x7 0)) rfl rfl rfl ?_
         show G _ _ _ _ [_,_,_,_,_,_,_,_,_,_,_,_,_,_,_,_,_,_,_,_,_,_,_,_,_,_,_,_,_,_,_,_,_,_,_,_,_,_,_,_] _
         refine g_ops_nil ?_
         refine g_inBlock ?_
         have hs := hs.pull 1 rfl
         have hs := hs.pull 1 rfl
         have hs : St _ [_,_] _ := St.take (Γ' := []) hs
         exact ha _ _ ⟨a1.get x7 0, H, rfl, hs⟩
        ·
         intro hb
         rw [if_neg (b_dec_f hb)] at H
         show G _ _ _ _ [_,_,_,_,_,_,_,_,_,_,_,_,_,_,_,_,_,_,_,_,_,_,_,_,_,_,_,_,_,_,_,_,_,_,_,_,_,_,_,_] _
         refine g_op (v := Value.bool false) rfl rfl rfl ?_
         show G _ _ _ _ [_,_,_,_,_,_,_,_,_,_,_,_,_,_,_,_,_,_,_,_,_,_,_,_,_,_,_,_,_,_,_,_,_,_,_,_,_,_,_,_] _
         refine g_ops_nil ?_
         refine g_cond_false rfl ?_
         refine g_skip ?_
         refine g_inBlock ?_
         have hs := hs.pull 1 rfl
         have hs := hs.pull 1 rfl
         have hs : St _ [_,_] _ := St.take (Γ' := []) hs
         exact ha _ _ ⟨x6, H, rfl, hs⟩
      ·
       intro hb
       rw [if_neg (b_dec_f hb)] at H
       show G _ _ _ _ [_,_,_,_,_,_,_,_,_,_,_,_,_,_,_,_,_,_,_,_,_,_,_,_,_,_,_,_,_,_,_,_,_,_,_,_,_,_,_,_] _
       refine g_op (v := Value.bool false) rfl rfl rfl ?_
       refine g_op_not rfl rfl ?_
       refine g_op_not rfl rfl ?_
       show G _ _ _ _ [_,_,_,_,_,_,_,_,_,_,_,_,_,_,_,_,_,_,_,_,_,_,_,_,_,_,_,_,_,_,_,_,_,_,_,_,_,_,_,_] _
       refine g_op_not rfl rfl ?_
       refine g_op_not rfl rfl ?_
       refine g_op_not rfl rfl ?_
       refine g_op_not rfl rfl ?_
       show G _ _ _ _ [_,_,_,_,_,_,_,_,_,_,_,_,_,_,_,_,_,_,_,_,_,_,_,_,_,_,_,_,_,_,_,_,_,_,_,_,_,_,_,_] _
       refine g_op_not rfl rfl ?_
       show G _ _ _ _ [_,_,_,_,_,_,_,_,_,_,_,_,_,_,_,_,_,_,_,_,_,_,_,_,_,_,_,_,_,_,_,_,_,_,_,_,_,_,_,_] _
       refine g_op (v := Value.bool false) rfl rfl rfl ?_
       show G _ _ _ _ [_,_,_,_,_,_,_,_,_,_,_,_,_,_,_,_,_,_,_,_,_,_,_,_,_,_,_,_,_,_,_,_,_,_,_,_,_,_,_,_] _
       refine g_ops_nil ?_
       refine g_cond_false rfl ?_
       refine g_skip ?_
       refine g_inBlock ?_
       have hs := hs.pull 1 rfl
       have hs := hs.pull 1 rfl
       have hs : St _ [_,_] _ := St.take (Γ' := []) hs
       exact ha _ _ ⟨x6, H, rfl, hs⟩
    ·
     intro hb
     rw [if_neg (b_dec_f hb)] at H
     show G _ _ _ _ [_,_,_,_,_,_,_,_,_,_,_,_,_,_,_,_,_,_,_,_,_,_,_,_,_,_,_,_,_,_,_,_,_,_,_,_,_,_,_,_] _
     refine g_ops_nil ?_
     refine g_seq ?_
     refine g_cond_false rfl ?_
     obtain rfl := Option.some.inj H
     subst Hx1_
     have hs := hs.pull 1 rfl
     have hs := hs.pull 1 rfl
     have hs : St _ [_,_] _ := St.take (Γ' := []) hs
     refine g_exit rfl ?_
     exact ha1_ _ _ ⟨x6, Hr1_, rfl, hs⟩

/- function 56 impl_PlansFor_1 -/
def impl_PlansFor_1.post (wb : World) (Z : As) (b5 : Nat) (b4 : Nat) (b5 : Nat) (b9 : Nat) (r : ((List (S_impl_moment × Int)) × (List (S_impl_moment × Int)) × Int)) (v : Value) (w : World) : Prop := v = Value.tuple #[] ∧ St wb [MapAs b5 ek_S_impl_moment (Value.int .i64) r.1, Cells b4 ([Value.map (some b5)]) 74, Cells b9 ((encI .i64) r.2.2) 2, Z] w
set_option maxHeartbeats 8000000 in
set_option maxRecDepth 100000 in
theorem impl_PlansFor_1.calls {N : Nat} {a1 : Int} {a2 : S_impl_moment} {a3 : (List (S_impl_moment × Int))} {a8 : Int} {b4 : Nat} {b5 : Nat} {b9 : Nat} {wb : World} {Z : As} {w0 : World} {r : ((List (S_impl_moment × Int)) × (List (S_impl_moment × Int)) × Int)} (hs : St wb [MapAs b5 ek_S_impl_moment (Value.int .i64) a3, Cells b4 ([Value.map (some b5)]) 74, Cells b9 ((encI .i64) a8) 2, Z] w0) (H : impl_PlansFor_1.f N a1 a2 a3 a8 = some r) :
    Calls Try.prog 56 #[Value.int .u8 a1, Value.agg (enc_S_impl_moment a2).toArray, Value.pointer (some ⟨b4, 0, none⟩), Value.pointer (some ⟨b9, 0, none⟩)] w0 fun e w => ∃ v, e = .returned v ∧ impl_PlansFor_1.post wb Z b5 b4 b5 b9 r v w := by
  unfold impl_PlansFor_1.f at H
  refine calls_of_g (n := 9) Try.func56 rfl rfl ?_
  show G _ _ _ _ [_,_,_,_,_,_,_,_,_,_,_,_,_] _
  refine g_seq ?_
  refine g_region ?_
  show G _ _ _ (.inRegion _ [0] :: _) _ _
  refine s_box hs rfl rfl (cs := (enc_S_impl_moment a2)) rfl rfl ?_
  intro b11 w hs
  show G _ _ _ _ [_,_,_,_,_,_,_,_,_,_,_,_,_] _
  refine g_ops_nil ?_
  refine g_name ?_
  intro T hT
  refine g_any (n := 8) rfl [0, 1, 2, 3, 4, 5, 6, 7] [0, 1, 2, 3, 4, 5, 6, 7] rfl rfl (Inv := fun D t w => ∃ O : Nat → Value, t = [Value.int .u8 a1, Value.agg (enc_S_impl_moment a2).toArray, Value.pointer (some ⟨b4, 0, none⟩), Value.pointer (some ⟨b9, 0, none⟩), O 4, Value.pointer (some ⟨b11, 0, none⟩), cnd (D 0) (Value.map (some b5)) (O 6), cnd (D 1) (Value.agg (enc_S_impl_moment a2).toArray) (O 7), cnd (D 2) (Value.int .i64 (mGet a3 a2 0)) (O 8), cnd (D 3) (Value.int .i64 a8) (O 9), cnd (D 4) (Value.int .i64 (i64w ((mGet a3 a2 0) + a8))) (O 10), cnd (D 5) (Value.tuple #[Value.int .i64 (mGet a3 a2 0), Value.int .i64 (mPos a3 a2)]) (O 11), cnd (D 6) (Value.int .i64 (mPos a3 a2)) (O 12)] ∧ St wb [Cells b11 (enc_S_impl_moment a2) 73, MapAs b5 ek_S_impl_moment (Value.int .i64) (cnd (D 7) (mSet a3 a2 (i64w ((mGet a3 a2 0) + a8))) (cnd (D 5) (mEnt a3 a2 0) a3)), Cells b4 ([Value.map (some b5)]) 74, Cells b9 ((encI .i64) a8) 2, Z] w) ?_ ⟨⟨⟨⟨⟨⟨⟨⟨trivial, ?_⟩, ?_⟩, ?_⟩, ?_⟩, ?_⟩, ?_⟩, ?_⟩, ?_⟩ ?_
  ·
   intro w hh hbw
   have hs := hs.samew hh hbw
   exact ⟨fun i => T.getD i undef, (by subst hT; rfl), hs⟩
  ·
   intro D t w hD hp hcl hI rest hk
   obtain ⟨O, ht, hs⟩ := hI
   have q2_ : D 2 = false := not_yet (hcl.get 2 (by decide)) 0 0 rfl hD
   have q4_ : D 4 = false := not_yet (hcl.get 4 (by decide)) 0 2 rfl q2_
   have q5_ : D 5 = false := not_yet (hcl.get 5 (by decide)) 0 0 rfl hD
   have q6_ : D 6 = false := not_yet (hcl.get 6 (by decide)) 0 5 rfl q5_
   have q7_ : D 7 = false := not_yet (hcl.get 7 (by decide)) 0 0 rfl hD
   simp only [hD, q2_, q4_, q5_, q6_, q7_, cnd_t, cnd_f, Asc_t, Asc_f] at ht hs
   subst ht
   refine s_load1 rfl rfl (v := Value.map (some b5)) rfl rfl (fun _ => rfl) (cells_load (hs.cells 2 rfl) 0 1 rfl) ?_
   show G _ _ _ _ [_,_,_,_,_,_,_,_,_,_,_,_,_] _
   exact hk _ _ ⟨O, (by simp only [upd, Nat.reduceBEq, Bool.true_or, Bool.false_or, q2_, q4_, q5_, q6_, q7_, cnd_t, cnd_f, Asc_t, Asc_f]), hs.cast (by first | rfl | simp only [List.take, List.drop, List.cons_append, List.nil_append, List.set_cons_zero, List.set_cons_succ, List.eraseIdx, upd, Nat.reduceBEq, Bool.true_or, Bool.false_or, q2_, q4_, q5_, q6_, q7_, cnd_t, cnd_f, Asc_t, Asc_f])⟩
  ·
   intro D t w hD hp hcl hI rest hk
   obtain ⟨O, ht, hs⟩ := hI
   have q2_ : D 2 = false := not_yet (hcl.get 2 (by decide)) 1 1 rfl hD
   have q4_ : D 4 = false := not_yet (hcl.get 4 (by decide)) 0 2 rfl q2_
   have q5_ : D 5 = false := not_yet (hcl.get 5 (by decide)) 1 1 rfl hD
   have q6_ : D 6 = false := not_yet (hcl.get 6 (by decide)) 0 5 rfl q5_
   have q7_ : D 7 = false := not_yet (hcl.get 7 (by decide)) 1 6 rfl q6_
   simp only [hD, q2_, q4_, q5_, q6_, q7_, cnd_t, cnd_f, Asc_t, Asc_f] at ht hs
   subst ht
   refine s_loadA rfl rfl (es := (enc_S_impl_moment a2)) rfl rfl (fun _ => rfl) (n := 5) (fun _ => rfl) (fk_S_impl_moment.len _) (cells_all (hs.cells 0 rfl)) ?_
   show G _ _ _ _ [_,_,_,_,_,_,_,_,_,_,_,_,_] _
   exact hk _ _ ⟨O, (by simp only [upd, Nat.reduceBEq, Bool.true_or, Bool.false_or, q2_, q4_, q5_, q6_, q7_, cnd_t, cnd_f, Asc_t, Asc_f]), hs.cast (by first | rfl | simp only [List.take, List.drop, List.cons_append, List.nil_append, List.set_cons_zero, List.set_cons_succ, List.eraseIdx, upd, Nat.reduceBEq, Bool.true_or, Bool.false_or, q2_, q4_, q5_, q6_, q7_, cnd_t, cnd_f, Asc_t, Asc_f])⟩
  ·
   intro D t w hD hp hcl hI rest hk
   obtain ⟨O, ht, hs⟩ := hI
   obtain ⟨p0_, p1_, _⟩ := hp
   have q4_ : D 4 = false := not_yet (hcl.get 4 (by decide)) 0 2 rfl hD
   have q7_ : D 7 = false := not_yet (hcl.get 7 (by decide)) 2 4 rfl q4_
   simp only [hD, p0_, p1_, q4_, q7_, cnd_t, cnd_f, Asc_t, Asc_f] at ht hs
   subst ht
   refine g_op (v := Value.int .i64 (mGet a3 a2 0)) rfl rfl (x_lookupE key_S_impl_moment_73 (a := a2) (z := 0) (hs.mp 1 rfl) rfl Try.underlying74 rfl rfl (fun _ => rfl)) ?_
   show G _ _ _ _ [_,_,_,_,_,_,_,_,_,_,_,_,_] _
   exact hk _ _ ⟨O, (by simp only [upd, Nat.reduceBEq, Bool.true_or, Bool.false_or, p0_, p1_, q4_, q7_, cnd_t, cnd_f, Asc_t, Asc_f]), hs.cast (by first | rfl | simp only [List.take, List.drop, List.cons_append, List.nil_append, List.set_cons_zero, List.set_cons_succ, List.eraseIdx, upd, Nat.reduceBEq, Bool.true_or, Bool.false_or, p0_, p1_, q4_, q7_, cnd_t, cnd_f, Asc_t, Asc_f])⟩
  ·
   intro D t w hD hp hcl hI rest hk
   obtain ⟨O, ht, hs⟩ := hI
   have q4_ : D 4 = false := not_yet (hcl.get 4 (by decide)) 1 3 rfl hD
   have q5_ : D 5 = false := not_yet (hcl.get 5 (by decide)) 4 3 rfl hD
   have q6_ : D 6 = false := not_yet (hcl.get 6 (by decide)) 0 5 rfl q5_
   have q7_ : D 7 = false := not_yet (hcl.get 7 (by decide)) 1 6 rfl q6_
   simp only [hD, q4_, q5_, q6_, q7_, cnd_t, cnd_f, Asc_t, Asc_f] at ht hs
   subst ht
   refine s_load1 rfl rfl (v := Value.int .i64 a8) rfl rfl (fun _ => rfl) (cells_load (hs.cells 3 rfl) 0 1 rfl) ?_
   show G _ _ _ _ [_,_,_,_,_,_,_,_,_,_,_,_,_] _
   exact hk _ _ ⟨O, (by simp only [upd, Nat.reduceBEq, Bool.true_or, Bool.false_or, q4_, q5_, q6_, q7_, cnd_t, cnd_f, Asc_t, Asc_f]), hs.cast (by first | rfl | simp only [List.take, List.drop, List.cons_append, List.nil_append, List.set_cons_zero, List.set_cons_succ, List.eraseIdx, upd, Nat.reduceBEq, Bool.true_or, Bool.false_or, q4_, q5_, q6_, q7_, cnd_t, cnd_f, Asc_t, Asc_f])⟩
  ·
   intro D t w hD hp hcl hI rest hk
   obtain ⟨O, ht, hs⟩ := hI
   obtain ⟨p2_, p3_, _⟩ := hp
   obtain ⟨p0_, p1_, _⟩ := (hcl.get 2 (by decide)) p2_
   have q7_ : D 7 = false := not_yet (hcl.get 7 (by decide)) 2 4 rfl hD
   simp only [hD, p0_, p1_, p2_, p3_, q7_, cnd_t, cnd_f, Asc_t, Asc_f] at ht hs
   subst ht
   refine g_op (v := Value.int .i64 (i64w ((mGet a3 a2 0) + a8))) rfl rfl rfl ?_
   show G _ _ _ _ [_,_,_,_,_,_,_,_,_,_,_,_,_] _
   exact hk _ _ ⟨O, (by simp only [upd, Nat.reduceBEq, Bool.true_or, Bool.false_or, p0_, p1_, p2_, p3_, q7_, cnd_t, cnd_f, Asc_t, Asc_f]), hs.cast (by first | rfl | simp only [List.take, List.drop, List.cons_append, List.nil_append, List.set_cons_zero, List.set_cons_succ, List.eraseIdx, upd, Nat.reduceBEq, Bool.true_or, Bool.false_or, p0_, p1_, p2_, p3_, q7_, cnd_t, cnd_f, Asc_t, Asc_f])⟩
  ·
   intro D t w hD hp hcl hI rest hk
   obtain ⟨O, ht, hs⟩ := hI
   obtain ⟨p0_, p1_, _, _, p3_, _⟩ := hp
   have q6_ : D 6 = false := not_yet (hcl.get 6 (by decide)) 0 5 rfl hD
   have q7_ : D 7 = false := not_yet (hcl.get 7 (by decide)) 1 6 rfl q6_
   simp only [hD, p0_, p1_, p3_, q6_, q7_, cnd_t, cnd_f, Asc_t, Asc_f] at ht hs
   subst ht
   have hs := hs.pull 1 rfl
   have hs : St _ [_,_,_,_,_] _ := hs
   refine s_mapEntry key_S_impl_moment_73 (a := a2) (z := 0) hs rfl rfl rfl Try.underlying74 rfl rfl (fun _ => rfl) ?_
   intro w hs
   show G _ _ _ _ [_,_,_,_,_,_,_,_,_,_,_,_,_] _
   have hs := hs.push 1 (by simp)
   exact hk _ _ ⟨O, (by simp only [upd, Nat.reduceBEq, Bool.true_or, Bool.false_or, p0_, p1_, p3_, q6_, q7_, cnd_t, cnd_f, Asc_t, Asc_f]), hs.cast (by first | rfl | simp only [List.take, List.drop, List.cons_append, List.nil_append, List.set_cons_zero, List.set_cons_succ, List.eraseIdx, upd, Nat.reduceBEq, Bool.true_or, Bool.false_or, p0_, p1_, p3_, q6_, q7_, cnd_t, cnd_f, Asc_t, Asc_f])⟩
  ·
   intro D t w hD hp hcl hI rest hk
   obtain ⟨O, ht, hs⟩ := hI
   obtain ⟨p5_, _⟩ := hp
   obtain ⟨p0_, p1_, _, _, p3_, _⟩ := (hcl.get 5 (by decide)) p5_
   have q7_ : D 7 = false := not_yet (hcl.get 7 (by decide)) 1 6 rfl hD
   simp only [hD, p0_, p1_, p3_, p5_, q7_, cnd_t, cnd_f, Asc_t, Asc_f] at ht hs
   subst ht
   refine g_op (v := Value.int .i64 (mPos a3 a2)) rfl rfl rfl ?_
   show G _ _ _ _ [_,_,_,_,_,_,_,_,_,_,_,_,_] _
   exact hk _ _ ⟨O, (by simp only [upd, Nat.reduceBEq, Bool.true_or, Bool.false_or, p0_, p1_, p3_, p5_, q7_, cnd_t, cnd_f, Asc_t, Asc_f]), hs.cast (by first | rfl | simp only [List.take, List.drop, List.cons_append, List.nil_append, List.set_cons_zero, List.set_cons_succ, List.eraseIdx, upd, Nat.reduceBEq, Bool.true_or, Bool.false_or, p0_, p1_, p3_, p5_, q7_, cnd_t, cnd_f, Asc_t, Asc_f])⟩
  ·
   intro D t w hD hp hcl hI rest hk
   obtain ⟨O, ht, hs⟩ := hI
   obtain ⟨p0_, p6_, p4_, p5_, _, p1_, p2_, p3_, _, _, _, _⟩ := hp
   simp only [hD, p0_, p1_, p2_, p3_, p4_, p5_, p6_, cnd_t, cnd_f, Asc_t, Asc_f] at ht hs
   subst ht
   have hs := hs.pull 1 rfl
   have hs : St _ [_,_,_,_,_] _ := hs
   refine s_entryStore (a := a2) (z := 0) (v := i64w ((mGet a3 a2 0) + a8)) hs rfl rfl rfl rfl rfl rfl ?_
   intro w hs
   show G _ _ _ _ [_,_,_,_,_,_,_,_,_,_,_,_,_] _
   have hs := hs.push 1 (by simp)
   exact hk _ _ ⟨O, (by simp only [upd, Nat.reduceBEq, Bool.true_or, Bool.false_or, p0_, p1_, p2_, p3_, p4_, p5_, p6_, cnd_t, cnd_f, Asc_t, Asc_f]), hs.cast (by first | rfl | simp only [List.take, List.drop, List.cons_append, List.nil_append, List.set_cons_zero, List.set_cons_succ, List.eraseIdx, upd, Nat.reduceBEq, Bool.true_or, Bool.false_or, p0_, p1_, p2_, p3_, p4_, p5_, p6_, cnd_t, cnd_f, Asc_t, Asc_f])⟩
  ·
   intro D t w hall hI
   obtain ⟨O, ht, hs⟩ := hI
   have p0_ : D 0 = true := hall 0 (by decide)
   have p1_ : D 1 = true := hall 1 (by decide)
   have p2_ : D 2 = true := hall 2 (by decide)
   have p3_ : D 3 = true := hall 3 (by decide)
   have p4_ : D 4 = true := hall 4 (by decide)
   have p5_ : D 5 = true := hall 5 (by decide)
   have p6_ : D 6 = true := hall 6 (by decide)
   have p7_ : D 7 = true := hall 7 (by decide)
   simp only [p0_, p1_, p2_, p3_, p4_, p5_, p6_, p7_, cnd_t, cnd_f, Asc_t, Asc_f] at ht hs
   subst ht
   obtain rfl := Option.some.inj H
   refine g_end Try.func56 (v := Value.tuple #[]) (resN (l := Try.f56.results.toList) (vs := []) rfl trivial (by simp)) ?_
   have hs := hs.pull 4 rfl
   have hs := hs.pull 4 rfl
   have hs := hs.pull 4 rfl
   have hs := hs.pull 4 rfl
   have hs : St _ [_,_,_,_] _ := St.take (Γ' := [_]) hs
   exact ⟨_, rfl, rfl, hs⟩

/- function 55 _impl_Glasses_events_at_impl_PlansFor_1 -/
def _impl_Glasses_events_at_impl_PlansFor_1.post (wb : World) (Z : As) (b7 : Nat) (b6 : Nat) (b7 : Nat) (b11 : Nat) (r : ((List (S_impl_moment × Int)) × (List (S_impl_moment × Int)) × Int)) (v : Value) (w : World) : Prop := v = Value.tuple #[] ∧ St wb [MapAs b7 ek_S_impl_moment (Value.int .i64) r.1, Cells b6 ([Value.map (some b7)]) 74, Cells b11 ((encI .i64) r.2.2) 2, Z] w
set_option maxHeartbeats 8000000 in
set_option maxRecDepth 100000 in
theorem _impl_Glasses_events_at_impl_PlansFor_1.calls {N : Nat} {a1 : (List Int)} {a3 : S_impl_moment} {a4 : Int} {a5 : (List (S_impl_moment × Int))} {a10 : Int} {v2 : Value} {b6 : Nat} {b7 : Nat} {b11 : Nat} {wb : World} {Z : As} {w0 : World} {r : ((List (S_impl_moment × Int)) × (List (S_impl_moment × Int)) × Int)} (hs : St wb [MapAs b7 ek_S_impl_moment (Value.int .i64) a5, Cells b6 ([Value.map (some b7)]) 74, Cells b11 ((encI .i64) a10) 2, Z] w0) (hr0 : RdRow (K.int .i16) wb v2 a1) (H : _impl_Glasses_events_at_impl_PlansFor_1.f N a1 a3 a4 a5 a10 = some r) :
    Calls Try.prog 55 #[v2, Value.agg (enc_S_impl_moment a3).toArray, Value.int .i64 a4, Value.func (Fn.func 56) #[] #[Value.pointer (some ⟨b6, 0, none⟩), Value.pointer (some ⟨b11, 0, none⟩)]] w0 fun e w => ∃ v, e = .returned v ∧ _impl_Glasses_events_at_impl_PlansFor_1.post wb Z b7 b6 b7 b11 r v w := by
  unfold _impl_Glasses_events_at_impl_PlansFor_1.f at H
  refine calls_of_g (n := 44) Try.func55 rfl rfl ?_
  show G _ _ _ _ [_,_,_,_,_,_,_,_,_,_,_,_,_,_,_,_,_,_,_,_,_,_,_,_,_,_,_,_,_,_,_,_,_,_,_,_,_,_,_,_,_,_,_,_,_,_,_,_] _
  refine g_seq ?_
  refine g_region ?_
  show G _ _ _ (.inRegion _ [0] :: _) _ _
  refine s_box hs rfl rfl (cs := (enc_S_impl_moment a3)) rfl rfl ?_
  intro b13 w hs
  refine g_ops_nil ?_
  refine g_seq ?_
  refine g_region ?_
  show G _ _ _ (.inRegion _ [0, 1, 2, 3] :: _) _ _
  refine g_op (v := v2) rfl rfl rfl ?_
  refine s_len (hs.rd hr0) rfl rfl rfl rfl rfl ?_
  obtain ⟨g1, H⟩ := ite_get H
  refine g_op (v := Value.int .i64 (shlI .i64 1 (a1.length : Int))) rfl rfl (x_shl rfl rfl rfl g1) ?_
  show G _ _ _ _ [_,_,_,_,_,_,_,_,_,_,_,_,_,_,_,_,_,_,_,_,_,_,_,_,_,_,_,_,_,_,_,_,_,_,_,_,_,_,_,_,_,_,_,_,_,_,_,_] _
  refine g_op (v := Value.int .i64 0) rfl rfl rfl ?_
  refine g_ops_nil ?_
  obtain ⟨o1_, Ho, Hr1_⟩ := bind_get H
  refine g_block_join (J := fun t w => ∃ x33 : (List (S_impl_moment × Int)), ∃ x34 : Int, _impl_Glasses_events_at_impl_PlansFor_1.a0 N x33 x34 = some r ∧ Fr t (fun O => ([O 0, O 1, O 2, O 3, O 4, O 5, O 6, O 7, O 8, O 9, O 10, O 11, O 12, O 13, O 14, O 15, O 16, O 17, O 18, O 19, O 20, O 21, O 22, O 23, O 24, O 25, O 26, O 27, O 28, O 29, O 30, O 31, O 32, O 33, O 34, O 35, O 36, O 37, O 38, O 39, O 40, O 41, O 42, O 43, O 44, O 45, O 46, O 47] : List Value)) ∧ St wb [MapAs b7 ek_S_impl_moment (Value.int .i64) x33, Cells b6 ([Value.map (some b7)]) 74, Cells b11 ((encI .i64) x34) 2, Z] w) ?_ ?_
  ·
   rintro t w ⟨x33, x34, H, hf, hs⟩
   obtain ⟨O, rfl⟩ := hf.open
   show G _ _ _ _ [_,_,_,_,_,_,_,_,_,_,_,_,_,_,_,_,_,_,_,_,_,_,_,_,_,_,_,_,_,_,_,_,_,_,_,_,_,_,_,_,_,_,_,_,_,_,_,_] _
   unfold _impl_Glasses_events_at_impl_PlansFor_1.a0 at H
   obtain rfl := Option.some.inj H
   refine g_end Try.func55 (v := Value.tuple #[]) (resN (l := Try.f55.results.toList) (vs := []) rfl trivial (by simp)) ?_
   have hs := hs.pull 3 rfl
   have hs := hs.pull 3 rfl
   have hs := hs.pull 3 rfl
   have hs := hs.pull 3 rfl
   have hs : St _ [_,_,_,_] _ := St.take (Γ' := []) hs
   exact ⟨_, rfl, rfl, hs⟩
  ·
   intro ha1_
   have hs := hs.pull 4 rfl
   have hs := hs.pull 1 rfl
   have hs := hs.pull 4 rfl
   have hs := hs.pull 4 rfl
   have hs := hs.pull 4 rfl
   have hs : St _ [_,_,_,_,_] _ := St.take (Γ' := []) hs
   refine g_loop_fuel (I := fun n_ t w => ∃ x23 : (List (S_impl_moment × Int)), ∃ x24 : Int, ∃ x25 : Int, rounds (fun s => _impl_Glasses_events_at_impl_PlansFor_1.b0 N a1 a3 a4 s.1 s.2.1 s.2.2) n_ (x23, x24, x25) = some o1_ ∧ Fr t (fun O => ([v2, O 1, Value.int .i64 a4, Value.func (Fn.func 56) #[] #[Value.pointer (some ⟨b6, 0, none⟩), Value.pointer (some ⟨b11, 0, none⟩)], O 4, Value.pointer (some ⟨b13, 0, none⟩), O 6, O 7, O 8, O 9, O 10, O 11, O 12, Value.int .i64 (shlI .i64 1 (a1.length : Int)), Value.int .i64 x25, O 15, O 16, O 17, O 18, O 19, O 20, O 21, O 22, O 23, O 24, O 25, O 26, O 27, O 28, O 29, O 30, O 31, O 32, O 33, O 34, O 35, O 36, O 37, O 38, O 39, O 40, O 41, O 42, O 43, O 44, O 45, O 46, O 47] : List Value)) ∧ St wb [MapAs b7 ek_S_impl_moment (Value.int .i64) x23, Cells b6 ([Value.map (some b7)]) 74, Cells b11 ((encI .i64) x24) 2, Cells b13 (enc_S_impl_moment a3) 73, Z] w) N ⟨a5, a10, 0, Ho, rfl, hs⟩ ?_ ?_
   ·
    rintro _ _ ⟨x23, x24, x25, h, _⟩
    exact rounds_zero h
   ·
    intro n_ ih1_
    rintro t w ⟨x23, x24, x25, Ho, hf, hs⟩
    obtain ⟨O, rfl⟩ := hf.open
    show G _ _ _ _ [_,_,_,_,_,_,_,_,_,_,_,_,_,_,_,_,_,_,_,_,_,_,_,_,_,_,_,_,_,_,_,_,_,_,_,_,_,_,_,_,_,_,_,_,_,_,_,_] _
    obtain ⟨x2_, H, Hx1_⟩ := rounds_succ Ho
    have H : _impl_Glasses_events_at_impl_PlansFor_1.b0 N a1 a3 a4 x23 x24 x25 = some x2_ := H
    unfold _impl_Glasses_events_at_impl_PlansFor_1.b0 at H
    refine g_seq ?_
    refine g_region ?_
    show G _ _ _ (.inRegion _ [0] :: _) _ _
    refine g_op_b (B := decide (x25 < (shlI .i64 1 (a1.length : Int)))) rfl rfl rfl ?_ ?_
    ·
     intro hb
     rw [if_pos (b_dec_t hb)] at H
     refine g_ops_nil ?_
     refine g_seq ?_
     refine g_cond_true rfl ?_
     refine g_skip ?_
     refine g_seq ?_
     refine g_block_join (J := (fun t w => ∃ x31 : (List (S_impl_moment × Int)), ∃ x32 : Int, _impl_Glasses_events_at_impl_PlansFor_1.j2 N x25 x31 x32 = some x2_ ∧ Fr t (fun O => ([v2, O 1, Value.int .i64 a4, Value.func (Fn.func 56) #[] #[Value.pointer (some ⟨b6, 0, none⟩), Value.pointer (some ⟨b11, 0, none⟩)], O 4, Value.pointer (some ⟨b13, 0, none⟩), O 6, O 7, O 8, O 9, O 10, O 11, O 12, Value.int .i64 (shlI .i64 1 (a1.length : Int)), Value.int .i64 x25, O 15, O 16, O 17, O 18, O 19, O 20, O 21, O 22, O 23, O 24, O 25, O 26, O 27, O 28, O 29, O 30, O 31, O 32, O 33, O 34, O 35, O 36, O 37, O 38, O 39, O 40, O 41, O 42, O 43, O 44, O 45, O 46, O 47] : List Value)) ∧ St wb [Cells b6 ([Value.map (some b7)]) 74, MapAs b7 ek_S_impl_moment (Value.int .i64) x31, Cells b11 ((encI .i64) x32) 2, Cells b13 (enc_S_impl_moment a3) 73, Z] w)) ?_ ?_
     ·
      rintro t w ⟨x31, x32, H, hf, hs⟩
      obtain ⟨O, rfl⟩ := hf.open
      show G _ _ _ _ [_,_,_,_,_,_,_,_,_,_,_,_,_,_,_,_,_,_,_,_,_,_,_,_,_,_,_,_,_,_,_,_,_,_,_,_,_,_,_,_,_,_,_,_,_,_,_,_] _
      unfold _impl_Glasses_events_at_impl_PlansFor_1.j2 at H
      refine g_region ?_
      show G _ _ _ (.inRegion _ [0, 1] :: _) _ _
      refine g_op (v := Value.int .i64 (i64w (x25 + 1))) rfl rfl rfl ?_
      refine g_op (v := Value.int .i64 (i64w (x25 + 1))) rfl rfl rfl ?_
      refine g_ops_nil ?_
      obtain rfl := Option.some.inj H
      have hs := hs.pull 4 rfl
      have hs := hs.pull 4 rfl
      have hs := hs.pull 4 rfl
      have hs := hs.pull 3 rfl
      have hs := hs.pull 4 rfl
      have hs : St _ [_,_,_,_,_] _ := St.take (Γ' := []) hs
      exact ih1_ _ _ ⟨x31, x32, i64w (x25 + 1), Hx1_, rfl, hs⟩
     ·
      intro ha
      refine g_seq ?_
      refine g_region ?_
      show G _ _ _ (.inRegion _ [0, 1] :: _) _ _
      refine g_op (v := Value.int .i64 x25) rfl rfl rfl ?_
      refine g_op (v := Value.int .i64 x25) rfl rfl rfl ?_
      show G _ _ _ _ [_,_,_,_,_,_,_,_,_,_,_,_,_,_,_,_,_,_,_,_,_,_,_,_,_,_,_,_,_,_,_,_,_,_,_,_,_,_,_,_,_,_,_,_,_,_,_,_] _
      refine g_ops_nil ?_
      refine g_seq ?_
      refine g_region ?_
      show G _ _ _ (.inRegion _ [0, 1, 2, 3, 4, 5, 6, 7, 8, 9, 10, 11, 12] :: _) _ _
      refine g_op (v := v2) rfl rfl rfl ?_
      refine g_op (v := Value.pointer (some ⟨b13, 1, none⟩)) rfl rfl rfl ?_
      refine s_loadA rfl rfl (es := ((encA (encI .i16)) a3.f_tops)) rfl rfl (fun _ => rfl) (n := 4) (fun _ => rfl) ((fkA (n := 4) (he := (fkI .i16).len) (h1 := (fkI .i16).one)).len _) (cells_load (hs.cells 3 rfl) 1 4 (by simp only [enc_S_impl_moment]; first | rfl | exact List.take_of_length_le (Nat.le_of_eq ((fkA (n := 4) (he := (fkI .i16).len) (h1 := (fkI .i16).one)).len _)) | simp [List.drop_append, List.take_append, encA_len])) ?_
      refine g_op (v := Value.int .i64 x25) rfl rfl rfl ?_
      refine g_op (v := Value.int .u8 (u8w x25)) rfl rfl rfl ?_
      obtain ⟨r26, Hr26, H⟩ := bind_get H
      refine s_call (args := [v2, Value.agg ((encA (encI .i16)) a3.f_tops).toArray, Value.int .u8 (u8w x25)]) rfl rfl (x_call rfl (callFunc_enter Try.func68 rfl rfl) rfl) (_impl_Glasses_turned.calls (a1 := a1) (a3 := a3.f_tops) (a4 := u8w x25) (hs.rd hr0) Hr26) ?_
      rintro _ w ⟨rfl, hs2⟩
      have hs : St _ [_,_,_,_,_] _ := hs.call hs2
      obtain ⟨r27, Hr27, H⟩ := bind_get H
      refine s_call (args := [Value.agg ((encA (encI .i16)) r26).toArray]) rfl rfl (x_call rfl (callFunc_enter Try.func67 rfl rfl) rfl) (impl_wait.calls (a1 := r26) Hr27) ?_
      rintro _ w ⟨rfl, hs2⟩
      have hs : St _ [_,_,_,_,_] _ := hs.call hs2
      show G _ _ _ _ [_,_,_,_,_,_,_,_,_,_,_,_,_,_,_,_,_,_,_,_,_,_,_,_,_,_,_,_,_,_,_,_,_,_,_,_,_,_,_,_,_,_,_,_,_,_,_,_] _
      refine g_op (v := Value.tuple #[Value.agg ((encA (encI .i16)) r27.1).toArray, Value.int .i64 r27.2]) rfl rfl rfl ?_
      refine g_op (v := Value.agg ((encA (encI .i16)) r27.1).toArray) rfl rfl rfl ?_
      refine g_op (v := Value.int .i64 r27.2) rfl rfl rfl ?_
      refine s_alloc hs rfl rfl (z := (Value.agg #[Value.int .i16 0, Value.int .i16 0, Value.int .i16 0, Value.int .i16 0])) (cs := ((encA (encI .i16)) (Ar.rep 4 0))) rfl (fun _ => rfl) rfl ?_
      intro b28 w hs
      refine s_storeAll (n := 4) hs ((fkA (n := 4) (he := (fkI .i16).len) (h1 := (fkI .i16).one)).len _) rfl rfl (vs := ((encA (encI .i16)) r27.1)) rfl rfl rfl (fun _ => rfl) ((fkA (n := 4) (he := (fkI .i16).len) (h1 := (fkI .i16).one)).len _) ((fkA (n := 4) (he := (fkI .i16).len) (h1 := (fkI .i16).one)).one _) ?_
      intro w hs
      refine g_op (v := Value.int .i64 r27.2) rfl rfl rfl ?_
      refine g_ops_nil ?_
      refine g_seq ?_
      refine g_region ?_
      show G _ _ _ (.inRegion _ [0, 1, 2, 3, 4, 5, 6, 7, 8, 9] :: _) _ _
      refine g_op (v := Value.int .i64 r27.2) rfl rfl rfl ?_
      refine g_op_b (B := decide (r27.2 > 0)) rfl rfl rfl ?_ ?_
      ·
       intro hb
       rw [if_pos (b_dec_t hb)] at H
       refine g_op (v := Value.bool true) rfl rfl rfl ?_
       refine g_op (v := Value.pointer (some ⟨b13, 0, none⟩)) rfl rfl rfl ?_
       refine s_load1 rfl rfl (v := Value.int .i64 a3.f_time) rfl rfl (fun _ => rfl) (cells_load (hs.cells 4 rfl) 0 1 rfl) ?_
       show G _ _ _ _ [_,_,_,_,_,_,_,_,_,_,_,_,_,_,_,_,_,_,_,_,_,_,_,_,_,_,_,_,_,_,_,_,_,_,_,_,_,_,_,_,_,_,_,_,_,_,_,_] _
       refine g_op (v := Value.int .i64 r27.2) rfl rfl rfl ?_
       refine g_op (v := Value.int .i64 (i64w (a3.f_time + r27.2))) rfl rfl rfl ?_
       refine g_op (v := Value.int .i64 a4) rfl rfl rfl ?_
       refine g_op_b (B := decide ((i64w (a3.f_time + r27.2)) ≤ a4)) rfl rfl rfl ?_ ?_
       ·
        intro hb
        rw [if_pos (b_dec_t hb)] at H
        refine g_op (v := Value.bool true) rfl rfl rfl ?_
        refine g_ops_nil ?_
        refine g_cond_true rfl ?_
        refine g_region ?_
        show G _ _ _ (.inRegion _ [0, 1, 2, 3, 4, 5, 6, 7, 8, 9] :: _) _ _
        refine g_op (v := Value.func (Fn.func 56) #[] #[Value.pointer (some ⟨b6, 0, none⟩), Value.pointer (some ⟨b11, 0, none⟩)]) rfl rfl rfl ?_
        refine g_op (v := Value.int .i64 x25) rfl rfl rfl ?_
        refine g_op (v := Value.int .u8 (u8w x25)) rfl rfl rfl ?_
        refine g_op (v := Value.pointer (some ⟨b13, 0, none⟩)) rfl rfl rfl ?_
        refine s_load1 rfl rfl (v := Value.int .i64 a3.f_time) rfl rfl (fun _ => rfl) (cells_load (hs.cells 4 rfl) 0 1 rfl) ?_
        show G _ _ _ _ [_,_,_,_,_,_,_,_,_,_,_,_,_,_,_,_,_,_,_,_,_,_,_,_,_,_,_,_,_,_,_,_,_,_,_,_,_,_,_,_,_,_,_,_,_,_,_,_] _
        refine g_op (v := Value.int .i64 r27.2) rfl rfl rfl ?_
        refine g_op (v := Value.int .i64 (i64w (a3.f_time + r27.2))) rfl rfl rfl ?_
        refine s_loadA rfl rfl (es := ((encA (encI .i16)) r27.1)) rfl rfl (fun _ => rfl) (n := 4) (fun _ => rfl) ((fkA (n := 4) (he := (fkI .i16).len) (h1 := (fkI .i16).one)).len _) (cells_all (hs.cells 0 rfl)) ?_
        refine g_op (v := Value.agg (enc_S_impl_moment (⟨i64w (a3.f_time + r27.2), r27.1⟩ : S_impl_moment)).toArray) rfl rfl (x_buildS (cs := (enc_S_impl_moment (⟨i64w (a3.f_time + r27.2), r27.1⟩ : S_impl_moment))) (segs := [[Value.int .i64 0], [Value.int .i16 0, Value.int .i16 0, Value.int .i16 0, Value.int .i16 0]]) rfl rfl (fun _ => rfl) ⟨rfl, (fun _ => rfl), rfl, (fun _ => rfl), trivial⟩ (by simp only [List.map_cons, List.map_nil, List.forall_mem_cons, List.not_mem_nil, false_implies, implies_true, and_true]; exact ⟨⟨_, rfl, rfl⟩, ⟨_, rfl, (fkA (n := 4) (he := (fkI .i16).len) (h1 := (fkI .i16).one)).len _⟩⟩) (by first | rfl | (simp [ev, enc_S_impl_moment]; done) | (simp [ev, enc_S_impl_moment]; rfl))) ?_
        show G _ _ _ _ [_,_,_,_,_,_,_,_,_,_,_,_,_,_,_,_,_,_,_,_,_,_,_,_,_,_,_,_,_,_,_,_,_,_,_,_,_,_,_,_,_,_,_,_,_,_,_,_] _
        obtain ⟨r30, Hr30, H⟩ := bind_get H
        have hs := hs.pull 3 rfl
        have hs := hs.pull 3 rfl
        have hs := hs.pull 3 rfl
        have hs : St _ [_,_,_,_,_,_] _ := hs
        have hs := hs.pack 3
        refine s_call (args := [Value.int .u8 (u8w x25), Value.agg (enc_S_impl_moment (⟨i64w (a3.f_time + r27.2), r27.1⟩ : S_impl_moment)).toArray, Value.pointer (some ⟨b6, 0, none⟩), Value.pointer (some ⟨b11, 0, none⟩)]) rfl rfl (x_callC rfl (callFunc_enter Try.func56 rfl rfl) rfl rfl) (impl_PlansFor_1.calls (a1 := u8w x25) (a2 := (⟨i64w (a3.f_time + r27.2), r27.1⟩ : S_impl_moment)) (a3 := x23) (a8 := x24) hs Hr30) ?_
        rintro _ w ⟨rfl, hs⟩
        have hs := St.unpack (Γ := [_,_,_]) hs
        have hs : St _ [_,_,_,_,_,_] _ := hs
        refine g_ops_nil ?_
        refine g_inBlock ?_
        have hs := hs.pull 5 rfl
        have hs := hs.pull 5 rfl
        have hs := hs.pull 4 rfl
        have hs := hs.pull 3 rfl
        have hs := hs.pull 4 rfl
        have hs : St _ [_,_,_,_,_] _ := St.take (Γ' := [_]) hs
        exact ha _ _ ⟨r30.1, r30.2.2, H, rfl, hs⟩
       ·
        intro hb
        rw [if_neg (b_dec_f hb)] at H
        refine g_op (v := Value.bool false) rfl rfl rfl ?_
        show G _ _ _ _ [_,_,_,_,_,_,_,_,_,_,_,_,_,_,_,_,_,_,_,_,_,_,_,_,_,_,_,_,_,_,_,_,_,_,_,_,_,_,_,_,_,_,_,_,_,_,_,_] _
        refine g_ops_nil ?_
        refine g_cond_false rfl ?_
        refine g_skip ?_
        refine g_inBlock ?_
        have hs := hs.pull 5 rfl
        have hs := hs.pull 5 rfl
        have hs := hs.pull 5 rfl
        have hs := hs.pull 4 rfl
        have hs := hs.pull 5 rfl
        have hs : St _ [_,_,_,_,_] _ := St.take (Γ' := [_]) hs
        exact ha _ _ ⟨x23, x24, H, rfl, hs⟩
      ·
       intro hb
       rw [if_neg (b_dec_f hb)] at H
       show G _ _ _ _ [_,_,_,_,_,_,_,_,_,_,_,_,_,_,_,_,_,_,_,_,_,_,_,_,_,_,_,_,_,_,_,_,_,_,_,_,_,_,_,_,_,_,_,_,_,_,_,_] _
       refine g_op (v := Value.bool false) rfl rfl rfl ?_
       refine g_op_not rfl rfl ?_
       refine g_op_not rfl rfl ?_
       refine g_op_not rfl rfl ?_
       refine g_op_not rfl rfl ?_
       refine g_op_not rfl rfl ?_
       refine g_op_not rfl rfl ?_
       show G _ _ _ _ [_,_,_,_,_,_,_,_,_,_,_,_,_,_,_,_,_,_,_,_,_,_,_,_,_,_,_,_,_,_,_,_,_,_,_,_,_,_,_,_,_,_,_,_,_,_,_,_] _
       refine g_op (v := Value.bool false) rfl rfl rfl ?_
       refine g_ops_nil ?_
       refine g_cond_false rfl ?_
       refine g_skip ?_
       refine g_inBlock ?_
       have hs := hs.pull 5 rfl
       have hs := hs.pull 5 rfl
       have hs := hs.pull 5 rfl
       have hs := hs.pull 4 rfl
       have hs := hs.pull 5 rfl
       have hs : St _ [_,_,_,_,_] _ := St.take (Γ' := [_]) hs
       exact ha _ _ ⟨x23, x24, H, rfl, hs⟩
    ·
     intro hb
     rw [if_neg (b_dec_f hb)] at H
     refine g_ops_nil ?_
     refine g_seq ?_
     refine g_cond_false rfl ?_
     obtain rfl := Option.some.inj H
     subst Hx1_
     have hs := hs.pull 4 rfl
     have hs := hs.pull 3 rfl
     have hs := hs.pull 3 rfl
     have hs := hs.pull 3 rfl
     have hs : St _ [_,_,_,_] _ := St.take (Γ' := [_]) hs
     refine g_exit rfl ?_
     exact ha1_ _ _ ⟨x23, x24, Hr1_, rfl, hs⟩

end Go.Proofs.YtioefkcldfjobaaX
