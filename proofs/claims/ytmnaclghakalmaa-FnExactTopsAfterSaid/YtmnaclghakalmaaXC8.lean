/- Contracts, printed by gen.py. -/
import Derived.Test.YtmnaclghakalmaaXT
import Derived.Test.YtmnaclghakalmaaProg
import Derived.Test.YtmnaclghakalmaaXRowR
import Derived.Test.YtmnaclghakalmaaXSq
import Derived.Test.YtmnaclghakalmaaXSeg
import Derived.Test.YtmnaclghakalmaaXKey
import Derived.Test.YtmnaclghakalmaaXIter
import Derived.Test.YtmnaclghakalmaaXRow2
import Derived.Test.YtmnaclghakalmaaXEla
import Derived.Test.YtmnaclghakalmaaTCX
namespace Go.Proofs.YtmnaclghakalmaaX
open Go Go.RowKit Go.Proofs
set_option linter.unusedVariables false
set_option linter.unusedSimpArgs false
/- function 42 impl_wait -/
def impl_wait.post (w0 : World) (r : ((Ar Int 4) × Int)) (v : Value) (w : World) : Prop := v = Value.tuple #[Value.agg ((encA (encI .i16)) r.1).toArray, Value.int .i64 r.2] ∧ St w0 [] w
set_option maxHeartbeats 8000000 in
set_option maxRecDepth 100000 in
theorem impl_wait.calls {N : Nat} {a1 : (Ar Int 4)} {w0 : World} {r : ((Ar Int 4) × Int)} (H : impl_wait.f N a1 = some r) :
    Calls Try.prog 42 #[Value.agg ((encA (encI .i16)) a1).toArray] w0 fun e w => ∃ v, e = .returned v ∧ impl_wait.post w0 r v w := by
  unfold impl_wait.f at H
  have hs : St w0 [] w0 := St.refl w0
  refine calls_of_g (n := 39) Try.func42 rfl rfl ?_
  show G _ _ _ _ [_,_,_,_,_,_,_,_,_,_,_,_,_,_,_,_,_,_,_,_,_,_,_,_,_,_,_,_,_,_,_,_,_,_,_,_,_,_,_,_] _
  refine g_seq (g_rg [0, 1, 2] rfl ?_)
  refine s_box hs rfl rfl (cs := ((encA (encI .i16)) a1)) rfl rfl ?_
  intro b2 w hs
  refine s_alloc hs rfl rfl (z := (Value.agg #[Value.int .i16 0, Value.int .i16 0, Value.int .i16 0, Value.int .i16 0])) (cs := ((encA (encI .i16)) (Ar.rep 4 0))) rfl (fun _ => rfl) rfl ?_
  intro b4 w hs
  refine g_op (v := Value.int .i64 0) rfl rfl rfl ?_
  show G _ _ _ _ [_,_,_,_,_,_,_,_,_,_,_,_,_,_,_,_,_,_,_,_,_,_,_,_,_,_,_,_,_,_,_,_,_,_,_,_,_,_,_,_] _
  refine g_ops_nil (g_seq (g_rg [0] rfl ?_))
  refine g_op (v := Value.int .i16 0) rfl rfl rfl (g_ops_nil (g_seq (g_seq (g_rg [0, 1] rfl ?_))))
  refine s_loadA rfl rfl (es := ((encA (encI .i16)) a1)) rfl rfl (fun _ => rfl) (n := 4) (fun _ => rfl) ((fkA (n := 4) (he := (fkI .i16).len) (h1 := (fkI .i16).one)).len _) (cells_all (hs.cells 1 rfl)) ?_
  refine g_op (v := Value.int .i64 0) rfl rfl rfl (g_ops_nil ?_)
  obtain ⟨o1_, Ho, Hr1_⟩ := bind_get H
  refine g_block_join (J := fun t w => ∃ x9 : Int, impl_wait.a0 N a1 x9 = some r ∧ Fr t (fun O => ([O 0, Value.pointer (some ⟨b2, 0, none⟩), Value.pointer (some ⟨b4, 0, none⟩), O 3, Value.int .i16 x9, O 5, O 6, O 7, O 8, O 9, O 10, O 11, O 12, O 13, O 14, O 15, O 16, O 17, O 18, O 19, O 20, O 21, O 22, O 23, O 24, O 25, O 26, O 27, O 28, O 29, O 30, O 31, O 32, O 33, O 34, O 35, O 36, O 37, O 38, O 39] : List Value)) ∧ St w0 [Cells b2 ((encA (encI .i16)) a1) 30, Cells b4 ((encA (encI .i16)) (Ar.rep 4 0)) 30] w) ?_ ?_
  ·
   rintro t w ⟨x9, H, hf, hs⟩
   obtain ⟨O, rfl⟩ := hf.open
   show G _ _ _ _ [_,_,_,_,_,_,_,_,_,_,_,_,_,_,_,_,_,_,_,_,_,_,_,_,_,_,_,_,_,_,_,_,_,_,_,_,_,_,_,_] _
   unfold impl_wait.a0 at H
   refine g_seq (g_seq (g_rg [0] rfl ?_))
   refine g_op (v := Value.int .i64 0) rfl rfl rfl (g_ops_nil ?_)
   obtain ⟨o1_, Ho, Hr1_⟩ := bind_get H
   refine g_block_join (J := fun t w => ∃ x13 : (Ar Int 4), impl_wait.a2 N x9 x13 = some r ∧ Fr t (fun O => ([O 0, Value.pointer (some ⟨b2, 0, none⟩), Value.pointer (some ⟨b4, 0, none⟩), O 3, Value.int .i16 x9, O 5, O 6, O 7, O 8, O 9, O 10, O 11, O 12, O 13, O 14, O 15, O 16, O 17, O 18, O 19, O 20, O 21, O 22, O 23, O 24, O 25, O 26, O 27, O 28, O 29, O 30, O 31, O 32, O 33, O 34, O 35, O 36, O 37, O 38, O 39] : List Value)) ∧ St w0 [Cells b2 ((encA (encI .i16)) x13) 30, Cells b4 ((encA (encI .i16)) (Ar.rep 4 0)) 30] w) ?_ ?_
   ·
    rintro t w ⟨x13, H, hf, hs⟩
    obtain ⟨O, rfl⟩ := hf.open
    show G _ _ _ _ [_,_,_,_,_,_,_,_,_,_,_,_,_,_,_,_,_,_,_,_,_,_,_,_,_,_,_,_,_,_,_,_,_,_,_,_,_,_,_,_] _
    unfold impl_wait.a2 at H
    refine g_seq (g_rg [0, 1, 2, 3, 4] rfl ?_)
    refine s_loadA rfl rfl (es := ((encA (encI .i16)) x13)) rfl rfl (fun _ => rfl) (n := 4) (fun _ => rfl) ((fkA (n := 4) (he := (fkI .i16).len) (h1 := (fkI .i16).one)).len _) (cells_all (hs.cells 0 rfl)) ?_
    refine g_op (v := Value.int .i16 x9) rfl rfl rfl ?_
    refine g_op (v := Value.int .i64 (i64w x9)) rfl rfl rfl ?_
    have hs := hs.pull 1 rfl
    have hs : St _ [_,_] _ := hs
    refine s_storeAll (n := 4) hs ((fkA (n := 4) (he := (fkI .i16).len) (h1 := (fkI .i16).one)).len _) rfl rfl (vs := ((encA (encI .i16)) x13)) rfl rfl rfl (fun _ => rfl) ((fkA (n := 4) (he := (fkI .i16).len) (h1 := (fkI .i16).one)).len _) ((fkA (n := 4) (he := (fkI .i16).len) (h1 := (fkI .i16).one)).one _) ?_
    intro w hs
    refine g_op (v := Value.int .i64 (i64w x9)) rfl rfl rfl (g_ops_nil ?_)
    obtain rfl := Option.some.inj H
    refine g_ret Try.func42 (v := Value.tuple #[Value.agg ((encA (encI .i16)) x13).toArray, Value.int .i64 (i64w x9)]) (resN (l := Try.f42.results.toList) (vs := [Value.agg ((encA (encI .i16)) x13).toArray, Value.int .i64 (i64w x9)]) rfl ⟨⟨_, rfl, (run_loadVar_agg (es := ((encA (encI .i16)) x13)) rfl (congrArg (Result.ok · _) ((fkA (n := 4) (he := (fkI .i16).len) (h1 := (fkI .i16).one)).len _).symm) (cells_all (hs.cells 0 rfl)))⟩, rfl, trivial⟩ (by simp)) ?_
    have hs : St _ [] _ := St.take (Γ' := [_,_]) hs
    exact ⟨_, rfl, rfl, hs⟩
   intro ha1_
   have hs := hs.pull 1 rfl
   have hs := hs.pull 1 rfl
   have hs : St _ [_,_] _ := St.take (Γ' := []) hs
   refine g_loop_fuel (I := fun n_ t w => ∃ x11 : (Ar Int 4), ∃ x12 : Int, rounds (fun s => impl_wait.b2 N x9 s.1 s.2) n_ (x11, x12) = some o1_ ∧ Fr t (fun O => ([O 0, Value.pointer (some ⟨b2, 0, none⟩), Value.pointer (some ⟨b4, 0, none⟩), O 3, Value.int .i16 x9, O 5, O 6, O 7, O 8, O 9, O 10, O 11, O 12, O 13, O 14, O 15, O 16, O 17, O 18, O 19, O 20, O 21, O 22, O 23, O 24, Value.int .i64 x12, O 26, O 27, O 28, O 29, O 30, O 31, O 32, O 33, O 34, O 35, O 36, O 37, O 38, O 39] : List Value)) ∧ St w0 [Cells b2 ((encA (encI .i16)) x11) 30, Cells b4 ((encA (encI .i16)) (Ar.rep 4 0)) 30] w) N ⟨a1, 0, Ho, rfl, hs⟩ ?_ ?_
   ·
    rintro _ _ ⟨x11, x12, h, _⟩
    exact rounds_zero h
   intro n_ ih1_
   rintro t w ⟨x11, x12, Ho, hf, hs⟩
   obtain ⟨O, rfl⟩ := hf.open
   show G _ _ _ _ [_,_,_,_,_,_,_,_,_,_,_,_,_,_,_,_,_,_,_,_,_,_,_,_,_,_,_,_,_,_,_,_,_,_,_,_,_,_,_,_] _
   obtain ⟨x6_, H, Hx1_⟩ := rounds_succ Ho
   have H : impl_wait.b2 N x9 x11 x12 = some x6_ := H
   unfold impl_wait.b2 at H
   refine g_seq (g_rg [0] rfl ?_)
   refine g_op_b (B := decide (x12 < 4)) rfl rfl rfl ?_ ?_
   ·
    intro hb
    rw [if_pos (b_dec_t hb)] at H
    refine g_ops_nil (g_seq (g_cond_true rfl (g_skip (g_seq ?_))))
    refine g_block (g_seq (g_rg [0, 1] rfl ?_))
    refine g_op (v := Value.int .i64 x12) rfl rfl rfl ?_
    refine g_op (v := Value.int .i64 x12) rfl rfl rfl ?_
    show G _ _ _ _ [_,_,_,_,_,_,_,_,_,_,_,_,_,_,_,_,_,_,_,_,_,_,_,_,_,_,_,_,_,_,_,_,_,_,_,_,_,_,_,_] _
    refine g_ops_nil (g_rg [0, 1, 2, 3, 4, 5, 6, 7, 8] rfl ?_)
    refine g_op (v := Value.int .i64 x12) rfl rfl rfl ?_
    refine g_op (v := Value.int .i64 x12) rfl rfl rfl ?_
    obtain ⟨g4, H⟩ := ite_get H
    refine s_idxA (n := x12) (m := 1) rfl (fun _ => rfl) g4.1 g4.2 rfl rfl rfl rfl rfl ?_
    refine s_load1 rfl rfl (v := Value.int .i16 (x11.get x12 0)) rfl rfl (fun _ => rfl) (by rw [Nat.zero_add]; exact cells_load (hs.cells 0 rfl) _ _ (encA_at (fkI .i16).len _ _ 0 g4.1 g4.2)) ?_
    refine g_op (v := Value.int .i16 x9) rfl rfl rfl ?_
    refine g_op (v := Value.int .i16 (i16w ((x11.get x12 0) - x9))) rfl rfl rfl ?_
    show G _ _ _ _ [_,_,_,_,_,_,_,_,_,_,_,_,_,_,_,_,_,_,_,_,_,_,_,_,_,_,_,_,_,_,_,_,_,_,_,_,_,_,_,_] _
    refine g_op (v := Value.int .i16 (mxI (i16w ((x11.get x12 0) - x9)) 0)) rfl rfl (x_max rfl rfl rfl) ?_
    obtain ⟨g5, H⟩ := ite_get H
    refine s_idxA (n := x12) (m := 1) rfl (fun _ => rfl) g5.1 g5.2 rfl rfl rfl rfl rfl ?_
    refine s_storeA (y := mxI (i16w ((x11.get x12 0) - x9)) 0) (fkI .i16).len (fkI .i16).one g5.1 g5.2 hs rfl rfl rfl rfl rfl (fun _ => rfl) ?_
    intro w hs
    refine g_ops_nil ?_
    refine g_inBlock (g_rg [0, 1] rfl ?_)
    refine g_op (v := Value.int .i64 (i64w (x12 + 1))) rfl rfl rfl ?_
    show G _ _ _ _ [_,_,_,_,_,_,_,_,_,_,_,_,_,_,_,_,_,_,_,_,_,_,_,_,_,_,_,_,_,_,_,_,_,_,_,_,_,_,_,_] _
    refine g_op (v := Value.int .i64 (i64w (x12 + 1))) rfl rfl rfl (g_ops_nil ?_)
    obtain rfl := Option.some.inj H
    have hs := hs.pull 1 rfl
    have hs := hs.pull 1 rfl
    have hs : St _ [_,_] _ := St.take (Γ' := []) hs
    exact ih1_ _ _ ⟨x11.set x12 (mxI (i16w ((x11.get x12 0) - x9)) 0), i64w (x12 + 1), Hx1_, rfl, hs⟩
   intro hb
   rw [if_neg (b_dec_f hb)] at H
   refine g_ops_nil (g_seq (g_cond_false rfl ?_))
   obtain rfl := Option.some.inj H
   subst Hx1_
   have hs := hs.pull 1 rfl
   have hs := hs.pull 1 rfl
   have hs : St _ [_,_] _ := St.take (Γ' := []) hs
   refine g_exit rfl ?_
   exact ha1_ _ _ ⟨x11, Hr1_, rfl, hs⟩
  intro ha1_
  have hs := hs.pull 0 rfl
  have hs := hs.pull 1 rfl
  have hs : St _ [_,_] _ := St.take (Γ' := []) hs
  refine g_loop_fuel (I := fun n_ t w => ∃ x6 : Int, ∃ x7 : Int, rounds (fun s => impl_wait.b0 N a1 s.1 s.2) n_ (x6, x7) = some o1_ ∧ Fr t (fun O => ([O 0, Value.pointer (some ⟨b2, 0, none⟩), Value.pointer (some ⟨b4, 0, none⟩), O 3, Value.int .i16 x6, O 5, O 6, O 7, Value.agg ((encA (encI .i16)) a1).toArray, Value.int .i64 x7, O 10, O 11, O 12, O 13, O 14, O 15, O 16, O 17, O 18, O 19, O 20, O 21, O 22, O 23, O 24, O 25, O 26, O 27, O 28, O 29, O 30, O 31, O 32, O 33, O 34, O 35, O 36, O 37, O 38, O 39] : List Value)) ∧ St w0 [Cells b2 ((encA (encI .i16)) a1) 30, Cells b4 ((encA (encI .i16)) (Ar.rep 4 0)) 30] w) N ⟨0, 0, Ho, rfl, hs⟩ ?_ ?_
  ·
   rintro _ _ ⟨x6, x7, h, _⟩
   exact rounds_zero h
  intro n_ ih1_
  rintro t w ⟨x6, x7, Ho, hf, hs⟩
  obtain ⟨O, rfl⟩ := hf.open
  show G _ _ _ _ [_,_,_,_,_,_,_,_,_,_,_,_,_,_,_,_,_,_,_,_,_,_,_,_,_,_,_,_,_,_,_,_,_,_,_,_,_,_,_,_] _
  obtain ⟨x7_, H, Hx1_⟩ := rounds_succ Ho
  have H : impl_wait.b0 N a1 x6 x7 = some x7_ := H
  unfold impl_wait.b0 at H
  refine g_seq (g_rg [0] rfl ?_)
  refine g_op_b (B := decide (x7 < 4)) rfl rfl rfl ?_ ?_
  ·
   intro hb
   rw [if_pos (b_dec_t hb)] at H
   refine g_ops_nil (g_seq (g_cond_true rfl (g_skip (g_seq ?_))))
   refine g_block_join (J := (fun t w => ∃ x8 : Int, impl_wait.j4 N x7 x8 = some x7_ ∧ Fr t (fun O => ([O 0, Value.pointer (some ⟨b2, 0, none⟩), Value.pointer (some ⟨b4, 0, none⟩), O 3, Value.int .i16 x8, O 5, O 6, O 7, Value.agg ((encA (encI .i16)) a1).toArray, Value.int .i64 x7, O 10, O 11, O 12, O 13, O 14, O 15, O 16, O 17, O 18, O 19, O 20, O 21, O 22, O 23, O 24, O 25, O 26, O 27, O 28, O 29, O 30, O 31, O 32, O 33, O 34, O 35, O 36, O 37, O 38, O 39] : List Value)) ∧ St w0 [Cells b2 ((encA (encI .i16)) a1) 30, Cells b4 ((encA (encI .i16)) (Ar.rep 4 0)) 30] w)) ?_ ?_
   ·
    rintro t w ⟨x8, H, hf, hs⟩
    obtain ⟨O, rfl⟩ := hf.open
    show G _ _ _ _ [_,_,_,_,_,_,_,_,_,_,_,_,_,_,_,_,_,_,_,_,_,_,_,_,_,_,_,_,_,_,_,_,_,_,_,_,_,_,_,_] _
    unfold impl_wait.j4 at H
    refine g_rg [0, 1] rfl ?_
    refine g_op (v := Value.int .i64 (i64w (x7 + 1))) rfl rfl rfl ?_
    refine g_op (v := Value.int .i64 (i64w (x7 + 1))) rfl rfl rfl (g_ops_nil ?_)
    obtain rfl := Option.some.inj H
    have hs := hs.pull 1 rfl
    have hs := hs.pull 1 rfl
    have hs : St _ [_,_] _ := St.take (Γ' := []) hs
    exact ih1_ _ _ ⟨x8, i64w (x7 + 1), Hx1_, rfl, hs⟩
   intro ha
   refine g_seq (g_rg [0, 1] rfl ?_)
   obtain ⟨g1, H⟩ := ite_get H
   refine s_indexV (enc := (encI .i16)) (c := Value.int .i16) (fun _ => rfl) 0 rfl (fun _ => rfl) (fun _ => rfl) g1.1 g1.2 rfl rfl rfl rfl rfl ?_
   refine g_op (v := Value.int .i16 (a1.get x7 0)) rfl rfl rfl ?_
   show G _ _ _ _ [_,_,_,_,_,_,_,_,_,_,_,_,_,_,_,_,_,_,_,_,_,_,_,_,_,_,_,_,_,_,_,_,_,_,_,_,_,_,_,_] _
   refine g_ops_nil (g_seq (g_rg [0, 1, 2, 3, 4, 5, 6, 7, 8, 9, 10] rfl ?_))
   refine g_op (v := Value.int .i16 (a1.get x7 0)) rfl rfl rfl ?_
   refine g_op_b (B := decide ((a1.get x7 0) > 0)) rfl rfl rfl ?_ ?_
   ·
    intro hb
    rw [if_pos (b_dec_t hb)] at H
    show G _ _ _ _ [_,_,_,_,_,_,_,_,_,_,_,_,_,_,_,_,_,_,_,_,_,_,_,_,_,_,_,_,_,_,_,_,_,_,_,_,_,_,_,_] _
    refine g_op (v := Value.bool true) rfl rfl rfl ?_
    refine g_op (v := Value.int .i16 x6) rfl rfl rfl ?_
    refine g_op_b (B := x6 == 0) rfl rfl rfl ?_ ?_
    ·
     intro hb
     rw [if_pos (b_beq_t hb)] at H
     refine g_op (v := Value.bool true) rfl rfl rfl (g_op_not rfl rfl (g_op_not rfl rfl (g_op_not rfl rfl ?_)))
     show G _ _ _ _ [_,_,_,_,_,_,_,_,_,_,_,_,_,_,_,_,_,_,_,_,_,_,_,_,_,_,_,_,_,_,_,_,_,_,_,_,_,_,_,_] _
     refine g_op (v := Value.bool true) rfl rfl rfl ?_
     refine g_op (v := Value.bool true) rfl rfl rfl (g_ops_nil (g_cond_true rfl (g_rg [0, 1] rfl ?_)))
     refine g_op (v := Value.int .i16 (a1.get x7 0)) rfl rfl rfl ?_
     refine g_op (v := Value.int .i16 (a1.get x7 0)) rfl rfl rfl ?_
     show G _ _ _ _ [_,_,_,_,_,_,_,_,_,_,_,_,_,_,_,_,_,_,_,_,_,_,_,_,_,_,_,_,_,_,_,_,_,_,_,_,_,_,_,_] _
     refine g_ops_nil ?_
     refine g_inBlock ?_
     have hs := hs.pull 1 rfl
     have hs := hs.pull 1 rfl
     have hs : St _ [_,_] _ := St.take (Γ' := []) hs
     exact ha _ _ ⟨a1.get x7 0, H, rfl, hs⟩
    intro hb
    rw [if_neg (b_beq_f hb)] at H
    refine g_op (v := Value.bool false) rfl rfl rfl ?_
    refine g_op (v := Value.int .i16 (a1.get x7 0)) rfl rfl rfl ?_
    refine g_op (v := Value.int .i16 x6) rfl rfl rfl ?_
    refine g_op (v := Value.bool (decide ((a1.get x7 0) < x6))) rfl rfl rfl ?_
    refine g_op_b (B := decide ((a1.get x7 0) < x6)) rfl rfl rfl ?_ ?_
    ·
     intro hb
     rw [if_pos (b_dec_t hb)] at H
     refine g_op (v := Value.bool true) rfl rfl rfl ?_
     show G _ _ _ _ [_,_,_,_,_,_,_,_,_,_,_,_,_,_,_,_,_,_,_,_,_,_,_,_,_,_,_,_,_,_,_,_,_,_,_,_,_,_,_,_] _
     refine g_ops_nil (g_cond_true rfl (g_rg [0, 1] rfl ?_))
     refine g_op (v := Value.int .i16 (a1.get x7 0)) rfl rfl rfl ?_
     refine g_op (v := Value.int .i16 (a1.get x7 0)) rfl rfl rfl (g_ops_nil ?_)
     refine g_inBlock ?_
     have hs := hs.pull 1 rfl
     have hs := hs.pull 1 rfl
     have hs : St _ [_,_] _ := St.take (Γ' := []) hs
     exact ha _ _ ⟨a1.get x7 0, H, rfl, hs⟩
    intro hb
    rw [if_neg (b_dec_f hb)] at H
    show G _ _ _ _ [_,_,_,_,_,_,_,_,_,_,_,_,_,_,_,_,_,_,_,_,_,_,_,_,_,_,_,_,_,_,_,_,_,_,_,_,_,_,_,_] _
    refine g_op (v := Value.bool false) rfl rfl rfl (g_ops_nil (g_cond_false rfl (g_skip ?_)))
    refine g_inBlock ?_
    have hs := hs.pull 1 rfl
    have hs := hs.pull 1 rfl
    have hs : St _ [_,_] _ := St.take (Γ' := []) hs
    exact ha _ _ ⟨x6, H, rfl, hs⟩
   intro hb
   rw [if_neg (b_dec_f hb)] at H
   refine g_op (v := Value.bool false) rfl rfl rfl (g_op_not rfl rfl (g_op_not rfl rfl (g_op_not rfl rfl (g_op_not rfl rfl (g_op_not rfl rfl (g_op_not rfl rfl ?_))))))
   show G _ _ _ _ [_,_,_,_,_,_,_,_,_,_,_,_,_,_,_,_,_,_,_,_,_,_,_,_,_,_,_,_,_,_,_,_,_,_,_,_,_,_,_,_] _
   refine g_op_not rfl rfl ?_
   refine g_op (v := Value.bool false) rfl rfl rfl (g_ops_nil (g_cond_false rfl (g_skip ?_)))
   refine g_inBlock ?_
   have hs := hs.pull 1 rfl
   have hs := hs.pull 1 rfl
   have hs : St _ [_,_] _ := St.take (Γ' := []) hs
   exact ha _ _ ⟨x6, H, rfl, hs⟩
  intro hb
  rw [if_neg (b_dec_f hb)] at H
  show G _ _ _ _ [_,_,_,_,_,_,_,_,_,_,_,_,_,_,_,_,_,_,_,_,_,_,_,_,_,_,_,_,_,_,_,_,_,_,_,_,_,_,_,_] _
  refine g_ops_nil (g_seq (g_cond_false rfl ?_))
  obtain rfl := Option.some.inj H
  subst Hx1_
  have hs := hs.pull 1 rfl
  have hs := hs.pull 1 rfl
  have hs : St _ [_,_] _ := St.take (Γ' := []) hs
  refine g_exit rfl ?_
  exact ha1_ _ _ ⟨x6, Hr1_, rfl, hs⟩

/- function 36 bits_OnesCount8 -/
def bits_OnesCount8.post (w0 : World) (r : Int) (v : Value) (w : World) : Prop := v = Value.int .i64 r ∧ St w0 [] w
set_option maxHeartbeats 8000000 in
set_option maxRecDepth 100000 in
theorem bits_OnesCount8.calls {N : Nat} {a1 : Int} {w0 : World} {r : Int} (H : bits_OnesCount8.f N a1 = some r) :
    Calls Try.prog 36 #[Value.int .u8 a1] w0 fun e w => ∃ v, e = .returned v ∧ bits_OnesCount8.post w0 r v w := by
  unfold bits_OnesCount8.f at H
  have hs : St w0 [] w0 := St.refl w0
  refine calls_of_g (n := 5) Try.func36 rfl rfl ?_
  show G _ _ _ _ [_,_,_,_,_,_] _
  refine g_seq (g_rg [0] rfl ?_)
  refine g_op (v := Value.int .i64 0) rfl rfl rfl (g_ops_nil (g_seq (g_rg [0, 1, 2, 3] rfl ?_)))
  refine g_op (v := Value.int .u8 a1) rfl rfl rfl ?_
  show G _ _ _ _ [_,_,_,_,_,_] _
  obtain ⟨g1, H⟩ := ite_get H
  refine g_op (v := Value.int .u8 (btS (⟨#[0, 1, 1, 2, 1, 2, 2, 3, 1, 2, 2, 3, 2, 3, 3, 4, 1, 2, 2, 3, 2, 3, 3, 4, 2, 3, 3, 4, 3, 4, 4, 5, 1, 2, 2, 3, 2, 3, 3, 4, 2, 3, 3, 4, 3, 4, 4, 5, 2, 3, 3, 4, 3, 4, 4, 5, 3, 4, 4, 5, 4, 5, 5, 6, 1, 2, 2, 3, 2, 3, 3, 4, 2, 3, 3, 4, 3, 4, 4, 5, 2, 3, 3, 4, 3, 4, 4, 5, 3, 4, 4, 5, 4, 5, 5, 6, 2, 3, 3, 4, 3, 4, 4, 5, 3, 4, 4, 5, 4, 5, 5, 6, 3, 4, 4, 5, 4, 5, 5, 6, 4, 5, 5, 6, 5, 6, 6, 7, 1, 2, 2, 3, 2, 3, 3, 4, 2, 3, 3, 4, 3, 4, 4, 5, 2, 3, 3, 4, 3, 4, 4, 5, 3, 4, 4, 5, 4, 5, 5, 6, 2, 3, 3, 4, 3, 4, 4, 5, 3, 4, 4, 5, 4, 5, 5, 6, 3, 4, 4, 5, 4, 5, 5, 6, 4, 5, 5, 6, 5, 6, 6, 7, 2, 3, 3, 4, 3, 4, 4, 5, 3, 4, 4, 5, 4, 5, 5, 6, 3, 4, 4, 5, 4, 5, 5, 6, 4, 5, 5, 6, 5, 6, 6, 7, 3, 4, 4, 5, 4, 5, 5, 6, 4, 5, 5, 6, 5, 6, 6, 7, 4, 5, 5, 6, 5, 6, 6, 7, 5, 6, 6, 7, 6, 7, 7, 8]⟩ : ByteArray) a1)) rfl rfl (x_indexS rfl rfl rfl rfl g1.1 g1.2) ?_
  refine g_op (v := Value.int .i64 (i64w (btS (⟨#[0, 1, 1, 2, 1, 2, 2, 3, 1, 2, 2, 3, 2, 3, 3, 4, 1, 2, 2, 3, 2, 3, 3, 4, 2, 3, 3, 4, 3, 4, 4, 5, 1, 2, 2, 3, 2, 3, 3, 4, 2, 3, 3, 4, 3, 4, 4, 5, 2, 3, 3, 4, 3, 4, 4, 5, 3, 4, 4, 5, 4, 5, 5, 6, 1, 2, 2, 3, 2, 3, 3, 4, 2, 3, 3, 4, 3, 4, 4, 5, 2, 3, 3, 4, 3, 4, 4, 5, 3, 4, 4, 5, 4, 5, 5, 6, 2, 3, 3, 4, 3, 4, 4, 5, 3, 4, 4, 5, 4, 5, 5, 6, 3, 4, 4, 5, 4, 5, 5, 6, 4, 5, 5, 6, 5, 6, 6, 7, 1, 2, 2, 3, 2, 3, 3, 4, 2, 3, 3, 4, 3, 4, 4, 5, 2, 3, 3, 4, 3, 4, 4, 5, 3, 4, 4, 5, 4, 5, 5, 6, 2, 3, 3, 4, 3, 4, 4, 5, 3, 4, 4, 5, 4, 5, 5, 6, 3, 4, 4, 5, 4, 5, 5, 6, 4, 5, 5, 6, 5, 6, 6, 7, 2, 3, 3, 4, 3, 4, 4, 5, 3, 4, 4, 5, 4, 5, 5, 6, 3, 4, 4, 5, 4, 5, 5, 6, 4, 5, 5, 6, 5, 6, 6, 7, 3, 4, 4, 5, 4, 5, 5, 6, 4, 5, 5, 6, 5, 6, 6, 7, 4, 5, 5, 6, 5, 6, 6, 7, 5, 6, 6, 7, 6, 7, 7, 8]⟩ : ByteArray) a1))) rfl rfl rfl ?_
  refine g_op (v := Value.int .i64 (i64w (btS (⟨#[0, 1, 1, 2, 1, 2, 2, 3, 1, 2, 2, 3, 2, 3, 3, 4, 1, 2, 2, 3, 2, 3, 3, 4, 2, 3, 3, 4, 3, 4, 4, 5, 1, 2, 2, 3, 2, 3, 3, 4, 2, 3, 3, 4, 3, 4, 4, 5, 2, 3, 3, 4, 3, 4, 4, 5, 3, 4, 4, 5, 4, 5, 5, 6, 1, 2, 2, 3, 2, 3, 3, 4, 2, 3, 3, 4, 3, 4, 4, 5, 2, 3, 3, 4, 3, 4, 4, 5, 3, 4, 4, 5, 4, 5, 5, 6, 2, 3, 3, 4, 3, 4, 4, 5, 3, 4, 4, 5, 4, 5, 5, 6, 3, 4, 4, 5, 4, 5, 5, 6, 4, 5, 5, 6, 5, 6, 6, 7, 1, 2, 2, 3, 2, 3, 3, 4, 2, 3, 3, 4, 3, 4, 4, 5, 2, 3, 3, 4, 3, 4, 4, 5, 3, 4, 4, 5, 4, 5, 5, 6, 2, 3, 3, 4, 3, 4, 4, 5, 3, 4, 4, 5, 4, 5, 5, 6, 3, 4, 4, 5, 4, 5, 5, 6, 4, 5, 5, 6, 5, 6, 6, 7, 2, 3, 3, 4, 3, 4, 4, 5, 3, 4, 4, 5, 4, 5, 5, 6, 3, 4, 4, 5, 4, 5, 5, 6, 4, 5, 5, 6, 5, 6, 6, 7, 3, 4, 4, 5, 4, 5, 5, 6, 4, 5, 5, 6, 5, 6, 6, 7, 4, 5, 5, 6, 5, 6, 6, 7, 5, 6, 6, 7, 6, 7, 7, 8]⟩ : ByteArray) a1))) rfl rfl rfl ?_
  show G _ _ _ _ [_,_,_,_,_,_] _
  refine g_ops_nil ?_
  obtain rfl := Option.some.inj H
  refine g_ret Try.func36 (v := Value.int .i64 (i64w (btS (⟨#[0, 1, 1, 2, 1, 2, 2, 3, 1, 2, 2, 3, 2, 3, 3, 4, 1, 2, 2, 3, 2, 3, 3, 4, 2, 3, 3, 4, 3, 4, 4, 5, 1, 2, 2, 3, 2, 3, 3, 4, 2, 3, 3, 4, 3, 4, 4, 5, 2, 3, 3, 4, 3, 4, 4, 5, 3, 4, 4, 5, 4, 5, 5, 6, 1, 2, 2, 3, 2, 3, 3, 4, 2, 3, 3, 4, 3, 4, 4, 5, 2, 3, 3, 4, 3, 4, 4, 5, 3, 4, 4, 5, 4, 5, 5, 6, 2, 3, 3, 4, 3, 4, 4, 5, 3, 4, 4, 5, 4, 5, 5, 6, 3, 4, 4, 5, 4, 5, 5, 6, 4, 5, 5, 6, 5, 6, 6, 7, 1, 2, 2, 3, 2, 3, 3, 4, 2, 3, 3, 4, 3, 4, 4, 5, 2, 3, 3, 4, 3, 4, 4, 5, 3, 4, 4, 5, 4, 5, 5, 6, 2, 3, 3, 4, 3, 4, 4, 5, 3, 4, 4, 5, 4, 5, 5, 6, 3, 4, 4, 5, 4, 5, 5, 6, 4, 5, 5, 6, 5, 6, 6, 7, 2, 3, 3, 4, 3, 4, 4, 5, 3, 4, 4, 5, 4, 5, 5, 6, 3, 4, 4, 5, 4, 5, 5, 6, 4, 5, 5, 6, 5, 6, 6, 7, 3, 4, 4, 5, 4, 5, 5, 6, 4, 5, 5, 6, 5, 6, 6, 7, 4, 5, 5, 6, 5, 6, 6, 7, 5, 6, 6, 7, 6, 7, 7, 8]⟩ : ByteArray) a1))) (res1 rfl rfl) ?_
  have hs : St _ [] _ := St.take (Γ' := []) hs
  exact ⟨_, rfl, rfl, hs⟩

end Go.Proofs.YtmnaclghakalmaaX
