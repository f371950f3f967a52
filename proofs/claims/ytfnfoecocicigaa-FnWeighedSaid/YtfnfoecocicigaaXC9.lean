/- Contracts, printed by gen.py. -/
import Derived.Test.YtfnfoecocicigaaXT
import Derived.Test.YtfnfoecocicigaaProg
import Derived.Test.YtfnfoecocicigaaXRowR
import Derived.Test.YtfnfoecocicigaaXSeg
import Derived.Test.YtfnfoecocicigaaXKey
import Derived.Test.YtfnfoecocicigaaXC4
namespace Go.Proofs.YtfnfoecocicigaaX
open Go Go.RowKit Go.Proofs
set_option linter.unusedVariables false
set_option linter.unusedSimpArgs false
/- function 36 _impl_searcher_ask -/
def _impl_searcher_can.post (wb : World) (Z : As) (b2 : Nat) (r : (Bool × (List (S_impl_stateLeft × Bool)))) (v : Value) (w : World) : Prop := v = Value.bool r.1 ∧ St wb [MapAs b2 ek_S_impl_stateLeft Value.bool r.2, Z] w
def _impl_searcher_ask.post (wb : World) (Z : As) (b2 : Nat) (r : ((Ar Int 4) × Bool × (List (S_impl_stateLeft × Bool)))) (v : Value) (w : World) : Prop := v = Value.tuple #[Value.agg ((encA (encI .i64)) r.1).toArray, Value.bool r.2.1] ∧ St wb [MapAs b2 ek_S_impl_stateLeft Value.bool r.2.2, Z] w
set_option maxHeartbeats 8000000 in
set_option maxRecDepth 100000 in
theorem _impl_searcher_ask.calls {N : Nat} {self : S_impl_searcher → (Ar Int 4) → Int → Option (Bool × (List (S_impl_stateLeft × Bool)))} (ih : ∀ (a1 : S_impl_searcher) (a4 : (Ar Int 4)) (a5 : Int) (b2 : Nat) (wb : World) (Z : As) (w0 : World) (r : (Bool × (List (S_impl_stateLeft × Bool)))) (hs : St wb [MapAs b2 ek_S_impl_stateLeft Value.bool a1.f_known, Z] w0), self a1 a4 a5 = some r → Calls Try.prog 33 #[Value.agg (([Value.int .i64 a1.f_lies, Value.map (some b2)] : List Value)).toArray, Value.agg ((encA (encI .i64)) a4).toArray, Value.int .i64 a5] w0 fun e w => ∃ v, e = .returned v ∧ _impl_searcher_can.post wb Z b2 r v w) {a1 : S_impl_searcher} {a4 : (Ar Int 4)} {a5 : Int} {b2 : Nat} {wb : World} {Z : As} {w0 : World} {r : ((Ar Int 4) × Bool × (List (S_impl_stateLeft × Bool)))} (hs : St wb [MapAs b2 ek_S_impl_stateLeft Value.bool a1.f_known, Z] w0) (H : _impl_searcher_ask.f N self a1 a4 a5 = some r) :
    Calls Try.prog 36 #[Value.agg (([Value.int .i64 a1.f_lies, Value.map (some b2)] : List Value)).toArray, Value.agg ((encA (encI .i64)) a4).toArray, Value.int .i64 a5] w0 fun e w => ∃ v, e = .returned v ∧ _impl_searcher_ask.post wb Z b2 r v w := by
  unfold _impl_searcher_ask.f at H
  refine calls_of_g (n := 54) Try.func36 rfl rfl ?_
  show G _ _ _ _ [_,_,_,_,_,_,_,_,_,_,_,_,_,_,_,_,_,_,_,_,_,_,_,_,_,_,_,_,_,_,_,_,_,_,_,_,_,_,_,_,_,_,_,_,_,_,_,_,_,_,_,_,_,_,_,_,_] _
  refine g_seq ?_
  refine g_region ?_
  show G _ _ _ (.inRegion _ [0, 1, 2, 3] :: _) _ _
  refine s_box hs rfl rfl (cs := (([Value.int .i64 a1.f_lies, Value.map (some b2)] : List Value))) rfl rfl ?_
  intro b6 w hs
  refine s_box hs rfl rfl (cs := ((encA (encI .i64)) a4)) rfl rfl ?_
  intro b8 w hs
  refine s_alloc hs rfl rfl (z := (Value.agg #[Value.int .i64 0, Value.int .i64 0, Value.int .i64 0, Value.int .i64 0])) (cs := ((encA (encI .i64)) (Ar.rep 4 0))) rfl (fun _ => rfl) rfl ?_
  intro b10 w hs
  show G _ _ _ _ [_,_,_,_,_,_,_,_,_,_,_,_,_,_,_,_,_,_,_,_,_,_,_,_,_,_,_,_,_,_,_,_,_,_,_,_,_,_,_,_,_,_,_,_,_,_,_,_,_,_,_,_,_,_,_,_,_] _
  refine g_op (v := Value.bool false) rfl rfl rfl ?_
  refine g_ops_nil ?_
  refine g_seq ?_
  refine g_region ?_
  show G _ _ _ (.inRegion _ [0, 1, 2] :: _) _ _
  refine g_op (v := Value.agg ((encA (encI .i64)) (Ar.rep 4 0)).toArray) rfl rfl (x_build rfl rfl) ?_
  refine s_alloc hs rfl rfl (z := (Value.agg #[Value.int .i64 0, Value.int .i64 0, Value.int .i64 0, Value.int .i64 0])) (cs := ((encA (encI .i64)) (Ar.rep 4 0))) rfl (fun _ => rfl) rfl ?_
  intro b12 w hs
  show G _ _ _ _ [_,_,_,_,_,_,_,_,_,_,_,_,_,_,_,_,_,_,_,_,_,_,_,_,_,_,_,_,_,_,_,_,_,_,_,_,_,_,_,_,_,_,_,_,_,_,_,_,_,_,_,_,_,_,_,_,_] _
  refine s_storeAll (n := 4) hs ((fkA (n := 4) (he := (fkI .i64).len) (h1 := (fkI .i64).one)).len _) rfl rfl (vs := ((encA (encI .i64)) (Ar.rep 4 0))) rfl rfl rfl (fun _ => rfl) ((fkA (n := 4) (he := (fkI .i64).len) (h1 := (fkI .i64).one)).len _) ((fkA (n := 4) (he := (fkI .i64).len) (h1 := (fkI .i64).one)).one _) ?_
  intro w hs
  refine g_ops_nil ?_
  obtain ⟨o1_, Ho, Hr1_⟩ := bind_get H
  refine g_block_join (J := fun t w => _impl_searcher_ask.a0 N self = some r ∧ Fr t (fun O => ([O 0, O 1, O 2, O 3, O 4, O 5, O 6, O 7, O 8, O 9, O 10, O 11, O 12, O 13, O 14, O 15, O 16, O 17, O 18, O 19, O 20, O 21, O 22, O 23, O 24, O 25, O 26, O 27, O 28, O 29, O 30, O 31, O 32, O 33, O 34, O 35, O 36, O 37, O 38, O 39, O 40, O 41, O 42, O 43, O 44, O 45, O 46, O 47, O 48, O 49, O 50, O 51, O 52, O 53, O 54, O 55, O 56] : List Value)) ∧ St wb [] w) ?_ ?_
  ·
   rintro t w ⟨H, hf, hs⟩
   obtain ⟨O, rfl⟩ := hf.open
   show G _ _ _ _ [_,_,_,_,_,_,_,_,_,_,_,_,_,_,_,_,_,_,_,_,_,_,_,_,_,_,_,_,_,_,_,_,_,_,_,_,_,_,_,_,_,_,_,_,_,_,_,_,_,_,_,_,_,_,_,_,_] _
   unfold _impl_searcher_ask.a0 at H
   cases H
  ·
   intro ha1_
   have hs := hs.pull 5 rfl
   have hs := hs.pull 1 rfl
   have hs := hs.pull 2 rfl
   have hs := hs.pull 3 rfl
   have hs := hs.pull 4 rfl
   have hs := hs.pull 5 rfl
   have hs : St _ [_,_,_,_,_,_] _ := St.take (Γ' := []) hs
   refine g_loop_fuel (I := fun n_ t w => ∃ x27 : (List (S_impl_stateLeft × Bool)), ∃ x28 : (Ar Int 4), rounds (fun s => _impl_searcher_ask.b0 N self a4 a1 a5 s.1 s.2) n_ (x27, x28) = some o1_ ∧ Fr t (fun O => ([O 0, O 1, Value.int .i64 a5, Value.pointer (some ⟨b6, 0, none⟩), Value.pointer (some ⟨b8, 0, none⟩), O 5, Value.pointer (some ⟨b10, 0, none⟩), O 7, Value.pointer (some ⟨b12, 0, none⟩), O 9, O 10, O 11, O 12, O 13, O 14, O 15, O 16, O 17, O 18, O 19, O 20, O 21, O 22, O 23, O 24, O 25, O 26, O 27, O 28, O 29, O 30, O 31, O 32, O 33, O 34, O 35, O 36, O 37, O 38, O 39, O 40, O 41, O 42, O 43, O 44, O 45, O 46, O 47, O 48, O 49, O 50, O 51, O 52, O 53, O 54, O 55, O 56] : List Value)) ∧ St wb [MapAs b2 ek_S_impl_stateLeft Value.bool x27, Cells b6 (([Value.int .i64 a1.f_lies, Value.map (some b2)] : List Value)) 56, Cells b8 ((encA (encI .i64)) a4) 25, Cells b10 ((encA (encI .i64)) (Ar.rep 4 0)) 25, Cells b12 ((encA (encI .i64)) x28) 25, Z] w) N ⟨a1.f_known, (Ar.rep 4 0), Ho, rfl, hs⟩ ?_ ?_
   ·
    rintro _ _ ⟨x27, x28, h, _⟩
    exact rounds_zero h
   ·
    intro n_ ih1_
    rintro t w ⟨x27, x28, Ho, hf, hs⟩
    obtain ⟨O, rfl⟩ := hf.open
    show G _ _ _ _ [_,_,_,_,_,_,_,_,_,_,_,_,_,_,_,_,_,_,_,_,_,_,_,_,_,_,_,_,_,_,_,_,_,_,_,_,_,_,_,_,_,_,_,_,_,_,_,_,_,_,_,_,_,_,_,_,_] _
    obtain ⟨x79_, H, Hx1_⟩ := rounds_succ Ho
    have H : _impl_searcher_ask.b0 N self a4 a1 a5 x27 x28 = some x79_ := H
    unfold _impl_searcher_ask.b0 at H
    refine g_block ?_
    refine g_seq ?_
    refine g_seq ?_
    refine g_region ?_
    show G _ _ _ (.inRegion _ [0, 1, 2, 3, 4, 5, 6, 7, 8, 9, 10, 11] :: _) _ _
    refine s_loadA rfl rfl (es := ((encA (encI .i64)) a4)) rfl rfl (fun _ => rfl) (n := 4) (fun _ => rfl) ((fkA (n := 4) (he := (fkI .i64).len) (h1 := (fkI .i64).one)).len _) (cells_all (hs.cells 2 rfl)) ?_
    refine g_op (v := Value.pointer (some ⟨b6, 0, none⟩)) rfl rfl rfl ?_
    refine s_load1 rfl rfl (v := Value.int .i64 a1.f_lies) rfl rfl (fun _ => rfl) (cells_load (hs.cells 1 rfl) 0 1 rfl) ?_
    refine s_loadA rfl rfl (es := ((encA (encI .i64)) x28)) rfl rfl (fun _ => rfl) (n := 4) (fun _ => rfl) ((fkA (n := 4) (he := (fkI .i64).len) (h1 := (fkI .i64).one)).len _) (cells_all (hs.cells 4 rfl)) ?_
    show G _ _ _ _ [_,_,_,_,_,_,_,_,_,_,_,_,_,_,_,_,_,_,_,_,_,_,_,_,_,_,_,_,_,_,_,_,_,_,_,_,_,_,_,_,_,_,_,_,_,_,_,_,_,_,_,_,_,_,_,_,_] _
    obtain ⟨r29, Hr29, H⟩ := bind_get H
    refine s_call (args := [Value.agg ((encA (encI .i64)) a4).toArray, Value.int .i64 a1.f_lies, Value.agg ((encA (encI .i64)) x28).toArray]) rfl rfl (x_call rfl (callFunc_enter Try.func23 rfl rfl) rfl) (_impl_State_split.calls (a1 := a4) (a2 := a1.f_lies) (a3 := x28) Hr29) ?_
    rintro _ w ⟨rfl, hs2⟩
    have hs : St _ [_,_,_,_,_,_] _ := hs.call hs2
    refine g_op (v := Value.tuple #[Value.agg ((encA (encI .i64)) r29.1).toArray, Value.agg ((encA (encI .i64)) r29.2).toArray]) rfl rfl rfl ?_
    refine g_op (v := Value.agg ((encA (encI .i64)) r29.1).toArray) rfl rfl rfl ?_
    refine g_op (v := Value.agg ((encA (encI .i64)) r29.2).toArray) rfl rfl rfl ?_
    refine s_alloc hs rfl rfl (z := (Value.agg #[Value.int .i64 0, Value.int .i64 0, Value.int .i64 0, Value.int .i64 0])) (cs := ((encA (encI .i64)) (Ar.rep 4 0))) rfl (fun _ => rfl) rfl ?_
    intro b30 w hs
    refine s_alloc hs rfl rfl (z := (Value.agg #[Value.int .i64 0, Value.int .i64 0, Value.int .i64 0, Value.int .i64 0])) (cs := ((encA (encI .i64)) (Ar.rep 4 0))) rfl (fun _ => rfl) rfl ?_
    intro b32 w hs
    show G _ _ _ _ [_,_,_,_,_,_,_,_,_,_,_,_,_,_,_,_,_,_,_,_,_,_,_,_,_,_,_,_,_,_,_,_,_,_,_,_,_,_,_,_,_,_,_,_,_,_,_,_,_,_,_,_,_,_,_,_,_] _
    have hs := hs.pull 1 rfl
    have hs : St _ [_,_,_,_,_,_,_,_] _ := hs
    refine s_storeAll (n := 4) hs ((fkA (n := 4) (he := (fkI .i64).len) (h1 := (fkI .i64).one)).len _) rfl rfl (vs := ((encA (encI .i64)) r29.1)) rfl rfl rfl (fun _ => rfl) ((fkA (n := 4) (he := (fkI .i64).len) (h1 := (fkI .i64).one)).len _) ((fkA (n := 4) (he := (fkI .i64).len) (h1 := (fkI .i64).one)).one _) ?_
    intro w hs
    have hs := hs.pull 1 rfl
    have hs : St _ [_,_,_,_,_,_,_,_] _ := hs
    refine s_storeAll (n := 4) hs ((fkA (n := 4) (he := (fkI .i64).len) (h1 := (fkI .i64).one)).len _) rfl rfl (vs := ((encA (encI .i64)) r29.2)) rfl rfl rfl (fun _ => rfl) ((fkA (n := 4) (he := (fkI .i64).len) (h1 := (fkI .i64).one)).len _) ((fkA (n := 4) (he := (fkI .i64).len) (h1 := (fkI .i64).one)).one _) ?_
    intro w hs
    refine g_ops_nil ?_
    refine g_seq ?_
    refine g_join2 (J := (fun t w => ∃ x36 : (List (S_impl_stateLeft × Bool)), _impl_searcher_ask.j2 N self a4 x28 x36 = some x79_ ∧ Fr t (fun O => ([O 0, O 1, Value.int .i64 a5, Value.pointer (some ⟨b6, 0, none⟩), Value.pointer (some ⟨b8, 0, none⟩), O 5, Value.pointer (some ⟨b10, 0, none⟩), O 7, Value.pointer (some ⟨b12, 0, none⟩), O 9, O 10, O 11, O 12, O 13, O 14, O 15, O 16, O 17, O 18, O 19, O 20, O 21, O 22, O 23, O 24, O 25, O 26, O 27, O 28, O 29, O 30, O 31, O 32, O 33, O 34, O 35, O 36, O 37, O 38, O 39, O 40, O 41, O 42, O 43, O 44, O 45, O 46, O 47, O 48, O 49, O 50, O 51, O 52, O 53, O 54, O 55, O 56] : List Value)) ∧ St wb [Cells b6 (([Value.int .i64 a1.f_lies, Value.map (some b2)] : List Value)) 56, MapAs b2 ek_S_impl_stateLeft Value.bool x36, Cells b8 ((encA (encI .i64)) a4) 25, Cells b10 ((encA (encI .i64)) (Ar.rep 4 0)) 25, Cells b12 ((encA (encI .i64)) x28) 25, Z] w)) ?_ ?_
    ·
     rintro t w ⟨x36, H, hf, hs⟩
     obtain ⟨O, rfl⟩ := hf.open
     show G _ _ _ _ [_,_,_,_,_,_,_,_,_,_,_,_,_,_,_,_,_,_,_,_,_,_,_,_,_,_,_,_,_,_,_,_,_,_,_,_,_,_,_,_,_,_,_,_,_,_,_,_,_,_,_,_,_,_,_,_,_] _
     unfold _impl_searcher_ask.j2 at H
     refine g_seq ?_
     refine g_region ?_
     show G _ _ _ (.inRegion _ [0] :: _) _ _
     refine g_op (v := Value.int .i64 3) rfl rfl rfl ?_
     refine g_ops_nil ?_
     refine g_seq ?_
     obtain ⟨o2_, Ho, Hr2_⟩ := bind_get H
     refine g_block_join (J := fun t w => ∃ x40 : (Ar Int 4), ∃ x41 : Int, _impl_searcher_ask.a3 N self x36 x40 x41 = some x79_ ∧ Fr t (fun O => ([O 0, O 1, Value.int .i64 a5, Value.pointer (some ⟨b6, 0, none⟩), Value.pointer (some ⟨b8, 0, none⟩), O 5, Value.pointer (some ⟨b10, 0, none⟩), O 7, Value.pointer (some ⟨b12, 0, none⟩), O 9, O 10, Value.int .i64 x41, O 12, O 13, O 14, O 15, O 16, O 17, O 18, O 19, O 20, O 21, O 22, O 23, O 24, O 25, O 26, O 27, O 28, O 29, O 30, O 31, O 32, O 33, O 34, O 35, O 36, O 37, O 38, O 39, O 40, O 41, O 42, O 43, O 44, O 45, O 46, O 47, O 48, O 49, O 50, O 51, O 52, O 53, O 54, O 55, O 56] : List Value)) ∧ St wb [Cells b6 (([Value.int .i64 a1.f_lies, Value.map (some b2)] : List Value)) 56, MapAs b2 ek_S_impl_stateLeft Value.bool x36, Cells b8 ((encA (encI .i64)) a4) 25, Cells b10 ((encA (encI .i64)) (Ar.rep 4 0)) 25, Cells b12 ((encA (encI .i64)) x40) 25, Z] w) ?_ ?_
     ·
      rintro t w ⟨x40, x41, H, hf, hs⟩
      obtain ⟨O, rfl⟩ := hf.open
      show G _ _ _ _ [_,_,_,_,_,_,_,_,_,_,_,_,_,_,_,_,_,_,_,_,_,_,_,_,_,_,_,_,_,_,_,_,_,_,_,_,_,_,_,_,_,_,_,_,_,_,_,_,_,_,_,_,_,_,_,_,_] _
      unfold _impl_searcher_ask.a3 at H
      refine g_seq ?_
      refine g_seq ?_
      refine g_region ?_
      show G _ _ _ (.inRegion _ [0, 1] :: _) _ _
      refine g_op (v := Value.int .i64 x41) rfl rfl rfl ?_
      refine g_op_b (B := decide (x41 < 0)) rfl rfl rfl ?_ ?_
      ·
       intro hb
       rw [if_pos (b_dec_t hb)] at H
       refine g_ops_nil ?_
       refine g_cond_true rfl ?_
       refine g_seq ?_
       refine g_region ?_
       show G _ _ _ (.inRegion _ [0, 1, 2] :: _) _ _
       refine g_op (v := Value.agg ((encA (encI .i64)) (Ar.rep 4 0)).toArray) rfl rfl (x_build rfl rfl) ?_
       have hs := hs.pull 3 rfl
       have hs : St _ [_,_,_,_,_,_] _ := hs
       refine s_storeAll (n := 4) hs ((fkA (n := 4) (he := (fkI .i64).len) (h1 := (fkI .i64).one)).len _) rfl rfl (vs := ((encA (encI .i64)) (Ar.rep 4 0))) rfl rfl rfl (fun _ => rfl) ((fkA (n := 4) (he := (fkI .i64).len) (h1 := (fkI .i64).one)).len _) ((fkA (n := 4) (he := (fkI .i64).len) (h1 := (fkI .i64).one)).one _) ?_
       intro w hs
       refine g_op (v := Value.bool false) rfl rfl rfl ?_
       show G _ _ _ _ [_,_,_,_,_,_,_,_,_,_,_,_,_,_,_,_,_,_,_,_,_,_,_,_,_,_,_,_,_,_,_,_,_,_,_,_,_,_,_,_,_,_,_,_,_,_,_,_,_,_,_,_,_,_,_,_,_] _
       refine g_ops_nil ?_
       obtain rfl := Option.some.inj H
       subst Hx1_
       have H := Option.some.inj Hr1_
       subst H
       refine g_ret Try.func36 (v := Value.tuple #[Value.agg ((encA (encI .i64)) (Ar.rep 4 0)).toArray, Value.bool false]) (resN (l := Try.f36.results.toList) (vs := [Value.agg ((encA (encI .i64)) (Ar.rep 4 0)).toArray, Value.bool false]) rfl ⟨⟨_, rfl, (run_loadVar_agg (es := ((encA (encI .i64)) (Ar.rep 4 0))) rfl (congrArg (Result.ok · _) ((fkA (n := 4) (he := (fkI .i64).len) (h1 := (fkI .i64).one)).len _).symm) (cells_all (hs.cells 0 rfl)))⟩, rfl, trivial⟩ (by simp)) ?_
       have hs := hs.pull 5 rfl
       have hs := hs.pull 3 rfl
       have hs : St _ [_,_] _ := St.take (Γ' := [_,_,_,_]) hs
       exact ⟨_, rfl, rfl, hs⟩
      ·
       intro hb
       rw [if_neg (b_dec_f hb)] at H
       refine g_ops_nil ?_
       refine g_cond_false rfl ?_
       refine g_skip ?_
       refine g_region ?_
       show G _ _ _ (.inRegion _ [0, 1, 2, 3, 4, 5] :: _) _ _
       refine g_op (v := Value.int .i64 x41) rfl rfl rfl ?_
       obtain ⟨g76, H⟩ := ite_get H
       refine s_idxA (n := x41) (m := 1) rfl (fun _ => rfl) g76.1 g76.2 rfl rfl rfl rfl rfl ?_
       show G _ _ _ _ [_,_,_,_,_,_,_,_,_,_,_,_,_,_,_,_,_,_,_,_,_,_,_,_,_,_,_,_,_,_,_,_,_,_,_,_,_,_,_,_,_,_,_,_,_,_,_,_,_,_,_,_,_,_,_,_,_] _
       refine s_load1 rfl rfl (v := Value.int .i64 (x40.get x41 0)) rfl rfl (fun _ => rfl) (by rw [Nat.zero_add]; exact cells_load (hs.cells 4 rfl) _ _ (encA_at (fkI .i64).len _ _ 0 g76.1 g76.2)) ?_
       refine g_op (v := Value.int .i64 (i64w ((x40.get x41 0) + 1))) rfl rfl rfl ?_
       obtain ⟨g77, H⟩ := ite_get H
       refine s_idxA (n := x41) (m := 1) rfl (fun _ => rfl) g77.1 g77.2 rfl rfl rfl rfl rfl ?_
       show G _ _ _ _ [_,_,_,_,_,_,_,_,_,_,_,_,_,_,_,_,_,_,_,_,_,_,_,_,_,_,_,_,_,_,_,_,_,_,_,_,_,_,_,_,_,_,_,_,_,_,_,_,_,_,_,_,_,_,_,_,_] _
       have hs := hs.pull 4 rfl
       have hs : St _ [_,_,_,_,_,_] _ := hs
       refine s_storeA (y := i64w ((x40.get x41 0) + 1)) (fkI .i64).len (fkI .i64).one g77.1 g77.2 hs rfl rfl rfl rfl rfl (fun _ => rfl) ?_
       intro w hs
       refine g_ops_nil ?_
       refine g_inBlock ?_
       obtain rfl := Option.some.inj H
       have hs := hs.pull 5 rfl
       have hs := hs.pull 1 rfl
       have hs := hs.pull 5 rfl
       have hs := hs.pull 5 rfl
       have hs := hs.pull 4 rfl
       have hs := hs.pull 5 rfl
       have hs : St _ [_,_,_,_,_,_] _ := St.take (Γ' := []) hs
       exact ih1_ _ _ ⟨x36, x40.set x41 (i64w ((x40.get x41 0) + 1)), Hx1_, rfl, hs⟩
     ·
      intro ha2_
      have hs := hs.pull 5 rfl
      have hs := hs.pull 5 rfl
      have hs := hs.pull 5 rfl
      have hs := hs.pull 5 rfl
      have hs := hs.pull 4 rfl
      have hs := hs.pull 5 rfl
      have hs : St _ [_,_,_,_,_,_] _ := St.take (Γ' := []) hs
      refine g_loop_fuel (I := fun n_ t w => ∃ x38 : (Ar Int 4), ∃ x39 : Int, rounds (fun s => _impl_searcher_ask.b3 N self a4 s.1 s.2) n_ (x38, x39) = some o2_ ∧ Fr t (fun O => ([O 0, O 1, Value.int .i64 a5, Value.pointer (some ⟨b6, 0, none⟩), Value.pointer (some ⟨b8, 0, none⟩), O 5, Value.pointer (some ⟨b10, 0, none⟩), O 7, Value.pointer (some ⟨b12, 0, none⟩), O 9, O 10, Value.int .i64 x39, O 12, O 13, O 14, O 15, O 16, O 17, O 18, O 19, O 20, O 21, O 22, O 23, O 24, O 25, O 26, O 27, O 28, O 29, O 30, O 31, O 32, O 33, O 34, O 35, O 36, O 37, O 38, O 39, O 40, O 41, O 42, O 43, O 44, O 45, O 46, O 47, O 48, O 49, O 50, O 51, O 52, O 53, O 54, O 55, O 56] : List Value)) ∧ St wb [MapAs b2 ek_S_impl_stateLeft Value.bool x36, Cells b6 (([Value.int .i64 a1.f_lies, Value.map (some b2)] : List Value)) 56, Cells b8 ((encA (encI .i64)) a4) 25, Cells b10 ((encA (encI .i64)) (Ar.rep 4 0)) 25, Cells b12 ((encA (encI .i64)) x38) 25, Z] w) N ⟨x28, 3, Ho, rfl, hs⟩ ?_ ?_
      ·
       rintro _ _ ⟨x38, x39, h, _⟩
       exact rounds_zero h
      ·
       intro n_ ih2_
       rintro t w ⟨x38, x39, Ho, hf, hs⟩
       obtain ⟨O, rfl⟩ := hf.open
       show G _ _ _ _ [_,_,_,_,_,_,_,_,_,_,_,_,_,_,_,_,_,_,_,_,_,_,_,_,_,_,_,_,_,_,_,_,_,_,_,_,_,_,_,_,_,_,_,_,_,_,_,_,_,_,_,_,_,_,_,_,_] _
       obtain ⟨x78_, H, Hx2_⟩ := rounds_succ Ho
       have H : _impl_searcher_ask.b3 N self a4 x38 x39 = some x78_ := H
       unfold _impl_searcher_ask.b3 at H
       refine g_seq ?_
       refine g_seq ?_
       by_cases hb59_ : x39 ≥ 0
       ·
        rw [if_pos hb59_] at H
        refine g_lay (n := 11) rfl [0, 1, 2, 3, 4, 5, 6, 7, 8, 9, 10] [0, 1, 2, 3, 4, 5, 6, 7, 8, 9, 10] rfl rfl ?_
        intro rest w hh hbw hO
        have hs := hs.samew hh hbw
        show G _ _ _ _ [_,_,_,_,_,_,_,_,_,_,_,_,_,_,_,_,_,_,_,_,_,_,_,_,_,_,_,_,_,_,_,_,_,_,_,_,_,_,_,_,_,_,_,_,_,_,_,_,_,_,_,_,_,_,_,_,_] _
        obtain ⟨rest, rfl, hO60_⟩ := ord_one (m := 0) hO rfl 0 (m' := 1) (by decide +kernel) rfl
        clear hO
        refine g_op (v := Value.int .i64 x39) rfl rfl rfl ?_
        obtain ⟨rest, rfl, hO61_⟩ := ord_one (m := 1) hO60_ rfl 1 (m' := 3) (by decide +kernel) rfl
        clear hO60_
        refine g_op (v := Value.bool true) rfl rfl (run_bool (b := decide (x39 ≥ 0)) rfl (by first | exact decide_eq_true hb59_ | exact decide_eq_false hb59_ | simp [hb59_])) ?_
        show G _ _ _ _ [_,_,_,_,_,_,_,_,_,_,_,_,_,_,_,_,_,_,_,_,_,_,_,_,_,_,_,_,_,_,_,_,_,_,_,_,_,_,_,_,_,_,_,_,_,_,_,_,_,_,_,_,_,_,_,_,_] _
        obtain ⟨rest, rfl, hO62_⟩ := ord_one (m := 3) hO61_ rfl 2 (m' := 7) (by decide +kernel) rfl
        clear hO61_
        refine g_op (v := Value.bool true) rfl rfl rfl ?_
        obtain ⟨gd64, H⟩ := ite_get H
        obtain ⟨gd65, H⟩ := ite_get H
        refine g_name ?_
        intro T hT
        refine g_layer (m0 := 7) hO62_ rfl 511 [3, 4, 5, 6, 7, 8] [0, 1, 3, 7, 15, 31, 7, 71, 199, 511, 1023] (by decide +kernel) (fun D t w => ∃ O : Nat → Value, t = [O 0, O 1, Value.int .i64 a5, Value.pointer (some ⟨b6, 0, none⟩), Value.pointer (some ⟨b8, 0, none⟩), O 5, Value.pointer (some ⟨b10, 0, none⟩), O 7, Value.pointer (some ⟨b12, 0, none⟩), O 9, O 10, Value.int .i64 x39, O 12, O 13, O 14, O 15, O 16, O 17, O 18, O 19, O 20, O 21, O 22, O 23, O 24, O 25, O 26, O 27, O 28, O 29, O 30, O 31, O 32, O 33, Value.int .i64 x39, Value.bool true, Value.bool true, cnd (D 3) (Value.int .i64 x39) (O 37), cnd (D 4) (Value.pointer (some ⟨b12, 0 + x39.toNat * 1, none⟩)) (O 38), cnd (D 5) (Value.int .i64 (x38.get x39 0)) (O 39), cnd (D 6) (Value.int .i64 x39) (O 40), cnd (D 7) (Value.pointer (some ⟨b8, 0 + x39.toNat * 1, none⟩)) (O 41), cnd (D 8) (Value.int .i64 (a4.get x39 0)) (O 42), O 43, O 44, O 45, O 46, O 47, O 48, O 49, O 50, O 51, O 52, O 53, O 54, O 55, O 56] ∧ St wb [MapAs b2 ek_S_impl_stateLeft Value.bool x36, Cells b6 (([Value.int .i64 a1.f_lies, Value.map (some b2)] : List Value)) 56, Cells b8 ((encA (encI .i64)) a4) 25, Cells b10 ((encA (encI .i64)) (Ar.rep 4 0)) 25, Cells b12 ((encA (encI .i64)) x38) 25, Z] w) ?_ ⟨?_, ⟨?_, ⟨?_, ⟨?_, ⟨?_, ⟨?_, trivial⟩⟩⟩⟩⟩⟩ ?_
        · exact ⟨fun i => T.getD i undef, (by subst hT; rfl), hs⟩
        ·
         intro D t w hD hp hcl hI rest hk
         obtain ⟨O, ht, hs⟩ := hI
         have hp : AllDone D [2] := hp
         obtain ⟨p2_, _⟩ := hp
         have q4_ : D 4 = false := not_yet (show D 4 = true → AllDone D [3, 2] from hcl 4 (by decide)) 0 3 rfl hD
         have q5_ : D 5 = false := not_yet (show D 5 = true → AllDone D [4, 2] from hcl 5 (by decide)) 0 4 rfl q4_
         simp only [hD, q4_, q5_, cnd_t, cnd_f, Asc_t, Asc_f] at ht hs
         subst ht
         refine g_op (v := Value.int .i64 x39) rfl rfl rfl ?_
         show G _ _ _ _ [_,_,_,_,_,_,_,_,_,_,_,_,_,_,_,_,_,_,_,_,_,_,_,_,_,_,_,_,_,_,_,_,_,_,_,_,_,_,_,_,_,_,_,_,_,_,_,_,_,_,_,_,_,_,_,_,_] _
         exact hk _ _ ⟨O, (by simp only [upd, Nat.reduceBEq, Bool.true_or, Bool.false_or, q4_, q5_, cnd_t, cnd_f, Asc_t, Asc_f]), hs.cast (by first | rfl | simp only [List.take, List.drop, List.cons_append, List.nil_append, List.set_cons_zero, List.set_cons_succ, List.eraseIdx, upd, Nat.reduceBEq, Bool.true_or, Bool.false_or, q4_, q5_, cnd_t, cnd_f, Asc_t, Asc_f])⟩
        ·
         intro D t w hD hp hcl hI rest hk
         obtain ⟨O, ht, hs⟩ := hI
         have hp : AllDone D [3, 2] := hp
         obtain ⟨p3_, p2_, _⟩ := hp
         have q5_ : D 5 = false := not_yet (show D 5 = true → AllDone D [4, 2] from hcl 5 (by decide)) 0 4 rfl hD
         simp only [hD, p3_, q5_, cnd_t, cnd_f, Asc_t, Asc_f] at ht hs
         subst ht
         refine s_idxA (n := x39) (m := 1) rfl (fun _ => rfl) gd64.1 gd64.2 rfl rfl rfl rfl rfl ?_
         show G _ _ _ _ [_,_,_,_,_,_,_,_,_,_,_,_,_,_,_,_,_,_,_,_,_,_,_,_,_,_,_,_,_,_,_,_,_,_,_,_,_,_,_,_,_,_,_,_,_,_,_,_,_,_,_,_,_,_,_,_,_] _
         exact hk _ _ ⟨O, (by simp only [upd, Nat.reduceBEq, Bool.true_or, Bool.false_or, p3_, q5_, cnd_t, cnd_f, Asc_t, Asc_f]), hs.cast (by first | rfl | simp only [List.take, List.drop, List.cons_append, List.nil_append, List.set_cons_zero, List.set_cons_succ, List.eraseIdx, upd, Nat.reduceBEq, Bool.true_or, Bool.false_or, p3_, q5_, cnd_t, cnd_f, Asc_t, Asc_f])⟩
        ·
         intro D t w hD hp hcl hI rest hk
         obtain ⟨O, ht, hs⟩ := hI
         have hp : AllDone D [4, 2] := hp
         obtain ⟨p4_, p2_, _⟩ := hp
         obtain ⟨p3_, _, _⟩ := (show D 4 = true → AllDone D [3, 2] from hcl 4 (by decide)) p4_
         simp only [hD, p3_, p4_, cnd_t, cnd_f, Asc_t, Asc_f] at ht hs
         subst ht
         refine s_load1 rfl rfl (v := Value.int .i64 (x38.get x39 0)) rfl rfl (fun _ => rfl) (by rw [Nat.zero_add]; exact cells_load (hs.cells 4 rfl) _ _ (encA_at (fkI .i64).len _ _ 0 gd64.1 gd64.2)) ?_
         show G _ _ _ _ [_,_,_,_,_,_,_,_,_,_,_,_,_,_,_,_,_,_,_,_,_,_,_,_,_,_,_,_,_,_,_,_,_,_,_,_,_,_,_,_,_,_,_,_,_,_,_,_,_,_,_,_,_,_,_,_,_] _
         exact hk _ _ ⟨O, (by simp only [upd, Nat.reduceBEq, Bool.true_or, Bool.false_or, p3_, p4_, cnd_t, cnd_f, Asc_t, Asc_f]), hs.cast (by first | rfl | simp only [List.take, List.drop, List.cons_append, List.nil_append, List.set_cons_zero, List.set_cons_succ, List.eraseIdx, upd, Nat.reduceBEq, Bool.true_or, Bool.false_or, p3_, p4_, cnd_t, cnd_f, Asc_t, Asc_f])⟩
        ·
         intro D t w hD hp hcl hI rest hk
         obtain ⟨O, ht, hs⟩ := hI
         have hp : AllDone D [2] := hp
         obtain ⟨p2_, _⟩ := hp
         have q7_ : D 7 = false := not_yet (show D 7 = true → AllDone D [6, 2] from hcl 7 (by decide)) 0 6 rfl hD
         have q8_ : D 8 = false := not_yet (show D 8 = true → AllDone D [7, 2] from hcl 8 (by decide)) 0 7 rfl q7_
         simp only [hD, q7_, q8_, cnd_t, cnd_f, Asc_t, Asc_f] at ht hs
         subst ht
         refine g_op (v := Value.int .i64 x39) rfl rfl rfl ?_
         show G _ _ _ _ [_,_,_,_,_,_,_,_,_,_,_,_,_,_,_,_,_,_,_,_,_,_,_,_,_,_,_,_,_,_,_,_,_,_,_,_,_,_,_,_,_,_,_,_,_,_,_,_,_,_,_,_,_,_,_,_,_] _
         exact hk _ _ ⟨O, (by simp only [upd, Nat.reduceBEq, Bool.true_or, Bool.false_or, q7_, q8_, cnd_t, cnd_f, Asc_t, Asc_f]), hs.cast (by first | rfl | simp only [List.take, List.drop, List.cons_append, List.nil_append, List.set_cons_zero, List.set_cons_succ, List.eraseIdx, upd, Nat.reduceBEq, Bool.true_or, Bool.false_or, q7_, q8_, cnd_t, cnd_f, Asc_t, Asc_f])⟩
        ·
         intro D t w hD hp hcl hI rest hk
         obtain ⟨O, ht, hs⟩ := hI
         have hp : AllDone D [6, 2] := hp
         obtain ⟨p6_, p2_, _⟩ := hp
         have q8_ : D 8 = false := not_yet (show D 8 = true → AllDone D [7, 2] from hcl 8 (by decide)) 0 7 rfl hD
         simp only [hD, p6_, q8_, cnd_t, cnd_f, Asc_t, Asc_f] at ht hs
         subst ht
         refine s_idxA (n := x39) (m := 1) rfl (fun _ => rfl) gd65.1 gd65.2 rfl rfl rfl rfl rfl ?_
         show G _ _ _ _ [_,_,_,_,_,_,_,_,_,_,_,_,_,_,_,_,_,_,_,_,_,_,_,_,_,_,_,_,_,_,_,_,_,_,_,_,_,_,_,_,_,_,_,_,_,_,_,_,_,_,_,_,_,_,_,_,_] _
         exact hk _ _ ⟨O, (by simp only [upd, Nat.reduceBEq, Bool.true_or, Bool.false_or, p6_, q8_, cnd_t, cnd_f, Asc_t, Asc_f]), hs.cast (by first | rfl | simp only [List.take, List.drop, List.cons_append, List.nil_append, List.set_cons_zero, List.set_cons_succ, List.eraseIdx, upd, Nat.reduceBEq, Bool.true_or, Bool.false_or, p6_, q8_, cnd_t, cnd_f, Asc_t, Asc_f])⟩
        ·
         intro D t w hD hp hcl hI rest hk
         obtain ⟨O, ht, hs⟩ := hI
         have hp : AllDone D [7, 2] := hp
         obtain ⟨p7_, p2_, _⟩ := hp
         obtain ⟨p6_, _, _⟩ := (show D 7 = true → AllDone D [6, 2] from hcl 7 (by decide)) p7_
         simp only [hD, p6_, p7_, cnd_t, cnd_f, Asc_t, Asc_f] at ht hs
         subst ht
         refine s_load1 rfl rfl (v := Value.int .i64 (a4.get x39 0)) rfl rfl (fun _ => rfl) (by rw [Nat.zero_add]; exact cells_load (hs.cells 2 rfl) _ _ (encA_at (fkI .i64).len _ _ 0 gd65.1 gd65.2)) ?_
         show G _ _ _ _ [_,_,_,_,_,_,_,_,_,_,_,_,_,_,_,_,_,_,_,_,_,_,_,_,_,_,_,_,_,_,_,_,_,_,_,_,_,_,_,_,_,_,_,_,_,_,_,_,_,_,_,_,_,_,_,_,_] _
         exact hk _ _ ⟨O, (by simp only [upd, Nat.reduceBEq, Bool.true_or, Bool.false_or, p6_, p7_, cnd_t, cnd_f, Asc_t, Asc_f]), hs.cast (by first | rfl | simp only [List.take, List.drop, List.cons_append, List.nil_append, List.set_cons_zero, List.set_cons_succ, List.eraseIdx, upd, Nat.reduceBEq, Bool.true_or, Bool.false_or, p6_, p7_, cnd_t, cnd_f, Asc_t, Asc_f])⟩
        ·
         intro D t w rest hall hO63_ hI
         obtain ⟨O, ht, hs⟩ := hI
         have p3_ : D 3 = true := hall 3 (by decide) rfl
         have p4_ : D 4 = true := hall 4 (by decide) rfl
         have p5_ : D 5 = true := hall 5 (by decide) rfl
         have p6_ : D 6 = true := hall 6 (by decide) rfl
         have p7_ : D 7 = true := hall 7 (by decide) rfl
         have p8_ : D 8 = true := hall 8 (by decide) rfl
         simp only [p3_, p4_, p5_, p6_, p7_, p8_, cnd_t, cnd_f, Asc_t, Asc_f] at ht hs
         subst ht
         obtain ⟨rest, rfl, hO66_⟩ := ord_one (m := 511) hO63_ rfl 9 (m' := 1023) (by decide +kernel) rfl
         clear hO63_
         refine g_op_b (B := (x38.get x39 0) == (a4.get x39 0)) rfl rfl rfl ?_ ?_
         ·
          intro hb
          rw [if_pos (b_beq_t hb)] at H
          show G _ _ _ _ [_,_,_,_,_,_,_,_,_,_,_,_,_,_,_,_,_,_,_,_,_,_,_,_,_,_,_,_,_,_,_,_,_,_,_,_,_,_,_,_,_,_,_,_,_,_,_,_,_,_,_,_,_,_,_,_,_] _
          obtain ⟨rest, rfl, hO67_⟩ := ord_one (m := 1023) hO66_ rfl 10 (m' := 2047) (by decide +kernel) rfl
          clear hO66_
          refine g_op (v := Value.bool true) rfl rfl rfl ?_
          obtain rfl := ord_end hO67_ rfl (by decide +kernel)
          refine g_ops_nil ?_
          refine g_cond_true rfl ?_
          refine g_skip ?_
          refine g_block ?_
          refine g_seq ?_
          refine g_region ?_
          show G _ _ _ (.inRegion _ [0, 1, 2] :: _) _ _
          refine g_op (v := Value.int .i64 x39) rfl rfl rfl ?_
          obtain ⟨g68, H⟩ := ite_get H
          refine s_idxA (n := x39) (m := 1) rfl (fun _ => rfl) g68.1 g68.2 rfl rfl rfl rfl rfl ?_
          have hs := hs.pull 4 rfl
          have hs : St _ [_,_,_,_,_,_] _ := hs
          refine s_storeA (y := 0) (fkI .i64).len (fkI .i64).one g68.1 g68.2 hs rfl rfl rfl rfl rfl (fun _ => rfl) ?_
          intro w hs
          refine g_ops_nil ?_
          refine g_region ?_
          show G _ _ _ (.inRegion _ [0, 1, 2] :: _) _ _
          refine g_op (v := Value.int .i64 x39) rfl rfl rfl ?_
          refine g_op (v := Value.int .i64 (i64w (x39 - 1))) rfl rfl rfl ?_
          show G _ _ _ _ [_,_,_,_,_,_,_,_,_,_,_,_,_,_,_,_,_,_,_,_,_,_,_,_,_,_,_,_,_,_,_,_,_,_,_,_,_,_,_,_,_,_,_,_,_,_,_,_,_,_,_,_,_,_,_,_,_] _
          refine g_op (v := Value.int .i64 (i64w (x39 - 1))) rfl rfl rfl ?_
          refine g_ops_nil ?_
          refine g_inBlock ?_
          obtain rfl := Option.some.inj H
          have hs := hs.pull 5 rfl
          have hs := hs.pull 1 rfl
          have hs := hs.pull 5 rfl
          have hs := hs.pull 5 rfl
          have hs := hs.pull 5 rfl
          have hs := hs.pull 5 rfl
          have hs : St _ [_,_,_,_,_,_] _ := St.take (Γ' := []) hs
          exact ih2_ _ _ ⟨x38.set x39 0, i64w (x39 - 1), Hx2_, rfl, hs⟩
         ·
          intro hb
          rw [if_neg (b_beq_f hb)] at H
          obtain ⟨rest, rfl, hO69_⟩ := ord_one (m := 1023) hO66_ rfl 10 (m' := 2047) (by decide +kernel) rfl
          clear hO66_
          refine g_op (v := Value.bool false) rfl rfl rfl ?_
          obtain rfl := ord_end hO69_ rfl (by decide +kernel)
          refine g_ops_nil ?_
          refine g_cond_false rfl ?_
          obtain rfl := Option.some.inj H
          subst Hx2_
          have hs := hs.pull 5 rfl
          have hs := hs.pull 5 rfl
          have hs := hs.pull 5 rfl
          have hs := hs.pull 5 rfl
          have hs := hs.pull 4 rfl
          have hs := hs.pull 5 rfl
          have hs : St _ [_,_,_,_,_,_] _ := St.take (Γ' := []) hs
          refine g_exit rfl ?_
          exact ha2_ _ _ ⟨x38, x39, Hr2_, rfl, hs⟩
       ·
        rw [if_neg hb59_] at H
        refine g_lay (n := 11) rfl [0, 1, 2, 3, 4, 5, 6, 7, 8, 9, 10] [0, 1, 2, 3, 4, 5, 6, 7, 8, 9, 10] rfl rfl ?_
        intro rest w hh hbw hO
        have hs := hs.samew hh hbw
        show G _ _ _ _ [_,_,_,_,_,_,_,_,_,_,_,_,_,_,_,_,_,_,_,_,_,_,_,_,_,_,_,_,_,_,_,_,_,_,_,_,_,_,_,_,_,_,_,_,_,_,_,_,_,_,_,_,_,_,_,_,_] _
        obtain ⟨rest, rfl, hO70_⟩ := ord_one (m := 0) hO rfl 0 (m' := 1) (by decide +kernel) rfl
        clear hO
        refine g_op (v := Value.int .i64 x39) rfl rfl rfl ?_
        obtain ⟨rest, rfl, hO71_⟩ := ord_one (m := 1) hO70_ rfl 1 (m' := 3) (by decide +kernel) rfl
        clear hO70_
        refine g_op (v := Value.bool false) rfl rfl (run_bool (b := decide (x39 ≥ 0)) rfl (by first | exact decide_eq_true hb59_ | exact decide_eq_false hb59_ | simp [hb59_])) ?_
        show G _ _ _ _ [_,_,_,_,_,_,_,_,_,_,_,_,_,_,_,_,_,_,_,_,_,_,_,_,_,_,_,_,_,_,_,_,_,_,_,_,_,_,_,_,_,_,_,_,_,_,_,_,_,_,_,_,_,_,_,_,_] _
        obtain ⟨rest, rfl, hO72_⟩ := ord_one (m := 3) hO71_ rfl 2 (m' := 7) (by decide +kernel) rfl
        clear hO71_
        refine g_op (v := Value.bool false) rfl rfl rfl ?_
        refine g_name ?_
        intro T hT
        refine g_layer (m0 := 7) hO72_ rfl 511 [3, 4, 5, 6, 7, 8] [0, 1, 3, 7, 15, 31, 7, 71, 199, 511, 1023] (by decide +kernel) (fun D t w => ∃ O : Nat → Value, t = [O 0, O 1, Value.int .i64 a5, Value.pointer (some ⟨b6, 0, none⟩), Value.pointer (some ⟨b8, 0, none⟩), O 5, Value.pointer (some ⟨b10, 0, none⟩), O 7, Value.pointer (some ⟨b12, 0, none⟩), O 9, O 10, Value.int .i64 x39, O 12, O 13, O 14, O 15, O 16, O 17, O 18, O 19, O 20, O 21, O 22, O 23, O 24, O 25, O 26, O 27, O 28, O 29, O 30, O 31, O 32, O 33, Value.int .i64 x39, Value.bool false, Value.bool false, cnd (D 3) undef (O 37), cnd (D 4) undef (O 38), cnd (D 5) undef (O 39), cnd (D 6) undef (O 40), cnd (D 7) undef (O 41), cnd (D 8) undef (O 42), O 43, O 44, O 45, O 46, O 47, O 48, O 49, O 50, O 51, O 52, O 53, O 54, O 55, O 56] ∧ St wb [MapAs b2 ek_S_impl_stateLeft Value.bool x36, Cells b6 (([Value.int .i64 a1.f_lies, Value.map (some b2)] : List Value)) 56, Cells b8 ((encA (encI .i64)) a4) 25, Cells b10 ((encA (encI .i64)) (Ar.rep 4 0)) 25, Cells b12 ((encA (encI .i64)) x38) 25, Z] w) ?_ ⟨?_, ⟨?_, ⟨?_, ⟨?_, ⟨?_, ⟨?_, trivial⟩⟩⟩⟩⟩⟩ ?_
        · exact ⟨fun i => T.getD i undef, (by subst hT; rfl), hs⟩
        ·
         intro D t w hD hp hcl hI rest hk
         obtain ⟨O, ht, hs⟩ := hI
         have hp : AllDone D [2] := hp
         obtain ⟨p2_, _⟩ := hp
         have q4_ : D 4 = false := not_yet (show D 4 = true → AllDone D [3, 2] from hcl 4 (by decide)) 0 3 rfl hD
         have q5_ : D 5 = false := not_yet (show D 5 = true → AllDone D [4, 2] from hcl 5 (by decide)) 0 4 rfl q4_
         simp only [hD, q4_, q5_, cnd_t, cnd_f, Asc_t, Asc_f] at ht hs
         subst ht
         refine g_op_not rfl rfl ?_
         show G _ _ _ _ [_,_,_,_,_,_,_,_,_,_,_,_,_,_,_,_,_,_,_,_,_,_,_,_,_,_,_,_,_,_,_,_,_,_,_,_,_,_,_,_,_,_,_,_,_,_,_,_,_,_,_,_,_,_,_,_,_] _
         exact hk _ _ ⟨O, (by simp only [upd, Nat.reduceBEq, Bool.true_or, Bool.false_or, q4_, q5_, cnd_t, cnd_f, Asc_t, Asc_f]), hs.cast (by simp only [upd, Nat.reduceBEq, Bool.true_or, Bool.false_or, q4_, q5_, cnd_t, cnd_f, Asc_t, Asc_f])⟩
        ·
         intro D t w hD hp hcl hI rest hk
         obtain ⟨O, ht, hs⟩ := hI
         have hp : AllDone D [3, 2] := hp
         obtain ⟨p3_, p2_, _⟩ := hp
         have q5_ : D 5 = false := not_yet (show D 5 = true → AllDone D [4, 2] from hcl 5 (by decide)) 0 4 rfl hD
         simp only [hD, p3_, q5_, cnd_t, cnd_f, Asc_t, Asc_f] at ht hs
         subst ht
         refine g_op_not rfl rfl ?_
         show G _ _ _ _ [_,_,_,_,_,_,_,_,_,_,_,_,_,_,_,_,_,_,_,_,_,_,_,_,_,_,_,_,_,_,_,_,_,_,_,_,_,_,_,_,_,_,_,_,_,_,_,_,_,_,_,_,_,_,_,_,_] _
         exact hk _ _ ⟨O, (by simp only [upd, Nat.reduceBEq, Bool.true_or, Bool.false_or, p3_, q5_, cnd_t, cnd_f, Asc_t, Asc_f]), hs.cast (by simp only [upd, Nat.reduceBEq, Bool.true_or, Bool.false_or, p3_, q5_, cnd_t, cnd_f, Asc_t, Asc_f])⟩
        ·
         intro D t w hD hp hcl hI rest hk
         obtain ⟨O, ht, hs⟩ := hI
         have hp : AllDone D [4, 2] := hp
         obtain ⟨p4_, p2_, _⟩ := hp
         obtain ⟨p3_, _, _⟩ := (show D 4 = true → AllDone D [3, 2] from hcl 4 (by decide)) p4_
         simp only [hD, p3_, p4_, cnd_t, cnd_f, Asc_t, Asc_f] at ht hs
         subst ht
         refine g_op_not rfl rfl ?_
         show G _ _ _ _ [_,_,_,_,_,_,_,_,_,_,_,_,_,_,_,_,_,_,_,_,_,_,_,_,_,_,_,_,_,_,_,_,_,_,_,_,_,_,_,_,_,_,_,_,_,_,_,_,_,_,_,_,_,_,_,_,_] _
         exact hk _ _ ⟨O, (by simp only [upd, Nat.reduceBEq, Bool.true_or, Bool.false_or, p3_, p4_, cnd_t, cnd_f, Asc_t, Asc_f]), hs.cast (by simp only [upd, Nat.reduceBEq, Bool.true_or, Bool.false_or, p3_, p4_, cnd_t, cnd_f, Asc_t, Asc_f])⟩
        ·
         intro D t w hD hp hcl hI rest hk
         obtain ⟨O, ht, hs⟩ := hI
         have hp : AllDone D [2] := hp
         obtain ⟨p2_, _⟩ := hp
         have q7_ : D 7 = false := not_yet (show D 7 = true → AllDone D [6, 2] from hcl 7 (by decide)) 0 6 rfl hD
         have q8_ : D 8 = false := not_yet (show D 8 = true → AllDone D [7, 2] from hcl 8 (by decide)) 0 7 rfl q7_
         simp only [hD, q7_, q8_, cnd_t, cnd_f, Asc_t, Asc_f] at ht hs
         subst ht
         refine g_op_not rfl rfl ?_
         show G _ _ _ _ [_,_,_,_,_,_,_,_,_,_,_,_,_,_,_,_,_,_,_,_,_,_,_,_,_,_,_,_,_,_,_,_,_,_,_,_,_,_,_,_,_,_,_,_,_,_,_,_,_,_,_,_,_,_,_,_,_] _
         exact hk _ _ ⟨O, (by simp only [upd, Nat.reduceBEq, Bool.true_or, Bool.false_or, q7_, q8_, cnd_t, cnd_f, Asc_t, Asc_f]), hs.cast (by simp only [upd, Nat.reduceBEq, Bool.true_or, Bool.false_or, q7_, q8_, cnd_t, cnd_f, Asc_t, Asc_f])⟩
        ·
         intro D t w hD hp hcl hI rest hk
         obtain ⟨O, ht, hs⟩ := hI
         have hp : AllDone D [6, 2] := hp
         obtain ⟨p6_, p2_, _⟩ := hp
         have q8_ : D 8 = false := not_yet (show D 8 = true → AllDone D [7, 2] from hcl 8 (by decide)) 0 7 rfl hD
         simp only [hD, p6_, q8_, cnd_t, cnd_f, Asc_t, Asc_f] at ht hs
         subst ht
         refine g_op_not rfl rfl ?_
         show G _ _ _ _ [_,_,_,_,_,_,_,_,_,_,_,_,_,_,_,_,_,_,_,_,_,_,_,_,_,_,_,_,_,_,_,_,_,_,_,_,_,_,_,_,_,_,_,_,_,_,_,_,_,_,_,_,_,_,_,_,_] _
         exact hk _ _ ⟨O, (by simp only [upd, Nat.reduceBEq, Bool.true_or, Bool.false_or, p6_, q8_, cnd_t, cnd_f, Asc_t, Asc_f]), hs.cast (by simp only [upd, Nat.reduceBEq, Bool.true_or, Bool.false_or, p6_, q8_, cnd_t, cnd_f, Asc_t, Asc_f])⟩
        ·
         intro D t w hD hp hcl hI rest hk
         obtain ⟨O, ht, hs⟩ := hI
         have hp : AllDone D [7, 2] := hp
         obtain ⟨p7_, p2_, _⟩ := hp
         obtain ⟨p6_, _, _⟩ := (show D 7 = true → AllDone D [6, 2] from hcl 7 (by decide)) p7_
         simp only [hD, p6_, p7_, cnd_t, cnd_f, Asc_t, Asc_f] at ht hs
         subst ht
         refine g_op_not rfl rfl ?_
         show G _ _ _ _ [_,_,_,_,_,_,_,_,_,_,_,_,_,_,_,_,_,_,_,_,_,_,_,_,_,_,_,_,_,_,_,_,_,_,_,_,_,_,_,_,_,_,_,_,_,_,_,_,_,_,_,_,_,_,_,_,_] _
         exact hk _ _ ⟨O, (by simp only [upd, Nat.reduceBEq, Bool.true_or, Bool.false_or, p6_, p7_, cnd_t, cnd_f, Asc_t, Asc_f]), hs.cast (by simp only [upd, Nat.reduceBEq, Bool.true_or, Bool.false_or, p6_, p7_, cnd_t, cnd_f, Asc_t, Asc_f])⟩
        ·
         intro D t w rest hall hO73_ hI
         obtain ⟨O, ht, hs⟩ := hI
         have p3_ : D 3 = true := hall 3 (by decide) rfl
         have p4_ : D 4 = true := hall 4 (by decide) rfl
         have p5_ : D 5 = true := hall 5 (by decide) rfl
         have p6_ : D 6 = true := hall 6 (by decide) rfl
         have p7_ : D 7 = true := hall 7 (by decide) rfl
         have p8_ : D 8 = true := hall 8 (by decide) rfl
         simp only [p3_, p4_, p5_, p6_, p7_, p8_, cnd_t, cnd_f, Asc_t, Asc_f] at ht hs
         subst ht
         obtain ⟨rest, rfl, hO74_⟩ := ord_one (m := 511) hO73_ rfl 9 (m' := 1023) (by decide +kernel) rfl
         clear hO73_
         refine g_op_not rfl rfl ?_
         obtain ⟨rest, rfl, hO75_⟩ := ord_one (m := 1023) hO74_ rfl 10 (m' := 2047) (by decide +kernel) rfl
         clear hO74_
         refine g_op (v := Value.bool false) rfl rfl rfl ?_
         obtain rfl := ord_end hO75_ rfl (by decide +kernel)
         refine g_ops_nil ?_
         refine g_cond_false rfl ?_
         obtain rfl := Option.some.inj H
         subst Hx2_
         have hs := hs.pull 5 rfl
         have hs := hs.pull 5 rfl
         have hs := hs.pull 5 rfl
         have hs := hs.pull 5 rfl
         have hs := hs.pull 4 rfl
         have hs := hs.pull 5 rfl
         have hs : St _ [_,_,_,_,_,_] _ := St.take (Γ' := []) hs
         refine g_exit rfl ?_
         exact ha2_ _ _ ⟨x38, x39, Hr2_, rfl, hs⟩
    ·
     intro ha
     refine g_region ?_
     show G _ _ _ (.inRegion _ [0, 1, 2, 3, 4, 5, 6, 7, 8, 9, 10, 11] :: _) _ _
     refine s_loadA rfl rfl (es := (([Value.int .i64 a1.f_lies, Value.map (some b2)] : List Value))) rfl rfl (fun _ => rfl) (n := 2) (fun _ => rfl) rfl (cells_all (hs.cells 3 rfl)) ?_
     refine s_loadA rfl rfl (es := ((encA (encI .i64)) r29.1)) rfl rfl (fun _ => rfl) (n := 4) (fun _ => rfl) ((fkA (n := 4) (he := (fkI .i64).len) (h1 := (fkI .i64).one)).len _) (cells_all (hs.cells 1 rfl)) ?_
     refine g_op (v := Value.int .i64 a5) rfl rfl rfl ?_
     refine g_op (v := Value.int .i64 (i64w (a5 - 1))) rfl rfl rfl ?_
     show G _ _ _ _ [_,_,_,_,_,_,_,_,_,_,_,_,_,_,_,_,_,_,_,_,_,_,_,_,_,_,_,_,_,_,_,_,_,_,_,_,_,_,_,_,_,_,_,_,_,_,_,_,_,_,_,_,_,_,_,_,_] _
     obtain ⟨r34, Hr34, H⟩ := bind_get H
     have hs := hs.pull 2 rfl
     have hs : St _ [_,_,_,_,_,_,_,_] _ := hs
     have hs := hs.pack 1
     refine s_call (args := [Value.agg (([Value.int .i64 a1.f_lies, Value.map (some b2)] : List Value)).toArray, Value.agg ((encA (encI .i64)) r29.1).toArray, Value.int .i64 (i64w (a5 - 1))]) rfl rfl (x_call rfl (callFunc_enter Try.func33 rfl rfl) rfl) (ih (⟨a1.f_lies, x27⟩ : S_impl_searcher) r29.1 (i64w (a5 - 1)) _ _ _ _ _ hs Hr34) ?_
     rintro _ w ⟨rfl, hs⟩
     have hs := St.unpack (Γ := [_]) hs
     have hs : St _ [_,_,_,_,_,_,_,_] _ := hs
     generalize hb40_ : r34.1 = b_ at H ⊢
     cases b_ with
     | true =>
       rw [if_pos rfl] at H
       refine g_op (v := Value.bool true) rfl rfl rfl ?_
       refine s_loadA rfl rfl (es := (([Value.int .i64 a1.f_lies, Value.map (some b2)] : List Value))) rfl rfl (fun _ => rfl) (n := 2) (fun _ => rfl) rfl (cells_all (hs.cells 3 rfl)) ?_
       refine s_loadA rfl rfl (es := ((encA (encI .i64)) r29.2)) rfl rfl (fun _ => rfl) (n := 4) (fun _ => rfl) ((fkA (n := 4) (he := (fkI .i64).len) (h1 := (fkI .i64).one)).len _) (cells_all (hs.cells 1 rfl)) ?_
       show G _ _ _ _ [_,_,_,_,_,_,_,_,_,_,_,_,_,_,_,_,_,_,_,_,_,_,_,_,_,_,_,_,_,_,_,_,_,_,_,_,_,_,_,_,_,_,_,_,_,_,_,_,_,_,_,_,_,_,_,_,_] _
       refine g_op (v := Value.int .i64 a5) rfl rfl rfl ?_
       refine g_op (v := Value.int .i64 (i64w (a5 - 1))) rfl rfl rfl ?_
       obtain ⟨r35, Hr35, H⟩ := bind_get H
       have hs := hs.pull 0 rfl
       have hs : St _ [_,_,_,_,_,_,_,_] _ := hs
       have hs := hs.pack 1
       refine s_call (args := [Value.agg (([Value.int .i64 a1.f_lies, Value.map (some b2)] : List Value)).toArray, Value.agg ((encA (encI .i64)) r29.2).toArray, Value.int .i64 (i64w (a5 - 1))]) rfl rfl (x_call rfl (callFunc_enter Try.func33 rfl rfl) rfl) (ih (⟨a1.f_lies, r34.2⟩ : S_impl_searcher) r29.2 (i64w (a5 - 1)) _ _ _ _ _ hs Hr35) ?_
       rintro _ w ⟨rfl, hs⟩
       have hs := St.unpack (Γ := [_]) hs
       have hs : St _ [_,_,_,_,_,_,_,_] _ := hs
       generalize hb41_ : r35.1 = b_ at H ⊢
       cases b_ with
       | true =>
         rw [if_pos rfl] at H
         refine g_op (v := Value.bool true) rfl rfl rfl ?_
         refine g_ops_nil ?_
         refine g_cond_true rfl ?_
         refine g_seq ?_
         refine g_region ?_
         show G _ _ _ (.inRegion _ [0, 1, 2] :: _) _ _
         refine s_loadA rfl rfl (es := ((encA (encI .i64)) x28)) rfl rfl (fun _ => rfl) (n := 4) (fun _ => rfl) ((fkA (n := 4) (he := (fkI .i64).len) (h1 := (fkI .i64).one)).len _) (cells_all (hs.cells 6 rfl)) ?_
         show G _ _ _ _ [_,_,_,_,_,_,_,_,_,_,_,_,_,_,_,_,_,_,_,_,_,_,_,_,_,_,_,_,_,_,_,_,_,_,_,_,_,_,_,_,_,_,_,_,_,_,_,_,_,_,_,_,_,_,_,_,_] _
         have hs := hs.pull 5 rfl
         have hs : St _ [_,_,_,_,_,_,_,_] _ := hs
         refine s_storeAll (n := 4) hs ((fkA (n := 4) (he := (fkI .i64).len) (h1 := (fkI .i64).one)).len _) rfl rfl (vs := ((encA (encI .i64)) x28)) rfl rfl rfl (fun _ => rfl) ((fkA (n := 4) (he := (fkI .i64).len) (h1 := (fkI .i64).one)).len _) ((fkA (n := 4) (he := (fkI .i64).len) (h1 := (fkI .i64).one)).one _) ?_
         intro w hs
         refine g_op (v := Value.bool true) rfl rfl rfl ?_
         refine g_ops_nil ?_
         obtain rfl := Option.some.inj H
         subst Hx1_
         have H := Option.some.inj Hr1_
         subst H
         refine g_ret Try.func36 (v := Value.tuple #[Value.agg ((encA (encI .i64)) x28).toArray, Value.bool true]) (resN (l := Try.f36.results.toList) (vs := [Value.agg ((encA (encI .i64)) x28).toArray, Value.bool true]) rfl ⟨⟨_, rfl, (run_loadVar_agg (es := ((encA (encI .i64)) x28)) rfl (congrArg (Result.ok · _) ((fkA (n := 4) (he := (fkI .i64).len) (h1 := (fkI .i64).one)).len _).symm) (cells_all (hs.cells 0 rfl)))⟩, rfl, trivial⟩ (by simp)) ?_
         have hs := hs.pull 7 rfl
         have hs := hs.pull 2 rfl
         have hs : St _ [_,_] _ := St.take (Γ' := [_,_,_,_,_,_]) hs
         exact ⟨_, rfl, rfl, hs⟩
       | false =>
         rw [if_neg Bool.false_ne_true] at H
         refine g_op (v := Value.bool false) rfl rfl rfl ?_
         show G _ _ _ _ [_,_,_,_,_,_,_,_,_,_,_,_,_,_,_,_,_,_,_,_,_,_,_,_,_,_,_,_,_,_,_,_,_,_,_,_,_,_,_,_,_,_,_,_,_,_,_,_,_,_,_,_,_,_,_,_,_] _
         refine g_ops_nil ?_
         refine g_cond_false rfl ?_
         refine g_skip ?_
         have hs := hs.pull 7 rfl
         have hs := hs.pull 7 rfl
         have hs := hs.pull 7 rfl
         have hs := hs.pull 7 rfl
         have hs := hs.pull 4 rfl
         have hs := hs.pull 7 rfl
         have hs : St _ [_,_,_,_,_,_] _ := St.take (Γ' := [_,_]) hs
         exact ha _ _ ⟨r35.2, H, rfl, hs⟩
     | false =>
       rw [if_neg Bool.false_ne_true] at H
       refine g_op (v := Value.bool false) rfl rfl rfl ?_
       refine g_op_not rfl rfl ?_
       refine g_op_not rfl rfl ?_
       show G _ _ _ _ [_,_,_,_,_,_,_,_,_,_,_,_,_,_,_,_,_,_,_,_,_,_,_,_,_,_,_,_,_,_,_,_,_,_,_,_,_,_,_,_,_,_,_,_,_,_,_,_,_,_,_,_,_,_,_,_,_] _
       refine g_op_not rfl rfl ?_
       refine g_op_not rfl rfl ?_
       refine g_op_not rfl rfl ?_
       refine g_op (v := Value.bool false) rfl rfl rfl ?_
       show G _ _ _ _ [_,_,_,_,_,_,_,_,_,_,_,_,_,_,_,_,_,_,_,_,_,_,_,_,_,_,_,_,_,_,_,_,_,_,_,_,_,_,_,_,_,_,_,_,_,_,_,_,_,_,_,_,_,_,_,_,_] _
       refine g_ops_nil ?_
       refine g_cond_false rfl ?_
       refine g_skip ?_
       have hs := hs.pull 7 rfl
       have hs := hs.pull 7 rfl
       have hs := hs.pull 7 rfl
       have hs := hs.pull 7 rfl
       have hs := hs.pull 4 rfl
       have hs := hs.pull 7 rfl
       have hs : St _ [_,_,_,_,_,_] _ := St.take (Γ' := [_,_]) hs
       exact ha _ _ ⟨r34.2, H, rfl, hs⟩

end Go.Proofs.YtfnfoecocicigaaX
