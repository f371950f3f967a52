/- Contracts, printed by gen.py. -/
import Derived.Test.YtmnaclghakalmaaXT
import Derived.Test.YtmnaclghakalmaaProg
import Derived.Test.YtmnaclghakalmaaXRowR
import Derived.Test.YtmnaclghakalmaaXSq
import Derived.Test.YtmnaclghakalmaaXSeg
import Derived.Test.YtmnaclghakalmaaXKey
import Derived.Test.YtmnaclghakalmaaXIter
import Derived.Test.YtmnaclghakalmaaXRow2
import Derived.Test.YtmnaclghakalmaaXEla
import Derived.Test.YtmnaclghakalmaaTCX
import Derived.Test.YtmnaclghakalmaaXC0
import Derived.Test.YtmnaclghakalmaaXC7
import Derived.Test.YtmnaclghakalmaaXC8
import Derived.Test.YtmnaclghakalmaaXC9
namespace Go.Proofs.YtmnaclghakalmaaX
open Go Go.RowKit Go.Proofs
set_option linter.unusedVariables false
set_option linter.unusedSimpArgs false
/- function 34 _impl_Glasses_events_at__impl_Glasses_turns_1 -/
def _impl_Glasses_events_at__impl_Glasses_turns_1.post (wb : World) (Z : As) (b6 : Nat) (v10 : Value) (mm12 : (List (Option Nat))) (b9 : Nat) (v10 : Value) (r : (Int × (List (Option (List ((Ar Int 4) × Int)))) × (List (Option (List ((Ar Int 4) × Int)))))) (v : Value) (w : World) : Prop := v = Value.tuple #[] ∧ St wb [Cells b6 ((encI .i64) r.1) 2, Rows2 43 kHM (MapO (ekA (n := 4) .i16) (Value.int .i64)) v10 mm12 r.2.1, Cells b9 [v10] 44, Z] w
set_option maxHeartbeats 8000000 in
set_option maxRecDepth 100000 in
theorem _impl_Glasses_events_at__impl_Glasses_turns_1.calls {N : Nat} {a1 : (List Int)} {a3 : S_impl_moment} {a4 : Int} {a5 : Int} {a8 : (List (Option (List ((Ar Int 4) × Int))))} {v2 : Value} {b6 : Nat} {b9 : Nat} {v10 : Value} {mm12 : (List (Option Nat))} {wb : World} {Z : As} {w0 : World} {r : (Int × (List (Option (List ((Ar Int 4) × Int)))) × (List (Option (List ((Ar Int 4) × Int)))))} (hs : St wb [Cells b6 ((encI .i64) a5) 2, Rows2 43 kHM (MapO (ekA (n := 4) .i16) (Value.int .i64)) v10 mm12 a8, Cells b9 ([v10]) 44, Z] w0) (hr0 : RdRow (K.int .i16) wb v2 a1) (H : _impl_Glasses_events_at__impl_Glasses_turns_1.f N a1 a3 a4 a5 a8 = some r) :
    Calls Try.prog 34 #[v2, Value.agg (enc_S_impl_moment a3).toArray, Value.int .i64 a4, Value.func (Fn.func 35) #[] #[Value.pointer (some ⟨b6, 0, none⟩), Value.pointer (some ⟨b9, 0, none⟩)]] w0 fun e w => ∃ v, e = .returned v ∧ _impl_Glasses_events_at__impl_Glasses_turns_1.post wb Z b6 v10 mm12 b9 v10 r v w := by
  unfold _impl_Glasses_events_at__impl_Glasses_turns_1.f at H
  refine calls_of_g (n := 44) Try.func34 rfl rfl ?_
  show G _ _ _ _ [_,_,_,_,_,_,_,_,_,_,_,_,_,_,_,_,_,_,_,_,_,_,_,_,_,_,_,_,_,_,_,_,_,_,_,_,_,_,_,_,_,_,_,_,_,_,_,_] _
  refine g_seq (g_rg [0] rfl ?_)
  refine s_box hs rfl rfl (cs := (enc_S_impl_moment a3)) rfl rfl ?_
  intro b14 w hs
  refine g_ops_nil (g_seq (g_rg [0, 1, 2, 3] rfl ?_))
  refine g_op (v := v2) rfl rfl rfl ?_
  refine s_len (hs.rd hr0) rfl rfl rfl rfl rfl ?_
  obtain ⟨g1, H⟩ := ite_get H
  refine g_op (v := Value.int .i64 (shlI .i64 1 (a1.length : Int))) rfl rfl (x_shl rfl rfl rfl g1) ?_
  show G _ _ _ _ [_,_,_,_,_,_,_,_,_,_,_,_,_,_,_,_,_,_,_,_,_,_,_,_,_,_,_,_,_,_,_,_,_,_,_,_,_,_,_,_,_,_,_,_,_,_,_,_] _
  refine g_op (v := Value.int .i64 0) rfl rfl rfl (g_ops_nil ?_)
  obtain ⟨o1_, Ho, Hr1_⟩ := bind_get H
  refine g_block_join (J := fun t w => ∃ x34 : Int, ∃ x35 : (List (Option (List ((Ar Int 4) × Int)))), _impl_Glasses_events_at__impl_Glasses_turns_1.a0 N x34 x35 = some r ∧ Fr t (fun O => ([O 0, O 1, O 2, O 3, O 4, O 5, O 6, O 7, O 8, O 9, O 10, O 11, O 12, O 13, O 14, O 15, O 16, O 17, O 18, O 19, O 20, O 21, O 22, O 23, O 24, O 25, O 26, O 27, O 28, O 29, O 30, O 31, O 32, O 33, O 34, O 35, O 36, O 37, O 38, O 39, O 40, O 41, O 42, O 43, O 44, O 45, O 46, O 47] : List Value)) ∧ St wb [Cells b6 ((encI .i64) x34) 2, Cells b9 ([v10]) 44, Rows2 43 kHM (MapO (ekA (n := 4) .i16) (Value.int .i64)) v10 mm12 x35, Z] w) ?_ ?_
  ·
   rintro t w ⟨x34, x35, H, hf, hs⟩
   obtain ⟨O, rfl⟩ := hf.open
   show G _ _ _ _ [_,_,_,_,_,_,_,_,_,_,_,_,_,_,_,_,_,_,_,_,_,_,_,_,_,_,_,_,_,_,_,_,_,_,_,_,_,_,_,_,_,_,_,_,_,_,_,_] _
   unfold _impl_Glasses_events_at__impl_Glasses_turns_1.a0 at H
   obtain rfl := Option.some.inj H
   refine g_end Try.func34 (v := Value.tuple #[]) (resN (l := Try.f34.results.toList) (vs := []) rfl trivial (by simp)) ?_
   have hs := hs.pull 3 rfl
   have hs := hs.pull 2 rfl
   have hs := hs.pull 3 rfl
   have hs := hs.pull 3 rfl
   have hs : St _ [_,_,_,_] _ := St.take (Γ' := []) hs
   exact ⟨_, rfl, rfl, hs⟩
  intro ha1_
  have hs := hs.pull 4 rfl
  have hs := hs.pull 1 rfl
  have hs := hs.pull 4 rfl
  have hs := hs.pull 4 rfl
  have hs := hs.pull 4 rfl
  have hs : St _ [_,_,_,_,_] _ := St.take (Γ' := []) hs
  refine g_loop_fuel (I := fun n_ t w => ∃ x24 : Int, ∃ x25 : (List (Option (List ((Ar Int 4) × Int)))), ∃ x26 : Int, rounds (fun s => _impl_Glasses_events_at__impl_Glasses_turns_1.b0 N a1 a3 a4 s.1 s.2.1 s.2.2) n_ (x24, x25, x26) = some o1_ ∧ Fr t (fun O => ([v2, O 1, Value.int .i64 a4, Value.func (Fn.func 35) #[] #[Value.pointer (some ⟨b6, 0, none⟩), Value.pointer (some ⟨b9, 0, none⟩)], O 4, Value.pointer (some ⟨b14, 0, none⟩), O 6, O 7, O 8, O 9, O 10, O 11, O 12, Value.int .i64 (shlI .i64 1 (a1.length : Int)), Value.int .i64 x26, O 15, O 16, O 17, O 18, O 19, O 20, O 21, O 22, O 23, O 24, O 25, O 26, O 27, O 28, O 29, O 30, O 31, O 32, O 33, O 34, O 35, O 36, O 37, O 38, O 39, O 40, O 41, O 42, O 43, O 44, O 45, O 46, O 47] : List Value)) ∧ St wb [Cells b6 ((encI .i64) x24) 2, Rows2 43 kHM (MapO (ekA (n := 4) .i16) (Value.int .i64)) v10 mm12 x25, Cells b9 ([v10]) 44, Cells b14 (enc_S_impl_moment a3) 60, Z] w) N ⟨a5, a8, 0, Ho, rfl, hs⟩ ?_ ?_
  ·
   rintro _ _ ⟨x24, x25, x26, h, _⟩
   exact rounds_zero h
  intro n_ ih1_
  rintro t w ⟨x24, x25, x26, Ho, hf, hs⟩
  obtain ⟨O, rfl⟩ := hf.open
  show G _ _ _ _ [_,_,_,_,_,_,_,_,_,_,_,_,_,_,_,_,_,_,_,_,_,_,_,_,_,_,_,_,_,_,_,_,_,_,_,_,_,_,_,_,_,_,_,_,_,_,_,_] _
  obtain ⟨x2_, H, Hx1_⟩ := rounds_succ Ho
  have H : _impl_Glasses_events_at__impl_Glasses_turns_1.b0 N a1 a3 a4 x24 x25 x26 = some x2_ := H
  unfold _impl_Glasses_events_at__impl_Glasses_turns_1.b0 at H
  refine g_seq (g_rg [0] rfl ?_)
  refine g_op_b (B := decide (x26 < (shlI .i64 1 (a1.length : Int)))) rfl rfl rfl ?_ ?_
  ·
   intro hb
   rw [if_pos (b_dec_t hb)] at H
   refine g_ops_nil (g_seq (g_cond_true rfl (g_skip (g_seq ?_))))
   refine g_block_join (J := (fun t w => ∃ x32 : Int, ∃ x33 : (List (Option (List ((Ar Int 4) × Int)))), _impl_Glasses_events_at__impl_Glasses_turns_1.j2 N x26 x32 x33 = some x2_ ∧ Fr t (fun O => ([v2, O 1, Value.int .i64 a4, Value.func (Fn.func 35) #[] #[Value.pointer (some ⟨b6, 0, none⟩), Value.pointer (some ⟨b9, 0, none⟩)], O 4, Value.pointer (some ⟨b14, 0, none⟩), O 6, O 7, O 8, O 9, O 10, O 11, O 12, Value.int .i64 (shlI .i64 1 (a1.length : Int)), Value.int .i64 x26, O 15, O 16, O 17, O 18, O 19, O 20, O 21, O 22, O 23, O 24, O 25, O 26, O 27, O 28, O 29, O 30, O 31, O 32, O 33, O 34, O 35, O 36, O 37, O 38, O 39, O 40, O 41, O 42, O 43, O 44, O 45, O 46, O 47] : List Value)) ∧ St wb [Cells b6 ((encI .i64) x32) 2, Cells b9 ([v10]) 44, Rows2 43 kHM (MapO (ekA (n := 4) .i16) (Value.int .i64)) v10 mm12 x33, Cells b14 (enc_S_impl_moment a3) 60, Z] w)) ?_ ?_
   ·
    rintro t w ⟨x32, x33, H, hf, hs⟩
    obtain ⟨O, rfl⟩ := hf.open
    show G _ _ _ _ [_,_,_,_,_,_,_,_,_,_,_,_,_,_,_,_,_,_,_,_,_,_,_,_,_,_,_,_,_,_,_,_,_,_,_,_,_,_,_,_,_,_,_,_,_,_,_,_] _
    unfold _impl_Glasses_events_at__impl_Glasses_turns_1.j2 at H
    refine g_rg [0, 1] rfl ?_
    refine g_op (v := Value.int .i64 (i64w (x26 + 1))) rfl rfl rfl ?_
    refine g_op (v := Value.int .i64 (i64w (x26 + 1))) rfl rfl rfl (g_ops_nil ?_)
    obtain rfl := Option.some.inj H
    have hs := hs.pull 4 rfl
    have hs := hs.pull 4 rfl
    have hs := hs.pull 3 rfl
    have hs := hs.pull 4 rfl
    have hs := hs.pull 4 rfl
    have hs : St _ [_,_,_,_,_] _ := St.take (Γ' := []) hs
    exact ih1_ _ _ ⟨x32, x33, i64w (x26 + 1), Hx1_, rfl, hs⟩
   intro ha
   refine g_seq (g_rg [0, 1] rfl ?_)
   refine g_op (v := Value.int .i64 x26) rfl rfl rfl ?_
   refine g_op (v := Value.int .i64 x26) rfl rfl rfl ?_
   show G _ _ _ _ [_,_,_,_,_,_,_,_,_,_,_,_,_,_,_,_,_,_,_,_,_,_,_,_,_,_,_,_,_,_,_,_,_,_,_,_,_,_,_,_,_,_,_,_,_,_,_,_] _
   refine g_ops_nil (g_seq (g_rg [0, 1, 2, 3, 4, 5, 6, 7, 8, 9, 10, 11, 12] rfl ?_))
   refine g_op (v := v2) rfl rfl rfl ?_
   refine g_op (v := Value.pointer (some ⟨b14, 1, none⟩)) rfl rfl rfl ?_
   refine s_loadA rfl rfl (es := ((encA (encI .i16)) a3.f_tops)) rfl rfl (fun _ => rfl) (n := 4) (fun _ => rfl) ((fkA (n := 4) (he := (fkI .i16).len) (h1 := (fkI .i16).one)).len _) (cells_load (hs.cells 3 rfl) 1 4 (by simp only [enc_S_impl_moment]; first | rfl | exact List.take_of_length_le (Nat.le_of_eq ((fkA (n := 4) (he := (fkI .i16).len) (h1 := (fkI .i16).one)).len _)) | simp [List.drop_append, List.take_append, encAI_len, encAB_len, encA_len, List.take_of_length_le])) ?_
   refine g_op (v := Value.int .i64 x26) rfl rfl rfl ?_
   refine g_op (v := Value.int .u8 (u8w x26)) rfl rfl rfl ?_
   obtain ⟨r27, Hr27, H⟩ := bind_get H
   refine s_call (args := [v2, Value.agg ((encA (encI .i16)) a3.f_tops).toArray, Value.int .u8 (u8w x26)]) rfl rfl (x_call rfl (callFunc_enter Try.func43 rfl rfl) rfl) (_impl_Glasses_turned.calls (a1 := a1) (a3 := a3.f_tops) (a4 := u8w x26) (hs.rd hr0) Hr27) ?_
   rintro _ w ⟨rfl, hs2⟩
   have hs : St _ [_,_,_,_,_] _ := hs.call hs2
   obtain ⟨r28, Hr28, H⟩ := bind_get H
   refine s_call (args := [Value.agg ((encA (encI .i16)) r27).toArray]) rfl rfl (x_call rfl (callFunc_enter Try.func42 rfl rfl) rfl) (impl_wait.calls (a1 := r27) Hr28) ?_
   rintro _ w ⟨rfl, hs2⟩
   have hs : St _ [_,_,_,_,_] _ := hs.call hs2
   show G _ _ _ _ [_,_,_,_,_,_,_,_,_,_,_,_,_,_,_,_,_,_,_,_,_,_,_,_,_,_,_,_,_,_,_,_,_,_,_,_,_,_,_,_,_,_,_,_,_,_,_,_] _
   refine g_op (v := Value.tuple #[Value.agg ((encA (encI .i16)) r28.1).toArray, Value.int .i64 r28.2]) rfl rfl rfl ?_
   refine g_op (v := Value.agg ((encA (encI .i16)) r28.1).toArray) rfl rfl rfl ?_
   refine g_op (v := Value.int .i64 r28.2) rfl rfl rfl ?_
   refine s_alloc hs rfl rfl (z := (Value.agg #[Value.int .i16 0, Value.int .i16 0, Value.int .i16 0, Value.int .i16 0])) (cs := ((encA (encI .i16)) (Ar.rep 4 0))) rfl (fun _ => rfl) rfl ?_
   intro b29 w hs
   refine s_storeAll (n := 4) hs ((fkA (n := 4) (he := (fkI .i16).len) (h1 := (fkI .i16).one)).len _) rfl rfl (vs := ((encA (encI .i16)) r28.1)) rfl rfl rfl (fun _ => rfl) ((fkA (n := 4) (he := (fkI .i16).len) (h1 := (fkI .i16).one)).len _) ((fkA (n := 4) (he := (fkI .i16).len) (h1 := (fkI .i16).one)).one _) ?_
   intro w hs
   refine g_op (v := Value.int .i64 r28.2) rfl rfl rfl (g_ops_nil (g_seq (g_rg [0, 1, 2, 3, 4, 5, 6, 7, 8, 9] rfl ?_)))
   refine g_op (v := Value.int .i64 r28.2) rfl rfl rfl ?_
   refine g_op_b (B := decide (r28.2 > 0)) rfl rfl rfl ?_ ?_
   ·
    intro hb
    rw [if_pos (b_dec_t hb)] at H
    refine g_op (v := Value.bool true) rfl rfl rfl ?_
    refine g_op (v := Value.pointer (some ⟨b14, 0, none⟩)) rfl rfl rfl ?_
    refine s_load1 rfl rfl (v := Value.int .i64 a3.f_time) rfl rfl (fun _ => rfl) (cells_load (hs.cells 4 rfl) 0 1 (by first | rfl | (simp only [enc_S_impl_moment]; simp [List.drop_append, List.take_append, encAI_len, encAB_len, List.take_of_length_le]))) ?_
    show G _ _ _ _ [_,_,_,_,_,_,_,_,_,_,_,_,_,_,_,_,_,_,_,_,_,_,_,_,_,_,_,_,_,_,_,_,_,_,_,_,_,_,_,_,_,_,_,_,_,_,_,_] _
    refine g_op (v := Value.int .i64 r28.2) rfl rfl rfl ?_
    refine g_op (v := Value.int .i64 (i64w (a3.f_time + r28.2))) rfl rfl rfl ?_
    refine g_op (v := Value.int .i64 a4) rfl rfl rfl ?_
    refine g_op_b (B := decide ((i64w (a3.f_time + r28.2)) ≤ a4)) rfl rfl rfl ?_ ?_
    ·
     intro hb
     rw [if_pos (b_dec_t hb)] at H
     refine g_op (v := Value.bool true) rfl rfl rfl (g_ops_nil (g_cond_true rfl (g_rg [0, 1, 2, 3, 4, 5, 6, 7, 8, 9] rfl ?_)))
     refine g_op (v := Value.func (Fn.func 35) #[] #[Value.pointer (some ⟨b6, 0, none⟩), Value.pointer (some ⟨b9, 0, none⟩)]) rfl rfl rfl ?_
     refine g_op (v := Value.int .i64 x26) rfl rfl rfl ?_
     refine g_op (v := Value.int .u8 (u8w x26)) rfl rfl rfl ?_
     refine g_op (v := Value.pointer (some ⟨b14, 0, none⟩)) rfl rfl rfl ?_
     refine s_load1 rfl rfl (v := Value.int .i64 a3.f_time) rfl rfl (fun _ => rfl) (cells_load (hs.cells 4 rfl) 0 1 (by first | rfl | (simp only [enc_S_impl_moment]; simp [List.drop_append, List.take_append, encAI_len, encAB_len, List.take_of_length_le]))) ?_
     show G _ _ _ _ [_,_,_,_,_,_,_,_,_,_,_,_,_,_,_,_,_,_,_,_,_,_,_,_,_,_,_,_,_,_,_,_,_,_,_,_,_,_,_,_,_,_,_,_,_,_,_,_] _
     refine g_op (v := Value.int .i64 r28.2) rfl rfl rfl ?_
     refine g_op (v := Value.int .i64 (i64w (a3.f_time + r28.2))) rfl rfl rfl ?_
     refine s_loadA rfl rfl (es := ((encA (encI .i16)) r28.1)) rfl rfl (fun _ => rfl) (n := 4) (fun _ => rfl) ((fkA (n := 4) (he := (fkI .i16).len) (h1 := (fkI .i16).one)).len _) (cells_all (hs.cells 0 rfl)) ?_
     show G _ _ _ _ [_,_,_,_,_,_,_,_,_,_,_,_,_,_,_,_,_,_,_,_,_,_,_,_,_,_,_,_,_,_,_,_,_,_,_,_,_,_,_,_,_,_,_,_,_,_,_,_] _
     refine g_op (v := Value.agg (enc_S_impl_moment (⟨i64w (a3.f_time + r28.2), r28.1⟩ : S_impl_moment)).toArray) rfl rfl (x_buildS (cs := (enc_S_impl_moment (⟨i64w (a3.f_time + r28.2), r28.1⟩ : S_impl_moment))) (segs := [[Value.int .i64 0], [Value.int .i16 0, Value.int .i16 0, Value.int .i16 0, Value.int .i16 0]]) rfl rfl (fun _ => rfl) ⟨rfl, (fun _ => rfl), rfl, (fun _ => rfl), trivial⟩ (by simp only [List.map_cons, List.map_nil, List.forall_mem_cons, List.not_mem_nil, false_implies, implies_true, and_true]; exact ⟨⟨_, rfl, rfl⟩, ⟨_, rfl, (fkA (n := 4) (he := (fkI .i16).len) (h1 := (fkI .i16).one)).len _⟩⟩) (by first | rfl | (simp [ev, enc_S_impl_moment]; done) | (simp [ev, enc_S_impl_moment]; rfl))) ?_
     show G _ _ _ _ [_,_,_,_,_,_,_,_,_,_,_,_,_,_,_,_,_,_,_,_,_,_,_,_,_,_,_,_,_,_,_,_,_,_,_,_,_,_,_,_,_,_,_,_,_,_,_,_] _
     obtain ⟨r31, Hr31, H⟩ := bind_get H
     have hs := hs.pull 3 rfl
     have hs := hs.pull 3 rfl
     have hs := hs.pull 3 rfl
     have hs : St _ [_,_,_,_,_,_] _ := hs
     have hs := hs.pack 3
     refine s_call (args := [Value.int .u8 (u8w x26), Value.agg (enc_S_impl_moment (⟨i64w (a3.f_time + r28.2), r28.1⟩ : S_impl_moment)).toArray, Value.pointer (some ⟨b6, 0, none⟩), Value.pointer (some ⟨b9, 0, none⟩)]) rfl rfl (x_callC rfl (callFunc_enter Try.func35 rfl rfl) rfl rfl) (_impl_Glasses_turns_1.calls (a1 := u8w x26) (a2 := (⟨i64w (a3.f_time + r28.2), r28.1⟩ : S_impl_moment)) (a3 := x24) (a6 := x25) hs Hr31) ?_
     rintro _ w ⟨rfl, hs⟩
     have hs := St.unpack (Γ := [_,_,_]) hs
     have hs : St _ [_,_,_,_,_,_] _ := hs
     refine g_ops_nil ?_
     refine g_inBlock ?_
     have hs := hs.pull 5 rfl
     have hs := hs.pull 5 rfl
     have hs := hs.pull 3 rfl
     have hs := hs.pull 4 rfl
     have hs := hs.pull 4 rfl
     have hs : St _ [_,_,_,_,_] _ := St.take (Γ' := [_]) hs
     exact ha _ _ ⟨r31.1, r31.2.1, H, rfl, hs⟩
    intro hb
    rw [if_neg (b_dec_f hb)] at H
    refine g_op (v := Value.bool false) rfl rfl rfl ?_
    show G _ _ _ _ [_,_,_,_,_,_,_,_,_,_,_,_,_,_,_,_,_,_,_,_,_,_,_,_,_,_,_,_,_,_,_,_,_,_,_,_,_,_,_,_,_,_,_,_,_,_,_,_] _
    refine g_ops_nil (g_cond_false rfl (g_skip ?_))
    refine g_inBlock ?_
    have hs := hs.pull 5 rfl
    have hs := hs.pull 5 rfl
    have hs := hs.pull 4 rfl
    have hs := hs.pull 5 rfl
    have hs := hs.pull 5 rfl
    have hs : St _ [_,_,_,_,_] _ := St.take (Γ' := [_]) hs
    exact ha _ _ ⟨x24, x25, H, rfl, hs⟩
   intro hb
   rw [if_neg (b_dec_f hb)] at H
   show G _ _ _ _ [_,_,_,_,_,_,_,_,_,_,_,_,_,_,_,_,_,_,_,_,_,_,_,_,_,_,_,_,_,_,_,_,_,_,_,_,_,_,_,_,_,_,_,_,_,_,_,_] _
   refine g_op (v := Value.bool false) rfl rfl rfl (g_op_not rfl rfl (g_op_not rfl rfl (g_op_not rfl rfl (g_op_not rfl rfl (g_op_not rfl rfl (g_op_not rfl rfl ?_))))))
   show G _ _ _ _ [_,_,_,_,_,_,_,_,_,_,_,_,_,_,_,_,_,_,_,_,_,_,_,_,_,_,_,_,_,_,_,_,_,_,_,_,_,_,_,_,_,_,_,_,_,_,_,_] _
   refine g_op (v := Value.bool false) rfl rfl rfl (g_ops_nil (g_cond_false rfl (g_skip ?_)))
   refine g_inBlock ?_
   have hs := hs.pull 5 rfl
   have hs := hs.pull 5 rfl
   have hs := hs.pull 4 rfl
   have hs := hs.pull 5 rfl
   have hs := hs.pull 5 rfl
   have hs : St _ [_,_,_,_,_] _ := St.take (Γ' := [_]) hs
   exact ha _ _ ⟨x24, x25, H, rfl, hs⟩
  intro hb
  rw [if_neg (b_dec_f hb)] at H
  refine g_ops_nil (g_seq (g_cond_false rfl ?_))
  obtain rfl := Option.some.inj H
  subst Hx1_
  have hs := hs.pull 4 rfl
  have hs := hs.pull 2 rfl
  have hs := hs.pull 3 rfl
  have hs := hs.pull 3 rfl
  have hs : St _ [_,_,_,_] _ := St.take (Γ' := [_]) hs
  refine g_exit rfl ?_
  exact ha1_ _ _ ⟨x24, x25, Hr1_, rfl, hs⟩

/- function 18 _impl_Glasses_turns -/
def _impl_Glasses_turns.post (w0 : World) (r : (List (Option (List ((Ar Int 4) × Int))))) (v : Value) (w : World) : Prop := ∃ u1 : Value, ∃ mm2 : (List (Option Nat)), v = u1 ∧ St w0 [Rows2 43 kHM (MapO (ekA (n := 4) .i16) (Value.int .i64)) u1 mm2 r] w
set_option maxHeartbeats 8000000 in
set_option maxRecDepth 100000 in
theorem _impl_Glasses_turns.calls {N : Nat} {a1 : (List Int)} {a3 : (Ar Int 4)} {a4 : Int} {v2 : Value} {w0 : World} {Q : (List (Option (List ((Ar Int 4) × Int)))) → Prop} (hr0 : RdRow (K.int .i16) w0 v2 a1) (H : _impl_Glasses_turns.f N a1 a3 a4 Q) :
    Calls Try.prog 18 #[v2, Value.agg ((encA (encI .i16)) a3).toArray, Value.int .i64 a4] w0 fun e w => ∃ v, e = .returned v ∧ ∃ r, Q r ∧ _impl_Glasses_turns.post w0 r v w := by
  unfold _impl_Glasses_turns.f at H
  have hs : St w0 [] w0 := St.refl w0
  refine calls_of_g (n := 49) Try.func18 rfl rfl ?_
  show G _ _ _ _ [_,_,_,_,_,_,_,_,_,_,_,_,_,_,_,_,_,_,_,_,_,_,_,_,_,_,_,_,_,_,_,_,_,_,_,_,_,_,_,_,_,_,_,_,_,_,_,_,_,_,_,_] _
  refine g_seq (g_rg [0, 1] rfl ?_)
  refine s_box hs rfl rfl (cs := ((encA (encI .i16)) a3)) rfl rfl ?_
  intro b5 w hs
  refine g_op (v := Value.slice none 0 0) rfl rfl rfl (g_ops_nil (g_seq (g_rg [0, 1, 2, 3, 4] rfl ?_)))
  refine g_op (v := Value.int .i64 a4) rfl rfl rfl ?_
  refine g_op (v := Value.int .i64 (i64w (a4 + 1))) rfl rfl rfl ?_
  show G _ _ _ _ [_,_,_,_,_,_,_,_,_,_,_,_,_,_,_,_,_,_,_,_,_,_,_,_,_,_,_,_,_,_,_,_,_,_,_,_,_,_,_,_,_,_,_,_,_,_,_,_,_,_,_,_] _
  obtain ⟨g, H⟩ := ite_getD H
  refine s_make (κ := kHM) (z := none) (zc := (encHM none)) (zv := (Value.map none)) (B := 8) hs rfl rfl rfl rfl rfl g.1 rfl rfl rfl rfl rfl (fun _ => ⟨rfl, rfl⟩) rfl (by decide) (by have := g.2; omega) ?_
  intro v7 w hs
  have hs := hs.r2make (I := (MapO (ekA (n := 4) .i16) (Value.int .i64))) (y := (none : Option (List ((Ar Int 4) × Int)))) mapO0
  have hs : St _ [_,_] _ := hs
  refine s_alloc hs rfl rfl (z := (Value.slice none 0 0)) (cs := [Value.slice none 0 0]) rfl (fun _ => rfl) rfl ?_
  intro b9 w hs
  refine s_storeAll (n := 1) hs rfl rfl rfl (vs := [v7]) rfl rfl (slCells (hs.r2row 1 rfl)) (fun _ => rfl) rfl (by intro v hv; simp only [List.mem_cons, List.not_mem_nil, or_false] at hv; subst hv; exact slOne (hs.r2row 1 rfl)) ?_
  intro w hs
  refine g_ops_nil (g_seq (g_seq (g_rg [0, 1, 2] rfl ?_)))
  refine s_load1 rfl rfl (v := v7) rfl rfl (fun _ => rfl) (cells_load (hs.cells 0 rfl) 0 1 rfl) ?_
  show G _ _ _ _ [_,_,_,_,_,_,_,_,_,_,_,_,_,_,_,_,_,_,_,_,_,_,_,_,_,_,_,_,_,_,_,_,_,_,_,_,_,_,_,_,_,_,_,_,_,_,_,_,_,_,_,_] _
  refine s_len2 hs 1 rfl rfl rfl rfl rfl rfl ?_
  refine g_op (v := Value.int .i64 0) rfl rfl rfl (g_ops_nil ?_)
  have Ho := H
  refine g_block_join (J := fun t w => ∃ mm21 : (List (Option Nat)), ∃ x22 : (List (Option (List ((Ar Int 4) × Int)))), _impl_Glasses_turns.a0 N a4 a1 a3 x22 Q ∧ Fr t (fun O => ([v2, O 1, Value.int .i64 a4, O 3, Value.pointer (some ⟨b5, 0, none⟩), O 5, O 6, Value.pointer (some ⟨b9, 0, none⟩), O 8, O 9, O 10, O 11, O 12, O 13, O 14, O 15, O 16, O 17, O 18, O 19, O 20, O 21, O 22, O 23, O 24, O 25, O 26, O 27, O 28, O 29, O 30, O 31, O 32, O 33, O 34, O 35, O 36, O 37, O 38, O 39, O 40, O 41, O 42, O 43, O 44, O 45, O 46, O 47, O 48, O 49, O 50, O 51] : List Value)) ∧ St w0 [Cells b5 ((encA (encI .i16)) a3) 30, Cells b9 ([v7]) 44, Rows2 43 kHM (MapO (ekA (n := 4) .i16) (Value.int .i64)) v7 mm21 x22] w) ?_ ?_
  ·
   rintro t w ⟨mm21, x22, H, hf, hs⟩
   obtain ⟨O, rfl⟩ := hf.open
   show G _ _ _ _ [_,_,_,_,_,_,_,_,_,_,_,_,_,_,_,_,_,_,_,_,_,_,_,_,_,_,_,_,_,_,_,_,_,_,_,_,_,_,_,_,_,_,_,_,_,_,_,_,_,_,_,_] _
   unfold _impl_Glasses_turns.a0 at H
   refine g_seq ?_
   obtain ⟨gd3, H⟩ := ite_getD H
   obtain ⟨ad4_, ad4_N, ad4_C, had4_⟩ := sl_at (hs.r2row 2 rfl) gd3.1 (hs.r2lt 2 rfl gd3.2)
   obtain ⟨gd5, H⟩ := ite_getD H
   obtain ⟨b23, eb23⟩ := hs.r2some 2 rfl gd3.1 gd3.2 gd5
   refine g_name ?_
   intro T hT
   refine g_any (n := 5) rfl [0, 1, 2, 3, 4] [0, 1, 2, 3, 4] rfl rfl (Inv := fun D t w => ∃ b23 : Nat, ∃ O : Nat → Value, t = [v2, O 1, Value.int .i64 a4, O 3, Value.pointer (some ⟨b5, 0, none⟩), O 5, O 6, Value.pointer (some ⟨b9, 0, none⟩), O 8, O 9, O 10, O 11, O 12, O 13, O 14, O 15, O 16, O 17, O 18, O 19, O 20, O 21, O 22, O 23, O 24, cnd (D 0) v7 (O 25), cnd (D 1) (Value.pointer (some (ad4_.add ((0 : Int).toNat * 1)))) (O 26), cnd (D 2) (Value.map (rdL mm21 0 none)) (O 27), cnd (D 3) (Value.agg ((encA (encI .i16)) a3).toArray) (O 28), O 29, O 30, O 31, O 32, O 33, O 34, O 35, O 36, O 37, O 38, O 39, O 40, O 41, O 42, O 43, O 44, O 45, O 46, O 47, O 48, O 49, O 50, O 51] ∧ St w0 [Cells b5 ((encA (encI .i16)) a3) 30, Cells b9 ([v7]) 44, Rows2 43 kHM (MapO (ekA (n := 4) .i16) (Value.int .i64)) v7 mm21 (cnd (D 4) (stL x22 0 (some (mSet ((rdL x22 0 none).getD []) a3 0))) x22)] w) ?_ ⟨⟨⟨⟨⟨trivial, ?_⟩, ?_⟩, ?_⟩, ?_⟩, ?_⟩ ?_
   ·
    intro w hh hbw
    have hs := hs.samew hh hbw
    exact ⟨0, fun i => T.getD i undef, (by subst hT; rfl), hs⟩
   ·
    rintro D t w hD hp hcl ⟨b23, O, ht, hs⟩ rest hk
    have q1_ := nz hcl 1 0 hD
    have q2_ := nz hcl 2 0 q1_
    have q4_ := nz hcl 4 0 q2_
    simp only [hD, q1_, q2_, q4_, cq] at ht hs
    subst ht
    refine s_load1 rfl rfl (v := v7) rfl rfl (fun _ => rfl) (cells_load (hs.cells 1 rfl) 0 1 rfl) ?_
    show G _ _ _ _ [_,_,_,_,_,_,_,_,_,_,_,_,_,_,_,_,_,_,_,_,_,_,_,_,_,_,_,_,_,_,_,_,_,_,_,_,_,_,_,_,_,_,_,_,_,_,_,_,_,_,_,_] _
    refine hk _ _ ⟨b23, O, ?_, hs.cast ?_⟩ <;> simp only [lq, cq, Nat.reduceBEq, q1_, q2_, q4_]
   ·
    rintro D t w hD hp hcl ⟨b23, O, ht, hs⟩ rest hk
    obtain ⟨p0_, _⟩ := hp
    have q2_ := nz hcl 2 0 hD
    have q4_ := nz hcl 4 0 q2_
    simp only [hD, p0_, q2_, q4_, cq] at ht hs
    subst ht
    refine s_idxD (κ := kHM) (m := 1) rfl (hs.r2row 2 rfl) rfl (fun _ => rfl) gd3.1 (hs.r2lt 2 rfl gd3.2) had4_ rfl rfl rfl rfl rfl ?_
    show G _ _ _ _ [_,_,_,_,_,_,_,_,_,_,_,_,_,_,_,_,_,_,_,_,_,_,_,_,_,_,_,_,_,_,_,_,_,_,_,_,_,_,_,_,_,_,_,_,_,_,_,_,_,_,_,_] _
    refine hk _ _ ⟨b23, O, ?_, hs.cast ?_⟩ <;> simp only [lq, cq, Nat.reduceBEq, p0_, q2_, q4_]
   ·
    rintro D t w hD hp hcl ⟨b23, O, ht, hs⟩ rest hk
    obtain ⟨p1_, _⟩ := hp
    obtain ⟨p0_, _⟩ := (hcl.get 1 (by decide)) p1_
    have q4_ := nz hcl 4 0 hD
    simp only [hD, p0_, p1_, q4_, cq] at ht hs
    subst ht
    refine s_load1 rfl rfl (v := Value.map (rdL mm21 0 none)) rfl rfl (fun _ => rfl) (cellsAt_of fkHM none (hs.r2row 2 rfl) had4_ gd3.1 (hs.r2lt 2 rfl gd3.2)) ?_
    show G _ _ _ _ [_,_,_,_,_,_,_,_,_,_,_,_,_,_,_,_,_,_,_,_,_,_,_,_,_,_,_,_,_,_,_,_,_,_,_,_,_,_,_,_,_,_,_,_,_,_,_,_,_,_,_,_] _
    refine hk _ _ ⟨b23, O, ?_, hs.cast ?_⟩ <;> simp only [lq, cq, Nat.reduceBEq, p0_, p1_, q4_]
   ·
    rintro D t w hD hp hcl ⟨b23, O, ht, hs⟩ rest hk
    have q4_ := nz hcl 4 1 hD
    simp only [hD, q4_, cq] at ht hs
    subst ht
    refine s_loadA rfl rfl (es := ((encA (encI .i16)) a3)) rfl rfl (fun _ => rfl) (n := 4) (fun _ => rfl) ((fkA (n := 4) (he := (fkI .i16).len) (h1 := (fkI .i16).one)).len _) (cells_all (hs.cells 0 rfl)) ?_
    show G _ _ _ _ [_,_,_,_,_,_,_,_,_,_,_,_,_,_,_,_,_,_,_,_,_,_,_,_,_,_,_,_,_,_,_,_,_,_,_,_,_,_,_,_,_,_,_,_,_,_,_,_,_,_,_,_] _
    refine hk _ _ ⟨b23, O, ?_, hs.cast ?_⟩ <;> simp only [lq, cq, Nat.reduceBEq, q4_]
   ·
    rintro D t w hD hp hcl ⟨b23, O, ht, hs⟩ rest hk
    obtain ⟨p2_, p3_, p0_, p1_, _, _, _⟩ := hp
    simp only [hD, p0_, p1_, p2_, p3_, cq] at ht hs
    subst ht
    have hs := hs.pull 2 rfl
    have hs : St _ [_,_,_] _ := hs
    refine s_r2set key_ar4_30 gd3.1 gd3.2 eb23 (a := a3) (y := 0) hs rfl rfl (.inl rfl) Try.underlying43 rfl rfl rfl ?_
    intro w hs
    show G _ _ _ _ [_,_,_,_,_,_,_,_,_,_,_,_,_,_,_,_,_,_,_,_,_,_,_,_,_,_,_,_,_,_,_,_,_,_,_,_,_,_,_,_,_,_,_,_,_,_,_,_,_,_,_,_] _
    have hs := hs.push 2 (by simp)
    refine hk _ _ ⟨b23, O, ?_, hs.cast ?_⟩ <;> simp only [lq, cq, Nat.reduceBEq, p0_, p1_, p2_, p3_]
   intro D t w hall hI
   obtain ⟨b23, O, ht, hs⟩ := hI
   have p0_ := hall 0 (by decide)
   have p1_ := hall 1 (by decide)
   have p2_ := hall 2 (by decide)
   have p3_ := hall 3 (by decide)
   have p4_ := hall 4 (by decide)
   simp only [p0_, p1_, p2_, p3_, p4_, cq] at ht hs
   subst ht
   refine g_seq (g_seq (g_rg [0, 1] rfl ?_))
   refine g_op (v := Value.int .i64 a4) rfl rfl rfl ?_
   refine g_op (v := Value.int .i64 0) rfl rfl rfl (g_ops_nil ?_)
   have Ho := H
   refine g_block_join (J := fun t w => ∃ x69 : (List (Option (List ((Ar Int 4) × Int)))), _impl_Glasses_turns.a2 N x69 Q ∧ Fr t (fun O => ([O 0, O 1, O 2, O 3, O 4, O 5, O 6, Value.pointer (some ⟨b9, 0, none⟩), O 8, O 9, O 10, O 11, O 12, O 13, O 14, O 15, O 16, O 17, O 18, O 19, O 20, O 21, O 22, O 23, O 24, O 25, O 26, O 27, O 28, O 29, O 30, O 31, O 32, O 33, O 34, O 35, O 36, O 37, O 38, O 39, O 40, O 41, O 42, O 43, O 44, O 45, O 46, O 47, O 48, O 49, O 50, O 51] : List Value)) ∧ St w0 [Cells b9 ([v7]) 44, Rows2 43 kHM (MapO (ekA (n := 4) .i16) (Value.int .i64)) v7 mm21 x69] w) ?_ ?_
   ·
    rintro t w ⟨x69, H, hf, hs⟩
    obtain ⟨O, rfl⟩ := hf.open
    show G _ _ _ _ [_,_,_,_,_,_,_,_,_,_,_,_,_,_,_,_,_,_,_,_,_,_,_,_,_,_,_,_,_,_,_,_,_,_,_,_,_,_,_,_,_,_,_,_,_,_,_,_,_,_,_,_] _
    unfold _impl_Glasses_turns.a2 at H
    refine g_seq (g_rg [0, 1] rfl ?_)
    refine s_load1 rfl rfl (v := v7) rfl rfl (fun _ => rfl) (cells_load (hs.cells 0 rfl) 0 1 rfl) ?_
    refine g_op (v := v7) rfl rfl rfl ?_
    show G _ _ _ _ [_,_,_,_,_,_,_,_,_,_,_,_,_,_,_,_,_,_,_,_,_,_,_,_,_,_,_,_,_,_,_,_,_,_,_,_,_,_,_,_,_,_,_,_,_,_,_,_,_,_,_,_] _
    refine g_ops_nil ?_
    refine g_ret Try.func18 (v := v7) (res1 rfl rfl) ?_
    have hs := hs.pull 1 rfl
    have hs : St _ [_] _ := St.take (Γ' := [_]) hs
    exact ⟨_, rfl, _, H, v7, mm21, rfl, hs⟩
   intro ha1_
   have hs := hs.pull 1 rfl
   have hs := hs.pull 2 rfl
   have hs : St _ [_,_] _ := St.take (Γ' := [_]) hs
   refine g_loop_fuel (I := fun n_ t w => ∃ x46 : (List (Option (List ((Ar Int 4) × Int)))), ∃ x47 : Int, roundsD (fun s => _impl_Glasses_turns.b2 N a4 a1 s.1 s.2) n_ (x46, x47) (Ex.finD (fun s => _impl_Glasses_turns.a2 N s Q) Q) ∧ Fr t (fun O => ([v2, O 1, Value.int .i64 a4, O 3, O 4, O 5, O 6, Value.pointer (some ⟨b9, 0, none⟩), O 8, O 9, O 10, O 11, O 12, O 13, O 14, O 15, O 16, O 17, O 18, O 19, O 20, O 21, O 22, O 23, O 24, O 25, O 26, O 27, O 28, Value.int .i64 a4, Value.int .i64 x47, O 31, O 32, O 33, O 34, O 35, O 36, O 37, O 38, O 39, O 40, O 41, O 42, O 43, O 44, O 45, O 46, O 47, O 48, O 49, O 50, O 51] : List Value)) ∧ St w0 [Rows2 43 kHM (MapO (ekA (n := 4) .i16) (Value.int .i64)) v7 mm21 x46, Cells b9 ([v7]) 44] w) N ⟨stL x22 0 (some (mSet ((rdL x22 0 none).getD []) a3 0)), 0, Ho, rfl, hs⟩ ?_ ?_
   ·
    rintro _ _ ⟨x46, x47, h, _⟩
    exact (h : False).elim
   intro n_ ih1_
   rintro t w ⟨x46, x47, Ho, hf, hs⟩
   obtain ⟨O, rfl⟩ := hf.open
   show G _ _ _ _ [_,_,_,_,_,_,_,_,_,_,_,_,_,_,_,_,_,_,_,_,_,_,_,_,_,_,_,_,_,_,_,_,_,_,_,_,_,_,_,_,_,_,_,_,_,_,_,_,_,_,_,_] _
   obtain ⟨x20_, hQ1_, H⟩ := roundsD_succ Ho
   have H : _impl_Glasses_turns.b2 N a4 a1 x46 x47 x20_ := H
   unfold _impl_Glasses_turns.b2 at H
   refine g_seq (g_rg [0] rfl ?_)
   refine g_op_b (B := decide (x47 < a4)) rfl rfl rfl ?_ ?_
   ·
    intro hb
    rw [if_pos (b_dec_t hb)] at H
    refine g_ops_nil (g_seq (g_cond_true rfl (g_skip (g_seq ?_))))
    refine g_block (g_seq (g_rg [0, 1] rfl ?_))
    refine g_op (v := Value.int .i64 x47) rfl rfl rfl ?_
    refine g_op (v := Value.int .i64 x47) rfl rfl rfl (g_ops_nil (g_seq (g_rg [0, 1, 2, 3, 4] rfl ?_)))
    refine s_load1 rfl rfl (v := v7) rfl rfl (fun _ => rfl) (cells_load (hs.cells 1 rfl) 0 1 rfl) ?_
    show G _ _ _ _ [_,_,_,_,_,_,_,_,_,_,_,_,_,_,_,_,_,_,_,_,_,_,_,_,_,_,_,_,_,_,_,_,_,_,_,_,_,_,_,_,_,_,_,_,_,_,_,_,_,_,_,_] _
    refine g_op (v := Value.int .i64 x47) rfl rfl rfl ?_
    obtain ⟨g13, H⟩ := ite_getD H
    refine s_idx fkHM none (hs.r2row 0 rfl) rfl (fun _ => rfl) g13.1 (hs.r2lt 0 rfl g13.2) rfl rfl rfl rfl rfl ?_
    intro p48 hp48 lp48 op48
    refine s_load1 rfl rfl (v := Value.map (rdL mm21 x47 none)) rfl rfl (fun _ => rfl) hp48 ?_
    obtain ⟨g14, H⟩ := ite_getD H
    obtain ⟨b49, eb49⟩ := hs.r2some 0 rfl g13.1 g13.2 g14
    refine s_rangeO g13.1 g13.2 eb49 (some_getD g14) hs rfl rfl rfl Try.underlying43 rfl ?_
    intro b50 w hs
    show G _ _ _ _ [_,_,_,_,_,_,_,_,_,_,_,_,_,_,_,_,_,_,_,_,_,_,_,_,_,_,_,_,_,_,_,_,_,_,_,_,_,_,_,_,_,_,_,_,_,_,_,_,_,_,_,_] _
    refine g_ops_nil ?_
    have Ho := H
    refine g_block_join (J := fun t w => ∃ x68 : (List (Option (List ((Ar Int 4) × Int)))), _impl_Glasses_turns.a4 N x47 x68 x20_ ∧ Fr t (fun O => ([v2, O 1, Value.int .i64 a4, O 3, O 4, O 5, O 6, Value.pointer (some ⟨b9, 0, none⟩), O 8, O 9, O 10, O 11, O 12, O 13, O 14, O 15, O 16, O 17, O 18, O 19, O 20, O 21, O 22, O 23, O 24, O 25, O 26, O 27, O 28, Value.int .i64 a4, Value.int .i64 x47, O 31, O 32, O 33, O 34, O 35, O 36, O 37, O 38, O 39, O 40, O 41, O 42, O 43, O 44, O 45, O 46, O 47, O 48, O 49, O 50, O 51] : List Value)) ∧ St w0 [Cells b9 ([v7]) 44, Rows2 43 kHM (MapO (ekA (n := 4) .i16) (Value.int .i64)) v7 mm21 x68] w) ?_ ?_
    ·
     rintro t w ⟨x68, H, hf, hs⟩
     obtain ⟨O, rfl⟩ := hf.open
     show G _ _ _ _ [_,_,_,_,_,_,_,_,_,_,_,_,_,_,_,_,_,_,_,_,_,_,_,_,_,_,_,_,_,_,_,_,_,_,_,_,_,_,_,_,_,_,_,_,_,_,_,_,_,_,_,_] _
     unfold _impl_Glasses_turns.a4 at H
     refine g_inBlock (g_rg [0, 1] rfl ?_)
     refine g_op (v := Value.int .i64 (i64w (x47 + 1))) rfl rfl rfl ?_
     refine g_op (v := Value.int .i64 (i64w (x47 + 1))) rfl rfl rfl (g_ops_nil ?_)
     have hs := hs.pull 0 rfl
     have hs := hs.pull 1 rfl
     have hs : St _ [_,_] _ := St.take (Γ' := []) hs
     exact ih1_ _ _ ⟨x68, i64w (x47 + 1), cast (congrFun hQ1_ _) H, rfl, hs⟩
    intro ha2_
    have hs := hs.pull 0 rfl
    have hs := hs.pull 2 rfl
    have hs := hs.pull 2 rfl
    have hs : St _ [_,_,_] _ := St.take (Γ' := []) hs
    refine g_loop_fuel (I := fun n_ t w => ∃ x59 : (List (Option (List ((Ar Int 4) × Int)))), ∃ x60 : (List ((Ar Int 4) × Int)), roundsD (fun s => _impl_Glasses_turns.b4 N x47 x46 a1 a4 s.1 s.2) n_ (x59, x60) (Ex.finBD (fun s => _impl_Glasses_turns.a4 N x47 s x20_) x20_) ∧ Fr t (fun O => ([v2, O 1, Value.int .i64 a4, O 3, O 4, O 5, O 6, Value.pointer (some ⟨b9, 0, none⟩), O 8, Value.int .i64 x47, O 10, O 11, O 12, O 13, O 14, O 15, O 16, O 17, O 18, O 19, O 20, O 21, O 22, O 23, O 24, O 25, O 26, O 27, O 28, Value.int .i64 a4, Value.int .i64 x47, O 31, O 32, O 33, O 34, O 35, O 36, Value.pointer (some ⟨b50, 0, none⟩), O 38, O 39, O 40, O 41, O 42, O 43, O 44, O 45, O 46, O 47, O 48, O 49, O 50, O 51] : List Value)) ∧ St w0 [Rows2 43 kHM (MapO (ekA (n := 4) .i16) (Value.int .i64)) v7 mm21 x59, Cells b9 ([v7]) 44, IterAs b50 b49 ((rdL x46 x47 none).getD []) x60 none] w) N ⟨x46, (rdL x46 x47 none).getD [], Ho, rfl, hs⟩ ?_ ?_
    ·
     rintro _ _ ⟨x59, x60, h, _⟩
     exact (h : False).elim
    intro n_ ih2_
    rintro t w ⟨x59, x60, Ho, hf, hs⟩
    obtain ⟨O, rfl⟩ := hf.open
    show G _ _ _ _ [_,_,_,_,_,_,_,_,_,_,_,_,_,_,_,_,_,_,_,_,_,_,_,_,_,_,_,_,_,_,_,_,_,_,_,_,_,_,_,_,_,_,_,_,_,_,_,_,_,_,_,_] _
    obtain ⟨x19_, hQ2_, H⟩ := roundsD_succ Ho
    have H : _impl_Glasses_turns.b4 N x47 x46 a1 a4 x59 x60 x19_ := H
    unfold _impl_Glasses_turns.b4 at H
    refine g_seq (g_rg [0, 1] rfl ?_)
    obtain ⟨hkv17_, H⟩ := H
    have hs := hs.pull 2 rfl
    have hs : St _ [_,_,_] _ := hs
    refine s_nextO g13.1 (rdL_lt g13.1 hkv17_) eb49 hkv17_ hs rfl rfl rfl rfl ?_ ?_
    ·
     intro hl18_ w hs
     have H := H.1 hl18_
     show G _ _ _ _ [_,_,_,_,_,_,_,_,_,_,_,_,_,_,_,_,_,_,_,_,_,_,_,_,_,_,_,_,_,_,_,_,_,_,_,_,_,_,_,_,_,_,_,_,_,_,_,_,_,_,_,_] _
     refine g_op (v := Value.bool false) rfl rfl rfl (g_ops_nil (g_seq (g_cond_false rfl ?_)))
     have hs := hs.pull 1 rfl
     have hs := hs.pull 2 rfl
     have hs : St _ [_,_] _ := St.take (Γ' := [_]) hs
     refine g_exit rfl ?_
     exact ha2_ _ _ ⟨x59, cast (congrFun hQ2_ _) H, rfl, hs⟩
    intro q61 l62 hl18_ w hs
    have H := H.2 q61 l62 hl18_
    dsimp only at H
    refine g_op (v := Value.bool true) rfl rfl rfl (g_ops_nil (g_seq (g_cond_true rfl (g_skip ?_))))
    refine g_block (g_seq (g_rg [0, 1, 2, 3, 4, 5, 6] rfl ?_))
    have hs := hs.pull 1 rfl
    have hs : St _ [_,_,_] _ := hs
    have hs := hs.pull 1 rfl
    have hs : St _ [_,_,_] _ := hs
    refine s_entryO g13.1 (rdL_lt g13.1 hkv17_) eb49 hkv17_ hs rfl rfl rfl rfl ?_
    have hs := hs.iterForget
    have hs : St _ [_,_,_] _ := hs
    refine g_op (v := Value.agg ((encA (encI .i16)) q61.1).toArray) rfl rfl rfl ?_
    refine g_op (v := Value.int .i64 q61.2) rfl rfl rfl ?_
    refine s_alloc hs rfl rfl (z := (Value.agg #[Value.int .i16 0, Value.int .i16 0, Value.int .i16 0, Value.int .i16 0])) (cs := ((encA (encI .i16)) (Ar.rep 4 0))) rfl (fun _ => rfl) rfl ?_
    intro b63 w hs
    show G _ _ _ _ [_,_,_,_,_,_,_,_,_,_,_,_,_,_,_,_,_,_,_,_,_,_,_,_,_,_,_,_,_,_,_,_,_,_,_,_,_,_,_,_,_,_,_,_,_,_,_,_,_,_,_,_] _
    refine s_alloc hs rfl rfl (z := (Value.int .i64 0)) (cs := ((encI .i64) 0)) rfl (fun _ => rfl) rfl ?_
    intro b65 w hs
    have hs := hs.pull 1 rfl
    have hs : St _ [_,_,_,_,_] _ := hs
    refine s_storeAll (n := 4) hs ((fkA (n := 4) (he := (fkI .i16).len) (h1 := (fkI .i16).one)).len _) rfl rfl (vs := ((encA (encI .i16)) q61.1)) rfl rfl rfl (fun _ => rfl) ((fkA (n := 4) (he := (fkI .i16).len) (h1 := (fkI .i16).one)).len _) ((fkA (n := 4) (he := (fkI .i16).len) (h1 := (fkI .i16).one)).one _) ?_
    intro w hs
    have hs := hs.pull 1 rfl
    have hs : St _ [_,_,_,_,_] _ := hs
    refine s_storeAll (n := 1) hs ((fkI .i64).len _) rfl rfl (vs := ((encI .i64) q61.2)) rfl rfl rfl (fun _ => rfl) ((fkI .i64).len _) ((fkI .i64).one _) ?_
    intro w hs
    refine g_ops_nil (g_rg [0, 1, 2, 3, 4, 5, 6] rfl ?_)
    refine g_op (v := v2) rfl rfl rfl ?_
    refine g_op (v := Value.int .i64 x47) rfl rfl rfl ?_
    refine s_loadA rfl rfl (es := ((encA (encI .i16)) q61.1)) rfl rfl (fun _ => rfl) (n := 4) (fun _ => rfl) ((fkA (n := 4) (he := (fkI .i16).len) (h1 := (fkI .i16).one)).len _) (cells_all (hs.cells 1 rfl)) ?_
    show G _ _ _ _ [_,_,_,_,_,_,_,_,_,_,_,_,_,_,_,_,_,_,_,_,_,_,_,_,_,_,_,_,_,_,_,_,_,_,_,_,_,_,_,_,_,_,_,_,_,_,_,_,_,_,_,_] _
    refine g_op (v := Value.agg (enc_S_impl_moment (⟨x47, q61.1⟩ : S_impl_moment)).toArray) rfl rfl (x_buildS (cs := (enc_S_impl_moment (⟨x47, q61.1⟩ : S_impl_moment))) (segs := [[Value.int .i64 0], [Value.int .i16 0, Value.int .i16 0, Value.int .i16 0, Value.int .i16 0]]) rfl rfl (fun _ => rfl) ⟨rfl, (fun _ => rfl), rfl, (fun _ => rfl), trivial⟩ (by simp only [List.map_cons, List.map_nil, List.forall_mem_cons, List.not_mem_nil, false_implies, implies_true, and_true]; exact ⟨⟨_, rfl, rfl⟩, ⟨_, rfl, (fkA (n := 4) (he := (fkI .i16).len) (h1 := (fkI .i16).one)).len _⟩⟩) (by first | rfl | (simp [ev, enc_S_impl_moment]; done) | (simp [ev, enc_S_impl_moment]; rfl))) ?_
    show G _ _ _ _ [_,_,_,_,_,_,_,_,_,_,_,_,_,_,_,_,_,_,_,_,_,_,_,_,_,_,_,_,_,_,_,_,_,_,_,_,_,_,_,_,_,_,_,_,_,_,_,_,_,_,_,_] _
    refine g_op (v := Value.int .i64 a4) rfl rfl rfl ?_
    refine g_op (v := Value.func (Fn.func 35) #[] #[Value.pointer (some ⟨b65, 0, none⟩), Value.pointer (some ⟨b9, 0, none⟩)]) rfl rfl (x_mkfunc rfl rfl) ?_
    obtain ⟨r67, Hr67, H⟩ := H
    have hs := hs.pull 4 rfl
    have hs := hs.pull 4 rfl
    have hs := hs.pull 2 rfl
    have hs : St _ [_,_,_,_,_] _ := hs
    have hs := hs.pack 3
    refine s_call (args := [v2, Value.agg (enc_S_impl_moment (⟨x47, q61.1⟩ : S_impl_moment)).toArray, Value.int .i64 a4, Value.func (Fn.func 35) #[] #[Value.pointer (some ⟨b65, 0, none⟩), Value.pointer (some ⟨b9, 0, none⟩)]]) rfl rfl (x_call rfl (callFunc_enter Try.func34 rfl rfl) rfl) (_impl_Glasses_events_at__impl_Glasses_turns_1.calls (a1 := a1) (a3 := (⟨x47, q61.1⟩ : S_impl_moment)) (a4 := a4) (a5 := q61.2) (a8 := x59) hs hr0 Hr67) ?_
    rintro _ w ⟨rfl, hs⟩
    have hs := St.unpack (Γ := [_,_,_]) hs
    have hs : St _ [_,_,_,_,_] _ := hs
    refine g_ops_nil ?_
    refine g_inBlock ?_
    have hs := hs.pull 4 rfl
    have hs := hs.pull 3 rfl
    have hs := hs.pull 3 rfl
    have hs : St _ [_,_,_] _ := St.take (Γ' := [_,_]) hs
    exact ih2_ _ _ ⟨r67.2.1, l62, cast (congrFun hQ2_ _) H, rfl, hs⟩
   intro hb
   rw [if_neg (b_dec_f hb)] at H
   show G _ _ _ _ [_,_,_,_,_,_,_,_,_,_,_,_,_,_,_,_,_,_,_,_,_,_,_,_,_,_,_,_,_,_,_,_,_,_,_,_,_,_,_,_,_,_,_,_,_,_,_,_,_,_,_,_] _
   refine g_ops_nil (g_seq (g_cond_false rfl ?_))
   have hs := hs.pull 0 rfl
   have hs := hs.pull 1 rfl
   have hs : St _ [_,_] _ := St.take (Γ' := []) hs
   refine g_exit rfl ?_
   exact ha1_ _ _ ⟨x46, cast (congrFun hQ1_ _) H, rfl, hs⟩
  intro ha1_
  have hs := hs.pull 0 rfl
  have hs := hs.pull 1 rfl
  have hs := hs.pull 2 rfl
  have hs : St _ [_,_,_] _ := St.take (Γ' := []) hs
  refine g_loop_fuel (I := fun n_ t w => ∃ mm15 : (List (Option Nat)), ∃ x16 : (List (Option (List ((Ar Int 4) × Int)))), ∃ x17 : Int, roundsD (fun s => _impl_Glasses_turns.b0 N a4 s.1 s.2) n_ (x16, x17) (Ex.finD (fun s => _impl_Glasses_turns.a0 N a4 a1 a3 s Q) Q) ∧ Fr t (fun O => ([v2, O 1, Value.int .i64 a4, O 3, Value.pointer (some ⟨b5, 0, none⟩), O 5, O 6, Value.pointer (some ⟨b9, 0, none⟩), O 8, O 9, O 10, O 11, O 12, O 13, O 14, O 15, Value.int .i64 ((List.replicate ((i64w (a4 + 1))).toNat (none : Option (List ((Ar Int 4) × Int)))).length : Int), Value.int .i64 x17, O 18, O 19, O 20, O 21, O 22, O 23, O 24, O 25, O 26, O 27, O 28, O 29, O 30, O 31, O 32, O 33, O 34, O 35, O 36, O 37, O 38, O 39, O 40, O 41, O 42, O 43, O 44, O 45, O 46, O 47, O 48, O 49, O 50, O 51] : List Value)) ∧ St w0 [Cells b5 ((encA (encI .i16)) a3) 30, Rows2 43 kHM (MapO (ekA (n := 4) .i16) (Value.int .i64)) v7 mm15 x16, Cells b9 ([v7]) 44] w) N ⟨List.replicate ((i64w (a4 + 1))).toNat (none : Option Nat), List.replicate ((i64w (a4 + 1))).toNat (none : Option (List ((Ar Int 4) × Int))), 0, Ho, rfl, hs⟩ ?_ ?_
  ·
   rintro _ _ ⟨mm15, x16, x17, h, _⟩
   exact (h : False).elim
  intro n_ ih1_
  rintro t w ⟨mm15, x16, x17, Ho, hf, hs⟩
  obtain ⟨O, rfl⟩ := hf.open
  show G _ _ _ _ [_,_,_,_,_,_,_,_,_,_,_,_,_,_,_,_,_,_,_,_,_,_,_,_,_,_,_,_,_,_,_,_,_,_,_,_,_,_,_,_,_,_,_,_,_,_,_,_,_,_,_,_] _
  obtain ⟨x21_, hQ1_, H⟩ := roundsD_succ Ho
  have H : _impl_Glasses_turns.b0 N a4 x16 x17 x21_ := H
  unfold _impl_Glasses_turns.b0 at H
  refine g_seq (g_rg [0] rfl ?_)
  refine g_op_b (B := decide (x17 < ((List.replicate ((i64w (a4 + 1))).toNat (none : Option (List ((Ar Int 4) × Int)))).length : Int))) rfl rfl rfl ?_ ?_
  ·
   intro hb
   rw [if_pos (b_dec_t hb)] at H
   show G _ _ _ _ [_,_,_,_,_,_,_,_,_,_,_,_,_,_,_,_,_,_,_,_,_,_,_,_,_,_,_,_,_,_,_,_,_,_,_,_,_,_,_,_,_,_,_,_,_,_,_,_,_,_,_,_] _
   refine g_ops_nil (g_seq (g_cond_true rfl (g_skip (g_seq ?_))))
   refine g_block (g_seq (g_rg [0, 1] rfl ?_))
   refine g_op (v := Value.int .i64 x17) rfl rfl rfl ?_
   refine g_op (v := Value.int .i64 x17) rfl rfl rfl (g_ops_nil (g_rg [0, 1, 2, 3, 4] rfl ?_))
   refine s_load1 rfl rfl (v := v7) rfl rfl (fun _ => rfl) (cells_load (hs.cells 2 rfl) 0 1 rfl) ?_
   refine g_op (v := Value.int .i64 x17) rfl rfl rfl ?_
   refine s_makeMap (ek := (ekA (n := 4) .i16)) (en := (Value.int .i64)) hs rfl rfl rfl ?_
   intro b18 w hs
   show G _ _ _ _ [_,_,_,_,_,_,_,_,_,_,_,_,_,_,_,_,_,_,_,_,_,_,_,_,_,_,_,_,_,_,_,_,_,_,_,_,_,_,_,_,_,_,_,_,_,_,_,_,_,_,_,_] _
   obtain ⟨g2, H⟩ := ite_getD H
   refine s_idx fkHM none (hs.r2row 2 rfl) rfl (fun _ => rfl) g2.1 (hs.r2lt 2 rfl g2.2) rfl rfl rfl rfl rfl ?_
   intro p20 hp20 lp20 op20
   have hs := hs.pull 2 rfl
   have hs : St _ [_,_,_,_] _ := hs
   refine s_r2store (I := (MapO (ekA (n := 4) .i16) (Value.int .i64))) (h' := some b18) (x' := some ([] : (List ((Ar Int 4) × Int)))) fkHM g2.1 g2.2 op20 hs rfl rfl rfl rfl rfl (fun _ => rfl) ?_
   intro w hs
   refine g_ops_nil ?_
   refine g_inBlock (g_rg [0, 1] rfl ?_)
   refine g_op (v := Value.int .i64 (i64w (x17 + 1))) rfl rfl rfl ?_
   refine g_op (v := Value.int .i64 (i64w (x17 + 1))) rfl rfl rfl (g_ops_nil ?_)
   have hs := hs.pull 2 rfl
   have hs := hs.pull 1 rfl
   have hs := hs.pull 2 rfl
   have hs : St _ [_,_,_] _ := St.take (Γ' := []) hs
   exact ih1_ _ _ ⟨stL mm15 x17 (some b18), stL x16 x17 (some ([] : (List ((Ar Int 4) × Int)))), i64w (x17 + 1), cast (congrFun hQ1_ _) H, rfl, hs⟩
  intro hb
  rw [if_neg (b_dec_f hb)] at H
  refine g_ops_nil (g_seq (g_cond_false rfl ?_))
  have hs := hs.pull 1 rfl
  have hs := hs.pull 2 rfl
  have hs := hs.pull 2 rfl
  have hs : St _ [_,_,_] _ := St.take (Γ' := []) hs
  refine g_exit rfl ?_
  exact ha1_ _ _ ⟨mm15, x16, cast (congrFun hQ1_ _) H, rfl, hs⟩

/- function 19 slices_SortFunc_impl_Tops_impl_Tops_at_impl_TopsAfter_1 -/
def slices_SortFunc_impl_Tops_impl_Tops.post (wb : World) (Z : As) (v1 : Value) (r : (List (Ar Int 4))) (v : Value) (w : World) : Prop := v = Value.tuple #[] ∧ St wb [Row 30 (K.ar 4 1 (encI .i16) (fkI .i16).len (fkI .i16).one) v1 r, Z] w
theorem slices_SortFunc_impl_Tops_impl_Tops.calls {N : Nat} {a1 : (List (Ar Int 4))} {v1 : Value} {wb : World} {Z : As} {w0 : World} {r : (List (Ar Int 4))} (hs : St wb [Row 30 (K.ar 4 1 (encI .i16) (fkI .i16).len (fkI .i16).one) v1 a1, Z] w0) (H : slices_SortFunc_impl_Tops_impl_Tops.f N a1 = some r) :
    Calls Try.prog 19 #[v1, .func (.func 20) #[] #[]] w0 fun e w => ∃ u, e = .returned u ∧ slices_SortFunc_impl_Tops_impl_Tops.post wb Z v1 r u w := by
  obtain ⟨hg, H⟩ := ite_get H
  obtain rfl := Option.some.inj H
  exact (top_sort hs hg).mono fun e w ⟨he, hw⟩ => ⟨_, he, rfl, hw⟩

/- function 7 impl_TopsAfter -/
def impl_TopsAfter.post (w0 : World) (r : ((List (Ar Int 4)) × Int)) (v : Value) (w : World) : Prop := ∃ u1 : Value, v = Value.tuple #[u1, Value.int .i64 r.2] ∧ St w0 [Row 30 (K.ar 4 1 (encI .i16) (fkI .i16).len (fkI .i16).one) u1 r.1] w
set_option maxHeartbeats 8000000 in
set_option maxRecDepth 100000 in
theorem impl_TopsAfter.calls {N : Nat} {a1 : (List Int)} {a3 : (Ar Int 4)} {a4 : Int} {v2 : Value} {w0 : World} {Q : ((List (Ar Int 4)) × Int) → Prop} (hr0 : RdRow (K.int .i16) w0 v2 a1) (H : impl_TopsAfter.f N a1 a3 a4 Q) :
    Calls Try.prog 7 #[v2, Value.agg ((encA (encI .i16)) a3).toArray, Value.int .i64 a4] w0 fun e w => ∃ v, e = .returned v ∧ ∃ r, Q r ∧ impl_TopsAfter.post w0 r v w := by
  unfold impl_TopsAfter.f at H
  have hs : St w0 [] w0 := St.refl w0
  refine calls_of_g (n := 35) Try.func7 rfl rfl ?_
  show G _ _ _ _ [_,_,_,_,_,_,_,_,_,_,_,_,_,_,_,_,_,_,_,_,_,_,_,_,_,_,_,_,_,_,_,_,_,_,_,_,_,_] _
  refine g_seq (g_rg [0, 1, 2] rfl ?_)
  refine s_box hs rfl rfl (cs := ((encA (encI .i16)) a3)) rfl rfl ?_
  intro b5 w hs
  refine g_op (v := Value.slice none 0 0) rfl rfl rfl ?_
  refine g_op (v := Value.int .i64 0) rfl rfl rfl ?_
  show G _ _ _ _ [_,_,_,_,_,_,_,_,_,_,_,_,_,_,_,_,_,_,_,_,_,_,_,_,_,_,_,_,_,_,_,_,_,_,_,_,_,_] _
  refine g_ops_nil (g_seq (g_seq (g_rg [0, 1, 2, 3, 4] rfl ?_)))
  refine g_op (v := v2) rfl rfl rfl ?_
  refine s_loadA rfl rfl (es := ((encA (encI .i16)) a3)) rfl rfl (fun _ => rfl) (n := 4) (fun _ => rfl) ((fkA (n := 4) (he := (fkI .i16).len) (h1 := (fkI .i16).one)).len _) (cells_all (hs.cells 0 rfl)) ?_
  refine g_op (v := Value.int .i64 a4) rfl rfl rfl ?_
  obtain ⟨r7, Hr7, H⟩ := H
  refine s_call (args := [v2, Value.agg ((encA (encI .i16)) a3).toArray, Value.int .i64 a4]) rfl rfl (x_call rfl (callFunc_enter Try.func17 rfl rfl) rfl) (impl_timeCode.calls (a1 := a1) (a3 := a3) (a4 := a4) (hs.rd hr0) Hr7) ?_
  rintro _ w ⟨rfl, hs2⟩
  have hs : St _ [_] _ := hs.call hs2
  refine g_op (v := Value.int .i64 r7) rfl rfl rfl ?_
  show G _ _ _ _ [_,_,_,_,_,_,_,_,_,_,_,_,_,_,_,_,_,_,_,_,_,_,_,_,_,_,_,_,_,_,_,_,_,_,_,_,_,_] _
  refine g_ops_nil (g_seq (g_rg [0, 1] rfl ?_))
  refine g_op (v := Value.int .i64 r7) rfl rfl rfl ?_
  refine g_op_b (B := r7 != 0) rfl rfl rfl ?_ ?_
  ·
   intro hb
   rw [if_neg (b_bne_t hb)] at H
   show G _ _ _ _ [_,_,_,_,_,_,_,_,_,_,_,_,_,_,_,_,_,_,_,_,_,_,_,_,_,_,_,_,_,_,_,_,_,_,_,_,_,_] _
   refine g_ops_nil (g_cond_true rfl (g_seq (g_rg [0, 1, 2] rfl ?_)))
   refine g_op (v := Value.int .i64 r7) rfl rfl rfl ?_
   refine g_op (v := Value.slice none 0 0) rfl rfl rfl ?_
   refine g_op (v := Value.int .i64 r7) rfl rfl rfl (g_ops_nil ?_)
   refine g_ret Try.func7 (v := Value.tuple #[Value.slice none 0 0, Value.int .i64 r7]) (resN (l := Try.f7.results.toList) (vs := [Value.slice none 0 0, Value.int .i64 r7]) rfl ⟨rfl, rfl, trivial⟩ (by simp)) ?_
   have hs := hs.nil 30 (K.ar 4 1 (encI .i16) (fkI .i16).len (fkI .i16).one)
   have hs := hs.pull 0 rfl
   have hs : St _ [_] _ := St.take (Γ' := [_]) hs
   exact ⟨_, rfl, _, H, (Value.slice none 0 0), rfl, hs⟩
  intro hb
  rw [if_pos (b_bne_f hb)] at H
  refine g_ops_nil (g_cond_false rfl (g_skip (g_seq (g_rg [0, 1] rfl ?_))))
  refine s_lit0 (κ := (K.ar 4 1 (encI .i16) (fkI .i16).len (fkI .i16).one)) hs rfl rfl rfl rfl (fun _ => rfl) ?_
  intro v8 w hs
  refine g_op (v := v8) rfl rfl rfl ?_
  show G _ _ _ _ [_,_,_,_,_,_,_,_,_,_,_,_,_,_,_,_,_,_,_,_,_,_,_,_,_,_,_,_,_,_,_,_,_,_,_,_,_,_] _
  refine g_ops_nil (g_seq (g_seq (g_rg [0, 1, 2, 3, 4, 5, 6, 7] rfl ?_)))
  refine g_op (v := v2) rfl rfl rfl ?_
  refine s_loadA rfl rfl (es := ((encA (encI .i16)) a3)) rfl rfl (fun _ => rfl) (n := 4) (fun _ => rfl) ((fkA (n := 4) (he := (fkI .i16).len) (h1 := (fkI .i16).one)).len _) (cells_all (hs.cells 1 rfl)) ?_
  refine g_op (v := Value.int .i64 a4) rfl rfl rfl ?_
  refine s_call (args := [v2, Value.agg ((encA (encI .i16)) a3).toArray, Value.int .i64 a4]) rfl rfl (x_call rfl (callFunc_enter Try.func18 rfl rfl) rfl) (_impl_Glasses_turns.calls (a1 := a1) (a3 := a3) (a4 := a4) (hs.rd hr0) H) ?_
  rintro v11 w ⟨r10, H, _, mm12, rfl, hs2⟩
  try dsimp only at H
  have hs : St _ [_,_,_] _ := hs.call hs2
  refine g_op (v := Value.int .i64 a4) rfl rfl rfl ?_
  obtain ⟨g1, H⟩ := ite_getD H
  refine s_idx fkHM none (hs.r2row 0 rfl) rfl (fun _ => rfl) g1.1 (hs.r2lt 0 rfl g1.2) rfl rfl rfl rfl rfl ?_
  intro p14 hp14 lp14 op14
  show G _ _ _ _ [_,_,_,_,_,_,_,_,_,_,_,_,_,_,_,_,_,_,_,_,_,_,_,_,_,_,_,_,_,_,_,_,_,_,_,_,_,_] _
  refine s_load1 rfl rfl (v := Value.map (rdL mm12 a4 none)) rfl rfl (fun _ => rfl) hp14 ?_
  obtain ⟨g2, H⟩ := ite_getD H
  obtain ⟨b15, eb15⟩ := hs.r2some 0 rfl g1.1 g1.2 g2
  refine s_rangeO g1.1 g1.2 eb15 (some_getD g2) hs rfl rfl rfl Try.underlying43 rfl ?_
  intro b16 w hs
  refine g_ops_nil ?_
  have Ho := H
  refine g_block_join (J := fun t w => ∃ v41 : Value, ∃ x42 : (List (Ar Int 4)), impl_TopsAfter.a0 N x42 Q ∧ Fr t (fun O => ([O 0, O 1, O 2, O 3, O 4, O 5, O 6, O 7, O 8, v41, O 10, O 11, O 12, O 13, O 14, O 15, O 16, O 17, O 18, O 19, O 20, O 21, O 22, O 23, O 24, O 25, O 26, O 27, O 28, O 29, O 30, O 31, O 32, O 33, O 34, O 35, O 36, O 37] : List Value)) ∧ St w0 [Row 30 (K.ar 4 1 (encI .i16) (fkI .i16).len (fkI .i16).one) v41 x42] w) ?_ ?_
  ·
   rintro t w ⟨v41, x42, H, hf, hs⟩
   obtain ⟨O, rfl⟩ := hf.open
   show G _ _ _ _ [_,_,_,_,_,_,_,_,_,_,_,_,_,_,_,_,_,_,_,_,_,_,_,_,_,_,_,_,_,_,_,_,_,_,_,_,_,_] _
   unfold impl_TopsAfter.a0 at H
   refine g_seq (g_rg [0, 1] rfl ?_)
   refine g_op (v := v41) rfl rfl rfl ?_
   obtain ⟨r44, Hr44, H⟩ := H
   have hs := hs.pull 0 rfl
   have hs : St _ [_] _ := hs
   have hs := hs.pack 1
   refine s_call (args := [v41, Value.func (Fn.func 20) #[] #[]]) rfl rfl (x_call rfl (callFunc_enter Try.func19 rfl rfl) rfl) (slices_SortFunc_impl_Tops_impl_Tops.calls (a1 := x42) hs Hr44) ?_
   rintro _ w ⟨rfl, hs⟩
   have hs := St.unpack (Γ := [_]) hs
   have hs : St _ [_] _ := hs
   refine g_ops_nil (g_seq (g_rg [0, 1, 2] rfl ?_))
   refine g_op (v := v41) rfl rfl rfl ?_
   refine g_op (v := v41) rfl rfl rfl ?_
   show G _ _ _ _ [_,_,_,_,_,_,_,_,_,_,_,_,_,_,_,_,_,_,_,_,_,_,_,_,_,_,_,_,_,_,_,_,_,_,_,_,_,_] _
   refine g_op (v := Value.int .i64 0) rfl rfl rfl (g_ops_nil ?_)
   refine g_ret Try.func7 (v := Value.tuple #[v41, Value.int .i64 0]) (resN (l := Try.f7.results.toList) (vs := [v41, Value.int .i64 0]) rfl ⟨rfl, rfl, trivial⟩ (by simp)) ?_
   have hs := hs.pull 0 rfl
   have hs : St _ [_] _ := St.take (Γ' := []) hs
   exact ⟨_, rfl, _, H, v41, rfl, hs⟩
  intro ha1_
  have hs := hs.pull 1 rfl
  have hs := hs.pull 1 rfl
  have hs := hs.pull 2 rfl
  have hs : St _ [_,_,_] _ := St.take (Γ' := [_]) hs
  refine g_loop_fuel (I := fun n_ t w => ∃ v30 : Value, ∃ x31 : (List (Ar Int 4)), ∃ x32 : (List ((Ar Int 4) × Int)), roundsD (fun s => impl_TopsAfter.b0 N r10 a4 s.1 s.2) n_ (x31, x32) (Ex.finD (fun s => impl_TopsAfter.a0 N s Q) Q) ∧ Fr t (fun O => ([O 0, O 1, O 2, O 3, O 4, O 5, O 6, O 7, O 8, v30, O 10, O 11, O 12, O 13, O 14, O 15, O 16, O 17, O 18, O 19, O 20, O 21, O 22, O 23, O 24, O 25, Value.pointer (some ⟨b16, 0, none⟩), O 27, O 28, O 29, O 30, O 31, O 32, O 33, O 34, O 35, O 36, O 37] : List Value)) ∧ St w0 [Row 30 (K.ar 4 1 (encI .i16) (fkI .i16).len (fkI .i16).one) v30 x31, IterAs b16 b15 ((rdL r10 a4 none).getD []) x32 none, Rows2 43 kHM (MapO (ekA (n := 4) .i16) (Value.int .i64)) v11 mm12 r10] w) N ⟨v8, ([] : List (Ar Int 4)), (rdL r10 a4 none).getD [], Ho, rfl, hs⟩ ?_ ?_
  ·
   rintro _ _ ⟨v30, x31, x32, h, _⟩
   exact (h : False).elim
  intro n_ ih1_
  rintro t w ⟨v30, x31, x32, Ho, hf, hs⟩
  obtain ⟨O, rfl⟩ := hf.open
  show G _ _ _ _ [_,_,_,_,_,_,_,_,_,_,_,_,_,_,_,_,_,_,_,_,_,_,_,_,_,_,_,_,_,_,_,_,_,_,_,_,_,_] _
  obtain ⟨x7_, hQ1_, H⟩ := roundsD_succ Ho
  have H : impl_TopsAfter.b0 N r10 a4 x31 x32 x7_ := H
  unfold impl_TopsAfter.b0 at H
  refine g_seq (g_rg [0, 1] rfl ?_)
  obtain ⟨hkv5_, H⟩ := H
  have hs := hs.pull 2 rfl
  have hs : St _ [_,_,_] _ := hs
  have hs := hs.pull 2 rfl
  have hs : St _ [_,_,_] _ := hs
  refine s_nextO g1.1 (rdL_lt g1.1 hkv5_) eb15 hkv5_ hs rfl rfl rfl rfl ?_ ?_
  ·
   intro hl6_ w hs
   have H := H.1 hl6_
   refine g_op (v := Value.bool false) rfl rfl rfl (g_ops_nil (g_seq (g_cond_false rfl ?_)))
   have hs := hs.pull 2 rfl
   have hs : St _ [_] _ := St.take (Γ' := [_,_]) hs
   refine g_exit rfl ?_
   exact ha1_ _ _ ⟨v30, x31, cast (congrFun hQ1_ _) H, rfl, hs⟩
  intro q33 l34 hl6_ w hs
  have H := H.2 q33 l34 hl6_
  dsimp only at H
  show G _ _ _ _ [_,_,_,_,_,_,_,_,_,_,_,_,_,_,_,_,_,_,_,_,_,_,_,_,_,_,_,_,_,_,_,_,_,_,_,_,_,_] _
  refine g_op (v := Value.bool true) rfl rfl rfl (g_ops_nil (g_seq (g_cond_true rfl (g_skip ?_))))
  refine g_block (g_seq (g_rg [0, 1, 2, 3] rfl ?_))
  have hs := hs.pull 1 rfl
  have hs : St _ [_,_,_] _ := hs
  have hs := hs.pull 1 rfl
  have hs : St _ [_,_,_] _ := hs
  refine s_entryO g1.1 (rdL_lt g1.1 hkv5_) eb15 hkv5_ hs rfl rfl rfl rfl ?_
  have hs := hs.iterForget
  have hs : St _ [_,_,_] _ := hs
  refine g_op (v := Value.agg ((encA (encI .i16)) q33.1).toArray) rfl rfl rfl ?_
  refine s_alloc hs rfl rfl (z := (Value.agg #[Value.int .i16 0, Value.int .i16 0, Value.int .i16 0, Value.int .i16 0])) (cs := ((encA (encI .i16)) (Ar.rep 4 0))) rfl (fun _ => rfl) rfl ?_
  intro b35 w hs
  refine s_storeAll (n := 4) hs ((fkA (n := 4) (he := (fkI .i16).len) (h1 := (fkI .i16).one)).len _) rfl rfl (vs := ((encA (encI .i16)) q33.1)) rfl rfl rfl (fun _ => rfl) ((fkA (n := 4) (he := (fkI .i16).len) (h1 := (fkI .i16).one)).len _) ((fkA (n := 4) (he := (fkI .i16).len) (h1 := (fkI .i16).one)).one _) ?_
  intro w hs
  refine g_ops_nil (g_rg [0, 1, 2, 3, 4] rfl ?_)
  refine g_op (v := v30) rfl rfl rfl ?_
  refine s_loadA rfl rfl (es := ((encA (encI .i16)) q33.1)) rfl rfl (fun _ => rfl) (n := 4) (fun _ => rfl) ((fkA (n := 4) (he := (fkI .i16).len) (h1 := (fkI .i16).one)).len _) (cells_all (hs.cells 0 rfl)) ?_
  show G _ _ _ _ [_,_,_,_,_,_,_,_,_,_,_,_,_,_,_,_,_,_,_,_,_,_,_,_,_,_,_,_,_,_,_,_,_,_,_,_,_,_] _
  refine s_lit1 (fkA (n := 4) (he := (fkI .i16).len) (h1 := (fkI .i16).one)) (y := q33.1) hs rfl rfl rfl rfl (fun _ => rfl) (zv := (Value.agg #[Value.int .i16 0, Value.int .i16 0, Value.int .i16 0, Value.int .i16 0])) (fun _ => rfl) rfl (by decide) (by decide) rfl ?_
  intro v37 w hs
  have hs := hs.pull 4 rfl
  have hs : St _ [_,_,_,_,_] _ := hs
  obtain ⟨g, H⟩ := ite_getD H
  refine s_append (fkA (n := 4) (he := (fkI .i16).len) (h1 := (fkI .i16).one)) (zv := (Value.agg #[Value.int .i16 0, Value.int .i16 0, Value.int .i16 0, Value.int .i16 0])) (B := 8) hs (hs.row 1 rfl) rfl rfl rfl rfl rfl rfl rfl rfl rfl (by decide) rfl rfl (by decide) (by omega) ?_
  intro v39 w hs
  refine g_op (v := v39) rfl rfl rfl ?_
  show G _ _ _ _ [_,_,_,_,_,_,_,_,_,_,_,_,_,_,_,_,_,_,_,_,_,_,_,_,_,_,_,_,_,_,_,_,_,_,_,_,_,_] _
  refine g_ops_nil ?_
  refine g_inBlock ?_
  have hs := hs.pull 4 rfl
  have hs := hs.pull 4 rfl
  have hs := hs.pull 2 rfl
  have hs : St _ [_,_,_] _ := St.take (Γ' := [_,_]) hs
  exact ih1_ _ _ ⟨v39, x31 ++ ([q33.1]), l34, cast (congrFun hQ1_ _) H, rfl, hs⟩

end Go.Proofs.YtmnaclghakalmaaX
