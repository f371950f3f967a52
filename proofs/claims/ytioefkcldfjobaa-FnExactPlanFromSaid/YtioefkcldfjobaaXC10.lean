/- Contracts, printed by gen.py. -/
import Derived.Test.YtioefkcldfjobaaXT
import Derived.Test.YtioefkcldfjobaaProg
import Derived.Test.YtioefkcldfjobaaXRowR
import Derived.Test.YtioefkcldfjobaaXSeg
import Derived.Test.YtioefkcldfjobaaXKey
import Derived.Test.YtioefkcldfjobaaXIter
import Derived.Test.YtioefkcldfjobaaXRow2
import Derived.Test.YtioefkcldfjobaaXC6
import Derived.Test.YtioefkcldfjobaaXC8
namespace Go.Proofs.YtioefkcldfjobaaX
open Go Go.RowKit Go.Proofs
set_option linter.unusedVariables false
set_option linter.unusedSimpArgs false
/- function 40 _impl_Glasses_times -/
def _impl_Glasses_times.post (w0 : World) (r : (List Int)) (v : Value) (w : World) : Prop := St w0 [Row 2 (K.int .i64) v r] w
set_option maxHeartbeats 8000000 in
set_option maxRecDepth 100000 in
theorem _impl_Glasses_times.calls {N : Nat} {a1 : (List Int)} {a3 : (Ar Int 4)} {a4 : Int} {a5 : Bool} {v2 : Value} {w0 : World} {Q : (List Int) → Prop} (hr0 : RdRow (K.int .i16) w0 v2 a1) (H : _impl_Glasses_times.f N a1 a3 a4 a5 Q) :
    Calls Try.prog 40 #[v2, Value.agg ((encA (encI .i16)) a3).toArray, Value.int .i64 a4, Value.bool a5] w0 fun e w => ∃ v, e = .returned v ∧ ∃ r, Q r ∧ _impl_Glasses_times.post w0 r v w := by
  unfold _impl_Glasses_times.f at H
  have hs : St w0 [] w0 := St.refl w0
  refine calls_of_g (n := 30) Try.func40 rfl rfl ?_
  show G _ _ _ _ [_,_,_,_,_,_,_,_,_,_,_,_,_,_,_,_,_,_,_,_,_,_,_,_,_,_,_,_,_,_,_,_,_,_] _
  refine g_seq ?_
  refine g_region ?_
  show G _ _ _ (.inRegion _ [0, 1] :: _) _ _
  refine s_box hs rfl rfl (cs := ((encA (encI .i16)) a3)) rfl rfl ?_
  intro b6 w hs
  show G _ _ _ _ [_,_,_,_,_,_,_,_,_,_,_,_,_,_,_,_,_,_,_,_,_,_,_,_,_,_,_,_,_,_,_,_,_,_] _
  refine g_op (v := Value.slice none 0 0) rfl rfl rfl ?_
  show G _ _ _ _ [_,_,_,_,_,_,_,_,_,_,_,_,_,_,_,_,_,_,_,_,_,_,_,_,_,_,_,_,_,_,_,_,_,_] _
  refine g_ops_nil ?_
  refine g_seq ?_
  refine g_region ?_
  show G _ _ _ (.inRegion _ [0, 1] :: _) _ _
  refine s_lit0 (κ := (K.int .i64)) hs rfl rfl rfl rfl (fun _ => rfl) ?_
  intro v8 w hs
  show G _ _ _ _ [_,_,_,_,_,_,_,_,_,_,_,_,_,_,_,_,_,_,_,_,_,_,_,_,_,_,_,_,_,_,_,_,_,_] _
  refine g_op (v := v8) rfl rfl rfl ?_
  show G _ _ _ _ [_,_,_,_,_,_,_,_,_,_,_,_,_,_,_,_,_,_,_,_,_,_,_,_,_,_,_,_,_,_,_,_,_,_] _
  refine g_ops_nil ?_
  refine g_seq ?_
  refine g_seq ?_
  refine g_region ?_
  show G _ _ _ (.inRegion _ [0, 1, 2, 3, 4, 5] :: _) _ _
  refine g_op (v := v2) rfl rfl rfl ?_
  refine s_loadA rfl rfl (es := ((encA (encI .i16)) a3)) rfl rfl (fun _ => rfl) (n := 4) (fun _ => rfl) ((fkA (n := 4) (he := (fkI .i16).len) (h1 := (fkI .i16).one)).len _) (cells_all (hs.cells 1 rfl)) ?_
  show G _ _ _ _ [_,_,_,_,_,_,_,_,_,_,_,_,_,_,_,_,_,_,_,_,_,_,_,_,_,_,_,_,_,_,_,_,_,_] _
  refine g_op (v := Value.int .i64 a4) rfl rfl rfl ?_
  refine s_call (args := [v2, Value.agg ((encA (encI .i16)) a3).toArray, Value.int .i64 a4]) rfl rfl (x_call rfl (callFunc_enter Try.func38 rfl rfl) rfl) (_impl_Glasses_turns.calls (a1 := a1) (a3 := a3) (a4 := a4) (hs.rd hr0) H) ?_
  rintro v11 w ⟨r10, H, _, mm12, rfl, hs2⟩
  try dsimp only at H
  have hs : St _ [_,_,_] _ := hs.call hs2
  show G _ _ _ _ [_,_,_,_,_,_,_,_,_,_,_,_,_,_,_,_,_,_,_,_,_,_,_,_,_,_,_,_,_,_,_,_,_,_] _
  refine s_len2 hs 0 rfl rfl rfl rfl rfl rfl ?_
  show G _ _ _ _ [_,_,_,_,_,_,_,_,_,_,_,_,_,_,_,_,_,_,_,_,_,_,_,_,_,_,_,_,_,_,_,_,_,_] _
  refine g_op (v := Value.int .i64 0) rfl rfl rfl ?_
  refine g_ops_nil ?_
  have Ho := H
  refine g_block_join (J := fun t w => ∃ v26 : Value, ∃ x27 : (List Int), _impl_Glasses_times.a0 N x27 Q ∧ Fr t (fun O => ([O 0, O 1, O 2, O 3, O 4, O 5, O 6, O 7, O 8, v26, O 10, O 11, O 12, O 13, O 14, O 15, O 16, O 17, O 18, O 19, O 20, O 21, O 22, O 23, O 24, O 25, O 26, O 27, O 28, O 29, O 30, O 31, O 32, O 33] : List Value)) ∧ St w0 [Row 2 (K.int .i64) v26 x27] w) ?_ ?_
  ·
   rintro t w ⟨v26, x27, H, hf, hs⟩
   obtain ⟨O, rfl⟩ := hf.open
   show G _ _ _ _ [_,_,_,_,_,_,_,_,_,_,_,_,_,_,_,_,_,_,_,_,_,_,_,_,_,_,_,_,_,_,_,_,_,_] _
   unfold _impl_Glasses_times.a0 at H
   refine g_seq ?_
   refine g_region ?_
   show G _ _ _ (.inRegion _ [0, 1] :: _) _ _
   refine g_op (v := v26) rfl rfl rfl ?_
   refine g_op (v := v26) rfl rfl rfl ?_
   show G _ _ _ _ [_,_,_,_,_,_,_,_,_,_,_,_,_,_,_,_,_,_,_,_,_,_,_,_,_,_,_,_,_,_,_,_,_,_] _
   refine g_ops_nil ?_
   refine g_ret Try.func40 (v := v26) (res1 rfl rfl) ?_
   have hs := hs.pull 0 rfl
   have hs : St _ [_] _ := St.take (Γ' := []) hs
   exact ⟨_, rfl, _, H, hs⟩
  ·
   intro ha1_
   have hs := hs.pull 0 rfl
   have hs := hs.pull 1 rfl
   have hs : St _ [_,_] _ := St.take (Γ' := [_]) hs
   refine g_loop_fuel (I := fun n_ t w => ∃ v15 : Value, ∃ x16 : (List Int), ∃ x17 : Int, roundsD (fun s => _impl_Glasses_times.b0 N r10 a5 s.1 s.2) n_ (x16, x17) (Ex.finD (fun s => _impl_Glasses_times.a0 N s Q) Q) ∧ Fr t (fun O => ([O 0, O 1, O 2, Value.bool a5, O 4, O 5, O 6, O 7, O 8, v15, O 10, O 11, O 12, O 13, O 14, O 15, v11, Value.int .i64 (r10.length : Int), Value.int .i64 x17, O 19, O 20, O 21, O 22, O 23, O 24, O 25, O 26, O 27, O 28, O 29, O 30, O 31, O 32, O 33] : List Value)) ∧ St w0 [Row 2 (K.int .i64) v15 x16, Rows2 55 kHM (MapO (ekA (n := 4) .i16) (Value.int .i64)) v11 mm12 r10] w) N ⟨v8, ([] : List Int), 0, Ho, rfl, hs⟩ ?_ ?_
   ·
    rintro _ _ ⟨v15, x16, x17, h, _⟩
    exact (h : False).elim
   ·
    intro n_ ih1_
    rintro t w ⟨v15, x16, x17, Ho, hf, hs⟩
    obtain ⟨O, rfl⟩ := hf.open
    show G _ _ _ _ [_,_,_,_,_,_,_,_,_,_,_,_,_,_,_,_,_,_,_,_,_,_,_,_,_,_,_,_,_,_,_,_,_,_] _
    obtain ⟨x2_, hQ1_, H⟩ := roundsD_succ Ho
    have H : _impl_Glasses_times.b0 N r10 a5 x16 x17 x2_ := H
    unfold _impl_Glasses_times.b0 at H
    refine g_seq ?_
    refine g_region ?_
    show G _ _ _ (.inRegion _ [0] :: _) _ _
    refine g_op_b (B := decide (x17 < (r10.length : Int))) rfl rfl rfl ?_ ?_
    ·
     intro hb
     rw [if_pos (b_dec_t hb)] at H
     show G _ _ _ _ [_,_,_,_,_,_,_,_,_,_,_,_,_,_,_,_,_,_,_,_,_,_,_,_,_,_,_,_,_,_,_,_,_,_] _
     refine g_ops_nil ?_
     refine g_seq ?_
     refine g_cond_true rfl ?_
     refine g_skip ?_
     refine g_seq ?_
     refine g_block_join (J := (fun t w => ∃ v23 : Value, ∃ x24 : (List Int), _impl_Glasses_times.j2 N x17 x24 x2_ ∧ Fr t (fun O => ([O 0, O 1, O 2, Value.bool a5, O 4, O 5, O 6, O 7, O 8, v23, O 10, O 11, O 12, O 13, O 14, O 15, v11, Value.int .i64 (r10.length : Int), Value.int .i64 x17, O 19, O 20, O 21, O 22, O 23, O 24, O 25, O 26, O 27, O 28, O 29, O 30, O 31, O 32, O 33] : List Value)) ∧ St w0 [Row 2 (K.int .i64) v23 x24, Rows2 55 kHM (MapO (ekA (n := 4) .i16) (Value.int .i64)) v11 mm12 r10] w)) ?_ ?_
     ·
      rintro t w ⟨v23, x24, H, hf, hs⟩
      obtain ⟨O, rfl⟩ := hf.open
      show G _ _ _ _ [_,_,_,_,_,_,_,_,_,_,_,_,_,_,_,_,_,_,_,_,_,_,_,_,_,_,_,_,_,_,_,_,_,_] _
      unfold _impl_Glasses_times.j2 at H
      refine g_region ?_
      show G _ _ _ (.inRegion _ [0, 1] :: _) _ _
      refine g_op (v := Value.int .i64 (i64w (x17 + 1))) rfl rfl rfl ?_
      show G _ _ _ _ [_,_,_,_,_,_,_,_,_,_,_,_,_,_,_,_,_,_,_,_,_,_,_,_,_,_,_,_,_,_,_,_,_,_] _
      refine g_op (v := Value.int .i64 (i64w (x17 + 1))) rfl rfl rfl ?_
      refine g_ops_nil ?_
      have hs := hs.pull 1 rfl
      have hs := hs.pull 1 rfl
      have hs : St _ [_,_] _ := St.take (Γ' := []) hs
      exact ih1_ _ _ ⟨v23, x24, i64w (x17 + 1), cast (congrFun hQ1_ _) H, rfl, hs⟩
     ·
      intro ha
      refine g_seq ?_
      refine g_region ?_
      show G _ _ _ (.inRegion _ [0, 1, 2, 3, 4] :: _) _ _
      refine g_op (v := Value.int .i64 x17) rfl rfl rfl ?_
      obtain ⟨g1, H⟩ := ite_getD H
      refine s_idx fkHM none (hs.r2row 1 rfl) rfl (fun _ => rfl) g1.1 (hs.r2lt 1 rfl g1.2) rfl rfl rfl rfl rfl ?_
      intro p18 hp18 lp18 op18
      show G _ _ _ _ [_,_,_,_,_,_,_,_,_,_,_,_,_,_,_,_,_,_,_,_,_,_,_,_,_,_,_,_,_,_,_,_,_,_] _
      refine s_load1 rfl rfl (v := Value.map (rdL mm12 x17 none)) rfl rfl (fun _ => rfl) hp18 ?_
      show G _ _ _ _ [_,_,_,_,_,_,_,_,_,_,_,_,_,_,_,_,_,_,_,_,_,_,_,_,_,_,_,_,_,_,_,_,_,_] _
      refine g_op (v := Value.int .i64 x17) rfl rfl rfl ?_
      show G _ _ _ _ [_,_,_,_,_,_,_,_,_,_,_,_,_,_,_,_,_,_,_,_,_,_,_,_,_,_,_,_,_,_,_,_,_,_] _
      refine g_op (v := Value.map (rdL mm12 x17 none)) rfl rfl rfl ?_
      show G _ _ _ _ [_,_,_,_,_,_,_,_,_,_,_,_,_,_,_,_,_,_,_,_,_,_,_,_,_,_,_,_,_,_,_,_,_,_] _
      refine g_ops_nil ?_
      refine g_seq ?_
      refine g_region ?_
      show G _ _ _ (.inRegion _ [0, 1, 2, 3, 4] :: _) _ _
      refine g_op (v := Value.map (rdL mm12 x17 none)) rfl rfl rfl ?_
      refine g_op (v := Value.int .i64 (((rdL r10 x17 none).getD []).length : Int)) rfl rfl (x_lenM (q := rdL mm12 x17 none) (kv := rdL r10 x17 none) (hs.r2mp 1 rfl g1.1 g1.2) rfl Try.underlying55 rfl) ?_
      show G _ _ _ _ [_,_,_,_,_,_,_,_,_,_,_,_,_,_,_,_,_,_,_,_,_,_,_,_,_,_,_,_,_,_,_,_,_,_] _
      refine g_op (v := Value.bool (decide ((((rdL r10 x17 none).getD []).length : Int) > 0))) rfl rfl rfl ?_
      show G _ _ _ _ [_,_,_,_,_,_,_,_,_,_,_,_,_,_,_,_,_,_,_,_,_,_,_,_,_,_,_,_,_,_,_,_,_,_] _
      refine g_op (v := Value.bool a5) rfl rfl rfl ?_
      refine g_op_b (B := (decide ((((rdL r10 x17 none).getD []).length : Int) > 0)) == a5) rfl rfl rfl ?_ ?_
      ·
       intro hb
       rw [if_pos (b_beq_t hb)] at H
       show G _ _ _ _ [_,_,_,_,_,_,_,_,_,_,_,_,_,_,_,_,_,_,_,_,_,_,_,_,_,_,_,_,_,_,_,_,_,_] _
       refine g_ops_nil ?_
       refine g_cond_true rfl ?_
       refine g_region ?_
       show G _ _ _ (.inRegion _ [0, 1, 2, 3, 4] :: _) _ _
       refine g_op (v := v15) rfl rfl rfl ?_
       refine g_op (v := Value.int .i64 x17) rfl rfl rfl ?_
       refine s_lit1 (fkI .i64) (y := x17) hs rfl rfl rfl rfl (fun _ => rfl) (zv := (Value.int .i64 0)) (fun _ => rfl) rfl (by decide) (by decide) rfl ?_
       intro v19 w hs
       show G _ _ _ _ [_,_,_,_,_,_,_,_,_,_,_,_,_,_,_,_,_,_,_,_,_,_,_,_,_,_,_,_,_,_,_,_,_,_] _
       have hs := hs.pull 1 rfl
       have hs : St _ [_,_,_] _ := hs
       obtain ⟨g, H⟩ := ite_getD H
       refine s_append (fkI .i64) (zv := (Value.int .i64 0)) (B := 8) hs (hs.row 1 rfl) rfl rfl rfl rfl rfl rfl rfl rfl rfl (by decide) rfl rfl (by decide) (by omega) ?_
       intro v21 w hs
       show G _ _ _ _ [_,_,_,_,_,_,_,_,_,_,_,_,_,_,_,_,_,_,_,_,_,_,_,_,_,_,_,_,_,_,_,_,_,_] _
       refine g_op (v := v21) rfl rfl rfl ?_
       show G _ _ _ _ [_,_,_,_,_,_,_,_,_,_,_,_,_,_,_,_,_,_,_,_,_,_,_,_,_,_,_,_,_,_,_,_,_,_] _
       refine g_ops_nil ?_
       refine g_inBlock ?_
       have hs := hs.pull 2 rfl
       have hs := hs.pull 1 rfl
       have hs : St _ [_,_] _ := St.take (Γ' := [_]) hs
       exact ha _ _ ⟨v21, x16 ++ ([x17]), H, rfl, hs⟩
      ·
       intro hb
       rw [if_neg (b_beq_f hb)] at H
       show G _ _ _ _ [_,_,_,_,_,_,_,_,_,_,_,_,_,_,_,_,_,_,_,_,_,_,_,_,_,_,_,_,_,_,_,_,_,_] _
       refine g_ops_nil ?_
       refine g_cond_false rfl ?_
       refine g_skip ?_
       refine g_inBlock ?_
       have hs := hs.pull 1 rfl
       have hs := hs.pull 1 rfl
       have hs : St _ [_,_] _ := St.take (Γ' := []) hs
       exact ha _ _ ⟨v15, x16, H, rfl, hs⟩
    ·
     intro hb
     rw [if_neg (b_dec_f hb)] at H
     show G _ _ _ _ [_,_,_,_,_,_,_,_,_,_,_,_,_,_,_,_,_,_,_,_,_,_,_,_,_,_,_,_,_,_,_,_,_,_] _
     refine g_ops_nil ?_
     refine g_seq ?_
     refine g_cond_false rfl ?_
     have hs := hs.pull 0 rfl
     have hs : St _ [_] _ := St.take (Γ' := [_]) hs
     refine g_exit rfl ?_
     exact ha1_ _ _ ⟨v15, x16, cast (congrFun hQ1_ _) H, rfl, hs⟩

/- function 15 impl_TimesFrom -/
def impl_TimesFrom.post (w0 : World) (r : ((List Int) × Int)) (v : Value) (w : World) : Prop := ∃ u1 : Value, v = Value.tuple #[u1, Value.int .i64 r.2] ∧ St w0 [Row 2 (K.int .i64) u1 r.1] w
set_option maxHeartbeats 8000000 in
set_option maxRecDepth 100000 in
theorem impl_TimesFrom.calls {N : Nat} {a1 : (List Int)} {a3 : (Ar Int 4)} {a4 : Int} {v2 : Value} {w0 : World} {Q : ((List Int) × Int) → Prop} (hr0 : RdRow (K.int .i16) w0 v2 a1) (H : impl_TimesFrom.f N a1 a3 a4 Q) :
    Calls Try.prog 15 #[v2, Value.agg ((encA (encI .i16)) a3).toArray, Value.int .i64 a4] w0 fun e w => ∃ v, e = .returned v ∧ ∃ r, Q r ∧ impl_TimesFrom.post w0 r v w := by
  unfold impl_TimesFrom.f at H
  have hs : St w0 [] w0 := St.refl w0
  refine calls_of_g (n := 17) Try.func15 rfl rfl ?_
  show G _ _ _ _ [_,_,_,_,_,_,_,_,_,_,_,_,_,_,_,_,_,_,_,_] _
  refine g_seq ?_
  refine g_region ?_
  show G _ _ _ (.inRegion _ [0, 1, 2] :: _) _ _
  refine s_box hs rfl rfl (cs := ((encA (encI .i16)) a3)) rfl rfl ?_
  intro b5 w hs
  show G _ _ _ _ [_,_,_,_,_,_,_,_,_,_,_,_,_,_,_,_,_,_,_,_] _
  refine g_op (v := Value.slice none 0 0) rfl rfl rfl ?_
  show G _ _ _ _ [_,_,_,_,_,_,_,_,_,_,_,_,_,_,_,_,_,_,_,_] _
  refine g_op (v := Value.int .i64 0) rfl rfl rfl ?_
  show G _ _ _ _ [_,_,_,_,_,_,_,_,_,_,_,_,_,_,_,_,_,_,_,_] _
  refine g_ops_nil ?_
  refine g_seq ?_
  refine g_seq ?_
  refine g_region ?_
  show G _ _ _ (.inRegion _ [0, 1, 2, 3, 4] :: _) _ _
  refine g_op (v := v2) rfl rfl rfl ?_
  show G _ _ _ _ [_,_,_,_,_,_,_,_,_,_,_,_,_,_,_,_,_,_,_,_] _
  refine s_loadA rfl rfl (es := ((encA (encI .i16)) a3)) rfl rfl (fun _ => rfl) (n := 4) (fun _ => rfl) ((fkA (n := 4) (he := (fkI .i16).len) (h1 := (fkI .i16).one)).len _) (cells_all (hs.cells 0 rfl)) ?_
  show G _ _ _ _ [_,_,_,_,_,_,_,_,_,_,_,_,_,_,_,_,_,_,_,_] _
  refine g_op (v := Value.int .i64 a4) rfl rfl rfl ?_
  show G _ _ _ _ [_,_,_,_,_,_,_,_,_,_,_,_,_,_,_,_,_,_,_,_] _
  obtain ⟨r7, Hr7, H⟩ := H
  refine s_call (args := [v2, Value.agg ((encA (encI .i16)) a3).toArray, Value.int .i64 a4]) rfl rfl (x_call rfl (callFunc_enter Try.func37 rfl rfl) rfl) (impl_timeCode.calls (a1 := a1) (a3 := a3) (a4 := a4) (hs.rd hr0) Hr7) ?_
  rintro _ w ⟨rfl, hs2⟩
  have hs : St _ [_] _ := hs.call hs2
  show G _ _ _ _ [_,_,_,_,_,_,_,_,_,_,_,_,_,_,_,_,_,_,_,_] _
  refine g_op (v := Value.int .i64 r7) rfl rfl rfl ?_
  show G _ _ _ _ [_,_,_,_,_,_,_,_,_,_,_,_,_,_,_,_,_,_,_,_] _
  refine g_ops_nil ?_
  refine g_seq ?_
  refine g_region ?_
  show G _ _ _ (.inRegion _ [0, 1] :: _) _ _
  refine g_op (v := Value.int .i64 r7) rfl rfl rfl ?_
  show G _ _ _ _ [_,_,_,_,_,_,_,_,_,_,_,_,_,_,_,_,_,_,_,_] _
  refine g_op_b (B := r7 != 0) rfl rfl rfl ?_ ?_
  ·
   intro hb
   rw [if_neg (b_bne_t hb)] at H
   show G _ _ _ _ [_,_,_,_,_,_,_,_,_,_,_,_,_,_,_,_,_,_,_,_] _
   refine g_ops_nil ?_
   refine g_cond_true rfl ?_
   refine g_seq ?_
   refine g_region ?_
   show G _ _ _ (.inRegion _ [0, 1, 2] :: _) _ _
   refine g_op (v := Value.int .i64 r7) rfl rfl rfl ?_
   show G _ _ _ _ [_,_,_,_,_,_,_,_,_,_,_,_,_,_,_,_,_,_,_,_] _
   refine g_op (v := Value.slice none 0 0) rfl rfl rfl ?_
   show G _ _ _ _ [_,_,_,_,_,_,_,_,_,_,_,_,_,_,_,_,_,_,_,_] _
   refine g_op (v := Value.int .i64 r7) rfl rfl rfl ?_
   show G _ _ _ _ [_,_,_,_,_,_,_,_,_,_,_,_,_,_,_,_,_,_,_,_] _
   refine g_ops_nil ?_
   refine g_ret Try.func15 (v := Value.tuple #[Value.slice none 0 0, Value.int .i64 r7]) (resN (l := Try.f15.results.toList) (vs := [Value.slice none 0 0, Value.int .i64 r7]) rfl ⟨rfl, rfl, trivial⟩ (by simp)) ?_
   have hs := hs.nil 2 (K.int .i64)
   have hs := hs.pull 0 rfl
   have hs : St _ [_] _ := St.take (Γ' := [_]) hs
   exact ⟨_, rfl, _, H, (Value.slice none 0 0), rfl, hs⟩
  ·
   intro hb
   rw [if_pos (b_bne_f hb)] at H
   show G _ _ _ _ [_,_,_,_,_,_,_,_,_,_,_,_,_,_,_,_,_,_,_,_] _
   refine g_ops_nil ?_
   refine g_cond_false rfl ?_
   refine g_skip ?_
   refine g_seq ?_
   refine g_region ?_
   show G _ _ _ (.inRegion _ [0, 1, 2, 3, 4, 5] :: _) _ _
   refine g_op (v := v2) rfl rfl rfl ?_
   show G _ _ _ _ [_,_,_,_,_,_,_,_,_,_,_,_,_,_,_,_,_,_,_,_] _
   refine s_loadA rfl rfl (es := ((encA (encI .i16)) a3)) rfl rfl (fun _ => rfl) (n := 4) (fun _ => rfl) ((fkA (n := 4) (he := (fkI .i16).len) (h1 := (fkI .i16).one)).len _) (cells_all (hs.cells 0 rfl)) ?_
   show G _ _ _ _ [_,_,_,_,_,_,_,_,_,_,_,_,_,_,_,_,_,_,_,_] _
   refine g_op (v := Value.int .i64 a4) rfl rfl rfl ?_
   show G _ _ _ _ [_,_,_,_,_,_,_,_,_,_,_,_,_,_,_,_,_,_,_,_] _
   refine s_call (args := [v2, Value.agg ((encA (encI .i16)) a3).toArray, Value.int .i64 a4, Value.bool true]) rfl rfl (x_call rfl (callFunc_enter Try.func40 rfl rfl) rfl) (_impl_Glasses_times.calls (a1 := a1) (a3 := a3) (a4 := a4) (a5 := true) (hs.rd hr0) H) ?_
   rintro v9 w ⟨r8, H, hs2⟩
   try dsimp only at H
   have hs : St _ [_,_] _ := hs.call hs2
   show G _ _ _ _ [_,_,_,_,_,_,_,_,_,_,_,_,_,_,_,_,_,_,_,_] _
   refine g_op (v := v9) rfl rfl rfl ?_
   show G _ _ _ _ [_,_,_,_,_,_,_,_,_,_,_,_,_,_,_,_,_,_,_,_] _
   refine g_op (v := Value.int .i64 0) rfl rfl rfl ?_
   show G _ _ _ _ [_,_,_,_,_,_,_,_,_,_,_,_,_,_,_,_,_,_,_,_] _
   refine g_ops_nil ?_
   refine g_ret Try.func15 (v := Value.tuple #[v9, Value.int .i64 0]) (resN (l := Try.f15.results.toList) (vs := [v9, Value.int .i64 0]) rfl ⟨rfl, rfl, trivial⟩ (by simp)) ?_
   have hs := hs.pull 0 rfl
   have hs : St _ [_] _ := St.take (Γ' := [_]) hs
   exact ⟨_, rfl, _, H, v9, rfl, hs⟩

/- function 16 laws_eqInt64S -/
def laws_eqInt64S.post (w0 : World) (r : Bool) (v : Value) (w : World) : Prop := v = Value.bool r ∧ St w0 [] w
set_option maxHeartbeats 8000000 in
set_option maxRecDepth 100000 in
theorem laws_eqInt64S.calls {N : Nat} {a1 : (List Int)} {a3 : (List Int)} {v2 : Value} {v4 : Value} {w0 : World} {r : Bool} (hr0 : RdRow (K.int .i64) w0 v2 a1) (hr1 : RdRow (K.int .i64) w0 v4 a3) (H : laws_eqInt64S.f N a1 a3 = some r) :
    Calls Try.prog 16 #[v2, v4] w0 fun e w => ∃ v, e = .returned v ∧ laws_eqInt64S.post w0 r v w := by
  unfold laws_eqInt64S.f at H
  have hs : St w0 [] w0 := St.refl w0
  refine calls_of_g (n := 24) Try.func16 rfl rfl ?_
  show G _ _ _ _ [_,_,_,_,_,_,_,_,_,_,_,_,_,_,_,_,_,_,_,_,_,_,_,_,_,_] _
  refine g_seq ?_
  refine g_region ?_
  show G _ _ _ (.inRegion _ [0] :: _) _ _
  refine g_op (v := Value.bool false) rfl rfl rfl ?_
  show G _ _ _ _ [_,_,_,_,_,_,_,_,_,_,_,_,_,_,_,_,_,_,_,_,_,_,_,_,_,_] _
  refine g_ops_nil ?_
  refine g_seq ?_
  refine g_seq ?_
  refine g_region ?_
  show G _ _ _ (.inRegion _ [0, 1, 2, 3, 4] :: _) _ _
  refine g_op (v := v2) rfl rfl rfl ?_
  refine s_len (hs.rd hr0) rfl rfl rfl rfl rfl ?_
  show G _ _ _ _ [_,_,_,_,_,_,_,_,_,_,_,_,_,_,_,_,_,_,_,_,_,_,_,_,_,_] _
  refine g_op (v := v4) rfl rfl rfl ?_
  refine s_len (hs.rd hr1) rfl rfl rfl rfl rfl ?_
  show G _ _ _ _ [_,_,_,_,_,_,_,_,_,_,_,_,_,_,_,_,_,_,_,_,_,_,_,_,_,_] _
  refine g_op_b (B := (a1.length : Int) != (a3.length : Int)) rfl rfl rfl ?_ ?_
  ·
   intro hb
   rw [if_neg (b_bne_t hb)] at H
   show G _ _ _ _ [_,_,_,_,_,_,_,_,_,_,_,_,_,_,_,_,_,_,_,_,_,_,_,_,_,_] _
   refine g_ops_nil ?_
   refine g_cond_true rfl ?_
   refine g_seq ?_
   refine g_region ?_
   show G _ _ _ (.inRegion _ [0] :: _) _ _
   refine g_op (v := Value.bool false) rfl rfl rfl ?_
   show G _ _ _ _ [_,_,_,_,_,_,_,_,_,_,_,_,_,_,_,_,_,_,_,_,_,_,_,_,_,_] _
   refine g_ops_nil ?_
   obtain rfl := Option.some.inj H
   refine g_ret Try.func16 (v := Value.bool false) (res1 rfl rfl) ?_
   have hs : St _ [] _ := St.take (Γ' := []) hs
   exact ⟨_, rfl, rfl, hs⟩
  ·
   intro hb
   rw [if_pos (b_bne_f hb)] at H
   show G _ _ _ _ [_,_,_,_,_,_,_,_,_,_,_,_,_,_,_,_,_,_,_,_,_,_,_,_,_,_] _
   refine g_ops_nil ?_
   refine g_cond_false rfl ?_
   refine g_skip ?_
   refine g_seq ?_
   refine g_seq ?_
   refine g_region ?_
   show G _ _ _ (.inRegion _ [0] :: _) _ _
   refine g_op (v := Value.int .i64 0) rfl rfl rfl ?_
   show G _ _ _ _ [_,_,_,_,_,_,_,_,_,_,_,_,_,_,_,_,_,_,_,_,_,_,_,_,_,_] _
   refine g_ops_nil ?_
   obtain ⟨o1_, Ho, Hr1_⟩ := bind_get H
   refine g_block_join (J := fun t w => laws_eqInt64S.a0 N = some r ∧ Fr t (fun O => ([O 0, O 1, O 2, O 3, O 4, O 5, O 6, O 7, O 8, O 9, O 10, O 11, O 12, O 13, O 14, O 15, O 16, O 17, O 18, O 19, O 20, O 21, O 22, O 23, O 24, O 25] : List Value)) ∧ St w0 [] w) ?_ ?_
   ·
    rintro t w ⟨H, hf, hs⟩
    obtain ⟨O, rfl⟩ := hf.open
    show G _ _ _ _ [_,_,_,_,_,_,_,_,_,_,_,_,_,_,_,_,_,_,_,_,_,_,_,_,_,_] _
    unfold laws_eqInt64S.a0 at H
    refine g_seq ?_
    refine g_region ?_
    show G _ _ _ (.inRegion _ [0] :: _) _ _
    refine g_op (v := Value.bool true) rfl rfl rfl ?_
    show G _ _ _ _ [_,_,_,_,_,_,_,_,_,_,_,_,_,_,_,_,_,_,_,_,_,_,_,_,_,_] _
    refine g_ops_nil ?_
    obtain rfl := Option.some.inj H
    refine g_ret Try.func16 (v := Value.bool true) (res1 rfl rfl) ?_
    have hs : St _ [] _ := St.take (Γ' := []) hs
    exact ⟨_, rfl, rfl, hs⟩
   ·
    intro ha1_
    have hs : St _ [] _ := St.take (Γ' := []) hs
    refine g_loop_fuel (I := fun n_ t w => ∃ x5 : Int, rounds (fun s => laws_eqInt64S.b0 N a1 a3 s) n_ x5 = some o1_ ∧ Fr t (fun O => ([v2, v4, O 2, O 3, O 4, Value.int .i64 x5, O 6, O 7, O 8, O 9, O 10, O 11, O 12, O 13, O 14, O 15, O 16, O 17, O 18, O 19, O 20, O 21, O 22, O 23, O 24, O 25] : List Value)) ∧ St w0 [] w) N ⟨0, Ho, rfl, hs⟩ ?_ ?_
    ·
     rintro _ _ ⟨x5, h, _⟩
     exact rounds_zero h
    ·
     intro n_ ih1_
     rintro t w ⟨x5, Ho, hf, hs⟩
     obtain ⟨O, rfl⟩ := hf.open
     show G _ _ _ _ [_,_,_,_,_,_,_,_,_,_,_,_,_,_,_,_,_,_,_,_,_,_,_,_,_,_] _
     obtain ⟨x7_, H, Hx1_⟩ := rounds_succ Ho
     have H : laws_eqInt64S.b0 N a1 a3 x5 = some x7_ := H
     unfold laws_eqInt64S.b0 at H
     refine g_seq ?_
     refine g_seq ?_
     refine g_region ?_
     show G _ _ _ (.inRegion _ [0, 1, 2, 3] :: _) _ _
     refine g_op (v := Value.int .i64 x5) rfl rfl rfl ?_
     refine g_op (v := v2) rfl rfl rfl ?_
     refine s_len (hs.rd hr0) rfl rfl rfl rfl rfl ?_
     show G _ _ _ _ [_,_,_,_,_,_,_,_,_,_,_,_,_,_,_,_,_,_,_,_,_,_,_,_,_,_] _
     refine g_op_b (B := decide (x5 < (a1.length : Int))) rfl rfl rfl ?_ ?_
     ·
      intro hb
      rw [if_pos (b_dec_t hb)] at H
      show G _ _ _ _ [_,_,_,_,_,_,_,_,_,_,_,_,_,_,_,_,_,_,_,_,_,_,_,_,_,_] _
      refine g_ops_nil ?_
      refine g_cond_true rfl ?_
      refine g_skip ?_
      refine g_seq ?_
      refine g_block ?_
      refine g_seq ?_
      refine g_lay (n := 9) rfl [0, 1, 2, 3, 4, 5, 6, 7, 8] [0, 1, 2, 3, 4, 5, 6, 7, 8] rfl rfl ?_
      intro rest w hh hbw hO
      have hs := hs.samew hh hbw
      show G _ _ _ _ [_,_,_,_,_,_,_,_,_,_,_,_,_,_,_,_,_,_,_,_,_,_,_,_,_,_] _
      obtain ⟨gd2, H⟩ := ite_get H
      obtain ⟨ad3_, ad3_N, ad3_C, had3_⟩ := sl_at (hs.rd hr0) gd2.1 gd2.2
      obtain ⟨gd4, H⟩ := ite_get H
      obtain ⟨ad5_, ad5_N, ad5_C, had5_⟩ := sl_at (hs.rd hr1) gd4.1 gd4.2
      refine g_name ?_
      intro T hT
      refine g_layer (m0 := 0) hO rfl 255 [0, 1, 2, 3, 4, 5, 6, 7] [0, 0, 3, 7, 0, 0, 48, 112, 255] (by decide +kernel) (fun D t w => ∃ O : Nat → Value, t = [v2, v4, O 2, O 3, O 4, Value.int .i64 x5, O 6, O 7, O 8, O 9, O 10, Value.int .i64 x5, v2, Value.int .i64 (a1.length : Int), Value.bool true, O 15, O 16, cnd (D 0) v2 (O 17), cnd (D 1) (Value.int .i64 x5) (O 18), cnd (D 2) (Value.pointer (some (ad3_.add (x5.toNat * 1)))) (O 19), cnd (D 3) (Value.int .i64 (rdL a1 x5 0)) (O 20), cnd (D 4) v4 (O 21), cnd (D 5) (Value.int .i64 x5) (O 22), cnd (D 6) (Value.pointer (some (ad5_.add (x5.toNat * 1)))) (O 23), cnd (D 7) (Value.int .i64 (rdL a3 x5 0)) (O 24), O 25] ∧ St w0 [] w) ?_ ⟨?_, ⟨?_, ⟨?_, ⟨?_, ⟨?_, ⟨?_, ⟨?_, ⟨?_, trivial⟩⟩⟩⟩⟩⟩⟩⟩ ?_
      · exact ⟨fun i => T.getD i undef, (by subst hT; rfl), hs⟩
      ·
       intro D t w hD hp hcl hI rest hk
       obtain ⟨O, ht, hs⟩ := hI
       have hp : AllDone D [] := hp
       have q2_ : D 2 = false := not_yet (show D 2 = true → AllDone D [0, 1] from hcl 2 (by decide)) 0 0 rfl hD
       have q3_ : D 3 = false := not_yet (show D 3 = true → AllDone D [2] from hcl 3 (by decide)) 0 2 rfl q2_
       simp only [hD, q2_, q3_, cnd_t, cnd_f, Asc_t, Asc_f] at ht hs
       subst ht
       refine g_op (v := v2) rfl rfl rfl ?_
       show G _ _ _ _ [_,_,_,_,_,_,_,_,_,_,_,_,_,_,_,_,_,_,_,_,_,_,_,_,_,_] _
       exact hk _ _ ⟨O, (by simp only [upd, Nat.reduceBEq, Bool.true_or, Bool.false_or, q2_, q3_, cnd_t, cnd_f, Asc_t, Asc_f]), hs.cast (by first | rfl | simp only [List.take, List.drop, List.cons_append, List.nil_append, List.set_cons_zero, List.set_cons_succ, List.eraseIdx, upd, Nat.reduceBEq, Bool.true_or, Bool.false_or, q2_, q3_, cnd_t, cnd_f, Asc_t, Asc_f])⟩
      ·
       intro D t w hD hp hcl hI rest hk
       obtain ⟨O, ht, hs⟩ := hI
       have hp : AllDone D [] := hp
       have q2_ : D 2 = false := not_yet (show D 2 = true → AllDone D [0, 1] from hcl 2 (by decide)) 1 1 rfl hD
       have q3_ : D 3 = false := not_yet (show D 3 = true → AllDone D [2] from hcl 3 (by decide)) 0 2 rfl q2_
       simp only [hD, q2_, q3_, cnd_t, cnd_f, Asc_t, Asc_f] at ht hs
       subst ht
       refine g_op (v := Value.int .i64 x5) rfl rfl rfl ?_
       show G _ _ _ _ [_,_,_,_,_,_,_,_,_,_,_,_,_,_,_,_,_,_,_,_,_,_,_,_,_,_] _
       exact hk _ _ ⟨O, (by simp only [upd, Nat.reduceBEq, Bool.true_or, Bool.false_or, q2_, q3_, cnd_t, cnd_f, Asc_t, Asc_f]), hs.cast (by first | rfl | simp only [List.take, List.drop, List.cons_append, List.nil_append, List.set_cons_zero, List.set_cons_succ, List.eraseIdx, upd, Nat.reduceBEq, Bool.true_or, Bool.false_or, q2_, q3_, cnd_t, cnd_f, Asc_t, Asc_f])⟩
      ·
       intro D t w hD hp hcl hI rest hk
       obtain ⟨O, ht, hs⟩ := hI
       have hp : AllDone D [0, 1] := hp
       obtain ⟨p0_, p1_, _⟩ := hp
       have q3_ : D 3 = false := not_yet (show D 3 = true → AllDone D [2] from hcl 3 (by decide)) 0 2 rfl hD
       simp only [hD, p0_, p1_, q3_, cnd_t, cnd_f, Asc_t, Asc_f] at ht hs
       subst ht
       refine s_idxD (κ := (K.int .i64)) (m := 1) rfl (hs.rd hr0) rfl (fun _ => rfl) gd2.1 gd2.2 had3_ rfl rfl rfl rfl rfl ?_
       show G _ _ _ _ [_,_,_,_,_,_,_,_,_,_,_,_,_,_,_,_,_,_,_,_,_,_,_,_,_,_] _
       exact hk _ _ ⟨O, (by simp only [upd, Nat.reduceBEq, Bool.true_or, Bool.false_or, p0_, p1_, q3_, cnd_t, cnd_f, Asc_t, Asc_f]), hs.cast (by first | rfl | simp only [List.take, List.drop, List.cons_append, List.nil_append, List.set_cons_zero, List.set_cons_succ, List.eraseIdx, upd, Nat.reduceBEq, Bool.true_or, Bool.false_or, p0_, p1_, q3_, cnd_t, cnd_f, Asc_t, Asc_f])⟩
      ·
       intro D t w hD hp hcl hI rest hk
       obtain ⟨O, ht, hs⟩ := hI
       have hp : AllDone D [2] := hp
       obtain ⟨p2_, _⟩ := hp
       obtain ⟨p0_, p1_, _⟩ := (show D 2 = true → AllDone D [0, 1] from hcl 2 (by decide)) p2_
       simp only [hD, p0_, p1_, p2_, cnd_t, cnd_f, Asc_t, Asc_f] at ht hs
       subst ht
       refine s_load1 rfl rfl (v := Value.int .i64 (rdL a1 x5 0)) rfl rfl (fun _ => rfl) (cellsAt_of (fkI .i64) 0 (hs.rd hr0) had3_ gd2.1 gd2.2) ?_
       show G _ _ _ _ [_,_,_,_,_,_,_,_,_,_,_,_,_,_,_,_,_,_,_,_,_,_,_,_,_,_] _
       exact hk _ _ ⟨O, (by simp only [upd, Nat.reduceBEq, Bool.true_or, Bool.false_or, p0_, p1_, p2_, cnd_t, cnd_f, Asc_t, Asc_f]), hs.cast (by first | rfl | simp only [List.take, List.drop, List.cons_append, List.nil_append, List.set_cons_zero, List.set_cons_succ, List.eraseIdx, upd, Nat.reduceBEq, Bool.true_or, Bool.false_or, p0_, p1_, p2_, cnd_t, cnd_f, Asc_t, Asc_f])⟩
      ·
       intro D t w hD hp hcl hI rest hk
       obtain ⟨O, ht, hs⟩ := hI
       have hp : AllDone D [] := hp
       have q6_ : D 6 = false := not_yet (show D 6 = true → AllDone D [4, 5] from hcl 6 (by decide)) 0 4 rfl hD
       have q7_ : D 7 = false := not_yet (show D 7 = true → AllDone D [6] from hcl 7 (by decide)) 0 6 rfl q6_
       simp only [hD, q6_, q7_, cnd_t, cnd_f, Asc_t, Asc_f] at ht hs
       subst ht
       refine g_op (v := v4) rfl rfl rfl ?_
       show G _ _ _ _ [_,_,_,_,_,_,_,_,_,_,_,_,_,_,_,_,_,_,_,_,_,_,_,_,_,_] _
       exact hk _ _ ⟨O, (by simp only [upd, Nat.reduceBEq, Bool.true_or, Bool.false_or, q6_, q7_, cnd_t, cnd_f, Asc_t, Asc_f]), hs.cast (by first | rfl | simp only [List.take, List.drop, List.cons_append, List.nil_append, List.set_cons_zero, List.set_cons_succ, List.eraseIdx, upd, Nat.reduceBEq, Bool.true_or, Bool.false_or, q6_, q7_, cnd_t, cnd_f, Asc_t, Asc_f])⟩
      ·
       intro D t w hD hp hcl hI rest hk
       obtain ⟨O, ht, hs⟩ := hI
       have hp : AllDone D [] := hp
       have q6_ : D 6 = false := not_yet (show D 6 = true → AllDone D [4, 5] from hcl 6 (by decide)) 1 5 rfl hD
       have q7_ : D 7 = false := not_yet (show D 7 = true → AllDone D [6] from hcl 7 (by decide)) 0 6 rfl q6_
       simp only [hD, q6_, q7_, cnd_t, cnd_f, Asc_t, Asc_f] at ht hs
       subst ht
       refine g_op (v := Value.int .i64 x5) rfl rfl rfl ?_
       show G _ _ _ _ [_,_,_,_,_,_,_,_,_,_,_,_,_,_,_,_,_,_,_,_,_,_,_,_,_,_] _
       exact hk _ _ ⟨O, (by simp only [upd, Nat.reduceBEq, Bool.true_or, Bool.false_or, q6_, q7_, cnd_t, cnd_f, Asc_t, Asc_f]), hs.cast (by first | rfl | simp only [List.take, List.drop, List.cons_append, List.nil_append, List.set_cons_zero, List.set_cons_succ, List.eraseIdx, upd, Nat.reduceBEq, Bool.true_or, Bool.false_or, q6_, q7_, cnd_t, cnd_f, Asc_t, Asc_f])⟩
      ·
       intro D t w hD hp hcl hI rest hk
       obtain ⟨O, ht, hs⟩ := hI
       have hp : AllDone D [4, 5] := hp
       obtain ⟨p4_, p5_, _⟩ := hp
       have q7_ : D 7 = false := not_yet (show D 7 = true → AllDone D [6] from hcl 7 (by decide)) 0 6 rfl hD
       simp only [hD, p4_, p5_, q7_, cnd_t, cnd_f, Asc_t, Asc_f] at ht hs
       subst ht
       refine s_idxD (κ := (K.int .i64)) (m := 1) rfl (hs.rd hr1) rfl (fun _ => rfl) gd4.1 gd4.2 had5_ rfl rfl rfl rfl rfl ?_
       show G _ _ _ _ [_,_,_,_,_,_,_,_,_,_,_,_,_,_,_,_,_,_,_,_,_,_,_,_,_,_] _
       exact hk _ _ ⟨O, (by simp only [upd, Nat.reduceBEq, Bool.true_or, Bool.false_or, p4_, p5_, q7_, cnd_t, cnd_f, Asc_t, Asc_f]), hs.cast (by first | rfl | simp only [List.take, List.drop, List.cons_append, List.nil_append, List.set_cons_zero, List.set_cons_succ, List.eraseIdx, upd, Nat.reduceBEq, Bool.true_or, Bool.false_or, p4_, p5_, q7_, cnd_t, cnd_f, Asc_t, Asc_f])⟩
      ·
       intro D t w hD hp hcl hI rest hk
       obtain ⟨O, ht, hs⟩ := hI
       have hp : AllDone D [6] := hp
       obtain ⟨p6_, _⟩ := hp
       obtain ⟨p4_, p5_, _⟩ := (show D 6 = true → AllDone D [4, 5] from hcl 6 (by decide)) p6_
       simp only [hD, p4_, p5_, p6_, cnd_t, cnd_f, Asc_t, Asc_f] at ht hs
       subst ht
       refine s_load1 rfl rfl (v := Value.int .i64 (rdL a3 x5 0)) rfl rfl (fun _ => rfl) (cellsAt_of (fkI .i64) 0 (hs.rd hr1) had5_ gd4.1 gd4.2) ?_
       show G _ _ _ _ [_,_,_,_,_,_,_,_,_,_,_,_,_,_,_,_,_,_,_,_,_,_,_,_,_,_] _
       exact hk _ _ ⟨O, (by simp only [upd, Nat.reduceBEq, Bool.true_or, Bool.false_or, p4_, p5_, p6_, cnd_t, cnd_f, Asc_t, Asc_f]), hs.cast (by first | rfl | simp only [List.take, List.drop, List.cons_append, List.nil_append, List.set_cons_zero, List.set_cons_succ, List.eraseIdx, upd, Nat.reduceBEq, Bool.true_or, Bool.false_or, p4_, p5_, p6_, cnd_t, cnd_f, Asc_t, Asc_f])⟩
      ·
       intro D t w rest hall hO1_ hI
       obtain ⟨O, ht, hs⟩ := hI
       have p0_ : D 0 = true := hall 0 (by decide) rfl
       have p1_ : D 1 = true := hall 1 (by decide) rfl
       have p2_ : D 2 = true := hall 2 (by decide) rfl
       have p3_ : D 3 = true := hall 3 (by decide) rfl
       have p4_ : D 4 = true := hall 4 (by decide) rfl
       have p5_ : D 5 = true := hall 5 (by decide) rfl
       have p6_ : D 6 = true := hall 6 (by decide) rfl
       have p7_ : D 7 = true := hall 7 (by decide) rfl
       simp only [p0_, p1_, p2_, p3_, p4_, p5_, p6_, p7_, cnd_t, cnd_f, Asc_t, Asc_f] at ht hs
       subst ht
       obtain ⟨rest, rfl, hO6_⟩ := ord_one (m := 255) hO1_ rfl 8 (m' := 511) (by decide +kernel) rfl
       clear hO1_
       refine g_op_b (B := (rdL a1 x5 0) != (rdL a3 x5 0)) rfl rfl rfl ?_ ?_
       ·
        intro hb
        rw [if_neg (b_bne_t hb)] at H
        show G _ _ _ _ [_,_,_,_,_,_,_,_,_,_,_,_,_,_,_,_,_,_,_,_,_,_,_,_,_,_] _
        obtain rfl := ord_end hO6_ rfl (by decide +kernel)
        refine g_ops_nil ?_
        refine g_cond_true rfl ?_
        refine g_seq ?_
        refine g_region ?_
        show G _ _ _ (.inRegion _ [0] :: _) _ _
        refine g_op (v := Value.bool false) rfl rfl rfl ?_
        show G _ _ _ _ [_,_,_,_,_,_,_,_,_,_,_,_,_,_,_,_,_,_,_,_,_,_,_,_,_,_] _
        refine g_ops_nil ?_
        obtain rfl := Option.some.inj H
        subst Hx1_
        have H := Option.some.inj Hr1_
        subst H
        refine g_ret Try.func16 (v := Value.bool false) (res1 rfl rfl) ?_
        have hs : St _ [] _ := St.take (Γ' := []) hs
        exact ⟨_, rfl, rfl, hs⟩
       ·
        intro hb
        rw [if_pos (b_bne_f hb)] at H
        show G _ _ _ _ [_,_,_,_,_,_,_,_,_,_,_,_,_,_,_,_,_,_,_,_,_,_,_,_,_,_] _
        obtain rfl := ord_end hO6_ rfl (by decide +kernel)
        refine g_ops_nil ?_
        refine g_cond_false rfl ?_
        refine g_skip ?_
        refine g_inBlock ?_
        refine g_region ?_
        show G _ _ _ (.inRegion _ [0, 1, 2] :: _) _ _
        refine g_op (v := Value.int .i64 x5) rfl rfl rfl ?_
        refine g_op (v := Value.int .i64 (i64w (x5 + 1))) rfl rfl rfl ?_
        show G _ _ _ _ [_,_,_,_,_,_,_,_,_,_,_,_,_,_,_,_,_,_,_,_,_,_,_,_,_,_] _
        refine g_op (v := Value.int .i64 (i64w (x5 + 1))) rfl rfl rfl ?_
        show G _ _ _ _ [_,_,_,_,_,_,_,_,_,_,_,_,_,_,_,_,_,_,_,_,_,_,_,_,_,_] _
        refine g_ops_nil ?_
        obtain rfl := Option.some.inj H
        have hs : St _ [] _ := St.take (Γ' := []) hs
        exact ih1_ _ _ ⟨i64w (x5 + 1), Hx1_, rfl, hs⟩
     ·
      intro hb
      rw [if_neg (b_dec_f hb)] at H
      show G _ _ _ _ [_,_,_,_,_,_,_,_,_,_,_,_,_,_,_,_,_,_,_,_,_,_,_,_,_,_] _
      refine g_ops_nil ?_
      refine g_cond_false rfl ?_
      obtain rfl := Option.some.inj H
      subst Hx1_
      have hs : St _ [] _ := St.take (Γ' := []) hs
      refine g_exit rfl ?_
      exact ha1_ _ _ ⟨Hr1_, rfl, hs⟩

/- function 17 laws_markGlasses -/
def laws_markGlasses.post (wb : World) (Z : As) (v2 : Value) (r : (Int × (List Int))) (v : Value) (w : World) : Prop := v = Value.int .i64 r.1 ∧ St wb [Row 23 (K.int .i16) v2 r.2, Z] w
set_option maxHeartbeats 8000000 in
set_option maxRecDepth 100000 in
theorem laws_markGlasses.calls {N : Nat} {a1 : (List Int)} {a4 : Int} {v2 : Value} {wb : World} {Z : As} {w0 : World} {r : (Int × (List Int))} (hs : St wb [Row 23 (K.int .i16) v2 a1, Z] w0) (H : laws_markGlasses.f N a1 a4 = some r) :
    Calls Try.prog 17 #[v2, Value.int .i64 a4] w0 fun e w => ∃ v, e = .returned v ∧ laws_markGlasses.post wb Z v2 r v w := by
  unfold laws_markGlasses.f at H
  refine calls_of_g (n := 18) Try.func17 rfl rfl ?_
  show G _ _ _ _ [_,_,_,_,_,_,_,_,_,_,_,_,_,_,_,_,_,_,_,_] _
  refine g_seq ?_
  refine g_region ?_
  show G _ _ _ (.inRegion _ [0] :: _) _ _
  refine g_op (v := Value.int .i64 0) rfl rfl rfl ?_
  show G _ _ _ _ [_,_,_,_,_,_,_,_,_,_,_,_,_,_,_,_,_,_,_,_] _
  refine g_ops_nil ?_
  refine g_seq ?_
  refine g_seq ?_
  refine g_region ?_
  show G _ _ _ (.inRegion _ [0] :: _) _ _
  refine g_op (v := Value.int .i64 0) rfl rfl rfl ?_
  show G _ _ _ _ [_,_,_,_,_,_,_,_,_,_,_,_,_,_,_,_,_,_,_,_] _
  refine g_ops_nil ?_
  obtain ⟨o1_, Ho, Hr1_⟩ := bind_get H
  refine g_block_join (J := fun t w => ∃ x12 : Int, ∃ x13 : (List Int), laws_markGlasses.a0 N x12 x13 = some r ∧ Fr t (fun O => ([O 0, Value.int .i64 x12, O 2, O 3, O 4, O 5, O 6, O 7, O 8, O 9, O 10, O 11, O 12, O 13, O 14, O 15, O 16, O 17, O 18, O 19] : List Value)) ∧ St wb [Row 23 (K.int .i16) v2 x13, Z] w) ?_ ?_
  ·
   rintro t w ⟨x12, x13, H, hf, hs⟩
   obtain ⟨O, rfl⟩ := hf.open
   show G _ _ _ _ [_,_,_,_,_,_,_,_,_,_,_,_,_,_,_,_,_,_,_,_] _
   unfold laws_markGlasses.a0 at H
   refine g_seq ?_
   refine g_region ?_
   show G _ _ _ (.inRegion _ [0, 1] :: _) _ _
   refine g_op (v := Value.int .i64 x12) rfl rfl rfl ?_
   show G _ _ _ _ [_,_,_,_,_,_,_,_,_,_,_,_,_,_,_,_,_,_,_,_] _
   refine g_op (v := Value.int .i64 x12) rfl rfl rfl ?_
   show G _ _ _ _ [_,_,_,_,_,_,_,_,_,_,_,_,_,_,_,_,_,_,_,_] _
   refine g_ops_nil ?_
   obtain rfl := Option.some.inj H
   refine g_ret Try.func17 (v := Value.int .i64 x12) (res1 rfl rfl) ?_
   have hs := hs.pull 1 rfl
   have hs := hs.pull 1 rfl
   have hs : St _ [_,_] _ := St.take (Γ' := []) hs
   exact ⟨_, rfl, rfl, hs⟩
  ·
   intro ha1_
   have hs := hs.pull 1 rfl
   have hs := hs.pull 1 rfl
   have hs : St _ [_,_] _ := St.take (Γ' := []) hs
   refine g_loop_fuel (I := fun n_ t w => ∃ x8 : (List Int), ∃ x9 : Int, ∃ x10 : Int, rounds (fun s => laws_markGlasses.b0 N s.1 s.2.1 s.2.2) n_ (x8, x9, x10) = some o1_ ∧ Fr t (fun O => ([v2, Value.int .i64 x9, O 2, O 3, O 4, Value.int .i64 x10, O 6, O 7, O 8, O 9, O 10, O 11, O 12, O 13, O 14, O 15, O 16, O 17, O 18, O 19] : List Value)) ∧ St wb [Row 23 (K.int .i16) v2 x8, Z] w) N ⟨a1, a4, 0, Ho, rfl, hs⟩ ?_ ?_
   ·
    rintro _ _ ⟨x8, x9, x10, h, _⟩
    exact rounds_zero h
   ·
    intro n_ ih1_
    rintro t w ⟨x8, x9, x10, Ho, hf, hs⟩
    obtain ⟨O, rfl⟩ := hf.open
    show G _ _ _ _ [_,_,_,_,_,_,_,_,_,_,_,_,_,_,_,_,_,_,_,_] _
    obtain ⟨x3_, H, Hx1_⟩ := rounds_succ Ho
    have H : laws_markGlasses.b0 N x8 x9 x10 = some x3_ := H
    unfold laws_markGlasses.b0 at H
    refine g_seq ?_
    refine g_seq ?_
    refine g_region ?_
    show G _ _ _ (.inRegion _ [0, 1, 2, 3] :: _) _ _
    refine g_op (v := Value.int .i64 x10) rfl rfl rfl ?_
    show G _ _ _ _ [_,_,_,_,_,_,_,_,_,_,_,_,_,_,_,_,_,_,_,_] _
    refine g_op (v := v2) rfl rfl rfl ?_
    show G _ _ _ _ [_,_,_,_,_,_,_,_,_,_,_,_,_,_,_,_,_,_,_,_] _
    refine s_len (hs.row 0 rfl) rfl rfl rfl rfl rfl ?_
    show G _ _ _ _ [_,_,_,_,_,_,_,_,_,_,_,_,_,_,_,_,_,_,_,_] _
    refine g_op_b (B := decide (x10 < (x8.length : Int))) rfl rfl rfl ?_ ?_
    ·
     intro hb
     rw [if_pos (b_dec_t hb)] at H
     show G _ _ _ _ [_,_,_,_,_,_,_,_,_,_,_,_,_,_,_,_,_,_,_,_] _
     refine g_ops_nil ?_
     refine g_cond_true rfl ?_
     refine g_skip ?_
     refine g_seq ?_
     refine g_block ?_
     refine g_seq ?_
     refine g_region ?_
     show G _ _ _ (.inRegion _ [0, 1, 2, 3, 4, 5] :: _) _ _
     refine g_op (v := v2) rfl rfl rfl ?_
     show G _ _ _ _ [_,_,_,_,_,_,_,_,_,_,_,_,_,_,_,_,_,_,_,_] _
     refine g_op (v := Value.int .i64 x10) rfl rfl rfl ?_
     show G _ _ _ _ [_,_,_,_,_,_,_,_,_,_,_,_,_,_,_,_,_,_,_,_] _
     refine g_op (v := Value.int .i64 x9) rfl rfl rfl ?_
     show G _ _ _ _ [_,_,_,_,_,_,_,_,_,_,_,_,_,_,_,_,_,_,_,_] _
     refine g_op (v := Value.int .i16 (i16w x9)) rfl rfl rfl ?_
     show G _ _ _ _ [_,_,_,_,_,_,_,_,_,_,_,_,_,_,_,_,_,_,_,_] _
     obtain ⟨g2, H⟩ := ite_get H
     refine s_idx (fkI .i16) 0 (hs.row 0 rfl) rfl (fun _ => rfl) g2.1 g2.2 rfl rfl rfl rfl rfl ?_
     intro p11 hp11 lp11 op11
     show G _ _ _ _ [_,_,_,_,_,_,_,_,_,_,_,_,_,_,_,_,_,_,_,_] _
     refine s_stRow (y := i16w x9) (fkI .i16) g2.1 g2.2 op11 hs rfl rfl rfl rfl rfl (fun _ => rfl) ?_
     intro w hs
     refine g_ops_nil ?_
     refine g_region ?_
     show G _ _ _ (.inRegion _ [0, 1, 2] :: _) _ _
     refine g_op (v := Value.int .i64 x9) rfl rfl rfl ?_
     show G _ _ _ _ [_,_,_,_,_,_,_,_,_,_,_,_,_,_,_,_,_,_,_,_] _
     refine g_op (v := Value.int .i64 (i64w (x9 + 1))) rfl rfl rfl ?_
     show G _ _ _ _ [_,_,_,_,_,_,_,_,_,_,_,_,_,_,_,_,_,_,_,_] _
     refine g_op (v := Value.int .i64 (i64w (x9 + 1))) rfl rfl rfl ?_
     show G _ _ _ _ [_,_,_,_,_,_,_,_,_,_,_,_,_,_,_,_,_,_,_,_] _
     refine g_ops_nil ?_
     refine g_inBlock ?_
     refine g_region ?_
     show G _ _ _ (.inRegion _ [0, 1, 2] :: _) _ _
     refine g_op (v := Value.int .i64 x10) rfl rfl rfl ?_
     show G _ _ _ _ [_,_,_,_,_,_,_,_,_,_,_,_,_,_,_,_,_,_,_,_] _
     refine g_op (v := Value.int .i64 (i64w (x10 + 1))) rfl rfl rfl ?_
     show G _ _ _ _ [_,_,_,_,_,_,_,_,_,_,_,_,_,_,_,_,_,_,_,_] _
     refine g_op (v := Value.int .i64 (i64w (x10 + 1))) rfl rfl rfl ?_
     show G _ _ _ _ [_,_,_,_,_,_,_,_,_,_,_,_,_,_,_,_,_,_,_,_] _
     refine g_ops_nil ?_
     obtain rfl := Option.some.inj H
     have hs := hs.pull 1 rfl
     have hs := hs.pull 1 rfl
     have hs : St _ [_,_] _ := St.take (Γ' := []) hs
     exact ih1_ _ _ ⟨stL x8 x10 (i16w x9), i64w (x9 + 1), i64w (x10 + 1), Hx1_, rfl, hs⟩
    ·
     intro hb
     rw [if_neg (b_dec_f hb)] at H
     show G _ _ _ _ [_,_,_,_,_,_,_,_,_,_,_,_,_,_,_,_,_,_,_,_] _
     refine g_ops_nil ?_
     refine g_cond_false rfl ?_
     obtain rfl := Option.some.inj H
     subst Hx1_
     have hs := hs.pull 1 rfl
     have hs := hs.pull 1 rfl
     have hs : St _ [_,_] _ := St.take (Γ' := []) hs
     refine g_exit rfl ?_
     exact ha1_ _ _ ⟨x9, x8, Hr1_, rfl, hs⟩

/- function 18 laws_markInt64S -/
def laws_markInt64S.post (wb : World) (Z : As) (v2 : Value) (r : (Int × (List Int))) (v : Value) (w : World) : Prop := v = Value.int .i64 r.1 ∧ St wb [Row 2 (K.int .i64) v2 r.2, Z] w
set_option maxHeartbeats 8000000 in
set_option maxRecDepth 100000 in
theorem laws_markInt64S.calls {N : Nat} {a1 : (List Int)} {a4 : Int} {v2 : Value} {wb : World} {Z : As} {w0 : World} {r : (Int × (List Int))} (hs : St wb [Row 2 (K.int .i64) v2 a1, Z] w0) (H : laws_markInt64S.f N a1 a4 = some r) :
    Calls Try.prog 18 #[v2, Value.int .i64 a4] w0 fun e w => ∃ v, e = .returned v ∧ laws_markInt64S.post wb Z v2 r v w := by
  unfold laws_markInt64S.f at H
  refine calls_of_g (n := 17) Try.func18 rfl rfl ?_
  show G _ _ _ _ [_,_,_,_,_,_,_,_,_,_,_,_,_,_,_,_,_,_,_] _
  refine g_seq ?_
  refine g_region ?_
  show G _ _ _ (.inRegion _ [0] :: _) _ _
  refine g_op (v := Value.int .i64 0) rfl rfl rfl ?_
  show G _ _ _ _ [_,_,_,_,_,_,_,_,_,_,_,_,_,_,_,_,_,_,_] _
  refine g_ops_nil ?_
  refine g_seq ?_
  refine g_seq ?_
  refine g_region ?_
  show G _ _ _ (.inRegion _ [0] :: _) _ _
  refine g_op (v := Value.int .i64 0) rfl rfl rfl ?_
  show G _ _ _ _ [_,_,_,_,_,_,_,_,_,_,_,_,_,_,_,_,_,_,_] _
  refine g_ops_nil ?_
  obtain ⟨o1_, Ho, Hr1_⟩ := bind_get H
  refine g_block_join (J := fun t w => ∃ x12 : Int, ∃ x13 : (List Int), laws_markInt64S.a0 N x12 x13 = some r ∧ Fr t (fun O => ([O 0, Value.int .i64 x12, O 2, O 3, O 4, O 5, O 6, O 7, O 8, O 9, O 10, O 11, O 12, O 13, O 14, O 15, O 16, O 17, O 18] : List Value)) ∧ St wb [Row 2 (K.int .i64) v2 x13, Z] w) ?_ ?_
  ·
   rintro t w ⟨x12, x13, H, hf, hs⟩
   obtain ⟨O, rfl⟩ := hf.open
   show G _ _ _ _ [_,_,_,_,_,_,_,_,_,_,_,_,_,_,_,_,_,_,_] _
   unfold laws_markInt64S.a0 at H
   refine g_seq ?_
   refine g_region ?_
   show G _ _ _ (.inRegion _ [0, 1] :: _) _ _
   refine g_op (v := Value.int .i64 x12) rfl rfl rfl ?_
   show G _ _ _ _ [_,_,_,_,_,_,_,_,_,_,_,_,_,_,_,_,_,_,_] _
   refine g_op (v := Value.int .i64 x12) rfl rfl rfl ?_
   show G _ _ _ _ [_,_,_,_,_,_,_,_,_,_,_,_,_,_,_,_,_,_,_] _
   refine g_ops_nil ?_
   obtain rfl := Option.some.inj H
   refine g_ret Try.func18 (v := Value.int .i64 x12) (res1 rfl rfl) ?_
   have hs := hs.pull 1 rfl
   have hs := hs.pull 1 rfl
   have hs : St _ [_,_] _ := St.take (Γ' := []) hs
   exact ⟨_, rfl, rfl, hs⟩
  ·
   intro ha1_
   have hs := hs.pull 1 rfl
   have hs := hs.pull 1 rfl
   have hs : St _ [_,_] _ := St.take (Γ' := []) hs
   refine g_loop_fuel (I := fun n_ t w => ∃ x8 : (List Int), ∃ x9 : Int, ∃ x10 : Int, rounds (fun s => laws_markInt64S.b0 N s.1 s.2.1 s.2.2) n_ (x8, x9, x10) = some o1_ ∧ Fr t (fun O => ([v2, Value.int .i64 x9, O 2, O 3, O 4, Value.int .i64 x10, O 6, O 7, O 8, O 9, O 10, O 11, O 12, O 13, O 14, O 15, O 16, O 17, O 18] : List Value)) ∧ St wb [Row 2 (K.int .i64) v2 x8, Z] w) N ⟨a1, a4, 0, Ho, rfl, hs⟩ ?_ ?_
   ·
    rintro _ _ ⟨x8, x9, x10, h, _⟩
    exact rounds_zero h
   ·
    intro n_ ih1_
    rintro t w ⟨x8, x9, x10, Ho, hf, hs⟩
    obtain ⟨O, rfl⟩ := hf.open
    show G _ _ _ _ [_,_,_,_,_,_,_,_,_,_,_,_,_,_,_,_,_,_,_] _
    obtain ⟨x3_, H, Hx1_⟩ := rounds_succ Ho
    have H : laws_markInt64S.b0 N x8 x9 x10 = some x3_ := H
    unfold laws_markInt64S.b0 at H
    refine g_seq ?_
    refine g_seq ?_
    refine g_region ?_
    show G _ _ _ (.inRegion _ [0, 1, 2, 3] :: _) _ _
    refine g_op (v := Value.int .i64 x10) rfl rfl rfl ?_
    show G _ _ _ _ [_,_,_,_,_,_,_,_,_,_,_,_,_,_,_,_,_,_,_] _
    refine g_op (v := v2) rfl rfl rfl ?_
    show G _ _ _ _ [_,_,_,_,_,_,_,_,_,_,_,_,_,_,_,_,_,_,_] _
    refine s_len (hs.row 0 rfl) rfl rfl rfl rfl rfl ?_
    show G _ _ _ _ [_,_,_,_,_,_,_,_,_,_,_,_,_,_,_,_,_,_,_] _
    refine g_op_b (B := decide (x10 < (x8.length : Int))) rfl rfl rfl ?_ ?_
    ·
     intro hb
     rw [if_pos (b_dec_t hb)] at H
     show G _ _ _ _ [_,_,_,_,_,_,_,_,_,_,_,_,_,_,_,_,_,_,_] _
     refine g_ops_nil ?_
     refine g_cond_true rfl ?_
     refine g_skip ?_
     refine g_seq ?_
     refine g_block ?_
     refine g_seq ?_
     refine g_region ?_
     show G _ _ _ (.inRegion _ [0, 1, 2, 3, 4] :: _) _ _
     refine g_op (v := v2) rfl rfl rfl ?_
     show G _ _ _ _ [_,_,_,_,_,_,_,_,_,_,_,_,_,_,_,_,_,_,_] _
     refine g_op (v := Value.int .i64 x10) rfl rfl rfl ?_
     show G _ _ _ _ [_,_,_,_,_,_,_,_,_,_,_,_,_,_,_,_,_,_,_] _
     refine g_op (v := Value.int .i64 x9) rfl rfl rfl ?_
     show G _ _ _ _ [_,_,_,_,_,_,_,_,_,_,_,_,_,_,_,_,_,_,_] _
     obtain ⟨g2, H⟩ := ite_get H
     refine s_idx (fkI .i64) 0 (hs.row 0 rfl) rfl (fun _ => rfl) g2.1 g2.2 rfl rfl rfl rfl rfl ?_
     intro p11 hp11 lp11 op11
     show G _ _ _ _ [_,_,_,_,_,_,_,_,_,_,_,_,_,_,_,_,_,_,_] _
     refine s_stRow (y := x9) (fkI .i64) g2.1 g2.2 op11 hs rfl rfl rfl rfl rfl (fun _ => rfl) ?_
     intro w hs
     refine g_ops_nil ?_
     refine g_region ?_
     show G _ _ _ (.inRegion _ [0, 1, 2] :: _) _ _
     refine g_op (v := Value.int .i64 x9) rfl rfl rfl ?_
     show G _ _ _ _ [_,_,_,_,_,_,_,_,_,_,_,_,_,_,_,_,_,_,_] _
     refine g_op (v := Value.int .i64 (i64w (x9 + 1))) rfl rfl rfl ?_
     show G _ _ _ _ [_,_,_,_,_,_,_,_,_,_,_,_,_,_,_,_,_,_,_] _
     refine g_op (v := Value.int .i64 (i64w (x9 + 1))) rfl rfl rfl ?_
     show G _ _ _ _ [_,_,_,_,_,_,_,_,_,_,_,_,_,_,_,_,_,_,_] _
     refine g_ops_nil ?_
     refine g_inBlock ?_
     refine g_region ?_
     show G _ _ _ (.inRegion _ [0, 1, 2] :: _) _ _
     refine g_op (v := Value.int .i64 x10) rfl rfl rfl ?_
     show G _ _ _ _ [_,_,_,_,_,_,_,_,_,_,_,_,_,_,_,_,_,_,_] _
     refine g_op (v := Value.int .i64 (i64w (x10 + 1))) rfl rfl rfl ?_
     show G _ _ _ _ [_,_,_,_,_,_,_,_,_,_,_,_,_,_,_,_,_,_,_] _
     refine g_op (v := Value.int .i64 (i64w (x10 + 1))) rfl rfl rfl ?_
     show G _ _ _ _ [_,_,_,_,_,_,_,_,_,_,_,_,_,_,_,_,_,_,_] _
     refine g_ops_nil ?_
     obtain rfl := Option.some.inj H
     have hs := hs.pull 1 rfl
     have hs := hs.pull 1 rfl
     have hs : St _ [_,_] _ := St.take (Γ' := []) hs
     exact ih1_ _ _ ⟨stL x8 x10 x9, i64w (x9 + 1), i64w (x10 + 1), Hx1_, rfl, hs⟩
    ·
     intro hb
     rw [if_neg (b_dec_f hb)] at H
     show G _ _ _ _ [_,_,_,_,_,_,_,_,_,_,_,_,_,_,_,_,_,_,_] _
     refine g_ops_nil ?_
     refine g_cond_false rfl ?_
     obtain rfl := Option.some.inj H
     subst Hx1_
     have hs := hs.pull 1 rfl
     have hs := hs.pull 1 rfl
     have hs : St _ [_,_] _ := St.take (Γ' := []) hs
     refine g_exit rfl ?_
     exact ha1_ _ _ ⟨x9, x8, Hr1_, rfl, hs⟩

/- function 19 laws_heldInt64S -/
def laws_heldInt64S.post (w0 : World) (r : Int) (v : Value) (w : World) : Prop := v = Value.int .i64 r ∧ St w0 [] w
set_option maxHeartbeats 8000000 in
set_option maxRecDepth 100000 in
theorem laws_heldInt64S.calls {N : Nat} {a1 : (List Int)} {a3 : Int} {v2 : Value} {w0 : World} {r : Int} (hr0 : RdRow (K.int .i64) w0 v2 a1) (H : laws_heldInt64S.f N a1 a3 = some r) :
    Calls Try.prog 19 #[v2, Value.int .i64 a3] w0 fun e w => ∃ v, e = .returned v ∧ laws_heldInt64S.post w0 r v w := by
  unfold laws_heldInt64S.f at H
  have hs : St w0 [] w0 := St.refl w0
  refine calls_of_g (n := 19) Try.func19 rfl rfl ?_
  show G _ _ _ _ [_,_,_,_,_,_,_,_,_,_,_,_,_,_,_,_,_,_,_,_,_] _
  refine g_seq ?_
  refine g_region ?_
  show G _ _ _ (.inRegion _ [0] :: _) _ _
  refine g_op (v := Value.int .i64 0) rfl rfl rfl ?_
  show G _ _ _ _ [_,_,_,_,_,_,_,_,_,_,_,_,_,_,_,_,_,_,_,_,_] _
  refine g_ops_nil ?_
  refine g_seq ?_
  refine g_seq ?_
  refine g_region ?_
  show G _ _ _ (.inRegion _ [0] :: _) _ _
  refine g_op (v := Value.int .i64 0) rfl rfl rfl ?_
  show G _ _ _ _ [_,_,_,_,_,_,_,_,_,_,_,_,_,_,_,_,_,_,_,_,_] _
  refine g_ops_nil ?_
  obtain ⟨o1_, Ho, Hr1_⟩ := bind_get H
  refine g_block_join (J := fun t w => ∃ x7 : Int, laws_heldInt64S.a0 N x7 = some r ∧ Fr t (fun O => ([O 0, Value.int .i64 x7, O 2, O 3, O 4, O 5, O 6, O 7, O 8, O 9, O 10, O 11, O 12, O 13, O 14, O 15, O 16, O 17, O 18, O 19, O 20] : List Value)) ∧ St w0 [] w) ?_ ?_
  ·
   rintro t w ⟨x7, H, hf, hs⟩
   obtain ⟨O, rfl⟩ := hf.open
   show G _ _ _ _ [_,_,_,_,_,_,_,_,_,_,_,_,_,_,_,_,_,_,_,_,_] _
   unfold laws_heldInt64S.a0 at H
   refine g_seq ?_
   refine g_region ?_
   show G _ _ _ (.inRegion _ [0, 1] :: _) _ _
   refine g_op (v := Value.int .i64 x7) rfl rfl rfl ?_
   show G _ _ _ _ [_,_,_,_,_,_,_,_,_,_,_,_,_,_,_,_,_,_,_,_,_] _
   refine g_op (v := Value.int .i64 x7) rfl rfl rfl ?_
   show G _ _ _ _ [_,_,_,_,_,_,_,_,_,_,_,_,_,_,_,_,_,_,_,_,_] _
   refine g_ops_nil ?_
   obtain rfl := Option.some.inj H
   refine g_ret Try.func19 (v := Value.int .i64 x7) (res1 rfl rfl) ?_
   have hs : St _ [] _ := St.take (Γ' := []) hs
   exact ⟨_, rfl, rfl, hs⟩
  ·
   intro ha1_
   have hs : St _ [] _ := St.take (Γ' := []) hs
   refine g_loop_fuel (I := fun n_ t w => ∃ x4 : Int, ∃ x5 : Int, rounds (fun s => laws_heldInt64S.b0 N a1 s.1 s.2) n_ (x4, x5) = some o1_ ∧ Fr t (fun O => ([v2, Value.int .i64 x4, O 2, O 3, O 4, Value.int .i64 x5, O 6, O 7, O 8, O 9, O 10, O 11, O 12, O 13, O 14, O 15, O 16, O 17, O 18, O 19, O 20] : List Value)) ∧ St w0 [] w) N ⟨a3, 0, Ho, rfl, hs⟩ ?_ ?_
   ·
    rintro _ _ ⟨x4, x5, h, _⟩
    exact rounds_zero h
   ·
    intro n_ ih1_
    rintro t w ⟨x4, x5, Ho, hf, hs⟩
    obtain ⟨O, rfl⟩ := hf.open
    show G _ _ _ _ [_,_,_,_,_,_,_,_,_,_,_,_,_,_,_,_,_,_,_,_,_] _
    obtain ⟨x2_, H, Hx1_⟩ := rounds_succ Ho
    have H : laws_heldInt64S.b0 N a1 x4 x5 = some x2_ := H
    unfold laws_heldInt64S.b0 at H
    refine g_seq ?_
    refine g_seq ?_
    refine g_region ?_
    show G _ _ _ (.inRegion _ [0, 1, 2, 3] :: _) _ _
    refine g_op (v := Value.int .i64 x5) rfl rfl rfl ?_
    show G _ _ _ _ [_,_,_,_,_,_,_,_,_,_,_,_,_,_,_,_,_,_,_,_,_] _
    refine g_op (v := v2) rfl rfl rfl ?_
    show G _ _ _ _ [_,_,_,_,_,_,_,_,_,_,_,_,_,_,_,_,_,_,_,_,_] _
    refine s_len (hs.rd hr0) rfl rfl rfl rfl rfl ?_
    show G _ _ _ _ [_,_,_,_,_,_,_,_,_,_,_,_,_,_,_,_,_,_,_,_,_] _
    refine g_op_b (B := decide (x5 < (a1.length : Int))) rfl rfl rfl ?_ ?_
    ·
     intro hb
     rw [if_pos (b_dec_t hb)] at H
     show G _ _ _ _ [_,_,_,_,_,_,_,_,_,_,_,_,_,_,_,_,_,_,_,_,_] _
     refine g_ops_nil ?_
     refine g_cond_true rfl ?_
     refine g_skip ?_
     refine g_seq ?_
     refine g_block ?_
     refine g_seq ?_
     refine g_seq ?_
     refine g_region ?_
     show G _ _ _ (.inRegion _ [0, 1, 2, 3, 4, 5] :: _) _ _
     refine g_op (v := v2) rfl rfl rfl ?_
     show G _ _ _ _ [_,_,_,_,_,_,_,_,_,_,_,_,_,_,_,_,_,_,_,_,_] _
     refine g_op (v := Value.int .i64 x5) rfl rfl rfl ?_
     show G _ _ _ _ [_,_,_,_,_,_,_,_,_,_,_,_,_,_,_,_,_,_,_,_,_] _
     obtain ⟨g1, H⟩ := ite_get H
     refine s_idx (fkI .i64) 0 (hs.rd hr0) rfl (fun _ => rfl) g1.1 g1.2 rfl rfl rfl rfl rfl ?_
     intro p6 hp6 lp6 op6
     show G _ _ _ _ [_,_,_,_,_,_,_,_,_,_,_,_,_,_,_,_,_,_,_,_,_] _
     refine s_load1 rfl rfl (v := Value.int .i64 (rdL a1 x5 0)) rfl rfl (fun _ => rfl) hp6 ?_
     show G _ _ _ _ [_,_,_,_,_,_,_,_,_,_,_,_,_,_,_,_,_,_,_,_,_] _
     refine g_op (v := Value.int .i64 x4) rfl rfl rfl ?_
     show G _ _ _ _ [_,_,_,_,_,_,_,_,_,_,_,_,_,_,_,_,_,_,_,_,_] _
     refine g_op_b (B := (rdL a1 x5 0) != x4) rfl rfl rfl ?_ ?_
     ·
      intro hb
      rw [if_neg (b_bne_t hb)] at H
      show G _ _ _ _ [_,_,_,_,_,_,_,_,_,_,_,_,_,_,_,_,_,_,_,_,_] _
      refine g_ops_nil ?_
      refine g_cond_true rfl ?_
      refine g_seq ?_
      refine g_region ?_
      show G _ _ _ (.inRegion _ [0] :: _) _ _
      refine g_op (v := Value.int .i64 (-1)) rfl rfl rfl ?_
      show G _ _ _ _ [_,_,_,_,_,_,_,_,_,_,_,_,_,_,_,_,_,_,_,_,_] _
      refine g_ops_nil ?_
      obtain rfl := Option.some.inj H
      subst Hx1_
      have H := Option.some.inj Hr1_
      subst H
      refine g_ret Try.func19 (v := Value.int .i64 (-1)) (res1 rfl rfl) ?_
      have hs : St _ [] _ := St.take (Γ' := []) hs
      exact ⟨_, rfl, rfl, hs⟩
     ·
      intro hb
      rw [if_pos (b_bne_f hb)] at H
      show G _ _ _ _ [_,_,_,_,_,_,_,_,_,_,_,_,_,_,_,_,_,_,_,_,_] _
      refine g_ops_nil ?_
      refine g_cond_false rfl ?_
      refine g_skip ?_
      refine g_region ?_
      show G _ _ _ (.inRegion _ [0, 1, 2] :: _) _ _
      refine g_op (v := Value.int .i64 x4) rfl rfl rfl ?_
      show G _ _ _ _ [_,_,_,_,_,_,_,_,_,_,_,_,_,_,_,_,_,_,_,_,_] _
      refine g_op (v := Value.int .i64 (i64w (x4 + 1))) rfl rfl rfl ?_
      show G _ _ _ _ [_,_,_,_,_,_,_,_,_,_,_,_,_,_,_,_,_,_,_,_,_] _
      refine g_op (v := Value.int .i64 (i64w (x4 + 1))) rfl rfl rfl ?_
      show G _ _ _ _ [_,_,_,_,_,_,_,_,_,_,_,_,_,_,_,_,_,_,_,_,_] _
      refine g_ops_nil ?_
      refine g_inBlock ?_
      refine g_region ?_
      show G _ _ _ (.inRegion _ [0, 1, 2] :: _) _ _
      refine g_op (v := Value.int .i64 x5) rfl rfl rfl ?_
      show G _ _ _ _ [_,_,_,_,_,_,_,_,_,_,_,_,_,_,_,_,_,_,_,_,_] _
      refine g_op (v := Value.int .i64 (i64w (x5 + 1))) rfl rfl rfl ?_
      show G _ _ _ _ [_,_,_,_,_,_,_,_,_,_,_,_,_,_,_,_,_,_,_,_,_] _
      refine g_op (v := Value.int .i64 (i64w (x5 + 1))) rfl rfl rfl ?_
      show G _ _ _ _ [_,_,_,_,_,_,_,_,_,_,_,_,_,_,_,_,_,_,_,_,_] _
      refine g_ops_nil ?_
      obtain rfl := Option.some.inj H
      have hs : St _ [] _ := St.take (Γ' := []) hs
      exact ih1_ _ _ ⟨i64w (x4 + 1), i64w (x5 + 1), Hx1_, rfl, hs⟩
    ·
     intro hb
     rw [if_neg (b_dec_f hb)] at H
     show G _ _ _ _ [_,_,_,_,_,_,_,_,_,_,_,_,_,_,_,_,_,_,_,_,_] _
     refine g_ops_nil ?_
     refine g_cond_false rfl ?_
     obtain rfl := Option.some.inj H
     subst Hx1_
     have hs : St _ [] _ := St.take (Γ' := []) hs
     refine g_exit rfl ?_
     exact ha1_ _ _ ⟨x4, Hr1_, rfl, hs⟩

end Go.Proofs.YtioefkcldfjobaaX
