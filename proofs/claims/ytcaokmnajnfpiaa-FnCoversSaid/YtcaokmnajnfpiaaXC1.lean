/- Contracts, printed by gen.py. -/
import Derived.Test.YtcaokmnajnfpiaaXT
import Derived.Test.YtcaokmnajnfpiaaProg
import Derived.Test.YtcaokmnajnfpiaaXRowR
import Derived.Test.YtcaokmnajnfpiaaXSq
import Derived.Test.YtcaokmnajnfpiaaXSeg
import Derived.Test.YtcaokmnajnfpiaaXKey
namespace Go.Proofs.YtcaokmnajnfpiaaX
open Go Go.RowKit Go.Proofs
set_option linter.unusedVariables false
set_option linter.unusedSimpArgs false
/- function 4 laws_a2Long -/
def laws_a2Long.post (w0 : World) (r : Bool) (v : Value) (w : World) : Prop := v = Value.bool r ∧ St w0 [] w
set_option maxHeartbeats 8000000 in
set_option maxRecDepth 100000 in
theorem laws_a2Long.calls {N : Nat} {a1 : (List Int)} {a3 : (List Int)} {v2 : Value} {v4 : Value} {w0 : World} {r : Bool} (hr0 : RdRow (K.int .u8) w0 v2 a1) (hr1 : RdRow (K.int .u8) w0 v4 a3) (H : laws_a2Long.f N a1 a3 = some r) :
    Calls Try.prog 4 #[v2, v4] w0 fun e w => ∃ v, e = .returned v ∧ laws_a2Long.post w0 r v w := by
  unfold laws_a2Long.f at H
  have hs : St w0 [] w0 := St.refl w0
  refine calls_of_g (n := 11) Try.func4 rfl rfl ?_
  show G _ _ _ _ [_,_,_,_,_,_,_,_,_,_,_,_,_] _
  refine g_seq (g_region ?_)
  show G _ _ _ (.inRegion _ [0] :: _) _ _
  refine g_op (v := Value.bool false) rfl rfl rfl ?_
  show G _ _ _ _ [_,_,_,_,_,_,_,_,_,_,_,_,_] _
  refine g_ops_nil (g_seq (g_region ?_))
  show G _ _ _ (.inRegion _ [0, 1, 2, 3, 4, 5, 6, 7, 8] :: _) _ _
  refine g_op (v := v2) rfl rfl rfl ?_
  show G _ _ _ _ [_,_,_,_,_,_,_,_,_,_,_,_,_] _
  refine s_len (hs.rd hr0) rfl rfl rfl rfl rfl ?_
  show G _ _ _ _ [_,_,_,_,_,_,_,_,_,_,_,_,_] _
  refine g_op_b (B := decide ((a1.length : Int) > 3000)) rfl rfl rfl ?_ ?_
  ·
   intro hb
   rw [if_pos (b_dec_t hb)] at H
   show G _ _ _ _ [_,_,_,_,_,_,_,_,_,_,_,_,_] _
   refine g_op (v := Value.bool true) rfl rfl rfl ?_
   show G _ _ _ _ [_,_,_,_,_,_,_,_,_,_,_,_,_] _
   refine g_op_not rfl rfl ?_
   show G _ _ _ _ [_,_,_,_,_,_,_,_,_,_,_,_,_] _
   refine g_op_not rfl rfl ?_
   show G _ _ _ _ [_,_,_,_,_,_,_,_,_,_,_,_,_] _
   refine g_op_not rfl rfl ?_
   show G _ _ _ _ [_,_,_,_,_,_,_,_,_,_,_,_,_] _
   refine g_op (v := Value.bool true) rfl rfl rfl ?_
   show G _ _ _ _ [_,_,_,_,_,_,_,_,_,_,_,_,_] _
   refine g_op (v := Value.bool true) rfl rfl rfl ?_
   show G _ _ _ _ [_,_,_,_,_,_,_,_,_,_,_,_,_] _
   refine g_ops_nil ?_
   obtain rfl := Option.some.inj H
   refine g_ret Try.func4 (v := Value.bool true) (res1 rfl rfl) ?_
   have hs : St _ [] _ := St.take (Γ' := []) hs
   exact ⟨_, rfl, rfl, hs⟩
  intro hb
  rw [if_neg (b_dec_f hb)] at H
  show G _ _ _ _ [_,_,_,_,_,_,_,_,_,_,_,_,_] _
  refine g_op (v := Value.bool false) rfl rfl rfl ?_
  show G _ _ _ _ [_,_,_,_,_,_,_,_,_,_,_,_,_] _
  refine g_op (v := v4) rfl rfl rfl ?_
  show G _ _ _ _ [_,_,_,_,_,_,_,_,_,_,_,_,_] _
  refine s_len (hs.rd hr1) rfl rfl rfl rfl rfl ?_
  show G _ _ _ _ [_,_,_,_,_,_,_,_,_,_,_,_,_] _
  refine g_op (v := Value.bool (decide ((a3.length : Int) > 3000))) rfl rfl rfl ?_
  show G _ _ _ _ [_,_,_,_,_,_,_,_,_,_,_,_,_] _
  refine g_op (v := Value.bool (decide ((a3.length : Int) > 3000))) rfl rfl rfl ?_
  show G _ _ _ _ [_,_,_,_,_,_,_,_,_,_,_,_,_] _
  refine g_op (v := Value.bool (decide ((a3.length : Int) > 3000))) rfl rfl rfl ?_
  show G _ _ _ _ [_,_,_,_,_,_,_,_,_,_,_,_,_] _
  refine g_ops_nil ?_
  obtain rfl := Option.some.inj H
  refine g_ret Try.func4 (v := Value.bool (decide ((a3.length : Int) > 3000))) (res1 rfl rfl) ?_
  have hs : St _ [] _ := St.take (Γ' := []) hs
  exact ⟨_, rfl, rfl, hs⟩

/- function 22 spec_l00From -/
def spec_l00From.post (w0 : World) (v2 : Value) (r : S_spec_l00Src) (v : Value) (w : World) : Prop := ∃ b1 : Nat, v = Value.pointer (some ⟨b1, 0, none⟩) ∧ St w0 [Cells b1 (([v2, Value.int .i64 r.f_at, Value.int .u64 r.f_seed] : List Value)) 85] w
set_option maxHeartbeats 8000000 in
set_option maxRecDepth 100000 in
theorem spec_l00From.calls {N : Nat} {a1 : (List Int)} {v2 : Value} {w0 : World} {r : S_spec_l00Src} (hr0 : RdRow (K.int .u8) w0 v2 a1) (H : spec_l00From.f N a1 = some r) :
    Calls Try.prog 22 #[v2] w0 fun e w => ∃ v, e = .returned v ∧ spec_l00From.post w0 v2 r v w := by
  unfold spec_l00From.f at H
  have hs : St w0 [] w0 := St.refl w0
  refine calls_of_g (n := 5) Try.func22 rfl rfl ?_
  show G _ _ _ _ [_,_,_,_,_,_] _
  refine g_seq (g_region ?_)
  show G _ _ _ (.inRegion _ [0] :: _) _ _
  refine g_op (v := Value.pointer none) rfl rfl rfl ?_
  show G _ _ _ _ [_,_,_,_,_,_] _
  refine g_ops_nil (g_seq (g_region ?_))
  show G _ _ _ (.inRegion _ [0, 1, 2, 3] :: _) _ _
  refine g_op (v := v2) rfl rfl rfl ?_
  show G _ _ _ _ [_,_,_,_,_,_] _
  refine g_op (v := Value.agg (([v2, Value.int .i64 0, Value.int .u64 0] : List Value)).toArray) rfl rfl (x_buildS (cs := (([v2, Value.int .i64 0, Value.int .u64 0] : List Value))) (segs := [[Value.slice none 0 0], [Value.int .i64 0], [Value.int .u64 0]]) rfl rfl (fun _ => rfl) ⟨rfl, (fun _ => rfl), rfl, (fun _ => rfl), rfl, (fun _ => rfl), trivial⟩ (by simp only [List.map_cons, List.map_nil, List.forall_mem_cons, List.not_mem_nil, false_implies, implies_true, and_true]; exact ⟨_, rfl, slSize (hs.rd hr0)⟩) (by first | rfl | (simp [ev, encA, slCells (hs.rd hr0)]; done) | (simp [ev, encA, slCells (hs.rd hr0)]; rfl))) ?_
  show G _ _ _ _ [_,_,_,_,_,_] _
  refine s_box hs rfl rfl (cs := (([v2, Value.int .i64 0, Value.int .u64 0] : List Value))) rfl rfl ?_
  intro b3 w hs
  show G _ _ _ _ [_,_,_,_,_,_] _
  refine g_op (v := Value.pointer (some ⟨b3, 0, none⟩)) rfl rfl rfl ?_
  show G _ _ _ _ [_,_,_,_,_,_] _
  refine g_ops_nil ?_
  obtain rfl := Option.some.inj H
  refine g_ret Try.func22 (v := Value.pointer (some ⟨b3, 0, none⟩)) (res1 rfl rfl) ?_
  have hs := hs.pull 0 rfl
  have hs : St _ [_] _ := St.take (Γ' := []) hs
  exact ⟨_, rfl, b3, rfl, hs⟩

/- function 61 _spec_l00Src_next -/
def _spec_l00Src_next.post (wb : World) (Z : As) (b2 : Nat) (v3 : Value) (r : (Int × S_spec_l00Src)) (v : Value) (w : World) : Prop := v = Value.int .i64 r.1 ∧ St wb [Cells b2 (([v3, Value.int .i64 r.2.f_at, Value.int .u64 r.2.f_seed] : List Value)) 85, Z] w
set_option maxHeartbeats 8000000 in
set_option maxRecDepth 100000 in
theorem _spec_l00Src_next.calls {N : Nat} {a1 : S_spec_l00Src} {b2 : Nat} {v3 : Value} {wb : World} {Z : As} {w0 : World} {r : (Int × S_spec_l00Src)} (hs : St wb [Cells b2 (([v3, Value.int .i64 a1.f_at, Value.int .u64 a1.f_seed] : List Value)) 85, Z] w0) (hr4 : RdRow (K.int .u8) wb v3 a1.f_code) (H : _spec_l00Src_next.f N a1 = some r) :
    Calls Try.prog 61 #[Value.pointer (some ⟨b2, 0, none⟩)] w0 fun e w => ∃ v, e = .returned v ∧ _spec_l00Src_next.post wb Z b2 v3 r v w := by
  unfold _spec_l00Src_next.f at H
  refine calls_of_g (n := 61) Try.func61 rfl rfl ?_
  show G _ _ _ _ (_::_::_::_::_::_::_::_::_::_::_::_::_::_::_::_::_::_::_::_::_::_::_::_::_::_::_::_::_::_::_::_::_::_::_::_::_::_::_::_::_::_::_::_::_::_::_::_::_::_::_::_::_::_::_::_::_::_::_::_::_::_::[]) _
  refine g_seq (g_region ?_)
  show G _ _ _ (.inRegion _ [0] :: _) _ _
  refine g_op (v := Value.int .i64 0) rfl rfl rfl (g_d rfl ?_)
  try dsimp only [set0,setS]
  refine g_ops_nil (g_seq (g_region ?_))
  show G _ _ _ (.inRegion _ [0] :: _) _ _
  refine g_op (v := Value.int .i64 0) rfl rfl rfl (g_d rfl ?_)
  try dsimp only [set0,setS]
  refine g_ops_nil (g_seq (g_seq ?_))
  refine g_join2 (J := (fun t w => ∃ x6 : Int, _spec_l00Src_next.j0 N a1 x6 = some r ∧ Fr t (fun O => (Value.pointer (some ⟨b2, 0, none⟩)::O 1::O 2::Value.int .i64 x6::O 4::O 5::O 6::O 7::O 8::O 9::O 10::O 11::O 12::O 13::O 14::O 15::O 16::O 17::O 18::O 19::O 20::O 21::O 22::O 23::O 24::O 25::O 26::O 27::O 28::O 29::O 30::O 31::O 32::O 33::O 34::O 35::O 36::O 37::O 38::O 39::O 40::O 41::O 42::O 43::O 44::O 45::O 46::O 47::O 48::O 49::O 50::O 51::O 52::O 53::O 54::O 55::O 56::O 57::O 58::O 59::O 60::O 61::[] : List Value)) ∧ St wb [Cells b2 (([v3, Value.int .i64 a1.f_at, Value.int .u64 a1.f_seed] : List Value)) 85, Z] w)) ?_ ?_
  ·
   rintro t w ⟨x6, H, hf, hs⟩
   obtain ⟨O, rfl⟩ := hf.open
   try dsimp only
   unfold _spec_l00Src_next.j0 at H
   refine g_seq (g_region ?_)
   show G _ _ _ (.inRegion _ [0, 1, 2, 3, 4, 5, 6, 7] :: _) _ _
   refine g_op (v := Value.pointer (some ⟨b2, 0, none⟩)) rfl rfl rfl (g_d rfl ?_)
   refine g_op (v := Value.pointer (some ⟨b2, 0, none⟩)) rfl rfl rfl (g_d rfl ?_)
   refine g_op (v := Value.pointer (some ⟨b2, 1, none⟩)) rfl rfl rfl (g_d rfl ?_)
   refine s_load1 rfl rfl (v := Value.int .i64 a1.f_at) rfl rfl (fun _ => rfl) (cells_load (hs.cells 0 rfl) 1 1 rfl) (g_d rfl ?_)
   try dsimp only [set0,setS]
   refine g_op (v := Value.int .i64 (i64w (a1.f_at + 1))) rfl rfl rfl (g_d rfl ?_)
   try dsimp only [set0,setS]
   refine g_op (v := Value.pointer (some ⟨b2, 0, none⟩)) rfl rfl rfl (g_d rfl ?_)
   refine g_op (v := Value.pointer (some ⟨b2, 1, none⟩)) rfl rfl rfl (g_d rfl ?_)
   refine s_store hs rfl rfl (vs := ((encI .i64) (i64w (a1.f_at + 1)))) (cs' := (([v3, Value.int .i64 (i64w (a1.f_at + 1)), Value.int .u64 a1.f_seed] : List Value))) rfl rfl rfl (n := 1) (fun _ => rfl) ((fkI .i64).len _) (by first | exact Nat.le_of_ble_eq_true rfl | simp [encAI_len, encAB_len, encA_len]) ((fkI .i64).one _) rfl ?_
   intro w hs
   refine g_n rfl (g_ops_nil (g_seq (g_region ?_)))
   show G _ _ _ (.inRegion _ [0, 1, 2, 3, 4, 5, 6, 7, 8, 9, 10, 11, 12] :: _) _ _
   refine g_op (v := Value.pointer (some ⟨b2, 0, none⟩)) rfl rfl rfl (g_d rfl ?_)
   refine g_op (v := Value.pointer (some ⟨b2, 0, none⟩)) rfl rfl rfl (g_d rfl ?_)
   refine g_op (v := Value.pointer (some ⟨b2, 0, none⟩)) rfl rfl rfl (g_d rfl ?_)
   refine g_op (v := Value.pointer (some ⟨b2, 2, none⟩)) rfl rfl rfl (g_d rfl ?_)
   refine s_load1 rfl rfl (v := Value.int .u64 a1.f_seed) rfl rfl (fun _ => rfl) (cells_load (hs.cells 0 rfl) 2 1 rfl) (g_d rfl ?_)
   try dsimp only [set0,setS]
   refine g_op (v := Value.int .u64 (u64w (a1.f_seed * 6364136223846793005))) rfl rfl rfl (g_d rfl ?_)
   try dsimp only [set0,setS]
   refine g_op (v := Value.int .i64 x6) rfl rfl rfl (g_d rfl ?_)
   refine g_op (v := Value.int .u64 (u64w x6)) rfl rfl rfl (g_d rfl ?_)
   refine g_op (v := Value.int .u64 (u64w ((u64w (a1.f_seed * 6364136223846793005)) + (u64w x6)))) rfl rfl rfl (g_d rfl ?_)
   try dsimp only [set0,setS]
   refine g_op (v := Value.int .u64 (u64w ((u64w ((u64w (a1.f_seed * 6364136223846793005)) + (u64w x6))) + 1442695040888963407))) rfl rfl rfl (g_d rfl ?_)
   try dsimp only [set0,setS]
   refine g_op (v := Value.pointer (some ⟨b2, 0, none⟩)) rfl rfl rfl (g_d rfl ?_)
   refine g_op (v := Value.pointer (some ⟨b2, 2, none⟩)) rfl rfl rfl (g_d rfl ?_)
   refine s_store hs rfl rfl (vs := ((encI .u64) (u64w ((u64w ((u64w (a1.f_seed * 6364136223846793005)) + (u64w x6))) + 1442695040888963407)))) (cs' := (([v3, Value.int .i64 (i64w (a1.f_at + 1)), Value.int .u64 (u64w ((u64w ((u64w (a1.f_seed * 6364136223846793005)) + (u64w x6))) + 1442695040888963407))] : List Value))) rfl rfl rfl (n := 1) (fun _ => rfl) ((fkI .u64).len _) (by first | exact Nat.le_of_ble_eq_true rfl | simp [encAI_len, encAB_len, encA_len]) ((fkI .u64).one _) rfl ?_
   intro w hs
   refine g_n rfl (g_ops_nil (g_seq (g_seq ?_)))
   refine g_lay (n := 10) rfl [0, 1, 2, 3, 4, 5, 6, 7, 8, 9] [0, 1, 2, 3, 4, 5, 6, 7, 8, 9] rfl rfl ?_
   intro rest w hh hbw hO
   have hs := hs.samew hh hbw
   try dsimp only [set0,setS]
   refine g_name ?_
   intro T hT
   refine g_layer (m0 := 0) hO rfl 511 [0, 1, 2, 3, 4, 5, 6, 7, 8] [0, 1, 3, 7, 0, 16, 48, 112, 240, 511] (by decide +kernel) (fun D t w => ∃ O : Nat → Value, t = (Value.pointer (some ⟨b2, 0, none⟩)::O 1::O 2::Value.int .i64 x6::O 4::O 5::O 6::O 7::O 8::O 9::O 10::O 11::O 12::O 13::O 14::O 15::O 16::O 17::O 18::O 19::O 20::O 21::O 22::O 23::O 24::Value.pointer (some ⟨b2, 0, none⟩)::Value.pointer (some ⟨b2, 0, none⟩)::Value.pointer (some ⟨b2, 1, none⟩)::Value.int .i64 a1.f_at::Value.int .i64 (i64w (a1.f_at + 1))::Value.pointer (some ⟨b2, 0, none⟩)::Value.pointer (some ⟨b2, 1, none⟩)::Value.pointer (some ⟨b2, 0, none⟩)::Value.pointer (some ⟨b2, 0, none⟩)::Value.pointer (some ⟨b2, 0, none⟩)::Value.pointer (some ⟨b2, 2, none⟩)::Value.int .u64 a1.f_seed::Value.int .u64 (u64w (a1.f_seed * 6364136223846793005))::Value.int .i64 x6::Value.int .u64 (u64w x6)::Value.int .u64 (u64w ((u64w (a1.f_seed * 6364136223846793005)) + (u64w x6)))::Value.int .u64 (u64w ((u64w ((u64w (a1.f_seed * 6364136223846793005)) + (u64w x6))) + 1442695040888963407))::Value.pointer (some ⟨b2, 0, none⟩)::Value.pointer (some ⟨b2, 2, none⟩)::cnd (D 0) (Value.pointer (some ⟨b2, 0, none⟩)) (O 44)::cnd (D 1) (Value.pointer (some ⟨b2, 0, none⟩)) (O 45)::cnd (D 2) (Value.pointer (some ⟨b2, 1, none⟩)) (O 46)::cnd (D 3) (Value.int .i64 (i64w (a1.f_at + 1))) (O 47)::cnd (D 4) (Value.pointer (some ⟨b2, 0, none⟩)) (O 48)::cnd (D 5) (Value.pointer (some ⟨b2, 0, none⟩)) (O 49)::cnd (D 6) (Value.pointer (some ⟨b2, 0, none⟩)) (O 50)::cnd (D 7) v3 (O 51)::cnd (D 8) (Value.int .i64 (a1.f_code.length : Int)) (O 52)::O 53::O 54::O 55::O 56::O 57::O 58::O 59::O 60::O 61::[]) ∧ St wb [Cells b2 (([v3, Value.int .i64 (i64w (a1.f_at + 1)), Value.int .u64 (u64w ((u64w ((u64w (a1.f_seed * 6364136223846793005)) + (u64w x6))) + 1442695040888963407))] : List Value)) 85, Z] w) ?_ ⟨?_, ⟨?_, ⟨?_, ⟨?_, ⟨?_, ⟨?_, ⟨?_, ⟨?_, ⟨?_, trivial⟩⟩⟩⟩⟩⟩⟩⟩⟩ ?_
   · exact ⟨fun i => T.getD i undef, (by subst hT; rfl), hs⟩
   ·
    intro D t w hD hp hcl hI rest hk
    obtain ⟨O, ht, hs⟩ := hI
    have hp : AllDone D [] := hp
    have q1_ := ny hcl 1 0 hD
    have q2_ := ny hcl 2 0 q1_
    have q3_ := ny hcl 3 0 q2_
    simp only [hD, q1_, q2_, q3_, cq] at ht hs
    subst ht
    refine g_op (v := Value.pointer (some ⟨b2, 0, none⟩)) rfl rfl rfl (g_d rfl ?_)
    try dsimp only [set0,setS]
    refine hk _ _ ⟨O, ?_, hs.cast ?_⟩ <;> simp only [lq, cq, Nat.reduceBEq, q1_, q2_, q3_]
   ·
    intro D t w hD hp hcl hI rest hk
    obtain ⟨O, ht, hs⟩ := hI
    have hp : AllDone D [0] := hp
    obtain ⟨p0_, _⟩ := hp
    have q2_ := ny hcl 2 0 hD
    have q3_ := ny hcl 3 0 q2_
    simp only [hD, p0_, q2_, q3_, cq] at ht hs
    subst ht
    refine g_op (v := Value.pointer (some ⟨b2, 0, none⟩)) rfl rfl rfl (g_d rfl ?_)
    try dsimp only [set0,setS]
    refine hk _ _ ⟨O, ?_, hs.cast ?_⟩ <;> simp only [lq, cq, Nat.reduceBEq, p0_, q2_, q3_]
   ·
    intro D t w hD hp hcl hI rest hk
    obtain ⟨O, ht, hs⟩ := hI
    have hp : AllDone D [1] := hp
    obtain ⟨p1_, _⟩ := hp
    obtain ⟨p0_, _⟩ := (show D 1 = true → AllDone D [0] from hcl 1 (by decide)) p1_
    have q3_ := ny hcl 3 0 hD
    simp only [hD, p0_, p1_, q3_, cq] at ht hs
    subst ht
    refine g_op (v := Value.pointer (some ⟨b2, 1, none⟩)) rfl rfl rfl (g_d rfl ?_)
    try dsimp only [set0,setS]
    refine hk _ _ ⟨O, ?_, hs.cast ?_⟩ <;> simp only [lq, cq, Nat.reduceBEq, p0_, p1_, q3_]
   ·
    intro D t w hD hp hcl hI rest hk
    obtain ⟨O, ht, hs⟩ := hI
    have hp : AllDone D [2] := hp
    obtain ⟨p2_, _⟩ := hp
    obtain ⟨p1_, _⟩ := (show D 2 = true → AllDone D [1] from hcl 2 (by decide)) p2_
    obtain ⟨p0_, _⟩ := (show D 1 = true → AllDone D [0] from hcl 1 (by decide)) p1_
    simp only [hD, p0_, p1_, p2_, cq] at ht hs
    subst ht
    refine s_load1 rfl rfl (v := Value.int .i64 (i64w (a1.f_at + 1))) rfl rfl (fun _ => rfl) (cells_load (hs.cells 0 rfl) 1 1 rfl) (g_d rfl ?_)
    try dsimp only [set0,setS]
    refine hk _ _ ⟨O, ?_, hs.cast ?_⟩ <;> simp only [lq, cq, Nat.reduceBEq, p0_, p1_, p2_]
   ·
    intro D t w hD hp hcl hI rest hk
    obtain ⟨O, ht, hs⟩ := hI
    have hp : AllDone D [] := hp
    have q5_ := ny hcl 5 0 hD
    have q6_ := ny hcl 6 0 q5_
    have q7_ := ny hcl 7 0 q6_
    have q8_ := ny hcl 8 0 q7_
    simp only [hD, q5_, q6_, q7_, q8_, cq] at ht hs
    subst ht
    refine g_op (v := Value.pointer (some ⟨b2, 0, none⟩)) rfl rfl rfl (g_d rfl ?_)
    try dsimp only [set0,setS]
    refine hk _ _ ⟨O, ?_, hs.cast ?_⟩ <;> simp only [lq, cq, Nat.reduceBEq, q5_, q6_, q7_, q8_]
   ·
    intro D t w hD hp hcl hI rest hk
    obtain ⟨O, ht, hs⟩ := hI
    have hp : AllDone D [4] := hp
    obtain ⟨p4_, _⟩ := hp
    have q6_ := ny hcl 6 0 hD
    have q7_ := ny hcl 7 0 q6_
    have q8_ := ny hcl 8 0 q7_
    simp only [hD, p4_, q6_, q7_, q8_, cq] at ht hs
    subst ht
    refine g_op (v := Value.pointer (some ⟨b2, 0, none⟩)) rfl rfl rfl (g_d rfl ?_)
    try dsimp only [set0,setS]
    refine hk _ _ ⟨O, ?_, hs.cast ?_⟩ <;> simp only [lq, cq, Nat.reduceBEq, p4_, q6_, q7_, q8_]
   ·
    intro D t w hD hp hcl hI rest hk
    obtain ⟨O, ht, hs⟩ := hI
    have hp : AllDone D [5] := hp
    obtain ⟨p5_, _⟩ := hp
    obtain ⟨p4_, _⟩ := (show D 5 = true → AllDone D [4] from hcl 5 (by decide)) p5_
    have q7_ := ny hcl 7 0 hD
    have q8_ := ny hcl 8 0 q7_
    simp only [hD, p4_, p5_, q7_, q8_, cq] at ht hs
    subst ht
    refine g_op (v := Value.pointer (some ⟨b2, 0, none⟩)) rfl rfl rfl (g_d rfl ?_)
    try dsimp only [set0,setS]
    refine hk _ _ ⟨O, ?_, hs.cast ?_⟩ <;> simp only [lq, cq, Nat.reduceBEq, p4_, p5_, q7_, q8_]
   ·
    intro D t w hD hp hcl hI rest hk
    obtain ⟨O, ht, hs⟩ := hI
    have hp : AllDone D [6] := hp
    obtain ⟨p6_, _⟩ := hp
    obtain ⟨p5_, _⟩ := (show D 6 = true → AllDone D [5] from hcl 6 (by decide)) p6_
    obtain ⟨p4_, _⟩ := (show D 5 = true → AllDone D [4] from hcl 5 (by decide)) p5_
    have q8_ := ny hcl 8 0 hD
    simp only [hD, p4_, p5_, p6_, q8_, cq] at ht hs
    subst ht
    refine s_load1 rfl rfl (v := v3) rfl rfl (fun _ => rfl) (cells_load (hs.cells 0 rfl) 0 1 rfl) (g_d rfl ?_)
    try dsimp only [set0,setS]
    refine hk _ _ ⟨O, ?_, hs.cast ?_⟩ <;> simp only [lq, cq, Nat.reduceBEq, p4_, p5_, p6_, q8_]
   ·
    intro D t w hD hp hcl hI rest hk
    obtain ⟨O, ht, hs⟩ := hI
    have hp : AllDone D [7] := hp
    obtain ⟨p7_, _⟩ := hp
    obtain ⟨p6_, _⟩ := (show D 7 = true → AllDone D [6] from hcl 7 (by decide)) p7_
    obtain ⟨p5_, _⟩ := (show D 6 = true → AllDone D [5] from hcl 6 (by decide)) p6_
    obtain ⟨p4_, _⟩ := (show D 5 = true → AllDone D [4] from hcl 5 (by decide)) p5_
    simp only [hD, p4_, p5_, p6_, p7_, cq] at ht hs
    subst ht
    refine s_len (hs.rd hr4) rfl rfl rfl rfl rfl (g_d rfl ?_)
    try dsimp only [set0,setS]
    refine hk _ _ ⟨O, ?_, hs.cast ?_⟩ <;> simp only [lq, cq, Nat.reduceBEq, p4_, p5_, p6_, p7_]
   intro D t w rest hall hO5_ hI
   obtain ⟨O, ht, hs⟩ := hI
   have p0_ : D 0 = true := hall 0 (by decide) rfl
   have p1_ : D 1 = true := hall 1 (by decide) rfl
   have p2_ : D 2 = true := hall 2 (by decide) rfl
   have p3_ : D 3 = true := hall 3 (by decide) rfl
   have p4_ : D 4 = true := hall 4 (by decide) rfl
   have p5_ : D 5 = true := hall 5 (by decide) rfl
   have p6_ : D 6 = true := hall 6 (by decide) rfl
   have p7_ : D 7 = true := hall 7 (by decide) rfl
   have p8_ : D 8 = true := hall 8 (by decide) rfl
   simp only [p0_, p1_, p2_, p3_, p4_, p5_, p6_, p7_, p8_, cq] at ht hs
   subst ht
   obtain ⟨rest, rfl, hO6_⟩ := ord_one (m := 511) hO5_ rfl 9 (m' := 1023) (by decide +kernel) rfl
   clear hO5_
   refine g_op_b (B := decide ((i64w (a1.f_at + 1)) ≤ (a1.f_code.length : Int))) rfl rfl rfl ?_ ?_
   ·
    intro hb
    rw [if_pos (b_dec_t hb)] at H
    refine g_d rfl ?_
    try dsimp only [set0,setS]
    obtain rfl := ord_end hO6_ rfl (by decide +kernel)
    refine g_ops_nil (g_cond_true rfl (g_seq (g_region ?_)))
    show G _ _ _ (.inRegion _ [0, 1] :: _) _ _
    refine g_op (v := Value.int .i64 x6) rfl rfl rfl (g_d rfl ?_)
    refine g_op (v := Value.int .i64 x6) rfl rfl rfl (g_d rfl ?_)
    try dsimp only [set0,setS]
    refine g_ops_nil ?_
    obtain rfl := Option.some.inj H
    refine g_ret Try.func61 (v := Value.int .i64 x6) (res1 rfl rfl) ?_
    have hs := hs.pull 1 rfl
    have hs := hs.pull 1 rfl
    have hs : St _ [_,_] _ := St.take (Γ' := []) hs
    exact ⟨_, rfl, rfl, hs⟩
   intro hb
   rw [if_neg (b_dec_f hb)] at H
   refine g_d rfl ?_
   try dsimp only [set0,setS]
   obtain rfl := ord_end hO6_ rfl (by decide +kernel)
   refine g_ops_nil (g_cond_false rfl (g_skip (g_seq (g_region ?_))))
   show G _ _ _ (.inRegion _ [0, 1, 2, 3, 4, 5, 6, 7] :: _) _ _
   refine g_op (v := Value.pointer (some ⟨b2, 0, none⟩)) rfl rfl rfl (g_d rfl ?_)
   refine g_op (v := Value.pointer (some ⟨b2, 0, none⟩)) rfl rfl rfl (g_d rfl ?_)
   refine g_op (v := Value.pointer (some ⟨b2, 2, none⟩)) rfl rfl rfl (g_d rfl ?_)
   refine s_load1 rfl rfl (v := Value.int .u64 (u64w ((u64w ((u64w (a1.f_seed * 6364136223846793005)) + (u64w x6))) + 1442695040888963407))) rfl rfl (fun _ => rfl) (cells_load (hs.cells 0 rfl) 2 1 rfl) (g_d rfl ?_)
   try dsimp only [set0,setS]
   refine g_op (v := Value.int .u64 (shrI .u64 (u64w ((u64w ((u64w (a1.f_seed * 6364136223846793005)) + (u64w x6))) + 1442695040888963407)) 40)) rfl rfl rfl (g_d rfl ?_)
   try dsimp only [set0,setS]
   refine g_op (v := Value.int .u64 (bAnd .u64 (shrI .u64 (u64w ((u64w ((u64w (a1.f_seed * 6364136223846793005)) + (u64w x6))) + 1442695040888963407)) 40) 255)) rfl rfl rfl (g_d rfl ?_)
   try dsimp only [set0,setS]
   refine g_op (v := Value.int .i64 (i64w (bAnd .u64 (shrI .u64 (u64w ((u64w ((u64w (a1.f_seed * 6364136223846793005)) + (u64w x6))) + 1442695040888963407)) 40) 255))) rfl rfl rfl (g_d rfl ?_)
   refine g_op (v := Value.int .i64 (i64w (bAnd .u64 (shrI .u64 (u64w ((u64w ((u64w (a1.f_seed * 6364136223846793005)) + (u64w x6))) + 1442695040888963407)) 40) 255))) rfl rfl rfl (g_d rfl ?_)
   try dsimp only [set0,setS]
   refine g_ops_nil ?_
   obtain rfl := Option.some.inj H
   refine g_ret Try.func61 (v := Value.int .i64 (i64w (bAnd .u64 (shrI .u64 (u64w ((u64w ((u64w (a1.f_seed * 6364136223846793005)) + (u64w x6))) + 1442695040888963407)) 40) 255))) (res1 rfl rfl) ?_
   have hs := hs.pull 1 rfl
   have hs := hs.pull 1 rfl
   have hs : St _ [_,_] _ := St.take (Γ' := []) hs
   exact ⟨_, rfl, rfl, hs⟩
  intro ha
  refine g_lay (n := 10) rfl [0, 1, 2, 3, 4, 5, 6, 7, 8, 9] [0, 1, 2, 3, 4, 5, 6, 7, 8, 9] rfl rfl ?_
  intro rest w hh hbw hO
  have hs := hs.samew hh hbw
  try dsimp only [set0,setS]
  refine g_name ?_
  intro T hT
  refine g_layer (m0 := 0) hO rfl 511 [0, 1, 2, 3, 4, 5, 6, 7, 8] [0, 1, 3, 7, 0, 16, 48, 112, 240, 511] (by decide +kernel) (fun D t w => ∃ O : Nat → Value, t = (Value.pointer (some ⟨b2, 0, none⟩)::O 1::Value.int .i64 0::Value.int .i64 0::cnd (D 0) (Value.pointer (some ⟨b2, 0, none⟩)) (O 4)::cnd (D 1) (Value.pointer (some ⟨b2, 0, none⟩)) (O 5)::cnd (D 2) (Value.pointer (some ⟨b2, 1, none⟩)) (O 6)::cnd (D 3) (Value.int .i64 a1.f_at) (O 7)::cnd (D 4) (Value.pointer (some ⟨b2, 0, none⟩)) (O 8)::cnd (D 5) (Value.pointer (some ⟨b2, 0, none⟩)) (O 9)::cnd (D 6) (Value.pointer (some ⟨b2, 0, none⟩)) (O 10)::cnd (D 7) v3 (O 11)::cnd (D 8) (Value.int .i64 (a1.f_code.length : Int)) (O 12)::O 13::O 14::O 15::O 16::O 17::O 18::O 19::O 20::O 21::O 22::O 23::O 24::O 25::O 26::O 27::O 28::O 29::O 30::O 31::O 32::O 33::O 34::O 35::O 36::O 37::O 38::O 39::O 40::O 41::O 42::O 43::O 44::O 45::O 46::O 47::O 48::O 49::O 50::O 51::O 52::O 53::O 54::O 55::O 56::O 57::O 58::O 59::O 60::O 61::[]) ∧ St wb [Cells b2 (([v3, Value.int .i64 a1.f_at, Value.int .u64 a1.f_seed] : List Value)) 85, Z] w) ?_ ⟨?_, ⟨?_, ⟨?_, ⟨?_, ⟨?_, ⟨?_, ⟨?_, ⟨?_, ⟨?_, trivial⟩⟩⟩⟩⟩⟩⟩⟩⟩ ?_
  · exact ⟨fun i => T.getD i undef, (by subst hT; rfl), hs⟩
  ·
   intro D t w hD hp hcl hI rest hk
   obtain ⟨O, ht, hs⟩ := hI
   have hp : AllDone D [] := hp
   have q1_ := ny hcl 1 0 hD
   have q2_ := ny hcl 2 0 q1_
   have q3_ := ny hcl 3 0 q2_
   simp only [hD, q1_, q2_, q3_, cq] at ht hs
   subst ht
   refine g_op (v := Value.pointer (some ⟨b2, 0, none⟩)) rfl rfl rfl (g_d rfl ?_)
   try dsimp only [set0,setS]
   refine hk _ _ ⟨O, ?_, hs.cast ?_⟩ <;> simp only [lq, cq, Nat.reduceBEq, q1_, q2_, q3_]
  ·
   intro D t w hD hp hcl hI rest hk
   obtain ⟨O, ht, hs⟩ := hI
   have hp : AllDone D [0] := hp
   obtain ⟨p0_, _⟩ := hp
   have q2_ := ny hcl 2 0 hD
   have q3_ := ny hcl 3 0 q2_
   simp only [hD, p0_, q2_, q3_, cq] at ht hs
   subst ht
   refine g_op (v := Value.pointer (some ⟨b2, 0, none⟩)) rfl rfl rfl (g_d rfl ?_)
   try dsimp only [set0,setS]
   refine hk _ _ ⟨O, ?_, hs.cast ?_⟩ <;> simp only [lq, cq, Nat.reduceBEq, p0_, q2_, q3_]
  ·
   intro D t w hD hp hcl hI rest hk
   obtain ⟨O, ht, hs⟩ := hI
   have hp : AllDone D [1] := hp
   obtain ⟨p1_, _⟩ := hp
   obtain ⟨p0_, _⟩ := (show D 1 = true → AllDone D [0] from hcl 1 (by decide)) p1_
   have q3_ := ny hcl 3 0 hD
   simp only [hD, p0_, p1_, q3_, cq] at ht hs
   subst ht
   refine g_op (v := Value.pointer (some ⟨b2, 1, none⟩)) rfl rfl rfl (g_d rfl ?_)
   try dsimp only [set0,setS]
   refine hk _ _ ⟨O, ?_, hs.cast ?_⟩ <;> simp only [lq, cq, Nat.reduceBEq, p0_, p1_, q3_]
  ·
   intro D t w hD hp hcl hI rest hk
   obtain ⟨O, ht, hs⟩ := hI
   have hp : AllDone D [2] := hp
   obtain ⟨p2_, _⟩ := hp
   obtain ⟨p1_, _⟩ := (show D 2 = true → AllDone D [1] from hcl 2 (by decide)) p2_
   obtain ⟨p0_, _⟩ := (show D 1 = true → AllDone D [0] from hcl 1 (by decide)) p1_
   simp only [hD, p0_, p1_, p2_, cq] at ht hs
   subst ht
   refine s_load1 rfl rfl (v := Value.int .i64 a1.f_at) rfl rfl (fun _ => rfl) (cells_load (hs.cells 0 rfl) 1 1 rfl) (g_d rfl ?_)
   try dsimp only [set0,setS]
   refine hk _ _ ⟨O, ?_, hs.cast ?_⟩ <;> simp only [lq, cq, Nat.reduceBEq, p0_, p1_, p2_]
  ·
   intro D t w hD hp hcl hI rest hk
   obtain ⟨O, ht, hs⟩ := hI
   have hp : AllDone D [] := hp
   have q5_ := ny hcl 5 0 hD
   have q6_ := ny hcl 6 0 q5_
   have q7_ := ny hcl 7 0 q6_
   have q8_ := ny hcl 8 0 q7_
   simp only [hD, q5_, q6_, q7_, q8_, cq] at ht hs
   subst ht
   refine g_op (v := Value.pointer (some ⟨b2, 0, none⟩)) rfl rfl rfl (g_d rfl ?_)
   try dsimp only [set0,setS]
   refine hk _ _ ⟨O, ?_, hs.cast ?_⟩ <;> simp only [lq, cq, Nat.reduceBEq, q5_, q6_, q7_, q8_]
  ·
   intro D t w hD hp hcl hI rest hk
   obtain ⟨O, ht, hs⟩ := hI
   have hp : AllDone D [4] := hp
   obtain ⟨p4_, _⟩ := hp
   have q6_ := ny hcl 6 0 hD
   have q7_ := ny hcl 7 0 q6_
   have q8_ := ny hcl 8 0 q7_
   simp only [hD, p4_, q6_, q7_, q8_, cq] at ht hs
   subst ht
   refine g_op (v := Value.pointer (some ⟨b2, 0, none⟩)) rfl rfl rfl (g_d rfl ?_)
   try dsimp only [set0,setS]
   refine hk _ _ ⟨O, ?_, hs.cast ?_⟩ <;> simp only [lq, cq, Nat.reduceBEq, p4_, q6_, q7_, q8_]
  ·
   intro D t w hD hp hcl hI rest hk
   obtain ⟨O, ht, hs⟩ := hI
   have hp : AllDone D [5] := hp
   obtain ⟨p5_, _⟩ := hp
   obtain ⟨p4_, _⟩ := (show D 5 = true → AllDone D [4] from hcl 5 (by decide)) p5_
   have q7_ := ny hcl 7 0 hD
   have q8_ := ny hcl 8 0 q7_
   simp only [hD, p4_, p5_, q7_, q8_, cq] at ht hs
   subst ht
   refine g_op (v := Value.pointer (some ⟨b2, 0, none⟩)) rfl rfl rfl (g_d rfl ?_)
   try dsimp only [set0,setS]
   refine hk _ _ ⟨O, ?_, hs.cast ?_⟩ <;> simp only [lq, cq, Nat.reduceBEq, p4_, p5_, q7_, q8_]
  ·
   intro D t w hD hp hcl hI rest hk
   obtain ⟨O, ht, hs⟩ := hI
   have hp : AllDone D [6] := hp
   obtain ⟨p6_, _⟩ := hp
   obtain ⟨p5_, _⟩ := (show D 6 = true → AllDone D [5] from hcl 6 (by decide)) p6_
   obtain ⟨p4_, _⟩ := (show D 5 = true → AllDone D [4] from hcl 5 (by decide)) p5_
   have q8_ := ny hcl 8 0 hD
   simp only [hD, p4_, p5_, p6_, q8_, cq] at ht hs
   subst ht
   refine s_load1 rfl rfl (v := v3) rfl rfl (fun _ => rfl) (cells_load (hs.cells 0 rfl) 0 1 rfl) (g_d rfl ?_)
   try dsimp only [set0,setS]
   refine hk _ _ ⟨O, ?_, hs.cast ?_⟩ <;> simp only [lq, cq, Nat.reduceBEq, p4_, p5_, p6_, q8_]
  ·
   intro D t w hD hp hcl hI rest hk
   obtain ⟨O, ht, hs⟩ := hI
   have hp : AllDone D [7] := hp
   obtain ⟨p7_, _⟩ := hp
   obtain ⟨p6_, _⟩ := (show D 7 = true → AllDone D [6] from hcl 7 (by decide)) p7_
   obtain ⟨p5_, _⟩ := (show D 6 = true → AllDone D [5] from hcl 6 (by decide)) p6_
   obtain ⟨p4_, _⟩ := (show D 5 = true → AllDone D [4] from hcl 5 (by decide)) p5_
   simp only [hD, p4_, p5_, p6_, p7_, cq] at ht hs
   subst ht
   refine s_len (hs.rd hr4) rfl rfl rfl rfl rfl (g_d rfl ?_)
   try dsimp only [set0,setS]
   refine hk _ _ ⟨O, ?_, hs.cast ?_⟩ <;> simp only [lq, cq, Nat.reduceBEq, p4_, p5_, p6_, p7_]
  intro D t w rest hall hO1_ hI
  obtain ⟨O, ht, hs⟩ := hI
  have p0_ : D 0 = true := hall 0 (by decide) rfl
  have p1_ : D 1 = true := hall 1 (by decide) rfl
  have p2_ : D 2 = true := hall 2 (by decide) rfl
  have p3_ : D 3 = true := hall 3 (by decide) rfl
  have p4_ : D 4 = true := hall 4 (by decide) rfl
  have p5_ : D 5 = true := hall 5 (by decide) rfl
  have p6_ : D 6 = true := hall 6 (by decide) rfl
  have p7_ : D 7 = true := hall 7 (by decide) rfl
  have p8_ : D 8 = true := hall 8 (by decide) rfl
  simp only [p0_, p1_, p2_, p3_, p4_, p5_, p6_, p7_, p8_, cq] at ht hs
  subst ht
  obtain ⟨rest, rfl, hO2_⟩ := ord_one (m := 511) hO1_ rfl 9 (m' := 1023) (by decide +kernel) rfl
  clear hO1_
  refine g_op_b (B := decide (a1.f_at < (a1.f_code.length : Int))) rfl rfl rfl ?_ ?_
  ·
   intro hb
   rw [if_pos (b_dec_t hb)] at H
   refine g_d rfl ?_
   try dsimp only [set0,setS]
   obtain rfl := ord_end hO2_ rfl (by decide +kernel)
   refine g_ops_nil (g_cond_true rfl ?_)
   obtain ⟨gd3, H⟩ := ite_get H
   obtain ⟨ad4_, ad4_N, ad4_C, had4_⟩ := sl_at (hs.rd hr4) gd3.1 gd3.2
   refine g_name ?_
   intro T hT
   refine g_any (n := 12) rfl [0, 1, 2, 3, 4, 5, 6, 7, 8, 9, 10, 11] [0, 1, 2, 3, 4, 5, 6, 7, 8, 9, 10, 11] rfl rfl (Inv := fun D t w => ∃ O : Nat → Value, t = (Value.pointer (some ⟨b2, 0, none⟩)::O 1::Value.int .i64 0::cnd (D 11) (Value.int .i64 (i64w (rdL a1.f_code a1.f_at 0))) (Value.int .i64 0)::Value.pointer (some ⟨b2, 0, none⟩)::Value.pointer (some ⟨b2, 0, none⟩)::Value.pointer (some ⟨b2, 1, none⟩)::Value.int .i64 a1.f_at::Value.pointer (some ⟨b2, 0, none⟩)::Value.pointer (some ⟨b2, 0, none⟩)::Value.pointer (some ⟨b2, 0, none⟩)::v3::Value.int .i64 (a1.f_code.length : Int)::Value.bool true::cnd (D 0) (Value.pointer (some ⟨b2, 0, none⟩)) (O 14)::cnd (D 1) (Value.pointer (some ⟨b2, 0, none⟩)) (O 15)::cnd (D 2) (Value.pointer (some ⟨b2, 0, none⟩)) (O 16)::cnd (D 3) v3 (O 17)::cnd (D 4) (Value.pointer (some ⟨b2, 0, none⟩)) (O 18)::cnd (D 5) (Value.pointer (some ⟨b2, 0, none⟩)) (O 19)::cnd (D 6) (Value.pointer (some ⟨b2, 1, none⟩)) (O 20)::cnd (D 7) (Value.int .i64 a1.f_at) (O 21)::cnd (D 8) (Value.pointer (some (ad4_.add (a1.f_at.toNat * 1)))) (O 22)::cnd (D 9) (Value.int .u8 (rdL a1.f_code a1.f_at 0)) (O 23)::cnd (D 10) (Value.int .i64 (i64w (rdL a1.f_code a1.f_at 0))) (O 24)::O 25::O 26::O 27::O 28::O 29::O 30::O 31::O 32::O 33::O 34::O 35::O 36::O 37::O 38::O 39::O 40::O 41::O 42::O 43::O 44::O 45::O 46::O 47::O 48::O 49::O 50::O 51::O 52::O 53::O 54::O 55::O 56::O 57::O 58::O 59::O 60::O 61::[]) ∧ St wb [Cells b2 (([v3, Value.int .i64 a1.f_at, Value.int .u64 a1.f_seed] : List Value)) 85, Z] w) ?_ ⟨⟨⟨⟨⟨⟨⟨⟨⟨⟨⟨⟨trivial, ?_⟩, ?_⟩, ?_⟩, ?_⟩, ?_⟩, ?_⟩, ?_⟩, ?_⟩, ?_⟩, ?_⟩, ?_⟩, ?_⟩ ?_
   ·
    intro w hh hbw
    have hs := hs.samew hh hbw
    exact ⟨fun i => T.getD i undef, (by subst hT; rfl), hs⟩
   ·
    intro D t w hD hp hcl hI rest hk
    obtain ⟨O, ht, hs⟩ := hI
    have q1_ := nz hcl 1 0 hD
    have q2_ := nz hcl 2 0 q1_
    have q3_ := nz hcl 3 0 q2_
    have q8_ := nz hcl 8 0 q3_
    have q9_ := nz hcl 9 0 q8_
    have q10_ := nz hcl 10 0 q9_
    have q11_ := nz hcl 11 0 q10_
    simp only [hD, q1_, q2_, q3_, q8_, q9_, q10_, q11_, cq] at ht hs
    subst ht
    refine g_op (v := Value.pointer (some ⟨b2, 0, none⟩)) rfl rfl rfl (g_d rfl ?_)
    try dsimp only [set0,setS]
    refine hk _ _ ⟨O, ?_, hs.cast ?_⟩ <;> simp only [lq, cq, Nat.reduceBEq, q1_, q2_, q3_, q8_, q9_, q10_, q11_]
   ·
    intro D t w hD hp hcl hI rest hk
    obtain ⟨O, ht, hs⟩ := hI
    obtain ⟨p0_, _⟩ := hp
    have q2_ := nz hcl 2 0 hD
    have q3_ := nz hcl 3 0 q2_
    have q8_ := nz hcl 8 0 q3_
    have q9_ := nz hcl 9 0 q8_
    have q10_ := nz hcl 10 0 q9_
    have q11_ := nz hcl 11 0 q10_
    simp only [hD, p0_, q2_, q3_, q8_, q9_, q10_, q11_, cq] at ht hs
    subst ht
    refine g_op (v := Value.pointer (some ⟨b2, 0, none⟩)) rfl rfl rfl (g_d rfl ?_)
    try dsimp only [set0,setS]
    refine hk _ _ ⟨O, ?_, hs.cast ?_⟩ <;> simp only [lq, cq, Nat.reduceBEq, p0_, q2_, q3_, q8_, q9_, q10_, q11_]
   ·
    intro D t w hD hp hcl hI rest hk
    obtain ⟨O, ht, hs⟩ := hI
    obtain ⟨p1_, _⟩ := hp
    obtain ⟨p0_, _⟩ := (hcl.get 1 (by decide)) p1_
    have q3_ := nz hcl 3 0 hD
    have q8_ := nz hcl 8 0 q3_
    have q9_ := nz hcl 9 0 q8_
    have q10_ := nz hcl 10 0 q9_
    have q11_ := nz hcl 11 0 q10_
    simp only [hD, p0_, p1_, q3_, q8_, q9_, q10_, q11_, cq] at ht hs
    subst ht
    refine g_op (v := Value.pointer (some ⟨b2, 0, none⟩)) rfl rfl rfl (g_d rfl ?_)
    try dsimp only [set0,setS]
    refine hk _ _ ⟨O, ?_, hs.cast ?_⟩ <;> simp only [lq, cq, Nat.reduceBEq, p0_, p1_, q3_, q8_, q9_, q10_, q11_]
   ·
    intro D t w hD hp hcl hI rest hk
    obtain ⟨O, ht, hs⟩ := hI
    obtain ⟨p2_, _⟩ := hp
    obtain ⟨p1_, _⟩ := (hcl.get 2 (by decide)) p2_
    obtain ⟨p0_, _⟩ := (hcl.get 1 (by decide)) p1_
    have q8_ := nz hcl 8 0 hD
    have q9_ := nz hcl 9 0 q8_
    have q10_ := nz hcl 10 0 q9_
    have q11_ := nz hcl 11 0 q10_
    simp only [hD, p0_, p1_, p2_, q8_, q9_, q10_, q11_, cq] at ht hs
    subst ht
    refine s_load1 rfl rfl (v := v3) rfl rfl (fun _ => rfl) (cells_load (hs.cells 0 rfl) 0 1 rfl) (g_d rfl ?_)
    try dsimp only [set0,setS]
    refine hk _ _ ⟨O, ?_, hs.cast ?_⟩ <;> simp only [lq, cq, Nat.reduceBEq, p0_, p1_, p2_, q8_, q9_, q10_, q11_]
   ·
    intro D t w hD hp hcl hI rest hk
    obtain ⟨O, ht, hs⟩ := hI
    have q5_ := nz hcl 5 0 hD
    have q6_ := nz hcl 6 0 q5_
    have q7_ := nz hcl 7 0 q6_
    have q8_ := nz hcl 8 1 q7_
    have q9_ := nz hcl 9 0 q8_
    have q10_ := nz hcl 10 0 q9_
    have q11_ := nz hcl 11 0 q10_
    simp only [hD, q5_, q6_, q7_, q8_, q9_, q10_, q11_, cq] at ht hs
    subst ht
    refine g_op (v := Value.pointer (some ⟨b2, 0, none⟩)) rfl rfl rfl (g_d rfl ?_)
    try dsimp only [set0,setS]
    refine hk _ _ ⟨O, ?_, hs.cast ?_⟩ <;> simp only [lq, cq, Nat.reduceBEq, q5_, q6_, q7_, q8_, q9_, q10_, q11_]
   ·
    intro D t w hD hp hcl hI rest hk
    obtain ⟨O, ht, hs⟩ := hI
    obtain ⟨p4_, _⟩ := hp
    have q6_ := nz hcl 6 0 hD
    have q7_ := nz hcl 7 0 q6_
    have q8_ := nz hcl 8 1 q7_
    have q9_ := nz hcl 9 0 q8_
    have q10_ := nz hcl 10 0 q9_
    have q11_ := nz hcl 11 0 q10_
    simp only [hD, p4_, q6_, q7_, q8_, q9_, q10_, q11_, cq] at ht hs
    subst ht
    refine g_op (v := Value.pointer (some ⟨b2, 0, none⟩)) rfl rfl rfl (g_d rfl ?_)
    try dsimp only [set0,setS]
    refine hk _ _ ⟨O, ?_, hs.cast ?_⟩ <;> simp only [lq, cq, Nat.reduceBEq, p4_, q6_, q7_, q8_, q9_, q10_, q11_]
   ·
    intro D t w hD hp hcl hI rest hk
    obtain ⟨O, ht, hs⟩ := hI
    obtain ⟨p5_, _⟩ := hp
    obtain ⟨p4_, _⟩ := (hcl.get 5 (by decide)) p5_
    have q7_ := nz hcl 7 0 hD
    have q8_ := nz hcl 8 1 q7_
    have q9_ := nz hcl 9 0 q8_
    have q10_ := nz hcl 10 0 q9_
    have q11_ := nz hcl 11 0 q10_
    simp only [hD, p4_, p5_, q7_, q8_, q9_, q10_, q11_, cq] at ht hs
    subst ht
    refine g_op (v := Value.pointer (some ⟨b2, 1, none⟩)) rfl rfl rfl (g_d rfl ?_)
    try dsimp only [set0,setS]
    refine hk _ _ ⟨O, ?_, hs.cast ?_⟩ <;> simp only [lq, cq, Nat.reduceBEq, p4_, p5_, q7_, q8_, q9_, q10_, q11_]
   ·
    intro D t w hD hp hcl hI rest hk
    obtain ⟨O, ht, hs⟩ := hI
    obtain ⟨p6_, _⟩ := hp
    obtain ⟨p5_, _⟩ := (hcl.get 6 (by decide)) p6_
    obtain ⟨p4_, _⟩ := (hcl.get 5 (by decide)) p5_
    have q8_ := nz hcl 8 1 hD
    have q9_ := nz hcl 9 0 q8_
    have q10_ := nz hcl 10 0 q9_
    have q11_ := nz hcl 11 0 q10_
    simp only [hD, p4_, p5_, p6_, q8_, q9_, q10_, q11_, cq] at ht hs
    subst ht
    refine s_load1 rfl rfl (v := Value.int .i64 a1.f_at) rfl rfl (fun _ => rfl) (cells_load (hs.cells 0 rfl) 1 1 rfl) (g_d rfl ?_)
    try dsimp only [set0,setS]
    refine hk _ _ ⟨O, ?_, hs.cast ?_⟩ <;> simp only [lq, cq, Nat.reduceBEq, p4_, p5_, p6_, q8_, q9_, q10_, q11_]
   ·
    intro D t w hD hp hcl hI rest hk
    obtain ⟨O, ht, hs⟩ := hI
    obtain ⟨p3_, p7_, _⟩ := hp
    obtain ⟨p6_, _⟩ := (hcl.get 7 (by decide)) p7_
    obtain ⟨p5_, _⟩ := (hcl.get 6 (by decide)) p6_
    obtain ⟨p4_, _⟩ := (hcl.get 5 (by decide)) p5_
    obtain ⟨p2_, _⟩ := (hcl.get 3 (by decide)) p3_
    obtain ⟨p1_, _⟩ := (hcl.get 2 (by decide)) p2_
    obtain ⟨p0_, _⟩ := (hcl.get 1 (by decide)) p1_
    have q9_ := nz hcl 9 0 hD
    have q10_ := nz hcl 10 0 q9_
    have q11_ := nz hcl 11 0 q10_
    simp only [hD, p0_, p1_, p2_, p3_, p4_, p5_, p6_, p7_, q9_, q10_, q11_, cq] at ht hs
    subst ht
    refine s_idxD (κ := (K.int .u8)) (m := 1) rfl (hs.rd hr4) rfl (fun _ => rfl) gd3.1 gd3.2 had4_ rfl rfl rfl rfl rfl (g_d rfl ?_)
    try dsimp only [set0,setS]
    refine hk _ _ ⟨O, ?_, hs.cast ?_⟩ <;> simp only [lq, cq, Nat.reduceBEq, p0_, p1_, p2_, p3_, p4_, p5_, p6_, p7_, q9_, q10_, q11_]
   ·
    intro D t w hD hp hcl hI rest hk
    obtain ⟨O, ht, hs⟩ := hI
    obtain ⟨p8_, _⟩ := hp
    obtain ⟨p3_, p7_, _⟩ := (hcl.get 8 (by decide)) p8_
    obtain ⟨p6_, _⟩ := (hcl.get 7 (by decide)) p7_
    obtain ⟨p5_, _⟩ := (hcl.get 6 (by decide)) p6_
    obtain ⟨p4_, _⟩ := (hcl.get 5 (by decide)) p5_
    obtain ⟨p2_, _⟩ := (hcl.get 3 (by decide)) p3_
    obtain ⟨p1_, _⟩ := (hcl.get 2 (by decide)) p2_
    obtain ⟨p0_, _⟩ := (hcl.get 1 (by decide)) p1_
    have q10_ := nz hcl 10 0 hD
    have q11_ := nz hcl 11 0 q10_
    simp only [hD, p0_, p1_, p2_, p3_, p4_, p5_, p6_, p7_, p8_, q10_, q11_, cq] at ht hs
    subst ht
    refine s_load1 rfl rfl (v := Value.int .u8 (rdL a1.f_code a1.f_at 0)) rfl rfl (fun _ => rfl) (cellsAt_of (fkI .u8) 0 (hs.rd hr4) had4_ gd3.1 gd3.2) (g_d rfl ?_)
    try dsimp only [set0,setS]
    refine hk _ _ ⟨O, ?_, hs.cast ?_⟩ <;> simp only [lq, cq, Nat.reduceBEq, p0_, p1_, p2_, p3_, p4_, p5_, p6_, p7_, p8_, q10_, q11_]
   ·
    intro D t w hD hp hcl hI rest hk
    obtain ⟨O, ht, hs⟩ := hI
    obtain ⟨p9_, _⟩ := hp
    obtain ⟨p8_, _⟩ := (hcl.get 9 (by decide)) p9_
    obtain ⟨p3_, p7_, _⟩ := (hcl.get 8 (by decide)) p8_
    obtain ⟨p6_, _⟩ := (hcl.get 7 (by decide)) p7_
    obtain ⟨p5_, _⟩ := (hcl.get 6 (by decide)) p6_
    obtain ⟨p4_, _⟩ := (hcl.get 5 (by decide)) p5_
    obtain ⟨p2_, _⟩ := (hcl.get 3 (by decide)) p3_
    obtain ⟨p1_, _⟩ := (hcl.get 2 (by decide)) p2_
    obtain ⟨p0_, _⟩ := (hcl.get 1 (by decide)) p1_
    have q11_ := nz hcl 11 0 hD
    simp only [hD, p0_, p1_, p2_, p3_, p4_, p5_, p6_, p7_, p8_, p9_, q11_, cq] at ht hs
    subst ht
    refine g_op (v := Value.int .i64 (i64w (rdL a1.f_code a1.f_at 0))) rfl rfl rfl (g_d rfl ?_)
    try dsimp only [set0,setS]
    refine hk _ _ ⟨O, ?_, hs.cast ?_⟩ <;> simp only [lq, cq, Nat.reduceBEq, p0_, p1_, p2_, p3_, p4_, p5_, p6_, p7_, p8_, p9_, q11_]
   ·
    intro D t w hD hp hcl hI rest hk
    obtain ⟨O, ht, hs⟩ := hI
    obtain ⟨p10_, p0_, p1_, p2_, p3_, p4_, p5_, p6_, p7_, p8_, p9_, _, _⟩ := hp
    simp only [hD, p0_, p1_, p2_, p3_, p4_, p5_, p6_, p7_, p8_, p9_, p10_, cq] at ht hs
    subst ht
    refine g_op (v := Value.int .i64 (i64w (rdL a1.f_code a1.f_at 0))) rfl rfl rfl (g_d rfl ?_)
    try dsimp only [set0,setS]
    refine hk _ _ ⟨O, ?_, hs.cast ?_⟩ <;> simp only [lq, cq, Nat.reduceBEq, p0_, p1_, p2_, p3_, p4_, p5_, p6_, p7_, p8_, p9_, p10_]
   intro D t w hall hI
   obtain ⟨O, ht, hs⟩ := hI
   have p0_ : D 0 = true := hall 0 (by decide)
   have p1_ : D 1 = true := hall 1 (by decide)
   have p2_ : D 2 = true := hall 2 (by decide)
   have p3_ : D 3 = true := hall 3 (by decide)
   have p4_ : D 4 = true := hall 4 (by decide)
   have p5_ : D 5 = true := hall 5 (by decide)
   have p6_ : D 6 = true := hall 6 (by decide)
   have p7_ : D 7 = true := hall 7 (by decide)
   have p8_ : D 8 = true := hall 8 (by decide)
   have p9_ : D 9 = true := hall 9 (by decide)
   have p10_ : D 10 = true := hall 10 (by decide)
   have p11_ : D 11 = true := hall 11 (by decide)
   simp only [p0_, p1_, p2_, p3_, p4_, p5_, p6_, p7_, p8_, p9_, p10_, p11_, cq] at ht hs
   subst ht
   have hs := hs.pull 1 rfl
   have hs := hs.pull 1 rfl
   have hs : St _ [_,_] _ := St.take (Γ' := []) hs
   exact ha _ _ ⟨i64w (rdL a1.f_code a1.f_at 0), H, rfl, hs⟩
  intro hb
  rw [if_neg (b_dec_f hb)] at H
  refine g_d rfl ?_
  try dsimp only [set0,setS]
  obtain rfl := ord_end hO2_ rfl (by decide +kernel)
  refine g_ops_nil (g_cond_false rfl (g_skip ?_))
  have hs := hs.pull 1 rfl
  have hs := hs.pull 1 rfl
  have hs : St _ [_,_] _ := St.take (Γ' := []) hs
  exact ha _ _ ⟨0, H, rfl, hs⟩

/- function 45 _spec_l00Src_pick -/
def _spec_l00Src_pick.post (wb : World) (Z : As) (b2 : Nat) (v3 : Value) (r : (Int × S_spec_l00Src)) (v : Value) (w : World) : Prop := v = Value.int .i64 r.1 ∧ St wb [Cells b2 (([v3, Value.int .i64 r.2.f_at, Value.int .u64 r.2.f_seed] : List Value)) 85, Z] w
set_option maxHeartbeats 8000000 in
set_option maxRecDepth 100000 in
theorem _spec_l00Src_pick.calls {N : Nat} {a1 : S_spec_l00Src} {a6 : Int} {b2 : Nat} {v3 : Value} {wb : World} {Z : As} {w0 : World} {r : (Int × S_spec_l00Src)} (hs : St wb [Cells b2 (([v3, Value.int .i64 a1.f_at, Value.int .u64 a1.f_seed] : List Value)) 85, Z] w0) (hr4 : RdRow (K.int .u8) wb v3 a1.f_code) (H : _spec_l00Src_pick.f N a1 a6 = some r) :
    Calls Try.prog 45 #[Value.pointer (some ⟨b2, 0, none⟩), Value.int .i64 a6] w0 fun e w => ∃ v, e = .returned v ∧ _spec_l00Src_pick.post wb Z b2 v3 r v w := by
  unfold _spec_l00Src_pick.f at H
  refine calls_of_g (n := 18) Try.func45 rfl rfl ?_
  show G _ _ _ _ [_,_,_,_,_,_,_,_,_,_,_,_,_,_,_,_,_,_,_,_] _
  refine g_seq (g_region ?_)
  show G _ _ _ (.inRegion _ [0] :: _) _ _
  refine g_op (v := Value.int .i64 0) rfl rfl rfl ?_
  show G _ _ _ _ [_,_,_,_,_,_,_,_,_,_,_,_,_,_,_,_,_,_,_,_] _
  refine g_ops_nil (g_seq (g_seq (g_region ?_)))
  show G _ _ _ (.inRegion _ [0, 1] :: _) _ _
  refine g_op (v := Value.int .i64 a6) rfl rfl rfl ?_
  show G _ _ _ _ [_,_,_,_,_,_,_,_,_,_,_,_,_,_,_,_,_,_,_,_] _
  refine g_op_b (B := decide (a6 ≤ 1)) rfl rfl rfl ?_ ?_
  ·
   intro hb
   rw [if_pos (b_dec_t hb)] at H
   show G _ _ _ _ [_,_,_,_,_,_,_,_,_,_,_,_,_,_,_,_,_,_,_,_] _
   refine g_ops_nil (g_cond_true rfl (g_seq (g_region ?_)))
   show G _ _ _ (.inRegion _ [0] :: _) _ _
   refine g_op (v := Value.int .i64 0) rfl rfl rfl ?_
   show G _ _ _ _ [_,_,_,_,_,_,_,_,_,_,_,_,_,_,_,_,_,_,_,_] _
   refine g_ops_nil ?_
   obtain rfl := Option.some.inj H
   refine g_ret Try.func45 (v := Value.int .i64 0) (res1 rfl rfl) ?_
   have hs := hs.pull 1 rfl
   have hs := hs.pull 1 rfl
   have hs : St _ [_,_] _ := St.take (Γ' := []) hs
   exact ⟨_, rfl, rfl, hs⟩
  intro hb
  rw [if_neg (b_dec_f hb)] at H
  show G _ _ _ _ [_,_,_,_,_,_,_,_,_,_,_,_,_,_,_,_,_,_,_,_] _
  refine g_ops_nil (g_cond_false rfl (g_skip (g_seq (g_region ?_))))
  show G _ _ _ (.inRegion _ [0, 1, 2] :: _) _ _
  refine g_op (v := Value.pointer (some ⟨b2, 0, none⟩)) rfl rfl rfl ?_
  show G _ _ _ _ [_,_,_,_,_,_,_,_,_,_,_,_,_,_,_,_,_,_,_,_] _
  obtain ⟨r7, Hr7, H⟩ := bind_get H
  have hs := hs.pull 0 rfl
  have hs : St _ [_,_] _ := hs
  have hs := hs.pack 1
  refine s_call (args := [Value.pointer (some ⟨b2, 0, none⟩)]) rfl rfl (x_call rfl (callFunc_enter Try.func61 rfl rfl) rfl) (_spec_l00Src_next.calls (a1 := (⟨a1.f_code, a1.f_at, a1.f_seed⟩ : S_spec_l00Src)) hs hr4 Hr7) ?_
  rintro _ w ⟨rfl, hs⟩
  have hs := St.unpack (Γ := [_]) hs
  have hs : St _ [_,_] _ := hs
  show G _ _ _ _ [_,_,_,_,_,_,_,_,_,_,_,_,_,_,_,_,_,_,_,_] _
  refine g_op (v := Value.int .i64 r7.1) rfl rfl rfl ?_
  show G _ _ _ _ [_,_,_,_,_,_,_,_,_,_,_,_,_,_,_,_,_,_,_,_] _
  refine g_ops_nil (g_seq (g_seq (g_region ?_)))
  show G _ _ _ (.inRegion _ [0, 1] :: _) _ _
  refine g_op (v := Value.int .i64 a6) rfl rfl rfl ?_
  show G _ _ _ _ [_,_,_,_,_,_,_,_,_,_,_,_,_,_,_,_,_,_,_,_] _
  refine g_op_b (B := decide (a6 > 200)) rfl rfl rfl ?_ ?_
  ·
   intro hb
   rw [if_pos (b_dec_t hb)] at H
   show G _ _ _ _ [_,_,_,_,_,_,_,_,_,_,_,_,_,_,_,_,_,_,_,_] _
   refine g_ops_nil (g_cond_true rfl (g_region ?_))
   show G _ _ _ (.inRegion _ [0, 1, 2, 3, 4, 5] :: _) _ _
   refine g_op (v := Value.int .i64 r7.1) rfl rfl rfl ?_
   show G _ _ _ _ [_,_,_,_,_,_,_,_,_,_,_,_,_,_,_,_,_,_,_,_] _
   refine g_op (v := Value.int .i64 (i64w (r7.1 * 256))) rfl rfl rfl ?_
   show G _ _ _ _ [_,_,_,_,_,_,_,_,_,_,_,_,_,_,_,_,_,_,_,_] _
   refine g_op (v := Value.pointer (some ⟨b2, 0, none⟩)) rfl rfl rfl ?_
   show G _ _ _ _ [_,_,_,_,_,_,_,_,_,_,_,_,_,_,_,_,_,_,_,_] _
   obtain ⟨r8, Hr8, H⟩ := bind_get H
   have hs := hs.pull 0 rfl
   have hs : St _ [_,_] _ := hs
   have hs := hs.pack 1
   refine s_call (args := [Value.pointer (some ⟨b2, 0, none⟩)]) rfl rfl (x_call rfl (callFunc_enter Try.func61 rfl rfl) rfl) (_spec_l00Src_next.calls (a1 := (⟨a1.f_code, r7.2.f_at, r7.2.f_seed⟩ : S_spec_l00Src)) hs hr4 Hr8) ?_
   rintro _ w ⟨rfl, hs⟩
   have hs := St.unpack (Γ := [_]) hs
   have hs : St _ [_,_] _ := hs
   show G _ _ _ _ [_,_,_,_,_,_,_,_,_,_,_,_,_,_,_,_,_,_,_,_] _
   refine g_op (v := Value.int .i64 (i64w ((i64w (r7.1 * 256)) + r8.1))) rfl rfl rfl ?_
   show G _ _ _ _ [_,_,_,_,_,_,_,_,_,_,_,_,_,_,_,_,_,_,_,_] _
   refine g_op (v := Value.int .i64 (i64w ((i64w (r7.1 * 256)) + r8.1))) rfl rfl rfl ?_
   show G _ _ _ _ [_,_,_,_,_,_,_,_,_,_,_,_,_,_,_,_,_,_,_,_] _
   refine g_ops_nil (g_seq (g_region ?_))
   show G _ _ _ (.inRegion _ [0, 1, 2, 3] :: _) _ _
   refine g_op (v := Value.int .i64 (i64w ((i64w (r7.1 * 256)) + r8.1))) rfl rfl rfl ?_
   show G _ _ _ _ [_,_,_,_,_,_,_,_,_,_,_,_,_,_,_,_,_,_,_,_] _
   refine g_op (v := Value.int .i64 a6) rfl rfl rfl ?_
   show G _ _ _ _ [_,_,_,_,_,_,_,_,_,_,_,_,_,_,_,_,_,_,_,_] _
   obtain ⟨g1, H⟩ := ite_get H
   refine g_op (v := Value.int .i64 ((i64w ((i64w (r7.1 * 256)) + r8.1)).tmod a6)) rfl rfl (x_divrem rfl rfl rfl g1) ?_
   show G _ _ _ _ [_,_,_,_,_,_,_,_,_,_,_,_,_,_,_,_,_,_,_,_] _
   refine g_op (v := Value.int .i64 ((i64w ((i64w (r7.1 * 256)) + r8.1)).tmod a6)) rfl rfl rfl ?_
   show G _ _ _ _ [_,_,_,_,_,_,_,_,_,_,_,_,_,_,_,_,_,_,_,_] _
   refine g_ops_nil ?_
   obtain rfl := Option.some.inj H
   refine g_ret Try.func45 (v := Value.int .i64 ((i64w ((i64w (r7.1 * 256)) + r8.1)).tmod a6)) (res1 rfl rfl) ?_
   have hs := hs.pull 1 rfl
   have hs := hs.pull 1 rfl
   have hs : St _ [_,_] _ := St.take (Γ' := []) hs
   exact ⟨_, rfl, rfl, hs⟩
  intro hb
  rw [if_neg (b_dec_f hb)] at H
  show G _ _ _ _ [_,_,_,_,_,_,_,_,_,_,_,_,_,_,_,_,_,_,_,_] _
  refine g_ops_nil (g_cond_false rfl (g_skip (g_seq (g_region ?_))))
  show G _ _ _ (.inRegion _ [0, 1, 2, 3] :: _) _ _
  refine g_op (v := Value.int .i64 r7.1) rfl rfl rfl ?_
  show G _ _ _ _ [_,_,_,_,_,_,_,_,_,_,_,_,_,_,_,_,_,_,_,_] _
  refine g_op (v := Value.int .i64 a6) rfl rfl rfl ?_
  show G _ _ _ _ [_,_,_,_,_,_,_,_,_,_,_,_,_,_,_,_,_,_,_,_] _
  obtain ⟨g2, H⟩ := ite_get H
  refine g_op (v := Value.int .i64 (r7.1.tmod a6)) rfl rfl (x_divrem rfl rfl rfl g2) ?_
  show G _ _ _ _ [_,_,_,_,_,_,_,_,_,_,_,_,_,_,_,_,_,_,_,_] _
  refine g_op (v := Value.int .i64 (r7.1.tmod a6)) rfl rfl rfl ?_
  show G _ _ _ _ [_,_,_,_,_,_,_,_,_,_,_,_,_,_,_,_,_,_,_,_] _
  refine g_ops_nil ?_
  obtain rfl := Option.some.inj H
  refine g_ret Try.func45 (v := Value.int .i64 (r7.1.tmod a6)) (res1 rfl rfl) ?_
  have hs := hs.pull 1 rfl
  have hs := hs.pull 1 rfl
  have hs : St _ [_,_] _ := St.take (Γ' := []) hs
  exact ⟨_, rfl, rfl, hs⟩

/- function 46 _spec_l00Src_one -/
def _spec_l00Src_one.post (wb : World) (Z : As) (b2 : Nat) (v3 : Value) (r : (Bool × S_spec_l00Src)) (v : Value) (w : World) : Prop := v = Value.bool r.1 ∧ St wb [Cells b2 (([v3, Value.int .i64 r.2.f_at, Value.int .u64 r.2.f_seed] : List Value)) 85, Z] w
set_option maxHeartbeats 8000000 in
set_option maxRecDepth 100000 in
theorem _spec_l00Src_one.calls {N : Nat} {a1 : S_spec_l00Src} {a6 : Int} {b2 : Nat} {v3 : Value} {wb : World} {Z : As} {w0 : World} {r : (Bool × S_spec_l00Src)} (hs : St wb [Cells b2 (([v3, Value.int .i64 a1.f_at, Value.int .u64 a1.f_seed] : List Value)) 85, Z] w0) (hr4 : RdRow (K.int .u8) wb v3 a1.f_code) (H : _spec_l00Src_one.f N a1 a6 = some r) :
    Calls Try.prog 46 #[Value.pointer (some ⟨b2, 0, none⟩), Value.int .i64 a6] w0 fun e w => ∃ v, e = .returned v ∧ _spec_l00Src_one.post wb Z b2 v3 r v w := by
  unfold _spec_l00Src_one.f at H
  refine calls_of_g (n := 7) Try.func46 rfl rfl ?_
  show G _ _ _ _ [_,_,_,_,_,_,_,_,_] _
  refine g_seq (g_region ?_)
  show G _ _ _ (.inRegion _ [0] :: _) _ _
  refine g_op (v := Value.bool false) rfl rfl rfl ?_
  show G _ _ _ _ [_,_,_,_,_,_,_,_,_] _
  refine g_ops_nil (g_seq (g_region ?_))
  show G _ _ _ (.inRegion _ [0, 1, 2, 3, 4] :: _) _ _
  refine g_op (v := Value.pointer (some ⟨b2, 0, none⟩)) rfl rfl rfl ?_
  show G _ _ _ _ [_,_,_,_,_,_,_,_,_] _
  refine g_op (v := Value.int .i64 a6) rfl rfl rfl ?_
  show G _ _ _ _ [_,_,_,_,_,_,_,_,_] _
  obtain ⟨r7, Hr7, H⟩ := bind_get H
  have hs := hs.pull 0 rfl
  have hs : St _ [_,_] _ := hs
  have hs := hs.pack 1
  refine s_call (args := [Value.pointer (some ⟨b2, 0, none⟩), Value.int .i64 a6]) rfl rfl (x_call rfl (callFunc_enter Try.func45 rfl rfl) rfl) (_spec_l00Src_pick.calls (a1 := (⟨a1.f_code, a1.f_at, a1.f_seed⟩ : S_spec_l00Src)) (a6 := a6) hs hr4 Hr7) ?_
  rintro _ w ⟨rfl, hs⟩
  have hs := St.unpack (Γ := [_]) hs
  have hs : St _ [_,_] _ := hs
  show G _ _ _ _ [_,_,_,_,_,_,_,_,_] _
  refine g_op (v := Value.bool (r7.1 == 0)) rfl rfl rfl ?_
  show G _ _ _ _ [_,_,_,_,_,_,_,_,_] _
  refine g_op (v := Value.bool (r7.1 == 0)) rfl rfl rfl ?_
  show G _ _ _ _ [_,_,_,_,_,_,_,_,_] _
  refine g_ops_nil ?_
  obtain rfl := Option.some.inj H
  refine g_ret Try.func46 (v := Value.bool (r7.1 == 0)) (res1 rfl rfl) ?_
  have hs := hs.pull 1 rfl
  have hs := hs.pull 1 rfl
  have hs : St _ [_,_] _ := St.take (Γ' := []) hs
  exact ⟨_, rfl, rfl, hs⟩

end Go.Proofs.YtcaokmnajnfpiaaX
