/- Contracts, printed by gen.py. -/
import Derived.Test.YtpphepkapccjeaaXT
import Derived.Test.YtpphepkapccjeaaProg
import Derived.Test.YtpphepkapccjeaaXEnt
namespace Go.Proofs.YtpphepkapccjeaaX
open Go Go.RowKit Go.Proofs
set_option linter.unusedVariables false
set_option linter.unusedSimpArgs false
/- function 4 laws_a2Long -/
def laws_a2Long.post (w0 : World) (r : Bool) (v : Value) (w : World) : Prop := v = Value.bool r ∧ St w0 [] w
set_option maxHeartbeats 8000000 in
set_option maxRecDepth 100000 in
theorem laws_a2Long.calls {N : Nat} {a1 : (List Int)} {a3 : (List Int)} {v2 : Value} {v4 : Value} {w0 : World} {r : Bool} (hr0 : RdRow (K.int .u8) w0 v2 a1) (hr1 : RdRow (K.int .u8) w0 v4 a3) (H : laws_a2Long.f N a1 a3 = some r) :
    Calls Try.prog 4 #[v2, v4] w0 fun e w => ∃ v, e = .returned v ∧ laws_a2Long.post w0 r v w := by
  unfold laws_a2Long.f at H
  have hs : St w0 [] w0 := St.refl w0
  refine calls_of_g (n := 11) Try.func4 rfl rfl ?_
  show G _ _ _ _ [_, _, _, _, _, _, _, _, _, _, _, _, _] _
  refine g_seq ?_
  refine g_region ?_
  show G _ _ _ (.inRegion _ [0] :: _) _ _
  refine g_op (v := Value.bool false) rfl rfl rfl ?_
  show G _ _ _ _ [_, _, _, _, _, _, _, _, _, _, _, _, _] _
  refine g_ops_nil ?_
  refine g_seq ?_
  refine g_region ?_
  show G _ _ _ (.inRegion _ [0, 1, 2, 3, 4, 5, 6, 7, 8] :: _) _ _
  refine g_op (v := v2) rfl rfl rfl ?_
  show G _ _ _ _ [_, _, _, _, _, _, _, _, _, _, _, _, _] _
  refine s_len (hs.rd hr0) rfl rfl rfl rfl rfl ?_
  show G _ _ _ _ [_, _, _, _, _, _, _, _, _, _, _, _, _] _
  refine g_op_b (B := decide ((a1.length : Int) > 3000)) rfl rfl rfl ?_ ?_
  ·
   intro hb
   rw [if_pos (b_dec_t hb)] at H
   show G _ _ _ _ [_, _, _, _, _, _, _, _, _, _, _, _, _] _
   refine g_op (v := Value.bool true) rfl rfl rfl ?_
   show G _ _ _ _ [_, _, _, _, _, _, _, _, _, _, _, _, _] _
   refine g_op_not rfl rfl ?_
   show G _ _ _ _ [_, _, _, _, _, _, _, _, _, _, _, _, _] _
   refine g_op_not rfl rfl ?_
   show G _ _ _ _ [_, _, _, _, _, _, _, _, _, _, _, _, _] _
   refine g_op_not rfl rfl ?_
   show G _ _ _ _ [_, _, _, _, _, _, _, _, _, _, _, _, _] _
   refine g_op (v := Value.bool true) rfl rfl rfl ?_
   show G _ _ _ _ [_, _, _, _, _, _, _, _, _, _, _, _, _] _
   refine g_op (v := Value.bool true) rfl rfl rfl ?_
   show G _ _ _ _ [_, _, _, _, _, _, _, _, _, _, _, _, _] _
   refine g_ops_nil ?_
   obtain rfl := Option.some.inj H
   refine g_ret Try.func4 (v := Value.bool true) (res1 rfl rfl) ?_
   have hs : St _ [] _ := St.take (Γ' := []) hs
   exact ⟨_, rfl, rfl, hs⟩
  ·
   intro hb
   rw [if_neg (b_dec_f hb)] at H
   show G _ _ _ _ [_, _, _, _, _, _, _, _, _, _, _, _, _] _
   refine g_op (v := Value.bool false) rfl rfl rfl ?_
   show G _ _ _ _ [_, _, _, _, _, _, _, _, _, _, _, _, _] _
   refine g_op (v := v4) rfl rfl rfl ?_
   show G _ _ _ _ [_, _, _, _, _, _, _, _, _, _, _, _, _] _
   refine s_len (hs.rd hr1) rfl rfl rfl rfl rfl ?_
   show G _ _ _ _ [_, _, _, _, _, _, _, _, _, _, _, _, _] _
   refine g_op (v := Value.bool (decide ((a3.length : Int) > 3000))) rfl rfl rfl ?_
   show G _ _ _ _ [_, _, _, _, _, _, _, _, _, _, _, _, _] _
   refine g_op (v := Value.bool (decide ((a3.length : Int) > 3000))) rfl rfl rfl ?_
   show G _ _ _ _ [_, _, _, _, _, _, _, _, _, _, _, _, _] _
   refine g_op (v := Value.bool (decide ((a3.length : Int) > 3000))) rfl rfl rfl ?_
   show G _ _ _ _ [_, _, _, _, _, _, _, _, _, _, _, _, _] _
   refine g_ops_nil ?_
   obtain rfl := Option.some.inj H
   refine g_ret Try.func4 (v := Value.bool (decide ((a3.length : Int) > 3000))) (res1 rfl rfl) ?_
   have hs : St _ [] _ := St.take (Γ' := []) hs
   exact ⟨_, rfl, rfl, hs⟩

/- function 16 spec_l00From -/
def spec_l00From.post (w0 : World) (v2 : Value) (r : S_spec_l00Src) (v : Value) (w : World) : Prop := ∃ b1 : Nat, v = Value.pointer (some ⟨b1, 0, none⟩) ∧ St w0 [Cells b1 (([v2, Value.int .i64 r.f_at, Value.int .u64 r.f_seed] : List Value)) 49] w
set_option maxHeartbeats 8000000 in
set_option maxRecDepth 100000 in
theorem spec_l00From.calls {N : Nat} {a1 : (List Int)} {v2 : Value} {w0 : World} {r : S_spec_l00Src} (hr0 : RdRow (K.int .u8) w0 v2 a1) (H : spec_l00From.f N a1 = some r) :
    Calls Try.prog 16 #[v2] w0 fun e w => ∃ v, e = .returned v ∧ spec_l00From.post w0 v2 r v w := by
  unfold spec_l00From.f at H
  have hs : St w0 [] w0 := St.refl w0
  refine calls_of_g (n := 5) Try.func16 rfl rfl ?_
  show G _ _ _ _ [_, _, _, _, _, _] _
  refine g_seq ?_
  refine g_region ?_
  show G _ _ _ (.inRegion _ [0] :: _) _ _
  refine g_op (v := Value.pointer none) rfl rfl rfl ?_
  show G _ _ _ _ [_, _, _, _, _, _] _
  refine g_ops_nil ?_
  refine g_seq ?_
  refine g_region ?_
  show G _ _ _ (.inRegion _ [0, 1, 2, 3] :: _) _ _
  refine g_op (v := v2) rfl rfl rfl ?_
  show G _ _ _ _ [_, _, _, _, _, _] _
  refine g_op (v := Value.agg (([v2, Value.int .i64 0, Value.int .u64 0] : List Value)).toArray) rfl rfl (x_buildS (cs := (([v2, Value.int .i64 0, Value.int .u64 0] : List Value))) (segs := [[Value.slice none 0 0], [Value.int .i64 0], [Value.int .u64 0]]) rfl rfl (fun _ => rfl) ⟨rfl, (fun _ => rfl), rfl, (fun _ => rfl), rfl, (fun _ => rfl), trivial⟩ (by simp only [List.map_cons, List.map_nil, List.forall_mem_cons, List.not_mem_nil, false_implies, implies_true, and_true]; exact ⟨_, rfl, slSize (hs.rd hr0)⟩) (by first | rfl | (simp [ev, encA, slCells (hs.rd hr0)]; done) | (simp [ev, encA, slCells (hs.rd hr0)]; rfl))) ?_
  show G _ _ _ _ [_, _, _, _, _, _] _
  refine s_box hs rfl rfl (cs := (([v2, Value.int .i64 0, Value.int .u64 0] : List Value))) rfl rfl ?_
  intro b3 w hs
  show G _ _ _ _ [_, _, _, _, _, _] _
  refine g_op (v := Value.pointer (some ⟨b3, 0, none⟩)) rfl rfl rfl ?_
  show G _ _ _ _ [_, _, _, _, _, _] _
  refine g_ops_nil ?_
  obtain rfl := Option.some.inj H
  refine g_ret Try.func16 (v := Value.pointer (some ⟨b3, 0, none⟩)) (res1 rfl rfl) ?_
  have hs := hs.pull 0 rfl
  have hs : St _ [_] _ := St.take (Γ' := []) hs
  exact ⟨_, rfl, b3, rfl, hs⟩

end Go.Proofs.YtpphepkapccjeaaX
