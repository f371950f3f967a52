/- Contracts, printed by gen.py. -/
import Derived.Test.YtjagkhjbbdfkaaaXT
import Derived.Test.YtjagkhjbbdfkaaaProg
import Derived.Test.YtjagkhjbbdfkaaaXRowR
import Derived.Test.YtjagkhjbbdfkaaaXSeg
import Derived.Test.YtjagkhjbbdfkaaaXKey
import Derived.Test.YtjagkhjbbdfkaaaXIter
import Derived.Test.YtjagkhjbbdfkaaaXRow2
import Derived.Test.YtjagkhjbbdfkaaaFBX
import Derived.Test.YtjagkhjbbdfkaaaXDel
import Derived.Test.YtjagkhjbbdfkaaaXShelf
import Derived.Test.YtjagkhjbbdfkaaaXC4
namespace Go.Proofs.YtjagkhjbbdfkaaaX
open Go Go.RowKit Go.Proofs
set_option linter.unusedVariables false
set_option linter.unusedSimpArgs false
/- function 45 _impl_Weights_balances -/
def _impl_Weights_balances.post (w0 : World) (r : (List (Option (List (Int × S_impl_balance))))) (v : Value) (w : World) : Prop := ∃ u1 : Value, ∃ mm2 : (List (Option Nat)), v = u1 ∧ St w0 [Rows2 74 kHM (MapO (Value.int .i64) ek_S_impl_balance) u1 mm2 r] w
set_option maxHeartbeats 8000000 in
set_option maxRecDepth 100000 in
theorem _impl_Weights_balances.calls {N : Nat} {a1 : (List Int)} {a3 : Bool} {v2 : Value} {w0 : World} {Q : (List (Option (List (Int × S_impl_balance)))) → Prop} (hr0 : RdRow (K.int .i16) w0 v2 a1) (H : _impl_Weights_balances.f N a1 a3 Q) :
    Calls Try.prog 45 #[v2, Value.bool a3] w0 fun e w => ∃ v, e = .returned v ∧ ∃ r, Q r ∧ _impl_Weights_balances.post w0 r v w := by
  unfold _impl_Weights_balances.f at H
  have hs : St w0 [] w0 := St.refl w0
  refine calls_of_g (n := 104) Try.func45 rfl rfl ?_
  show G _ _ _ _ (_::_::_::_::_::_::_::_::_::_::_::_::_::_::_::_::_::_::_::_::_::_::_::_::_::_::_::_::_::_::_::_::_::_::_::_::_::_::_::_::_::_::_::_::_::_::_::_::_::_::_::_::_::_::_::_::_::_::_::_::_::_::_::_::_::_::_::_::_::_::_::_::_::_::_::_::_::_::_::_::_::_::_::_::_::_::_::_::_::_::_::_::_::_::_::_::_::_::_::_::_::_::_::_::_::_::[]) _
  refine g_seq ?_
  refine g_region ?_
  show G _ _ _ (.inRegion _ [0] :: _) _ _
  refine g_op (v := Value.slice none 0 0) rfl rfl rfl ?_
  refine g_d rfl ?_
  try dsimp only [set0,setS]
  refine g_ops_nil ?_
  refine g_seq ?_
  refine g_region ?_
  show G _ _ _ (.inRegion _ [0, 1, 2, 3, 4] :: _) _ _
  refine g_op (v := v2) rfl rfl rfl ?_
  refine g_d rfl ?_
  refine s_len (hs.rd hr0) rfl rfl rfl rfl rfl ?_
  refine g_d rfl ?_
  try dsimp only [set0,setS]
  refine g_op (v := Value.int .i64 (i64w ((a1.length : Int) + 1))) rfl rfl rfl ?_
  refine g_d rfl ?_
  try dsimp only [set0,setS]
  obtain ⟨g, H⟩ := ite_getD H
  refine s_make (κ := kHM) (z := none) (zc := (encHM none)) (zv := (Value.map none)) (B := 8) hs rfl rfl rfl rfl rfl g.1 rfl rfl rfl rfl rfl (fun _ => ⟨rfl, rfl⟩) rfl (by decide) (by have := g.2; omega) ?_
  intro v4 w hs
  have hs := hs.r2make (I := (MapO (Value.int .i64) ek_S_impl_balance)) (y := (none : Option (List (Int × S_impl_balance)))) mapO0
  have hs : St _ [_] _ := hs
  refine g_d rfl ?_
  try dsimp only [set0,setS]
  refine g_op (v := v4) rfl rfl rfl ?_
  refine g_d rfl ?_
  try dsimp only [set0,setS]
  refine g_ops_nil ?_
  refine g_seq ?_
  refine g_region ?_
  show G _ _ _ (.inRegion _ [0, 1, 2, 3, 4, 5, 6, 7, 8] :: _) _ _
  refine g_op (v := v4) rfl rfl rfl ?_
  refine g_d rfl ?_
  refine g_op (v := v2) rfl rfl rfl ?_
  refine g_d rfl ?_
  refine s_len (hs.rd hr0) rfl rfl rfl rfl rfl ?_
  refine g_d rfl ?_
  try dsimp only [set0,setS]
  refine s_makeMap (ek := (Value.int .i64)) (en := ek_S_impl_balance) hs rfl rfl rfl ?_
  intro b6 w hs
  refine g_d rfl ?_
  try dsimp only [set0,setS]
  refine g_op (v := Value.agg (enc_S_impl_balance (⟨1, 0⟩ : S_impl_balance)).toArray) rfl rfl (x_buildS (cs := (enc_S_impl_balance (⟨1, 0⟩ : S_impl_balance))) (segs := [[Value.int .i64 0], [Value.int .i64 0]]) rfl rfl (fun _ => rfl) ⟨rfl, (fun _ => rfl), rfl, (fun _ => rfl), trivial⟩ (by simp only [List.map_cons, List.map_nil, List.forall_mem_cons, List.not_mem_nil, false_implies, implies_true, and_true]; exact ⟨⟨_, rfl, rfl⟩, ⟨_, rfl, rfl⟩⟩) (by first | rfl | (simp [ev, enc_S_impl_balance]; done) | (simp [ev, enc_S_impl_balance]; rfl))) ?_
  refine g_d rfl ?_
  try dsimp only [set0,setS]
  refine s_mapSet (keyInt Try.underlying2) (a := 0) (v := (⟨1, 0⟩ : S_impl_balance)) hs rfl rfl (.inr rfl) Try.underlying74 rfl rfl rfl ?_
  intro w hs
  refine g_n rfl ?_
  refine g_op (v := Value.map (some b6)) rfl rfl rfl ?_
  refine g_d rfl ?_
  obtain ⟨g1, H⟩ := ite_getD H
  refine s_idx fkHM none (hs.r2row 1 rfl) rfl (fun _ => rfl) g1.1 (hs.r2lt 1 rfl g1.2) rfl rfl rfl rfl rfl ?_
  intro p8 hp8 lp8 op8
  refine g_d rfl ?_
  try dsimp only [set0,setS]
  have hs := hs.pull 1 rfl
  have hs : St _ [_,_] _ := hs
  refine s_r2store (I := (MapO (Value.int .i64) ek_S_impl_balance)) (h' := some b6) (x' := some (mSet ([] : (List (Int × S_impl_balance))) 0 (⟨1, 0⟩ : S_impl_balance))) fkHM g1.1 g1.2 op8 hs rfl rfl rfl rfl rfl (fun _ => rfl) ?_
  intro w hs
  refine g_n rfl ?_
  refine g_ops_nil ?_
  refine g_seq ?_
  refine g_seq ?_
  refine g_region ?_
  show G _ _ _ (.inRegion _ [0, 1, 2, 3] :: _) _ _
  refine g_op (v := v2) rfl rfl rfl ?_
  refine g_d rfl ?_
  refine s_len (hs.rd hr0) rfl rfl rfl rfl rfl ?_
  refine g_d rfl ?_
  try dsimp only [set0,setS]
  refine g_op (v := Value.int .i64 (i64w ((a1.length : Int) - 1))) rfl rfl rfl ?_
  refine g_d rfl ?_
  try dsimp only [set0,setS]
  refine g_op (v := Value.int .i64 (i64w ((a1.length : Int) - 1))) rfl rfl rfl ?_
  refine g_d rfl ?_
  try dsimp only [set0,setS]
  refine g_ops_nil ?_
  have Ho := H
  refine g_block_join (J := fun t w => ∃ mm141 : (List (Option Nat)), ∃ x142 : (List (Option (List (Int × S_impl_balance)))), _impl_Weights_balances.a0 N x142 Q ∧ Fr t (fun O => (O 0::O 1::O 2::O 3::O 4::v4::O 6::O 7::O 8::O 9::O 10::O 11::O 12::O 13::O 14::O 15::O 16::O 17::O 18::O 19::O 20::O 21::O 22::O 23::O 24::O 25::O 26::O 27::O 28::O 29::O 30::O 31::O 32::O 33::O 34::O 35::O 36::O 37::O 38::O 39::O 40::O 41::O 42::O 43::O 44::O 45::O 46::O 47::O 48::O 49::O 50::O 51::O 52::O 53::O 54::O 55::O 56::O 57::O 58::O 59::O 60::O 61::O 62::O 63::O 64::O 65::O 66::O 67::O 68::O 69::O 70::O 71::O 72::O 73::O 74::O 75::O 76::O 77::O 78::O 79::O 80::O 81::O 82::O 83::O 84::O 85::O 86::O 87::O 88::O 89::O 90::O 91::O 92::O 93::O 94::O 95::O 96::O 97::O 98::O 99::O 100::O 101::O 102::O 103::O 104::O 105::[] : List Value)) ∧ St w0 [Rows2 74 kHM (MapO (Value.int .i64) ek_S_impl_balance) v4 mm141 x142] w) ?_ ?_
  ·
   rintro t w ⟨mm141, x142, H, hf, hs⟩
   obtain ⟨O, rfl⟩ := hf.open
   try dsimp only
   unfold _impl_Weights_balances.a0 at H
   refine g_seq ?_
   refine g_region ?_
   show G _ _ _ (.inRegion _ [0, 1] :: _) _ _
   refine g_op (v := v4) rfl rfl rfl ?_
   refine g_d rfl ?_
   refine g_op (v := v4) rfl rfl rfl ?_
   refine g_d rfl ?_
   try dsimp only [set0,setS]
   refine g_ops_nil ?_
   refine g_ret Try.func45 (v := v4) (res1 rfl rfl) ?_
   have hs := hs.pull 0 rfl
   have hs : St _ [_] _ := St.take (Γ' := []) hs
   exact ⟨_, rfl, _, H, v4, mm141, rfl, hs⟩
  ·
   intro ha1_
   have hs := hs.pull 0 rfl
   have hs : St _ [_] _ := St.take (Γ' := []) hs
   refine g_loop_fuel (I := fun n_ t w => ∃ mm74 : (List (Option Nat)), ∃ x75 : (List (Option (List (Int × S_impl_balance)))), ∃ x76 : Int, roundsD (fun s => _impl_Weights_balances.b0 N a3 a1 s.1 s.2) n_ (x75, x76) (Ex.finD (fun s => _impl_Weights_balances.a0 N s Q) Q) ∧ Fr t (fun O => (v2::Value.bool a3::O 2::O 3::O 4::v4::Value.int .i64 x76::O 7::O 8::O 9::O 10::O 11::O 12::O 13::O 14::O 15::O 16::O 17::O 18::O 19::O 20::O 21::O 22::O 23::O 24::O 25::O 26::O 27::O 28::O 29::O 30::O 31::O 32::O 33::O 34::O 35::O 36::O 37::O 38::O 39::O 40::O 41::O 42::O 43::O 44::O 45::O 46::O 47::O 48::O 49::O 50::O 51::O 52::O 53::O 54::O 55::O 56::O 57::O 58::O 59::O 60::O 61::O 62::O 63::O 64::O 65::O 66::O 67::O 68::O 69::O 70::O 71::O 72::O 73::O 74::O 75::O 76::O 77::O 78::O 79::O 80::O 81::O 82::O 83::O 84::O 85::O 86::O 87::O 88::O 89::O 90::O 91::O 92::O 93::O 94::O 95::O 96::O 97::O 98::O 99::O 100::O 101::O 102::O 103::O 104::O 105::[] : List Value)) ∧ St w0 [Rows2 74 kHM (MapO (Value.int .i64) ek_S_impl_balance) v4 mm74 x75] w) N ⟨stL (List.replicate ((i64w ((a1.length : Int) + 1))).toNat (none : Option Nat)) (a1.length : Int) (some b6), stL (List.replicate ((i64w ((a1.length : Int) + 1))).toNat (none : Option (List (Int × S_impl_balance)))) (a1.length : Int) (some (mSet ([] : (List (Int × S_impl_balance))) 0 (⟨1, 0⟩ : S_impl_balance))), i64w ((a1.length : Int) - 1), Ho, rfl, hs⟩ ?_ ?_
   ·
    rintro _ _ ⟨mm74, x75, x76, h, _⟩
    exact (h : False).elim
   ·
    intro n_ ih1_
    rintro t w ⟨mm74, x75, x76, Ho, hf, hs⟩
    obtain ⟨O, rfl⟩ := hf.open
    try dsimp only
    obtain ⟨x70_, hQ1_, H⟩ := roundsD_succ Ho
    have H : _impl_Weights_balances.b0 N a3 a1 x75 x76 x70_ := H
    unfold _impl_Weights_balances.b0 at H
    refine g_seq ?_
    refine g_seq ?_
    refine g_region ?_
    show G _ _ _ (.inRegion _ [0, 1] :: _) _ _
    refine g_op (v := Value.int .i64 x76) rfl rfl rfl ?_
    refine g_d rfl ?_
    refine g_op_b (B := decide (x76 ≥ 0)) rfl rfl rfl ?_ ?_
    ·
     intro hb
     rw [if_pos (b_dec_t hb)] at H
     refine g_d rfl ?_
     try dsimp only [set0,setS]
     refine g_ops_nil ?_
     refine g_cond_true rfl ?_
     refine g_skip ?_
     refine g_seq ?_
     refine g_block ?_
     refine g_seq ?_
     refine g_region ?_
     show G _ _ _ (.inRegion _ [0, 1, 2, 3, 4] :: _) _ _
     refine g_op (v := v4) rfl rfl rfl ?_
     refine g_d rfl ?_
     refine g_op (v := Value.int .i64 x76) rfl rfl rfl ?_
     refine g_d rfl ?_
     refine s_makeMap (ek := (Value.int .i64)) (en := ek_S_impl_balance) hs rfl rfl rfl ?_
     intro b77 w hs
     refine g_d rfl ?_
     try dsimp only [set0,setS]
     obtain ⟨g36, H⟩ := ite_getD H
     refine s_idx fkHM none (hs.r2row 1 rfl) rfl (fun _ => rfl) g36.1 (hs.r2lt 1 rfl g36.2) rfl rfl rfl rfl rfl ?_
     intro p79 hp79 lp79 op79
     refine g_d rfl ?_
     try dsimp only [set0,setS]
     have hs := hs.pull 1 rfl
     have hs : St _ [_,_] _ := hs
     refine s_r2store (I := (MapO (Value.int .i64) ek_S_impl_balance)) (h' := some b77) (x' := some ([] : (List (Int × S_impl_balance)))) fkHM g36.1 g36.2 op79 hs rfl rfl rfl rfl rfl (fun _ => rfl) ?_
     intro w hs
     refine g_n rfl ?_
     refine g_ops_nil ?_
     refine g_seq ?_
     refine g_region ?_
     show G _ _ _ (.inRegion _ [0, 1, 2, 3, 4, 5] :: _) _ _
     refine g_op (v := v4) rfl rfl rfl ?_
     refine g_d rfl ?_
     refine g_op (v := Value.int .i64 x76) rfl rfl rfl ?_
     refine g_d rfl ?_
     refine g_op (v := Value.int .i64 (i64w (x76 + 1))) rfl rfl rfl ?_
     refine g_d rfl ?_
     try dsimp only [set0,setS]
     obtain ⟨g37, H⟩ := ite_getD H
     refine s_idx fkHM none (hs.r2row 0 rfl) rfl (fun _ => rfl) g37.1 (hs.r2lt 0 rfl g37.2) rfl rfl rfl rfl rfl ?_
     intro p80 hp80 lp80 op80
     refine g_d rfl ?_
     try dsimp only [set0,setS]
     refine s_load1 rfl rfl (v := Value.map (rdL (stL mm74 x76 (some b77)) (i64w (x76 + 1)) none)) rfl rfl (fun _ => rfl) hp80 ?_
     refine g_d rfl ?_
     try dsimp only [set0,setS]
     obtain ⟨g38, H⟩ := ite_getD H
     obtain ⟨b81, eb81⟩ := hs.r2some 0 rfl g37.1 g37.2 g38
     refine s_rangeO g37.1 g37.2 eb81 (some_getD g38) hs rfl rfl rfl Try.underlying74 rfl ?_
     intro b82 w hs
     refine g_d rfl ?_
     try dsimp only [set0,setS]
     refine g_ops_nil ?_
     have Ho := H
     refine g_block_join (J := fun t w => ∃ x140 : (List (Option (List (Int × S_impl_balance)))), _impl_Weights_balances.a2 N x76 x140 x70_ ∧ Fr t (fun O => (v2::Value.bool a3::O 2::O 3::O 4::v4::Value.int .i64 x76::O 7::O 8::O 9::O 10::O 11::O 12::O 13::O 14::O 15::O 16::O 17::O 18::O 19::O 20::O 21::O 22::O 23::O 24::O 25::O 26::O 27::O 28::O 29::O 30::O 31::O 32::O 33::O 34::O 35::O 36::O 37::O 38::O 39::O 40::O 41::O 42::O 43::O 44::O 45::O 46::O 47::O 48::O 49::O 50::O 51::O 52::O 53::O 54::O 55::O 56::O 57::O 58::O 59::O 60::O 61::O 62::O 63::O 64::O 65::O 66::O 67::O 68::O 69::O 70::O 71::O 72::O 73::O 74::O 75::O 76::O 77::O 78::O 79::O 80::O 81::O 82::O 83::O 84::O 85::O 86::O 87::O 88::O 89::O 90::O 91::O 92::O 93::O 94::O 95::O 96::O 97::O 98::O 99::O 100::O 101::O 102::O 103::O 104::O 105::[] : List Value)) ∧ St w0 [Rows2 74 kHM (MapO (Value.int .i64) ek_S_impl_balance) v4 (stL mm74 x76 (some b77)) x140] w) ?_ ?_
     ·
      rintro t w ⟨x140, H, hf, hs⟩
      obtain ⟨O, rfl⟩ := hf.open
      try dsimp only
      unfold _impl_Weights_balances.a2 at H
      refine g_inBlock ?_
      refine g_region ?_
      show G _ _ _ (.inRegion _ [0, 1, 2] :: _) _ _
      refine g_op (v := Value.int .i64 x76) rfl rfl rfl ?_
      refine g_d rfl ?_
      refine g_op (v := Value.int .i64 (i64w (x76 - 1))) rfl rfl rfl ?_
      refine g_d rfl ?_
      try dsimp only [set0,setS]
      refine g_op (v := Value.int .i64 (i64w (x76 - 1))) rfl rfl rfl ?_
      refine g_d rfl ?_
      try dsimp only [set0,setS]
      refine g_ops_nil ?_
      have hs := hs.pull 0 rfl
      have hs : St _ [_] _ := St.take (Γ' := []) hs
      exact ih1_ _ _ ⟨stL mm74 x76 (some b77), x140, i64w (x76 - 1), cast (congrFun hQ1_ _) H, rfl, hs⟩
     ·
      intro ha2_
      have hs := hs.pull 0 rfl
      have hs := hs.pull 1 rfl
      have hs : St _ [_,_] _ := St.take (Γ' := []) hs
      refine g_loop_fuel (I := fun n_ t w => ∃ x111 : (List (Option (List (Int × S_impl_balance)))), ∃ x112 : (List (Int × S_impl_balance)), roundsD (fun s => _impl_Weights_balances.b2 N x76 x75 a3 a1 s.1 s.2) n_ (x111, x112) (Ex.finBD (fun s => _impl_Weights_balances.a2 N x76 s x70_) x70_) ∧ Fr t (fun O => (v2::Value.bool a3::O 2::O 3::O 4::v4::Value.int .i64 x76::O 7::O 8::O 9::O 10::O 11::O 12::O 13::O 14::O 15::O 16::O 17::O 18::O 19::O 20::O 21::O 22::O 23::O 24::O 25::O 26::O 27::O 28::O 29::O 30::O 31::O 32::O 33::O 34::O 35::O 36::O 37::O 38::O 39::O 40::O 41::Value.pointer (some ⟨b82, 0, none⟩)::O 43::O 44::O 45::O 46::O 47::O 48::O 49::O 50::O 51::O 52::O 53::O 54::O 55::O 56::O 57::O 58::O 59::O 60::O 61::O 62::O 63::O 64::O 65::O 66::O 67::O 68::O 69::O 70::O 71::O 72::O 73::O 74::O 75::O 76::O 77::O 78::O 79::O 80::O 81::O 82::O 83::O 84::O 85::O 86::O 87::O 88::O 89::O 90::O 91::O 92::O 93::O 94::O 95::O 96::O 97::O 98::O 99::O 100::O 101::O 102::O 103::O 104::O 105::[] : List Value)) ∧ St w0 [Rows2 74 kHM (MapO (Value.int .i64) ek_S_impl_balance) v4 (stL mm74 x76 (some b77)) x111, IterAs b82 b81 ((rdL (stL x75 x76 (some ([] : (List (Int × S_impl_balance))))) (i64w (x76 + 1)) none).getD []) x112 none] w) N ⟨stL x75 x76 (some ([] : (List (Int × S_impl_balance)))), (rdL (stL x75 x76 (some ([] : (List (Int × S_impl_balance))))) (i64w (x76 + 1)) none).getD [], Ho, rfl, hs⟩ ?_ ?_
      ·
       rintro _ _ ⟨x111, x112, h, _⟩
       exact (h : False).elim
      ·
       intro n_ ih2_
       rintro t w ⟨x111, x112, Ho, hf, hs⟩
       obtain ⟨O, rfl⟩ := hf.open
       try dsimp only
       obtain ⟨x69_, hQ2_, H⟩ := roundsD_succ Ho
       have H : _impl_Weights_balances.b2 N x76 x75 a3 a1 x111 x112 x69_ := H
       unfold _impl_Weights_balances.b2 at H
       refine g_seq ?_
       refine g_region ?_
       show G _ _ _ (.inRegion _ [0, 1] :: _) _ _
       obtain ⟨hkv54_, H⟩ := H
       have hs := hs.pull 1 rfl
       have hs : St _ [_,_] _ := hs
       refine s_nextO g37.1 (rdL_lt g37.1 hkv54_) eb81 hkv54_ hs rfl rfl rfl rfl ?_ ?_
       ·
        intro hl55_ w hs
        have H := H.1 hl55_
        refine g_d rfl ?_
        try dsimp only [set0,setS]
        refine g_op (v := Value.bool false) rfl rfl rfl ?_
        refine g_d rfl ?_
        refine g_ops_nil ?_
        refine g_seq ?_
        refine g_cond_false rfl ?_
        have hs := hs.pull 1 rfl
        have hs : St _ [_] _ := St.take (Γ' := [_]) hs
        refine g_exit rfl ?_
        exact ha2_ _ _ ⟨x111, cast (congrFun hQ2_ _) H, rfl, hs⟩
       ·
        intro q113 l114 hl55_ w hs
        have H := H.2 q113 l114 hl55_
        dsimp only at H
        refine g_d rfl ?_
        try dsimp only [set0,setS]
        refine g_op (v := Value.bool true) rfl rfl rfl ?_
        refine g_d rfl ?_
        refine g_ops_nil ?_
        refine g_seq ?_
        refine g_cond_true rfl ?_
        refine g_skip ?_
        refine g_block ?_
        refine g_seq ?_
        refine g_region ?_
        show G _ _ _ (.inRegion _ [0, 1, 2, 3, 4, 5] :: _) _ _
        have hs := hs.pull 1 rfl
        have hs : St _ [_,_] _ := hs
        have hs := hs.pull 1 rfl
        have hs : St _ [_,_] _ := hs
        refine s_entryO g37.1 (rdL_lt g37.1 hkv54_) eb81 hkv54_ hs rfl rfl rfl rfl ?_
        have hs := hs.iterForget
        have hs : St _ [_,_] _ := hs
        refine g_d rfl ?_
        try dsimp only [set0,setS]
        refine g_op (v := Value.int .i64 q113.1) rfl rfl rfl ?_
        refine g_d rfl ?_
        refine g_op (v := Value.agg (enc_S_impl_balance q113.2).toArray) rfl rfl rfl ?_
        refine g_d rfl ?_
        refine s_alloc hs rfl rfl (z := (Value.agg #[Value.int .i64 0, Value.int .i64 0])) (cs := (enc_S_impl_balance z_S_impl_balance)) rfl (fun _ => rfl) rfl ?_
        intro b115 w hs
        refine g_d rfl ?_
        try dsimp only [set0,setS]
        refine g_op (v := Value.int .i64 q113.1) rfl rfl rfl ?_
        refine g_d rfl ?_
        try dsimp only [set0,setS]
        refine s_storeAll (n := 2) hs (fk_S_impl_balance.len _) rfl rfl (vs := (enc_S_impl_balance q113.2)) rfl rfl rfl (fun _ => rfl) (fk_S_impl_balance.len _) (fk_S_impl_balance.one _) ?_
        intro w hs
        refine g_n rfl ?_
        refine g_ops_nil ?_
        refine g_seq ?_
        refine g_region ?_
        show G _ _ _ (.inRegion _ [0, 1, 2, 3] :: _) _ _
        refine g_op (v := Value.bool a3) rfl rfl rfl ?_
        refine g_d rfl ?_
        obtain ⟨r117, Hr117, H⟩ := H
        refine s_call (args := [Value.bool a3]) rfl rfl (x_call rfl (callFunc_enter Try.func53 rfl rfl) rfl) (impl_sides.calls (a1 := a3) Hr117) ?_
        intro v118 w hs2
        have hs : St _ [_,_,_,_] _ := hs.call hs2
        refine g_d rfl ?_
        try dsimp only [set0,setS]
        refine s_len (hs.row 0 rfl) rfl rfl rfl rfl rfl ?_
        refine g_d rfl ?_
        try dsimp only [set0,setS]
        refine g_op (v := Value.int .i64 0) rfl rfl rfl ?_
        refine g_d rfl ?_
        refine g_ops_nil ?_
        have Ho := H
        refine g_block_join (J := fun t w => ∃ x139 : (List (Option (List (Int × S_impl_balance)))), _impl_Weights_balances.a4 N l114 x139 x69_ ∧ Fr t (fun O => (v2::Value.bool a3::O 2::O 3::O 4::v4::Value.int .i64 x76::O 7::O 8::O 9::O 10::O 11::O 12::O 13::O 14::O 15::O 16::O 17::O 18::O 19::O 20::O 21::O 22::O 23::O 24::O 25::O 26::O 27::O 28::O 29::O 30::O 31::O 32::O 33::O 34::O 35::O 36::O 37::O 38::O 39::O 40::O 41::Value.pointer (some ⟨b82, 0, none⟩)::O 43::O 44::O 45::O 46::O 47::O 48::O 49::O 50::O 51::O 52::O 53::O 54::O 55::O 56::O 57::O 58::O 59::O 60::O 61::O 62::O 63::O 64::O 65::O 66::O 67::O 68::O 69::O 70::O 71::O 72::O 73::O 74::O 75::O 76::O 77::O 78::O 79::O 80::O 81::O 82::O 83::O 84::O 85::O 86::O 87::O 88::O 89::O 90::O 91::O 92::O 93::O 94::O 95::O 96::O 97::O 98::O 99::O 100::O 101::O 102::O 103::O 104::O 105::[] : List Value)) ∧ St w0 [Rows2 74 kHM (MapO (Value.int .i64) ek_S_impl_balance) v4 (stL mm74 x76 (some b77)) x139, IterAs b82 b81 ((rdL (stL x75 x76 (some ([] : (List (Int × S_impl_balance))))) (i64w (x76 + 1)) none).getD []) l114 none] w) ?_ ?_
        ·
         rintro t w ⟨x139, H, hf, hs⟩
         obtain ⟨O, rfl⟩ := hf.open
         try dsimp only
         unfold _impl_Weights_balances.a4 at H
         refine g_inBlock ?_
         have hs := hs.pull 1 rfl
         have hs := hs.pull 1 rfl
         have hs : St _ [_,_] _ := St.take (Γ' := []) hs
         exact ih2_ _ _ ⟨x139, l114, cast (congrFun hQ2_ _) H, rfl, hs⟩
        ·
         intro ha3_
         have hs := hs.pull 0 rfl
         have hs := hs.pull 2 rfl
         have hs := hs.pull 2 rfl
         have hs := hs.pull 3 rfl
         have hs : St _ [_,_,_,_] _ := St.take (Γ' := []) hs
         refine g_loop_fuel (I := fun n_ t w => ∃ x129 : (List (Option (List (Int × S_impl_balance)))), ∃ x130 : Int, roundsD (fun s => _impl_Weights_balances.b4 N r117 x76 a1 q113 s.1 s.2) n_ (x129, x130) (Ex.finBD (fun s => _impl_Weights_balances.a4 N l114 s x69_) x69_) ∧ Fr t (fun O => (v2::Value.bool a3::O 2::O 3::O 4::v4::Value.int .i64 x76::Value.int .i64 q113.1::Value.pointer (some ⟨b115, 0, none⟩)::O 9::O 10::O 11::O 12::O 13::O 14::O 15::O 16::O 17::O 18::O 19::O 20::O 21::O 22::O 23::O 24::O 25::O 26::O 27::O 28::O 29::O 30::O 31::O 32::O 33::O 34::O 35::O 36::O 37::O 38::O 39::O 40::O 41::Value.pointer (some ⟨b82, 0, none⟩)::O 43::O 44::O 45::O 46::O 47::O 48::v118::Value.int .i64 (r117.length : Int)::Value.int .i64 x130::O 52::O 53::O 54::O 55::O 56::O 57::O 58::O 59::O 60::O 61::O 62::O 63::O 64::O 65::O 66::O 67::O 68::O 69::O 70::O 71::O 72::O 73::O 74::O 75::O 76::O 77::O 78::O 79::O 80::O 81::O 82::O 83::O 84::O 85::O 86::O 87::O 88::O 89::O 90::O 91::O 92::O 93::O 94::O 95::O 96::O 97::O 98::O 99::O 100::O 101::O 102::O 103::O 104::O 105::[] : List Value)) ∧ St w0 [Rows2 74 kHM (MapO (Value.int .i64) ek_S_impl_balance) v4 (stL mm74 x76 (some b77)) x129, Cells b115 (enc_S_impl_balance q113.2) 78, IterAs b82 b81 ((rdL (stL x75 x76 (some ([] : (List (Int × S_impl_balance))))) (i64w (x76 + 1)) none).getD []) l114 none, Row 39 (K.int .i8) v118 r117] w) N ⟨x111, 0, Ho, rfl, hs⟩ ?_ ?_
         ·
          rintro _ _ ⟨x129, x130, h, _⟩
          exact (h : False).elim
         ·
          intro n_ ih3_
          rintro t w ⟨x129, x130, Ho, hf, hs⟩
          obtain ⟨O, rfl⟩ := hf.open
          try dsimp only
          obtain ⟨x68_, hQ3_, H⟩ := roundsD_succ Ho
          have H : _impl_Weights_balances.b4 N r117 x76 a1 q113 x129 x130 x68_ := H
          unfold _impl_Weights_balances.b4 at H
          refine g_seq ?_
          refine g_region ?_
          show G _ _ _ (.inRegion _ [0] :: _) _ _
          refine g_op_b (B := decide (x130 < (r117.length : Int))) rfl rfl rfl ?_ ?_
          ·
           intro hb
           rw [if_pos (b_dec_t hb)] at H
           refine g_d rfl ?_
           try dsimp only [set0,setS]
           refine g_ops_nil ?_
           refine g_seq ?_
           refine g_cond_true rfl ?_
           refine g_skip ?_
           refine g_seq ?_
           refine g_block ?_
           refine g_seq ?_
           refine g_region ?_
           show G _ _ _ (.inRegion _ [0, 1, 2] :: _) _ _
           obtain ⟨g62, H⟩ := ite_getD H
           refine s_idx (fkI .i8) 0 (hs.row 3 rfl) rfl (fun _ => rfl) g62.1 g62.2 rfl rfl rfl rfl rfl ?_
           intro p131 hp131 lp131 op131
           refine g_d rfl ?_
           try dsimp only [set0,setS]
           refine s_load1 rfl rfl (v := Value.int .i8 (rdL r117 x130 0)) rfl rfl (fun _ => rfl) hp131 ?_
           refine g_d rfl ?_
           try dsimp only [set0,setS]
           refine g_op (v := Value.int .i8 (rdL r117 x130 0)) rfl rfl rfl ?_
           refine g_d rfl ?_
           try dsimp only [set0,setS]
           refine g_ops_nil ?_
           refine g_seq ?_
           refine g_region ?_
           show G _ _ _ (.inRegion _ [0, 1, 2, 3, 4, 5, 6, 7, 8, 9, 10] :: _) _ _
           refine g_op (v := Value.int .i64 q113.1) rfl rfl rfl ?_
           refine g_d rfl ?_
           refine g_op (v := Value.int .i8 (rdL r117 x130 0)) rfl rfl rfl ?_
           refine g_d rfl ?_
           refine g_op (v := Value.int .i64 (i64w (rdL r117 x130 0))) rfl rfl rfl ?_
           refine g_d rfl ?_
           refine g_op (v := v2) rfl rfl rfl ?_
           refine g_d rfl ?_
           refine g_op (v := Value.int .i64 x76) rfl rfl rfl ?_
           refine g_d rfl ?_
           obtain ⟨g63, H⟩ := ite_getD H
           refine s_idx (fkI .i16) 0 (hs.rd hr0) rfl (fun _ => rfl) g63.1 g63.2 rfl rfl rfl rfl rfl ?_
           intro p132 hp132 lp132 op132
           refine g_d rfl ?_
           try dsimp only [set0,setS]
           refine s_load1 rfl rfl (v := Value.int .i16 (rdL a1 x76 0)) rfl rfl (fun _ => rfl) hp132 ?_
           refine g_d rfl ?_
           try dsimp only [set0,setS]
           refine g_op (v := Value.int .i64 (i64w (rdL a1 x76 0))) rfl rfl rfl ?_
           refine g_d rfl ?_
           refine g_op (v := Value.int .i64 (i64w ((i64w (rdL r117 x130 0)) * (i64w (rdL a1 x76 0))))) rfl rfl rfl ?_
           refine g_d rfl ?_
           try dsimp only [set0,setS]
           refine g_op (v := Value.int .i64 (i64w (q113.1 + (i64w ((i64w (rdL r117 x130 0)) * (i64w (rdL a1 x76 0))))))) rfl rfl rfl ?_
           refine g_d rfl ?_
           try dsimp only [set0,setS]
           refine g_op (v := Value.int .i64 (i64w (q113.1 + (i64w ((i64w (rdL r117 x130 0)) * (i64w (rdL a1 x76 0))))))) rfl rfl rfl ?_
           refine g_d rfl ?_
           try dsimp only [set0,setS]
           refine g_ops_nil ?_
           refine g_seq ?_
           refine g_region ?_
           show G _ _ _ (.inRegion _ [0, 1, 2, 3, 4, 5, 6, 7, 8] :: _) _ _
           refine g_op (v := Value.pointer (some ⟨b115, 1, none⟩)) rfl rfl rfl ?_
           refine g_d rfl ?_
           refine s_load1 rfl rfl (v := Value.int .i64 q113.2.f_least) rfl rfl (fun _ => rfl) (cells_load (hs.cells 1 rfl) 1 1 rfl) ?_
           refine g_d rfl ?_
           try dsimp only [set0,setS]
           refine g_op (v := Value.int .i8 (rdL r117 x130 0)) rfl rfl rfl ?_
           refine g_d rfl ?_
           refine g_op (v := Value.int .i64 (i64w (rdL r117 x130 0))) rfl rfl rfl ?_
           refine g_d rfl ?_
           refine g_op (v := Value.int .i8 (rdL r117 x130 0)) rfl rfl rfl ?_
           refine g_d rfl ?_
           refine g_op (v := Value.int .i64 (i64w (rdL r117 x130 0))) rfl rfl rfl ?_
           refine g_d rfl ?_
           refine g_op (v := Value.int .i64 (i64w ((i64w (rdL r117 x130 0)) * (i64w (rdL r117 x130 0))))) rfl rfl rfl ?_
           refine g_d rfl ?_
           try dsimp only [set0,setS]
           refine g_op (v := Value.int .i64 (i64w (q113.2.f_least + (i64w ((i64w (rdL r117 x130 0)) * (i64w (rdL r117 x130 0))))))) rfl rfl rfl ?_
           refine g_d rfl ?_
           try dsimp only [set0,setS]
           refine g_op (v := Value.int .i64 (i64w (q113.2.f_least + (i64w ((i64w (rdL r117 x130 0)) * (i64w (rdL r117 x130 0))))))) rfl rfl rfl ?_
           refine g_d rfl ?_
           try dsimp only [set0,setS]
           refine g_ops_nil ?_
           refine g_seq ?_
           refine g_region ?_
           show G _ _ _ (.inRegion _ [0, 1, 2, 3, 4, 5, 6, 7, 8, 9, 10, 11] :: _) _ _
           refine g_op (v := v4) rfl rfl rfl ?_
           refine g_d rfl ?_
           refine g_op (v := Value.int .i64 x76) rfl rfl rfl ?_
           refine g_d rfl ?_
           obtain ⟨g64, H⟩ := ite_getD H
           refine s_idx fkHM none (hs.r2row 0 rfl) rfl (fun _ => rfl) g64.1 (hs.r2lt 0 rfl g64.2) rfl rfl rfl rfl rfl ?_
           intro p133 hp133 lp133 op133
           refine g_d rfl ?_
           try dsimp only [set0,setS]
           refine s_load1 rfl rfl (v := Value.map (rdL (stL mm74 x76 (some b77)) x76 none)) rfl rfl (fun _ => rfl) hp133 ?_
           refine g_d rfl ?_
           try dsimp only [set0,setS]
           refine g_op (v := Value.int .i64 (i64w (q113.1 + (i64w ((i64w (rdL r117 x130 0)) * (i64w (rdL a1 x76 0))))))) rfl rfl rfl ?_
           refine g_d rfl ?_
           refine g_op (v := Value.tuple #[Value.agg (enc_S_impl_balance (mGet ((rdL x129 x76 none).getD []) (i64w (q113.1 + (i64w ((i64w (rdL r117 x130 0)) * (i64w (rdL a1 x76 0)))))) z_S_impl_balance)).toArray, Value.bool (mIdx ((rdL x129 x76 none).getD []) (i64w (q113.1 + (i64w ((i64w (rdL r117 x130 0)) * (i64w (rdL a1 x76 0))))))).isSome]) rfl rfl (x_lookupOkO (keyInt Try.underlying2) (a := i64w (q113.1 + (i64w ((i64w (rdL r117 x130 0)) * (i64w (rdL a1 x76 0)))))) (z := z_S_impl_balance) (hs.r2mp 0 rfl g64.1 g64.2) rfl Try.underlying74 rfl rfl (fun _ => rfl)) ?_
           refine g_d rfl ?_
           try dsimp only [set0,setS]
           refine g_op (v := Value.tuple #[Value.agg (enc_S_impl_balance (mGet ((rdL x129 x76 none).getD []) (i64w (q113.1 + (i64w ((i64w (rdL r117 x130 0)) * (i64w (rdL a1 x76 0)))))) z_S_impl_balance)).toArray, Value.bool (mIdx ((rdL x129 x76 none).getD []) (i64w (q113.1 + (i64w ((i64w (rdL r117 x130 0)) * (i64w (rdL a1 x76 0))))))).isSome]) rfl rfl rfl ?_
           refine g_d rfl ?_
           refine g_op (v := Value.agg (enc_S_impl_balance (mGet ((rdL x129 x76 none).getD []) (i64w (q113.1 + (i64w ((i64w (rdL r117 x130 0)) * (i64w (rdL a1 x76 0)))))) z_S_impl_balance)).toArray) rfl rfl rfl ?_
           refine g_d rfl ?_
           refine g_op (v := Value.bool (mIdx ((rdL x129 x76 none).getD []) (i64w (q113.1 + (i64w ((i64w (rdL r117 x130 0)) * (i64w (rdL a1 x76 0))))))).isSome) rfl rfl rfl ?_
           refine g_d rfl ?_
           refine s_alloc hs rfl rfl (z := (Value.agg #[Value.int .i64 0, Value.int .i64 0])) (cs := (enc_S_impl_balance z_S_impl_balance)) rfl (fun _ => rfl) rfl ?_
           intro b134 w hs
           refine g_d rfl ?_
           try dsimp only [set0,setS]
           refine s_storeAll (n := 2) hs (fk_S_impl_balance.len _) rfl rfl (vs := (enc_S_impl_balance (mGet ((rdL x129 x76 none).getD []) (i64w (q113.1 + (i64w ((i64w (rdL r117 x130 0)) * (i64w (rdL a1 x76 0)))))) z_S_impl_balance))) rfl rfl rfl (fun _ => rfl) (fk_S_impl_balance.len _) (fk_S_impl_balance.one _) ?_
           intro w hs
           refine g_n rfl ?_
           refine g_op (v := Value.bool (mIdx ((rdL x129 x76 none).getD []) (i64w (q113.1 + (i64w ((i64w (rdL r117 x130 0)) * (i64w (rdL a1 x76 0))))))).isSome) rfl rfl rfl ?_
           refine g_d rfl ?_
           try dsimp only [set0,setS]
           refine g_ops_nil ?_
           refine g_seq ?_
           refine g_seq ?_
           refine g_join2 (J := (fun t w => ∃ x136 : S_impl_balance, _impl_Weights_balances.j6 N x76 x129 q113 r117 x130 a1 x136 x68_ ∧ Fr t (fun O => (v2::Value.bool a3::O 2::O 3::O 4::v4::Value.int .i64 x76::Value.int .i64 q113.1::Value.pointer (some ⟨b115, 0, none⟩)::O 9::O 10::Value.int .i64 (i64w (q113.1 + (i64w ((i64w (rdL r117 x130 0)) * (i64w (rdL a1 x76 0))))))::O 12::Value.pointer (some ⟨b134, 0, none⟩)::O 14::O 15::O 16::O 17::O 18::O 19::O 20::O 21::O 22::O 23::O 24::O 25::O 26::O 27::O 28::O 29::O 30::O 31::O 32::O 33::O 34::O 35::O 36::O 37::O 38::O 39::O 40::O 41::Value.pointer (some ⟨b82, 0, none⟩)::O 43::O 44::O 45::O 46::O 47::O 48::v118::Value.int .i64 (r117.length : Int)::Value.int .i64 x130::O 52::O 53::O 54::O 55::O 56::O 57::O 58::O 59::O 60::O 61::O 62::O 63::O 64::O 65::O 66::O 67::O 68::O 69::O 70::O 71::O 72::O 73::O 74::O 75::O 76::O 77::O 78::O 79::O 80::O 81::O 82::O 83::O 84::O 85::O 86::O 87::O 88::O 89::O 90::O 91::O 92::O 93::O 94::O 95::O 96::O 97::O 98::O 99::O 100::O 101::O 102::O 103::O 104::O 105::[] : List Value)) ∧ St w0 [Rows2 74 kHM (MapO (Value.int .i64) ek_S_impl_balance) v4 (stL mm74 x76 (some b77)) x129, Cells b115 (enc_S_impl_balance q113.2) 78, Cells b134 (enc_S_impl_balance x136) 78, IterAs b82 b81 ((rdL (stL x75 x76 (some ([] : (List (Int × S_impl_balance))))) (i64w (x76 + 1)) none).getD []) l114 none, Row 39 (K.int .i8) v118 r117] w)) ?_ ?_
           ·
            rintro t w ⟨x136, H, hf, hs⟩
            obtain ⟨O, rfl⟩ := hf.open
            try dsimp only
            unfold _impl_Weights_balances.j6 at H
            refine g_seq ?_
            refine g_region ?_
            show G _ _ _ (.inRegion _ [0, 1, 2, 3, 4, 5, 6] :: _) _ _
            refine g_op (v := Value.pointer (some ⟨b134, 0, none⟩)) rfl rfl rfl ?_
            refine g_d rfl ?_
            refine s_load1 rfl rfl (v := Value.int .i64 x136.f_ways) rfl rfl (fun _ => rfl) (cells_load (hs.cells 2 rfl) 0 1 rfl) ?_
            refine g_d rfl ?_
            try dsimp only [set0,setS]
            refine g_op (v := Value.pointer (some ⟨b115, 0, none⟩)) rfl rfl rfl ?_
            refine g_d rfl ?_
            refine s_load1 rfl rfl (v := Value.int .i64 q113.2.f_ways) rfl rfl (fun _ => rfl) (cells_load (hs.cells 1 rfl) 0 1 rfl) ?_
            refine g_d rfl ?_
            try dsimp only [set0,setS]
            refine g_op (v := Value.int .i64 (i64w (x136.f_ways + q113.2.f_ways))) rfl rfl rfl ?_
            refine g_d rfl ?_
            try dsimp only [set0,setS]
            refine g_op (v := Value.pointer (some ⟨b134, 0, none⟩)) rfl rfl rfl ?_
            refine g_d rfl ?_
            have hs := hs.pull 2 rfl
            have hs : St _ [_,_,_,_,_] _ := hs
            refine s_store hs rfl rfl (vs := ((encI .i64) (i64w (x136.f_ways + q113.2.f_ways)))) (cs' := (enc_S_impl_balance (⟨i64w (x136.f_ways + q113.2.f_ways), x136.f_least⟩ : S_impl_balance))) rfl rfl rfl (n := 1) (fun _ => rfl) ((fkI .i64).len _) (by first | exact Nat.le_of_ble_eq_true rfl | simp [encAI_len, encAB_len, encA_len]) ((fkI .i64).one _) rfl ?_
            intro w hs
            refine g_n rfl ?_
            refine g_ops_nil ?_
            obtain ⟨gd65, H⟩ := ite_getD H
            obtain ⟨ad66_, ad66_N, ad66_C, had66_⟩ := sl_at (hs.r2row 1 rfl) gd65.1 (hs.r2lt 1 rfl gd65.2)
            obtain ⟨gd67, H⟩ := ite_getD H
            obtain ⟨b138, eb138⟩ := hs.r2some 1 rfl gd65.1 gd65.2 gd67
            refine g_name ?_
            intro T hT
            refine g_any (n := 7) rfl [0, 1, 2, 3, 4, 5, 6] [0, 1, 2, 3, 4, 5, 6] rfl rfl (Inv := fun D t w => ∃ b138 : Nat, ∃ O : Nat → Value, t = (v2::Value.bool a3::O 2::O 3::O 4::v4::Value.int .i64 x76::Value.int .i64 q113.1::Value.pointer (some ⟨b115, 0, none⟩)::O 9::O 10::Value.int .i64 (i64w (q113.1 + (i64w ((i64w (rdL r117 x130 0)) * (i64w (rdL a1 x76 0))))))::O 12::Value.pointer (some ⟨b134, 0, none⟩)::O 14::O 15::O 16::O 17::O 18::O 19::O 20::O 21::O 22::O 23::O 24::O 25::O 26::O 27::O 28::O 29::O 30::O 31::O 32::O 33::O 34::O 35::O 36::O 37::O 38::O 39::O 40::O 41::Value.pointer (some ⟨b82, 0, none⟩)::O 43::O 44::O 45::O 46::O 47::O 48::v118::Value.int .i64 (r117.length : Int)::Value.int .i64 x130::O 52::O 53::O 54::O 55::O 56::O 57::O 58::O 59::O 60::O 61::O 62::O 63::O 64::O 65::O 66::O 67::O 68::O 69::O 70::O 71::O 72::O 73::O 74::O 75::O 76::O 77::O 78::O 79::O 80::O 81::O 82::O 83::O 84::O 85::O 86::O 87::O 88::O 89::O 90::O 91::Value.pointer (some ⟨b134, 0, none⟩)::Value.int .i64 x136.f_ways::Value.pointer (some ⟨b115, 0, none⟩)::Value.int .i64 q113.2.f_ways::Value.int .i64 (i64w (x136.f_ways + q113.2.f_ways))::Value.pointer (some ⟨b134, 0, none⟩)::cnd (D 0) v4 (O 98)::cnd (D 1) (Value.int .i64 x76) (O 99)::cnd (D 2) (Value.pointer (some (ad66_.add (x76.toNat * 1)))) (O 100)::cnd (D 3) (Value.map (rdL (stL mm74 x76 (some b77)) x76 none)) (O 101)::cnd (D 4) (Value.int .i64 (i64w (q113.1 + (i64w ((i64w (rdL r117 x130 0)) * (i64w (rdL a1 x76 0))))))) (O 102)::cnd (D 5) (Value.agg (enc_S_impl_balance (⟨i64w (x136.f_ways + q113.2.f_ways), x136.f_least⟩ : S_impl_balance)).toArray) (O 103)::O 104::O 105::[]) ∧ St w0 [Cells b134 (enc_S_impl_balance (⟨i64w (x136.f_ways + q113.2.f_ways), x136.f_least⟩ : S_impl_balance)) 78, Rows2 74 kHM (MapO (Value.int .i64) ek_S_impl_balance) v4 (stL mm74 x76 (some b77)) (cnd (D 6) (stL x129 x76 (some (mSet ((rdL x129 x76 none).getD []) (i64w (q113.1 + (i64w ((i64w (rdL r117 x130 0)) * (i64w (rdL a1 x76 0)))))) (⟨i64w (x136.f_ways + q113.2.f_ways), x136.f_least⟩ : S_impl_balance)))) x129), Cells b115 (enc_S_impl_balance q113.2) 78, IterAs b82 b81 ((rdL (stL x75 x76 (some ([] : (List (Int × S_impl_balance))))) (i64w (x76 + 1)) none).getD []) l114 none, Row 39 (K.int .i8) v118 r117] w) ?_ ⟨⟨⟨⟨⟨⟨⟨trivial, ?_⟩, ?_⟩, ?_⟩, ?_⟩, ?_⟩, ?_⟩, ?_⟩ ?_
            ·
             intro w hh hbw
             have hs := hs.samew hh hbw
             exact ⟨0, fun i => T.getD i undef, (by subst hT; rfl), hs⟩
            ·
             intro D t w hD hp hcl hI rest hk
             obtain ⟨b138, O, ht, hs⟩ := hI
             have q2_ : D 2 = false := not_yet (hcl.get 2 (by decide)) 0 0 rfl hD
             have q3_ : D 3 = false := not_yet (hcl.get 3 (by decide)) 0 2 rfl q2_
             have q6_ : D 6 = false := not_yet (hcl.get 6 (by decide)) 0 3 rfl q3_
             simp only [hD, q2_, q3_, q6_, cnd_t, cnd_f, Asc_t, Asc_f] at ht hs
             subst ht
             refine g_op (v := v4) rfl rfl rfl ?_
             refine g_d rfl ?_
             try dsimp only [set0,setS]
             exact hk _ _ ⟨b138, O, (by simp only [upd, Nat.reduceBEq, Bool.true_or, Bool.false_or, q2_, q3_, q6_, cnd_t, cnd_f, Asc_t, Asc_f]), hs.cast (by first | rfl | simp only [List.take, List.drop, List.cons_append, List.nil_append, List.set_cons_zero, List.set_cons_succ, List.eraseIdx, upd, Nat.reduceBEq, Bool.true_or, Bool.false_or, q2_, q3_, q6_, cnd_t, cnd_f, Asc_t, Asc_f])⟩
            ·
             intro D t w hD hp hcl hI rest hk
             obtain ⟨b138, O, ht, hs⟩ := hI
             have q2_ : D 2 = false := not_yet (hcl.get 2 (by decide)) 1 1 rfl hD
             have q3_ : D 3 = false := not_yet (hcl.get 3 (by decide)) 0 2 rfl q2_
             have q6_ : D 6 = false := not_yet (hcl.get 6 (by decide)) 0 3 rfl q3_
             simp only [hD, q2_, q3_, q6_, cnd_t, cnd_f, Asc_t, Asc_f] at ht hs
             subst ht
             refine g_op (v := Value.int .i64 x76) rfl rfl rfl ?_
             refine g_d rfl ?_
             try dsimp only [set0,setS]
             exact hk _ _ ⟨b138, O, (by simp only [upd, Nat.reduceBEq, Bool.true_or, Bool.false_or, q2_, q3_, q6_, cnd_t, cnd_f, Asc_t, Asc_f]), hs.cast (by first | rfl | simp only [List.take, List.drop, List.cons_append, List.nil_append, List.set_cons_zero, List.set_cons_succ, List.eraseIdx, upd, Nat.reduceBEq, Bool.true_or, Bool.false_or, q2_, q3_, q6_, cnd_t, cnd_f, Asc_t, Asc_f])⟩
            ·
             intro D t w hD hp hcl hI rest hk
             obtain ⟨b138, O, ht, hs⟩ := hI
             obtain ⟨p0_, p1_, _⟩ := hp
             have q3_ : D 3 = false := not_yet (hcl.get 3 (by decide)) 0 2 rfl hD
             have q6_ : D 6 = false := not_yet (hcl.get 6 (by decide)) 0 3 rfl q3_
             simp only [hD, p0_, p1_, q3_, q6_, cnd_t, cnd_f, Asc_t, Asc_f] at ht hs
             subst ht
             refine s_idxD (κ := kHM) (m := 1) rfl (hs.r2row 1 rfl) rfl (fun _ => rfl) gd65.1 (hs.r2lt 1 rfl gd65.2) had66_ rfl rfl rfl rfl rfl ?_
             refine g_d rfl ?_
             try dsimp only [set0,setS]
             exact hk _ _ ⟨b138, O, (by simp only [upd, Nat.reduceBEq, Bool.true_or, Bool.false_or, p0_, p1_, q3_, q6_, cnd_t, cnd_f, Asc_t, Asc_f]), hs.cast (by first | rfl | simp only [List.take, List.drop, List.cons_append, List.nil_append, List.set_cons_zero, List.set_cons_succ, List.eraseIdx, upd, Nat.reduceBEq, Bool.true_or, Bool.false_or, p0_, p1_, q3_, q6_, cnd_t, cnd_f, Asc_t, Asc_f])⟩
            ·
             intro D t w hD hp hcl hI rest hk
             obtain ⟨b138, O, ht, hs⟩ := hI
             obtain ⟨p2_, _⟩ := hp
             obtain ⟨p0_, p1_, _⟩ := (hcl.get 2 (by decide)) p2_
             have q6_ : D 6 = false := not_yet (hcl.get 6 (by decide)) 0 3 rfl hD
             simp only [hD, p0_, p1_, p2_, q6_, cnd_t, cnd_f, Asc_t, Asc_f] at ht hs
             subst ht
             refine s_load1 rfl rfl (v := Value.map (rdL (stL mm74 x76 (some b77)) x76 none)) rfl rfl (fun _ => rfl) (cellsAt_of fkHM none (hs.r2row 1 rfl) had66_ gd65.1 (hs.r2lt 1 rfl gd65.2)) ?_
             refine g_d rfl ?_
             try dsimp only [set0,setS]
             exact hk _ _ ⟨b138, O, (by simp only [upd, Nat.reduceBEq, Bool.true_or, Bool.false_or, p0_, p1_, p2_, q6_, cnd_t, cnd_f, Asc_t, Asc_f]), hs.cast (by first | rfl | simp only [List.take, List.drop, List.cons_append, List.nil_append, List.set_cons_zero, List.set_cons_succ, List.eraseIdx, upd, Nat.reduceBEq, Bool.true_or, Bool.false_or, p0_, p1_, p2_, q6_, cnd_t, cnd_f, Asc_t, Asc_f])⟩
            ·
             intro D t w hD hp hcl hI rest hk
             obtain ⟨b138, O, ht, hs⟩ := hI
             have q6_ : D 6 = false := not_yet (hcl.get 6 (by decide)) 1 4 rfl hD
             simp only [hD, q6_, cnd_t, cnd_f, Asc_t, Asc_f] at ht hs
             subst ht
             refine g_op (v := Value.int .i64 (i64w (q113.1 + (i64w ((i64w (rdL r117 x130 0)) * (i64w (rdL a1 x76 0))))))) rfl rfl rfl ?_
             refine g_d rfl ?_
             try dsimp only [set0,setS]
             exact hk _ _ ⟨b138, O, (by simp only [upd, Nat.reduceBEq, Bool.true_or, Bool.false_or, q6_, cnd_t, cnd_f, Asc_t, Asc_f]), hs.cast (by first | rfl | simp only [List.take, List.drop, List.cons_append, List.nil_append, List.set_cons_zero, List.set_cons_succ, List.eraseIdx, upd, Nat.reduceBEq, Bool.true_or, Bool.false_or, q6_, cnd_t, cnd_f, Asc_t, Asc_f])⟩
            ·
             intro D t w hD hp hcl hI rest hk
             obtain ⟨b138, O, ht, hs⟩ := hI
             have q6_ : D 6 = false := not_yet (hcl.get 6 (by decide)) 2 5 rfl hD
             simp only [hD, q6_, cnd_t, cnd_f, Asc_t, Asc_f] at ht hs
             subst ht
             refine s_loadA rfl rfl (es := (enc_S_impl_balance (⟨i64w (x136.f_ways + q113.2.f_ways), x136.f_least⟩ : S_impl_balance))) rfl rfl (fun _ => rfl) (n := 2) (fun _ => rfl) (fk_S_impl_balance.len _) (cells_all (hs.cells 0 rfl)) ?_
             refine g_d rfl ?_
             try dsimp only [set0,setS]
             exact hk _ _ ⟨b138, O, (by simp only [upd, Nat.reduceBEq, Bool.true_or, Bool.false_or, q6_, cnd_t, cnd_f, Asc_t, Asc_f]), hs.cast (by first | rfl | simp only [List.take, List.drop, List.cons_append, List.nil_append, List.set_cons_zero, List.set_cons_succ, List.eraseIdx, upd, Nat.reduceBEq, Bool.true_or, Bool.false_or, q6_, cnd_t, cnd_f, Asc_t, Asc_f])⟩
            ·
             intro D t w hD hp hcl hI rest hk
             obtain ⟨b138, O, ht, hs⟩ := hI
             obtain ⟨p3_, p4_, p5_, p0_, p1_, p2_, _, _, _, _⟩ := hp
             simp only [hD, p0_, p1_, p2_, p3_, p4_, p5_, cnd_t, cnd_f, Asc_t, Asc_f] at ht hs
             subst ht
             have hs := hs.pull 1 rfl
             have hs : St _ [_,_,_,_,_] _ := hs
             refine s_r2set (keyInt Try.underlying2) gd65.1 gd65.2 eb138 (a := i64w (q113.1 + (i64w ((i64w (rdL r117 x130 0)) * (i64w (rdL a1 x76 0)))))) (y := (⟨i64w (x136.f_ways + q113.2.f_ways), x136.f_least⟩ : S_impl_balance)) hs rfl rfl (.inl rfl) Try.underlying74 rfl rfl rfl ?_
             intro w hs
             refine g_n rfl ?_
             try dsimp only [set0,setS]
             have hs := hs.push 1 (by simp)
             exact hk _ _ ⟨b138, O, (by simp only [upd, Nat.reduceBEq, Bool.true_or, Bool.false_or, p0_, p1_, p2_, p3_, p4_, p5_, cnd_t, cnd_f, Asc_t, Asc_f]), hs.cast (by first | rfl | simp only [List.take, List.drop, List.cons_append, List.nil_append, List.set_cons_zero, List.set_cons_succ, List.eraseIdx, upd, Nat.reduceBEq, Bool.true_or, Bool.false_or, p0_, p1_, p2_, p3_, p4_, p5_, cnd_t, cnd_f, Asc_t, Asc_f])⟩
            ·
             intro D t w hall hI
             obtain ⟨b138, O, ht, hs⟩ := hI
             have p0_ : D 0 = true := hall 0 (by decide)
             have p1_ : D 1 = true := hall 1 (by decide)
             have p2_ : D 2 = true := hall 2 (by decide)
             have p3_ : D 3 = true := hall 3 (by decide)
             have p4_ : D 4 = true := hall 4 (by decide)
             have p5_ : D 5 = true := hall 5 (by decide)
             have p6_ : D 6 = true := hall 6 (by decide)
             simp only [p0_, p1_, p2_, p3_, p4_, p5_, p6_, cnd_t, cnd_f, Asc_t, Asc_f] at ht hs
             subst ht
             refine g_inBlock ?_
             refine g_region ?_
             show G _ _ _ (.inRegion _ [0, 1] :: _) _ _
             refine g_op (v := Value.int .i64 (i64w (x130 + 1))) rfl rfl rfl ?_
             refine g_d rfl ?_
             try dsimp only [set0,setS]
             refine g_op (v := Value.int .i64 (i64w (x130 + 1))) rfl rfl rfl ?_
             refine g_d rfl ?_
             refine g_ops_nil ?_
             have hs := hs.pull 4 rfl
             have hs := hs.pull 4 rfl
             have hs := hs.pull 4 rfl
             have hs := hs.pull 4 rfl
             have hs : St _ [_,_,_,_] _ := St.take (Γ' := [_]) hs
             exact ih3_ _ _ ⟨stL x129 x76 (some (mSet ((rdL x129 x76 none).getD []) (i64w (q113.1 + (i64w ((i64w (rdL r117 x130 0)) * (i64w (rdL a1 x76 0)))))) (⟨i64w (x136.f_ways + q113.2.f_ways), x136.f_least⟩ : S_impl_balance))), i64w (x130 + 1), cast (congrFun hQ3_ _) H, rfl, hs⟩
           ·
            intro ha
            refine g_region ?_
            show G _ _ _ (.inRegion _ [0, 1, 2, 3, 4, 5, 6, 7] :: _) _ _
            refine g_op_b (B := (mIdx ((rdL x129 x76 none).getD []) (i64w (q113.1 + (i64w ((i64w (rdL r117 x130 0)) * (i64w (rdL a1 x76 0))))))).isSome) rfl rfl rfl ?_ ?_
            ·
             intro hb
             rw [if_pos (b_var_t hb)] at H
             refine g_d rfl ?_
             refine g_op (v := Value.bool false) rfl rfl rfl ?_
             refine g_d rfl ?_
             try dsimp only [set0,setS]
             refine g_op (v := Value.bool false) rfl rfl rfl ?_
             refine g_d rfl ?_
             refine g_op (v := Value.int .i64 (i64w (q113.2.f_least + (i64w ((i64w (rdL r117 x130 0)) * (i64w (rdL r117 x130 0))))))) rfl rfl rfl ?_
             refine g_d rfl ?_
             refine g_op (v := Value.pointer (some ⟨b134, 1, none⟩)) rfl rfl rfl ?_
             refine g_d rfl ?_
             refine s_load1 rfl rfl (v := Value.int .i64 ((mGet ((rdL x129 x76 none).getD []) (i64w (q113.1 + (i64w ((i64w (rdL r117 x130 0)) * (i64w (rdL a1 x76 0)))))) z_S_impl_balance).f_least)) rfl rfl (fun _ => rfl) (cells_load (hs.cells 0 rfl) 1 1 rfl) ?_
             refine g_d rfl ?_
             try dsimp only [set0,setS]
             refine g_op_b (B := decide ((i64w (q113.2.f_least + (i64w ((i64w (rdL r117 x130 0)) * (i64w (rdL r117 x130 0)))))) < ((mGet ((rdL x129 x76 none).getD []) (i64w (q113.1 + (i64w ((i64w (rdL r117 x130 0)) * (i64w (rdL a1 x76 0)))))) z_S_impl_balance).f_least))) rfl rfl rfl ?_ ?_
             ·
              intro hb
              rw [if_pos (b_dec_t hb)] at H
              refine g_d rfl ?_
              try dsimp only [set0,setS]
              refine g_op (v := Value.bool true) rfl rfl rfl ?_
              refine g_d rfl ?_
              try dsimp only [set0,setS]
              refine g_ops_nil ?_
              refine g_cond_true rfl ?_
              refine g_region ?_
              show G _ _ _ (.inRegion _ [0, 1, 2] :: _) _ _
              refine g_op (v := Value.int .i64 (i64w (q113.2.f_least + (i64w ((i64w (rdL r117 x130 0)) * (i64w (rdL r117 x130 0))))))) rfl rfl rfl ?_
              refine g_d rfl ?_
              refine g_op (v := Value.pointer (some ⟨b134, 1, none⟩)) rfl rfl rfl ?_
              refine g_d rfl ?_
              refine s_store hs rfl rfl (vs := ((encI .i64) (i64w (q113.2.f_least + (i64w ((i64w (rdL r117 x130 0)) * (i64w (rdL r117 x130 0)))))))) (cs' := (enc_S_impl_balance (⟨(mGet ((rdL x129 x76 none).getD []) (i64w (q113.1 + (i64w ((i64w (rdL r117 x130 0)) * (i64w (rdL a1 x76 0)))))) z_S_impl_balance).f_ways, i64w (q113.2.f_least + (i64w ((i64w (rdL r117 x130 0)) * (i64w (rdL r117 x130 0)))))⟩ : S_impl_balance))) rfl rfl rfl (n := 1) (fun _ => rfl) ((fkI .i64).len _) (by first | exact Nat.le_of_ble_eq_true rfl | simp [encAI_len, encAB_len, encA_len]) ((fkI .i64).one _) rfl ?_
              intro w hs
              refine g_n rfl ?_
              refine g_ops_nil ?_
              have hs := hs.pull 4 rfl
              have hs := hs.pull 4 rfl
              have hs := hs.pull 2 rfl
              have hs := hs.pull 4 rfl
              have hs := hs.pull 4 rfl
              have hs : St _ [_,_,_,_,_] _ := St.take (Γ' := []) hs
              exact ha _ _ ⟨(⟨(mGet ((rdL x129 x76 none).getD []) (i64w (q113.1 + (i64w ((i64w (rdL r117 x130 0)) * (i64w (rdL a1 x76 0)))))) z_S_impl_balance).f_ways, i64w (q113.2.f_least + (i64w ((i64w (rdL r117 x130 0)) * (i64w (rdL r117 x130 0)))))⟩ : S_impl_balance), H, rfl, hs⟩
             ·
              intro hb
              rw [if_neg (b_dec_f hb)] at H
              refine g_d rfl ?_
              try dsimp only [set0,setS]
              refine g_op (v := Value.bool false) rfl rfl rfl ?_
              refine g_d rfl ?_
              try dsimp only [set0,setS]
              refine g_ops_nil ?_
              refine g_cond_false rfl ?_
              refine g_skip ?_
              have hs := hs.pull 4 rfl
              have hs := hs.pull 4 rfl
              have hs := hs.pull 2 rfl
              have hs := hs.pull 4 rfl
              have hs := hs.pull 4 rfl
              have hs : St _ [_,_,_,_,_] _ := St.take (Γ' := []) hs
              exact ha _ _ ⟨mGet ((rdL x129 x76 none).getD []) (i64w (q113.1 + (i64w ((i64w (rdL r117 x130 0)) * (i64w (rdL a1 x76 0)))))) z_S_impl_balance, H, rfl, hs⟩
            ·
             intro hb
             rw [if_neg (b_var_f hb)] at H
             refine g_d rfl ?_
             refine g_op (v := Value.bool true) rfl rfl rfl ?_
             refine g_d rfl ?_
             try dsimp only [set0,setS]
             refine g_op (v := Value.bool true) rfl rfl rfl ?_
             refine g_d rfl ?_
             refine g_op_not rfl rfl ?_
             refine g_d rfl ?_
             refine g_op_not rfl rfl ?_
             refine g_d rfl ?_
             refine g_op_not rfl rfl ?_
             refine g_d rfl ?_
             try dsimp only [set0,setS]
             refine g_op_not rfl rfl ?_
             refine g_d rfl ?_
             try dsimp only [set0,setS]
             refine g_op (v := Value.bool true) rfl rfl rfl ?_
             refine g_d rfl ?_
             try dsimp only [set0,setS]
             refine g_ops_nil ?_
             refine g_cond_true rfl ?_
             refine g_region ?_
             show G _ _ _ (.inRegion _ [0, 1, 2] :: _) _ _
             refine g_op (v := Value.int .i64 (i64w (q113.2.f_least + (i64w ((i64w (rdL r117 x130 0)) * (i64w (rdL r117 x130 0))))))) rfl rfl rfl ?_
             refine g_d rfl ?_
             refine g_op (v := Value.pointer (some ⟨b134, 1, none⟩)) rfl rfl rfl ?_
             refine g_d rfl ?_
             refine s_store hs rfl rfl (vs := ((encI .i64) (i64w (q113.2.f_least + (i64w ((i64w (rdL r117 x130 0)) * (i64w (rdL r117 x130 0)))))))) (cs' := (enc_S_impl_balance (⟨(mGet ((rdL x129 x76 none).getD []) (i64w (q113.1 + (i64w ((i64w (rdL r117 x130 0)) * (i64w (rdL a1 x76 0)))))) z_S_impl_balance).f_ways, i64w (q113.2.f_least + (i64w ((i64w (rdL r117 x130 0)) * (i64w (rdL r117 x130 0)))))⟩ : S_impl_balance))) rfl rfl rfl (n := 1) (fun _ => rfl) ((fkI .i64).len _) (by first | exact Nat.le_of_ble_eq_true rfl | simp [encAI_len, encAB_len, encA_len]) ((fkI .i64).one _) rfl ?_
             intro w hs
             refine g_n rfl ?_
             refine g_ops_nil ?_
             have hs := hs.pull 4 rfl
             have hs := hs.pull 4 rfl
             have hs := hs.pull 2 rfl
             have hs := hs.pull 4 rfl
             have hs := hs.pull 4 rfl
             have hs : St _ [_,_,_,_,_] _ := St.take (Γ' := []) hs
             exact ha _ _ ⟨(⟨(mGet ((rdL x129 x76 none).getD []) (i64w (q113.1 + (i64w ((i64w (rdL r117 x130 0)) * (i64w (rdL a1 x76 0)))))) z_S_impl_balance).f_ways, i64w (q113.2.f_least + (i64w ((i64w (rdL r117 x130 0)) * (i64w (rdL r117 x130 0)))))⟩ : S_impl_balance), H, rfl, hs⟩
          ·
           intro hb
           rw [if_neg (b_dec_f hb)] at H
           refine g_d rfl ?_
           try dsimp only [set0,setS]
           refine g_ops_nil ?_
           refine g_seq ?_
           refine g_cond_false rfl ?_
           have hs := hs.pull 2 rfl
           have hs := hs.pull 1 rfl
           have hs : St _ [_,_] _ := St.take (Γ' := [_,_]) hs
           refine g_exit rfl ?_
           exact ha3_ _ _ ⟨x129, cast (congrFun hQ3_ _) H, rfl, hs⟩
    ·
     intro hb
     rw [if_neg (b_dec_f hb)] at H
     refine g_d rfl ?_
     try dsimp only [set0,setS]
     refine g_ops_nil ?_
     refine g_cond_false rfl ?_
     have hs := hs.pull 0 rfl
     have hs : St _ [_] _ := St.take (Γ' := []) hs
     refine g_exit rfl ?_
     exact ha1_ _ _ ⟨mm74, x75, cast (congrFun hQ1_ _) H, rfl, hs⟩

/- function 31 _impl_Weights_weighed -/
def _impl_Weights_weighed.post (w0 : World) (r : (List (Int × S_impl_balance))) (v : Value) (w : World) : Prop := ∃ b1 : Nat, ∃ b2 : Nat, v = Value.func (Fn.func 46) #[] #[Value.pointer (some ⟨b1, 0, none⟩)] ∧ St w0 [Cells b1 ([Value.map (some b2)]) 74, MapAs b2 (Value.int .i64) ek_S_impl_balance r] w
set_option maxHeartbeats 8000000 in
set_option maxRecDepth 100000 in
theorem _impl_Weights_weighed.calls {N : Nat} {a1 : (List Int)} {a3 : Bool} {v2 : Value} {w0 : World} {Q : (List (Int × S_impl_balance)) → Prop} (hr0 : RdRow (K.int .i16) w0 v2 a1) (H : _impl_Weights_weighed.f N a1 a3 Q) :
    Calls Try.prog 31 #[v2, Value.bool a3] w0 fun e w => ∃ v, e = .returned v ∧ ∃ r, Q r ∧ _impl_Weights_weighed.post w0 r v w := by
  unfold _impl_Weights_weighed.f at H
  have hs : St w0 [] w0 := St.refl w0
  refine calls_of_g (n := 10) Try.func31 rfl rfl ?_
  show G _ _ _ _ [_,_,_,_,_,_,_,_,_,_,_,_] _
  refine g_seq ?_
  refine g_region ?_
  show G _ _ _ (.inRegion _ [0] :: _) _ _
  refine g_op (v := Value.nilFunc) rfl rfl rfl ?_
  show G _ _ _ _ [_,_,_,_,_,_,_,_,_,_,_,_] _
  refine g_ops_nil ?_
  refine g_seq ?_
  refine g_region ?_
  show G _ _ _ (.inRegion _ [0, 1, 2, 3, 4, 5, 6] :: _) _ _
  refine g_op (v := v2) rfl rfl rfl ?_
  show G _ _ _ _ [_,_,_,_,_,_,_,_,_,_,_,_] _
  refine g_op (v := Value.bool a3) rfl rfl rfl ?_
  show G _ _ _ _ [_,_,_,_,_,_,_,_,_,_,_,_] _
  refine s_call (args := [v2, Value.bool a3]) rfl rfl (x_call rfl (callFunc_enter Try.func45 rfl rfl) rfl) (_impl_Weights_balances.calls (a1 := a1) (a3 := a3) (hs.rd hr0) H) ?_
  rintro v5 w ⟨r4, H, _, mm6, rfl, hs2⟩
  try dsimp only at H
  have hs : St _ [_] _ := hs.call hs2
  show G _ _ _ _ [_,_,_,_,_,_,_,_,_,_,_,_] _
  obtain ⟨g1, H⟩ := ite_getD H
  refine s_idx fkHM none (hs.r2row 0 rfl) rfl (fun _ => rfl) g1.1 (hs.r2lt 0 rfl g1.2) rfl rfl rfl rfl rfl ?_
  intro p8 hp8 lp8 op8
  show G _ _ _ _ [_,_,_,_,_,_,_,_,_,_,_,_] _
  refine s_load1 rfl rfl (v := Value.map (rdL mm6 0 none)) rfl rfl (fun _ => rfl) hp8 ?_
  show G _ _ _ _ [_,_,_,_,_,_,_,_,_,_,_,_] _
  refine s_alloc hs rfl rfl (z := (Value.map none)) (cs := [Value.map none]) rfl (fun _ => rfl) rfl ?_
  intro b9 w hs
  show G _ _ _ _ [_,_,_,_,_,_,_,_,_,_,_,_] _
  obtain ⟨g2, H⟩ := ite_getD H
  obtain ⟨b11, eb11⟩ := hs.r2some 1 rfl g1.1 g1.2 g2
  have hs := hs.pull 1 rfl
  have hs : St _ [_,_] _ := hs
  have hs := hs.r2pickM g1.1 g1.2 eb11 (some_getD g2)
  have hs : St _ [_,_] _ := hs
  have hs := hs.pull 1 rfl
  have hs : St _ [_,_] _ := hs
  refine s_storeAll (n := 1) hs rfl rfl rfl (vs := [Value.map (some b11)]) rfl rfl (congrArg Value.cells (congrArg Value.map eb11)) (fun _ => rfl) rfl (by simp [Value.oneCell']) ?_
  intro w hs
  refine g_ops_nil ?_
  refine g_seq ?_
  refine g_region ?_
  show G _ _ _ (.inRegion _ [0, 1] :: _) _ _
  refine g_op (v := Value.func (Fn.func 46) #[] #[Value.pointer (some ⟨b9, 0, none⟩)]) rfl rfl (x_mkfunc rfl rfl) ?_
  show G _ _ _ _ [_,_,_,_,_,_,_,_,_,_,_,_] _
  refine g_op (v := Value.func (Fn.func 46) #[] #[Value.pointer (some ⟨b9, 0, none⟩)]) rfl rfl rfl ?_
  show G _ _ _ _ [_,_,_,_,_,_,_,_,_,_,_,_] _
  refine g_ops_nil ?_
  refine g_ret Try.func31 (v := Value.func (Fn.func 46) #[] #[Value.pointer (some ⟨b9, 0, none⟩)]) (res1 rfl rfl) ?_
  have hs := hs.pull 1 rfl
  have hs := hs.pull 1 rfl
  have hs : St _ [_,_] _ := St.take (Γ' := []) hs
  exact ⟨_, rfl, _, H, b9, b11, rfl, hs⟩

/- function 46 _impl_Weights_weighed_1 -/
def _impl_Weights_weighed_1.post (wb : World) (Z : As) (b4 : Nat) (b3 : Nat) (b4 : Nat) (r : (Bool × (List (Int × S_impl_balance)) × (List (Int × S_impl_balance)))) (v : Value) (w : World) : Prop := v = Value.bool r.1 ∧ St wb [MapAs b4 (Value.int .i64) ek_S_impl_balance r.2.1, Cells b3 ([Value.map (some b4)]) 74, Z] w
set_option maxHeartbeats 8000000 in
set_option maxRecDepth 100000 in
theorem _impl_Weights_weighed_1.calls {N : Nat} {a1 : Int} {a2 : (List (Int × S_impl_balance))} {b3 : Nat} {b4 : Nat} {wb : World} {Z : As} {w0 : World} {r : (Bool × (List (Int × S_impl_balance)) × (List (Int × S_impl_balance)))} (hs : St wb [MapAs b4 (Value.int .i64) ek_S_impl_balance a2, Cells b3 ([Value.map (some b4)]) 74, Z] w0) (H : _impl_Weights_weighed_1.f N a1 a2 = some r) :
    Calls Try.prog 46 #[Value.int .i64 a1, Value.pointer (some ⟨b3, 0, none⟩)] w0 fun e w => ∃ v, e = .returned v ∧ _impl_Weights_weighed_1.post wb Z b4 b3 b4 r v w := by
  unfold _impl_Weights_weighed_1.f at H
  refine calls_of_g (n := 11) Try.func46 rfl rfl ?_
  show G _ _ _ _ [_,_,_,_,_,_,_,_,_,_,_,_,_] _
  refine g_seq ?_
  refine g_region ?_
  show G _ _ _ (.inRegion _ [0] :: _) _ _
  refine g_op (v := Value.bool false) rfl rfl rfl ?_
  show G _ _ _ _ [_,_,_,_,_,_,_,_,_,_,_,_,_] _
  refine g_ops_nil ?_
  refine g_seq ?_
  refine g_region ?_
  show G _ _ _ (.inRegion _ [0, 1, 2, 3, 4, 5, 6, 7, 8] :: _) _ _
  refine s_load1 rfl rfl (v := Value.map (some b4)) rfl rfl (fun _ => rfl) (cells_load (hs.cells 1 rfl) 0 1 rfl) ?_
  show G _ _ _ _ [_,_,_,_,_,_,_,_,_,_,_,_,_] _
  refine g_op (v := Value.int .i64 a1) rfl rfl rfl ?_
  show G _ _ _ _ [_,_,_,_,_,_,_,_,_,_,_,_,_] _
  refine g_op (v := Value.tuple #[Value.agg (enc_S_impl_balance (mGet a2 a1 z_S_impl_balance)).toArray, Value.bool (mIdx a2 a1).isSome]) rfl rfl (x_lookupOk (keyInt Try.underlying2) (a := a1) (z := z_S_impl_balance) (hs.mp 0 rfl) rfl Try.underlying74 rfl rfl (fun _ => rfl)) ?_
  show G _ _ _ _ [_,_,_,_,_,_,_,_,_,_,_,_,_] _
  refine g_op (v := Value.tuple #[Value.agg (enc_S_impl_balance (mGet a2 a1 z_S_impl_balance)).toArray, Value.bool (mIdx a2 a1).isSome]) rfl rfl rfl ?_
  show G _ _ _ _ [_,_,_,_,_,_,_,_,_,_,_,_,_] _
  refine g_op (v := Value.agg (enc_S_impl_balance (mGet a2 a1 z_S_impl_balance)).toArray) rfl rfl rfl ?_
  show G _ _ _ _ [_,_,_,_,_,_,_,_,_,_,_,_,_] _
  refine g_op (v := Value.bool (mIdx a2 a1).isSome) rfl rfl rfl ?_
  show G _ _ _ _ [_,_,_,_,_,_,_,_,_,_,_,_,_] _
  refine s_alloc hs rfl rfl (z := (Value.agg #[Value.int .i64 0, Value.int .i64 0])) (cs := (enc_S_impl_balance z_S_impl_balance)) rfl (fun _ => rfl) rfl ?_
  intro b7 w hs
  show G _ _ _ _ [_,_,_,_,_,_,_,_,_,_,_,_,_] _
  refine s_storeAll (n := 2) hs (fk_S_impl_balance.len _) rfl rfl (vs := (enc_S_impl_balance (mGet a2 a1 z_S_impl_balance))) rfl rfl rfl (fun _ => rfl) (fk_S_impl_balance.len _) (fk_S_impl_balance.one _) ?_
  intro w hs
  refine g_op (v := Value.bool (mIdx a2 a1).isSome) rfl rfl rfl ?_
  show G _ _ _ _ [_,_,_,_,_,_,_,_,_,_,_,_,_] _
  refine g_ops_nil ?_
  refine g_seq ?_
  refine g_region ?_
  show G _ _ _ (.inRegion _ [0, 1] :: _) _ _
  refine g_op (v := Value.bool (mIdx a2 a1).isSome) rfl rfl rfl ?_
  show G _ _ _ _ [_,_,_,_,_,_,_,_,_,_,_,_,_] _
  refine g_op (v := Value.bool (mIdx a2 a1).isSome) rfl rfl rfl ?_
  show G _ _ _ _ [_,_,_,_,_,_,_,_,_,_,_,_,_] _
  refine g_ops_nil ?_
  obtain rfl := Option.some.inj H
  refine g_ret Try.func46 (v := Value.bool (mIdx a2 a1).isSome) (res1 rfl rfl) ?_
  have hs := hs.pull 3 rfl
  have hs := hs.pull 3 rfl
  have hs := hs.pull 3 rfl
  have hs : St _ [_,_,_] _ := St.take (Γ' := [_]) hs
  exact ⟨_, rfl, rfl, hs⟩

end Go.Proofs.YtjagkhjbbdfkaaaX
