/- Contracts, printed by gen.py. -/
import Derived.Test.YtekcbhgojjdcoaaXT
import Derived.Test.YtekcbhgojjdcoaaProg
import Derived.Test.YtekcbhgojjdcoaaXRowR
import Derived.Test.YtekcbhgojjdcoaaXSeg
import Derived.Test.YtekcbhgojjdcoaaXKey
import Derived.Test.YtekcbhgojjdcoaaXIter
import Derived.Test.YtekcbhgojjdcoaaXRow2
import Derived.Test.YtekcbhgojjdcoaaXC4
import Derived.Test.YtekcbhgojjdcoaaXC5
namespace Go.Proofs.YtekcbhgojjdcoaaX
open Go Go.RowKit Go.Proofs
set_option linter.unusedVariables false
set_option linter.unusedSimpArgs false
/- function 10 impl_PlacingFor -/
def impl_PlacingFor.post (w0 : World) (r : ((List Int) × Int)) (v : Value) (w : World) : Prop := ∃ u1 : Value, v = Value.tuple #[u1, Value.int .i64 r.2] ∧ St w0 [Row 47 (K.int .i8) u1 r.1] w
set_option maxHeartbeats 8000000 in
set_option maxRecDepth 100000 in
theorem impl_PlacingFor.calls {N : Nat} {a1 : (List Int)} {a3 : Int} {a4 : Bool} {v2 : Value} {w0 : World} {Q : ((List Int) × Int) → Prop} (hr0 : RdRow (K.int .i16) w0 v2 a1) (H : impl_PlacingFor.f N a1 a3 a4 Q) :
    Calls Try.prog 10 #[v2, Value.int .i64 a3, Value.bool a4] w0 fun e w => ∃ v, e = .returned v ∧ ∃ r, Q r ∧ impl_PlacingFor.post w0 r v w := by
  unfold impl_PlacingFor.f at H
  have hs : St w0 [] w0 := St.refl w0
  refine calls_of_g (n := 97) Try.func10 rfl rfl ?_
  show G _ _ _ _ (_::_::_::_::_::_::_::_::_::_::_::_::_::_::_::_::_::_::_::_::_::_::_::_::_::_::_::_::_::_::_::_::_::_::_::_::_::_::_::_::_::_::_::_::_::_::_::_::_::_::_::_::_::_::_::_::_::_::_::_::_::_::_::_::_::_::_::_::_::_::_::_::_::_::_::_::_::_::_::_::_::_::_::_::_::_::_::_::_::_::_::_::_::_::_::_::_::_::_::_::[]) _
  refine g_seq ?_
  refine g_region ?_
  show G _ _ _ (.inRegion _ [0, 1] :: _) _ _
  refine g_op (v := Value.slice none 0 0) rfl rfl rfl ?_
  refine g_d rfl ?_
  try dsimp only [set0,setS]
  refine g_op (v := Value.int .i64 0) rfl rfl rfl ?_
  refine g_d rfl ?_
  try dsimp only [set0,setS]
  refine g_ops_nil ?_
  refine g_seq ?_
  refine g_seq ?_
  refine g_region ?_
  show G _ _ _ (.inRegion _ [0, 1, 2, 3] :: _) _ _
  refine g_op (v := v2) rfl rfl rfl ?_
  refine g_d rfl ?_
  refine g_op (v := Value.int .i64 a3) rfl rfl rfl ?_
  refine g_d rfl ?_
  obtain ⟨r5, Hr5, H⟩ := H
  refine s_call (args := [v2, Value.int .i64 a3]) rfl rfl (x_call rfl (callFunc_enter Try.func26 rfl rfl) rfl) (impl_massCode.calls (a1 := a1) (a3 := a3) (hs.rd hr0) Hr5) ?_
  rintro _ w ⟨rfl, hs2⟩
  have hs : St _ [] _ := hs.call hs2
  refine g_d rfl ?_
  try dsimp only [set0,setS]
  refine g_op (v := Value.int .i64 r5) rfl rfl rfl ?_
  refine g_d rfl ?_
  try dsimp only [set0,setS]
  refine g_ops_nil ?_
  refine g_seq ?_
  refine g_region ?_
  show G _ _ _ (.inRegion _ [0, 1] :: _) _ _
  refine g_op (v := Value.int .i64 r5) rfl rfl rfl ?_
  refine g_d rfl ?_
  refine g_op_b (B := r5 != 0) rfl rfl rfl ?_ ?_
  ·
   intro hb
   rw [if_neg (b_bne_t hb)] at H
   refine g_d rfl ?_
   try dsimp only [set0,setS]
   refine g_ops_nil ?_
   refine g_cond_true rfl ?_
   refine g_seq ?_
   refine g_region ?_
   show G _ _ _ (.inRegion _ [0, 1, 2] :: _) _ _
   refine g_op (v := Value.int .i64 r5) rfl rfl rfl ?_
   refine g_d rfl ?_
   refine g_op (v := Value.slice none 0 0) rfl rfl rfl ?_
   refine g_d rfl ?_
   try dsimp only [set0,setS]
   refine g_op (v := Value.int .i64 r5) rfl rfl rfl ?_
   refine g_d rfl ?_
   try dsimp only [set0,setS]
   refine g_ops_nil ?_
   refine g_ret Try.func10 (v := Value.tuple #[Value.slice none 0 0, Value.int .i64 r5]) (resN (l := Try.f10.results.toList) (vs := [Value.slice none 0 0, Value.int .i64 r5]) rfl ⟨rfl, rfl, trivial⟩ (by simp)) ?_
   have hs := hs.nil 47 (K.int .i8)
   have hs := hs.pull 0 rfl
   have hs : St _ [_] _ := St.take (Γ' := []) hs
   exact ⟨_, rfl, _, H, (Value.slice none 0 0), rfl, hs⟩
  ·
   intro hb
   rw [if_pos (b_bne_f hb)] at H
   refine g_d rfl ?_
   try dsimp only [set0,setS]
   refine g_ops_nil ?_
   refine g_cond_false rfl ?_
   refine g_skip ?_
   refine g_seq ?_
   refine g_region ?_
   show G _ _ _ (.inRegion _ [0, 1, 2, 3] :: _) _ _
   refine g_op (v := v2) rfl rfl rfl ?_
   refine g_d rfl ?_
   refine g_op (v := Value.bool a4) rfl rfl rfl ?_
   refine g_d rfl ?_
   refine s_call (args := [v2, Value.bool a4]) rfl rfl (x_call rfl (callFunc_enter Try.func27 rfl rfl) rfl) (_impl_Weights_balances.calls (a1 := a1) (a3 := a4) (hs.rd hr0) H) ?_
   rintro v7 w ⟨r6, H, _, mm8, rfl, hs2⟩
   try dsimp only at H
   have hs : St _ [_] _ := hs.call hs2
   refine g_d rfl ?_
   try dsimp only [set0,setS]
   refine g_op (v := v7) rfl rfl rfl ?_
   refine g_d rfl ?_
   try dsimp only [set0,setS]
   refine g_ops_nil ?_
   refine g_seq ?_
   refine g_region ?_
   show G _ _ _ (.inRegion _ [0, 1, 2, 3, 4, 5, 6, 7, 8, 9, 10] :: _) _ _
   refine g_op (v := v7) rfl rfl rfl ?_
   refine g_d rfl ?_
   obtain ⟨g1, H⟩ := ite_getD H
   refine s_idx fkHM none (hs.r2row 0 rfl) rfl (fun _ => rfl) g1.1 (hs.r2lt 0 rfl g1.2) rfl rfl rfl rfl rfl ?_
   intro p10 hp10 lp10 op10
   refine g_d rfl ?_
   try dsimp only [set0,setS]
   refine s_load1 rfl rfl (v := Value.map (rdL mm8 0 none)) rfl rfl (fun _ => rfl) hp10 ?_
   refine g_d rfl ?_
   try dsimp only [set0,setS]
   refine g_op (v := Value.int .i64 a3) rfl rfl rfl ?_
   refine g_d rfl ?_
   refine g_op (v := Value.tuple #[Value.agg (enc_S_impl_balance (mGet ((rdL r6 0 none).getD []) a3 z_S_impl_balance)).toArray, Value.bool (mIdx ((rdL r6 0 none).getD []) a3).isSome]) rfl rfl (x_lookupOkO (keyInt Try.underlying2) (a := a3) (z := z_S_impl_balance) (hs.r2mp 0 rfl g1.1 g1.2) rfl Try.underlying53 rfl rfl (fun _ => rfl)) ?_
   refine g_d rfl ?_
   try dsimp only [set0,setS]
   refine g_op (v := Value.tuple #[Value.agg (enc_S_impl_balance (mGet ((rdL r6 0 none).getD []) a3 z_S_impl_balance)).toArray, Value.bool (mIdx ((rdL r6 0 none).getD []) a3).isSome]) rfl rfl rfl ?_
   refine g_d rfl ?_
   refine g_op (v := Value.agg (enc_S_impl_balance (mGet ((rdL r6 0 none).getD []) a3 z_S_impl_balance)).toArray) rfl rfl rfl ?_
   refine g_d rfl ?_
   refine g_op (v := Value.bool (mIdx ((rdL r6 0 none).getD []) a3).isSome) rfl rfl rfl ?_
   refine g_d rfl ?_
   refine s_alloc hs rfl rfl (z := (Value.agg #[Value.int .i64 0, Value.int .i64 0])) (cs := (enc_S_impl_balance z_S_impl_balance)) rfl (fun _ => rfl) rfl ?_
   intro b11 w hs
   refine g_d rfl ?_
   try dsimp only [set0,setS]
   refine s_storeAll (n := 2) hs (fk_S_impl_balance.len _) rfl rfl (vs := (enc_S_impl_balance (mGet ((rdL r6 0 none).getD []) a3 z_S_impl_balance))) rfl rfl rfl (fun _ => rfl) (fk_S_impl_balance.len _) (fk_S_impl_balance.one _) ?_
   intro w hs
   refine g_n rfl ?_
   refine g_op (v := Value.bool (mIdx ((rdL r6 0 none).getD []) a3).isSome) rfl rfl rfl ?_
   refine g_d rfl ?_
   try dsimp only [set0,setS]
   refine g_ops_nil ?_
   refine g_seq ?_
   refine g_seq ?_
   refine g_region ?_
   show G _ _ _ (.inRegion _ [0, 1] :: _) _ _
   refine g_op_b (B := (mIdx ((rdL r6 0 none).getD []) a3).isSome) rfl rfl rfl ?_ ?_
   ·
    intro hb
    rw [if_pos (b_var_t hb)] at H
    refine g_d rfl ?_
    refine g_op (v := Value.bool false) rfl rfl rfl ?_
    refine g_d rfl ?_
    try dsimp only [set0,setS]
    refine g_ops_nil ?_
    refine g_cond_false rfl ?_
    refine g_skip ?_
    refine g_seq ?_
    refine g_name ?_
    intro T hT
    refine g_any (n := 5) rfl [0, 1, 2, 3, 4] [0, 2, 3, 1, 4] rfl rfl (Inv := fun D t w => ∃ v13 : Value, ∃ O : Nat → Value, t = (v2::Value.int .i64 a3::Value.bool a4::O 3::O 4::O 5::Value.slice none 0 0::Value.int .i64 0::Value.int .i64 r5::v7::Value.pointer (some ⟨b11, 0, none⟩)::Value.bool (mIdx ((rdL r6 0 none).getD []) a3).isSome::cnd (D 3) v13 (O 12)::cnd (D 4) (Value.int .i64 ((mGet ((rdL r6 0 none).getD []) a3 z_S_impl_balance).f_least)) (O 13)::O 14::O 15::O 16::O 17::O 18::O 19::O 20::O 21::v2::Value.int .i64 a3::Value.int .i64 r5::Value.int .i64 r5::Value.bool false::O 27::v2::Value.bool a4::v7::Value.tuple #[Value.agg (enc_S_impl_balance (mGet ((rdL r6 0 none).getD []) a3 z_S_impl_balance)).toArray, Value.bool (mIdx ((rdL r6 0 none).getD []) a3).isSome]::v7::Value.pointer (some p10)::Value.map (rdL mm8 0 none)::Value.int .i64 a3::Value.tuple #[Value.agg (enc_S_impl_balance (mGet ((rdL r6 0 none).getD []) a3 z_S_impl_balance)).toArray, Value.bool (mIdx ((rdL r6 0 none).getD []) a3).isSome]::Value.agg (enc_S_impl_balance (mGet ((rdL r6 0 none).getD []) a3 z_S_impl_balance)).toArray::Value.bool (mIdx ((rdL r6 0 none).getD []) a3).isSome::Value.bool true::Value.bool false::cnd (D 0) v13 (O 41)::cnd (D 1) (Value.pointer (some ⟨b11, 1, none⟩)) (O 42)::cnd (D 2) (Value.int .i64 ((mGet ((rdL r6 0 none).getD []) a3 z_S_impl_balance).f_least)) (O 43)::O 44::O 45::O 46::O 47::O 48::O 49::O 50::O 51::O 52::O 53::O 54::O 55::O 56::O 57::O 58::O 59::O 60::O 61::O 62::O 63::O 64::O 65::O 66::O 67::O 68::O 69::O 70::O 71::O 72::O 73::O 74::O 75::O 76::O 77::O 78::O 79::O 80::O 81::O 82::O 83::O 84::O 85::O 86::O 87::O 88::O 89::O 90::O 91::O 92::O 93::O 94::O 95::O 96::O 97::O 98::O 99::[]) ∧ St w0 [Asc (D 0) (Row 47 (K.int .i8) v13 ([] : List Int)), Cells b11 (enc_S_impl_balance (mGet ((rdL r6 0 none).getD []) a3 z_S_impl_balance)) 51, Rows2 53 kHM (MapO (Value.int .i64) ek_S_impl_balance) v7 mm8 r6] w) ?_ ⟨⟨⟨⟨⟨trivial, ?_⟩, ?_⟩, ?_⟩, ?_⟩, ?_⟩ ?_
    ·
     intro w hh hbw
     have hs := hs.samew hh hbw
     have hs := hs.emp
     exact ⟨undef, fun i => T.getD i undef, (by subst hT; rfl), hs⟩
    ·
     intro D t w hD hp hcl hI rest hk
     obtain ⟨v13, O, ht, hs⟩ := hI
     have q3_ : D 3 = false := not_yet (hcl.get 3 (by decide)) 0 0 rfl hD
     have q4_ : D 4 = false := not_yet (hcl.get 4 (by decide)) 1 3 rfl q3_
     simp only [hD, q3_, q4_, cnd_t, cnd_f, Asc_t, Asc_f] at ht hs
     subst ht
     refine s_lit0 (κ := (K.int .i8)) hs rfl rfl rfl rfl (fun _ => rfl) ?_
     intro v13 w hs
     refine g_d rfl ?_
     try dsimp only [set0,setS]
     have hs := hs.fill 0 rfl
     exact hk _ _ ⟨v13, O, (by simp only [upd, Nat.reduceBEq, Bool.true_or, Bool.false_or, q3_, q4_, cnd_t, cnd_f, Asc_t, Asc_f]), hs.cast (by first | rfl | simp only [List.take, List.drop, List.cons_append, List.nil_append, List.set_cons_zero, List.set_cons_succ, List.eraseIdx, upd, Nat.reduceBEq, Bool.true_or, Bool.false_or, q3_, q4_, cnd_t, cnd_f, Asc_t, Asc_f])⟩
    ·
     intro D t w hD hp hcl hI rest hk
     obtain ⟨v13, O, ht, hs⟩ := hI
     have q2_ : D 2 = false := not_yet (hcl.get 2 (by decide)) 0 1 rfl hD
     have q4_ : D 4 = false := not_yet (hcl.get 4 (by decide)) 0 2 rfl q2_
     simp only [hD, q2_, q4_, cnd_t, cnd_f, Asc_t, Asc_f] at ht hs
     subst ht
     refine g_op (v := Value.pointer (some ⟨b11, 1, none⟩)) rfl rfl rfl ?_
     refine g_d rfl ?_
     try dsimp only [set0,setS]
     exact hk _ _ ⟨v13, O, (by simp only [upd, Nat.reduceBEq, Bool.true_or, Bool.false_or, q2_, q4_, cnd_t, cnd_f, Asc_t, Asc_f]), hs.cast (by first | rfl | simp only [List.take, List.drop, List.cons_append, List.nil_append, List.set_cons_zero, List.set_cons_succ, List.eraseIdx, upd, Nat.reduceBEq, Bool.true_or, Bool.false_or, q2_, q4_, cnd_t, cnd_f, Asc_t, Asc_f])⟩
    ·
     intro D t w hD hp hcl hI rest hk
     obtain ⟨v13, O, ht, hs⟩ := hI
     obtain ⟨p1_, _⟩ := hp
     have q4_ : D 4 = false := not_yet (hcl.get 4 (by decide)) 0 2 rfl hD
     simp only [hD, p1_, q4_, cnd_t, cnd_f, Asc_t, Asc_f] at ht hs
     subst ht
     refine s_load1 rfl rfl (v := Value.int .i64 ((mGet ((rdL r6 0 none).getD []) a3 z_S_impl_balance).f_least)) rfl rfl (fun _ => rfl) (cells_load (hs.cells 1 rfl) 1 1 rfl) ?_
     refine g_d rfl ?_
     try dsimp only [set0,setS]
     exact hk _ _ ⟨v13, O, (by simp only [upd, Nat.reduceBEq, Bool.true_or, Bool.false_or, p1_, q4_, cnd_t, cnd_f, Asc_t, Asc_f]), hs.cast (by first | rfl | simp only [List.take, List.drop, List.cons_append, List.nil_append, List.set_cons_zero, List.set_cons_succ, List.eraseIdx, upd, Nat.reduceBEq, Bool.true_or, Bool.false_or, p1_, q4_, cnd_t, cnd_f, Asc_t, Asc_f])⟩
    ·
     intro D t w hD hp hcl hI rest hk
     obtain ⟨v13, O, ht, hs⟩ := hI
     obtain ⟨p0_, _, _⟩ := hp
     have q4_ : D 4 = false := not_yet (hcl.get 4 (by decide)) 1 3 rfl hD
     simp only [hD, p0_, q4_, cnd_t, cnd_f, Asc_t, Asc_f] at ht hs
     subst ht
     refine g_op (v := v13) rfl rfl rfl ?_
     refine g_d rfl ?_
     try dsimp only [set0,setS]
     exact hk _ _ ⟨v13, O, (by simp only [upd, Nat.reduceBEq, Bool.true_or, Bool.false_or, p0_, q4_, cnd_t, cnd_f, Asc_t, Asc_f]), hs.cast (by first | rfl | simp only [List.take, List.drop, List.cons_append, List.nil_append, List.set_cons_zero, List.set_cons_succ, List.eraseIdx, upd, Nat.reduceBEq, Bool.true_or, Bool.false_or, p0_, q4_, cnd_t, cnd_f, Asc_t, Asc_f])⟩
    ·
     intro D t w hD hp hcl hI rest hk
     obtain ⟨v13, O, ht, hs⟩ := hI
     obtain ⟨p2_, p3_, p0_, p1_, _, _, _⟩ := hp
     simp only [hD, p0_, p1_, p2_, p3_, cnd_t, cnd_f, Asc_t, Asc_f] at ht hs
     subst ht
     refine g_op (v := Value.int .i64 ((mGet ((rdL r6 0 none).getD []) a3 z_S_impl_balance).f_least)) rfl rfl rfl ?_
     refine g_d rfl ?_
     try dsimp only [set0,setS]
     exact hk _ _ ⟨v13, O, (by simp only [upd, Nat.reduceBEq, Bool.true_or, Bool.false_or, p0_, p1_, p2_, p3_, cnd_t, cnd_f, Asc_t, Asc_f]), hs.cast (by first | rfl | simp only [List.take, List.drop, List.cons_append, List.nil_append, List.set_cons_zero, List.set_cons_succ, List.eraseIdx, upd, Nat.reduceBEq, Bool.true_or, Bool.false_or, p0_, p1_, p2_, p3_, cnd_t, cnd_f, Asc_t, Asc_f])⟩
    ·
     intro D t w hall hI
     obtain ⟨v13, O, ht, hs⟩ := hI
     have p0_ : D 0 = true := hall 0 (by decide)
     have p1_ : D 1 = true := hall 1 (by decide)
     have p2_ : D 2 = true := hall 2 (by decide)
     have p3_ : D 3 = true := hall 3 (by decide)
     have p4_ : D 4 = true := hall 4 (by decide)
     simp only [p0_, p1_, p2_, p3_, p4_, cnd_t, cnd_f, Asc_t, Asc_f] at ht hs
     subst ht
     refine g_seq ?_
     refine g_seq ?_
     refine g_region ?_
     show G _ _ _ (.inRegion _ [0, 1, 2] :: _) _ _
     refine g_op (v := v2) rfl rfl rfl ?_
     refine g_d rfl ?_
     refine s_len (hs.rd hr0) rfl rfl rfl rfl rfl ?_
     refine g_d rfl ?_
     try dsimp only [set0,setS]
     refine g_op (v := Value.int .i64 0) rfl rfl rfl ?_
     refine g_d rfl ?_
     refine g_ops_nil ?_
     have Ho := H
     refine g_block_join (J := fun t w => ∃ v47 : Value, ∃ x48 : (List Int), impl_PlacingFor.a0 N x48 Q ∧ Fr t (fun O => (O 0::O 1::O 2::O 3::O 4::O 5::O 6::O 7::O 8::O 9::O 10::O 11::v47::O 13::O 14::O 15::O 16::O 17::O 18::O 19::O 20::O 21::O 22::O 23::O 24::O 25::O 26::O 27::O 28::O 29::O 30::O 31::O 32::O 33::O 34::O 35::O 36::O 37::O 38::O 39::O 40::O 41::O 42::O 43::O 44::O 45::O 46::O 47::O 48::O 49::O 50::O 51::O 52::O 53::O 54::O 55::O 56::O 57::O 58::O 59::O 60::O 61::O 62::O 63::O 64::O 65::O 66::O 67::O 68::O 69::O 70::O 71::O 72::O 73::O 74::O 75::O 76::O 77::O 78::O 79::O 80::O 81::O 82::O 83::O 84::O 85::O 86::O 87::O 88::O 89::O 90::O 91::O 92::O 93::O 94::O 95::O 96::O 97::O 98::O 99::[] : List Value)) ∧ St w0 [Row 47 (K.int .i8) v47 x48] w) ?_ ?_
     ·
      rintro t w ⟨v47, x48, H, hf, hs⟩
      obtain ⟨O, rfl⟩ := hf.open
      try dsimp only
      unfold impl_PlacingFor.a0 at H
      refine g_seq ?_
      refine g_region ?_
      show G _ _ _ (.inRegion _ [0, 1, 2] :: _) _ _
      refine g_op (v := v47) rfl rfl rfl ?_
      refine g_d rfl ?_
      refine g_op (v := v47) rfl rfl rfl ?_
      refine g_d rfl ?_
      try dsimp only [set0,setS]
      refine g_op (v := Value.int .i64 0) rfl rfl rfl ?_
      refine g_d rfl ?_
      try dsimp only [set0,setS]
      refine g_ops_nil ?_
      refine g_ret Try.func10 (v := Value.tuple #[v47, Value.int .i64 0]) (resN (l := Try.f10.results.toList) (vs := [v47, Value.int .i64 0]) rfl ⟨rfl, rfl, trivial⟩ (by simp)) ?_
      have hs := hs.pull 0 rfl
      have hs : St _ [_] _ := St.take (Γ' := []) hs
      exact ⟨_, rfl, _, H, v47, rfl, hs⟩
     ·
      intro ha1_
      have hs := hs.pull 0 rfl
      have hs := hs.pull 2 rfl
      have hs : St _ [_,_] _ := St.take (Γ' := [_]) hs
      refine g_loop_fuel (I := fun n_ t w => ∃ x16 : Int, ∃ v18 : Value, ∃ x19 : (List Int), ∃ x20 : Int, ∃ x21 : Int, roundsD (fun s => impl_PlacingFor.b0 N a1 a4 r6 s.1 s.2.1 s.2.2.1 s.2.2.2) n_ (x16, x19, x20, x21) (Ex.finD (fun s => impl_PlacingFor.a0 N s Q) Q) ∧ Fr t (fun O => (O 0::Value.int .i64 x16::Value.bool a4::O 3::O 4::O 5::O 6::O 7::O 8::v7::O 10::O 11::v18::Value.int .i64 x20::O 14::O 15::O 16::O 17::O 18::O 19::O 20::O 21::O 22::O 23::O 24::O 25::O 26::O 27::O 28::O 29::O 30::O 31::O 32::O 33::O 34::O 35::O 36::O 37::O 38::O 39::O 40::O 41::O 42::O 43::v2::Value.int .i64 (a1.length : Int)::Value.int .i64 x21::O 47::O 48::O 49::O 50::O 51::O 52::O 53::O 54::O 55::O 56::O 57::O 58::O 59::O 60::O 61::O 62::O 63::O 64::O 65::O 66::O 67::O 68::O 69::O 70::O 71::O 72::O 73::O 74::O 75::O 76::O 77::O 78::O 79::O 80::O 81::O 82::O 83::O 84::O 85::O 86::O 87::O 88::O 89::O 90::O 91::O 92::O 93::O 94::O 95::O 96::O 97::O 98::O 99::[] : List Value)) ∧ St w0 [Rows2 53 kHM (MapO (Value.int .i64) ek_S_impl_balance) v7 mm8 r6, Row 47 (K.int .i8) v18 x19] w) N ⟨a3, v13, ([] : List Int), (mGet ((rdL r6 0 none).getD []) a3 z_S_impl_balance).f_least, 0, Ho, rfl, hs⟩ ?_ ?_
      ·
       rintro _ _ ⟨x16, v18, x19, x20, x21, h, _⟩
       exact (h : False).elim
      ·
       intro n_ ih1_
       rintro t w ⟨x16, v18, x19, x20, x21, Ho, hf, hs⟩
       obtain ⟨O, rfl⟩ := hf.open
       try dsimp only
       obtain ⟨x6_, hQ1_, H⟩ := roundsD_succ Ho
       have H : impl_PlacingFor.b0 N a1 a4 r6 x16 x19 x20 x21 x6_ := H
       unfold impl_PlacingFor.b0 at H
       refine g_seq ?_
       refine g_region ?_
       show G _ _ _ (.inRegion _ [0] :: _) _ _
       refine g_op_b (B := decide (x21 < (a1.length : Int))) rfl rfl rfl ?_ ?_
       ·
        intro hb
        rw [if_pos (b_dec_t hb)] at H
        refine g_d rfl ?_
        try dsimp only [set0,setS]
        refine g_ops_nil ?_
        refine g_seq ?_
        refine g_cond_true rfl ?_
        refine g_skip ?_
        refine g_seq ?_
        refine g_block ?_
        refine g_seq ?_
        refine g_region ?_
        show G _ _ _ (.inRegion _ [0, 1, 2, 3, 4] :: _) _ _
        refine g_op (v := Value.int .i64 x21) rfl rfl rfl ?_
        refine g_d rfl ?_
        obtain ⟨g2, H⟩ := ite_getD H
        refine s_idx (fkI .i16) 0 (hs.rd hr0) rfl (fun _ => rfl) g2.1 g2.2 rfl rfl rfl rfl rfl ?_
        intro p22 hp22 lp22 op22
        refine g_d rfl ?_
        try dsimp only [set0,setS]
        refine s_load1 rfl rfl (v := Value.int .i16 (rdL a1 x21 0)) rfl rfl (fun _ => rfl) hp22 ?_
        refine g_d rfl ?_
        try dsimp only [set0,setS]
        refine g_op (v := Value.int .i64 x21) rfl rfl rfl ?_
        refine g_d rfl ?_
        try dsimp only [set0,setS]
        refine g_op (v := Value.int .i16 (rdL a1 x21 0)) rfl rfl rfl ?_
        refine g_d rfl ?_
        try dsimp only [set0,setS]
        refine g_ops_nil ?_
        refine g_seq ?_
        refine g_region ?_
        show G _ _ _ (.inRegion _ [0, 1, 2, 3] :: _) _ _
        refine g_op (v := Value.bool a4) rfl rfl rfl ?_
        refine g_d rfl ?_
        obtain ⟨r23, Hr23, H⟩ := H
        refine s_call (args := [Value.bool a4]) rfl rfl (x_call rfl (callFunc_enter Try.func28 rfl rfl) rfl) (impl_sides.calls (a1 := a4) Hr23) ?_
        intro v24 w hs2
        have hs : St _ [_,_,_] _ := hs.call hs2
        refine g_d rfl ?_
        try dsimp only [set0,setS]
        refine s_len (hs.row 0 rfl) rfl rfl rfl rfl rfl ?_
        refine g_d rfl ?_
        try dsimp only [set0,setS]
        refine g_op (v := Value.int .i64 0) rfl rfl rfl ?_
        refine g_d rfl ?_
        refine g_ops_nil ?_
        have Ho := H
        refine g_block_join (J := fun t w => ∃ x42 : Int, ∃ v43 : Value, ∃ x44 : (List Int), ∃ x46 : Int, impl_PlacingFor.a2 N x21 x42 x44 x46 x6_ ∧ Fr t (fun O => (O 0::Value.int .i64 x42::Value.bool a4::O 3::O 4::O 5::O 6::O 7::O 8::v7::O 10::O 11::v43::Value.int .i64 x46::O 14::O 15::O 16::O 17::O 18::O 19::O 20::O 21::O 22::O 23::O 24::O 25::O 26::O 27::O 28::O 29::O 30::O 31::O 32::O 33::O 34::O 35::O 36::O 37::O 38::O 39::O 40::O 41::O 42::O 43::v2::Value.int .i64 (a1.length : Int)::Value.int .i64 x21::O 47::O 48::O 49::O 50::O 51::O 52::O 53::O 54::O 55::O 56::O 57::O 58::O 59::O 60::O 61::O 62::O 63::O 64::O 65::O 66::O 67::O 68::O 69::O 70::O 71::O 72::O 73::O 74::O 75::O 76::O 77::O 78::O 79::O 80::O 81::O 82::O 83::O 84::O 85::O 86::O 87::O 88::O 89::O 90::O 91::O 92::O 93::O 94::O 95::O 96::O 97::O 98::O 99::[] : List Value)) ∧ St w0 [Rows2 53 kHM (MapO (Value.int .i64) ek_S_impl_balance) v7 mm8 r6, Row 47 (K.int .i8) v43 x44] w) ?_ ?_
        ·
         rintro t w ⟨x42, v43, x44, x46, H, hf, hs⟩
         obtain ⟨O, rfl⟩ := hf.open
         try dsimp only
         unfold impl_PlacingFor.a2 at H
         refine g_inBlock ?_
         refine g_region ?_
         show G _ _ _ (.inRegion _ [0, 1] :: _) _ _
         refine g_op (v := Value.int .i64 (i64w (x21 + 1))) rfl rfl rfl ?_
         refine g_d rfl ?_
         try dsimp only [set0,setS]
         refine g_op (v := Value.int .i64 (i64w (x21 + 1))) rfl rfl rfl ?_
         refine g_d rfl ?_
         refine g_ops_nil ?_
         have hs := hs.pull 1 rfl
         have hs := hs.pull 1 rfl
         have hs : St _ [_,_] _ := St.take (Γ' := []) hs
         exact ih1_ _ _ ⟨x42, v43, x44, x46, i64w (x21 + 1), cast (congrFun hQ1_ _) H, rfl, hs⟩
        ·
         intro ha2_
         have hs := hs.pull 0 rfl
         have hs := hs.pull 2 rfl
         have hs := hs.pull 2 rfl
         have hs : St _ [_,_,_] _ := St.take (Γ' := []) hs
         refine g_loop_fuel (I := fun n_ t w => ∃ x26 : Int, ∃ v28 : Value, ∃ x29 : (List Int), ∃ x30 : Int, ∃ x31 : Int, roundsD (fun s => impl_PlacingFor.b2 N r23 x21 r6 a1 s.1 s.2.1 s.2.2.1 s.2.2.2) n_ (x26, x29, x30, x31) (Ex.finBD (fun s => impl_PlacingFor.a2 N x21 s.1 s.2.1 s.2.2 x6_) x6_) ∧ Fr t (fun O => (O 0::Value.int .i64 x26::Value.bool a4::O 3::O 4::O 5::O 6::O 7::O 8::v7::O 10::O 11::v28::Value.int .i64 x30::Value.int .i64 x21::Value.int .i16 (rdL a1 x21 0)::O 16::O 17::O 18::O 19::O 20::O 21::O 22::O 23::O 24::O 25::O 26::O 27::O 28::O 29::O 30::O 31::O 32::O 33::O 34::O 35::O 36::O 37::O 38::O 39::O 40::O 41::O 42::O 43::v2::Value.int .i64 (a1.length : Int)::Value.int .i64 x21::O 47::O 48::O 49::O 50::O 51::v24::Value.int .i64 (r23.length : Int)::Value.int .i64 x31::O 55::O 56::O 57::O 58::O 59::O 60::O 61::O 62::O 63::O 64::O 65::O 66::O 67::O 68::O 69::O 70::O 71::O 72::O 73::O 74::O 75::O 76::O 77::O 78::O 79::O 80::O 81::O 82::O 83::O 84::O 85::O 86::O 87::O 88::O 89::O 90::O 91::O 92::O 93::O 94::O 95::O 96::O 97::O 98::O 99::[] : List Value)) ∧ St w0 [Rows2 53 kHM (MapO (Value.int .i64) ek_S_impl_balance) v7 mm8 r6, Row 47 (K.int .i8) v28 x29, Row 47 (K.int .i8) v24 r23] w) N ⟨x16, v18, x19, x20, 0, Ho, rfl, hs⟩ ?_ ?_
         ·
          rintro _ _ ⟨x26, v28, x29, x30, x31, h, _⟩
          exact (h : False).elim
         ·
          intro n_ ih2_
          rintro t w ⟨x26, v28, x29, x30, x31, Ho, hf, hs⟩
          obtain ⟨O, rfl⟩ := hf.open
          try dsimp only
          obtain ⟨x5_, hQ2_, H⟩ := roundsD_succ Ho
          have H : impl_PlacingFor.b2 N r23 x21 r6 a1 x26 x29 x30 x31 x5_ := H
          unfold impl_PlacingFor.b2 at H
          refine g_seq ?_
          refine g_region ?_
          show G _ _ _ (.inRegion _ [0] :: _) _ _
          refine g_op_b (B := decide (x31 < (r23.length : Int))) rfl rfl rfl ?_ ?_
          ·
           intro hb
           rw [if_pos (b_dec_t hb)] at H
           refine g_d rfl ?_
           try dsimp only [set0,setS]
           refine g_ops_nil ?_
           refine g_seq ?_
           refine g_cond_true rfl ?_
           refine g_skip ?_
           refine g_seq ?_
           refine g_block_join (J := (fun t w => impl_PlacingFor.j4 N x26 x29 x30 x31 x5_ ∧ Fr t (fun O => (O 0::Value.int .i64 x26::Value.bool a4::O 3::O 4::O 5::O 6::O 7::O 8::v7::O 10::O 11::v28::Value.int .i64 x30::Value.int .i64 x21::Value.int .i16 (rdL a1 x21 0)::O 16::O 17::O 18::O 19::O 20::O 21::O 22::O 23::O 24::O 25::O 26::O 27::O 28::O 29::O 30::O 31::O 32::O 33::O 34::O 35::O 36::O 37::O 38::O 39::O 40::O 41::O 42::O 43::v2::Value.int .i64 (a1.length : Int)::Value.int .i64 x21::O 47::O 48::O 49::O 50::O 51::v24::Value.int .i64 (r23.length : Int)::Value.int .i64 x31::O 55::O 56::O 57::O 58::O 59::O 60::O 61::O 62::O 63::O 64::O 65::O 66::O 67::O 68::O 69::O 70::O 71::O 72::O 73::O 74::O 75::O 76::O 77::O 78::O 79::O 80::O 81::O 82::O 83::O 84::O 85::O 86::O 87::O 88::O 89::O 90::O 91::O 92::O 93::O 94::O 95::O 96::O 97::O 98::O 99::[] : List Value)) ∧ St w0 [Rows2 53 kHM (MapO (Value.int .i64) ek_S_impl_balance) v7 mm8 r6, Row 47 (K.int .i8) v28 x29, Row 47 (K.int .i8) v24 r23] w)) ?_ ?_
           ·
            rintro t w ⟨H, hf, hs⟩
            obtain ⟨O, rfl⟩ := hf.open
            try dsimp only
            unfold impl_PlacingFor.j4 at H
            refine g_region ?_
            show G _ _ _ (.inRegion _ [0, 1] :: _) _ _
            refine g_op (v := Value.int .i64 (i64w (x31 + 1))) rfl rfl rfl ?_
            refine g_d rfl ?_
            try dsimp only [set0,setS]
            refine g_op (v := Value.int .i64 (i64w (x31 + 1))) rfl rfl rfl ?_
            refine g_d rfl ?_
            refine g_ops_nil ?_
            have hs := hs.pull 2 rfl
            have hs := hs.pull 2 rfl
            have hs := hs.pull 2 rfl
            have hs : St _ [_,_,_] _ := St.take (Γ' := []) hs
            exact ih2_ _ _ ⟨x26, v28, x29, x30, i64w (x31 + 1), cast (congrFun hQ2_ _) H, rfl, hs⟩
           ·
            intro ha
            refine g_seq ?_
            refine g_region ?_
            show G _ _ _ (.inRegion _ [0, 1, 2] :: _) _ _
            obtain ⟨g3, H⟩ := ite_getD H
            refine s_idx (fkI .i8) 0 (hs.row 2 rfl) rfl (fun _ => rfl) g3.1 g3.2 rfl rfl rfl rfl rfl ?_
            intro p32 hp32 lp32 op32
            refine g_d rfl ?_
            try dsimp only [set0,setS]
            refine s_load1 rfl rfl (v := Value.int .i8 (rdL r23 x31 0)) rfl rfl (fun _ => rfl) hp32 ?_
            refine g_d rfl ?_
            try dsimp only [set0,setS]
            refine g_op (v := Value.int .i8 (rdL r23 x31 0)) rfl rfl rfl ?_
            refine g_d rfl ?_
            try dsimp only [set0,setS]
            refine g_ops_nil ?_
            refine g_seq ?_
            refine g_region ?_
            show G _ _ _ (.inRegion _ [0, 1, 2, 3, 4, 5, 6, 7, 8, 9, 10, 11, 12, 13] :: _) _ _
            refine g_op (v := Value.int .i64 x26) rfl rfl rfl ?_
            refine g_d rfl ?_
            refine g_op (v := Value.int .i8 (rdL r23 x31 0)) rfl rfl rfl ?_
            refine g_d rfl ?_
            refine g_op (v := Value.int .i64 (i64w (rdL r23 x31 0))) rfl rfl rfl ?_
            refine g_d rfl ?_
            refine g_op (v := Value.int .i16 (rdL a1 x21 0)) rfl rfl rfl ?_
            refine g_d rfl ?_
            refine g_op (v := Value.int .i64 (i64w (rdL a1 x21 0))) rfl rfl rfl ?_
            refine g_d rfl ?_
            refine g_op (v := Value.int .i64 (i64w ((i64w (rdL r23 x31 0)) * (i64w (rdL a1 x21 0))))) rfl rfl rfl ?_
            refine g_d rfl ?_
            try dsimp only [set0,setS]
            refine g_op (v := Value.int .i64 (i64w (x26 - (i64w ((i64w (rdL r23 x31 0)) * (i64w (rdL a1 x21 0))))))) rfl rfl rfl ?_
            refine g_d rfl ?_
            try dsimp only [set0,setS]
            refine g_op (v := Value.int .i8 (rdL r23 x31 0)) rfl rfl rfl ?_
            refine g_d rfl ?_
            refine g_op (v := Value.int .i64 (i64w (rdL r23 x31 0))) rfl rfl rfl ?_
            refine g_d rfl ?_
            refine g_op (v := Value.int .i8 (rdL r23 x31 0)) rfl rfl rfl ?_
            refine g_d rfl ?_
            refine g_op (v := Value.int .i64 (i64w (rdL r23 x31 0))) rfl rfl rfl ?_
            refine g_d rfl ?_
            refine g_op (v := Value.int .i64 (i64w ((i64w (rdL r23 x31 0)) * (i64w (rdL r23 x31 0))))) rfl rfl rfl ?_
            refine g_d rfl ?_
            try dsimp only [set0,setS]
            refine g_op (v := Value.int .i64 (i64w (x26 - (i64w ((i64w (rdL r23 x31 0)) * (i64w (rdL a1 x21 0))))))) rfl rfl rfl ?_
            refine g_d rfl ?_
            try dsimp only [set0,setS]
            refine g_op (v := Value.int .i64 (i64w ((i64w (rdL r23 x31 0)) * (i64w (rdL r23 x31 0))))) rfl rfl rfl ?_
            refine g_d rfl ?_
            try dsimp only [set0,setS]
            refine g_ops_nil ?_
            refine g_seq ?_
            refine g_region ?_
            show G _ _ _ (.inRegion _ [0, 1, 2, 3, 4, 5, 6, 7, 8, 9, 10, 11, 12] :: _) _ _
            refine g_op (v := v7) rfl rfl rfl ?_
            refine g_d rfl ?_
            refine g_op (v := Value.int .i64 x21) rfl rfl rfl ?_
            refine g_d rfl ?_
            refine g_op (v := Value.int .i64 (i64w (x21 + 1))) rfl rfl rfl ?_
            refine g_d rfl ?_
            try dsimp only [set0,setS]
            obtain ⟨g4, H⟩ := ite_getD H
            refine s_idx fkHM none (hs.r2row 0 rfl) rfl (fun _ => rfl) g4.1 (hs.r2lt 0 rfl g4.2) rfl rfl rfl rfl rfl ?_
            intro p33 hp33 lp33 op33
            refine g_d rfl ?_
            try dsimp only [set0,setS]
            refine s_load1 rfl rfl (v := Value.map (rdL mm8 (i64w (x21 + 1)) none)) rfl rfl (fun _ => rfl) hp33 ?_
            refine g_d rfl ?_
            try dsimp only [set0,setS]
            refine g_op (v := Value.int .i64 (i64w (x26 - (i64w ((i64w (rdL r23 x31 0)) * (i64w (rdL a1 x21 0))))))) rfl rfl rfl ?_
            refine g_d rfl ?_
            refine g_op (v := Value.tuple #[Value.agg (enc_S_impl_balance (mGet ((rdL r6 (i64w (x21 + 1)) none).getD []) (i64w (x26 - (i64w ((i64w (rdL r23 x31 0)) * (i64w (rdL a1 x21 0)))))) z_S_impl_balance)).toArray, Value.bool (mIdx ((rdL r6 (i64w (x21 + 1)) none).getD []) (i64w (x26 - (i64w ((i64w (rdL r23 x31 0)) * (i64w (rdL a1 x21 0))))))).isSome]) rfl rfl (x_lookupOkO (keyInt Try.underlying2) (a := i64w (x26 - (i64w ((i64w (rdL r23 x31 0)) * (i64w (rdL a1 x21 0)))))) (z := z_S_impl_balance) (hs.r2mp 0 rfl g4.1 g4.2) rfl Try.underlying53 rfl rfl (fun _ => rfl)) ?_
            refine g_d rfl ?_
            try dsimp only [set0,setS]
            refine g_op (v := Value.tuple #[Value.agg (enc_S_impl_balance (mGet ((rdL r6 (i64w (x21 + 1)) none).getD []) (i64w (x26 - (i64w ((i64w (rdL r23 x31 0)) * (i64w (rdL a1 x21 0)))))) z_S_impl_balance)).toArray, Value.bool (mIdx ((rdL r6 (i64w (x21 + 1)) none).getD []) (i64w (x26 - (i64w ((i64w (rdL r23 x31 0)) * (i64w (rdL a1 x21 0))))))).isSome]) rfl rfl rfl ?_
            refine g_d rfl ?_
            refine g_op (v := Value.agg (enc_S_impl_balance (mGet ((rdL r6 (i64w (x21 + 1)) none).getD []) (i64w (x26 - (i64w ((i64w (rdL r23 x31 0)) * (i64w (rdL a1 x21 0)))))) z_S_impl_balance)).toArray) rfl rfl rfl ?_
            refine g_d rfl ?_
            refine g_op (v := Value.bool (mIdx ((rdL r6 (i64w (x21 + 1)) none).getD []) (i64w (x26 - (i64w ((i64w (rdL r23 x31 0)) * (i64w (rdL a1 x21 0))))))).isSome) rfl rfl rfl ?_
            refine g_d rfl ?_
            refine s_alloc hs rfl rfl (z := (Value.agg #[Value.int .i64 0, Value.int .i64 0])) (cs := (enc_S_impl_balance z_S_impl_balance)) rfl (fun _ => rfl) rfl ?_
            intro b34 w hs
            refine g_d rfl ?_
            try dsimp only [set0,setS]
            refine s_storeAll (n := 2) hs (fk_S_impl_balance.len _) rfl rfl (vs := (enc_S_impl_balance (mGet ((rdL r6 (i64w (x21 + 1)) none).getD []) (i64w (x26 - (i64w ((i64w (rdL r23 x31 0)) * (i64w (rdL a1 x21 0)))))) z_S_impl_balance))) rfl rfl rfl (fun _ => rfl) (fk_S_impl_balance.len _) (fk_S_impl_balance.one _) ?_
            intro w hs
            refine g_n rfl ?_
            refine g_op (v := Value.bool (mIdx ((rdL r6 (i64w (x21 + 1)) none).getD []) (i64w (x26 - (i64w ((i64w (rdL r23 x31 0)) * (i64w (rdL a1 x21 0))))))).isSome) rfl rfl rfl ?_
            refine g_d rfl ?_
            try dsimp only [set0,setS]
            refine g_ops_nil ?_
            refine g_seq ?_
            refine g_region ?_
            show G _ _ _ (.inRegion _ [0, 1, 2, 3, 4, 5, 6, 7, 8] :: _) _ _
            refine g_op_b (B := (mIdx ((rdL r6 (i64w (x21 + 1)) none).getD []) (i64w (x26 - (i64w ((i64w (rdL r23 x31 0)) * (i64w (rdL a1 x21 0))))))).isSome) rfl rfl rfl ?_ ?_
            ·
             intro hb
             rw [if_pos (b_var_t hb)] at H
             refine g_d rfl ?_
             refine g_op (v := Value.bool true) rfl rfl rfl ?_
             refine g_d rfl ?_
             refine g_op (v := Value.pointer (some ⟨b34, 1, none⟩)) rfl rfl rfl ?_
             refine g_d rfl ?_
             refine s_load1 rfl rfl (v := Value.int .i64 ((mGet ((rdL r6 (i64w (x21 + 1)) none).getD []) (i64w (x26 - (i64w ((i64w (rdL r23 x31 0)) * (i64w (rdL a1 x21 0)))))) z_S_impl_balance).f_least)) rfl rfl (fun _ => rfl) (cells_load (hs.cells 0 rfl) 1 1 rfl) ?_
             refine g_d rfl ?_
             try dsimp only [set0,setS]
             refine g_op (v := Value.int .i64 (i64w ((i64w (rdL r23 x31 0)) * (i64w (rdL r23 x31 0))))) rfl rfl rfl ?_
             refine g_d rfl ?_
             refine g_op (v := Value.int .i64 (i64w (((mGet ((rdL r6 (i64w (x21 + 1)) none).getD []) (i64w (x26 - (i64w ((i64w (rdL r23 x31 0)) * (i64w (rdL a1 x21 0)))))) z_S_impl_balance).f_least) + (i64w ((i64w (rdL r23 x31 0)) * (i64w (rdL r23 x31 0))))))) rfl rfl rfl ?_
             refine g_d rfl ?_
             try dsimp only [set0,setS]
             refine g_op (v := Value.int .i64 x30) rfl rfl rfl ?_
             refine g_d rfl ?_
             refine g_op_b (B := (i64w (((mGet ((rdL r6 (i64w (x21 + 1)) none).getD []) (i64w (x26 - (i64w ((i64w (rdL r23 x31 0)) * (i64w (rdL a1 x21 0)))))) z_S_impl_balance).f_least) + (i64w ((i64w (rdL r23 x31 0)) * (i64w (rdL r23 x31 0)))))) == x30) rfl rfl rfl ?_ ?_
             ·
              intro hb
              rw [if_pos (b_beq_t hb)] at H
              refine g_d rfl ?_
              try dsimp only [set0,setS]
              refine g_op (v := Value.bool true) rfl rfl rfl ?_
              refine g_d rfl ?_
              try dsimp only [set0,setS]
              refine g_ops_nil ?_
              refine g_cond_true rfl ?_
              refine g_seq ?_
              refine g_region ?_
              show G _ _ _ (.inRegion _ [0, 1, 2, 3, 4, 5, 6, 7, 8, 9, 10] :: _) _ _
              refine g_op (v := v28) rfl rfl rfl ?_
              refine g_d rfl ?_
              refine g_op (v := Value.int .i8 (rdL r23 x31 0)) rfl rfl rfl ?_
              refine g_d rfl ?_
              refine s_lit1 (fkI .i8) (y := rdL r23 x31 0) hs rfl rfl rfl rfl (fun _ => rfl) (zv := (Value.int .i8 0)) (fun _ => rfl) rfl (by decide) (by decide) rfl ?_
              intro v36 w hs
              refine g_d rfl ?_
              try dsimp only [set0,setS]
              have hs := hs.pull 3 rfl
              have hs : St _ [_,_,_,_,_] _ := hs
              obtain ⟨g, H⟩ := ite_getD H
              refine s_append (fkI .i8) (zv := (Value.int .i8 0)) (B := 1) hs (hs.row 1 rfl) rfl rfl rfl rfl rfl rfl rfl rfl rfl (by decide) rfl rfl (by decide) (by omega) ?_
              intro v38 w hs
              refine g_d rfl ?_
              try dsimp only [set0,setS]
              refine g_op (v := Value.int .i64 (i64w (x26 - (i64w ((i64w (rdL r23 x31 0)) * (i64w (rdL a1 x21 0))))))) rfl rfl rfl ?_
              refine g_d rfl ?_
              refine g_op (v := Value.int .i64 x30) rfl rfl rfl ?_
              refine g_d rfl ?_
              refine g_op (v := Value.int .i64 (i64w ((i64w (rdL r23 x31 0)) * (i64w (rdL r23 x31 0))))) rfl rfl rfl ?_
              refine g_d rfl ?_
              refine g_op (v := Value.int .i64 (i64w (x30 - (i64w ((i64w (rdL r23 x31 0)) * (i64w (rdL r23 x31 0))))))) rfl rfl rfl ?_
              refine g_d rfl ?_
              try dsimp only [set0,setS]
              refine g_op (v := v38) rfl rfl rfl ?_
              refine g_d rfl ?_
              try dsimp only [set0,setS]
              refine g_op (v := Value.int .i64 (i64w (x26 - (i64w ((i64w (rdL r23 x31 0)) * (i64w (rdL a1 x21 0))))))) rfl rfl rfl ?_
              refine g_d rfl ?_
              try dsimp only [set0,setS]
              refine g_op (v := Value.int .i64 (i64w (x30 - (i64w ((i64w (rdL r23 x31 0)) * (i64w (rdL r23 x31 0))))))) rfl rfl rfl ?_
              refine g_d rfl ?_
              try dsimp only [set0,setS]
              refine g_ops_nil ?_
              have hs := hs.pull 0 rfl
              have hs := hs.pull 3 rfl
              have hs : St _ [_,_] _ := St.take (Γ' := [_,_,_]) hs
              refine g_exit rfl ?_
              exact ha2_ _ _ ⟨i64w (x26 - (i64w ((i64w (rdL r23 x31 0)) * (i64w (rdL a1 x21 0))))), v38, x29 ++ ([rdL r23 x31 0]), i64w (x30 - (i64w ((i64w (rdL r23 x31 0)) * (i64w (rdL r23 x31 0))))), cast (congrFun hQ2_ _) H, rfl, hs⟩
             ·
              intro hb
              rw [if_neg (b_beq_f hb)] at H
              refine g_d rfl ?_
              try dsimp only [set0,setS]
              refine g_op (v := Value.bool false) rfl rfl rfl ?_
              refine g_d rfl ?_
              try dsimp only [set0,setS]
              refine g_ops_nil ?_
              refine g_cond_false rfl ?_
              refine g_skip ?_
              refine g_inBlock ?_
              have hs := hs.pull 3 rfl
              have hs := hs.pull 3 rfl
              have hs := hs.pull 3 rfl
              have hs : St _ [_,_,_] _ := St.take (Γ' := [_]) hs
              exact ha _ _ ⟨H, rfl, hs⟩
            ·
             intro hb
             rw [if_neg (b_var_f hb)] at H
             refine g_d rfl ?_
             refine g_op (v := Value.bool false) rfl rfl rfl ?_
             refine g_d rfl ?_
             refine g_op_not rfl rfl ?_
             refine g_d rfl ?_
             refine g_op_not rfl rfl ?_
             refine g_d rfl ?_
             try dsimp only [set0,setS]
             refine g_op_not rfl rfl ?_
             refine g_d rfl ?_
             refine g_op_not rfl rfl ?_
             refine g_d rfl ?_
             try dsimp only [set0,setS]
             refine g_op_not rfl rfl ?_
             refine g_d rfl ?_
             refine g_op_not rfl rfl ?_
             refine g_d rfl ?_
             try dsimp only [set0,setS]
             refine g_op (v := Value.bool false) rfl rfl rfl ?_
             refine g_d rfl ?_
             try dsimp only [set0,setS]
             refine g_ops_nil ?_
             refine g_cond_false rfl ?_
             refine g_skip ?_
             refine g_inBlock ?_
             have hs := hs.pull 3 rfl
             have hs := hs.pull 3 rfl
             have hs := hs.pull 3 rfl
             have hs : St _ [_,_,_] _ := St.take (Γ' := [_]) hs
             exact ha _ _ ⟨H, rfl, hs⟩
          ·
           intro hb
           rw [if_neg (b_dec_f hb)] at H
           refine g_d rfl ?_
           try dsimp only [set0,setS]
           refine g_ops_nil ?_
           refine g_seq ?_
           refine g_cond_false rfl ?_
           have hs := hs.pull 1 rfl
           have hs := hs.pull 1 rfl
           have hs : St _ [_,_] _ := St.take (Γ' := [_]) hs
           refine g_exit rfl ?_
           exact ha2_ _ _ ⟨x26, v28, x29, x30, cast (congrFun hQ2_ _) H, rfl, hs⟩
       ·
        intro hb
        rw [if_neg (b_dec_f hb)] at H
        refine g_d rfl ?_
        try dsimp only [set0,setS]
        refine g_ops_nil ?_
        refine g_seq ?_
        refine g_cond_false rfl ?_
        have hs := hs.pull 1 rfl
        have hs : St _ [_] _ := St.take (Γ' := [_]) hs
        refine g_exit rfl ?_
        exact ha1_ _ _ ⟨v18, x19, cast (congrFun hQ1_ _) H, rfl, hs⟩
   ·
    intro hb
    rw [if_neg (b_var_f hb)] at H
    refine g_d rfl ?_
    refine g_op (v := Value.bool true) rfl rfl rfl ?_
    refine g_d rfl ?_
    try dsimp only [set0,setS]
    refine g_ops_nil ?_
    refine g_cond_true rfl ?_
    refine g_seq ?_
    refine g_region ?_
    show G _ _ _ (.inRegion _ [0, 1] :: _) _ _
    refine g_op (v := Value.slice none 0 0) rfl rfl rfl ?_
    refine g_d rfl ?_
    try dsimp only [set0,setS]
    refine g_op (v := Value.int .i64 6) rfl rfl rfl ?_
    refine g_d rfl ?_
    try dsimp only [set0,setS]
    refine g_ops_nil ?_
    refine g_ret Try.func10 (v := Value.tuple #[Value.slice none 0 0, Value.int .i64 6]) (resN (l := Try.f10.results.toList) (vs := [Value.slice none 0 0, Value.int .i64 6]) rfl ⟨rfl, rfl, trivial⟩ (by simp)) ?_
    have hs := hs.nil 47 (K.int .i8)
    have hs := hs.pull 0 rfl
    have hs : St _ [_] _ := St.take (Γ' := [_,_]) hs
    exact ⟨_, rfl, _, H, (Value.slice none 0 0), rfl, hs⟩

/- function 11 laws_eqPlacing -/
def laws_eqPlacing.post (w0 : World) (r : Bool) (v : Value) (w : World) : Prop := v = Value.bool r ∧ St w0 [] w
set_option maxHeartbeats 8000000 in
set_option maxRecDepth 100000 in
theorem laws_eqPlacing.calls {N : Nat} {a1 : (List Int)} {a3 : (List Int)} {v2 : Value} {v4 : Value} {w0 : World} {r : Bool} (hr0 : RdRow (K.int .i8) w0 v2 a1) (hr1 : RdRow (K.int .i8) w0 v4 a3) (H : laws_eqPlacing.f N a1 a3 = some r) :
    Calls Try.prog 11 #[v2, v4] w0 fun e w => ∃ v, e = .returned v ∧ laws_eqPlacing.post w0 r v w := by
  unfold laws_eqPlacing.f at H
  have hs : St w0 [] w0 := St.refl w0
  refine calls_of_g (n := 24) Try.func11 rfl rfl ?_
  show G _ _ _ _ [_,_,_,_,_,_,_,_,_,_,_,_,_,_,_,_,_,_,_,_,_,_,_,_,_,_] _
  refine g_seq ?_
  refine g_region ?_
  show G _ _ _ (.inRegion _ [0] :: _) _ _
  refine g_op (v := Value.bool false) rfl rfl rfl ?_
  show G _ _ _ _ [_,_,_,_,_,_,_,_,_,_,_,_,_,_,_,_,_,_,_,_,_,_,_,_,_,_] _
  refine g_ops_nil ?_
  refine g_seq ?_
  refine g_seq ?_
  refine g_region ?_
  show G _ _ _ (.inRegion _ [0, 1, 2, 3, 4] :: _) _ _
  refine g_op (v := v2) rfl rfl rfl ?_
  refine s_len (hs.rd hr0) rfl rfl rfl rfl rfl ?_
  show G _ _ _ _ [_,_,_,_,_,_,_,_,_,_,_,_,_,_,_,_,_,_,_,_,_,_,_,_,_,_] _
  refine g_op (v := v4) rfl rfl rfl ?_
  refine s_len (hs.rd hr1) rfl rfl rfl rfl rfl ?_
  show G _ _ _ _ [_,_,_,_,_,_,_,_,_,_,_,_,_,_,_,_,_,_,_,_,_,_,_,_,_,_] _
  refine g_op_b (B := (a1.length : Int) != (a3.length : Int)) rfl rfl rfl ?_ ?_
  ·
   intro hb
   rw [if_neg (b_bne_t hb)] at H
   show G _ _ _ _ [_,_,_,_,_,_,_,_,_,_,_,_,_,_,_,_,_,_,_,_,_,_,_,_,_,_] _
   refine g_ops_nil ?_
   refine g_cond_true rfl ?_
   refine g_seq ?_
   refine g_region ?_
   show G _ _ _ (.inRegion _ [0] :: _) _ _
   refine g_op (v := Value.bool false) rfl rfl rfl ?_
   show G _ _ _ _ [_,_,_,_,_,_,_,_,_,_,_,_,_,_,_,_,_,_,_,_,_,_,_,_,_,_] _
   refine g_ops_nil ?_
   obtain rfl := Option.some.inj H
   refine g_ret Try.func11 (v := Value.bool false) (res1 rfl rfl) ?_
   have hs : St _ [] _ := St.take (Γ' := []) hs
   exact ⟨_, rfl, rfl, hs⟩
  ·
   intro hb
   rw [if_pos (b_bne_f hb)] at H
   show G _ _ _ _ [_,_,_,_,_,_,_,_,_,_,_,_,_,_,_,_,_,_,_,_,_,_,_,_,_,_] _
   refine g_ops_nil ?_
   refine g_cond_false rfl ?_
   refine g_skip ?_
   refine g_seq ?_
   refine g_seq ?_
   refine g_region ?_
   show G _ _ _ (.inRegion _ [0] :: _) _ _
   refine g_op (v := Value.int .i64 0) rfl rfl rfl ?_
   show G _ _ _ _ [_,_,_,_,_,_,_,_,_,_,_,_,_,_,_,_,_,_,_,_,_,_,_,_,_,_] _
   refine g_ops_nil ?_
   obtain ⟨o1_, Ho, Hr1_⟩ := bind_get H
   refine g_block_join (J := fun t w => laws_eqPlacing.a0 N = some r ∧ Fr t (fun O => ([O 0, O 1, O 2, O 3, O 4, O 5, O 6, O 7, O 8, O 9, O 10, O 11, O 12, O 13, O 14, O 15, O 16, O 17, O 18, O 19, O 20, O 21, O 22, O 23, O 24, O 25] : List Value)) ∧ St w0 [] w) ?_ ?_
   ·
    rintro t w ⟨H, hf, hs⟩
    obtain ⟨O, rfl⟩ := hf.open
    show G _ _ _ _ [_,_,_,_,_,_,_,_,_,_,_,_,_,_,_,_,_,_,_,_,_,_,_,_,_,_] _
    unfold laws_eqPlacing.a0 at H
    refine g_seq ?_
    refine g_region ?_
    show G _ _ _ (.inRegion _ [0] :: _) _ _
    refine g_op (v := Value.bool true) rfl rfl rfl ?_
    show G _ _ _ _ [_,_,_,_,_,_,_,_,_,_,_,_,_,_,_,_,_,_,_,_,_,_,_,_,_,_] _
    refine g_ops_nil ?_
    obtain rfl := Option.some.inj H
    refine g_ret Try.func11 (v := Value.bool true) (res1 rfl rfl) ?_
    have hs : St _ [] _ := St.take (Γ' := []) hs
    exact ⟨_, rfl, rfl, hs⟩
   ·
    intro ha1_
    have hs : St _ [] _ := St.take (Γ' := []) hs
    refine g_loop_fuel (I := fun n_ t w => ∃ x5 : Int, rounds (fun s => laws_eqPlacing.b0 N a1 a3 s) n_ x5 = some o1_ ∧ Fr t (fun O => ([v2, v4, O 2, O 3, O 4, Value.int .i64 x5, O 6, O 7, O 8, O 9, O 10, O 11, O 12, O 13, O 14, O 15, O 16, O 17, O 18, O 19, O 20, O 21, O 22, O 23, O 24, O 25] : List Value)) ∧ St w0 [] w) N ⟨0, Ho, rfl, hs⟩ ?_ ?_
    ·
     rintro _ _ ⟨x5, h, _⟩
     exact rounds_zero h
    ·
     intro n_ ih1_
     rintro t w ⟨x5, Ho, hf, hs⟩
     obtain ⟨O, rfl⟩ := hf.open
     show G _ _ _ _ [_,_,_,_,_,_,_,_,_,_,_,_,_,_,_,_,_,_,_,_,_,_,_,_,_,_] _
     obtain ⟨x7_, H, Hx1_⟩ := rounds_succ Ho
     have H : laws_eqPlacing.b0 N a1 a3 x5 = some x7_ := H
     unfold laws_eqPlacing.b0 at H
     refine g_seq ?_
     refine g_seq ?_
     refine g_region ?_
     show G _ _ _ (.inRegion _ [0, 1, 2, 3] :: _) _ _
     refine g_op (v := Value.int .i64 x5) rfl rfl rfl ?_
     refine g_op (v := v2) rfl rfl rfl ?_
     refine s_len (hs.rd hr0) rfl rfl rfl rfl rfl ?_
     show G _ _ _ _ [_,_,_,_,_,_,_,_,_,_,_,_,_,_,_,_,_,_,_,_,_,_,_,_,_,_] _
     refine g_op_b (B := decide (x5 < (a1.length : Int))) rfl rfl rfl ?_ ?_
     ·
      intro hb
      rw [if_pos (b_dec_t hb)] at H
      show G _ _ _ _ [_,_,_,_,_,_,_,_,_,_,_,_,_,_,_,_,_,_,_,_,_,_,_,_,_,_] _
      refine g_ops_nil ?_
      refine g_cond_true rfl ?_
      refine g_skip ?_
      refine g_seq ?_
      refine g_block ?_
      refine g_seq ?_
      refine g_lay (n := 9) rfl [0, 1, 2, 3, 4, 5, 6, 7, 8] [0, 1, 2, 3, 4, 5, 6, 7, 8] rfl rfl ?_
      intro rest w hh hbw hO
      have hs := hs.samew hh hbw
      show G _ _ _ _ [_,_,_,_,_,_,_,_,_,_,_,_,_,_,_,_,_,_,_,_,_,_,_,_,_,_] _
      obtain ⟨gd2, H⟩ := ite_get H
      obtain ⟨ad3_, ad3_N, ad3_C, had3_⟩ := sl_at (hs.rd hr0) gd2.1 gd2.2
      obtain ⟨gd4, H⟩ := ite_get H
      obtain ⟨ad5_, ad5_N, ad5_C, had5_⟩ := sl_at (hs.rd hr1) gd4.1 gd4.2
      refine g_name ?_
      intro T hT
      refine g_layer (m0 := 0) hO rfl 255 [0, 1, 2, 3, 4, 5, 6, 7] [0, 0, 3, 7, 0, 0, 48, 112, 255] (by decide +kernel) (fun D t w => ∃ O : Nat → Value, t = [v2, v4, O 2, O 3, O 4, Value.int .i64 x5, O 6, O 7, O 8, O 9, O 10, Value.int .i64 x5, v2, Value.int .i64 (a1.length : Int), Value.bool true, O 15, O 16, cnd (D 0) v2 (O 17), cnd (D 1) (Value.int .i64 x5) (O 18), cnd (D 2) (Value.pointer (some (ad3_.add (x5.toNat * 1)))) (O 19), cnd (D 3) (Value.int .i8 (rdL a1 x5 0)) (O 20), cnd (D 4) v4 (O 21), cnd (D 5) (Value.int .i64 x5) (O 22), cnd (D 6) (Value.pointer (some (ad5_.add (x5.toNat * 1)))) (O 23), cnd (D 7) (Value.int .i8 (rdL a3 x5 0)) (O 24), O 25] ∧ St w0 [] w) ?_ ⟨?_, ⟨?_, ⟨?_, ⟨?_, ⟨?_, ⟨?_, ⟨?_, ⟨?_, trivial⟩⟩⟩⟩⟩⟩⟩⟩ ?_
      · exact ⟨fun i => T.getD i undef, (by subst hT; rfl), hs⟩
      ·
       intro D t w hD hp hcl hI rest hk
       obtain ⟨O, ht, hs⟩ := hI
       have hp : AllDone D [] := hp
       have q2_ : D 2 = false := not_yet (show D 2 = true → AllDone D [0, 1] from hcl 2 (by decide)) 0 0 rfl hD
       have q3_ : D 3 = false := not_yet (show D 3 = true → AllDone D [2] from hcl 3 (by decide)) 0 2 rfl q2_
       simp only [hD, q2_, q3_, cnd_t, cnd_f, Asc_t, Asc_f] at ht hs
       subst ht
       refine g_op (v := v2) rfl rfl rfl ?_
       show G _ _ _ _ [_,_,_,_,_,_,_,_,_,_,_,_,_,_,_,_,_,_,_,_,_,_,_,_,_,_] _
       exact hk _ _ ⟨O, (by simp only [upd, Nat.reduceBEq, Bool.true_or, Bool.false_or, q2_, q3_, cnd_t, cnd_f, Asc_t, Asc_f]), hs.cast (by first | rfl | simp only [List.take, List.drop, List.cons_append, List.nil_append, List.set_cons_zero, List.set_cons_succ, List.eraseIdx, upd, Nat.reduceBEq, Bool.true_or, Bool.false_or, q2_, q3_, cnd_t, cnd_f, Asc_t, Asc_f])⟩
      ·
       intro D t w hD hp hcl hI rest hk
       obtain ⟨O, ht, hs⟩ := hI
       have hp : AllDone D [] := hp
       have q2_ : D 2 = false := not_yet (show D 2 = true → AllDone D [0, 1] from hcl 2 (by decide)) 1 1 rfl hD
       have q3_ : D 3 = false := not_yet (show D 3 = true → AllDone D [2] from hcl 3 (by decide)) 0 2 rfl q2_
       simp only [hD, q2_, q3_, cnd_t, cnd_f, Asc_t, Asc_f] at ht hs
       subst ht
       refine g_op (v := Value.int .i64 x5) rfl rfl rfl ?_
       show G _ _ _ _ [_,_,_,_,_,_,_,_,_,_,_,_,_,_,_,_,_,_,_,_,_,_,_,_,_,_] _
       exact hk _ _ ⟨O, (by simp only [upd, Nat.reduceBEq, Bool.true_or, Bool.false_or, q2_, q3_, cnd_t, cnd_f, Asc_t, Asc_f]), hs.cast (by first | rfl | simp only [List.take, List.drop, List.cons_append, List.nil_append, List.set_cons_zero, List.set_cons_succ, List.eraseIdx, upd, Nat.reduceBEq, Bool.true_or, Bool.false_or, q2_, q3_, cnd_t, cnd_f, Asc_t, Asc_f])⟩
      ·
       intro D t w hD hp hcl hI rest hk
       obtain ⟨O, ht, hs⟩ := hI
       have hp : AllDone D [0, 1] := hp
       obtain ⟨p0_, p1_, _⟩ := hp
       have q3_ : D 3 = false := not_yet (show D 3 = true → AllDone D [2] from hcl 3 (by decide)) 0 2 rfl hD
       simp only [hD, p0_, p1_, q3_, cnd_t, cnd_f, Asc_t, Asc_f] at ht hs
       subst ht
       refine s_idxD (κ := (K.int .i8)) (m := 1) rfl (hs.rd hr0) rfl (fun _ => rfl) gd2.1 gd2.2 had3_ rfl rfl rfl rfl rfl ?_
       show G _ _ _ _ [_,_,_,_,_,_,_,_,_,_,_,_,_,_,_,_,_,_,_,_,_,_,_,_,_,_] _
       exact hk _ _ ⟨O, (by simp only [upd, Nat.reduceBEq, Bool.true_or, Bool.false_or, p0_, p1_, q3_, cnd_t, cnd_f, Asc_t, Asc_f]), hs.cast (by first | rfl | simp only [List.take, List.drop, List.cons_append, List.nil_append, List.set_cons_zero, List.set_cons_succ, List.eraseIdx, upd, Nat.reduceBEq, Bool.true_or, Bool.false_or, p0_, p1_, q3_, cnd_t, cnd_f, Asc_t, Asc_f])⟩
      ·
       intro D t w hD hp hcl hI rest hk
       obtain ⟨O, ht, hs⟩ := hI
       have hp : AllDone D [2] := hp
       obtain ⟨p2_, _⟩ := hp
       obtain ⟨p0_, p1_, _⟩ := (show D 2 = true → AllDone D [0, 1] from hcl 2 (by decide)) p2_
       simp only [hD, p0_, p1_, p2_, cnd_t, cnd_f, Asc_t, Asc_f] at ht hs
       subst ht
       refine s_load1 rfl rfl (v := Value.int .i8 (rdL a1 x5 0)) rfl rfl (fun _ => rfl) (cellsAt_of (fkI .i8) 0 (hs.rd hr0) had3_ gd2.1 gd2.2) ?_
       show G _ _ _ _ [_,_,_,_,_,_,_,_,_,_,_,_,_,_,_,_,_,_,_,_,_,_,_,_,_,_] _
       exact hk _ _ ⟨O, (by simp only [upd, Nat.reduceBEq, Bool.true_or, Bool.false_or, p0_, p1_, p2_, cnd_t, cnd_f, Asc_t, Asc_f]), hs.cast (by first | rfl | simp only [List.take, List.drop, List.cons_append, List.nil_append, List.set_cons_zero, List.set_cons_succ, List.eraseIdx, upd, Nat.reduceBEq, Bool.true_or, Bool.false_or, p0_, p1_, p2_, cnd_t, cnd_f, Asc_t, Asc_f])⟩
      ·
       intro D t w hD hp hcl hI rest hk
       obtain ⟨O, ht, hs⟩ := hI
       have hp : AllDone D [] := hp
       have q6_ : D 6 = false := not_yet (show D 6 = true → AllDone D [4, 5] from hcl 6 (by decide)) 0 4 rfl hD
       have q7_ : D 7 = false := not_yet (show D 7 = true → AllDone D [6] from hcl 7 (by decide)) 0 6 rfl q6_
       simp only [hD, q6_, q7_, cnd_t, cnd_f, Asc_t, Asc_f] at ht hs
       subst ht
       refine g_op (v := v4) rfl rfl rfl ?_
       show G _ _ _ _ [_,_,_,_,_,_,_,_,_,_,_,_,_,_,_,_,_,_,_,_,_,_,_,_,_,_] _
       exact hk _ _ ⟨O, (by simp only [upd, Nat.reduceBEq, Bool.true_or, Bool.false_or, q6_, q7_, cnd_t, cnd_f, Asc_t, Asc_f]), hs.cast (by first | rfl | simp only [List.take, List.drop, List.cons_append, List.nil_append, List.set_cons_zero, List.set_cons_succ, List.eraseIdx, upd, Nat.reduceBEq, Bool.true_or, Bool.false_or, q6_, q7_, cnd_t, cnd_f, Asc_t, Asc_f])⟩
      ·
       intro D t w hD hp hcl hI rest hk
       obtain ⟨O, ht, hs⟩ := hI
       have hp : AllDone D [] := hp
       have q6_ : D 6 = false := not_yet (show D 6 = true → AllDone D [4, 5] from hcl 6 (by decide)) 1 5 rfl hD
       have q7_ : D 7 = false := not_yet (show D 7 = true → AllDone D [6] from hcl 7 (by decide)) 0 6 rfl q6_
       simp only [hD, q6_, q7_, cnd_t, cnd_f, Asc_t, Asc_f] at ht hs
       subst ht
       refine g_op (v := Value.int .i64 x5) rfl rfl rfl ?_
       show G _ _ _ _ [_,_,_,_,_,_,_,_,_,_,_,_,_,_,_,_,_,_,_,_,_,_,_,_,_,_] _
       exact hk _ _ ⟨O, (by simp only [upd, Nat.reduceBEq, Bool.true_or, Bool.false_or, q6_, q7_, cnd_t, cnd_f, Asc_t, Asc_f]), hs.cast (by first | rfl | simp only [List.take, List.drop, List.cons_append, List.nil_append, List.set_cons_zero, List.set_cons_succ, List.eraseIdx, upd, Nat.reduceBEq, Bool.true_or, Bool.false_or, q6_, q7_, cnd_t, cnd_f, Asc_t, Asc_f])⟩
      ·
       intro D t w hD hp hcl hI rest hk
       obtain ⟨O, ht, hs⟩ := hI
       have hp : AllDone D [4, 5] := hp
       obtain ⟨p4_, p5_, _⟩ := hp
       have q7_ : D 7 = false := not_yet (show D 7 = true → AllDone D [6] from hcl 7 (by decide)) 0 6 rfl hD
       simp only [hD, p4_, p5_, q7_, cnd_t, cnd_f, Asc_t, Asc_f] at ht hs
       subst ht
       refine s_idxD (κ := (K.int .i8)) (m := 1) rfl (hs.rd hr1) rfl (fun _ => rfl) gd4.1 gd4.2 had5_ rfl rfl rfl rfl rfl ?_
       show G _ _ _ _ [_,_,_,_,_,_,_,_,_,_,_,_,_,_,_,_,_,_,_,_,_,_,_,_,_,_] _
       exact hk _ _ ⟨O, (by simp only [upd, Nat.reduceBEq, Bool.true_or, Bool.false_or, p4_, p5_, q7_, cnd_t, cnd_f, Asc_t, Asc_f]), hs.cast (by first | rfl | simp only [List.take, List.drop, List.cons_append, List.nil_append, List.set_cons_zero, List.set_cons_succ, List.eraseIdx, upd, Nat.reduceBEq, Bool.true_or, Bool.false_or, p4_, p5_, q7_, cnd_t, cnd_f, Asc_t, Asc_f])⟩
      ·
       intro D t w hD hp hcl hI rest hk
       obtain ⟨O, ht, hs⟩ := hI
       have hp : AllDone D [6] := hp
       obtain ⟨p6_, _⟩ := hp
       obtain ⟨p4_, p5_, _⟩ := (show D 6 = true → AllDone D [4, 5] from hcl 6 (by decide)) p6_
       simp only [hD, p4_, p5_, p6_, cnd_t, cnd_f, Asc_t, Asc_f] at ht hs
       subst ht
       refine s_load1 rfl rfl (v := Value.int .i8 (rdL a3 x5 0)) rfl rfl (fun _ => rfl) (cellsAt_of (fkI .i8) 0 (hs.rd hr1) had5_ gd4.1 gd4.2) ?_
       show G _ _ _ _ [_,_,_,_,_,_,_,_,_,_,_,_,_,_,_,_,_,_,_,_,_,_,_,_,_,_] _
       exact hk _ _ ⟨O, (by simp only [upd, Nat.reduceBEq, Bool.true_or, Bool.false_or, p4_, p5_, p6_, cnd_t, cnd_f, Asc_t, Asc_f]), hs.cast (by first | rfl | simp only [List.take, List.drop, List.cons_append, List.nil_append, List.set_cons_zero, List.set_cons_succ, List.eraseIdx, upd, Nat.reduceBEq, Bool.true_or, Bool.false_or, p4_, p5_, p6_, cnd_t, cnd_f, Asc_t, Asc_f])⟩
      ·
       intro D t w rest hall hO1_ hI
       obtain ⟨O, ht, hs⟩ := hI
       have p0_ : D 0 = true := hall 0 (by decide) rfl
       have p1_ : D 1 = true := hall 1 (by decide) rfl
       have p2_ : D 2 = true := hall 2 (by decide) rfl
       have p3_ : D 3 = true := hall 3 (by decide) rfl
       have p4_ : D 4 = true := hall 4 (by decide) rfl
       have p5_ : D 5 = true := hall 5 (by decide) rfl
       have p6_ : D 6 = true := hall 6 (by decide) rfl
       have p7_ : D 7 = true := hall 7 (by decide) rfl
       simp only [p0_, p1_, p2_, p3_, p4_, p5_, p6_, p7_, cnd_t, cnd_f, Asc_t, Asc_f] at ht hs
       subst ht
       obtain ⟨rest, rfl, hO6_⟩ := ord_one (m := 255) hO1_ rfl 8 (m' := 511) (by decide +kernel) rfl
       clear hO1_
       refine g_op_b (B := (rdL a1 x5 0) != (rdL a3 x5 0)) rfl rfl rfl ?_ ?_
       ·
        intro hb
        rw [if_neg (b_bne_t hb)] at H
        show G _ _ _ _ [_,_,_,_,_,_,_,_,_,_,_,_,_,_,_,_,_,_,_,_,_,_,_,_,_,_] _
        obtain rfl := ord_end hO6_ rfl (by decide +kernel)
        refine g_ops_nil ?_
        refine g_cond_true rfl ?_
        refine g_seq ?_
        refine g_region ?_
        show G _ _ _ (.inRegion _ [0] :: _) _ _
        refine g_op (v := Value.bool false) rfl rfl rfl ?_
        show G _ _ _ _ [_,_,_,_,_,_,_,_,_,_,_,_,_,_,_,_,_,_,_,_,_,_,_,_,_,_] _
        refine g_ops_nil ?_
        obtain rfl := Option.some.inj H
        subst Hx1_
        have H := Option.some.inj Hr1_
        subst H
        refine g_ret Try.func11 (v := Value.bool false) (res1 rfl rfl) ?_
        have hs : St _ [] _ := St.take (Γ' := []) hs
        exact ⟨_, rfl, rfl, hs⟩
       ·
        intro hb
        rw [if_pos (b_bne_f hb)] at H
        show G _ _ _ _ [_,_,_,_,_,_,_,_,_,_,_,_,_,_,_,_,_,_,_,_,_,_,_,_,_,_] _
        obtain rfl := ord_end hO6_ rfl (by decide +kernel)
        refine g_ops_nil ?_
        refine g_cond_false rfl ?_
        refine g_skip ?_
        refine g_inBlock ?_
        refine g_region ?_
        show G _ _ _ (.inRegion _ [0, 1, 2] :: _) _ _
        refine g_op (v := Value.int .i64 x5) rfl rfl rfl ?_
        refine g_op (v := Value.int .i64 (i64w (x5 + 1))) rfl rfl rfl ?_
        show G _ _ _ _ [_,_,_,_,_,_,_,_,_,_,_,_,_,_,_,_,_,_,_,_,_,_,_,_,_,_] _
        refine g_op (v := Value.int .i64 (i64w (x5 + 1))) rfl rfl rfl ?_
        show G _ _ _ _ [_,_,_,_,_,_,_,_,_,_,_,_,_,_,_,_,_,_,_,_,_,_,_,_,_,_] _
        refine g_ops_nil ?_
        obtain rfl := Option.some.inj H
        have hs : St _ [] _ := St.take (Γ' := []) hs
        exact ih1_ _ _ ⟨i64w (x5 + 1), Hx1_, rfl, hs⟩
     ·
      intro hb
      rw [if_neg (b_dec_f hb)] at H
      show G _ _ _ _ [_,_,_,_,_,_,_,_,_,_,_,_,_,_,_,_,_,_,_,_,_,_,_,_,_,_] _
      refine g_ops_nil ?_
      refine g_cond_false rfl ?_
      obtain rfl := Option.some.inj H
      subst Hx1_
      have hs : St _ [] _ := St.take (Γ' := []) hs
      refine g_exit rfl ?_
      exact ha1_ _ _ ⟨Hr1_, rfl, hs⟩

end Go.Proofs.YtekcbhgojjdcoaaX
