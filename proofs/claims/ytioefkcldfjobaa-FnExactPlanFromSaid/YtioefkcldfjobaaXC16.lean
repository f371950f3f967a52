/- Contracts, printed by gen.py. -/
import Derived.Test.YtioefkcldfjobaaXT
import Derived.Test.YtioefkcldfjobaaProg
import Derived.Test.YtioefkcldfjobaaXRowR
import Derived.Test.YtioefkcldfjobaaXSeg
import Derived.Test.YtioefkcldfjobaaXKey
import Derived.Test.YtioefkcldfjobaaXIter
import Derived.Test.YtioefkcldfjobaaXRow2
import Derived.Test.YtioefkcldfjobaaXC0
import Derived.Test.YtioefkcldfjobaaXC6
import Derived.Test.YtioefkcldfjobaaXC15
namespace Go.Proofs.YtioefkcldfjobaaX
open Go Go.RowKit Go.Proofs
set_option linter.unusedVariables false
set_option linter.unusedSimpArgs false
/- function 30 impl_PlanFrom -/
def impl_PlanFrom.post (w0 : World) (r : ((List Int) × Int)) (v : Value) (w : World) : Prop := ∃ u1 : Value, v = Value.tuple #[u1, Value.int .i64 r.2] ∧ St w0 [Row 5 (K.int .u8) u1 r.1] w
set_option maxHeartbeats 8000000 in
set_option maxRecDepth 100000 in
theorem impl_PlanFrom.calls {N : Nat} {a1 : (List Int)} {a3 : (Ar Int 4)} {a4 : Int} {v2 : Value} {w0 : World} {r : ((List Int) × Int)} (hr0 : RdRow (K.int .i16) w0 v2 a1) (H : impl_PlanFrom.f N a1 a3 a4 = some r) :
    Calls Try.prog 30 #[v2, Value.agg ((encA (encI .i16)) a3).toArray, Value.int .i64 a4] w0 fun e w => ∃ v, e = .returned v ∧ impl_PlanFrom.post w0 r v w := by
  unfold impl_PlanFrom.f at H
  have hs : St w0 [] w0 := St.refl w0
  refine calls_of_g (n := 75) Try.func30 rfl rfl ?_
  show G _ _ _ _ (_::_::_::_::_::_::_::_::_::_::_::_::_::_::_::_::_::_::_::_::_::_::_::_::_::_::_::_::_::_::_::_::_::_::_::_::_::_::_::_::_::_::_::_::_::_::_::_::_::_::_::_::_::_::_::_::_::_::_::_::_::_::_::_::_::_::_::_::_::_::_::_::_::_::_::_::_::_::[]) _
  refine g_seq ?_
  refine g_region ?_
  show G _ _ _ (.inRegion _ [0, 1, 2] :: _) _ _
  refine s_box hs rfl rfl (cs := ((encA (encI .i16)) a3)) rfl rfl ?_
  intro b5 w hs
  refine g_d rfl ?_
  try dsimp only [set0,setS]
  refine g_op (v := Value.slice none 0 0) rfl rfl rfl ?_
  refine g_d rfl ?_
  try dsimp only [set0,setS]
  refine g_op (v := Value.int .i64 0) rfl rfl rfl ?_
  refine g_d rfl ?_
  try dsimp only [set0,setS]
  refine g_ops_nil ?_
  refine g_seq ?_
  refine g_seq ?_
  refine g_region ?_
  show G _ _ _ (.inRegion _ [0, 1, 2, 3, 4] :: _) _ _
  refine g_op (v := v2) rfl rfl rfl ?_
  refine g_d rfl ?_
  refine s_loadA rfl rfl (es := ((encA (encI .i16)) a3)) rfl rfl (fun _ => rfl) (n := 4) (fun _ => rfl) ((fkA (n := 4) (he := (fkI .i16).len) (h1 := (fkI .i16).one)).len _) (cells_all (hs.cells 0 rfl)) ?_
  refine g_d rfl ?_
  try dsimp only [set0,setS]
  refine g_op (v := Value.int .i64 a4) rfl rfl rfl ?_
  refine g_d rfl ?_
  obtain ⟨r7, Hr7, H⟩ := bind_get H
  refine s_call (args := [v2, Value.agg ((encA (encI .i16)) a3).toArray, Value.int .i64 a4]) rfl rfl (x_call rfl (callFunc_enter Try.func37 rfl rfl) rfl) (impl_timeCode.calls (a1 := a1) (a3 := a3) (a4 := a4) (hs.rd hr0) Hr7) ?_
  rintro _ w ⟨rfl, hs2⟩
  have hs : St _ [_] _ := hs.call hs2
  refine g_d rfl ?_
  try dsimp only [set0,setS]
  refine g_op (v := Value.int .i64 r7) rfl rfl rfl ?_
  refine g_d rfl ?_
  try dsimp only [set0,setS]
  refine g_ops_nil ?_
  refine g_seq ?_
  refine g_region ?_
  show G _ _ _ (.inRegion _ [0, 1] :: _) _ _
  refine g_op (v := Value.int .i64 r7) rfl rfl rfl ?_
  refine g_d rfl ?_
  refine g_op_b (B := r7 != 0) rfl rfl rfl ?_ ?_
  ·
   intro hb
   rw [if_neg (b_bne_t hb)] at H
   refine g_d rfl ?_
   try dsimp only [set0,setS]
   refine g_ops_nil ?_
   refine g_cond_true rfl ?_
   refine g_seq ?_
   refine g_region ?_
   show G _ _ _ (.inRegion _ [0, 1, 2] :: _) _ _
   refine g_op (v := Value.int .i64 r7) rfl rfl rfl ?_
   refine g_d rfl ?_
   refine g_op (v := Value.slice none 0 0) rfl rfl rfl ?_
   refine g_d rfl ?_
   try dsimp only [set0,setS]
   refine g_op (v := Value.int .i64 r7) rfl rfl rfl ?_
   refine g_d rfl ?_
   try dsimp only [set0,setS]
   refine g_ops_nil ?_
   obtain rfl := Option.some.inj H
   refine g_ret Try.func30 (v := Value.tuple #[Value.slice none 0 0, Value.int .i64 r7]) (resN (l := Try.f30.results.toList) (vs := [Value.slice none 0 0, Value.int .i64 r7]) rfl ⟨rfl, rfl, trivial⟩ (by simp)) ?_
   have hs := hs.nil 5 (K.int .u8)
   have hs := hs.pull 0 rfl
   have hs : St _ [_] _ := St.take (Γ' := [_]) hs
   exact ⟨_, rfl, (Value.slice none 0 0), rfl, hs⟩
  ·
   intro hb
   rw [if_pos (b_bne_f hb)] at H
   refine g_d rfl ?_
   try dsimp only [set0,setS]
   refine g_ops_nil ?_
   refine g_cond_false rfl ?_
   refine g_skip ?_
   refine g_seq ?_
   refine g_region ?_
   show G _ _ _ (.inRegion _ [0, 1, 2, 3] :: _) _ _
   refine s_loadA rfl rfl (es := ((encA (encI .i16)) a3)) rfl rfl (fun _ => rfl) (n := 4) (fun _ => rfl) ((fkA (n := 4) (he := (fkI .i16).len) (h1 := (fkI .i16).one)).len _) (cells_all (hs.cells 0 rfl)) ?_
   refine g_d rfl ?_
   try dsimp only [set0,setS]
   refine g_op (v := Value.agg (enc_S_impl_moment (⟨0, a3⟩ : S_impl_moment)).toArray) rfl rfl (x_buildS (cs := (enc_S_impl_moment (⟨0, a3⟩ : S_impl_moment))) (segs := [[Value.int .i64 0], [Value.int .i16 0, Value.int .i16 0, Value.int .i16 0, Value.int .i16 0]]) rfl rfl (fun _ => rfl) ⟨rfl, (fun _ => rfl), rfl, (fun _ => rfl), trivial⟩ (by simp only [List.map_cons, List.map_nil, List.forall_mem_cons, List.not_mem_nil, false_implies, implies_true, and_true]; exact ⟨⟨_, rfl, rfl⟩, ⟨_, rfl, (fkA (n := 4) (he := (fkI .i16).len) (h1 := (fkI .i16).one)).len _⟩⟩) (by first | rfl | (simp [ev, enc_S_impl_moment]; done) | (simp [ev, enc_S_impl_moment]; rfl))) ?_
   refine g_d rfl ?_
   try dsimp only [set0,setS]
   refine s_alloc hs rfl rfl (z := (Value.agg #[Value.int .i64 0, Value.int .i16 0, Value.int .i16 0, Value.int .i16 0, Value.int .i16 0])) (cs := (enc_S_impl_moment z_S_impl_moment)) rfl (fun _ => rfl) rfl ?_
   intro b8 w hs
   refine g_d rfl ?_
   try dsimp only [set0,setS]
   refine s_storeAll (n := 5) hs (fk_S_impl_moment.len _) rfl rfl (vs := (enc_S_impl_moment (⟨0, a3⟩ : S_impl_moment))) rfl rfl rfl (fun _ => rfl) (fk_S_impl_moment.len _) (fk_S_impl_moment.one _) ?_
   intro w hs
   refine g_n rfl ?_
   refine g_ops_nil ?_
   refine g_seq ?_
   refine g_name ?_
   intro T hT
   refine g_any (n := 11) rfl [0, 1, 2, 3, 4, 5, 6, 7, 8, 9, 10] [0, 1, 2, 3, 4, 5, 6, 7, 8, 9, 10] rfl rfl (Inv := fun D t w => ∃ v10 : Value, ∃ b12 : Nat, ∃ b14 : Nat, ∃ b16 : Nat, ∃ O : Nat → Value, t = (v2::Value.agg ((encA (encI .i16)) a3).toArray::Value.int .i64 a4::O 3::Value.pointer (some ⟨b5, 0, none⟩)::O 5::Value.slice none 0 0::Value.int .i64 0::Value.int .i64 r7::Value.pointer (some ⟨b8, 0, none⟩)::cnd (D 7) (Value.pointer (some ⟨b14, 0, none⟩)) (O 10)::cnd (D 8) (Value.pointer (some ⟨b16, 0, none⟩)) (O 11)::O 12::O 13::O 14::v2::Value.agg ((encA (encI .i16)) a3).toArray::Value.int .i64 a4::Value.int .i64 r7::Value.int .i64 r7::Value.bool false::O 21::Value.agg ((encA (encI .i16)) a3).toArray::Value.agg (enc_S_impl_moment (⟨0, a3⟩ : S_impl_moment)).toArray::cnd (D 0) (Value.agg (enc_S_impl_moment (⟨0, a3⟩ : S_impl_moment)).toArray) (O 24)::cnd (D 1) (Value.agg (enc_S_impl_step (⟨(⟨0, a3⟩ : S_impl_moment), (-1), 0⟩ : S_impl_step)).toArray) (O 25)::cnd (D 2) v10 (O 26)::cnd (D 3) (Value.map (some b12)) (O 27)::cnd (D 4) (Value.agg (enc_S_impl_moment (⟨0, a3⟩ : S_impl_moment)).toArray) (O 28)::cnd (D 6) (Value.map (some b12)) (O 29)::O 30::O 31::O 32::O 33::O 34::O 35::O 36::O 37::O 38::O 39::O 40::O 41::O 42::O 43::O 44::O 45::O 46::O 47::O 48::O 49::O 50::O 51::O 52::O 53::O 54::O 55::O 56::O 57::O 58::O 59::O 60::O 61::O 62::O 63::O 64::O 65::O 66::O 67::O 68::O 69::O 70::O 71::O 72::O 73::O 74::O 75::O 76::O 77::[]) ∧ St w0 [Asc (D 2) (Row 82 k_S_impl_step v10 ([(⟨(⟨0, a3⟩ : S_impl_moment), (-1), 0⟩ : S_impl_step)])), Asc (D 3) (MapAs b12 ek_S_impl_moment Value.bool (cnd (D 5) (mSet ([] : (List (S_impl_moment × Bool))) (⟨0, a3⟩ : S_impl_moment) true) ([] : (List (S_impl_moment × Bool))))), Asc (D 7) (Cells b14 (cnd (D 9) ([v10]) ([Value.slice none 0 0])) 83), Asc (D 8) (Cells b16 (cnd (D 10) ([Value.map (some b12)]) ([Value.map none])) 84), Cells b8 (enc_S_impl_moment (⟨0, a3⟩ : S_impl_moment)) 73, Cells b5 ((encA (encI .i16)) a3) 29] w) ?_ ⟨⟨⟨⟨⟨⟨⟨⟨⟨⟨⟨trivial, ?_⟩, ?_⟩, ?_⟩, ?_⟩, ?_⟩, ?_⟩, ?_⟩, ?_⟩, ?_⟩, ?_⟩, ?_⟩ ?_
   ·
    intro w hh hbw
    have hs := hs.samew hh hbw
    have hs := hs.emp
    have hs := hs.emp
    have hs := hs.emp
    have hs := hs.emp
    exact ⟨undef, 0, 0, 0, fun i => T.getD i undef, (by subst hT; rfl), hs⟩
   ·
    intro D t w hD hp hcl hI rest hk
    obtain ⟨v10, b12, b14, b16, O, ht, hs⟩ := hI
    have q1_ : D 1 = false := not_yet (hcl.get 1 (by decide)) 0 0 rfl hD
    have q2_ : D 2 = false := not_yet (hcl.get 2 (by decide)) 0 1 rfl q1_
    have q9_ : D 9 = false := not_yet (hcl.get 9 (by decide)) 1 2 rfl q2_
    have q10_ : D 10 = false := not_yet (hcl.get 10 (by decide)) 2 9 rfl q9_
    simp only [hD, q1_, q2_, q9_, q10_, cnd_t, cnd_f, Asc_t, Asc_f] at ht hs
    subst ht
    refine s_loadA rfl rfl (es := (enc_S_impl_moment (⟨0, a3⟩ : S_impl_moment))) rfl rfl (fun _ => rfl) (n := 5) (fun _ => rfl) (fk_S_impl_moment.len _) (cells_all (hs.cells 4 rfl)) ?_
    refine g_d rfl ?_
    try dsimp only [set0,setS]
    exact hk _ _ ⟨v10, b12, b14, b16, O, (by simp only [upd, Nat.reduceBEq, Bool.true_or, Bool.false_or, q1_, q2_, q9_, q10_, cnd_t, cnd_f, Asc_t, Asc_f]), hs.cast (by first | rfl | simp only [List.take, List.drop, List.cons_append, List.nil_append, List.set_cons_zero, List.set_cons_succ, List.eraseIdx, upd, Nat.reduceBEq, Bool.true_or, Bool.false_or, q1_, q2_, q9_, q10_, cnd_t, cnd_f, Asc_t, Asc_f])⟩
   ·
    intro D t w hD hp hcl hI rest hk
    obtain ⟨v10, b12, b14, b16, O, ht, hs⟩ := hI
    obtain ⟨p0_, _⟩ := hp
    have q2_ : D 2 = false := not_yet (hcl.get 2 (by decide)) 0 1 rfl hD
    have q9_ : D 9 = false := not_yet (hcl.get 9 (by decide)) 1 2 rfl q2_
    have q10_ : D 10 = false := not_yet (hcl.get 10 (by decide)) 2 9 rfl q9_
    simp only [hD, p0_, q2_, q9_, q10_, cnd_t, cnd_f, Asc_t, Asc_f] at ht hs
    subst ht
    refine g_op (v := Value.agg (enc_S_impl_step (⟨(⟨0, a3⟩ : S_impl_moment), (-1), 0⟩ : S_impl_step)).toArray) rfl rfl (x_buildS (cs := (enc_S_impl_step (⟨(⟨0, a3⟩ : S_impl_moment), (-1), 0⟩ : S_impl_step))) (segs := [[Value.int .i64 0, Value.int .i16 0, Value.int .i16 0, Value.int .i16 0, Value.int .i16 0], [Value.int .i64 0], [Value.int .u8 0]]) rfl rfl (fun _ => rfl) ⟨rfl, (fun _ => rfl), rfl, (fun _ => rfl), rfl, (fun _ => rfl), trivial⟩ (by simp only [List.map_cons, List.map_nil, List.forall_mem_cons, List.not_mem_nil, false_implies, implies_true, and_true]; exact ⟨⟨_, rfl, fk_S_impl_moment.len _⟩, ⟨_, rfl, rfl⟩, ⟨_, rfl, rfl⟩⟩) (by first | rfl | (simp [ev, enc_S_impl_step]; done) | (simp [ev, enc_S_impl_step]; rfl))) ?_
    refine g_d rfl ?_
    try dsimp only [set0,setS]
    exact hk _ _ ⟨v10, b12, b14, b16, O, (by simp only [upd, Nat.reduceBEq, Bool.true_or, Bool.false_or, p0_, q2_, q9_, q10_, cnd_t, cnd_f, Asc_t, Asc_f]), hs.cast (by first | rfl | simp only [List.take, List.drop, List.cons_append, List.nil_append, List.set_cons_zero, List.set_cons_succ, List.eraseIdx, upd, Nat.reduceBEq, Bool.true_or, Bool.false_or, p0_, q2_, q9_, q10_, cnd_t, cnd_f, Asc_t, Asc_f])⟩
   ·
    intro D t w hD hp hcl hI rest hk
    obtain ⟨v10, b12, b14, b16, O, ht, hs⟩ := hI
    obtain ⟨p1_, _⟩ := hp
    obtain ⟨p0_, _⟩ := (hcl.get 1 (by decide)) p1_
    have q9_ : D 9 = false := not_yet (hcl.get 9 (by decide)) 1 2 rfl hD
    have q10_ : D 10 = false := not_yet (hcl.get 10 (by decide)) 2 9 rfl q9_
    simp only [hD, p0_, p1_, q9_, q10_, cnd_t, cnd_f, Asc_t, Asc_f] at ht hs
    subst ht
    refine s_lit1 fk_S_impl_step (y := (⟨(⟨0, a3⟩ : S_impl_moment), (-1), 0⟩ : S_impl_step)) hs rfl rfl rfl rfl (fun _ => rfl) (zv := (Value.agg #[Value.int .i64 0, Value.int .i16 0, Value.int .i16 0, Value.int .i16 0, Value.int .i16 0, Value.int .i64 0, Value.int .u8 0])) (fun _ => rfl) rfl (by decide) (by decide) rfl ?_
    intro v10 w hs
    refine g_d rfl ?_
    try dsimp only [set0,setS]
    have hs := hs.fill 0 rfl
    exact hk _ _ ⟨v10, b12, b14, b16, O, (by simp only [upd, Nat.reduceBEq, Bool.true_or, Bool.false_or, p0_, p1_, q9_, q10_, cnd_t, cnd_f, Asc_t, Asc_f]), hs.cast (by first | rfl | simp only [List.take, List.drop, List.cons_append, List.nil_append, List.set_cons_zero, List.set_cons_succ, List.eraseIdx, upd, Nat.reduceBEq, Bool.true_or, Bool.false_or, p0_, p1_, q9_, q10_, cnd_t, cnd_f, Asc_t, Asc_f])⟩
   ·
    intro D t w hD hp hcl hI rest hk
    obtain ⟨v10, b12, b14, b16, O, ht, hs⟩ := hI
    have q5_ : D 5 = false := not_yet (hcl.get 5 (by decide)) 0 3 rfl hD
    have q6_ : D 6 = false := not_yet (hcl.get 6 (by decide)) 0 3 rfl hD
    have q10_ : D 10 = false := not_yet (hcl.get 10 (by decide)) 1 6 rfl q6_
    simp only [hD, q5_, q6_, q10_, cnd_t, cnd_f, Asc_t, Asc_f] at ht hs
    subst ht
    refine s_makeMap (ek := ek_S_impl_moment) (en := Value.bool) hs rfl rfl rfl ?_
    intro b12 w hs
    refine g_d rfl ?_
    try dsimp only [set0,setS]
    have hs := hs.fill 1 rfl
    exact hk _ _ ⟨v10, b12, b14, b16, O, (by simp only [upd, Nat.reduceBEq, Bool.true_or, Bool.false_or, q5_, q6_, q10_, cnd_t, cnd_f, Asc_t, Asc_f]), hs.cast (by first | rfl | simp only [List.take, List.drop, List.cons_append, List.nil_append, List.set_cons_zero, List.set_cons_succ, List.eraseIdx, upd, Nat.reduceBEq, Bool.true_or, Bool.false_or, q5_, q6_, q10_, cnd_t, cnd_f, Asc_t, Asc_f])⟩
   ·
    intro D t w hD hp hcl hI rest hk
    obtain ⟨v10, b12, b14, b16, O, ht, hs⟩ := hI
    have q5_ : D 5 = false := not_yet (hcl.get 5 (by decide)) 1 4 rfl hD
    have q6_ : D 6 = false := not_yet (hcl.get 6 (by decide)) 1 4 rfl hD
    have q10_ : D 10 = false := not_yet (hcl.get 10 (by decide)) 1 6 rfl q6_
    simp only [hD, q5_, q6_, q10_, cnd_t, cnd_f, Asc_t, Asc_f] at ht hs
    subst ht
    refine s_loadA rfl rfl (es := (enc_S_impl_moment (⟨0, a3⟩ : S_impl_moment))) rfl rfl (fun _ => rfl) (n := 5) (fun _ => rfl) (fk_S_impl_moment.len _) (cells_all (hs.cells 4 rfl)) ?_
    refine g_d rfl ?_
    try dsimp only [set0,setS]
    exact hk _ _ ⟨v10, b12, b14, b16, O, (by simp only [upd, Nat.reduceBEq, Bool.true_or, Bool.false_or, q5_, q6_, q10_, cnd_t, cnd_f, Asc_t, Asc_f]), hs.cast (by first | rfl | simp only [List.take, List.drop, List.cons_append, List.nil_append, List.set_cons_zero, List.set_cons_succ, List.eraseIdx, upd, Nat.reduceBEq, Bool.true_or, Bool.false_or, q5_, q6_, q10_, cnd_t, cnd_f, Asc_t, Asc_f])⟩
   ·
    intro D t w hD hp hcl hI rest hk
    obtain ⟨v10, b12, b14, b16, O, ht, hs⟩ := hI
    obtain ⟨p3_, p4_, _⟩ := hp
    have q6_ : D 6 = false := not_yet (hcl.get 6 (by decide)) 2 5 rfl hD
    have q10_ : D 10 = false := not_yet (hcl.get 10 (by decide)) 1 6 rfl q6_
    simp only [hD, p3_, p4_, q6_, q10_, cnd_t, cnd_f, Asc_t, Asc_f] at ht hs
    subst ht
    have hs := hs.pull 1 rfl
    have hs : St _ [_,_,_,_,_,_] _ := hs
    refine s_mapSet key_S_impl_moment_73 (a := (⟨0, a3⟩ : S_impl_moment)) (v := true) hs rfl rfl (.inr rfl) Try.underlying84 rfl rfl rfl ?_
    intro w hs
    refine g_n rfl ?_
    try dsimp only [set0,setS]
    have hs := hs.push 1 (by simp)
    exact hk _ _ ⟨v10, b12, b14, b16, O, (by simp only [upd, Nat.reduceBEq, Bool.true_or, Bool.false_or, p3_, p4_, q6_, q10_, cnd_t, cnd_f, Asc_t, Asc_f]), hs.cast (by first | rfl | simp only [List.take, List.drop, List.cons_append, List.nil_append, List.set_cons_zero, List.set_cons_succ, List.eraseIdx, upd, Nat.reduceBEq, Bool.true_or, Bool.false_or, p3_, p4_, q6_, q10_, cnd_t, cnd_f, Asc_t, Asc_f])⟩
   ·
    intro D t w hD hp hcl hI rest hk
    obtain ⟨v10, b12, b14, b16, O, ht, hs⟩ := hI
    obtain ⟨p3_, p4_, p5_, _⟩ := hp
    have q10_ : D 10 = false := not_yet (hcl.get 10 (by decide)) 1 6 rfl hD
    simp only [hD, p3_, p4_, p5_, q10_, cnd_t, cnd_f, Asc_t, Asc_f] at ht hs
    subst ht
    refine g_op (v := Value.map (some b12)) rfl rfl rfl ?_
    refine g_d rfl ?_
    try dsimp only [set0,setS]
    exact hk _ _ ⟨v10, b12, b14, b16, O, (by simp only [upd, Nat.reduceBEq, Bool.true_or, Bool.false_or, p3_, p4_, p5_, q10_, cnd_t, cnd_f, Asc_t, Asc_f]), hs.cast (by first | rfl | simp only [List.take, List.drop, List.cons_append, List.nil_append, List.set_cons_zero, List.set_cons_succ, List.eraseIdx, upd, Nat.reduceBEq, Bool.true_or, Bool.false_or, p3_, p4_, p5_, q10_, cnd_t, cnd_f, Asc_t, Asc_f])⟩
   ·
    intro D t w hD hp hcl hI rest hk
    obtain ⟨v10, b12, b14, b16, O, ht, hs⟩ := hI
    have q9_ : D 9 = false := not_yet (hcl.get 9 (by decide)) 0 7 rfl hD
    have q10_ : D 10 = false := not_yet (hcl.get 10 (by decide)) 2 9 rfl q9_
    simp only [hD, q9_, q10_, cnd_t, cnd_f, Asc_t, Asc_f] at ht hs
    subst ht
    refine s_alloc hs rfl rfl (z := (Value.slice none 0 0)) (cs := [Value.slice none 0 0]) rfl (fun _ => rfl) rfl ?_
    intro b14 w hs
    refine g_d rfl ?_
    try dsimp only [set0,setS]
    have hs := hs.fill 2 rfl
    exact hk _ _ ⟨v10, b12, b14, b16, O, (by simp only [upd, Nat.reduceBEq, Bool.true_or, Bool.false_or, q9_, q10_, cnd_t, cnd_f, Asc_t, Asc_f]), hs.cast (by first | rfl | simp only [List.take, List.drop, List.cons_append, List.nil_append, List.set_cons_zero, List.set_cons_succ, List.eraseIdx, upd, Nat.reduceBEq, Bool.true_or, Bool.false_or, q9_, q10_, cnd_t, cnd_f, Asc_t, Asc_f])⟩
   ·
    intro D t w hD hp hcl hI rest hk
    obtain ⟨v10, b12, b14, b16, O, ht, hs⟩ := hI
    have q9_ : D 9 = false := not_yet (hcl.get 9 (by decide)) 6 8 rfl hD
    have q10_ : D 10 = false := not_yet (hcl.get 10 (by decide)) 0 8 rfl hD
    simp only [hD, q9_, q10_, cnd_t, cnd_f, Asc_t, Asc_f] at ht hs
    subst ht
    refine s_alloc hs rfl rfl (z := (Value.map none)) (cs := [Value.map none]) rfl (fun _ => rfl) rfl ?_
    intro b16 w hs
    refine g_d rfl ?_
    try dsimp only [set0,setS]
    have hs := hs.fill 3 rfl
    exact hk _ _ ⟨v10, b12, b14, b16, O, (by simp only [upd, Nat.reduceBEq, Bool.true_or, Bool.false_or, q9_, q10_, cnd_t, cnd_f, Asc_t, Asc_f]), hs.cast (by first | rfl | simp only [List.take, List.drop, List.cons_append, List.nil_append, List.set_cons_zero, List.set_cons_succ, List.eraseIdx, upd, Nat.reduceBEq, Bool.true_or, Bool.false_or, q9_, q10_, cnd_t, cnd_f, Asc_t, Asc_f])⟩
   ·
    intro D t w hD hp hcl hI rest hk
    obtain ⟨v10, b12, b14, b16, O, ht, hs⟩ := hI
    obtain ⟨p7_, p2_, p0_, p1_, _, _, p8_, _⟩ := hp
    have q10_ : D 10 = false := not_yet (hcl.get 10 (by decide)) 2 9 rfl hD
    simp only [hD, p0_, p1_, p2_, p7_, p8_, q10_, cnd_t, cnd_f, Asc_t, Asc_f] at ht hs
    subst ht
    have hs := hs.pull 2 rfl
    have hs : St _ [_,_,_,_,_,_] _ := hs
    refine s_storeAll (n := 1) hs rfl rfl rfl (vs := [v10]) rfl rfl (slCells (hs.row 1 rfl)) (fun _ => rfl) rfl (by intro v hv; simp only [List.mem_cons, List.not_mem_nil, or_false] at hv; subst hv; exact slOne (hs.row 1 rfl)) ?_
    intro w hs
    refine g_n rfl ?_
    try dsimp only [set0,setS]
    have hs := hs.push 2 (by simp)
    exact hk _ _ ⟨v10, b12, b14, b16, O, (by simp only [upd, Nat.reduceBEq, Bool.true_or, Bool.false_or, p0_, p1_, p2_, p7_, p8_, q10_, cnd_t, cnd_f, Asc_t, Asc_f]), hs.cast (by first | rfl | simp only [List.take, List.drop, List.cons_append, List.nil_append, List.set_cons_zero, List.set_cons_succ, List.eraseIdx, upd, Nat.reduceBEq, Bool.true_or, Bool.false_or, p0_, p1_, p2_, p7_, p8_, q10_, cnd_t, cnd_f, Asc_t, Asc_f])⟩
   ·
    intro D t w hD hp hcl hI rest hk
    obtain ⟨v10, b12, b14, b16, O, ht, hs⟩ := hI
    obtain ⟨p8_, p6_, p9_, p0_, p1_, p2_, p3_, p4_, p5_, _, p7_, _, _, _⟩ := hp
    simp only [hD, p0_, p1_, p2_, p3_, p4_, p5_, p6_, p7_, p8_, p9_, cnd_t, cnd_f, Asc_t, Asc_f] at ht hs
    subst ht
    have hs := hs.pull 3 rfl
    have hs : St _ [_,_,_,_,_,_] _ := hs
    refine s_storeAll (n := 1) hs rfl rfl rfl (vs := [Value.map (some b12)]) rfl rfl rfl (fun _ => rfl) rfl (by simp [Value.oneCell']) ?_
    intro w hs
    refine g_n rfl ?_
    try dsimp only [set0,setS]
    have hs := hs.push 3 (by simp)
    exact hk _ _ ⟨v10, b12, b14, b16, O, (by simp only [upd, Nat.reduceBEq, Bool.true_or, Bool.false_or, p0_, p1_, p2_, p3_, p4_, p5_, p6_, p7_, p8_, p9_, cnd_t, cnd_f, Asc_t, Asc_f]), hs.cast (by first | rfl | simp only [List.take, List.drop, List.cons_append, List.nil_append, List.set_cons_zero, List.set_cons_succ, List.eraseIdx, upd, Nat.reduceBEq, Bool.true_or, Bool.false_or, p0_, p1_, p2_, p3_, p4_, p5_, p6_, p7_, p8_, p9_, cnd_t, cnd_f, Asc_t, Asc_f])⟩
   ·
    intro D t w hall hI
    obtain ⟨v10, b12, b14, b16, O, ht, hs⟩ := hI
    have p0_ : D 0 = true := hall 0 (by decide)
    have p1_ : D 1 = true := hall 1 (by decide)
    have p2_ : D 2 = true := hall 2 (by decide)
    have p3_ : D 3 = true := hall 3 (by decide)
    have p4_ : D 4 = true := hall 4 (by decide)
    have p5_ : D 5 = true := hall 5 (by decide)
    have p6_ : D 6 = true := hall 6 (by decide)
    have p7_ : D 7 = true := hall 7 (by decide)
    have p8_ : D 8 = true := hall 8 (by decide)
    have p9_ : D 9 = true := hall 9 (by decide)
    have p10_ : D 10 = true := hall 10 (by decide)
    simp only [p0_, p1_, p2_, p3_, p4_, p5_, p6_, p7_, p8_, p9_, p10_, cnd_t, cnd_f, Asc_t, Asc_f] at ht hs
    subst ht
    refine g_seq ?_
    refine g_seq ?_
    refine g_region ?_
    show G _ _ _ (.inRegion _ [0, 1] :: _) _ _
    refine s_alloc hs rfl rfl (z := (Value.int .i64 0)) (cs := ((encI .i64) 0)) rfl (fun _ => rfl) rfl ?_
    intro b22 w hs
    refine g_d rfl ?_
    try dsimp only [set0,setS]
    refine s_storeAll (n := 1) hs ((fkI .i64).len _) rfl rfl (vs := ((encI .i64) 0)) rfl rfl rfl (fun _ => rfl) ((fkI .i64).len _) ((fkI .i64).one _) ?_
    intro w hs
    refine g_n rfl ?_
    refine g_ops_nil ?_
    obtain ⟨o1_, Ho, Hr1_⟩ := bind_get H
    refine g_block_join (J := fun t w => impl_PlanFrom.a0 N = some r ∧ Fr t (fun O => (O 0::O 1::O 2::O 3::O 4::O 5::O 6::O 7::O 8::O 9::O 10::O 11::O 12::O 13::O 14::O 15::O 16::O 17::O 18::O 19::O 20::O 21::O 22::O 23::O 24::O 25::O 26::O 27::O 28::O 29::O 30::O 31::O 32::O 33::O 34::O 35::O 36::O 37::O 38::O 39::O 40::O 41::O 42::O 43::O 44::O 45::O 46::O 47::O 48::O 49::O 50::O 51::O 52::O 53::O 54::O 55::O 56::O 57::O 58::O 59::O 60::O 61::O 62::O 63::O 64::O 65::O 66::O 67::O 68::O 69::O 70::O 71::O 72::O 73::O 74::O 75::O 76::O 77::[] : List Value)) ∧ St w0 [] w) ?_ ?_
    ·
     rintro t w ⟨H, hf, hs⟩
     obtain ⟨O, rfl⟩ := hf.open
     try dsimp only
     unfold impl_PlanFrom.a0 at H
     refine g_seq ?_
     refine g_region ?_
     show G _ _ _ (.inRegion _ [0, 1] :: _) _ _
     refine g_op (v := Value.slice none 0 0) rfl rfl rfl ?_
     refine g_d rfl ?_
     try dsimp only [set0,setS]
     refine g_op (v := Value.int .i64 6) rfl rfl rfl ?_
     refine g_d rfl ?_
     try dsimp only [set0,setS]
     refine g_ops_nil ?_
     obtain rfl := Option.some.inj H
     refine g_ret Try.func30 (v := Value.tuple #[Value.slice none 0 0, Value.int .i64 6]) (resN (l := Try.f30.results.toList) (vs := [Value.slice none 0 0, Value.int .i64 6]) rfl ⟨rfl, rfl, trivial⟩ (by simp)) ?_
     have hs := hs.nil 5 (K.int .u8)
     have hs := hs.pull 0 rfl
     have hs : St _ [_] _ := St.take (Γ' := []) hs
     exact ⟨_, rfl, (Value.slice none 0 0), rfl, hs⟩
    ·
     intro ha1_
     have hs := hs.pull 0 rfl
     have hs := hs.pull 4 rfl
     have hs := hs.pull 3 rfl
     have hs := hs.pull 4 rfl
     have hs := hs.pull 4 rfl
     have hs : St _ [_,_,_,_,_] _ := St.take (Γ' := [_,_]) hs
     refine g_loop_fuel (I := fun n_ t w => ∃ v50 : Value, ∃ x51 : (List S_impl_step), ∃ x52 : (List (S_impl_moment × Bool)), ∃ b54 : Nat, ∃ x55 : Int, rounds (fun s => impl_PlanFrom.b0 N a4 a1 s.1 s.2.1 s.2.2) n_ (x51, x52, x55) = some o1_ ∧ Fr t (fun O => (v2::O 1::Value.int .i64 a4::O 3::O 4::O 5::O 6::O 7::O 8::O 9::Value.pointer (some ⟨b14, 0, none⟩)::Value.pointer (some ⟨b16, 0, none⟩)::Value.pointer (some ⟨b54, 0, none⟩)::O 13::O 14::O 15::O 16::O 17::O 18::O 19::O 20::O 21::O 22::O 23::O 24::O 25::O 26::O 27::O 28::O 29::O 30::O 31::O 32::O 33::O 34::O 35::O 36::O 37::O 38::O 39::O 40::O 41::O 42::O 43::O 44::O 45::O 46::O 47::O 48::O 49::O 50::O 51::O 52::O 53::O 54::O 55::O 56::O 57::O 58::O 59::O 60::O 61::O 62::O 63::O 64::O 65::O 66::O 67::O 68::O 69::O 70::O 71::O 72::O 73::O 74::O 75::O 76::O 77::[] : List Value)) ∧ St w0 [Row 82 k_S_impl_step v50 x51, Cells b14 ([v50]) 83, MapAs b12 ek_S_impl_moment Value.bool x52, Cells b16 ([Value.map (some b12)]) 84, Cells b54 ((encI .i64) x55) 3] w) N ⟨v10, [(⟨(⟨0, a3⟩ : S_impl_moment), (-1), 0⟩ : S_impl_step)], mSet ([] : (List (S_impl_moment × Bool))) (⟨0, a3⟩ : S_impl_moment) true, b22, 0, Ho, rfl, hs⟩ ?_ ?_
     ·
      rintro _ _ ⟨v50, x51, x52, b54, x55, h, _⟩
      exact rounds_zero h
     ·
      intro n_ ih1_
      rintro t w ⟨v50, x51, x52, b54, x55, Ho, hf, hs⟩
      obtain ⟨O, rfl⟩ := hf.open
      try dsimp only
      obtain ⟨x13_, H, Hx1_⟩ := rounds_succ Ho
      have H : impl_PlanFrom.b0 N a4 a1 x51 x52 x55 = some x13_ := H
      unfold impl_PlanFrom.b0 at H
      refine g_seq ?_
      refine g_seq ?_
      refine g_region ?_
      show G _ _ _ (.inRegion _ [0, 1, 2, 3] :: _) _ _
      refine s_load1 rfl rfl (v := Value.int .i64 x55) rfl rfl (fun _ => rfl) (cells_load (hs.cells 4 rfl) 0 1 rfl) ?_
      refine g_d rfl ?_
      try dsimp only [set0,setS]
      refine s_load1 rfl rfl (v := v50) rfl rfl (fun _ => rfl) (cells_load (hs.cells 1 rfl) 0 1 rfl) ?_
      refine g_d rfl ?_
      try dsimp only [set0,setS]
      refine s_len (hs.row 0 rfl) rfl rfl rfl rfl rfl ?_
      refine g_d rfl ?_
      try dsimp only [set0,setS]
      refine g_op_b (B := decide (x55 < (x51.length : Int))) rfl rfl rfl ?_ ?_
      ·
       intro hb
       rw [if_pos (b_dec_t hb)] at H
       refine g_d rfl ?_
       try dsimp only [set0,setS]
       refine g_ops_nil ?_
       refine g_cond_true rfl ?_
       refine g_skip ?_
       refine g_seq ?_
       refine g_block ?_
       refine g_seq ?_
       refine g_seq ?_
       refine g_region ?_
       show G _ _ _ (.inRegion _ [0, 1, 2, 3, 4, 5, 6, 7] :: _) _ _
       refine s_load1 rfl rfl (v := v50) rfl rfl (fun _ => rfl) (cells_load (hs.cells 1 rfl) 0 1 rfl) ?_
       refine g_d rfl ?_
       try dsimp only [set0,setS]
       refine s_load1 rfl rfl (v := Value.int .i64 x55) rfl rfl (fun _ => rfl) (cells_load (hs.cells 4 rfl) 0 1 rfl) ?_
       refine g_d rfl ?_
       try dsimp only [set0,setS]
       obtain ⟨g7, H⟩ := ite_get H
       refine s_idx fk_S_impl_step z_S_impl_step (hs.row 0 rfl) rfl (fun _ => rfl) g7.1 g7.2 rfl rfl rfl rfl rfl ?_
       intro p56 hp56 lp56 op56
       refine g_d rfl ?_
       try dsimp only [set0,setS]
       refine g_op (v := Value.pointer (some (p56.add 0))) rfl rfl (x_fieldAt rfl rfl rfl rfl rfl (m := 5) (fun _ => rfl) (by decide)) ?_
       refine g_d rfl ?_
       refine g_op (v := Value.pointer (some ((p56.add 0).add 0))) rfl rfl (x_fieldAt rfl rfl rfl rfl rfl (m := 1) (fun _ => rfl) (by decide)) ?_
       refine g_d rfl ?_
       refine s_load1 rfl rfl (v := Value.int .i64 (((rdL x51 x55 z_S_impl_step).f_moment).f_time)) rfl rfl (fun _ => rfl) (CellsAt.sub (CellsAt.sub hp56 0 5 (by first | rfl | (simp [enc_S_impl_step, len_S_impl_moment, List.drop_append, List.take_append, encAI_len, encAB_len, encA_len, List.take_of_length_le, List.drop_eq_nil_of_le]))) 0 1 (by first | rfl | (simp [enc_S_impl_moment, List.drop_append, List.take_append, encAI_len, encAB_len, encA_len, List.take_of_length_le, List.drop_eq_nil_of_le]))) ?_
       refine g_d rfl ?_
       try dsimp only [set0,setS]
       refine g_op (v := Value.int .i64 a4) rfl rfl rfl ?_
       refine g_d rfl ?_
       refine g_op_b (B := (((rdL x51 x55 z_S_impl_step).f_moment).f_time) == a4) rfl rfl rfl ?_ ?_
       ·
        intro hb
        rw [if_pos (b_beq_t hb)] at H
        refine g_d rfl ?_
        try dsimp only [set0,setS]
        refine g_ops_nil ?_
        refine g_cond_true rfl ?_
        refine g_seq ?_
        refine g_region ?_
        show G _ _ _ (.inRegion _ [0, 1] :: _) _ _
        refine s_lit0 (κ := (K.int .u8)) hs rfl rfl rfl rfl (fun _ => rfl) ?_
        intro v57 w hs
        refine g_d rfl ?_
        try dsimp only [set0,setS]
        refine g_op (v := v57) rfl rfl rfl ?_
        refine g_d rfl ?_
        try dsimp only [set0,setS]
        refine g_ops_nil ?_
        refine g_seq ?_
        refine g_seq ?_
        refine g_region ?_
        show G _ _ _ (.inRegion _ [0, 1] :: _) _ _
        refine s_load1 rfl rfl (v := Value.int .i64 x55) rfl rfl (fun _ => rfl) (cells_load (hs.cells 5 rfl) 0 1 rfl) ?_
        refine g_d rfl ?_
        try dsimp only [set0,setS]
        refine g_op (v := Value.int .i64 x55) rfl rfl rfl ?_
        refine g_d rfl ?_
        try dsimp only [set0,setS]
        refine g_ops_nil ?_
        obtain ⟨o2_, Ho, Hr2_⟩ := bind_get H
        refine g_block_join (J := fun t w => ∃ v70 : Value, ∃ x71 : (List Int), impl_PlanFrom.a2 N x71 = some x13_ ∧ Fr t (fun O => (O 0::O 1::O 2::O 3::O 4::O 5::O 6::O 7::O 8::O 9::O 10::O 11::O 12::v70::O 14::O 15::O 16::O 17::O 18::O 19::O 20::O 21::O 22::O 23::O 24::O 25::O 26::O 27::O 28::O 29::O 30::O 31::O 32::O 33::O 34::O 35::O 36::O 37::O 38::O 39::O 40::O 41::O 42::O 43::O 44::O 45::O 46::O 47::O 48::O 49::O 50::O 51::O 52::O 53::O 54::O 55::O 56::O 57::O 58::O 59::O 60::O 61::O 62::O 63::O 64::O 65::O 66::O 67::O 68::O 69::O 70::O 71::O 72::O 73::O 74::O 75::O 76::O 77::[] : List Value)) ∧ St w0 [Row 5 (K.int .u8) v70 x71] w) ?_ ?_
        ·
         rintro t w ⟨v70, x71, H, hf, hs⟩
         obtain ⟨O, rfl⟩ := hf.open
         try dsimp only
         unfold impl_PlanFrom.a2 at H
         refine g_seq ?_
         refine g_region ?_
         show G _ _ _ (.inRegion _ [0, 1] :: _) _ _
         refine g_op (v := v70) rfl rfl rfl ?_
         refine g_d rfl ?_
         obtain ⟨r73, Hr73, H⟩ := bind_get H
         have hs := hs.pull 0 rfl
         have hs : St _ [_] _ := hs
         have hs := hs.pack 1
         refine s_call (args := [v70]) rfl rfl (x_call rfl (callFunc_enter Try.func57 rfl rfl) rfl) (slices_Reverse_uint8_uint8.calls (a1 := x71) hs Hr73) ?_
         rintro _ w ⟨rfl, hs⟩
         have hs := St.unpack (Γ := [_]) hs
         have hs : St _ [_] _ := hs
         refine g_d rfl ?_
         try dsimp only [set0,setS]
         refine g_ops_nil ?_
         refine g_seq ?_
         refine g_region ?_
         show G _ _ _ (.inRegion _ [0, 1, 2] :: _) _ _
         refine g_op (v := v70) rfl rfl rfl ?_
         refine g_d rfl ?_
         refine g_op (v := v70) rfl rfl rfl ?_
         refine g_d rfl ?_
         try dsimp only [set0,setS]
         refine g_op (v := Value.int .i64 0) rfl rfl rfl ?_
         refine g_d rfl ?_
         try dsimp only [set0,setS]
         refine g_ops_nil ?_
         obtain rfl := Option.some.inj H
         subst Hx1_
         have H := Option.some.inj Hr1_
         subst H
         refine g_ret Try.func30 (v := Value.tuple #[v70, Value.int .i64 0]) (resN (l := Try.f30.results.toList) (vs := [v70, Value.int .i64 0]) rfl ⟨rfl, rfl, trivial⟩ (by simp)) ?_
         have hs := hs.pull 0 rfl
         have hs : St _ [_] _ := St.take (Γ' := []) hs
         exact ⟨_, rfl, v70, rfl, hs⟩
        ·
         intro ha2_
         have hs := hs.pull 0 rfl
         have hs := hs.pull 2 rfl
         have hs := hs.pull 2 rfl
         have hs : St _ [_,_,_] _ := St.take (Γ' := [_,_,_]) hs
         refine g_loop_fuel (I := fun n_ t w => ∃ v60 : Value, ∃ x61 : (List Int), ∃ x62 : Int, rounds (fun s => impl_PlanFrom.b2 N x51 s.1 s.2) n_ (x61, x62) = some o2_ ∧ Fr t (fun O => (O 0::O 1::O 2::O 3::O 4::O 5::O 6::O 7::O 8::O 9::Value.pointer (some ⟨b14, 0, none⟩)::O 11::O 12::v60::Value.int .i64 x62::O 15::O 16::O 17::O 18::O 19::O 20::O 21::O 22::O 23::O 24::O 25::O 26::O 27::O 28::O 29::O 30::O 31::O 32::O 33::O 34::O 35::O 36::O 37::O 38::O 39::O 40::O 41::O 42::O 43::O 44::O 45::O 46::O 47::O 48::O 49::O 50::O 51::O 52::O 53::O 54::O 55::O 56::O 57::O 58::O 59::O 60::O 61::O 62::O 63::O 64::O 65::O 66::O 67::O 68::O 69::O 70::O 71::O 72::O 73::O 74::O 75::O 76::O 77::[] : List Value)) ∧ St w0 [Row 82 k_S_impl_step v50 x51, Cells b14 ([v50]) 83, Row 5 (K.int .u8) v60 x61] w) N ⟨v57, ([] : List Int), x55, Ho, rfl, hs⟩ ?_ ?_
         ·
          rintro _ _ ⟨v60, x61, x62, h, _⟩
          exact rounds_zero h
         ·
          intro n_ ih2_
          rintro t w ⟨v60, x61, x62, Ho, hf, hs⟩
          obtain ⟨O, rfl⟩ := hf.open
          try dsimp only
          obtain ⟨x11_, H, Hx2_⟩ := rounds_succ Ho
          have H : impl_PlanFrom.b2 N x51 x61 x62 = some x11_ := H
          unfold impl_PlanFrom.b2 at H
          refine g_seq ?_
          refine g_seq ?_
          refine g_region ?_
          show G _ _ _ (.inRegion _ [0, 1, 2, 3, 4, 5] :: _) _ _
          refine s_load1 rfl rfl (v := v50) rfl rfl (fun _ => rfl) (cells_load (hs.cells 1 rfl) 0 1 rfl) ?_
          refine g_d rfl ?_
          try dsimp only [set0,setS]
          refine g_op (v := Value.int .i64 x62) rfl rfl rfl ?_
          refine g_d rfl ?_
          obtain ⟨g8, H⟩ := ite_get H
          refine s_idx fk_S_impl_step z_S_impl_step (hs.row 0 rfl) rfl (fun _ => rfl) g8.1 g8.2 rfl rfl rfl rfl rfl ?_
          intro p63 hp63 lp63 op63
          refine g_d rfl ?_
          try dsimp only [set0,setS]
          refine g_op (v := Value.pointer (some (p63.add 5))) rfl rfl (x_fieldAt rfl rfl rfl rfl rfl (m := 1) (fun _ => rfl) (by decide)) ?_
          refine g_d rfl ?_
          refine s_load1 rfl rfl (v := Value.int .i64 ((rdL x51 x62 z_S_impl_step).f_before)) rfl rfl (fun _ => rfl) (CellsAt.sub hp63 5 1 (by first | rfl | (simp [enc_S_impl_step, len_S_impl_moment, List.drop_append, List.take_append, encAI_len, encAB_len, encA_len, List.take_of_length_le, List.drop_eq_nil_of_le]))) ?_
          refine g_d rfl ?_
          try dsimp only [set0,setS]
          refine g_op_b (B := decide (((rdL x51 x62 z_S_impl_step).f_before) ≥ 0)) rfl rfl rfl ?_ ?_
          ·
           intro hb
           rw [if_pos (b_dec_t hb)] at H
           refine g_d rfl ?_
           try dsimp only [set0,setS]
           refine g_ops_nil ?_
           refine g_cond_true rfl ?_
           refine g_skip ?_
           refine g_seq ?_
           refine g_block ?_
           refine g_region ?_
           show G _ _ _ (.inRegion _ [0, 1, 2, 3, 4, 5, 6, 7, 8] :: _) _ _
           refine g_op (v := v60) rfl rfl rfl ?_
           refine g_d rfl ?_
           refine s_load1 rfl rfl (v := v50) rfl rfl (fun _ => rfl) (cells_load (hs.cells 1 rfl) 0 1 rfl) ?_
           refine g_d rfl ?_
           try dsimp only [set0,setS]
           refine g_op (v := Value.int .i64 x62) rfl rfl rfl ?_
           refine g_d rfl ?_
           obtain ⟨g9, H⟩ := ite_get H
           refine s_idx fk_S_impl_step z_S_impl_step (hs.row 0 rfl) rfl (fun _ => rfl) g9.1 g9.2 rfl rfl rfl rfl rfl ?_
           intro p64 hp64 lp64 op64
           refine g_d rfl ?_
           try dsimp only [set0,setS]
           refine g_op (v := Value.pointer (some (p64.add 6))) rfl rfl (x_fieldAt rfl rfl rfl rfl rfl (m := 1) (fun _ => rfl) (by decide)) ?_
           refine g_d rfl ?_
           refine s_load1 rfl rfl (v := Value.int .u8 ((rdL x51 x62 z_S_impl_step).f_set)) rfl rfl (fun _ => rfl) (CellsAt.sub hp64 6 1 (by first | rfl | (simp [enc_S_impl_step, len_S_impl_moment, List.drop_append, List.take_append, encAI_len, encAB_len, encA_len, List.take_of_length_le, List.drop_eq_nil_of_le]))) ?_
           refine g_d rfl ?_
           try dsimp only [set0,setS]
           refine s_lit1 (fkI .u8) (y := (rdL x51 x62 z_S_impl_step).f_set) hs rfl rfl rfl rfl (fun _ => rfl) (zv := (Value.int .u8 0)) (fun _ => rfl) rfl (by decide) (by decide) rfl ?_
           intro v65 w hs
           refine g_d rfl ?_
           try dsimp only [set0,setS]
           have hs := hs.pull 3 rfl
           have hs : St _ [_,_,_,_] _ := hs
           obtain ⟨g, H⟩ := ite_get H
           refine s_append (fkI .u8) (zv := (Value.int .u8 0)) (B := 1) hs (hs.row 1 rfl) rfl rfl rfl rfl rfl rfl rfl rfl rfl (by decide) rfl rfl (by decide) (by omega) ?_
           intro v67 w hs
           refine g_d rfl ?_
           try dsimp only [set0,setS]
           refine g_op (v := v67) rfl rfl rfl ?_
           refine g_d rfl ?_
           try dsimp only [set0,setS]
           refine g_ops_nil ?_
           refine g_inBlock ?_
           refine g_region ?_
           show G _ _ _ (.inRegion _ [0, 1, 2, 3, 4, 5] :: _) _ _
           refine s_load1 rfl rfl (v := v50) rfl rfl (fun _ => rfl) (cells_load (hs.cells 3 rfl) 0 1 rfl) ?_
           refine g_d rfl ?_
           try dsimp only [set0,setS]
           refine g_op (v := Value.int .i64 x62) rfl rfl rfl ?_
           refine g_d rfl ?_
           obtain ⟨g10, H⟩ := ite_get H
           refine s_idx fk_S_impl_step z_S_impl_step (hs.row 2 rfl) rfl (fun _ => rfl) g10.1 g10.2 rfl rfl rfl rfl rfl ?_
           intro p69 hp69 lp69 op69
           refine g_d rfl ?_
           try dsimp only [set0,setS]
           refine g_op (v := Value.pointer (some (p69.add 5))) rfl rfl (x_fieldAt rfl rfl rfl rfl rfl (m := 1) (fun _ => rfl) (by decide)) ?_
           refine g_d rfl ?_
           refine s_load1 rfl rfl (v := Value.int .i64 ((rdL x51 x62 z_S_impl_step).f_before)) rfl rfl (fun _ => rfl) (CellsAt.sub hp69 5 1 (by first | rfl | (simp [enc_S_impl_step, len_S_impl_moment, List.drop_append, List.take_append, encAI_len, encAB_len, encA_len, List.take_of_length_le, List.drop_eq_nil_of_le]))) ?_
           refine g_d rfl ?_
           try dsimp only [set0,setS]
           refine g_op (v := Value.int .i64 ((rdL x51 x62 z_S_impl_step).f_before)) rfl rfl rfl ?_
           refine g_d rfl ?_
           try dsimp only [set0,setS]
           refine g_ops_nil ?_
           obtain rfl := Option.some.inj H
           have hs := hs.pull 0 rfl
           have hs := hs.pull 3 rfl
           have hs := hs.pull 3 rfl
           have hs : St _ [_,_,_] _ := St.take (Γ' := [_]) hs
           exact ih2_ _ _ ⟨v67, x61 ++ ([(rdL x51 x62 z_S_impl_step).f_set]), (rdL x51 x62 z_S_impl_step).f_before, Hx2_, rfl, hs⟩
          ·
           intro hb
           rw [if_neg (b_dec_f hb)] at H
           refine g_d rfl ?_
           try dsimp only [set0,setS]
           refine g_ops_nil ?_
           refine g_cond_false rfl ?_
           obtain rfl := Option.some.inj H
           subst Hx2_
           have hs := hs.pull 2 rfl
           have hs : St _ [_] _ := St.take (Γ' := [_,_]) hs
           refine g_exit rfl ?_
           exact ha2_ _ _ ⟨v60, x61, Hr2_, rfl, hs⟩
       ·
        intro hb
        rw [if_neg (b_beq_f hb)] at H
        refine g_d rfl ?_
        try dsimp only [set0,setS]
        refine g_ops_nil ?_
        refine g_cond_false rfl ?_
        refine g_skip ?_
        refine g_region ?_
        show G _ _ _ (.inRegion _ [0, 1, 2, 3, 4, 5, 6, 7, 8] :: _) _ _
        refine g_op (v := v2) rfl rfl rfl ?_
        refine g_d rfl ?_
        refine s_load1 rfl rfl (v := v50) rfl rfl (fun _ => rfl) (cells_load (hs.cells 1 rfl) 0 1 rfl) ?_
        refine g_d rfl ?_
        try dsimp only [set0,setS]
        refine s_load1 rfl rfl (v := Value.int .i64 x55) rfl rfl (fun _ => rfl) (cells_load (hs.cells 4 rfl) 0 1 rfl) ?_
        refine g_d rfl ?_
        try dsimp only [set0,setS]
        obtain ⟨g12, H⟩ := ite_get H
        refine s_idx fk_S_impl_step z_S_impl_step (hs.row 0 rfl) rfl (fun _ => rfl) g12.1 g12.2 rfl rfl rfl rfl rfl ?_
        intro p74 hp74 lp74 op74
        refine g_d rfl ?_
        try dsimp only [set0,setS]
        refine g_op (v := Value.pointer (some (p74.add 0))) rfl rfl (x_fieldAt rfl rfl rfl rfl rfl (m := 5) (fun _ => rfl) (by decide)) ?_
        refine g_d rfl ?_
        refine s_loadA rfl rfl (es := (enc_S_impl_moment ((rdL x51 x55 z_S_impl_step).f_moment))) rfl rfl (fun _ => rfl) (n := 5) (fun _ => rfl) (fk_S_impl_moment.len _) (CellsAt.sub hp74 0 5 (by first | rfl | (simp [enc_S_impl_step, len_S_impl_moment, List.drop_append, List.take_append, encAI_len, encAB_len, encA_len, List.take_of_length_le, List.drop_eq_nil_of_le]))) ?_
        refine g_d rfl ?_
        try dsimp only [set0,setS]
        refine g_op (v := Value.int .i64 a4) rfl rfl rfl ?_
        refine g_d rfl ?_
        refine g_op (v := Value.func (Fn.func 58) #[] #[Value.pointer (some ⟨b16, 0, none⟩), Value.pointer (some ⟨b14, 0, none⟩), Value.pointer (some ⟨b54, 0, none⟩)]) rfl rfl (x_mkfunc rfl rfl) ?_
        refine g_d rfl ?_
        try dsimp only [set0,setS]
        obtain ⟨r75, Hr75, H⟩ := bind_get H
        have hs := hs.pull 4 rfl
        have hs := hs.pull 2 rfl
        have hs := hs.pull 2 rfl
        have hs := hs.pull 4 rfl
        have hs := hs.pull 4 rfl
        have hs : St _ [_,_,_,_,_] _ := hs
        have hs := hs.pack 5
        refine s_call (args := [v2, Value.agg (enc_S_impl_moment ((rdL x51 x55 z_S_impl_step).f_moment)).toArray, Value.int .i64 a4, Value.func (Fn.func 58) #[] #[Value.pointer (some ⟨b16, 0, none⟩), Value.pointer (some ⟨b14, 0, none⟩), Value.pointer (some ⟨b54, 0, none⟩)]]) rfl rfl (x_call rfl (callFunc_enter Try.func55 rfl rfl) rfl) (_impl_Glasses_events_at_impl_PlanFrom_1.calls (a1 := a1) (a3 := (rdL x51 x55 z_S_impl_step).f_moment) (a4 := a4) (a5 := x52) (a10 := x51) (a15 := x55) hs hr0 Hr75) ?_
        rintro _ w ⟨v76, rfl, hs⟩
        have hs := St.unpack (Γ := [_,_,_,_,_]) hs
        have hs : St _ [_,_,_,_,_] _ := hs
        refine g_d rfl ?_
        try dsimp only [set0,setS]
        refine g_ops_nil ?_
        refine g_inBlock ?_
        refine g_seq ?_
        refine g_seq ?_
        refine g_region ?_
        show G _ _ _ (.inRegion _ [0] :: _) _ _
        refine s_load1 rfl rfl (v := Value.int .i64 r75.2.2.2.2) rfl rfl (fun _ => rfl) (cells_load (hs.cells 4 rfl) 0 1 rfl) ?_
        refine g_d rfl ?_
        try dsimp only [set0,setS]
        refine g_ops_nil ?_
        refine g_region ?_
        show G _ _ _ (.inRegion _ [0, 1] :: _) _ _
        refine s_alloc hs rfl rfl (z := (Value.int .i64 0)) (cs := ((encI .i64) 0)) rfl (fun _ => rfl) rfl ?_
        intro b77 w hs
        refine g_d rfl ?_
        try dsimp only [set0,setS]
        refine s_storeAll (n := 1) hs ((fkI .i64).len _) rfl rfl (vs := ((encI .i64) r75.2.2.2.2)) rfl rfl rfl (fun _ => rfl) ((fkI .i64).len _) ((fkI .i64).one _) ?_
        intro w hs
        refine g_n rfl ?_
        refine g_ops_nil ?_
        refine g_region ?_
        show G _ _ _ (.inRegion _ [0, 1, 2] :: _) _ _
        refine s_load1 rfl rfl (v := Value.int .i64 r75.2.2.2.2) rfl rfl (fun _ => rfl) (cells_load (hs.cells 0 rfl) 0 1 rfl) ?_
        refine g_d rfl ?_
        try dsimp only [set0,setS]
        refine g_op (v := Value.int .i64 (i64w (r75.2.2.2.2 + 1))) rfl rfl rfl ?_
        refine g_d rfl ?_
        try dsimp only [set0,setS]
        refine s_storeAll (n := 1) hs ((fkI .i64).len _) rfl rfl (vs := ((encI .i64) (i64w (r75.2.2.2.2 + 1)))) rfl rfl rfl (fun _ => rfl) ((fkI .i64).len _) ((fkI .i64).one _) ?_
        intro w hs
        refine g_n rfl ?_
        refine g_ops_nil ?_
        obtain rfl := Option.some.inj H
        have hs := hs.pull 0 rfl
        have hs := hs.pull 2 rfl
        have hs := hs.pull 2 rfl
        have hs := hs.pull 4 rfl
        have hs := hs.pull 4 rfl
        have hs : St _ [_,_,_,_,_] _ := St.take (Γ' := [_]) hs
        exact ih1_ _ _ ⟨v76, r75.2.2.1, r75.1, b77, i64w (r75.2.2.2.2 + 1), Hx1_, rfl, hs⟩
      ·
       intro hb
       rw [if_neg (b_dec_f hb)] at H
       refine g_d rfl ?_
       try dsimp only [set0,setS]
       refine g_ops_nil ?_
       refine g_cond_false rfl ?_
       obtain rfl := Option.some.inj H
       subst Hx1_
       have hs : St _ [] _ := St.take (Γ' := [_,_,_,_,_]) hs
       refine g_exit rfl ?_
       exact ha1_ _ _ ⟨Hr1_, rfl, hs⟩

/- function 31 laws_eqByteS -/
def laws_eqByteS.post (w0 : World) (r : Bool) (v : Value) (w : World) : Prop := v = Value.bool r ∧ St w0 [] w
set_option maxHeartbeats 8000000 in
set_option maxRecDepth 100000 in
theorem laws_eqByteS.calls {N : Nat} {a1 : (List Int)} {a3 : (List Int)} {v2 : Value} {v4 : Value} {w0 : World} {r : Bool} (hr0 : RdRow (K.int .u8) w0 v2 a1) (hr1 : RdRow (K.int .u8) w0 v4 a3) (H : laws_eqByteS.f N a1 a3 = some r) :
    Calls Try.prog 31 #[v2, v4] w0 fun e w => ∃ v, e = .returned v ∧ laws_eqByteS.post w0 r v w := by
  unfold laws_eqByteS.f at H
  have hs : St w0 [] w0 := St.refl w0
  refine calls_of_g (n := 24) Try.func31 rfl rfl ?_
  show G _ _ _ _ [_,_,_,_,_,_,_,_,_,_,_,_,_,_,_,_,_,_,_,_,_,_,_,_,_,_] _
  refine g_seq ?_
  refine g_region ?_
  show G _ _ _ (.inRegion _ [0] :: _) _ _
  refine g_op (v := Value.bool false) rfl rfl rfl ?_
  show G _ _ _ _ [_,_,_,_,_,_,_,_,_,_,_,_,_,_,_,_,_,_,_,_,_,_,_,_,_,_] _
  refine g_ops_nil ?_
  refine g_seq ?_
  refine g_seq ?_
  refine g_region ?_
  show G _ _ _ (.inRegion _ [0, 1, 2, 3, 4] :: _) _ _
  refine g_op (v := v2) rfl rfl rfl ?_
  refine s_len (hs.rd hr0) rfl rfl rfl rfl rfl ?_
  show G _ _ _ _ [_,_,_,_,_,_,_,_,_,_,_,_,_,_,_,_,_,_,_,_,_,_,_,_,_,_] _
  refine g_op (v := v4) rfl rfl rfl ?_
  refine s_len (hs.rd hr1) rfl rfl rfl rfl rfl ?_
  show G _ _ _ _ [_,_,_,_,_,_,_,_,_,_,_,_,_,_,_,_,_,_,_,_,_,_,_,_,_,_] _
  refine g_op_b (B := (a1.length : Int) != (a3.length : Int)) rfl rfl rfl ?_ ?_
  ·
   intro hb
   rw [if_neg (b_bne_t hb)] at H
   show G _ _ _ _ [_,_,_,_,_,_,_,_,_,_,_,_,_,_,_,_,_,_,_,_,_,_,_,_,_,_] _
   refine g_ops_nil ?_
   refine g_cond_true rfl ?_
   refine g_seq ?_
   refine g_region ?_
   show G _ _ _ (.inRegion _ [0] :: _) _ _
   refine g_op (v := Value.bool false) rfl rfl rfl ?_
   show G _ _ _ _ [_,_,_,_,_,_,_,_,_,_,_,_,_,_,_,_,_,_,_,_,_,_,_,_,_,_] _
   refine g_ops_nil ?_
   obtain rfl := Option.some.inj H
   refine g_ret Try.func31 (v := Value.bool false) (res1 rfl rfl) ?_
   have hs : St _ [] _ := St.take (Γ' := []) hs
   exact ⟨_, rfl, rfl, hs⟩
  ·
   intro hb
   rw [if_pos (b_bne_f hb)] at H
   show G _ _ _ _ [_,_,_,_,_,_,_,_,_,_,_,_,_,_,_,_,_,_,_,_,_,_,_,_,_,_] _
   refine g_ops_nil ?_
   refine g_cond_false rfl ?_
   refine g_skip ?_
   refine g_seq ?_
   refine g_seq ?_
   refine g_region ?_
   show G _ _ _ (.inRegion _ [0] :: _) _ _
   refine g_op (v := Value.int .i64 0) rfl rfl rfl ?_
   show G _ _ _ _ [_,_,_,_,_,_,_,_,_,_,_,_,_,_,_,_,_,_,_,_,_,_,_,_,_,_] _
   refine g_ops_nil ?_
   obtain ⟨o1_, Ho, Hr1_⟩ := bind_get H
   refine g_block_join (J := fun t w => laws_eqByteS.a0 N = some r ∧ Fr t (fun O => ([O 0, O 1, O 2, O 3, O 4, O 5, O 6, O 7, O 8, O 9, O 10, O 11, O 12, O 13, O 14, O 15, O 16, O 17, O 18, O 19, O 20, O 21, O 22, O 23, O 24, O 25] : List Value)) ∧ St w0 [] w) ?_ ?_
   ·
    rintro t w ⟨H, hf, hs⟩
    obtain ⟨O, rfl⟩ := hf.open
    show G _ _ _ _ [_,_,_,_,_,_,_,_,_,_,_,_,_,_,_,_,_,_,_,_,_,_,_,_,_,_] _
    unfold laws_eqByteS.a0 at H
    refine g_seq ?_
    refine g_region ?_
    show G _ _ _ (.inRegion _ [0] :: _) _ _
    refine g_op (v := Value.bool true) rfl rfl rfl ?_
    show G _ _ _ _ [_,_,_,_,_,_,_,_,_,_,_,_,_,_,_,_,_,_,_,_,_,_,_,_,_,_] _
    refine g_ops_nil ?_
    obtain rfl := Option.some.inj H
    refine g_ret Try.func31 (v := Value.bool true) (res1 rfl rfl) ?_
    have hs : St _ [] _ := St.take (Γ' := []) hs
    exact ⟨_, rfl, rfl, hs⟩
   ·
    intro ha1_
    have hs : St _ [] _ := St.take (Γ' := []) hs
    refine g_loop_fuel (I := fun n_ t w => ∃ x5 : Int, rounds (fun s => laws_eqByteS.b0 N a1 a3 s) n_ x5 = some o1_ ∧ Fr t (fun O => ([v2, v4, O 2, O 3, O 4, Value.int .i64 x5, O 6, O 7, O 8, O 9, O 10, O 11, O 12, O 13, O 14, O 15, O 16, O 17, O 18, O 19, O 20, O 21, O 22, O 23, O 24, O 25] : List Value)) ∧ St w0 [] w) N ⟨0, Ho, rfl, hs⟩ ?_ ?_
    ·
     rintro _ _ ⟨x5, h, _⟩
     exact rounds_zero h
    ·
     intro n_ ih1_
     rintro t w ⟨x5, Ho, hf, hs⟩
     obtain ⟨O, rfl⟩ := hf.open
     show G _ _ _ _ [_,_,_,_,_,_,_,_,_,_,_,_,_,_,_,_,_,_,_,_,_,_,_,_,_,_] _
     obtain ⟨x7_, H, Hx1_⟩ := rounds_succ Ho
     have H : laws_eqByteS.b0 N a1 a3 x5 = some x7_ := H
     unfold laws_eqByteS.b0 at H
     refine g_seq ?_
     refine g_seq ?_
     refine g_region ?_
     show G _ _ _ (.inRegion _ [0, 1, 2, 3] :: _) _ _
     refine g_op (v := Value.int .i64 x5) rfl rfl rfl ?_
     refine g_op (v := v2) rfl rfl rfl ?_
     refine s_len (hs.rd hr0) rfl rfl rfl rfl rfl ?_
     show G _ _ _ _ [_,_,_,_,_,_,_,_,_,_,_,_,_,_,_,_,_,_,_,_,_,_,_,_,_,_] _
     refine g_op_b (B := decide (x5 < (a1.length : Int))) rfl rfl rfl ?_ ?_
     ·
      intro hb
      rw [if_pos (b_dec_t hb)] at H
      show G _ _ _ _ [_,_,_,_,_,_,_,_,_,_,_,_,_,_,_,_,_,_,_,_,_,_,_,_,_,_] _
      refine g_ops_nil ?_
      refine g_cond_true rfl ?_
      refine g_skip ?_
      refine g_seq ?_
      refine g_block ?_
      refine g_seq ?_
      refine g_lay (n := 9) rfl [0, 1, 2, 3, 4, 5, 6, 7, 8] [0, 1, 2, 3, 4, 5, 6, 7, 8] rfl rfl ?_
      intro rest w hh hbw hO
      have hs := hs.samew hh hbw
      show G _ _ _ _ [_,_,_,_,_,_,_,_,_,_,_,_,_,_,_,_,_,_,_,_,_,_,_,_,_,_] _
      obtain ⟨gd2, H⟩ := ite_get H
      obtain ⟨ad3_, ad3_N, ad3_C, had3_⟩ := sl_at (hs.rd hr0) gd2.1 gd2.2
      obtain ⟨gd4, H⟩ := ite_get H
      obtain ⟨ad5_, ad5_N, ad5_C, had5_⟩ := sl_at (hs.rd hr1) gd4.1 gd4.2
      refine g_name ?_
      intro T hT
      refine g_layer (m0 := 0) hO rfl 255 [0, 1, 2, 3, 4, 5, 6, 7] [0, 0, 3, 7, 0, 0, 48, 112, 255] (by decide +kernel) (fun D t w => ∃ O : Nat → Value, t = [v2, v4, O 2, O 3, O 4, Value.int .i64 x5, O 6, O 7, O 8, O 9, O 10, Value.int .i64 x5, v2, Value.int .i64 (a1.length : Int), Value.bool true, O 15, O 16, cnd (D 0) v2 (O 17), cnd (D 1) (Value.int .i64 x5) (O 18), cnd (D 2) (Value.pointer (some (ad3_.add (x5.toNat * 1)))) (O 19), cnd (D 3) (Value.int .u8 (rdL a1 x5 0)) (O 20), cnd (D 4) v4 (O 21), cnd (D 5) (Value.int .i64 x5) (O 22), cnd (D 6) (Value.pointer (some (ad5_.add (x5.toNat * 1)))) (O 23), cnd (D 7) (Value.int .u8 (rdL a3 x5 0)) (O 24), O 25] ∧ St w0 [] w) ?_ ⟨?_, ⟨?_, ⟨?_, ⟨?_, ⟨?_, ⟨?_, ⟨?_, ⟨?_, trivial⟩⟩⟩⟩⟩⟩⟩⟩ ?_
      · exact ⟨fun i => T.getD i undef, (by subst hT; rfl), hs⟩
      ·
       intro D t w hD hp hcl hI rest hk
       obtain ⟨O, ht, hs⟩ := hI
       have hp : AllDone D [] := hp
       have q2_ : D 2 = false := not_yet (show D 2 = true → AllDone D [0, 1] from hcl 2 (by decide)) 0 0 rfl hD
       have q3_ : D 3 = false := not_yet (show D 3 = true → AllDone D [2] from hcl 3 (by decide)) 0 2 rfl q2_
       simp only [hD, q2_, q3_, cnd_t, cnd_f, Asc_t, Asc_f] at ht hs
       subst ht
       refine g_op (v := v2) rfl rfl rfl ?_
       show G _ _ _ _ [_,_,_,_,_,_,_,_,_,_,_,_,_,_,_,_,_,_,_,_,_,_,_,_,_,_] _
       exact hk _ _ ⟨O, (by simp only [upd, Nat.reduceBEq, Bool.true_or, Bool.false_or, q2_, q3_, cnd_t, cnd_f, Asc_t, Asc_f]), hs.cast (by first | rfl | simp only [List.take, List.drop, List.cons_append, List.nil_append, List.set_cons_zero, List.set_cons_succ, List.eraseIdx, upd, Nat.reduceBEq, Bool.true_or, Bool.false_or, q2_, q3_, cnd_t, cnd_f, Asc_t, Asc_f])⟩
      ·
       intro D t w hD hp hcl hI rest hk
       obtain ⟨O, ht, hs⟩ := hI
       have hp : AllDone D [] := hp
       have q2_ : D 2 = false := not_yet (show D 2 = true → AllDone D [0, 1] from hcl 2 (by decide)) 1 1 rfl hD
       have q3_ : D 3 = false := not_yet (show D 3 = true → AllDone D [2] from hcl 3 (by decide)) 0 2 rfl q2_
       simp only [hD, q2_, q3_, cnd_t, cnd_f, Asc_t, Asc_f] at ht hs
       subst ht
       refine g_op (v := Value.int .i64 x5) rfl rfl rfl ?_
       show G _ _ _ _ [_,_,_,_,_,_,_,_,_,_,_,_,_,_,_,_,_,_,_,_,_,_,_,_,_,_] _
       exact hk _ _ ⟨O, (by simp only [upd, Nat.reduceBEq, Bool.true_or, Bool.false_or, q2_, q3_, cnd_t, cnd_f, Asc_t, Asc_f]), hs.cast (by first | rfl | simp only [List.take, List.drop, List.cons_append, List.nil_append, List.set_cons_zero, List.set_cons_succ, List.eraseIdx, upd, Nat.reduceBEq, Bool.true_or, Bool.false_or, q2_, q3_, cnd_t, cnd_f, Asc_t, Asc_f])⟩
      ·
       intro D t w hD hp hcl hI rest hk
       obtain ⟨O, ht, hs⟩ := hI
       have hp : AllDone D [0, 1] := hp
       obtain ⟨p0_, p1_, _⟩ := hp
       have q3_ : D 3 = false := not_yet (show D 3 = true → AllDone D [2] from hcl 3 (by decide)) 0 2 rfl hD
       simp only [hD, p0_, p1_, q3_, cnd_t, cnd_f, Asc_t, Asc_f] at ht hs
       subst ht
       refine s_idxD (κ := (K.int .u8)) (m := 1) rfl (hs.rd hr0) rfl (fun _ => rfl) gd2.1 gd2.2 had3_ rfl rfl rfl rfl rfl ?_
       show G _ _ _ _ [_,_,_,_,_,_,_,_,_,_,_,_,_,_,_,_,_,_,_,_,_,_,_,_,_,_] _
       exact hk _ _ ⟨O, (by simp only [upd, Nat.reduceBEq, Bool.true_or, Bool.false_or, p0_, p1_, q3_, cnd_t, cnd_f, Asc_t, Asc_f]), hs.cast (by first | rfl | simp only [List.take, List.drop, List.cons_append, List.nil_append, List.set_cons_zero, List.set_cons_succ, List.eraseIdx, upd, Nat.reduceBEq, Bool.true_or, Bool.false_or, p0_, p1_, q3_, cnd_t, cnd_f, Asc_t, Asc_f])⟩
      ·
       intro D t w hD hp hcl hI rest hk
       obtain ⟨O, ht, hs⟩ := hI
       have hp : AllDone D [2] := hp
       obtain ⟨p2_, _⟩ := hp
       obtain ⟨p0_, p1_, _⟩ := (show D 2 = true → AllDone D [0, 1] from hcl 2 (by decide)) p2_
       simp only [hD, p0_, p1_, p2_, cnd_t, cnd_f, Asc_t, Asc_f] at ht hs
       subst ht
       refine s_load1 rfl rfl (v := Value.int .u8 (rdL a1 x5 0)) rfl rfl (fun _ => rfl) (cellsAt_of (fkI .u8) 0 (hs.rd hr0) had3_ gd2.1 gd2.2) ?_
       show G _ _ _ _ [_,_,_,_,_,_,_,_,_,_,_,_,_,_,_,_,_,_,_,_,_,_,_,_,_,_] _
       exact hk _ _ ⟨O, (by simp only [upd, Nat.reduceBEq, Bool.true_or, Bool.false_or, p0_, p1_, p2_, cnd_t, cnd_f, Asc_t, Asc_f]), hs.cast (by first | rfl | simp only [List.take, List.drop, List.cons_append, List.nil_append, List.set_cons_zero, List.set_cons_succ, List.eraseIdx, upd, Nat.reduceBEq, Bool.true_or, Bool.false_or, p0_, p1_, p2_, cnd_t, cnd_f, Asc_t, Asc_f])⟩
      ·
       intro D t w hD hp hcl hI rest hk
       obtain ⟨O, ht, hs⟩ := hI
       have hp : AllDone D [] := hp
       have q6_ : D 6 = false := not_yet (show D 6 = true → AllDone D [4, 5] from hcl 6 (by decide)) 0 4 rfl hD
       have q7_ : D 7 = false := not_yet (show D 7 = true → AllDone D [6] from hcl 7 (by decide)) 0 6 rfl q6_
       simp only [hD, q6_, q7_, cnd_t, cnd_f, Asc_t, Asc_f] at ht hs
       subst ht
       refine g_op (v := v4) rfl rfl rfl ?_
       show G _ _ _ _ [_,_,_,_,_,_,_,_,_,_,_,_,_,_,_,_,_,_,_,_,_,_,_,_,_,_] _
       exact hk _ _ ⟨O, (by simp only [upd, Nat.reduceBEq, Bool.true_or, Bool.false_or, q6_, q7_, cnd_t, cnd_f, Asc_t, Asc_f]), hs.cast (by first | rfl | simp only [List.take, List.drop, List.cons_append, List.nil_append, List.set_cons_zero, List.set_cons_succ, List.eraseIdx, upd, Nat.reduceBEq, Bool.true_or, Bool.false_or, q6_, q7_, cnd_t, cnd_f, Asc_t, Asc_f])⟩
      ·
       intro D t w hD hp hcl hI rest hk
       obtain ⟨O, ht, hs⟩ := hI
       have hp : AllDone D [] := hp
       have q6_ : D 6 = false := not_yet (show D 6 = true → AllDone D [4, 5] from hcl 6 (by decide)) 1 5 rfl hD
       have q7_ : D 7 = false := not_yet (show D 7 = true → AllDone D [6] from hcl 7 (by decide)) 0 6 rfl q6_
       simp only [hD, q6_, q7_, cnd_t, cnd_f, Asc_t, Asc_f] at ht hs
       subst ht
       refine g_op (v := Value.int .i64 x5) rfl rfl rfl ?_
       show G _ _ _ _ [_,_,_,_,_,_,_,_,_,_,_,_,_,_,_,_,_,_,_,_,_,_,_,_,_,_] _
       exact hk _ _ ⟨O, (by simp only [upd, Nat.reduceBEq, Bool.true_or, Bool.false_or, q6_, q7_, cnd_t, cnd_f, Asc_t, Asc_f]), hs.cast (by first | rfl | simp only [List.take, List.drop, List.cons_append, List.nil_append, List.set_cons_zero, List.set_cons_succ, List.eraseIdx, upd, Nat.reduceBEq, Bool.true_or, Bool.false_or, q6_, q7_, cnd_t, cnd_f, Asc_t, Asc_f])⟩
      ·
       intro D t w hD hp hcl hI rest hk
       obtain ⟨O, ht, hs⟩ := hI
       have hp : AllDone D [4, 5] := hp
       obtain ⟨p4_, p5_, _⟩ := hp
       have q7_ : D 7 = false := not_yet (show D 7 = true → AllDone D [6] from hcl 7 (by decide)) 0 6 rfl hD
       simp only [hD, p4_, p5_, q7_, cnd_t, cnd_f, Asc_t, Asc_f] at ht hs
       subst ht
       refine s_idxD (κ := (K.int .u8)) (m := 1) rfl (hs.rd hr1) rfl (fun _ => rfl) gd4.1 gd4.2 had5_ rfl rfl rfl rfl rfl ?_
       show G _ _ _ _ [_,_,_,_,_,_,_,_,_,_,_,_,_,_,_,_,_,_,_,_,_,_,_,_,_,_] _
       exact hk _ _ ⟨O, (by simp only [upd, Nat.reduceBEq, Bool.true_or, Bool.false_or, p4_, p5_, q7_, cnd_t, cnd_f, Asc_t, Asc_f]), hs.cast (by first | rfl | simp only [List.take, List.drop, List.cons_append, List.nil_append, List.set_cons_zero, List.set_cons_succ, List.eraseIdx, upd, Nat.reduceBEq, Bool.true_or, Bool.false_or, p4_, p5_, q7_, cnd_t, cnd_f, Asc_t, Asc_f])⟩
      ·
       intro D t w hD hp hcl hI rest hk
       obtain ⟨O, ht, hs⟩ := hI
       have hp : AllDone D [6] := hp
       obtain ⟨p6_, _⟩ := hp
       obtain ⟨p4_, p5_, _⟩ := (show D 6 = true → AllDone D [4, 5] from hcl 6 (by decide)) p6_
       simp only [hD, p4_, p5_, p6_, cnd_t, cnd_f, Asc_t, Asc_f] at ht hs
       subst ht
       refine s_load1 rfl rfl (v := Value.int .u8 (rdL a3 x5 0)) rfl rfl (fun _ => rfl) (cellsAt_of (fkI .u8) 0 (hs.rd hr1) had5_ gd4.1 gd4.2) ?_
       show G _ _ _ _ [_,_,_,_,_,_,_,_,_,_,_,_,_,_,_,_,_,_,_,_,_,_,_,_,_,_] _
       exact hk _ _ ⟨O, (by simp only [upd, Nat.reduceBEq, Bool.true_or, Bool.false_or, p4_, p5_, p6_, cnd_t, cnd_f, Asc_t, Asc_f]), hs.cast (by first | rfl | simp only [List.take, List.drop, List.cons_append, List.nil_append, List.set_cons_zero, List.set_cons_succ, List.eraseIdx, upd, Nat.reduceBEq, Bool.true_or, Bool.false_or, p4_, p5_, p6_, cnd_t, cnd_f, Asc_t, Asc_f])⟩
      ·
       intro D t w rest hall hO1_ hI
       obtain ⟨O, ht, hs⟩ := hI
       have p0_ : D 0 = true := hall 0 (by decide) rfl
       have p1_ : D 1 = true := hall 1 (by decide) rfl
       have p2_ : D 2 = true := hall 2 (by decide) rfl
       have p3_ : D 3 = true := hall 3 (by decide) rfl
       have p4_ : D 4 = true := hall 4 (by decide) rfl
       have p5_ : D 5 = true := hall 5 (by decide) rfl
       have p6_ : D 6 = true := hall 6 (by decide) rfl
       have p7_ : D 7 = true := hall 7 (by decide) rfl
       simp only [p0_, p1_, p2_, p3_, p4_, p5_, p6_, p7_, cnd_t, cnd_f, Asc_t, Asc_f] at ht hs
       subst ht
       obtain ⟨rest, rfl, hO6_⟩ := ord_one (m := 255) hO1_ rfl 8 (m' := 511) (by decide +kernel) rfl
       clear hO1_
       refine g_op_b (B := (rdL a1 x5 0) != (rdL a3 x5 0)) rfl rfl rfl ?_ ?_
       ·
        intro hb
        rw [if_neg (b_bne_t hb)] at H
        show G _ _ _ _ [_,_,_,_,_,_,_,_,_,_,_,_,_,_,_,_,_,_,_,_,_,_,_,_,_,_] _
        obtain rfl := ord_end hO6_ rfl (by decide +kernel)
        refine g_ops_nil ?_
        refine g_cond_true rfl ?_
        refine g_seq ?_
        refine g_region ?_
        show G _ _ _ (.inRegion _ [0] :: _) _ _
        refine g_op (v := Value.bool false) rfl rfl rfl ?_
        show G _ _ _ _ [_,_,_,_,_,_,_,_,_,_,_,_,_,_,_,_,_,_,_,_,_,_,_,_,_,_] _
        refine g_ops_nil ?_
        obtain rfl := Option.some.inj H
        subst Hx1_
        have H := Option.some.inj Hr1_
        subst H
        refine g_ret Try.func31 (v := Value.bool false) (res1 rfl rfl) ?_
        have hs : St _ [] _ := St.take (Γ' := []) hs
        exact ⟨_, rfl, rfl, hs⟩
       ·
        intro hb
        rw [if_pos (b_bne_f hb)] at H
        show G _ _ _ _ [_,_,_,_,_,_,_,_,_,_,_,_,_,_,_,_,_,_,_,_,_,_,_,_,_,_] _
        obtain rfl := ord_end hO6_ rfl (by decide +kernel)
        refine g_ops_nil ?_
        refine g_cond_false rfl ?_
        refine g_skip ?_
        refine g_inBlock ?_
        refine g_region ?_
        show G _ _ _ (.inRegion _ [0, 1, 2] :: _) _ _
        refine g_op (v := Value.int .i64 x5) rfl rfl rfl ?_
        refine g_op (v := Value.int .i64 (i64w (x5 + 1))) rfl rfl rfl ?_
        show G _ _ _ _ [_,_,_,_,_,_,_,_,_,_,_,_,_,_,_,_,_,_,_,_,_,_,_,_,_,_] _
        refine g_op (v := Value.int .i64 (i64w (x5 + 1))) rfl rfl rfl ?_
        show G _ _ _ _ [_,_,_,_,_,_,_,_,_,_,_,_,_,_,_,_,_,_,_,_,_,_,_,_,_,_] _
        refine g_ops_nil ?_
        obtain rfl := Option.some.inj H
        have hs : St _ [] _ := St.take (Γ' := []) hs
        exact ih1_ _ _ ⟨i64w (x5 + 1), Hx1_, rfl, hs⟩
     ·
      intro hb
      rw [if_neg (b_dec_f hb)] at H
      show G _ _ _ _ [_,_,_,_,_,_,_,_,_,_,_,_,_,_,_,_,_,_,_,_,_,_,_,_,_,_] _
      refine g_ops_nil ?_
      refine g_cond_false rfl ?_
      obtain rfl := Option.some.inj H
      subst Hx1_
      have hs : St _ [] _ := St.take (Γ' := []) hs
      refine g_exit rfl ?_
      exact ha1_ _ _ ⟨Hr1_, rfl, hs⟩

end Go.Proofs.YtioefkcldfjobaaX
