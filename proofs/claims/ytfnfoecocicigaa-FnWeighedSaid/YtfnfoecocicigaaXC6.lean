/- Contracts, printed by gen.py. -/
import Derived.Test.YtfnfoecocicigaaXT
import Derived.Test.YtfnfoecocicigaaProg
import Derived.Test.YtfnfoecocicigaaXRowR
import Derived.Test.YtfnfoecocicigaaXSeg
import Derived.Test.YtfnfoecocicigaaXKey
namespace Go.Proofs.YtfnfoecocicigaaX
open Go Go.RowKit Go.Proofs
set_option linter.unusedVariables false
set_option linter.unusedSimpArgs false
/- function 26 spec_l06Split -/
def spec_l06Split.post (w0 : World) (r : ((Ar Int 4) × (Ar Int 4))) (v : Value) (w : World) : Prop := v = Value.tuple #[Value.agg ((encA (encI .i64)) r.1).toArray, Value.agg ((encA (encI .i64)) r.2).toArray] ∧ St w0 [] w
set_option maxHeartbeats 8000000 in
set_option maxRecDepth 100000 in
theorem spec_l06Split.calls {N : Nat} {a1 : Int} {a2 : (Ar Int 4)} {a3 : (Ar Int 4)} {w0 : World} {r : ((Ar Int 4) × (Ar Int 4))} (H : spec_l06Split.f N a1 a2 a3 = some r) :
    Calls Try.prog 26 #[Value.int .i64 a1, Value.agg ((encA (encI .i64)) a2).toArray, Value.agg ((encA (encI .i64)) a3).toArray] w0 fun e w => ∃ v, e = .returned v ∧ spec_l06Split.post w0 r v w := by
  unfold spec_l06Split.f at H
  have hs : St w0 [] w0 := St.refl w0
  refine calls_of_g (n := 62) Try.func26 rfl rfl ?_
  show G _ _ _ _ (_::_::_::_::_::_::_::_::_::_::_::_::_::_::_::_::_::_::_::_::_::_::_::_::_::_::_::_::_::_::_::_::_::_::_::_::_::_::_::_::_::_::_::_::_::_::_::_::_::_::_::_::_::_::_::_::_::_::_::_::_::_::_::_::_::[]) _
  refine g_seq ?_
  refine g_region ?_
  show G _ _ _ (.inRegion _ [0, 1, 2, 3] :: _) _ _
  refine s_box hs rfl rfl (cs := ((encA (encI .i64)) a2)) rfl rfl ?_
  intro b4 w hs
  refine g_d rfl ?_
  try dsimp only [set0,setS]
  refine s_box hs rfl rfl (cs := ((encA (encI .i64)) a3)) rfl rfl ?_
  intro b6 w hs
  refine g_d rfl ?_
  try dsimp only [set0,setS]
  refine s_alloc hs rfl rfl (z := (Value.agg #[Value.int .i64 0, Value.int .i64 0, Value.int .i64 0, Value.int .i64 0])) (cs := ((encA (encI .i64)) (Ar.rep 4 0))) rfl (fun _ => rfl) rfl ?_
  intro b8 w hs
  refine g_d rfl ?_
  try dsimp only [set0,setS]
  refine s_alloc hs rfl rfl (z := (Value.agg #[Value.int .i64 0, Value.int .i64 0, Value.int .i64 0, Value.int .i64 0])) (cs := ((encA (encI .i64)) (Ar.rep 4 0))) rfl (fun _ => rfl) rfl ?_
  intro b10 w hs
  refine g_d rfl ?_
  try dsimp only [set0,setS]
  refine g_ops_nil ?_
  refine g_seq ?_
  refine g_region ?_
  show G _ _ _ (.inRegion _ [0, 1, 2] :: _) _ _
  refine g_op (v := Value.agg ((encA (encI .i64)) (Ar.rep 4 0)).toArray) rfl rfl (x_build rfl rfl) ?_
  refine g_d rfl ?_
  try dsimp only [set0,setS]
  refine s_alloc hs rfl rfl (z := (Value.agg #[Value.int .i64 0, Value.int .i64 0, Value.int .i64 0, Value.int .i64 0])) (cs := ((encA (encI .i64)) (Ar.rep 4 0))) rfl (fun _ => rfl) rfl ?_
  intro b12 w hs
  refine g_d rfl ?_
  try dsimp only [set0,setS]
  refine s_storeAll (n := 4) hs ((fkA (n := 4) (he := (fkI .i64).len) (h1 := (fkI .i64).one)).len _) rfl rfl (vs := ((encA (encI .i64)) (Ar.rep 4 0))) rfl rfl rfl (fun _ => rfl) ((fkA (n := 4) (he := (fkI .i64).len) (h1 := (fkI .i64).one)).len _) ((fkA (n := 4) (he := (fkI .i64).len) (h1 := (fkI .i64).one)).one _) ?_
  intro w hs
  refine g_n rfl ?_
  refine g_ops_nil ?_
  refine g_seq ?_
  refine g_region ?_
  show G _ _ _ (.inRegion _ [0, 1, 2] :: _) _ _
  refine g_op (v := Value.agg ((encA (encI .i64)) (Ar.rep 4 0)).toArray) rfl rfl (x_build rfl rfl) ?_
  refine g_d rfl ?_
  try dsimp only [set0,setS]
  refine s_alloc hs rfl rfl (z := (Value.agg #[Value.int .i64 0, Value.int .i64 0, Value.int .i64 0, Value.int .i64 0])) (cs := ((encA (encI .i64)) (Ar.rep 4 0))) rfl (fun _ => rfl) rfl ?_
  intro b14 w hs
  refine g_d rfl ?_
  try dsimp only [set0,setS]
  refine s_storeAll (n := 4) hs ((fkA (n := 4) (he := (fkI .i64).len) (h1 := (fkI .i64).one)).len _) rfl rfl (vs := ((encA (encI .i64)) (Ar.rep 4 0))) rfl rfl rfl (fun _ => rfl) ((fkA (n := 4) (he := (fkI .i64).len) (h1 := (fkI .i64).one)).len _) ((fkA (n := 4) (he := (fkI .i64).len) (h1 := (fkI .i64).one)).one _) ?_
  intro w hs
  refine g_n rfl ?_
  refine g_ops_nil ?_
  refine g_seq ?_
  refine g_seq ?_
  refine g_region ?_
  show G _ _ _ (.inRegion _ [0] :: _) _ _
  refine g_op (v := Value.int .i64 0) rfl rfl rfl ?_
  refine g_d rfl ?_
  try dsimp only [set0,setS]
  refine g_ops_nil ?_
  obtain ⟨o1_, Ho, Hr1_⟩ := bind_get H
  refine g_block_join (J := fun t w => ∃ x24 : (Ar Int 4), ∃ x25 : (Ar Int 4), spec_l06Split.a0 N x24 x25 = some r ∧ Fr t (fun O => (O 0::O 1::O 2::O 3::O 4::O 5::Value.pointer (some ⟨b8, 0, none⟩)::Value.pointer (some ⟨b10, 0, none⟩)::Value.pointer (some ⟨b12, 0, none⟩)::Value.pointer (some ⟨b14, 0, none⟩)::O 10::O 11::O 12::O 13::O 14::O 15::O 16::O 17::O 18::O 19::O 20::O 21::O 22::O 23::O 24::O 25::O 26::O 27::O 28::O 29::O 30::O 31::O 32::O 33::O 34::O 35::O 36::O 37::O 38::O 39::O 40::O 41::O 42::O 43::O 44::O 45::O 46::O 47::O 48::O 49::O 50::O 51::O 52::O 53::O 54::O 55::O 56::O 57::O 58::O 59::O 60::O 61::O 62::O 63::O 64::[] : List Value)) ∧ St w0 [Cells b8 ((encA (encI .i64)) (Ar.rep 4 0)) 25, Cells b10 ((encA (encI .i64)) (Ar.rep 4 0)) 25, Cells b12 ((encA (encI .i64)) x24) 25, Cells b14 ((encA (encI .i64)) x25) 25] w) ?_ ?_
  ·
   rintro t w ⟨x24, x25, H, hf, hs⟩
   obtain ⟨O, rfl⟩ := hf.open
   try dsimp only
   unfold spec_l06Split.a0 at H
   refine g_seq ?_
   refine g_name ?_
   intro T hT
   refine g_any (n := 4) rfl [0, 1, 2, 3] [0, 2, 1, 3] rfl rfl (Inv := fun D t w => ∃ O : Nat → Value, t = (O 0::O 1::O 2::O 3::O 4::O 5::Value.pointer (some ⟨b8, 0, none⟩)::Value.pointer (some ⟨b10, 0, none⟩)::Value.pointer (some ⟨b12, 0, none⟩)::Value.pointer (some ⟨b14, 0, none⟩)::O 10::O 11::O 12::O 13::O 14::O 15::O 16::O 17::O 18::O 19::O 20::O 21::O 22::O 23::O 24::O 25::O 26::O 27::O 28::O 29::O 30::O 31::O 32::O 33::O 34::O 35::O 36::O 37::O 38::O 39::O 40::O 41::O 42::O 43::O 44::O 45::O 46::O 47::O 48::O 49::O 50::O 51::O 52::O 53::O 54::O 55::O 56::O 57::O 58::O 59::O 60::O 61::O 62::cnd (D 0) (Value.agg ((encA (encI .i64)) x24).toArray) (O 63)::cnd (D 1) (Value.agg ((encA (encI .i64)) x25).toArray) (O 64)::[]) ∧ St w0 [Cells b8 (cnd (D 2) ((encA (encI .i64)) x24) ((encA (encI .i64)) (Ar.rep 4 0))) 25, Cells b10 (cnd (D 3) ((encA (encI .i64)) x25) ((encA (encI .i64)) (Ar.rep 4 0))) 25, Cells b12 ((encA (encI .i64)) x24) 25, Cells b14 ((encA (encI .i64)) x25) 25] w) ?_ ⟨⟨⟨⟨trivial, ?_⟩, ?_⟩, ?_⟩, ?_⟩ ?_
   ·
    intro w hh hbw
    have hs := hs.samew hh hbw
    exact ⟨fun i => T.getD i undef, (by subst hT; rfl), hs⟩
   ·
    intro D t w hD hp hcl hI rest hk
    obtain ⟨O, ht, hs⟩ := hI
    have q2_ : D 2 = false := not_yet (hcl.get 2 (by decide)) 0 0 rfl hD
    have q3_ : D 3 = false := not_yet (hcl.get 3 (by decide)) 1 2 rfl q2_
    simp only [hD, q2_, q3_, cnd_t, cnd_f, Asc_t, Asc_f] at ht hs
    subst ht
    refine s_loadA rfl rfl (es := ((encA (encI .i64)) x24)) rfl rfl (fun _ => rfl) (n := 4) (fun _ => rfl) ((fkA (n := 4) (he := (fkI .i64).len) (h1 := (fkI .i64).one)).len _) (cells_all (hs.cells 2 rfl)) ?_
    refine g_d rfl ?_
    try dsimp only [set0,setS]
    exact hk _ _ ⟨O, (by simp only [upd, Nat.reduceBEq, Bool.true_or, Bool.false_or, q2_, q3_, cnd_t, cnd_f, Asc_t, Asc_f]), hs.cast (by first | rfl | simp only [List.take, List.drop, List.cons_append, List.nil_append, List.set_cons_zero, List.set_cons_succ, List.eraseIdx, upd, Nat.reduceBEq, Bool.true_or, Bool.false_or, q2_, q3_, cnd_t, cnd_f, Asc_t, Asc_f])⟩
   ·
    intro D t w hD hp hcl hI rest hk
    obtain ⟨O, ht, hs⟩ := hI
    have q3_ : D 3 = false := not_yet (hcl.get 3 (by decide)) 0 1 rfl hD
    simp only [hD, q3_, cnd_t, cnd_f, Asc_t, Asc_f] at ht hs
    subst ht
    refine s_loadA rfl rfl (es := ((encA (encI .i64)) x25)) rfl rfl (fun _ => rfl) (n := 4) (fun _ => rfl) ((fkA (n := 4) (he := (fkI .i64).len) (h1 := (fkI .i64).one)).len _) (cells_all (hs.cells 3 rfl)) ?_
    refine g_d rfl ?_
    try dsimp only [set0,setS]
    exact hk _ _ ⟨O, (by simp only [upd, Nat.reduceBEq, Bool.true_or, Bool.false_or, q3_, cnd_t, cnd_f, Asc_t, Asc_f]), hs.cast (by first | rfl | simp only [List.take, List.drop, List.cons_append, List.nil_append, List.set_cons_zero, List.set_cons_succ, List.eraseIdx, upd, Nat.reduceBEq, Bool.true_or, Bool.false_or, q3_, cnd_t, cnd_f, Asc_t, Asc_f])⟩
   ·
    intro D t w hD hp hcl hI rest hk
    obtain ⟨O, ht, hs⟩ := hI
    obtain ⟨p0_, _, _⟩ := hp
    have q3_ : D 3 = false := not_yet (hcl.get 3 (by decide)) 1 2 rfl hD
    simp only [hD, p0_, q3_, cnd_t, cnd_f, Asc_t, Asc_f] at ht hs
    subst ht
    refine s_storeAll (n := 4) hs ((fkA (n := 4) (he := (fkI .i64).len) (h1 := (fkI .i64).one)).len _) rfl rfl (vs := ((encA (encI .i64)) x24)) rfl rfl rfl (fun _ => rfl) ((fkA (n := 4) (he := (fkI .i64).len) (h1 := (fkI .i64).one)).len _) ((fkA (n := 4) (he := (fkI .i64).len) (h1 := (fkI .i64).one)).one _) ?_
    intro w hs
    refine g_n rfl ?_
    try dsimp only [set0,setS]
    have hs := hs.push 0 (by simp)
    exact hk _ _ ⟨O, (by simp only [upd, Nat.reduceBEq, Bool.true_or, Bool.false_or, p0_, q3_, cnd_t, cnd_f, Asc_t, Asc_f]), hs.cast (by first | rfl | simp only [List.take, List.drop, List.cons_append, List.nil_append, List.set_cons_zero, List.set_cons_succ, List.eraseIdx, upd, Nat.reduceBEq, Bool.true_or, Bool.false_or, p0_, q3_, cnd_t, cnd_f, Asc_t, Asc_f])⟩
   ·
    intro D t w hD hp hcl hI rest hk
    obtain ⟨O, ht, hs⟩ := hI
    obtain ⟨p1_, p2_, p0_, _, _, _⟩ := hp
    simp only [hD, p0_, p1_, p2_, cnd_t, cnd_f, Asc_t, Asc_f] at ht hs
    subst ht
    have hs := hs.pull 1 rfl
    have hs : St _ [_,_,_,_] _ := hs
    refine s_storeAll (n := 4) hs ((fkA (n := 4) (he := (fkI .i64).len) (h1 := (fkI .i64).one)).len _) rfl rfl (vs := ((encA (encI .i64)) x25)) rfl rfl rfl (fun _ => rfl) ((fkA (n := 4) (he := (fkI .i64).len) (h1 := (fkI .i64).one)).len _) ((fkA (n := 4) (he := (fkI .i64).len) (h1 := (fkI .i64).one)).one _) ?_
    intro w hs
    refine g_n rfl ?_
    try dsimp only [set0,setS]
    have hs := hs.push 1 (by simp)
    exact hk _ _ ⟨O, (by simp only [upd, Nat.reduceBEq, Bool.true_or, Bool.false_or, p0_, p1_, p2_, cnd_t, cnd_f, Asc_t, Asc_f]), hs.cast (by first | rfl | simp only [List.take, List.drop, List.cons_append, List.nil_append, List.set_cons_zero, List.set_cons_succ, List.eraseIdx, upd, Nat.reduceBEq, Bool.true_or, Bool.false_or, p0_, p1_, p2_, cnd_t, cnd_f, Asc_t, Asc_f])⟩
   ·
    intro D t w hall hI
    obtain ⟨O, ht, hs⟩ := hI
    have p0_ : D 0 = true := hall 0 (by decide)
    have p1_ : D 1 = true := hall 1 (by decide)
    have p2_ : D 2 = true := hall 2 (by decide)
    have p3_ : D 3 = true := hall 3 (by decide)
    simp only [p0_, p1_, p2_, p3_, cnd_t, cnd_f, Asc_t, Asc_f] at ht hs
    subst ht
    obtain rfl := Option.some.inj H
    refine g_ret Try.func26 (v := Value.tuple #[Value.agg ((encA (encI .i64)) x24).toArray, Value.agg ((encA (encI .i64)) x25).toArray]) (resN (l := Try.f26.results.toList) (vs := [Value.agg ((encA (encI .i64)) x24).toArray, Value.agg ((encA (encI .i64)) x25).toArray]) rfl ⟨⟨_, rfl, (run_loadVar_agg (es := ((encA (encI .i64)) x24)) rfl (congrArg (Result.ok · _) ((fkA (n := 4) (he := (fkI .i64).len) (h1 := (fkI .i64).one)).len _).symm) (cells_all (hs.cells 0 rfl)))⟩, ⟨_, rfl, (run_loadVar_agg (es := ((encA (encI .i64)) x25)) rfl (congrArg (Result.ok · _) ((fkA (n := 4) (he := (fkI .i64).len) (h1 := (fkI .i64).one)).len _).symm) (cells_all (hs.cells 1 rfl)))⟩, trivial⟩ (by simp)) ?_
    have hs : St _ [] _ := St.take (Γ' := [_,_,_,_]) hs
    exact ⟨_, rfl, rfl, hs⟩
  ·
   intro ha1_
   have hs := hs.pull 0 rfl
   have hs := hs.pull 1 rfl
   have hs := hs.pull 2 rfl
   have hs := hs.pull 3 rfl
   have hs := hs.pull 4 rfl
   have hs := hs.pull 5 rfl
   have hs : St _ [_,_,_,_,_,_] _ := St.take (Γ' := []) hs
   refine g_loop_fuel (I := fun n_ t w => ∃ x19 : (Ar Int 4), ∃ x20 : (Ar Int 4), ∃ x21 : Int, rounds (fun s => spec_l06Split.b0 N a1 a3 a2 s.1 s.2.1 s.2.2) n_ (x19, x20, x21) = some o1_ ∧ Fr t (fun O => (Value.int .i64 a1::O 1::O 2::O 3::Value.pointer (some ⟨b4, 0, none⟩)::Value.pointer (some ⟨b6, 0, none⟩)::Value.pointer (some ⟨b8, 0, none⟩)::Value.pointer (some ⟨b10, 0, none⟩)::Value.pointer (some ⟨b12, 0, none⟩)::Value.pointer (some ⟨b14, 0, none⟩)::Value.int .i64 x21::O 11::O 12::O 13::O 14::O 15::O 16::O 17::O 18::O 19::O 20::O 21::O 22::O 23::O 24::O 25::O 26::O 27::O 28::O 29::O 30::O 31::O 32::O 33::O 34::O 35::O 36::O 37::O 38::O 39::O 40::O 41::O 42::O 43::O 44::O 45::O 46::O 47::O 48::O 49::O 50::O 51::O 52::O 53::O 54::O 55::O 56::O 57::O 58::O 59::O 60::O 61::O 62::O 63::O 64::[] : List Value)) ∧ St w0 [Cells b4 ((encA (encI .i64)) a2) 25, Cells b6 ((encA (encI .i64)) a3) 25, Cells b8 ((encA (encI .i64)) (Ar.rep 4 0)) 25, Cells b10 ((encA (encI .i64)) (Ar.rep 4 0)) 25, Cells b12 ((encA (encI .i64)) x19) 25, Cells b14 ((encA (encI .i64)) x20) 25] w) N ⟨(Ar.rep 4 0), (Ar.rep 4 0), 0, Ho, rfl, hs⟩ ?_ ?_
   ·
    rintro _ _ ⟨x19, x20, x21, h, _⟩
    exact rounds_zero h
   ·
    intro n_ ih1_
    rintro t w ⟨x19, x20, x21, Ho, hf, hs⟩
    obtain ⟨O, rfl⟩ := hf.open
    try dsimp only
    obtain ⟨x29_, H, Hx1_⟩ := rounds_succ Ho
    have H : spec_l06Split.b0 N a1 a3 a2 x19 x20 x21 = some x29_ := H
    unfold spec_l06Split.b0 at H
    refine g_seq ?_
    refine g_seq ?_
    refine g_region ?_
    show G _ _ _ (.inRegion _ [0, 1, 2] :: _) _ _
    refine g_op (v := Value.int .i64 x21) rfl rfl rfl ?_
    refine g_d rfl ?_
    refine g_op (v := Value.int .i64 a1) rfl rfl rfl ?_
    refine g_d rfl ?_
    refine g_op_b (B := decide (x21 ≤ a1)) rfl rfl rfl ?_ ?_
    ·
     intro hb
     rw [if_pos (b_dec_t hb)] at H
     refine g_d rfl ?_
     try dsimp only [set0,setS]
     refine g_ops_nil ?_
     refine g_cond_true rfl ?_
     refine g_skip ?_
     refine g_seq ?_
     refine g_block_join (J := (fun t w => ∃ x22 : (Ar Int 4), ∃ x23 : (Ar Int 4), spec_l06Split.j2 N x21 x22 x23 = some x29_ ∧ Fr t (fun O => (Value.int .i64 a1::O 1::O 2::O 3::Value.pointer (some ⟨b4, 0, none⟩)::Value.pointer (some ⟨b6, 0, none⟩)::Value.pointer (some ⟨b8, 0, none⟩)::Value.pointer (some ⟨b10, 0, none⟩)::Value.pointer (some ⟨b12, 0, none⟩)::Value.pointer (some ⟨b14, 0, none⟩)::Value.int .i64 x21::O 11::O 12::O 13::O 14::O 15::O 16::O 17::O 18::O 19::O 20::O 21::O 22::O 23::O 24::O 25::O 26::O 27::O 28::O 29::O 30::O 31::O 32::O 33::O 34::O 35::O 36::O 37::O 38::O 39::O 40::O 41::O 42::O 43::O 44::O 45::O 46::O 47::O 48::O 49::O 50::O 51::O 52::O 53::O 54::O 55::O 56::O 57::O 58::O 59::O 60::O 61::O 62::O 63::O 64::[] : List Value)) ∧ St w0 [Cells b4 ((encA (encI .i64)) a2) 25, Cells b6 ((encA (encI .i64)) a3) 25, Cells b8 ((encA (encI .i64)) (Ar.rep 4 0)) 25, Cells b10 ((encA (encI .i64)) (Ar.rep 4 0)) 25, Cells b12 ((encA (encI .i64)) x22) 25, Cells b14 ((encA (encI .i64)) x23) 25] w)) ?_ ?_
     ·
      rintro t w ⟨x22, x23, H, hf, hs⟩
      obtain ⟨O, rfl⟩ := hf.open
      try dsimp only
      unfold spec_l06Split.j2 at H
      refine g_region ?_
      show G _ _ _ (.inRegion _ [0, 1, 2] :: _) _ _
      refine g_op (v := Value.int .i64 x21) rfl rfl rfl ?_
      refine g_d rfl ?_
      refine g_op (v := Value.int .i64 (i64w (x21 + 1))) rfl rfl rfl ?_
      refine g_d rfl ?_
      try dsimp only [set0,setS]
      refine g_op (v := Value.int .i64 (i64w (x21 + 1))) rfl rfl rfl ?_
      refine g_d rfl ?_
      try dsimp only [set0,setS]
      refine g_ops_nil ?_
      obtain rfl := Option.some.inj H
      have hs := hs.pull 5 rfl
      have hs := hs.pull 5 rfl
      have hs := hs.pull 5 rfl
      have hs := hs.pull 5 rfl
      have hs := hs.pull 5 rfl
      have hs := hs.pull 5 rfl
      have hs : St _ [_,_,_,_,_,_] _ := St.take (Γ' := []) hs
      exact ih1_ _ _ ⟨x22, x23, i64w (x21 + 1), Hx1_, rfl, hs⟩
     ·
      intro ha
      refine g_seq ?_
      obtain ⟨gd15, H⟩ := ite_get H
      obtain ⟨gd16, H⟩ := ite_get H
      obtain ⟨gd17, H⟩ := ite_get H
      refine g_name ?_
      intro T hT
      refine g_any (n := 9) rfl [0, 1, 2, 3, 4, 5, 6, 7, 8] [0, 1, 2, 3, 4, 5, 6, 7, 8] rfl rfl (Inv := fun D t w => ∃ O : Nat → Value, t = (Value.int .i64 a1::O 1::O 2::O 3::Value.pointer (some ⟨b4, 0, none⟩)::Value.pointer (some ⟨b6, 0, none⟩)::Value.pointer (some ⟨b8, 0, none⟩)::Value.pointer (some ⟨b10, 0, none⟩)::Value.pointer (some ⟨b12, 0, none⟩)::Value.pointer (some ⟨b14, 0, none⟩)::Value.int .i64 x21::O 11::O 12::Value.int .i64 x21::Value.int .i64 a1::Value.bool true::O 16::O 17::cnd (D 0) (Value.int .i64 x21) (O 18)::cnd (D 1) (Value.pointer (some ⟨b12, 0 + x21.toNat * 1, none⟩)) (O 19)::cnd (D 2) (Value.int .i64 (x19.get x21 0)) (O 20)::cnd (D 3) (Value.int .i64 x21) (O 21)::cnd (D 4) (Value.pointer (some ⟨b6, 0 + x21.toNat * 1, none⟩)) (O 22)::cnd (D 5) (Value.int .i64 (a3.get x21 0)) (O 23)::cnd (D 6) (Value.int .i64 (i64w ((x19.get x21 0) + (a3.get x21 0)))) (O 24)::cnd (D 7) (Value.pointer (some ⟨b12, 0 + x21.toNat * 1, none⟩)) (O 25)::O 26::O 27::O 28::O 29::O 30::O 31::O 32::O 33::O 34::O 35::O 36::O 37::O 38::O 39::O 40::O 41::O 42::O 43::O 44::O 45::O 46::O 47::O 48::O 49::O 50::O 51::O 52::O 53::O 54::O 55::O 56::O 57::O 58::O 59::O 60::O 61::O 62::O 63::O 64::[]) ∧ St w0 [Cells b4 ((encA (encI .i64)) a2) 25, Cells b6 ((encA (encI .i64)) a3) 25, Cells b8 ((encA (encI .i64)) (Ar.rep 4 0)) 25, Cells b10 ((encA (encI .i64)) (Ar.rep 4 0)) 25, Cells b12 (cnd (D 8) ((encA (encI .i64)) (x19.set x21 (i64w ((x19.get x21 0) + (a3.get x21 0))))) ((encA (encI .i64)) x19)) 25, Cells b14 ((encA (encI .i64)) x20) 25] w) ?_ ⟨⟨⟨⟨⟨⟨⟨⟨⟨trivial, ?_⟩, ?_⟩, ?_⟩, ?_⟩, ?_⟩, ?_⟩, ?_⟩, ?_⟩, ?_⟩ ?_
      ·
       intro w hh hbw
       have hs := hs.samew hh hbw
       exact ⟨fun i => T.getD i undef, (by subst hT; rfl), hs⟩
      ·
       intro D t w hD hp hcl hI rest hk
       obtain ⟨O, ht, hs⟩ := hI
       have q1_ : D 1 = false := not_yet (hcl.get 1 (by decide)) 0 0 rfl hD
       have q2_ : D 2 = false := not_yet (hcl.get 2 (by decide)) 0 1 rfl q1_
       have q6_ : D 6 = false := not_yet (hcl.get 6 (by decide)) 0 2 rfl q2_
       have q7_ : D 7 = false := not_yet (hcl.get 7 (by decide)) 0 0 rfl hD
       have q8_ : D 8 = false := not_yet (hcl.get 8 (by decide)) 0 7 rfl q7_
       simp only [hD, q1_, q2_, q6_, q7_, q8_, cnd_t, cnd_f, Asc_t, Asc_f] at ht hs
       subst ht
       refine g_op (v := Value.int .i64 x21) rfl rfl rfl ?_
       refine g_d rfl ?_
       try dsimp only [set0,setS]
       exact hk _ _ ⟨O, (by simp only [upd, Nat.reduceBEq, Bool.true_or, Bool.false_or, q1_, q2_, q6_, q7_, q8_, cnd_t, cnd_f, Asc_t, Asc_f]), hs.cast (by first | rfl | simp only [List.take, List.drop, List.cons_append, List.nil_append, List.set_cons_zero, List.set_cons_succ, List.eraseIdx, upd, Nat.reduceBEq, Bool.true_or, Bool.false_or, q1_, q2_, q6_, q7_, q8_, cnd_t, cnd_f, Asc_t, Asc_f])⟩
      ·
       intro D t w hD hp hcl hI rest hk
       obtain ⟨O, ht, hs⟩ := hI
       obtain ⟨p0_, _⟩ := hp
       have q2_ : D 2 = false := not_yet (hcl.get 2 (by decide)) 0 1 rfl hD
       have q6_ : D 6 = false := not_yet (hcl.get 6 (by decide)) 0 2 rfl q2_
       have q7_ : D 7 = false := not_yet (hcl.get 7 (by decide)) 2 1 rfl hD
       have q8_ : D 8 = false := not_yet (hcl.get 8 (by decide)) 0 7 rfl q7_
       simp only [hD, p0_, q2_, q6_, q7_, q8_, cnd_t, cnd_f, Asc_t, Asc_f] at ht hs
       subst ht
       refine s_idxA (n := x21) (m := 1) rfl (fun _ => rfl) gd15.1 gd15.2 rfl rfl rfl rfl rfl ?_
       refine g_d rfl ?_
       try dsimp only [set0,setS]
       exact hk _ _ ⟨O, (by simp only [upd, Nat.reduceBEq, Bool.true_or, Bool.false_or, p0_, q2_, q6_, q7_, q8_, cnd_t, cnd_f, Asc_t, Asc_f]), hs.cast (by first | rfl | simp only [List.take, List.drop, List.cons_append, List.nil_append, List.set_cons_zero, List.set_cons_succ, List.eraseIdx, upd, Nat.reduceBEq, Bool.true_or, Bool.false_or, p0_, q2_, q6_, q7_, q8_, cnd_t, cnd_f, Asc_t, Asc_f])⟩
      ·
       intro D t w hD hp hcl hI rest hk
       obtain ⟨O, ht, hs⟩ := hI
       obtain ⟨p1_, _⟩ := hp
       obtain ⟨p0_, _⟩ := (hcl.get 1 (by decide)) p1_
       have q6_ : D 6 = false := not_yet (hcl.get 6 (by decide)) 0 2 rfl hD
       have q7_ : D 7 = false := not_yet (hcl.get 7 (by decide)) 3 2 rfl hD
       have q8_ : D 8 = false := not_yet (hcl.get 8 (by decide)) 0 7 rfl q7_
       simp only [hD, p0_, p1_, q6_, q7_, q8_, cnd_t, cnd_f, Asc_t, Asc_f] at ht hs
       subst ht
       refine s_load1 rfl rfl (v := Value.int .i64 (x19.get x21 0)) rfl rfl (fun _ => rfl) (by rw [Nat.zero_add]; exact cells_load (hs.cells 4 rfl) _ _ (encA_at (fkI .i64).len _ _ 0 gd15.1 gd15.2)) ?_
       refine g_d rfl ?_
       try dsimp only [set0,setS]
       exact hk _ _ ⟨O, (by simp only [upd, Nat.reduceBEq, Bool.true_or, Bool.false_or, p0_, p1_, q6_, q7_, q8_, cnd_t, cnd_f, Asc_t, Asc_f]), hs.cast (by first | rfl | simp only [List.take, List.drop, List.cons_append, List.nil_append, List.set_cons_zero, List.set_cons_succ, List.eraseIdx, upd, Nat.reduceBEq, Bool.true_or, Bool.false_or, p0_, p1_, q6_, q7_, q8_, cnd_t, cnd_f, Asc_t, Asc_f])⟩
      ·
       intro D t w hD hp hcl hI rest hk
       obtain ⟨O, ht, hs⟩ := hI
       have q4_ : D 4 = false := not_yet (hcl.get 4 (by decide)) 0 3 rfl hD
       have q5_ : D 5 = false := not_yet (hcl.get 5 (by decide)) 0 4 rfl q4_
       have q6_ : D 6 = false := not_yet (hcl.get 6 (by decide)) 1 5 rfl q5_
       have q7_ : D 7 = false := not_yet (hcl.get 7 (by decide)) 4 3 rfl hD
       have q8_ : D 8 = false := not_yet (hcl.get 8 (by decide)) 0 7 rfl q7_
       simp only [hD, q4_, q5_, q6_, q7_, q8_, cnd_t, cnd_f, Asc_t, Asc_f] at ht hs
       subst ht
       refine g_op (v := Value.int .i64 x21) rfl rfl rfl ?_
       refine g_d rfl ?_
       try dsimp only [set0,setS]
       exact hk _ _ ⟨O, (by simp only [upd, Nat.reduceBEq, Bool.true_or, Bool.false_or, q4_, q5_, q6_, q7_, q8_, cnd_t, cnd_f, Asc_t, Asc_f]), hs.cast (by first | rfl | simp only [List.take, List.drop, List.cons_append, List.nil_append, List.set_cons_zero, List.set_cons_succ, List.eraseIdx, upd, Nat.reduceBEq, Bool.true_or, Bool.false_or, q4_, q5_, q6_, q7_, q8_, cnd_t, cnd_f, Asc_t, Asc_f])⟩
      ·
       intro D t w hD hp hcl hI rest hk
       obtain ⟨O, ht, hs⟩ := hI
       obtain ⟨p3_, _⟩ := hp
       have q5_ : D 5 = false := not_yet (hcl.get 5 (by decide)) 0 4 rfl hD
       have q6_ : D 6 = false := not_yet (hcl.get 6 (by decide)) 1 5 rfl q5_
       have q7_ : D 7 = false := not_yet (hcl.get 7 (by decide)) 5 4 rfl hD
       have q8_ : D 8 = false := not_yet (hcl.get 8 (by decide)) 0 7 rfl q7_
       simp only [hD, p3_, q5_, q6_, q7_, q8_, cnd_t, cnd_f, Asc_t, Asc_f] at ht hs
       subst ht
       refine s_idxA (n := x21) (m := 1) rfl (fun _ => rfl) gd16.1 gd16.2 rfl rfl rfl rfl rfl ?_
       refine g_d rfl ?_
       try dsimp only [set0,setS]
       exact hk _ _ ⟨O, (by simp only [upd, Nat.reduceBEq, Bool.true_or, Bool.false_or, p3_, q5_, q6_, q7_, q8_, cnd_t, cnd_f, Asc_t, Asc_f]), hs.cast (by first | rfl | simp only [List.take, List.drop, List.cons_append, List.nil_append, List.set_cons_zero, List.set_cons_succ, List.eraseIdx, upd, Nat.reduceBEq, Bool.true_or, Bool.false_or, p3_, q5_, q6_, q7_, q8_, cnd_t, cnd_f, Asc_t, Asc_f])⟩
      ·
       intro D t w hD hp hcl hI rest hk
       obtain ⟨O, ht, hs⟩ := hI
       obtain ⟨p4_, _⟩ := hp
       obtain ⟨p3_, _⟩ := (hcl.get 4 (by decide)) p4_
       have q6_ : D 6 = false := not_yet (hcl.get 6 (by decide)) 1 5 rfl hD
       have q7_ : D 7 = false := not_yet (hcl.get 7 (by decide)) 6 5 rfl hD
       have q8_ : D 8 = false := not_yet (hcl.get 8 (by decide)) 0 7 rfl q7_
       simp only [hD, p3_, p4_, q6_, q7_, q8_, cnd_t, cnd_f, Asc_t, Asc_f] at ht hs
       subst ht
       refine s_load1 rfl rfl (v := Value.int .i64 (a3.get x21 0)) rfl rfl (fun _ => rfl) (by rw [Nat.zero_add]; exact cells_load (hs.cells 1 rfl) _ _ (encA_at (fkI .i64).len _ _ 0 gd16.1 gd16.2)) ?_
       refine g_d rfl ?_
       try dsimp only [set0,setS]
       exact hk _ _ ⟨O, (by simp only [upd, Nat.reduceBEq, Bool.true_or, Bool.false_or, p3_, p4_, q6_, q7_, q8_, cnd_t, cnd_f, Asc_t, Asc_f]), hs.cast (by first | rfl | simp only [List.take, List.drop, List.cons_append, List.nil_append, List.set_cons_zero, List.set_cons_succ, List.eraseIdx, upd, Nat.reduceBEq, Bool.true_or, Bool.false_or, p3_, p4_, q6_, q7_, q8_, cnd_t, cnd_f, Asc_t, Asc_f])⟩
      ·
       intro D t w hD hp hcl hI rest hk
       obtain ⟨O, ht, hs⟩ := hI
       obtain ⟨p2_, p5_, _⟩ := hp
       obtain ⟨p4_, _⟩ := (hcl.get 5 (by decide)) p5_
       obtain ⟨p3_, _⟩ := (hcl.get 4 (by decide)) p4_
       obtain ⟨p1_, _⟩ := (hcl.get 2 (by decide)) p2_
       obtain ⟨p0_, _⟩ := (hcl.get 1 (by decide)) p1_
       have q7_ : D 7 = false := not_yet (hcl.get 7 (by decide)) 7 6 rfl hD
       have q8_ : D 8 = false := not_yet (hcl.get 8 (by decide)) 0 7 rfl q7_
       simp only [hD, p0_, p1_, p2_, p3_, p4_, p5_, q7_, q8_, cnd_t, cnd_f, Asc_t, Asc_f] at ht hs
       subst ht
       refine g_op (v := Value.int .i64 (i64w ((x19.get x21 0) + (a3.get x21 0)))) rfl rfl rfl ?_
       refine g_d rfl ?_
       try dsimp only [set0,setS]
       exact hk _ _ ⟨O, (by simp only [upd, Nat.reduceBEq, Bool.true_or, Bool.false_or, p0_, p1_, p2_, p3_, p4_, p5_, q7_, q8_, cnd_t, cnd_f, Asc_t, Asc_f]), hs.cast (by first | rfl | simp only [List.take, List.drop, List.cons_append, List.nil_append, List.set_cons_zero, List.set_cons_succ, List.eraseIdx, upd, Nat.reduceBEq, Bool.true_or, Bool.false_or, p0_, p1_, p2_, p3_, p4_, p5_, q7_, q8_, cnd_t, cnd_f, Asc_t, Asc_f])⟩
      ·
       intro D t w hD hp hcl hI rest hk
       obtain ⟨O, ht, hs⟩ := hI
       obtain ⟨p0_, _, p1_, p2_, p3_, p4_, p5_, p6_, _⟩ := hp
       have q8_ : D 8 = false := not_yet (hcl.get 8 (by decide)) 0 7 rfl hD
       simp only [hD, p0_, p1_, p2_, p3_, p4_, p5_, p6_, q8_, cnd_t, cnd_f, Asc_t, Asc_f] at ht hs
       subst ht
       refine s_idxA (n := x21) (m := 1) rfl (fun _ => rfl) gd17.1 gd17.2 rfl rfl rfl rfl rfl ?_
       refine g_d rfl ?_
       try dsimp only [set0,setS]
       exact hk _ _ ⟨O, (by simp only [upd, Nat.reduceBEq, Bool.true_or, Bool.false_or, p0_, p1_, p2_, p3_, p4_, p5_, p6_, q8_, cnd_t, cnd_f, Asc_t, Asc_f]), hs.cast (by first | rfl | simp only [List.take, List.drop, List.cons_append, List.nil_append, List.set_cons_zero, List.set_cons_succ, List.eraseIdx, upd, Nat.reduceBEq, Bool.true_or, Bool.false_or, p0_, p1_, p2_, p3_, p4_, p5_, p6_, q8_, cnd_t, cnd_f, Asc_t, Asc_f])⟩
      ·
       intro D t w hD hp hcl hI rest hk
       obtain ⟨O, ht, hs⟩ := hI
       obtain ⟨p7_, p6_, p0_, p1_, p2_, p3_, p4_, p5_, _, _⟩ := hp
       simp only [hD, p0_, p1_, p2_, p3_, p4_, p5_, p6_, p7_, cnd_t, cnd_f, Asc_t, Asc_f] at ht hs
       subst ht
       have hs := hs.pull 4 rfl
       have hs : St _ [_,_,_,_,_,_] _ := hs
       refine s_storeA (y := i64w ((x19.get x21 0) + (a3.get x21 0))) (fkI .i64).len (fkI .i64).one gd17.1 gd17.2 hs rfl rfl rfl rfl rfl (fun _ => rfl) ?_
       intro w hs
       refine g_n rfl ?_
       try dsimp only [set0,setS]
       have hs := hs.push 4 (by simp)
       exact hk _ _ ⟨O, (by simp only [upd, Nat.reduceBEq, Bool.true_or, Bool.false_or, p0_, p1_, p2_, p3_, p4_, p5_, p6_, p7_, cnd_t, cnd_f, Asc_t, Asc_f]), hs.cast (by first | rfl | simp only [List.take, List.drop, List.cons_append, List.nil_append, List.set_cons_zero, List.set_cons_succ, List.eraseIdx, upd, Nat.reduceBEq, Bool.true_or, Bool.false_or, p0_, p1_, p2_, p3_, p4_, p5_, p6_, p7_, cnd_t, cnd_f, Asc_t, Asc_f])⟩
      ·
       intro D t w hall hI
       obtain ⟨O, ht, hs⟩ := hI
       have p0_ : D 0 = true := hall 0 (by decide)
       have p1_ : D 1 = true := hall 1 (by decide)
       have p2_ : D 2 = true := hall 2 (by decide)
       have p3_ : D 3 = true := hall 3 (by decide)
       have p4_ : D 4 = true := hall 4 (by decide)
       have p5_ : D 5 = true := hall 5 (by decide)
       have p6_ : D 6 = true := hall 6 (by decide)
       have p7_ : D 7 = true := hall 7 (by decide)
       have p8_ : D 8 = true := hall 8 (by decide)
       simp only [p0_, p1_, p2_, p3_, p4_, p5_, p6_, p7_, p8_, cnd_t, cnd_f, Asc_t, Asc_f] at ht hs
       subst ht
       refine g_seq ?_
       obtain ⟨gd18, H⟩ := ite_get H
       obtain ⟨gd19, H⟩ := ite_get H
       obtain ⟨gd20, H⟩ := ite_get H
       obtain ⟨gd21, H⟩ := ite_get H
       refine g_name ?_
       intro T hT
       refine g_any (n := 13) rfl [0, 1, 2, 3, 4, 5, 6, 7, 8, 9, 10, 11, 12] [0, 1, 2, 3, 4, 5, 6, 7, 8, 9, 10, 11, 12] rfl rfl (Inv := fun D t w => ∃ O : Nat → Value, t = (Value.int .i64 a1::O 1::O 2::O 3::Value.pointer (some ⟨b4, 0, none⟩)::Value.pointer (some ⟨b6, 0, none⟩)::Value.pointer (some ⟨b8, 0, none⟩)::Value.pointer (some ⟨b10, 0, none⟩)::Value.pointer (some ⟨b12, 0, none⟩)::Value.pointer (some ⟨b14, 0, none⟩)::Value.int .i64 x21::O 11::O 12::Value.int .i64 x21::Value.int .i64 a1::Value.bool true::O 16::O 17::Value.int .i64 x21::Value.pointer (some ⟨b12, 0 + x21.toNat * 1, none⟩)::Value.int .i64 (x19.get x21 0)::Value.int .i64 x21::Value.pointer (some ⟨b6, 0 + x21.toNat * 1, none⟩)::Value.int .i64 (a3.get x21 0)::Value.int .i64 (i64w ((x19.get x21 0) + (a3.get x21 0)))::Value.pointer (some ⟨b12, 0 + x21.toNat * 1, none⟩)::cnd (D 0) (Value.int .i64 x21) (O 26)::cnd (D 1) (Value.pointer (some ⟨b14, 0 + x21.toNat * 1, none⟩)) (O 27)::cnd (D 2) (Value.int .i64 (x20.get x21 0)) (O 28)::cnd (D 3) (Value.int .i64 x21) (O 29)::cnd (D 4) (Value.pointer (some ⟨b4, 0 + x21.toNat * 1, none⟩)) (O 30)::cnd (D 5) (Value.int .i64 (a2.get x21 0)) (O 31)::cnd (D 6) (Value.int .i64 x21) (O 32)::cnd (D 7) (Value.pointer (some ⟨b6, 0 + x21.toNat * 1, none⟩)) (O 33)::cnd (D 8) (Value.int .i64 (a3.get x21 0)) (O 34)::cnd (D 9) (Value.int .i64 (i64w ((a2.get x21 0) - (a3.get x21 0)))) (O 35)::cnd (D 10) (Value.int .i64 (i64w ((x20.get x21 0) + (i64w ((a2.get x21 0) - (a3.get x21 0)))))) (O 36)::cnd (D 11) (Value.pointer (some ⟨b14, 0 + x21.toNat * 1, none⟩)) (O 37)::O 38::O 39::O 40::O 41::O 42::O 43::O 44::O 45::O 46::O 47::O 48::O 49::O 50::O 51::O 52::O 53::O 54::O 55::O 56::O 57::O 58::O 59::O 60::O 61::O 62::O 63::O 64::[]) ∧ St w0 [Cells b4 ((encA (encI .i64)) a2) 25, Cells b6 ((encA (encI .i64)) a3) 25, Cells b8 ((encA (encI .i64)) (Ar.rep 4 0)) 25, Cells b10 ((encA (encI .i64)) (Ar.rep 4 0)) 25, Cells b12 ((encA (encI .i64)) (x19.set x21 (i64w ((x19.get x21 0) + (a3.get x21 0))))) 25, Cells b14 (cnd (D 12) ((encA (encI .i64)) (x20.set x21 (i64w ((x20.get x21 0) + (i64w ((a2.get x21 0) - (a3.get x21 0))))))) ((encA (encI .i64)) x20)) 25] w) ?_ ⟨⟨⟨⟨⟨⟨⟨⟨⟨⟨⟨⟨⟨trivial, ?_⟩, ?_⟩, ?_⟩, ?_⟩, ?_⟩, ?_⟩, ?_⟩, ?_⟩, ?_⟩, ?_⟩, ?_⟩, ?_⟩, ?_⟩ ?_
       ·
        intro w hh hbw
        have hs := hs.samew hh hbw
        exact ⟨fun i => T.getD i undef, (by subst hT; rfl), hs⟩
       ·
        intro D t w hD hp hcl hI rest hk
        obtain ⟨O, ht, hs⟩ := hI
        have q1_ : D 1 = false := not_yet (hcl.get 1 (by decide)) 0 0 rfl hD
        have q2_ : D 2 = false := not_yet (hcl.get 2 (by decide)) 0 1 rfl q1_
        have q10_ : D 10 = false := not_yet (hcl.get 10 (by decide)) 0 2 rfl q2_
        have q11_ : D 11 = false := not_yet (hcl.get 11 (by decide)) 0 0 rfl hD
        have q12_ : D 12 = false := not_yet (hcl.get 12 (by decide)) 0 11 rfl q11_
        simp only [hD, q1_, q2_, q10_, q11_, q12_, cnd_t, cnd_f, Asc_t, Asc_f] at ht hs
        subst ht
        refine g_op (v := Value.int .i64 x21) rfl rfl rfl ?_
        refine g_d rfl ?_
        try dsimp only [set0,setS]
        exact hk _ _ ⟨O, (by simp only [upd, Nat.reduceBEq, Bool.true_or, Bool.false_or, q1_, q2_, q10_, q11_, q12_, cnd_t, cnd_f, Asc_t, Asc_f]), hs.cast (by first | rfl | simp only [List.take, List.drop, List.cons_append, List.nil_append, List.set_cons_zero, List.set_cons_succ, List.eraseIdx, upd, Nat.reduceBEq, Bool.true_or, Bool.false_or, q1_, q2_, q10_, q11_, q12_, cnd_t, cnd_f, Asc_t, Asc_f])⟩
       ·
        intro D t w hD hp hcl hI rest hk
        obtain ⟨O, ht, hs⟩ := hI
        obtain ⟨p0_, _⟩ := hp
        have q2_ : D 2 = false := not_yet (hcl.get 2 (by decide)) 0 1 rfl hD
        have q10_ : D 10 = false := not_yet (hcl.get 10 (by decide)) 0 2 rfl q2_
        have q11_ : D 11 = false := not_yet (hcl.get 11 (by decide)) 2 1 rfl hD
        have q12_ : D 12 = false := not_yet (hcl.get 12 (by decide)) 0 11 rfl q11_
        simp only [hD, p0_, q2_, q10_, q11_, q12_, cnd_t, cnd_f, Asc_t, Asc_f] at ht hs
        subst ht
        refine s_idxA (n := x21) (m := 1) rfl (fun _ => rfl) gd18.1 gd18.2 rfl rfl rfl rfl rfl ?_
        refine g_d rfl ?_
        try dsimp only [set0,setS]
        exact hk _ _ ⟨O, (by simp only [upd, Nat.reduceBEq, Bool.true_or, Bool.false_or, p0_, q2_, q10_, q11_, q12_, cnd_t, cnd_f, Asc_t, Asc_f]), hs.cast (by first | rfl | simp only [List.take, List.drop, List.cons_append, List.nil_append, List.set_cons_zero, List.set_cons_succ, List.eraseIdx, upd, Nat.reduceBEq, Bool.true_or, Bool.false_or, p0_, q2_, q10_, q11_, q12_, cnd_t, cnd_f, Asc_t, Asc_f])⟩
       ·
        intro D t w hD hp hcl hI rest hk
        obtain ⟨O, ht, hs⟩ := hI
        obtain ⟨p1_, _⟩ := hp
        obtain ⟨p0_, _⟩ := (hcl.get 1 (by decide)) p1_
        have q10_ : D 10 = false := not_yet (hcl.get 10 (by decide)) 0 2 rfl hD
        have q11_ : D 11 = false := not_yet (hcl.get 11 (by decide)) 3 2 rfl hD
        have q12_ : D 12 = false := not_yet (hcl.get 12 (by decide)) 0 11 rfl q11_
        simp only [hD, p0_, p1_, q10_, q11_, q12_, cnd_t, cnd_f, Asc_t, Asc_f] at ht hs
        subst ht
        refine s_load1 rfl rfl (v := Value.int .i64 (x20.get x21 0)) rfl rfl (fun _ => rfl) (by rw [Nat.zero_add]; exact cells_load (hs.cells 5 rfl) _ _ (encA_at (fkI .i64).len _ _ 0 gd18.1 gd18.2)) ?_
        refine g_d rfl ?_
        try dsimp only [set0,setS]
        exact hk _ _ ⟨O, (by simp only [upd, Nat.reduceBEq, Bool.true_or, Bool.false_or, p0_, p1_, q10_, q11_, q12_, cnd_t, cnd_f, Asc_t, Asc_f]), hs.cast (by first | rfl | simp only [List.take, List.drop, List.cons_append, List.nil_append, List.set_cons_zero, List.set_cons_succ, List.eraseIdx, upd, Nat.reduceBEq, Bool.true_or, Bool.false_or, p0_, p1_, q10_, q11_, q12_, cnd_t, cnd_f, Asc_t, Asc_f])⟩
       ·
        intro D t w hD hp hcl hI rest hk
        obtain ⟨O, ht, hs⟩ := hI
        have q4_ : D 4 = false := not_yet (hcl.get 4 (by decide)) 0 3 rfl hD
        have q5_ : D 5 = false := not_yet (hcl.get 5 (by decide)) 0 4 rfl q4_
        have q9_ : D 9 = false := not_yet (hcl.get 9 (by decide)) 0 5 rfl q5_
        have q10_ : D 10 = false := not_yet (hcl.get 10 (by decide)) 1 9 rfl q9_
        have q11_ : D 11 = false := not_yet (hcl.get 11 (by decide)) 4 3 rfl hD
        have q12_ : D 12 = false := not_yet (hcl.get 12 (by decide)) 0 11 rfl q11_
        simp only [hD, q4_, q5_, q9_, q10_, q11_, q12_, cnd_t, cnd_f, Asc_t, Asc_f] at ht hs
        subst ht
        refine g_op (v := Value.int .i64 x21) rfl rfl rfl ?_
        refine g_d rfl ?_
        try dsimp only [set0,setS]
        exact hk _ _ ⟨O, (by simp only [upd, Nat.reduceBEq, Bool.true_or, Bool.false_or, q4_, q5_, q9_, q10_, q11_, q12_, cnd_t, cnd_f, Asc_t, Asc_f]), hs.cast (by first | rfl | simp only [List.take, List.drop, List.cons_append, List.nil_append, List.set_cons_zero, List.set_cons_succ, List.eraseIdx, upd, Nat.reduceBEq, Bool.true_or, Bool.false_or, q4_, q5_, q9_, q10_, q11_, q12_, cnd_t, cnd_f, Asc_t, Asc_f])⟩
       ·
        intro D t w hD hp hcl hI rest hk
        obtain ⟨O, ht, hs⟩ := hI
        obtain ⟨p3_, _⟩ := hp
        have q5_ : D 5 = false := not_yet (hcl.get 5 (by decide)) 0 4 rfl hD
        have q9_ : D 9 = false := not_yet (hcl.get 9 (by decide)) 0 5 rfl q5_
        have q10_ : D 10 = false := not_yet (hcl.get 10 (by decide)) 1 9 rfl q9_
        have q11_ : D 11 = false := not_yet (hcl.get 11 (by decide)) 5 4 rfl hD
        have q12_ : D 12 = false := not_yet (hcl.get 12 (by decide)) 0 11 rfl q11_
        simp only [hD, p3_, q5_, q9_, q10_, q11_, q12_, cnd_t, cnd_f, Asc_t, Asc_f] at ht hs
        subst ht
        refine s_idxA (n := x21) (m := 1) rfl (fun _ => rfl) gd19.1 gd19.2 rfl rfl rfl rfl rfl ?_
        refine g_d rfl ?_
        try dsimp only [set0,setS]
        exact hk _ _ ⟨O, (by simp only [upd, Nat.reduceBEq, Bool.true_or, Bool.false_or, p3_, q5_, q9_, q10_, q11_, q12_, cnd_t, cnd_f, Asc_t, Asc_f]), hs.cast (by first | rfl | simp only [List.take, List.drop, List.cons_append, List.nil_append, List.set_cons_zero, List.set_cons_succ, List.eraseIdx, upd, Nat.reduceBEq, Bool.true_or, Bool.false_or, p3_, q5_, q9_, q10_, q11_, q12_, cnd_t, cnd_f, Asc_t, Asc_f])⟩
       ·
        intro D t w hD hp hcl hI rest hk
        obtain ⟨O, ht, hs⟩ := hI
        obtain ⟨p4_, _⟩ := hp
        obtain ⟨p3_, _⟩ := (hcl.get 4 (by decide)) p4_
        have q9_ : D 9 = false := not_yet (hcl.get 9 (by decide)) 0 5 rfl hD
        have q10_ : D 10 = false := not_yet (hcl.get 10 (by decide)) 1 9 rfl q9_
        have q11_ : D 11 = false := not_yet (hcl.get 11 (by decide)) 6 5 rfl hD
        have q12_ : D 12 = false := not_yet (hcl.get 12 (by decide)) 0 11 rfl q11_
        simp only [hD, p3_, p4_, q9_, q10_, q11_, q12_, cnd_t, cnd_f, Asc_t, Asc_f] at ht hs
        subst ht
        refine s_load1 rfl rfl (v := Value.int .i64 (a2.get x21 0)) rfl rfl (fun _ => rfl) (by rw [Nat.zero_add]; exact cells_load (hs.cells 0 rfl) _ _ (encA_at (fkI .i64).len _ _ 0 gd19.1 gd19.2)) ?_
        refine g_d rfl ?_
        try dsimp only [set0,setS]
        exact hk _ _ ⟨O, (by simp only [upd, Nat.reduceBEq, Bool.true_or, Bool.false_or, p3_, p4_, q9_, q10_, q11_, q12_, cnd_t, cnd_f, Asc_t, Asc_f]), hs.cast (by first | rfl | simp only [List.take, List.drop, List.cons_append, List.nil_append, List.set_cons_zero, List.set_cons_succ, List.eraseIdx, upd, Nat.reduceBEq, Bool.true_or, Bool.false_or, p3_, p4_, q9_, q10_, q11_, q12_, cnd_t, cnd_f, Asc_t, Asc_f])⟩
       ·
        intro D t w hD hp hcl hI rest hk
        obtain ⟨O, ht, hs⟩ := hI
        have q7_ : D 7 = false := not_yet (hcl.get 7 (by decide)) 0 6 rfl hD
        have q8_ : D 8 = false := not_yet (hcl.get 8 (by decide)) 0 7 rfl q7_
        have q9_ : D 9 = false := not_yet (hcl.get 9 (by decide)) 1 8 rfl q8_
        have q10_ : D 10 = false := not_yet (hcl.get 10 (by decide)) 1 9 rfl q9_
        have q11_ : D 11 = false := not_yet (hcl.get 11 (by decide)) 7 6 rfl hD
        have q12_ : D 12 = false := not_yet (hcl.get 12 (by decide)) 0 11 rfl q11_
        simp only [hD, q7_, q8_, q9_, q10_, q11_, q12_, cnd_t, cnd_f, Asc_t, Asc_f] at ht hs
        subst ht
        refine g_op (v := Value.int .i64 x21) rfl rfl rfl ?_
        refine g_d rfl ?_
        try dsimp only [set0,setS]
        exact hk _ _ ⟨O, (by simp only [upd, Nat.reduceBEq, Bool.true_or, Bool.false_or, q7_, q8_, q9_, q10_, q11_, q12_, cnd_t, cnd_f, Asc_t, Asc_f]), hs.cast (by first | rfl | simp only [List.take, List.drop, List.cons_append, List.nil_append, List.set_cons_zero, List.set_cons_succ, List.eraseIdx, upd, Nat.reduceBEq, Bool.true_or, Bool.false_or, q7_, q8_, q9_, q10_, q11_, q12_, cnd_t, cnd_f, Asc_t, Asc_f])⟩
       ·
        intro D t w hD hp hcl hI rest hk
        obtain ⟨O, ht, hs⟩ := hI
        obtain ⟨p6_, _⟩ := hp
        have q8_ : D 8 = false := not_yet (hcl.get 8 (by decide)) 0 7 rfl hD
        have q9_ : D 9 = false := not_yet (hcl.get 9 (by decide)) 1 8 rfl q8_
        have q10_ : D 10 = false := not_yet (hcl.get 10 (by decide)) 1 9 rfl q9_
        have q11_ : D 11 = false := not_yet (hcl.get 11 (by decide)) 8 7 rfl hD
        have q12_ : D 12 = false := not_yet (hcl.get 12 (by decide)) 0 11 rfl q11_
        simp only [hD, p6_, q8_, q9_, q10_, q11_, q12_, cnd_t, cnd_f, Asc_t, Asc_f] at ht hs
        subst ht
        refine s_idxA (n := x21) (m := 1) rfl (fun _ => rfl) gd20.1 gd20.2 rfl rfl rfl rfl rfl ?_
        refine g_d rfl ?_
        try dsimp only [set0,setS]
        exact hk _ _ ⟨O, (by simp only [upd, Nat.reduceBEq, Bool.true_or, Bool.false_or, p6_, q8_, q9_, q10_, q11_, q12_, cnd_t, cnd_f, Asc_t, Asc_f]), hs.cast (by first | rfl | simp only [List.take, List.drop, List.cons_append, List.nil_append, List.set_cons_zero, List.set_cons_succ, List.eraseIdx, upd, Nat.reduceBEq, Bool.true_or, Bool.false_or, p6_, q8_, q9_, q10_, q11_, q12_, cnd_t, cnd_f, Asc_t, Asc_f])⟩
       ·
        intro D t w hD hp hcl hI rest hk
        obtain ⟨O, ht, hs⟩ := hI
        obtain ⟨p7_, _⟩ := hp
        obtain ⟨p6_, _⟩ := (hcl.get 7 (by decide)) p7_
        have q9_ : D 9 = false := not_yet (hcl.get 9 (by decide)) 1 8 rfl hD
        have q10_ : D 10 = false := not_yet (hcl.get 10 (by decide)) 1 9 rfl q9_
        have q11_ : D 11 = false := not_yet (hcl.get 11 (by decide)) 9 8 rfl hD
        have q12_ : D 12 = false := not_yet (hcl.get 12 (by decide)) 0 11 rfl q11_
        simp only [hD, p6_, p7_, q9_, q10_, q11_, q12_, cnd_t, cnd_f, Asc_t, Asc_f] at ht hs
        subst ht
        refine s_load1 rfl rfl (v := Value.int .i64 (a3.get x21 0)) rfl rfl (fun _ => rfl) (by rw [Nat.zero_add]; exact cells_load (hs.cells 1 rfl) _ _ (encA_at (fkI .i64).len _ _ 0 gd20.1 gd20.2)) ?_
        refine g_d rfl ?_
        try dsimp only [set0,setS]
        exact hk _ _ ⟨O, (by simp only [upd, Nat.reduceBEq, Bool.true_or, Bool.false_or, p6_, p7_, q9_, q10_, q11_, q12_, cnd_t, cnd_f, Asc_t, Asc_f]), hs.cast (by first | rfl | simp only [List.take, List.drop, List.cons_append, List.nil_append, List.set_cons_zero, List.set_cons_succ, List.eraseIdx, upd, Nat.reduceBEq, Bool.true_or, Bool.false_or, p6_, p7_, q9_, q10_, q11_, q12_, cnd_t, cnd_f, Asc_t, Asc_f])⟩
       ·
        intro D t w hD hp hcl hI rest hk
        obtain ⟨O, ht, hs⟩ := hI
        obtain ⟨p5_, p8_, _⟩ := hp
        obtain ⟨p7_, _⟩ := (hcl.get 8 (by decide)) p8_
        obtain ⟨p6_, _⟩ := (hcl.get 7 (by decide)) p7_
        obtain ⟨p4_, _⟩ := (hcl.get 5 (by decide)) p5_
        obtain ⟨p3_, _⟩ := (hcl.get 4 (by decide)) p4_
        have q10_ : D 10 = false := not_yet (hcl.get 10 (by decide)) 1 9 rfl hD
        have q11_ : D 11 = false := not_yet (hcl.get 11 (by decide)) 10 9 rfl hD
        have q12_ : D 12 = false := not_yet (hcl.get 12 (by decide)) 0 11 rfl q11_
        simp only [hD, p3_, p4_, p5_, p6_, p7_, p8_, q10_, q11_, q12_, cnd_t, cnd_f, Asc_t, Asc_f] at ht hs
        subst ht
        refine g_op (v := Value.int .i64 (i64w ((a2.get x21 0) - (a3.get x21 0)))) rfl rfl rfl ?_
        refine g_d rfl ?_
        try dsimp only [set0,setS]
        exact hk _ _ ⟨O, (by simp only [upd, Nat.reduceBEq, Bool.true_or, Bool.false_or, p3_, p4_, p5_, p6_, p7_, p8_, q10_, q11_, q12_, cnd_t, cnd_f, Asc_t, Asc_f]), hs.cast (by first | rfl | simp only [List.take, List.drop, List.cons_append, List.nil_append, List.set_cons_zero, List.set_cons_succ, List.eraseIdx, upd, Nat.reduceBEq, Bool.true_or, Bool.false_or, p3_, p4_, p5_, p6_, p7_, p8_, q10_, q11_, q12_, cnd_t, cnd_f, Asc_t, Asc_f])⟩
       ·
        intro D t w hD hp hcl hI rest hk
        obtain ⟨O, ht, hs⟩ := hI
        obtain ⟨p2_, p9_, _⟩ := hp
        obtain ⟨p5_, p8_, _⟩ := (hcl.get 9 (by decide)) p9_
        obtain ⟨p7_, _⟩ := (hcl.get 8 (by decide)) p8_
        obtain ⟨p6_, _⟩ := (hcl.get 7 (by decide)) p7_
        obtain ⟨p4_, _⟩ := (hcl.get 5 (by decide)) p5_
        obtain ⟨p3_, _⟩ := (hcl.get 4 (by decide)) p4_
        obtain ⟨p1_, _⟩ := (hcl.get 2 (by decide)) p2_
        obtain ⟨p0_, _⟩ := (hcl.get 1 (by decide)) p1_
        have q11_ : D 11 = false := not_yet (hcl.get 11 (by decide)) 11 10 rfl hD
        have q12_ : D 12 = false := not_yet (hcl.get 12 (by decide)) 0 11 rfl q11_
        simp only [hD, p0_, p1_, p2_, p3_, p4_, p5_, p6_, p7_, p8_, p9_, q11_, q12_, cnd_t, cnd_f, Asc_t, Asc_f] at ht hs
        subst ht
        refine g_op (v := Value.int .i64 (i64w ((x20.get x21 0) + (i64w ((a2.get x21 0) - (a3.get x21 0)))))) rfl rfl rfl ?_
        refine g_d rfl ?_
        try dsimp only [set0,setS]
        exact hk _ _ ⟨O, (by simp only [upd, Nat.reduceBEq, Bool.true_or, Bool.false_or, p0_, p1_, p2_, p3_, p4_, p5_, p6_, p7_, p8_, p9_, q11_, q12_, cnd_t, cnd_f, Asc_t, Asc_f]), hs.cast (by first | rfl | simp only [List.take, List.drop, List.cons_append, List.nil_append, List.set_cons_zero, List.set_cons_succ, List.eraseIdx, upd, Nat.reduceBEq, Bool.true_or, Bool.false_or, p0_, p1_, p2_, p3_, p4_, p5_, p6_, p7_, p8_, p9_, q11_, q12_, cnd_t, cnd_f, Asc_t, Asc_f])⟩
       ·
        intro D t w hD hp hcl hI rest hk
        obtain ⟨O, ht, hs⟩ := hI
        obtain ⟨p0_, _, p1_, p2_, p3_, p4_, p5_, p6_, p7_, p8_, p9_, p10_, _⟩ := hp
        have q12_ : D 12 = false := not_yet (hcl.get 12 (by decide)) 0 11 rfl hD
        simp only [hD, p0_, p1_, p2_, p3_, p4_, p5_, p6_, p7_, p8_, p9_, p10_, q12_, cnd_t, cnd_f, Asc_t, Asc_f] at ht hs
        subst ht
        refine s_idxA (n := x21) (m := 1) rfl (fun _ => rfl) gd21.1 gd21.2 rfl rfl rfl rfl rfl ?_
        refine g_d rfl ?_
        try dsimp only [set0,setS]
        exact hk _ _ ⟨O, (by simp only [upd, Nat.reduceBEq, Bool.true_or, Bool.false_or, p0_, p1_, p2_, p3_, p4_, p5_, p6_, p7_, p8_, p9_, p10_, q12_, cnd_t, cnd_f, Asc_t, Asc_f]), hs.cast (by first | rfl | simp only [List.take, List.drop, List.cons_append, List.nil_append, List.set_cons_zero, List.set_cons_succ, List.eraseIdx, upd, Nat.reduceBEq, Bool.true_or, Bool.false_or, p0_, p1_, p2_, p3_, p4_, p5_, p6_, p7_, p8_, p9_, p10_, q12_, cnd_t, cnd_f, Asc_t, Asc_f])⟩
       ·
        intro D t w hD hp hcl hI rest hk
        obtain ⟨O, ht, hs⟩ := hI
        obtain ⟨p11_, p10_, p0_, p1_, p2_, p3_, p4_, p5_, p6_, p7_, p8_, p9_, _, _⟩ := hp
        simp only [hD, p0_, p1_, p2_, p3_, p4_, p5_, p6_, p7_, p8_, p9_, p10_, p11_, cnd_t, cnd_f, Asc_t, Asc_f] at ht hs
        subst ht
        have hs := hs.pull 5 rfl
        have hs : St _ [_,_,_,_,_,_] _ := hs
        refine s_storeA (y := i64w ((x20.get x21 0) + (i64w ((a2.get x21 0) - (a3.get x21 0))))) (fkI .i64).len (fkI .i64).one gd21.1 gd21.2 hs rfl rfl rfl rfl rfl (fun _ => rfl) ?_
        intro w hs
        refine g_n rfl ?_
        try dsimp only [set0,setS]
        have hs := hs.push 5 (by simp)
        exact hk _ _ ⟨O, (by simp only [upd, Nat.reduceBEq, Bool.true_or, Bool.false_or, p0_, p1_, p2_, p3_, p4_, p5_, p6_, p7_, p8_, p9_, p10_, p11_, cnd_t, cnd_f, Asc_t, Asc_f]), hs.cast (by first | rfl | simp only [List.take, List.drop, List.cons_append, List.nil_append, List.set_cons_zero, List.set_cons_succ, List.eraseIdx, upd, Nat.reduceBEq, Bool.true_or, Bool.false_or, p0_, p1_, p2_, p3_, p4_, p5_, p6_, p7_, p8_, p9_, p10_, p11_, cnd_t, cnd_f, Asc_t, Asc_f])⟩
       ·
        intro D t w hall hI
        obtain ⟨O, ht, hs⟩ := hI
        have p0_ : D 0 = true := hall 0 (by decide)
        have p1_ : D 1 = true := hall 1 (by decide)
        have p2_ : D 2 = true := hall 2 (by decide)
        have p3_ : D 3 = true := hall 3 (by decide)
        have p4_ : D 4 = true := hall 4 (by decide)
        have p5_ : D 5 = true := hall 5 (by decide)
        have p6_ : D 6 = true := hall 6 (by decide)
        have p7_ : D 7 = true := hall 7 (by decide)
        have p8_ : D 8 = true := hall 8 (by decide)
        have p9_ : D 9 = true := hall 9 (by decide)
        have p10_ : D 10 = true := hall 10 (by decide)
        have p11_ : D 11 = true := hall 11 (by decide)
        have p12_ : D 12 = true := hall 12 (by decide)
        simp only [p0_, p1_, p2_, p3_, p4_, p5_, p6_, p7_, p8_, p9_, p10_, p11_, p12_, cnd_t, cnd_f, Asc_t, Asc_f] at ht hs
        subst ht
        refine g_seq ?_
        refine g_region ?_
        show G _ _ _ (.inRegion _ [0, 1, 2] :: _) _ _
        refine g_op (v := Value.int .i64 x21) rfl rfl rfl ?_
        refine g_d rfl ?_
        refine g_op (v := Value.int .i64 a1) rfl rfl rfl ?_
        refine g_d rfl ?_
        refine g_op_b (B := decide (x21 < a1)) rfl rfl rfl ?_ ?_
        ·
         intro hb
         rw [if_pos (b_dec_t hb)] at H
         refine g_d rfl ?_
         try dsimp only [set0,setS]
         refine g_ops_nil ?_
         refine g_cond_true rfl ?_
         refine g_seq ?_
         obtain ⟨gd22, H⟩ := ite_get H
         obtain ⟨gd23, H⟩ := ite_get H
         obtain ⟨gd24, H⟩ := ite_get H
         obtain ⟨gd25, H⟩ := ite_get H
         refine g_name ?_
         intro T hT
         refine g_any (n := 14) rfl [0, 1, 2, 3, 4, 5, 6, 7, 8, 9, 10, 11, 12, 13] [0, 1, 2, 3, 4, 5, 6, 7, 8, 9, 10, 11, 12, 13] rfl rfl (Inv := fun D t w => ∃ O : Nat → Value, t = (Value.int .i64 a1::O 1::O 2::O 3::Value.pointer (some ⟨b4, 0, none⟩)::Value.pointer (some ⟨b6, 0, none⟩)::Value.pointer (some ⟨b8, 0, none⟩)::Value.pointer (some ⟨b10, 0, none⟩)::Value.pointer (some ⟨b12, 0, none⟩)::Value.pointer (some ⟨b14, 0, none⟩)::Value.int .i64 x21::O 11::O 12::Value.int .i64 x21::Value.int .i64 a1::Value.bool true::O 16::O 17::Value.int .i64 x21::Value.pointer (some ⟨b12, 0 + x21.toNat * 1, none⟩)::Value.int .i64 (x19.get x21 0)::Value.int .i64 x21::Value.pointer (some ⟨b6, 0 + x21.toNat * 1, none⟩)::Value.int .i64 (a3.get x21 0)::Value.int .i64 (i64w ((x19.get x21 0) + (a3.get x21 0)))::Value.pointer (some ⟨b12, 0 + x21.toNat * 1, none⟩)::Value.int .i64 x21::Value.pointer (some ⟨b14, 0 + x21.toNat * 1, none⟩)::Value.int .i64 (x20.get x21 0)::Value.int .i64 x21::Value.pointer (some ⟨b4, 0 + x21.toNat * 1, none⟩)::Value.int .i64 (a2.get x21 0)::Value.int .i64 x21::Value.pointer (some ⟨b6, 0 + x21.toNat * 1, none⟩)::Value.int .i64 (a3.get x21 0)::Value.int .i64 (i64w ((a2.get x21 0) - (a3.get x21 0)))::Value.int .i64 (i64w ((x20.get x21 0) + (i64w ((a2.get x21 0) - (a3.get x21 0)))))::Value.pointer (some ⟨b14, 0 + x21.toNat * 1, none⟩)::Value.int .i64 x21::Value.int .i64 a1::Value.bool true::cnd (D 0) (Value.int .i64 x21) (O 41)::cnd (D 1) (Value.int .i64 (i64w (x21 + 1))) (O 42)::cnd (D 2) (Value.pointer (some ⟨b12, 0 + (i64w (x21 + 1)).toNat * 1, none⟩)) (O 43)::cnd (D 3) (Value.int .i64 ((x19.set x21 (i64w ((x19.get x21 0) + (a3.get x21 0)))).get (i64w (x21 + 1)) 0)) (O 44)::cnd (D 4) (Value.int .i64 x21) (O 45)::cnd (D 5) (Value.pointer (some ⟨b4, 0 + x21.toNat * 1, none⟩)) (O 46)::cnd (D 6) (Value.int .i64 (a2.get x21 0)) (O 47)::cnd (D 7) (Value.int .i64 x21) (O 48)::cnd (D 8) (Value.pointer (some ⟨b6, 0 + x21.toNat * 1, none⟩)) (O 49)::cnd (D 9) (Value.int .i64 (a3.get x21 0)) (O 50)::cnd (D 10) (Value.int .i64 (i64w ((a2.get x21 0) - (a3.get x21 0)))) (O 51)::cnd (D 11) (Value.int .i64 (i64w (((x19.set x21 (i64w ((x19.get x21 0) + (a3.get x21 0)))).get (i64w (x21 + 1)) 0) + (i64w ((a2.get x21 0) - (a3.get x21 0)))))) (O 52)::cnd (D 12) (Value.pointer (some ⟨b12, 0 + (i64w (x21 + 1)).toNat * 1, none⟩)) (O 53)::O 54::O 55::O 56::O 57::O 58::O 59::O 60::O 61::O 62::O 63::O 64::[]) ∧ St w0 [Cells b4 ((encA (encI .i64)) a2) 25, Cells b6 ((encA (encI .i64)) a3) 25, Cells b8 ((encA (encI .i64)) (Ar.rep 4 0)) 25, Cells b10 ((encA (encI .i64)) (Ar.rep 4 0)) 25, Cells b12 (cnd (D 13) ((encA (encI .i64)) ((x19.set x21 (i64w ((x19.get x21 0) + (a3.get x21 0)))).set (i64w (x21 + 1)) (i64w (((x19.set x21 (i64w ((x19.get x21 0) + (a3.get x21 0)))).get (i64w (x21 + 1)) 0) + (i64w ((a2.get x21 0) - (a3.get x21 0))))))) ((encA (encI .i64)) (x19.set x21 (i64w ((x19.get x21 0) + (a3.get x21 0)))))) 25, Cells b14 ((encA (encI .i64)) (x20.set x21 (i64w ((x20.get x21 0) + (i64w ((a2.get x21 0) - (a3.get x21 0))))))) 25] w) ?_ ⟨⟨⟨⟨⟨⟨⟨⟨⟨⟨⟨⟨⟨⟨trivial, ?_⟩, ?_⟩, ?_⟩, ?_⟩, ?_⟩, ?_⟩, ?_⟩, ?_⟩, ?_⟩, ?_⟩, ?_⟩, ?_⟩, ?_⟩, ?_⟩ ?_
         ·
          intro w hh hbw
          have hs := hs.samew hh hbw
          exact ⟨fun i => T.getD i undef, (by subst hT; rfl), hs⟩
         ·
          intro D t w hD hp hcl hI rest hk
          obtain ⟨O, ht, hs⟩ := hI
          have q1_ : D 1 = false := not_yet (hcl.get 1 (by decide)) 0 0 rfl hD
          have q2_ : D 2 = false := not_yet (hcl.get 2 (by decide)) 0 1 rfl q1_
          have q3_ : D 3 = false := not_yet (hcl.get 3 (by decide)) 0 2 rfl q2_
          have q11_ : D 11 = false := not_yet (hcl.get 11 (by decide)) 0 3 rfl q3_
          have q12_ : D 12 = false := not_yet (hcl.get 12 (by decide)) 0 1 rfl q1_
          have q13_ : D 13 = false := not_yet (hcl.get 13 (by decide)) 0 12 rfl q12_
          simp only [hD, q1_, q2_, q3_, q11_, q12_, q13_, cnd_t, cnd_f, Asc_t, Asc_f] at ht hs
          subst ht
          refine g_op (v := Value.int .i64 x21) rfl rfl rfl ?_
          refine g_d rfl ?_
          try dsimp only [set0,setS]
          exact hk _ _ ⟨O, (by simp only [upd, Nat.reduceBEq, Bool.true_or, Bool.false_or, q1_, q2_, q3_, q11_, q12_, q13_, cnd_t, cnd_f, Asc_t, Asc_f]), hs.cast (by first | rfl | simp only [List.take, List.drop, List.cons_append, List.nil_append, List.set_cons_zero, List.set_cons_succ, List.eraseIdx, upd, Nat.reduceBEq, Bool.true_or, Bool.false_or, q1_, q2_, q3_, q11_, q12_, q13_, cnd_t, cnd_f, Asc_t, Asc_f])⟩
         ·
          intro D t w hD hp hcl hI rest hk
          obtain ⟨O, ht, hs⟩ := hI
          obtain ⟨p0_, _⟩ := hp
          have q2_ : D 2 = false := not_yet (hcl.get 2 (by decide)) 0 1 rfl hD
          have q3_ : D 3 = false := not_yet (hcl.get 3 (by decide)) 0 2 rfl q2_
          have q11_ : D 11 = false := not_yet (hcl.get 11 (by decide)) 0 3 rfl q3_
          have q12_ : D 12 = false := not_yet (hcl.get 12 (by decide)) 0 1 rfl hD
          have q13_ : D 13 = false := not_yet (hcl.get 13 (by decide)) 0 12 rfl q12_
          simp only [hD, p0_, q2_, q3_, q11_, q12_, q13_, cnd_t, cnd_f, Asc_t, Asc_f] at ht hs
          subst ht
          refine g_op (v := Value.int .i64 (i64w (x21 + 1))) rfl rfl rfl ?_
          refine g_d rfl ?_
          try dsimp only [set0,setS]
          exact hk _ _ ⟨O, (by simp only [upd, Nat.reduceBEq, Bool.true_or, Bool.false_or, p0_, q2_, q3_, q11_, q12_, q13_, cnd_t, cnd_f, Asc_t, Asc_f]), hs.cast (by first | rfl | simp only [List.take, List.drop, List.cons_append, List.nil_append, List.set_cons_zero, List.set_cons_succ, List.eraseIdx, upd, Nat.reduceBEq, Bool.true_or, Bool.false_or, p0_, q2_, q3_, q11_, q12_, q13_, cnd_t, cnd_f, Asc_t, Asc_f])⟩
         ·
          intro D t w hD hp hcl hI rest hk
          obtain ⟨O, ht, hs⟩ := hI
          obtain ⟨p1_, _⟩ := hp
          obtain ⟨p0_, _⟩ := (hcl.get 1 (by decide)) p1_
          have q3_ : D 3 = false := not_yet (hcl.get 3 (by decide)) 0 2 rfl hD
          have q11_ : D 11 = false := not_yet (hcl.get 11 (by decide)) 0 3 rfl q3_
          have q12_ : D 12 = false := not_yet (hcl.get 12 (by decide)) 3 2 rfl hD
          have q13_ : D 13 = false := not_yet (hcl.get 13 (by decide)) 0 12 rfl q12_
          simp only [hD, p0_, p1_, q3_, q11_, q12_, q13_, cnd_t, cnd_f, Asc_t, Asc_f] at ht hs
          subst ht
          refine s_idxA (n := i64w (x21 + 1)) (m := 1) rfl (fun _ => rfl) gd22.1 gd22.2 rfl rfl rfl rfl rfl ?_
          refine g_d rfl ?_
          try dsimp only [set0,setS]
          exact hk _ _ ⟨O, (by simp only [upd, Nat.reduceBEq, Bool.true_or, Bool.false_or, p0_, p1_, q3_, q11_, q12_, q13_, cnd_t, cnd_f, Asc_t, Asc_f]), hs.cast (by first | rfl | simp only [List.take, List.drop, List.cons_append, List.nil_append, List.set_cons_zero, List.set_cons_succ, List.eraseIdx, upd, Nat.reduceBEq, Bool.true_or, Bool.false_or, p0_, p1_, q3_, q11_, q12_, q13_, cnd_t, cnd_f, Asc_t, Asc_f])⟩
         ·
          intro D t w hD hp hcl hI rest hk
          obtain ⟨O, ht, hs⟩ := hI
          obtain ⟨p2_, _⟩ := hp
          obtain ⟨p1_, _⟩ := (hcl.get 2 (by decide)) p2_
          obtain ⟨p0_, _⟩ := (hcl.get 1 (by decide)) p1_
          have q11_ : D 11 = false := not_yet (hcl.get 11 (by decide)) 0 3 rfl hD
          have q12_ : D 12 = false := not_yet (hcl.get 12 (by decide)) 4 3 rfl hD
          have q13_ : D 13 = false := not_yet (hcl.get 13 (by decide)) 0 12 rfl q12_
          simp only [hD, p0_, p1_, p2_, q11_, q12_, q13_, cnd_t, cnd_f, Asc_t, Asc_f] at ht hs
          subst ht
          refine s_load1 rfl rfl (v := Value.int .i64 ((x19.set x21 (i64w ((x19.get x21 0) + (a3.get x21 0)))).get (i64w (x21 + 1)) 0)) rfl rfl (fun _ => rfl) (by rw [Nat.zero_add]; exact cells_load (hs.cells 4 rfl) _ _ (encA_at (fkI .i64).len _ _ 0 gd22.1 gd22.2)) ?_
          refine g_d rfl ?_
          try dsimp only [set0,setS]
          exact hk _ _ ⟨O, (by simp only [upd, Nat.reduceBEq, Bool.true_or, Bool.false_or, p0_, p1_, p2_, q11_, q12_, q13_, cnd_t, cnd_f, Asc_t, Asc_f]), hs.cast (by first | rfl | simp only [List.take, List.drop, List.cons_append, List.nil_append, List.set_cons_zero, List.set_cons_succ, List.eraseIdx, upd, Nat.reduceBEq, Bool.true_or, Bool.false_or, p0_, p1_, p2_, q11_, q12_, q13_, cnd_t, cnd_f, Asc_t, Asc_f])⟩
         ·
          intro D t w hD hp hcl hI rest hk
          obtain ⟨O, ht, hs⟩ := hI
          have q5_ : D 5 = false := not_yet (hcl.get 5 (by decide)) 0 4 rfl hD
          have q6_ : D 6 = false := not_yet (hcl.get 6 (by decide)) 0 5 rfl q5_
          have q10_ : D 10 = false := not_yet (hcl.get 10 (by decide)) 0 6 rfl q6_
          have q11_ : D 11 = false := not_yet (hcl.get 11 (by decide)) 1 10 rfl q10_
          have q12_ : D 12 = false := not_yet (hcl.get 12 (by decide)) 5 4 rfl hD
          have q13_ : D 13 = false := not_yet (hcl.get 13 (by decide)) 0 12 rfl q12_
          simp only [hD, q5_, q6_, q10_, q11_, q12_, q13_, cnd_t, cnd_f, Asc_t, Asc_f] at ht hs
          subst ht
          refine g_op (v := Value.int .i64 x21) rfl rfl rfl ?_
          refine g_d rfl ?_
          try dsimp only [set0,setS]
          exact hk _ _ ⟨O, (by simp only [upd, Nat.reduceBEq, Bool.true_or, Bool.false_or, q5_, q6_, q10_, q11_, q12_, q13_, cnd_t, cnd_f, Asc_t, Asc_f]), hs.cast (by first | rfl | simp only [List.take, List.drop, List.cons_append, List.nil_append, List.set_cons_zero, List.set_cons_succ, List.eraseIdx, upd, Nat.reduceBEq, Bool.true_or, Bool.false_or, q5_, q6_, q10_, q11_, q12_, q13_, cnd_t, cnd_f, Asc_t, Asc_f])⟩
         ·
          intro D t w hD hp hcl hI rest hk
          obtain ⟨O, ht, hs⟩ := hI
          obtain ⟨p4_, _⟩ := hp
          have q6_ : D 6 = false := not_yet (hcl.get 6 (by decide)) 0 5 rfl hD
          have q10_ : D 10 = false := not_yet (hcl.get 10 (by decide)) 0 6 rfl q6_
          have q11_ : D 11 = false := not_yet (hcl.get 11 (by decide)) 1 10 rfl q10_
          have q12_ : D 12 = false := not_yet (hcl.get 12 (by decide)) 6 5 rfl hD
          have q13_ : D 13 = false := not_yet (hcl.get 13 (by decide)) 0 12 rfl q12_
          simp only [hD, p4_, q6_, q10_, q11_, q12_, q13_, cnd_t, cnd_f, Asc_t, Asc_f] at ht hs
          subst ht
          refine s_idxA (n := x21) (m := 1) rfl (fun _ => rfl) gd23.1 gd23.2 rfl rfl rfl rfl rfl ?_
          refine g_d rfl ?_
          try dsimp only [set0,setS]
          exact hk _ _ ⟨O, (by simp only [upd, Nat.reduceBEq, Bool.true_or, Bool.false_or, p4_, q6_, q10_, q11_, q12_, q13_, cnd_t, cnd_f, Asc_t, Asc_f]), hs.cast (by first | rfl | simp only [List.take, List.drop, List.cons_append, List.nil_append, List.set_cons_zero, List.set_cons_succ, List.eraseIdx, upd, Nat.reduceBEq, Bool.true_or, Bool.false_or, p4_, q6_, q10_, q11_, q12_, q13_, cnd_t, cnd_f, Asc_t, Asc_f])⟩
         ·
          intro D t w hD hp hcl hI rest hk
          obtain ⟨O, ht, hs⟩ := hI
          obtain ⟨p5_, _⟩ := hp
          obtain ⟨p4_, _⟩ := (hcl.get 5 (by decide)) p5_
          have q10_ : D 10 = false := not_yet (hcl.get 10 (by decide)) 0 6 rfl hD
          have q11_ : D 11 = false := not_yet (hcl.get 11 (by decide)) 1 10 rfl q10_
          have q12_ : D 12 = false := not_yet (hcl.get 12 (by decide)) 7 6 rfl hD
          have q13_ : D 13 = false := not_yet (hcl.get 13 (by decide)) 0 12 rfl q12_
          simp only [hD, p4_, p5_, q10_, q11_, q12_, q13_, cnd_t, cnd_f, Asc_t, Asc_f] at ht hs
          subst ht
          refine s_load1 rfl rfl (v := Value.int .i64 (a2.get x21 0)) rfl rfl (fun _ => rfl) (by rw [Nat.zero_add]; exact cells_load (hs.cells 0 rfl) _ _ (encA_at (fkI .i64).len _ _ 0 gd23.1 gd23.2)) ?_
          refine g_d rfl ?_
          try dsimp only [set0,setS]
          exact hk _ _ ⟨O, (by simp only [upd, Nat.reduceBEq, Bool.true_or, Bool.false_or, p4_, p5_, q10_, q11_, q12_, q13_, cnd_t, cnd_f, Asc_t, Asc_f]), hs.cast (by first | rfl | simp only [List.take, List.drop, List.cons_append, List.nil_append, List.set_cons_zero, List.set_cons_succ, List.eraseIdx, upd, Nat.reduceBEq, Bool.true_or, Bool.false_or, p4_, p5_, q10_, q11_, q12_, q13_, cnd_t, cnd_f, Asc_t, Asc_f])⟩
         ·
          intro D t w hD hp hcl hI rest hk
          obtain ⟨O, ht, hs⟩ := hI
          have q8_ : D 8 = false := not_yet (hcl.get 8 (by decide)) 0 7 rfl hD
          have q9_ : D 9 = false := not_yet (hcl.get 9 (by decide)) 0 8 rfl q8_
          have q10_ : D 10 = false := not_yet (hcl.get 10 (by decide)) 1 9 rfl q9_
          have q11_ : D 11 = false := not_yet (hcl.get 11 (by decide)) 1 10 rfl q10_
          have q12_ : D 12 = false := not_yet (hcl.get 12 (by decide)) 8 7 rfl hD
          have q13_ : D 13 = false := not_yet (hcl.get 13 (by decide)) 0 12 rfl q12_
          simp only [hD, q8_, q9_, q10_, q11_, q12_, q13_, cnd_t, cnd_f, Asc_t, Asc_f] at ht hs
          subst ht
          refine g_op (v := Value.int .i64 x21) rfl rfl rfl ?_
          refine g_d rfl ?_
          try dsimp only [set0,setS]
          exact hk _ _ ⟨O, (by simp only [upd, Nat.reduceBEq, Bool.true_or, Bool.false_or, q8_, q9_, q10_, q11_, q12_, q13_, cnd_t, cnd_f, Asc_t, Asc_f]), hs.cast (by first | rfl | simp only [List.take, List.drop, List.cons_append, List.nil_append, List.set_cons_zero, List.set_cons_succ, List.eraseIdx, upd, Nat.reduceBEq, Bool.true_or, Bool.false_or, q8_, q9_, q10_, q11_, q12_, q13_, cnd_t, cnd_f, Asc_t, Asc_f])⟩
         ·
          intro D t w hD hp hcl hI rest hk
          obtain ⟨O, ht, hs⟩ := hI
          obtain ⟨p7_, _⟩ := hp
          have q9_ : D 9 = false := not_yet (hcl.get 9 (by decide)) 0 8 rfl hD
          have q10_ : D 10 = false := not_yet (hcl.get 10 (by decide)) 1 9 rfl q9_
          have q11_ : D 11 = false := not_yet (hcl.get 11 (by decide)) 1 10 rfl q10_
          have q12_ : D 12 = false := not_yet (hcl.get 12 (by decide)) 9 8 rfl hD
          have q13_ : D 13 = false := not_yet (hcl.get 13 (by decide)) 0 12 rfl q12_
          simp only [hD, p7_, q9_, q10_, q11_, q12_, q13_, cnd_t, cnd_f, Asc_t, Asc_f] at ht hs
          subst ht
          refine s_idxA (n := x21) (m := 1) rfl (fun _ => rfl) gd24.1 gd24.2 rfl rfl rfl rfl rfl ?_
          refine g_d rfl ?_
          try dsimp only [set0,setS]
          exact hk _ _ ⟨O, (by simp only [upd, Nat.reduceBEq, Bool.true_or, Bool.false_or, p7_, q9_, q10_, q11_, q12_, q13_, cnd_t, cnd_f, Asc_t, Asc_f]), hs.cast (by first | rfl | simp only [List.take, List.drop, List.cons_append, List.nil_append, List.set_cons_zero, List.set_cons_succ, List.eraseIdx, upd, Nat.reduceBEq, Bool.true_or, Bool.false_or, p7_, q9_, q10_, q11_, q12_, q13_, cnd_t, cnd_f, Asc_t, Asc_f])⟩
         ·
          intro D t w hD hp hcl hI rest hk
          obtain ⟨O, ht, hs⟩ := hI
          obtain ⟨p8_, _⟩ := hp
          obtain ⟨p7_, _⟩ := (hcl.get 8 (by decide)) p8_
          have q10_ : D 10 = false := not_yet (hcl.get 10 (by decide)) 1 9 rfl hD
          have q11_ : D 11 = false := not_yet (hcl.get 11 (by decide)) 1 10 rfl q10_
          have q12_ : D 12 = false := not_yet (hcl.get 12 (by decide)) 10 9 rfl hD
          have q13_ : D 13 = false := not_yet (hcl.get 13 (by decide)) 0 12 rfl q12_
          simp only [hD, p7_, p8_, q10_, q11_, q12_, q13_, cnd_t, cnd_f, Asc_t, Asc_f] at ht hs
          subst ht
          refine s_load1 rfl rfl (v := Value.int .i64 (a3.get x21 0)) rfl rfl (fun _ => rfl) (by rw [Nat.zero_add]; exact cells_load (hs.cells 1 rfl) _ _ (encA_at (fkI .i64).len _ _ 0 gd24.1 gd24.2)) ?_
          refine g_d rfl ?_
          try dsimp only [set0,setS]
          exact hk _ _ ⟨O, (by simp only [upd, Nat.reduceBEq, Bool.true_or, Bool.false_or, p7_, p8_, q10_, q11_, q12_, q13_, cnd_t, cnd_f, Asc_t, Asc_f]), hs.cast (by first | rfl | simp only [List.take, List.drop, List.cons_append, List.nil_append, List.set_cons_zero, List.set_cons_succ, List.eraseIdx, upd, Nat.reduceBEq, Bool.true_or, Bool.false_or, p7_, p8_, q10_, q11_, q12_, q13_, cnd_t, cnd_f, Asc_t, Asc_f])⟩
         ·
          intro D t w hD hp hcl hI rest hk
          obtain ⟨O, ht, hs⟩ := hI
          obtain ⟨p6_, p9_, _⟩ := hp
          obtain ⟨p8_, _⟩ := (hcl.get 9 (by decide)) p9_
          obtain ⟨p7_, _⟩ := (hcl.get 8 (by decide)) p8_
          obtain ⟨p5_, _⟩ := (hcl.get 6 (by decide)) p6_
          obtain ⟨p4_, _⟩ := (hcl.get 5 (by decide)) p5_
          have q11_ : D 11 = false := not_yet (hcl.get 11 (by decide)) 1 10 rfl hD
          have q12_ : D 12 = false := not_yet (hcl.get 12 (by decide)) 11 10 rfl hD
          have q13_ : D 13 = false := not_yet (hcl.get 13 (by decide)) 0 12 rfl q12_
          simp only [hD, p4_, p5_, p6_, p7_, p8_, p9_, q11_, q12_, q13_, cnd_t, cnd_f, Asc_t, Asc_f] at ht hs
          subst ht
          refine g_op (v := Value.int .i64 (i64w ((a2.get x21 0) - (a3.get x21 0)))) rfl rfl rfl ?_
          refine g_d rfl ?_
          try dsimp only [set0,setS]
          exact hk _ _ ⟨O, (by simp only [upd, Nat.reduceBEq, Bool.true_or, Bool.false_or, p4_, p5_, p6_, p7_, p8_, p9_, q11_, q12_, q13_, cnd_t, cnd_f, Asc_t, Asc_f]), hs.cast (by first | rfl | simp only [List.take, List.drop, List.cons_append, List.nil_append, List.set_cons_zero, List.set_cons_succ, List.eraseIdx, upd, Nat.reduceBEq, Bool.true_or, Bool.false_or, p4_, p5_, p6_, p7_, p8_, p9_, q11_, q12_, q13_, cnd_t, cnd_f, Asc_t, Asc_f])⟩
         ·
          intro D t w hD hp hcl hI rest hk
          obtain ⟨O, ht, hs⟩ := hI
          obtain ⟨p3_, p10_, _⟩ := hp
          obtain ⟨p6_, p9_, _⟩ := (hcl.get 10 (by decide)) p10_
          obtain ⟨p8_, _⟩ := (hcl.get 9 (by decide)) p9_
          obtain ⟨p7_, _⟩ := (hcl.get 8 (by decide)) p8_
          obtain ⟨p5_, _⟩ := (hcl.get 6 (by decide)) p6_
          obtain ⟨p4_, _⟩ := (hcl.get 5 (by decide)) p5_
          obtain ⟨p2_, _⟩ := (hcl.get 3 (by decide)) p3_
          obtain ⟨p1_, _⟩ := (hcl.get 2 (by decide)) p2_
          obtain ⟨p0_, _⟩ := (hcl.get 1 (by decide)) p1_
          have q12_ : D 12 = false := not_yet (hcl.get 12 (by decide)) 12 11 rfl hD
          have q13_ : D 13 = false := not_yet (hcl.get 13 (by decide)) 0 12 rfl q12_
          simp only [hD, p0_, p1_, p2_, p3_, p4_, p5_, p6_, p7_, p8_, p9_, p10_, q12_, q13_, cnd_t, cnd_f, Asc_t, Asc_f] at ht hs
          subst ht
          refine g_op (v := Value.int .i64 (i64w (((x19.set x21 (i64w ((x19.get x21 0) + (a3.get x21 0)))).get (i64w (x21 + 1)) 0) + (i64w ((a2.get x21 0) - (a3.get x21 0)))))) rfl rfl rfl ?_
          refine g_d rfl ?_
          try dsimp only [set0,setS]
          exact hk _ _ ⟨O, (by simp only [upd, Nat.reduceBEq, Bool.true_or, Bool.false_or, p0_, p1_, p2_, p3_, p4_, p5_, p6_, p7_, p8_, p9_, p10_, q12_, q13_, cnd_t, cnd_f, Asc_t, Asc_f]), hs.cast (by first | rfl | simp only [List.take, List.drop, List.cons_append, List.nil_append, List.set_cons_zero, List.set_cons_succ, List.eraseIdx, upd, Nat.reduceBEq, Bool.true_or, Bool.false_or, p0_, p1_, p2_, p3_, p4_, p5_, p6_, p7_, p8_, p9_, p10_, q12_, q13_, cnd_t, cnd_f, Asc_t, Asc_f])⟩
         ·
          intro D t w hD hp hcl hI rest hk
          obtain ⟨O, ht, hs⟩ := hI
          obtain ⟨p1_, p0_, _, p2_, p3_, p4_, p5_, p6_, p7_, p8_, p9_, p10_, p11_, _⟩ := hp
          have q13_ : D 13 = false := not_yet (hcl.get 13 (by decide)) 0 12 rfl hD
          simp only [hD, p0_, p1_, p2_, p3_, p4_, p5_, p6_, p7_, p8_, p9_, p10_, p11_, q13_, cnd_t, cnd_f, Asc_t, Asc_f] at ht hs
          subst ht
          refine s_idxA (n := i64w (x21 + 1)) (m := 1) rfl (fun _ => rfl) gd25.1 gd25.2 rfl rfl rfl rfl rfl ?_
          refine g_d rfl ?_
          try dsimp only [set0,setS]
          exact hk _ _ ⟨O, (by simp only [upd, Nat.reduceBEq, Bool.true_or, Bool.false_or, p0_, p1_, p2_, p3_, p4_, p5_, p6_, p7_, p8_, p9_, p10_, p11_, q13_, cnd_t, cnd_f, Asc_t, Asc_f]), hs.cast (by first | rfl | simp only [List.take, List.drop, List.cons_append, List.nil_append, List.set_cons_zero, List.set_cons_succ, List.eraseIdx, upd, Nat.reduceBEq, Bool.true_or, Bool.false_or, p0_, p1_, p2_, p3_, p4_, p5_, p6_, p7_, p8_, p9_, p10_, p11_, q13_, cnd_t, cnd_f, Asc_t, Asc_f])⟩
         ·
          intro D t w hD hp hcl hI rest hk
          obtain ⟨O, ht, hs⟩ := hI
          obtain ⟨p12_, p11_, p0_, p1_, p2_, p3_, p4_, p5_, p6_, p7_, p8_, p9_, p10_, _, _⟩ := hp
          simp only [hD, p0_, p1_, p2_, p3_, p4_, p5_, p6_, p7_, p8_, p9_, p10_, p11_, p12_, cnd_t, cnd_f, Asc_t, Asc_f] at ht hs
          subst ht
          have hs := hs.pull 4 rfl
          have hs : St _ [_,_,_,_,_,_] _ := hs
          refine s_storeA (y := i64w (((x19.set x21 (i64w ((x19.get x21 0) + (a3.get x21 0)))).get (i64w (x21 + 1)) 0) + (i64w ((a2.get x21 0) - (a3.get x21 0))))) (fkI .i64).len (fkI .i64).one gd25.1 gd25.2 hs rfl rfl rfl rfl rfl (fun _ => rfl) ?_
          intro w hs
          refine g_n rfl ?_
          try dsimp only [set0,setS]
          have hs := hs.push 4 (by simp)
          exact hk _ _ ⟨O, (by simp only [upd, Nat.reduceBEq, Bool.true_or, Bool.false_or, p0_, p1_, p2_, p3_, p4_, p5_, p6_, p7_, p8_, p9_, p10_, p11_, p12_, cnd_t, cnd_f, Asc_t, Asc_f]), hs.cast (by first | rfl | simp only [List.take, List.drop, List.cons_append, List.nil_append, List.set_cons_zero, List.set_cons_succ, List.eraseIdx, upd, Nat.reduceBEq, Bool.true_or, Bool.false_or, p0_, p1_, p2_, p3_, p4_, p5_, p6_, p7_, p8_, p9_, p10_, p11_, p12_, cnd_t, cnd_f, Asc_t, Asc_f])⟩
         ·
          intro D t w hall hI
          obtain ⟨O, ht, hs⟩ := hI
          have p0_ : D 0 = true := hall 0 (by decide)
          have p1_ : D 1 = true := hall 1 (by decide)
          have p2_ : D 2 = true := hall 2 (by decide)
          have p3_ : D 3 = true := hall 3 (by decide)
          have p4_ : D 4 = true := hall 4 (by decide)
          have p5_ : D 5 = true := hall 5 (by decide)
          have p6_ : D 6 = true := hall 6 (by decide)
          have p7_ : D 7 = true := hall 7 (by decide)
          have p8_ : D 8 = true := hall 8 (by decide)
          have p9_ : D 9 = true := hall 9 (by decide)
          have p10_ : D 10 = true := hall 10 (by decide)
          have p11_ : D 11 = true := hall 11 (by decide)
          have p12_ : D 12 = true := hall 12 (by decide)
          have p13_ : D 13 = true := hall 13 (by decide)
          simp only [p0_, p1_, p2_, p3_, p4_, p5_, p6_, p7_, p8_, p9_, p10_, p11_, p12_, p13_, cnd_t, cnd_f, Asc_t, Asc_f] at ht hs
          subst ht
          obtain ⟨gd26, H⟩ := ite_get H
          obtain ⟨gd27, H⟩ := ite_get H
          obtain ⟨gd28, H⟩ := ite_get H
          refine g_name ?_
          intro T hT
          refine g_any (n := 10) rfl [0, 1, 2, 3, 4, 5, 6, 7, 8, 9] [0, 1, 2, 3, 4, 5, 6, 7, 8, 9] rfl rfl (Inv := fun D t w => ∃ O : Nat → Value, t = (Value.int .i64 a1::O 1::O 2::O 3::Value.pointer (some ⟨b4, 0, none⟩)::Value.pointer (some ⟨b6, 0, none⟩)::Value.pointer (some ⟨b8, 0, none⟩)::Value.pointer (some ⟨b10, 0, none⟩)::Value.pointer (some ⟨b12, 0, none⟩)::Value.pointer (some ⟨b14, 0, none⟩)::Value.int .i64 x21::O 11::O 12::Value.int .i64 x21::Value.int .i64 a1::Value.bool true::O 16::O 17::Value.int .i64 x21::Value.pointer (some ⟨b12, 0 + x21.toNat * 1, none⟩)::Value.int .i64 (x19.get x21 0)::Value.int .i64 x21::Value.pointer (some ⟨b6, 0 + x21.toNat * 1, none⟩)::Value.int .i64 (a3.get x21 0)::Value.int .i64 (i64w ((x19.get x21 0) + (a3.get x21 0)))::Value.pointer (some ⟨b12, 0 + x21.toNat * 1, none⟩)::Value.int .i64 x21::Value.pointer (some ⟨b14, 0 + x21.toNat * 1, none⟩)::Value.int .i64 (x20.get x21 0)::Value.int .i64 x21::Value.pointer (some ⟨b4, 0 + x21.toNat * 1, none⟩)::Value.int .i64 (a2.get x21 0)::Value.int .i64 x21::Value.pointer (some ⟨b6, 0 + x21.toNat * 1, none⟩)::Value.int .i64 (a3.get x21 0)::Value.int .i64 (i64w ((a2.get x21 0) - (a3.get x21 0)))::Value.int .i64 (i64w ((x20.get x21 0) + (i64w ((a2.get x21 0) - (a3.get x21 0)))))::Value.pointer (some ⟨b14, 0 + x21.toNat * 1, none⟩)::Value.int .i64 x21::Value.int .i64 a1::Value.bool true::Value.int .i64 x21::Value.int .i64 (i64w (x21 + 1))::Value.pointer (some ⟨b12, 0 + (i64w (x21 + 1)).toNat * 1, none⟩)::Value.int .i64 ((x19.set x21 (i64w ((x19.get x21 0) + (a3.get x21 0)))).get (i64w (x21 + 1)) 0)::Value.int .i64 x21::Value.pointer (some ⟨b4, 0 + x21.toNat * 1, none⟩)::Value.int .i64 (a2.get x21 0)::Value.int .i64 x21::Value.pointer (some ⟨b6, 0 + x21.toNat * 1, none⟩)::Value.int .i64 (a3.get x21 0)::Value.int .i64 (i64w ((a2.get x21 0) - (a3.get x21 0)))::Value.int .i64 (i64w (((x19.set x21 (i64w ((x19.get x21 0) + (a3.get x21 0)))).get (i64w (x21 + 1)) 0) + (i64w ((a2.get x21 0) - (a3.get x21 0)))))::Value.pointer (some ⟨b12, 0 + (i64w (x21 + 1)).toNat * 1, none⟩)::cnd (D 0) (Value.int .i64 x21) (O 54)::cnd (D 1) (Value.int .i64 (i64w (x21 + 1))) (O 55)::cnd (D 2) (Value.pointer (some ⟨b14, 0 + (i64w (x21 + 1)).toNat * 1, none⟩)) (O 56)::cnd (D 3) (Value.int .i64 ((x20.set x21 (i64w ((x20.get x21 0) + (i64w ((a2.get x21 0) - (a3.get x21 0)))))).get (i64w (x21 + 1)) 0)) (O 57)::cnd (D 4) (Value.int .i64 x21) (O 58)::cnd (D 5) (Value.pointer (some ⟨b6, 0 + x21.toNat * 1, none⟩)) (O 59)::cnd (D 6) (Value.int .i64 (a3.get x21 0)) (O 60)::cnd (D 7) (Value.int .i64 (i64w (((x20.set x21 (i64w ((x20.get x21 0) + (i64w ((a2.get x21 0) - (a3.get x21 0)))))).get (i64w (x21 + 1)) 0) + (a3.get x21 0)))) (O 61)::cnd (D 8) (Value.pointer (some ⟨b14, 0 + (i64w (x21 + 1)).toNat * 1, none⟩)) (O 62)::O 63::O 64::[]) ∧ St w0 [Cells b4 ((encA (encI .i64)) a2) 25, Cells b6 ((encA (encI .i64)) a3) 25, Cells b8 ((encA (encI .i64)) (Ar.rep 4 0)) 25, Cells b10 ((encA (encI .i64)) (Ar.rep 4 0)) 25, Cells b12 ((encA (encI .i64)) ((x19.set x21 (i64w ((x19.get x21 0) + (a3.get x21 0)))).set (i64w (x21 + 1)) (i64w (((x19.set x21 (i64w ((x19.get x21 0) + (a3.get x21 0)))).get (i64w (x21 + 1)) 0) + (i64w ((a2.get x21 0) - (a3.get x21 0))))))) 25, Cells b14 (cnd (D 9) ((encA (encI .i64)) ((x20.set x21 (i64w ((x20.get x21 0) + (i64w ((a2.get x21 0) - (a3.get x21 0)))))).set (i64w (x21 + 1)) (i64w (((x20.set x21 (i64w ((x20.get x21 0) + (i64w ((a2.get x21 0) - (a3.get x21 0)))))).get (i64w (x21 + 1)) 0) + (a3.get x21 0))))) ((encA (encI .i64)) (x20.set x21 (i64w ((x20.get x21 0) + (i64w ((a2.get x21 0) - (a3.get x21 0)))))))) 25] w) ?_ ⟨⟨⟨⟨⟨⟨⟨⟨⟨⟨trivial, ?_⟩, ?_⟩, ?_⟩, ?_⟩, ?_⟩, ?_⟩, ?_⟩, ?_⟩, ?_⟩, ?_⟩ ?_
          ·
           intro w hh hbw
           have hs := hs.samew hh hbw
           exact ⟨fun i => T.getD i undef, (by subst hT; rfl), hs⟩
          ·
           intro D t w hD hp hcl hI rest hk
           obtain ⟨O, ht, hs⟩ := hI
           have q1_ : D 1 = false := not_yet (hcl.get 1 (by decide)) 0 0 rfl hD
           have q2_ : D 2 = false := not_yet (hcl.get 2 (by decide)) 0 1 rfl q1_
           have q3_ : D 3 = false := not_yet (hcl.get 3 (by decide)) 0 2 rfl q2_
           have q7_ : D 7 = false := not_yet (hcl.get 7 (by decide)) 0 3 rfl q3_
           have q8_ : D 8 = false := not_yet (hcl.get 8 (by decide)) 0 1 rfl q1_
           have q9_ : D 9 = false := not_yet (hcl.get 9 (by decide)) 0 8 rfl q8_
           simp only [hD, q1_, q2_, q3_, q7_, q8_, q9_, cnd_t, cnd_f, Asc_t, Asc_f] at ht hs
           subst ht
           refine g_op (v := Value.int .i64 x21) rfl rfl rfl ?_
           refine g_d rfl ?_
           try dsimp only [set0,setS]
           exact hk _ _ ⟨O, (by simp only [upd, Nat.reduceBEq, Bool.true_or, Bool.false_or, q1_, q2_, q3_, q7_, q8_, q9_, cnd_t, cnd_f, Asc_t, Asc_f]), hs.cast (by first | rfl | simp only [List.take, List.drop, List.cons_append, List.nil_append, List.set_cons_zero, List.set_cons_succ, List.eraseIdx, upd, Nat.reduceBEq, Bool.true_or, Bool.false_or, q1_, q2_, q3_, q7_, q8_, q9_, cnd_t, cnd_f, Asc_t, Asc_f])⟩
          ·
           intro D t w hD hp hcl hI rest hk
           obtain ⟨O, ht, hs⟩ := hI
           obtain ⟨p0_, _⟩ := hp
           have q2_ : D 2 = false := not_yet (hcl.get 2 (by decide)) 0 1 rfl hD
           have q3_ : D 3 = false := not_yet (hcl.get 3 (by decide)) 0 2 rfl q2_
           have q7_ : D 7 = false := not_yet (hcl.get 7 (by decide)) 0 3 rfl q3_
           have q8_ : D 8 = false := not_yet (hcl.get 8 (by decide)) 0 1 rfl hD
           have q9_ : D 9 = false := not_yet (hcl.get 9 (by decide)) 0 8 rfl q8_
           simp only [hD, p0_, q2_, q3_, q7_, q8_, q9_, cnd_t, cnd_f, Asc_t, Asc_f] at ht hs
           subst ht
           refine g_op (v := Value.int .i64 (i64w (x21 + 1))) rfl rfl rfl ?_
           refine g_d rfl ?_
           try dsimp only [set0,setS]
           exact hk _ _ ⟨O, (by simp only [upd, Nat.reduceBEq, Bool.true_or, Bool.false_or, p0_, q2_, q3_, q7_, q8_, q9_, cnd_t, cnd_f, Asc_t, Asc_f]), hs.cast (by first | rfl | simp only [List.take, List.drop, List.cons_append, List.nil_append, List.set_cons_zero, List.set_cons_succ, List.eraseIdx, upd, Nat.reduceBEq, Bool.true_or, Bool.false_or, p0_, q2_, q3_, q7_, q8_, q9_, cnd_t, cnd_f, Asc_t, Asc_f])⟩
          ·
           intro D t w hD hp hcl hI rest hk
           obtain ⟨O, ht, hs⟩ := hI
           obtain ⟨p1_, _⟩ := hp
           obtain ⟨p0_, _⟩ := (hcl.get 1 (by decide)) p1_
           have q3_ : D 3 = false := not_yet (hcl.get 3 (by decide)) 0 2 rfl hD
           have q7_ : D 7 = false := not_yet (hcl.get 7 (by decide)) 0 3 rfl q3_
           have q8_ : D 8 = false := not_yet (hcl.get 8 (by decide)) 3 2 rfl hD
           have q9_ : D 9 = false := not_yet (hcl.get 9 (by decide)) 0 8 rfl q8_
           simp only [hD, p0_, p1_, q3_, q7_, q8_, q9_, cnd_t, cnd_f, Asc_t, Asc_f] at ht hs
           subst ht
           refine s_idxA (n := i64w (x21 + 1)) (m := 1) rfl (fun _ => rfl) gd26.1 gd26.2 rfl rfl rfl rfl rfl ?_
           refine g_d rfl ?_
           try dsimp only [set0,setS]
           exact hk _ _ ⟨O, (by simp only [upd, Nat.reduceBEq, Bool.true_or, Bool.false_or, p0_, p1_, q3_, q7_, q8_, q9_, cnd_t, cnd_f, Asc_t, Asc_f]), hs.cast (by first | rfl | simp only [List.take, List.drop, List.cons_append, List.nil_append, List.set_cons_zero, List.set_cons_succ, List.eraseIdx, upd, Nat.reduceBEq, Bool.true_or, Bool.false_or, p0_, p1_, q3_, q7_, q8_, q9_, cnd_t, cnd_f, Asc_t, Asc_f])⟩
          ·
           intro D t w hD hp hcl hI rest hk
           obtain ⟨O, ht, hs⟩ := hI
           obtain ⟨p2_, _⟩ := hp
           obtain ⟨p1_, _⟩ := (hcl.get 2 (by decide)) p2_
           obtain ⟨p0_, _⟩ := (hcl.get 1 (by decide)) p1_
           have q7_ : D 7 = false := not_yet (hcl.get 7 (by decide)) 0 3 rfl hD
           have q8_ : D 8 = false := not_yet (hcl.get 8 (by decide)) 4 3 rfl hD
           have q9_ : D 9 = false := not_yet (hcl.get 9 (by decide)) 0 8 rfl q8_
           simp only [hD, p0_, p1_, p2_, q7_, q8_, q9_, cnd_t, cnd_f, Asc_t, Asc_f] at ht hs
           subst ht
           refine s_load1 rfl rfl (v := Value.int .i64 ((x20.set x21 (i64w ((x20.get x21 0) + (i64w ((a2.get x21 0) - (a3.get x21 0)))))).get (i64w (x21 + 1)) 0)) rfl rfl (fun _ => rfl) (by rw [Nat.zero_add]; exact cells_load (hs.cells 5 rfl) _ _ (encA_at (fkI .i64).len _ _ 0 gd26.1 gd26.2)) ?_
           refine g_d rfl ?_
           try dsimp only [set0,setS]
           exact hk _ _ ⟨O, (by simp only [upd, Nat.reduceBEq, Bool.true_or, Bool.false_or, p0_, p1_, p2_, q7_, q8_, q9_, cnd_t, cnd_f, Asc_t, Asc_f]), hs.cast (by first | rfl | simp only [List.take, List.drop, List.cons_append, List.nil_append, List.set_cons_zero, List.set_cons_succ, List.eraseIdx, upd, Nat.reduceBEq, Bool.true_or, Bool.false_or, p0_, p1_, p2_, q7_, q8_, q9_, cnd_t, cnd_f, Asc_t, Asc_f])⟩
          ·
           intro D t w hD hp hcl hI rest hk
           obtain ⟨O, ht, hs⟩ := hI
           have q5_ : D 5 = false := not_yet (hcl.get 5 (by decide)) 0 4 rfl hD
           have q6_ : D 6 = false := not_yet (hcl.get 6 (by decide)) 0 5 rfl q5_
           have q7_ : D 7 = false := not_yet (hcl.get 7 (by decide)) 1 6 rfl q6_
           have q8_ : D 8 = false := not_yet (hcl.get 8 (by decide)) 5 4 rfl hD
           have q9_ : D 9 = false := not_yet (hcl.get 9 (by decide)) 0 8 rfl q8_
           simp only [hD, q5_, q6_, q7_, q8_, q9_, cnd_t, cnd_f, Asc_t, Asc_f] at ht hs
           subst ht
           refine g_op (v := Value.int .i64 x21) rfl rfl rfl ?_
           refine g_d rfl ?_
           try dsimp only [set0,setS]
           exact hk _ _ ⟨O, (by simp only [upd, Nat.reduceBEq, Bool.true_or, Bool.false_or, q5_, q6_, q7_, q8_, q9_, cnd_t, cnd_f, Asc_t, Asc_f]), hs.cast (by first | rfl | simp only [List.take, List.drop, List.cons_append, List.nil_append, List.set_cons_zero, List.set_cons_succ, List.eraseIdx, upd, Nat.reduceBEq, Bool.true_or, Bool.false_or, q5_, q6_, q7_, q8_, q9_, cnd_t, cnd_f, Asc_t, Asc_f])⟩
          ·
           intro D t w hD hp hcl hI rest hk
           obtain ⟨O, ht, hs⟩ := hI
           obtain ⟨p4_, _⟩ := hp
           have q6_ : D 6 = false := not_yet (hcl.get 6 (by decide)) 0 5 rfl hD
           have q7_ : D 7 = false := not_yet (hcl.get 7 (by decide)) 1 6 rfl q6_
           have q8_ : D 8 = false := not_yet (hcl.get 8 (by decide)) 6 5 rfl hD
           have q9_ : D 9 = false := not_yet (hcl.get 9 (by decide)) 0 8 rfl q8_
           simp only [hD, p4_, q6_, q7_, q8_, q9_, cnd_t, cnd_f, Asc_t, Asc_f] at ht hs
           subst ht
           refine s_idxA (n := x21) (m := 1) rfl (fun _ => rfl) gd27.1 gd27.2 rfl rfl rfl rfl rfl ?_
           refine g_d rfl ?_
           try dsimp only [set0,setS]
           exact hk _ _ ⟨O, (by simp only [upd, Nat.reduceBEq, Bool.true_or, Bool.false_or, p4_, q6_, q7_, q8_, q9_, cnd_t, cnd_f, Asc_t, Asc_f]), hs.cast (by first | rfl | simp only [List.take, List.drop, List.cons_append, List.nil_append, List.set_cons_zero, List.set_cons_succ, List.eraseIdx, upd, Nat.reduceBEq, Bool.true_or, Bool.false_or, p4_, q6_, q7_, q8_, q9_, cnd_t, cnd_f, Asc_t, Asc_f])⟩
          ·
           intro D t w hD hp hcl hI rest hk
           obtain ⟨O, ht, hs⟩ := hI
           obtain ⟨p5_, _⟩ := hp
           obtain ⟨p4_, _⟩ := (hcl.get 5 (by decide)) p5_
           have q7_ : D 7 = false := not_yet (hcl.get 7 (by decide)) 1 6 rfl hD
           have q8_ : D 8 = false := not_yet (hcl.get 8 (by decide)) 7 6 rfl hD
           have q9_ : D 9 = false := not_yet (hcl.get 9 (by decide)) 0 8 rfl q8_
           simp only [hD, p4_, p5_, q7_, q8_, q9_, cnd_t, cnd_f, Asc_t, Asc_f] at ht hs
           subst ht
           refine s_load1 rfl rfl (v := Value.int .i64 (a3.get x21 0)) rfl rfl (fun _ => rfl) (by rw [Nat.zero_add]; exact cells_load (hs.cells 1 rfl) _ _ (encA_at (fkI .i64).len _ _ 0 gd27.1 gd27.2)) ?_
           refine g_d rfl ?_
           try dsimp only [set0,setS]
           exact hk _ _ ⟨O, (by simp only [upd, Nat.reduceBEq, Bool.true_or, Bool.false_or, p4_, p5_, q7_, q8_, q9_, cnd_t, cnd_f, Asc_t, Asc_f]), hs.cast (by first | rfl | simp only [List.take, List.drop, List.cons_append, List.nil_append, List.set_cons_zero, List.set_cons_succ, List.eraseIdx, upd, Nat.reduceBEq, Bool.true_or, Bool.false_or, p4_, p5_, q7_, q8_, q9_, cnd_t, cnd_f, Asc_t, Asc_f])⟩
          ·
           intro D t w hD hp hcl hI rest hk
           obtain ⟨O, ht, hs⟩ := hI
           obtain ⟨p3_, p6_, _⟩ := hp
           obtain ⟨p5_, _⟩ := (hcl.get 6 (by decide)) p6_
           obtain ⟨p4_, _⟩ := (hcl.get 5 (by decide)) p5_
           obtain ⟨p2_, _⟩ := (hcl.get 3 (by decide)) p3_
           obtain ⟨p1_, _⟩ := (hcl.get 2 (by decide)) p2_
           obtain ⟨p0_, _⟩ := (hcl.get 1 (by decide)) p1_
           have q8_ : D 8 = false := not_yet (hcl.get 8 (by decide)) 8 7 rfl hD
           have q9_ : D 9 = false := not_yet (hcl.get 9 (by decide)) 0 8 rfl q8_
           simp only [hD, p0_, p1_, p2_, p3_, p4_, p5_, p6_, q8_, q9_, cnd_t, cnd_f, Asc_t, Asc_f] at ht hs
           subst ht
           refine g_op (v := Value.int .i64 (i64w (((x20.set x21 (i64w ((x20.get x21 0) + (i64w ((a2.get x21 0) - (a3.get x21 0)))))).get (i64w (x21 + 1)) 0) + (a3.get x21 0)))) rfl rfl rfl ?_
           refine g_d rfl ?_
           try dsimp only [set0,setS]
           exact hk _ _ ⟨O, (by simp only [upd, Nat.reduceBEq, Bool.true_or, Bool.false_or, p0_, p1_, p2_, p3_, p4_, p5_, p6_, q8_, q9_, cnd_t, cnd_f, Asc_t, Asc_f]), hs.cast (by first | rfl | simp only [List.take, List.drop, List.cons_append, List.nil_append, List.set_cons_zero, List.set_cons_succ, List.eraseIdx, upd, Nat.reduceBEq, Bool.true_or, Bool.false_or, p0_, p1_, p2_, p3_, p4_, p5_, p6_, q8_, q9_, cnd_t, cnd_f, Asc_t, Asc_f])⟩
          ·
           intro D t w hD hp hcl hI rest hk
           obtain ⟨O, ht, hs⟩ := hI
           obtain ⟨p1_, p0_, _, p2_, p3_, p4_, p5_, p6_, p7_, _⟩ := hp
           have q9_ : D 9 = false := not_yet (hcl.get 9 (by decide)) 0 8 rfl hD
           simp only [hD, p0_, p1_, p2_, p3_, p4_, p5_, p6_, p7_, q9_, cnd_t, cnd_f, Asc_t, Asc_f] at ht hs
           subst ht
           refine s_idxA (n := i64w (x21 + 1)) (m := 1) rfl (fun _ => rfl) gd28.1 gd28.2 rfl rfl rfl rfl rfl ?_
           refine g_d rfl ?_
           try dsimp only [set0,setS]
           exact hk _ _ ⟨O, (by simp only [upd, Nat.reduceBEq, Bool.true_or, Bool.false_or, p0_, p1_, p2_, p3_, p4_, p5_, p6_, p7_, q9_, cnd_t, cnd_f, Asc_t, Asc_f]), hs.cast (by first | rfl | simp only [List.take, List.drop, List.cons_append, List.nil_append, List.set_cons_zero, List.set_cons_succ, List.eraseIdx, upd, Nat.reduceBEq, Bool.true_or, Bool.false_or, p0_, p1_, p2_, p3_, p4_, p5_, p6_, p7_, q9_, cnd_t, cnd_f, Asc_t, Asc_f])⟩
          ·
           intro D t w hD hp hcl hI rest hk
           obtain ⟨O, ht, hs⟩ := hI
           obtain ⟨p8_, p7_, p0_, p1_, p2_, p3_, p4_, p5_, p6_, _, _⟩ := hp
           simp only [hD, p0_, p1_, p2_, p3_, p4_, p5_, p6_, p7_, p8_, cnd_t, cnd_f, Asc_t, Asc_f] at ht hs
           subst ht
           have hs := hs.pull 5 rfl
           have hs : St _ [_,_,_,_,_,_] _ := hs
           refine s_storeA (y := i64w (((x20.set x21 (i64w ((x20.get x21 0) + (i64w ((a2.get x21 0) - (a3.get x21 0)))))).get (i64w (x21 + 1)) 0) + (a3.get x21 0))) (fkI .i64).len (fkI .i64).one gd28.1 gd28.2 hs rfl rfl rfl rfl rfl (fun _ => rfl) ?_
           intro w hs
           refine g_n rfl ?_
           try dsimp only [set0,setS]
           have hs := hs.push 5 (by simp)
           exact hk _ _ ⟨O, (by simp only [upd, Nat.reduceBEq, Bool.true_or, Bool.false_or, p0_, p1_, p2_, p3_, p4_, p5_, p6_, p7_, p8_, cnd_t, cnd_f, Asc_t, Asc_f]), hs.cast (by first | rfl | simp only [List.take, List.drop, List.cons_append, List.nil_append, List.set_cons_zero, List.set_cons_succ, List.eraseIdx, upd, Nat.reduceBEq, Bool.true_or, Bool.false_or, p0_, p1_, p2_, p3_, p4_, p5_, p6_, p7_, p8_, cnd_t, cnd_f, Asc_t, Asc_f])⟩
          ·
           intro D t w hall hI
           obtain ⟨O, ht, hs⟩ := hI
           have p0_ : D 0 = true := hall 0 (by decide)
           have p1_ : D 1 = true := hall 1 (by decide)
           have p2_ : D 2 = true := hall 2 (by decide)
           have p3_ : D 3 = true := hall 3 (by decide)
           have p4_ : D 4 = true := hall 4 (by decide)
           have p5_ : D 5 = true := hall 5 (by decide)
           have p6_ : D 6 = true := hall 6 (by decide)
           have p7_ : D 7 = true := hall 7 (by decide)
           have p8_ : D 8 = true := hall 8 (by decide)
           have p9_ : D 9 = true := hall 9 (by decide)
           simp only [p0_, p1_, p2_, p3_, p4_, p5_, p6_, p7_, p8_, p9_, cnd_t, cnd_f, Asc_t, Asc_f] at ht hs
           subst ht
           refine g_inBlock ?_
           have hs := hs.pull 5 rfl
           have hs := hs.pull 5 rfl
           have hs := hs.pull 5 rfl
           have hs := hs.pull 5 rfl
           have hs := hs.pull 5 rfl
           have hs := hs.pull 5 rfl
           have hs : St _ [_,_,_,_,_,_] _ := St.take (Γ' := []) hs
           exact ha _ _ ⟨(x19.set x21 (i64w ((x19.get x21 0) + (a3.get x21 0)))).set (i64w (x21 + 1)) (i64w (((x19.set x21 (i64w ((x19.get x21 0) + (a3.get x21 0)))).get (i64w (x21 + 1)) 0) + (i64w ((a2.get x21 0) - (a3.get x21 0))))), (x20.set x21 (i64w ((x20.get x21 0) + (i64w ((a2.get x21 0) - (a3.get x21 0)))))).set (i64w (x21 + 1)) (i64w (((x20.set x21 (i64w ((x20.get x21 0) + (i64w ((a2.get x21 0) - (a3.get x21 0)))))).get (i64w (x21 + 1)) 0) + (a3.get x21 0))), H, rfl, hs⟩
        ·
         intro hb
         rw [if_neg (b_dec_f hb)] at H
         refine g_d rfl ?_
         try dsimp only [set0,setS]
         refine g_ops_nil ?_
         refine g_cond_false rfl ?_
         refine g_skip ?_
         refine g_inBlock ?_
         have hs := hs.pull 5 rfl
         have hs := hs.pull 5 rfl
         have hs := hs.pull 5 rfl
         have hs := hs.pull 5 rfl
         have hs := hs.pull 5 rfl
         have hs := hs.pull 5 rfl
         have hs : St _ [_,_,_,_,_,_] _ := St.take (Γ' := []) hs
         exact ha _ _ ⟨x19.set x21 (i64w ((x19.get x21 0) + (a3.get x21 0))), x20.set x21 (i64w ((x20.get x21 0) + (i64w ((a2.get x21 0) - (a3.get x21 0))))), H, rfl, hs⟩
    ·
     intro hb
     rw [if_neg (b_dec_f hb)] at H
     refine g_d rfl ?_
     try dsimp only [set0,setS]
     refine g_ops_nil ?_
     refine g_cond_false rfl ?_
     obtain rfl := Option.some.inj H
     subst Hx1_
     have hs := hs.pull 5 rfl
     have hs := hs.pull 5 rfl
     have hs := hs.pull 5 rfl
     have hs := hs.pull 5 rfl
     have hs : St _ [_,_,_,_] _ := St.take (Γ' := [_,_]) hs
     refine g_exit rfl ?_
     exact ha1_ _ _ ⟨x19, x20, Hr1_, rfl, hs⟩

end Go.Proofs.YtfnfoecocicigaaX
