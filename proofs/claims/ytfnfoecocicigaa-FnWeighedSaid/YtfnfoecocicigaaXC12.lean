/- Contracts, printed by gen.py. -/
import Derived.Test.YtfnfoecocicigaaXT
import Derived.Test.YtfnfoecocicigaaProg
import Derived.Test.YtfnfoecocicigaaXRowR
import Derived.Test.YtfnfoecocicigaaXSeg
import Derived.Test.YtfnfoecocicigaaXKey
import Derived.Test.YtfnfoecocicigaaXC6
namespace Go.Proofs.YtfnfoecocicigaaX
open Go Go.RowKit Go.Proofs
set_option linter.unusedVariables false
set_option linter.unusedSimpArgs false
/- function 37 _spec_l06Finder_first -/
def _spec_l06Finder_can.post (wb : World) (Z : As) (v3 : Value) (b2 : Nat) (v3 : Value) (r : (Bool × (List Int) × S_spec_l06Finder)) (v : Value) (w : World) : Prop := v = Value.bool r.1 ∧ St wb [Row 75 (K.int .i8) v3 r.2.1, Cells b2 (([Value.int .i64 r.2.2.f_lies, v3] : List Value)) 73, Z] w
def _spec_l06Finder_first.post (wb : World) (Z : As) (v3 : Value) (b2 : Nat) (v3 : Value) (r : ((Ar Int 4) × Bool × (List Int) × S_spec_l06Finder)) (v : Value) (w : World) : Prop := v = Value.tuple #[Value.agg ((encA (encI .i64)) r.1).toArray, Value.bool r.2.1] ∧ St wb [Row 75 (K.int .i8) v3 r.2.2.1, Cells b2 (([Value.int .i64 r.2.2.2.f_lies, v3] : List Value)) 73, Z] w
set_option maxHeartbeats 8000000 in
set_option maxRecDepth 100000 in
theorem _spec_l06Finder_first.calls {N : Nat} {self : S_spec_l06Finder → (Ar Int 4) → Int → Option (Bool × (List Int) × S_spec_l06Finder)} (ih : ∀ (a1 : S_spec_l06Finder) (a6 : (Ar Int 4)) (a7 : Int) (b2 : Nat) (v3 : Value) (wb : World) (Z : As) (w0 : World) (r : (Bool × (List Int) × S_spec_l06Finder)) (hs : St wb [Row 75 (K.int .i8) v3 a1.f_seen, Cells b2 (([Value.int .i64 a1.f_lies, v3] : List Value)) 73, Z] w0), self a1 a6 a7 = some r → Calls Try.prog 35 #[Value.pointer (some ⟨b2, 0, none⟩), Value.agg ((encA (encI .i64)) a6).toArray, Value.int .i64 a7] w0 fun e w => ∃ v, e = .returned v ∧ _spec_l06Finder_can.post wb Z v3 b2 v3 r v w) {a1 : S_spec_l06Finder} {a6 : (Ar Int 4)} {a7 : Int} {b2 : Nat} {v3 : Value} {wb : World} {Z : As} {w0 : World} {r : ((Ar Int 4) × Bool × (List Int) × S_spec_l06Finder)} (hs : St wb [Row 75 (K.int .i8) v3 a1.f_seen, Cells b2 (([Value.int .i64 a1.f_lies, v3] : List Value)) 73, Z] w0) (H : _spec_l06Finder_first.f N self a1 a6 a7 = some r) :
    Calls Try.prog 37 #[Value.pointer (some ⟨b2, 0, none⟩), Value.agg ((encA (encI .i64)) a6).toArray, Value.int .i64 a7] w0 fun e w => ∃ v, e = .returned v ∧ _spec_l06Finder_first.post wb Z v3 b2 v3 r v w := by
  unfold _spec_l06Finder_first.f at H
  refine calls_of_g (n := 73) Try.func37 rfl rfl ?_
  show G _ _ _ _ (_::_::_::_::_::_::_::_::_::_::_::_::_::_::_::_::_::_::_::_::_::_::_::_::_::_::_::_::_::_::_::_::_::_::_::_::_::_::_::_::_::_::_::_::_::_::_::_::_::_::_::_::_::_::_::_::_::_::_::_::_::_::_::_::_::_::_::_::_::_::_::_::_::_::_::_::[]) _
  refine g_seq ?_
  refine g_region ?_
  show G _ _ _ (.inRegion _ [0, 1, 2] :: _) _ _
  refine s_box hs rfl rfl (cs := ((encA (encI .i64)) a6)) rfl rfl ?_
  intro b8 w hs
  refine g_d rfl ?_
  try dsimp only [set0,setS]
  refine s_alloc hs rfl rfl (z := (Value.agg #[Value.int .i64 0, Value.int .i64 0, Value.int .i64 0, Value.int .i64 0])) (cs := ((encA (encI .i64)) (Ar.rep 4 0))) rfl (fun _ => rfl) rfl ?_
  intro b10 w hs
  refine g_d rfl ?_
  try dsimp only [set0,setS]
  refine g_op (v := Value.bool false) rfl rfl rfl ?_
  refine g_d rfl ?_
  try dsimp only [set0,setS]
  refine g_ops_nil ?_
  refine g_seq ?_
  refine g_region ?_
  show G _ _ _ (.inRegion _ [0, 1, 2] :: _) _ _
  refine g_op (v := Value.agg ((encA (encI .i64)) (Ar.rep 4 0)).toArray) rfl rfl (x_build rfl rfl) ?_
  refine g_d rfl ?_
  try dsimp only [set0,setS]
  refine s_alloc hs rfl rfl (z := (Value.agg #[Value.int .i64 0, Value.int .i64 0, Value.int .i64 0, Value.int .i64 0])) (cs := ((encA (encI .i64)) (Ar.rep 4 0))) rfl (fun _ => rfl) rfl ?_
  intro b12 w hs
  refine g_d rfl ?_
  try dsimp only [set0,setS]
  refine s_storeAll (n := 4) hs ((fkA (n := 4) (he := (fkI .i64).len) (h1 := (fkI .i64).one)).len _) rfl rfl (vs := ((encA (encI .i64)) (Ar.rep 4 0))) rfl rfl rfl (fun _ => rfl) ((fkA (n := 4) (he := (fkI .i64).len) (h1 := (fkI .i64).one)).len _) ((fkA (n := 4) (he := (fkI .i64).len) (h1 := (fkI .i64).one)).one _) ?_
  intro w hs
  refine g_n rfl ?_
  refine g_ops_nil ?_
  refine g_seq ?_
  refine g_seq ?_
  refine g_region ?_
  show G _ _ _ (.inRegion _ [0, 1] :: _) _ _
  obtain ⟨g1, H⟩ := ite_get H
  refine s_idxA (n := 0) (m := 1) rfl (fun _ => rfl) g1.1 g1.2 rfl rfl rfl rfl rfl ?_
  refine g_d rfl ?_
  try dsimp only [set0,setS]
  refine s_storeA (y := 0) (fkI .i64).len (fkI .i64).one g1.1 g1.2 hs rfl rfl rfl rfl rfl (fun _ => rfl) ?_
  intro w hs
  refine g_n rfl ?_
  refine g_ops_nil ?_
  obtain ⟨o1_, Ho, Hr1_⟩ := bind_get H
  refine g_block_join (J := fun t w => ∃ x307 : (List Int), ∃ x309 : Int, _spec_l06Finder_first.a0 N self x307 x309 = some r ∧ Fr t (fun O => (O 0::O 1::O 2::O 3::O 4::O 5::Value.pointer (some ⟨b10, 0, none⟩)::O 7::O 8::O 9::O 10::O 11::O 12::O 13::O 14::O 15::O 16::O 17::O 18::O 19::O 20::O 21::O 22::O 23::O 24::O 25::O 26::O 27::O 28::O 29::O 30::O 31::O 32::O 33::O 34::O 35::O 36::O 37::O 38::O 39::O 40::O 41::O 42::O 43::O 44::O 45::O 46::O 47::O 48::O 49::O 50::O 51::O 52::O 53::O 54::O 55::O 56::O 57::O 58::O 59::O 60::O 61::O 62::O 63::O 64::O 65::O 66::O 67::O 68::O 69::O 70::O 71::O 72::O 73::O 74::O 75::[] : List Value)) ∧ St wb [Cells b10 ((encA (encI .i64)) (Ar.rep 4 0)) 25, Row 75 (K.int .i8) v3 x307, Cells b2 (([Value.int .i64 x309, v3] : List Value)) 73, Z] w) ?_ ?_
  ·
   rintro t w ⟨x307, x309, H, hf, hs⟩
   obtain ⟨O, rfl⟩ := hf.open
   try dsimp only
   unfold _spec_l06Finder_first.a0 at H
   refine g_seq ?_
   refine g_region ?_
   show G _ _ _ (.inRegion _ [0, 1, 2] :: _) _ _
   refine g_op (v := Value.agg ((encA (encI .i64)) (Ar.rep 4 0)).toArray) rfl rfl (x_build rfl rfl) ?_
   refine g_d rfl ?_
   try dsimp only [set0,setS]
   refine s_storeAll (n := 4) hs ((fkA (n := 4) (he := (fkI .i64).len) (h1 := (fkI .i64).one)).len _) rfl rfl (vs := ((encA (encI .i64)) (Ar.rep 4 0))) rfl rfl rfl (fun _ => rfl) ((fkA (n := 4) (he := (fkI .i64).len) (h1 := (fkI .i64).one)).len _) ((fkA (n := 4) (he := (fkI .i64).len) (h1 := (fkI .i64).one)).one _) ?_
   intro w hs
   refine g_n rfl ?_
   refine g_op (v := Value.bool false) rfl rfl rfl ?_
   refine g_d rfl ?_
   try dsimp only [set0,setS]
   refine g_ops_nil ?_
   obtain rfl := Option.some.inj H
   refine g_ret Try.func37 (v := Value.tuple #[Value.agg ((encA (encI .i64)) (Ar.rep 4 0)).toArray, Value.bool false]) (resN (l := Try.f37.results.toList) (vs := [Value.agg ((encA (encI .i64)) (Ar.rep 4 0)).toArray, Value.bool false]) rfl ⟨⟨_, rfl, (run_loadVar_agg (es := ((encA (encI .i64)) (Ar.rep 4 0))) rfl (congrArg (Result.ok · _) ((fkA (n := 4) (he := (fkI .i64).len) (h1 := (fkI .i64).one)).len _).symm) (cells_all (hs.cells 0 rfl)))⟩, rfl, trivial⟩ (by simp)) ?_
   have hs := hs.pull 3 rfl
   have hs := hs.pull 3 rfl
   have hs := hs.pull 3 rfl
   have hs : St _ [_,_,_] _ := St.take (Γ' := [_]) hs
   exact ⟨_, rfl, rfl, hs⟩
  ·
   intro ha1_
   have hs := hs.pull 5 rfl
   have hs := hs.pull 1 rfl
   have hs := hs.pull 2 rfl
   have hs := hs.pull 3 rfl
   have hs := hs.pull 5 rfl
   have hs := hs.pull 5 rfl
   have hs : St _ [_,_,_,_,_,_] _ := St.take (Γ' := []) hs
   refine g_loop_fuel (I := fun n_ t w => ∃ x159 : Int, ∃ x160 : (List Int), ∃ x161 : (Ar Int 4), rounds (fun s => _spec_l06Finder_first.b0 N self a6 a7 s.1 s.2.1 s.2.2) n_ (x159, x160, x161) = some o1_ ∧ Fr t (fun O => (Value.pointer (some ⟨b2, 0, none⟩)::O 1::Value.int .i64 a7::O 3::Value.pointer (some ⟨b8, 0, none⟩)::O 5::Value.pointer (some ⟨b10, 0, none⟩)::O 7::Value.pointer (some ⟨b12, 0, none⟩)::O 9::O 10::O 11::O 12::O 13::O 14::O 15::O 16::O 17::O 18::O 19::O 20::O 21::O 22::O 23::O 24::O 25::O 26::O 27::O 28::O 29::O 30::O 31::O 32::O 33::O 34::O 35::O 36::O 37::O 38::O 39::O 40::O 41::O 42::O 43::O 44::O 45::O 46::O 47::O 48::O 49::O 50::O 51::O 52::O 53::O 54::O 55::O 56::O 57::O 58::O 59::O 60::O 61::O 62::O 63::O 64::O 65::O 66::O 67::O 68::O 69::O 70::O 71::O 72::O 73::O 74::O 75::[] : List Value)) ∧ St wb [Row 75 (K.int .i8) v3 x160, Cells b2 (([Value.int .i64 x159, v3] : List Value)) 73, Cells b8 ((encA (encI .i64)) a6) 25, Cells b10 ((encA (encI .i64)) (Ar.rep 4 0)) 25, Cells b12 ((encA (encI .i64)) x161) 25, Z] w) N ⟨a1.f_lies, a1.f_seen, (Ar.rep 4 0).set 0 0, Ho, rfl, hs⟩ ?_ ?_
   ·
    rintro _ _ ⟨x159, x160, x161, h, _⟩
    exact rounds_zero h
   ·
    intro n_ ih1_
    rintro t w ⟨x159, x160, x161, Ho, hf, hs⟩
    obtain ⟨O, rfl⟩ := hf.open
    try dsimp only
    obtain ⟨x182_, H, Hx1_⟩ := rounds_succ Ho
    have H : _spec_l06Finder_first.b0 N self a6 a7 x159 x160 x161 = some x182_ := H
    unfold _spec_l06Finder_first.b0 at H
    refine g_seq ?_
    refine g_seq ?_
    refine g_region ?_
    show G _ _ _ (.inRegion _ [0, 1, 2, 3, 4] :: _) _ _
    obtain ⟨g92, H⟩ := ite_get H
    refine s_idxA (n := 0) (m := 1) rfl (fun _ => rfl) g92.1 g92.2 rfl rfl rfl rfl rfl ?_
    refine g_d rfl ?_
    try dsimp only [set0,setS]
    refine s_load1 rfl rfl (v := Value.int .i64 (x161.get 0 0)) rfl rfl (fun _ => rfl) (by rw [Nat.zero_add]; exact cells_load (hs.cells 4 rfl) _ _ (encA_at (fkI .i64).len _ _ 0 g92.1 g92.2)) ?_
    refine g_d rfl ?_
    try dsimp only [set0,setS]
    obtain ⟨g93, H⟩ := ite_get H
    refine s_idxA (n := 0) (m := 1) rfl (fun _ => rfl) g93.1 g93.2 rfl rfl rfl rfl rfl ?_
    refine g_d rfl ?_
    try dsimp only [set0,setS]
    refine s_load1 rfl rfl (v := Value.int .i64 (a6.get 0 0)) rfl rfl (fun _ => rfl) (by rw [Nat.zero_add]; exact cells_load (hs.cells 2 rfl) _ _ (encA_at (fkI .i64).len _ _ 0 g93.1 g93.2)) ?_
    refine g_d rfl ?_
    try dsimp only [set0,setS]
    refine g_op_b (B := decide ((x161.get 0 0) ≤ (a6.get 0 0))) rfl rfl rfl ?_ ?_
    ·
     intro hb
     rw [if_pos (b_dec_t hb)] at H
     refine g_d rfl ?_
     try dsimp only [set0,setS]
     refine g_ops_nil ?_
     refine g_cond_true rfl ?_
     refine g_skip ?_
     refine g_seq ?_
     refine g_block ?_
     refine g_seq ?_
     refine g_region ?_
     show G _ _ _ (.inRegion _ [0, 1] :: _) _ _
     obtain ⟨g94, H⟩ := ite_get H
     refine s_idxA (n := 1) (m := 1) rfl (fun _ => rfl) g94.1 g94.2 rfl rfl rfl rfl rfl ?_
     refine g_d rfl ?_
     try dsimp only [set0,setS]
     have hs := hs.pull 4 rfl
     have hs : St _ [_,_,_,_,_,_] _ := hs
     refine s_storeA (y := 0) (fkI .i64).len (fkI .i64).one g94.1 g94.2 hs rfl rfl rfl rfl rfl (fun _ => rfl) ?_
     intro w hs
     refine g_n rfl ?_
     refine g_ops_nil ?_
     obtain ⟨o2_, Ho, Hr2_⟩ := bind_get H
     refine g_block_join (J := fun t w => ∃ x303 : Int, ∃ x304 : (List Int), ∃ x306 : (Ar Int 4), _spec_l06Finder_first.a2 N self x303 x304 x306 = some x182_ ∧ Fr t (fun O => (Value.pointer (some ⟨b2, 0, none⟩)::O 1::Value.int .i64 a7::O 3::Value.pointer (some ⟨b8, 0, none⟩)::O 5::Value.pointer (some ⟨b10, 0, none⟩)::O 7::Value.pointer (some ⟨b12, 0, none⟩)::O 9::O 10::O 11::O 12::O 13::O 14::O 15::O 16::O 17::O 18::O 19::O 20::O 21::O 22::O 23::O 24::O 25::O 26::O 27::O 28::O 29::O 30::O 31::O 32::O 33::O 34::O 35::O 36::O 37::O 38::O 39::O 40::O 41::O 42::O 43::O 44::O 45::O 46::O 47::O 48::O 49::O 50::O 51::O 52::O 53::O 54::O 55::O 56::O 57::O 58::O 59::O 60::O 61::O 62::O 63::O 64::O 65::O 66::O 67::O 68::O 69::O 70::O 71::O 72::O 73::O 74::O 75::[] : List Value)) ∧ St wb [Cells b2 (([Value.int .i64 x303, v3] : List Value)) 73, Row 75 (K.int .i8) v3 x304, Cells b8 ((encA (encI .i64)) a6) 25, Cells b10 ((encA (encI .i64)) (Ar.rep 4 0)) 25, Cells b12 ((encA (encI .i64)) x306) 25, Z] w) ?_ ?_
     ·
      rintro t w ⟨x303, x304, x306, H, hf, hs⟩
      obtain ⟨O, rfl⟩ := hf.open
      try dsimp only
      unfold _spec_l06Finder_first.a2 at H
      refine g_inBlock ?_
      refine g_region ?_
      show G _ _ _ (.inRegion _ [0, 1, 2, 3, 4] :: _) _ _
      obtain ⟨g179, H⟩ := ite_get H
      refine s_idxA (n := 0) (m := 1) rfl (fun _ => rfl) g179.1 g179.2 rfl rfl rfl rfl rfl ?_
      refine g_d rfl ?_
      try dsimp only [set0,setS]
      refine s_load1 rfl rfl (v := Value.int .i64 (x306.get 0 0)) rfl rfl (fun _ => rfl) (by rw [Nat.zero_add]; exact cells_load (hs.cells 4 rfl) _ _ (encA_at (fkI .i64).len _ _ 0 g179.1 g179.2)) ?_
      refine g_d rfl ?_
      try dsimp only [set0,setS]
      refine g_op (v := Value.int .i64 (i64w ((x306.get 0 0) + 1))) rfl rfl rfl ?_
      refine g_d rfl ?_
      try dsimp only [set0,setS]
      obtain ⟨g180, H⟩ := ite_get H
      refine s_idxA (n := 0) (m := 1) rfl (fun _ => rfl) g180.1 g180.2 rfl rfl rfl rfl rfl ?_
      refine g_d rfl ?_
      try dsimp only [set0,setS]
      have hs := hs.pull 4 rfl
      have hs : St _ [_,_,_,_,_,_] _ := hs
      refine s_storeA (y := i64w ((x306.get 0 0) + 1)) (fkI .i64).len (fkI .i64).one g180.1 g180.2 hs rfl rfl rfl rfl rfl (fun _ => rfl) ?_
      intro w hs
      refine g_n rfl ?_
      refine g_ops_nil ?_
      obtain rfl := Option.some.inj H
      have hs := hs.pull 5 rfl
      have hs := hs.pull 1 rfl
      have hs := hs.pull 5 rfl
      have hs := hs.pull 5 rfl
      have hs := hs.pull 4 rfl
      have hs := hs.pull 5 rfl
      have hs : St _ [_,_,_,_,_,_] _ := St.take (Γ' := []) hs
      exact ih1_ _ _ ⟨x303, x304, x306.set 0 (i64w ((x306.get 0 0) + 1)), Hx1_, rfl, hs⟩
     ·
      intro ha2_
      have hs := hs.pull 5 rfl
      have hs := hs.pull 1 rfl
      have hs := hs.pull 5 rfl
      have hs := hs.pull 5 rfl
      have hs := hs.pull 5 rfl
      have hs := hs.pull 5 rfl
      have hs : St _ [_,_,_,_,_,_] _ := St.take (Γ' := []) hs
      refine g_loop_fuel (I := fun n_ t w => ∃ x231 : Int, ∃ x232 : (List Int), ∃ x233 : (Ar Int 4), rounds (fun s => _spec_l06Finder_first.b2 N self a6 a7 s.1 s.2.1 s.2.2) n_ (x231, x232, x233) = some o2_ ∧ Fr t (fun O => (Value.pointer (some ⟨b2, 0, none⟩)::O 1::Value.int .i64 a7::O 3::Value.pointer (some ⟨b8, 0, none⟩)::O 5::Value.pointer (some ⟨b10, 0, none⟩)::O 7::Value.pointer (some ⟨b12, 0, none⟩)::O 9::O 10::O 11::O 12::O 13::O 14::O 15::O 16::O 17::O 18::O 19::O 20::O 21::O 22::O 23::O 24::O 25::O 26::O 27::O 28::O 29::O 30::O 31::O 32::O 33::O 34::O 35::O 36::O 37::O 38::O 39::O 40::O 41::O 42::O 43::O 44::O 45::O 46::O 47::O 48::O 49::O 50::O 51::O 52::O 53::O 54::O 55::O 56::O 57::O 58::O 59::O 60::O 61::O 62::O 63::O 64::O 65::O 66::O 67::O 68::O 69::O 70::O 71::O 72::O 73::O 74::O 75::[] : List Value)) ∧ St wb [Row 75 (K.int .i8) v3 x232, Cells b2 (([Value.int .i64 x231, v3] : List Value)) 73, Cells b8 ((encA (encI .i64)) a6) 25, Cells b10 ((encA (encI .i64)) (Ar.rep 4 0)) 25, Cells b12 ((encA (encI .i64)) x233) 25, Z] w) N ⟨x159, x160, x161.set 1 0, Ho, rfl, hs⟩ ?_ ?_
      ·
       rintro _ _ ⟨x231, x232, x233, h, _⟩
       exact rounds_zero h
      ·
       intro n_ ih2_
       rintro t w ⟨x231, x232, x233, Ho, hf, hs⟩
       obtain ⟨O, rfl⟩ := hf.open
       try dsimp only
       obtain ⟨x181_, H, Hx2_⟩ := rounds_succ Ho
       have H : _spec_l06Finder_first.b2 N self a6 a7 x231 x232 x233 = some x181_ := H
       unfold _spec_l06Finder_first.b2 at H
       refine g_seq ?_
       refine g_seq ?_
       refine g_region ?_
       show G _ _ _ (.inRegion _ [0, 1, 2, 3, 4] :: _) _ _
       obtain ⟨g137, H⟩ := ite_get H
       refine s_idxA (n := 1) (m := 1) rfl (fun _ => rfl) g137.1 g137.2 rfl rfl rfl rfl rfl ?_
       refine g_d rfl ?_
       try dsimp only [set0,setS]
       refine s_load1 rfl rfl (v := Value.int .i64 (x233.get 1 0)) rfl rfl (fun _ => rfl) (by rw [Nat.zero_add]; exact cells_load (hs.cells 4 rfl) _ _ (encA_at (fkI .i64).len _ _ 0 g137.1 g137.2)) ?_
       refine g_d rfl ?_
       try dsimp only [set0,setS]
       obtain ⟨g138, H⟩ := ite_get H
       refine s_idxA (n := 1) (m := 1) rfl (fun _ => rfl) g138.1 g138.2 rfl rfl rfl rfl rfl ?_
       refine g_d rfl ?_
       try dsimp only [set0,setS]
       refine s_load1 rfl rfl (v := Value.int .i64 (a6.get 1 0)) rfl rfl (fun _ => rfl) (by rw [Nat.zero_add]; exact cells_load (hs.cells 2 rfl) _ _ (encA_at (fkI .i64).len _ _ 0 g138.1 g138.2)) ?_
       refine g_d rfl ?_
       try dsimp only [set0,setS]
       refine g_op_b (B := decide ((x233.get 1 0) ≤ (a6.get 1 0))) rfl rfl rfl ?_ ?_
       ·
        intro hb
        rw [if_pos (b_dec_t hb)] at H
        refine g_d rfl ?_
        try dsimp only [set0,setS]
        refine g_ops_nil ?_
        refine g_cond_true rfl ?_
        refine g_skip ?_
        refine g_seq ?_
        refine g_block ?_
        refine g_seq ?_
        refine g_region ?_
        show G _ _ _ (.inRegion _ [0, 1] :: _) _ _
        obtain ⟨g139, H⟩ := ite_get H
        refine s_idxA (n := 2) (m := 1) rfl (fun _ => rfl) g139.1 g139.2 rfl rfl rfl rfl rfl ?_
        refine g_d rfl ?_
        try dsimp only [set0,setS]
        have hs := hs.pull 4 rfl
        have hs : St _ [_,_,_,_,_,_] _ := hs
        refine s_storeA (y := 0) (fkI .i64).len (fkI .i64).one g139.1 g139.2 hs rfl rfl rfl rfl rfl (fun _ => rfl) ?_
        intro w hs
        refine g_n rfl ?_
        refine g_ops_nil ?_
        obtain ⟨o3_, Ho, Hr3_⟩ := bind_get H
        refine g_block_join (J := fun t w => ∃ x299 : Int, ∃ x300 : (List Int), ∃ x302 : (Ar Int 4), _spec_l06Finder_first.a4 N self x299 x300 x302 = some x181_ ∧ Fr t (fun O => (Value.pointer (some ⟨b2, 0, none⟩)::O 1::Value.int .i64 a7::O 3::Value.pointer (some ⟨b8, 0, none⟩)::O 5::Value.pointer (some ⟨b10, 0, none⟩)::O 7::Value.pointer (some ⟨b12, 0, none⟩)::O 9::O 10::O 11::O 12::O 13::O 14::O 15::O 16::O 17::O 18::O 19::O 20::O 21::O 22::O 23::O 24::O 25::O 26::O 27::O 28::O 29::O 30::O 31::O 32::O 33::O 34::O 35::O 36::O 37::O 38::O 39::O 40::O 41::O 42::O 43::O 44::O 45::O 46::O 47::O 48::O 49::O 50::O 51::O 52::O 53::O 54::O 55::O 56::O 57::O 58::O 59::O 60::O 61::O 62::O 63::O 64::O 65::O 66::O 67::O 68::O 69::O 70::O 71::O 72::O 73::O 74::O 75::[] : List Value)) ∧ St wb [Cells b2 (([Value.int .i64 x299, v3] : List Value)) 73, Row 75 (K.int .i8) v3 x300, Cells b8 ((encA (encI .i64)) a6) 25, Cells b10 ((encA (encI .i64)) (Ar.rep 4 0)) 25, Cells b12 ((encA (encI .i64)) x302) 25, Z] w) ?_ ?_
        ·
         rintro t w ⟨x299, x300, x302, H, hf, hs⟩
         obtain ⟨O, rfl⟩ := hf.open
         try dsimp only
         unfold _spec_l06Finder_first.a4 at H
         refine g_inBlock ?_
         refine g_region ?_
         show G _ _ _ (.inRegion _ [0, 1, 2, 3, 4] :: _) _ _
         obtain ⟨g176, H⟩ := ite_get H
         refine s_idxA (n := 1) (m := 1) rfl (fun _ => rfl) g176.1 g176.2 rfl rfl rfl rfl rfl ?_
         refine g_d rfl ?_
         try dsimp only [set0,setS]
         refine s_load1 rfl rfl (v := Value.int .i64 (x302.get 1 0)) rfl rfl (fun _ => rfl) (by rw [Nat.zero_add]; exact cells_load (hs.cells 4 rfl) _ _ (encA_at (fkI .i64).len _ _ 0 g176.1 g176.2)) ?_
         refine g_d rfl ?_
         try dsimp only [set0,setS]
         refine g_op (v := Value.int .i64 (i64w ((x302.get 1 0) + 1))) rfl rfl rfl ?_
         refine g_d rfl ?_
         try dsimp only [set0,setS]
         obtain ⟨g177, H⟩ := ite_get H
         refine s_idxA (n := 1) (m := 1) rfl (fun _ => rfl) g177.1 g177.2 rfl rfl rfl rfl rfl ?_
         refine g_d rfl ?_
         try dsimp only [set0,setS]
         have hs := hs.pull 4 rfl
         have hs : St _ [_,_,_,_,_,_] _ := hs
         refine s_storeA (y := i64w ((x302.get 1 0) + 1)) (fkI .i64).len (fkI .i64).one g177.1 g177.2 hs rfl rfl rfl rfl rfl (fun _ => rfl) ?_
         intro w hs
         refine g_n rfl ?_
         refine g_ops_nil ?_
         obtain rfl := Option.some.inj H
         have hs := hs.pull 5 rfl
         have hs := hs.pull 1 rfl
         have hs := hs.pull 5 rfl
         have hs := hs.pull 5 rfl
         have hs := hs.pull 4 rfl
         have hs := hs.pull 5 rfl
         have hs : St _ [_,_,_,_,_,_] _ := St.take (Γ' := []) hs
         exact ih2_ _ _ ⟨x299, x300, x302.set 1 (i64w ((x302.get 1 0) + 1)), Hx2_, rfl, hs⟩
        ·
         intro ha3_
         have hs := hs.pull 5 rfl
         have hs := hs.pull 1 rfl
         have hs := hs.pull 5 rfl
         have hs := hs.pull 5 rfl
         have hs := hs.pull 5 rfl
         have hs := hs.pull 5 rfl
         have hs : St _ [_,_,_,_,_,_] _ := St.take (Γ' := []) hs
         refine g_loop_fuel (I := fun n_ t w => ∃ x265 : Int, ∃ x266 : (List Int), ∃ x267 : (Ar Int 4), rounds (fun s => _spec_l06Finder_first.b4 N self a6 a7 s.1 s.2.1 s.2.2) n_ (x265, x266, x267) = some o3_ ∧ Fr t (fun O => (Value.pointer (some ⟨b2, 0, none⟩)::O 1::Value.int .i64 a7::O 3::Value.pointer (some ⟨b8, 0, none⟩)::O 5::Value.pointer (some ⟨b10, 0, none⟩)::O 7::Value.pointer (some ⟨b12, 0, none⟩)::O 9::O 10::O 11::O 12::O 13::O 14::O 15::O 16::O 17::O 18::O 19::O 20::O 21::O 22::O 23::O 24::O 25::O 26::O 27::O 28::O 29::O 30::O 31::O 32::O 33::O 34::O 35::O 36::O 37::O 38::O 39::O 40::O 41::O 42::O 43::O 44::O 45::O 46::O 47::O 48::O 49::O 50::O 51::O 52::O 53::O 54::O 55::O 56::O 57::O 58::O 59::O 60::O 61::O 62::O 63::O 64::O 65::O 66::O 67::O 68::O 69::O 70::O 71::O 72::O 73::O 74::O 75::[] : List Value)) ∧ St wb [Row 75 (K.int .i8) v3 x266, Cells b2 (([Value.int .i64 x265, v3] : List Value)) 73, Cells b8 ((encA (encI .i64)) a6) 25, Cells b10 ((encA (encI .i64)) (Ar.rep 4 0)) 25, Cells b12 ((encA (encI .i64)) x267) 25, Z] w) N ⟨x231, x232, x233.set 2 0, Ho, rfl, hs⟩ ?_ ?_
         ·
          rintro _ _ ⟨x265, x266, x267, h, _⟩
          exact rounds_zero h
         ·
          intro n_ ih3_
          rintro t w ⟨x265, x266, x267, Ho, hf, hs⟩
          obtain ⟨O, rfl⟩ := hf.open
          try dsimp only
          obtain ⟨x178_, H, Hx3_⟩ := rounds_succ Ho
          have H : _spec_l06Finder_first.b4 N self a6 a7 x265 x266 x267 = some x178_ := H
          unfold _spec_l06Finder_first.b4 at H
          refine g_seq ?_
          refine g_seq ?_
          refine g_region ?_
          show G _ _ _ (.inRegion _ [0, 1, 2, 3, 4] :: _) _ _
          obtain ⟨g158, H⟩ := ite_get H
          refine s_idxA (n := 2) (m := 1) rfl (fun _ => rfl) g158.1 g158.2 rfl rfl rfl rfl rfl ?_
          refine g_d rfl ?_
          try dsimp only [set0,setS]
          refine s_load1 rfl rfl (v := Value.int .i64 (x267.get 2 0)) rfl rfl (fun _ => rfl) (by rw [Nat.zero_add]; exact cells_load (hs.cells 4 rfl) _ _ (encA_at (fkI .i64).len _ _ 0 g158.1 g158.2)) ?_
          refine g_d rfl ?_
          try dsimp only [set0,setS]
          obtain ⟨g159, H⟩ := ite_get H
          refine s_idxA (n := 2) (m := 1) rfl (fun _ => rfl) g159.1 g159.2 rfl rfl rfl rfl rfl ?_
          refine g_d rfl ?_
          try dsimp only [set0,setS]
          refine s_load1 rfl rfl (v := Value.int .i64 (a6.get 2 0)) rfl rfl (fun _ => rfl) (by rw [Nat.zero_add]; exact cells_load (hs.cells 2 rfl) _ _ (encA_at (fkI .i64).len _ _ 0 g159.1 g159.2)) ?_
          refine g_d rfl ?_
          try dsimp only [set0,setS]
          refine g_op_b (B := decide ((x267.get 2 0) ≤ (a6.get 2 0))) rfl rfl rfl ?_ ?_
          ·
           intro hb
           rw [if_pos (b_dec_t hb)] at H
           refine g_d rfl ?_
           try dsimp only [set0,setS]
           refine g_ops_nil ?_
           refine g_cond_true rfl ?_
           refine g_skip ?_
           refine g_seq ?_
           refine g_block ?_
           refine g_seq ?_
           refine g_region ?_
           show G _ _ _ (.inRegion _ [0, 1] :: _) _ _
           obtain ⟨g160, H⟩ := ite_get H
           refine s_idxA (n := 3) (m := 1) rfl (fun _ => rfl) g160.1 g160.2 rfl rfl rfl rfl rfl ?_
           refine g_d rfl ?_
           try dsimp only [set0,setS]
           have hs := hs.pull 4 rfl
           have hs : St _ [_,_,_,_,_,_] _ := hs
           refine s_storeA (y := 0) (fkI .i64).len (fkI .i64).one g160.1 g160.2 hs rfl rfl rfl rfl rfl (fun _ => rfl) ?_
           intro w hs
           refine g_n rfl ?_
           refine g_ops_nil ?_
           obtain ⟨o4_, Ho, Hr4_⟩ := bind_get H
           refine g_block_join (J := fun t w => ∃ x295 : Int, ∃ x296 : (List Int), ∃ x298 : (Ar Int 4), _spec_l06Finder_first.a6 N self x295 x296 x298 = some x178_ ∧ Fr t (fun O => (Value.pointer (some ⟨b2, 0, none⟩)::O 1::Value.int .i64 a7::O 3::Value.pointer (some ⟨b8, 0, none⟩)::O 5::Value.pointer (some ⟨b10, 0, none⟩)::O 7::Value.pointer (some ⟨b12, 0, none⟩)::O 9::O 10::O 11::O 12::O 13::O 14::O 15::O 16::O 17::O 18::O 19::O 20::O 21::O 22::O 23::O 24::O 25::O 26::O 27::O 28::O 29::O 30::O 31::O 32::O 33::O 34::O 35::O 36::O 37::O 38::O 39::O 40::O 41::O 42::O 43::O 44::O 45::O 46::O 47::O 48::O 49::O 50::O 51::O 52::O 53::O 54::O 55::O 56::O 57::O 58::O 59::O 60::O 61::O 62::O 63::O 64::O 65::O 66::O 67::O 68::O 69::O 70::O 71::O 72::O 73::O 74::O 75::[] : List Value)) ∧ St wb [Cells b2 (([Value.int .i64 x295, v3] : List Value)) 73, Row 75 (K.int .i8) v3 x296, Cells b8 ((encA (encI .i64)) a6) 25, Cells b10 ((encA (encI .i64)) (Ar.rep 4 0)) 25, Cells b12 ((encA (encI .i64)) x298) 25, Z] w) ?_ ?_
           ·
            rintro t w ⟨x295, x296, x298, H, hf, hs⟩
            obtain ⟨O, rfl⟩ := hf.open
            try dsimp only
            unfold _spec_l06Finder_first.a6 at H
            refine g_inBlock ?_
            refine g_region ?_
            show G _ _ _ (.inRegion _ [0, 1, 2, 3, 4] :: _) _ _
            obtain ⟨g173, H⟩ := ite_get H
            refine s_idxA (n := 2) (m := 1) rfl (fun _ => rfl) g173.1 g173.2 rfl rfl rfl rfl rfl ?_
            refine g_d rfl ?_
            try dsimp only [set0,setS]
            refine s_load1 rfl rfl (v := Value.int .i64 (x298.get 2 0)) rfl rfl (fun _ => rfl) (by rw [Nat.zero_add]; exact cells_load (hs.cells 4 rfl) _ _ (encA_at (fkI .i64).len _ _ 0 g173.1 g173.2)) ?_
            refine g_d rfl ?_
            try dsimp only [set0,setS]
            refine g_op (v := Value.int .i64 (i64w ((x298.get 2 0) + 1))) rfl rfl rfl ?_
            refine g_d rfl ?_
            try dsimp only [set0,setS]
            obtain ⟨g174, H⟩ := ite_get H
            refine s_idxA (n := 2) (m := 1) rfl (fun _ => rfl) g174.1 g174.2 rfl rfl rfl rfl rfl ?_
            refine g_d rfl ?_
            try dsimp only [set0,setS]
            have hs := hs.pull 4 rfl
            have hs : St _ [_,_,_,_,_,_] _ := hs
            refine s_storeA (y := i64w ((x298.get 2 0) + 1)) (fkI .i64).len (fkI .i64).one g174.1 g174.2 hs rfl rfl rfl rfl rfl (fun _ => rfl) ?_
            intro w hs
            refine g_n rfl ?_
            refine g_ops_nil ?_
            obtain rfl := Option.some.inj H
            have hs := hs.pull 5 rfl
            have hs := hs.pull 1 rfl
            have hs := hs.pull 5 rfl
            have hs := hs.pull 5 rfl
            have hs := hs.pull 4 rfl
            have hs := hs.pull 5 rfl
            have hs : St _ [_,_,_,_,_,_] _ := St.take (Γ' := []) hs
            exact ih3_ _ _ ⟨x295, x296, x298.set 2 (i64w ((x298.get 2 0) + 1)), Hx3_, rfl, hs⟩
           ·
            intro ha4_
            have hs := hs.pull 5 rfl
            have hs := hs.pull 1 rfl
            have hs := hs.pull 5 rfl
            have hs := hs.pull 5 rfl
            have hs := hs.pull 5 rfl
            have hs := hs.pull 5 rfl
            have hs : St _ [_,_,_,_,_,_] _ := St.take (Γ' := []) hs
            refine g_loop_fuel (I := fun n_ t w => ∃ x280 : Int, ∃ x281 : (List Int), ∃ x282 : (Ar Int 4), rounds (fun s => _spec_l06Finder_first.b6 N self a6 a7 s.1 s.2.1 s.2.2) n_ (x280, x281, x282) = some o4_ ∧ Fr t (fun O => (Value.pointer (some ⟨b2, 0, none⟩)::O 1::Value.int .i64 a7::O 3::Value.pointer (some ⟨b8, 0, none⟩)::O 5::Value.pointer (some ⟨b10, 0, none⟩)::O 7::Value.pointer (some ⟨b12, 0, none⟩)::O 9::O 10::O 11::O 12::O 13::O 14::O 15::O 16::O 17::O 18::O 19::O 20::O 21::O 22::O 23::O 24::O 25::O 26::O 27::O 28::O 29::O 30::O 31::O 32::O 33::O 34::O 35::O 36::O 37::O 38::O 39::O 40::O 41::O 42::O 43::O 44::O 45::O 46::O 47::O 48::O 49::O 50::O 51::O 52::O 53::O 54::O 55::O 56::O 57::O 58::O 59::O 60::O 61::O 62::O 63::O 64::O 65::O 66::O 67::O 68::O 69::O 70::O 71::O 72::O 73::O 74::O 75::[] : List Value)) ∧ St wb [Row 75 (K.int .i8) v3 x281, Cells b2 (([Value.int .i64 x280, v3] : List Value)) 73, Cells b8 ((encA (encI .i64)) a6) 25, Cells b10 ((encA (encI .i64)) (Ar.rep 4 0)) 25, Cells b12 ((encA (encI .i64)) x282) 25, Z] w) N ⟨x265, x266, x267.set 3 0, Ho, rfl, hs⟩ ?_ ?_
            ·
             rintro _ _ ⟨x280, x281, x282, h, _⟩
             exact rounds_zero h
            ·
             intro n_ ih4_
             rintro t w ⟨x280, x281, x282, Ho, hf, hs⟩
             obtain ⟨O, rfl⟩ := hf.open
             try dsimp only
             obtain ⟨x175_, H, Hx4_⟩ := rounds_succ Ho
             have H : _spec_l06Finder_first.b6 N self a6 a7 x280 x281 x282 = some x175_ := H
             unfold _spec_l06Finder_first.b6 at H
             refine g_seq ?_
             refine g_seq ?_
             refine g_region ?_
             show G _ _ _ (.inRegion _ [0, 1, 2, 3, 4] :: _) _ _
             obtain ⟨g167, H⟩ := ite_get H
             refine s_idxA (n := 3) (m := 1) rfl (fun _ => rfl) g167.1 g167.2 rfl rfl rfl rfl rfl ?_
             refine g_d rfl ?_
             try dsimp only [set0,setS]
             refine s_load1 rfl rfl (v := Value.int .i64 (x282.get 3 0)) rfl rfl (fun _ => rfl) (by rw [Nat.zero_add]; exact cells_load (hs.cells 4 rfl) _ _ (encA_at (fkI .i64).len _ _ 0 g167.1 g167.2)) ?_
             refine g_d rfl ?_
             try dsimp only [set0,setS]
             obtain ⟨g168, H⟩ := ite_get H
             refine s_idxA (n := 3) (m := 1) rfl (fun _ => rfl) g168.1 g168.2 rfl rfl rfl rfl rfl ?_
             refine g_d rfl ?_
             try dsimp only [set0,setS]
             refine s_load1 rfl rfl (v := Value.int .i64 (a6.get 3 0)) rfl rfl (fun _ => rfl) (by rw [Nat.zero_add]; exact cells_load (hs.cells 2 rfl) _ _ (encA_at (fkI .i64).len _ _ 0 g168.1 g168.2)) ?_
             refine g_d rfl ?_
             try dsimp only [set0,setS]
             refine g_op_b (B := decide ((x282.get 3 0) ≤ (a6.get 3 0))) rfl rfl rfl ?_ ?_
             ·
              intro hb
              rw [if_pos (b_dec_t hb)] at H
              refine g_d rfl ?_
              try dsimp only [set0,setS]
              refine g_ops_nil ?_
              refine g_cond_true rfl ?_
              refine g_skip ?_
              refine g_seq ?_
              refine g_block_join (J := (fun t w => ∃ x292 : Int, ∃ x293 : (List Int), _spec_l06Finder_first.j8 N self x282 x292 x293 = some x175_ ∧ Fr t (fun O => (Value.pointer (some ⟨b2, 0, none⟩)::O 1::Value.int .i64 a7::O 3::Value.pointer (some ⟨b8, 0, none⟩)::O 5::Value.pointer (some ⟨b10, 0, none⟩)::O 7::Value.pointer (some ⟨b12, 0, none⟩)::O 9::O 10::O 11::O 12::O 13::O 14::O 15::O 16::O 17::O 18::O 19::O 20::O 21::O 22::O 23::O 24::O 25::O 26::O 27::O 28::O 29::O 30::O 31::O 32::O 33::O 34::O 35::O 36::O 37::O 38::O 39::O 40::O 41::O 42::O 43::O 44::O 45::O 46::O 47::O 48::O 49::O 50::O 51::O 52::O 53::O 54::O 55::O 56::O 57::O 58::O 59::O 60::O 61::O 62::O 63::O 64::O 65::O 66::O 67::O 68::O 69::O 70::O 71::O 72::O 73::O 74::O 75::[] : List Value)) ∧ St wb [Cells b2 (([Value.int .i64 x292, v3] : List Value)) 73, Row 75 (K.int .i8) v3 x293, Cells b8 ((encA (encI .i64)) a6) 25, Cells b10 ((encA (encI .i64)) (Ar.rep 4 0)) 25, Cells b12 ((encA (encI .i64)) x282) 25, Z] w)) ?_ ?_
              ·
               rintro t w ⟨x292, x293, H, hf, hs⟩
               obtain ⟨O, rfl⟩ := hf.open
               try dsimp only
               unfold _spec_l06Finder_first.j8 at H
               refine g_region ?_
               show G _ _ _ (.inRegion _ [0, 1, 2, 3, 4] :: _) _ _
               obtain ⟨g171, H⟩ := ite_get H
               refine s_idxA (n := 3) (m := 1) rfl (fun _ => rfl) g171.1 g171.2 rfl rfl rfl rfl rfl ?_
               refine g_d rfl ?_
               try dsimp only [set0,setS]
               refine s_load1 rfl rfl (v := Value.int .i64 (x282.get 3 0)) rfl rfl (fun _ => rfl) (by rw [Nat.zero_add]; exact cells_load (hs.cells 4 rfl) _ _ (encA_at (fkI .i64).len _ _ 0 g171.1 g171.2)) ?_
               refine g_d rfl ?_
               try dsimp only [set0,setS]
               refine g_op (v := Value.int .i64 (i64w ((x282.get 3 0) + 1))) rfl rfl rfl ?_
               refine g_d rfl ?_
               try dsimp only [set0,setS]
               obtain ⟨g172, H⟩ := ite_get H
               refine s_idxA (n := 3) (m := 1) rfl (fun _ => rfl) g172.1 g172.2 rfl rfl rfl rfl rfl ?_
               refine g_d rfl ?_
               try dsimp only [set0,setS]
               have hs := hs.pull 4 rfl
               have hs : St _ [_,_,_,_,_,_] _ := hs
               refine s_storeA (y := i64w ((x282.get 3 0) + 1)) (fkI .i64).len (fkI .i64).one g172.1 g172.2 hs rfl rfl rfl rfl rfl (fun _ => rfl) ?_
               intro w hs
               refine g_n rfl ?_
               refine g_ops_nil ?_
               obtain rfl := Option.some.inj H
               have hs := hs.pull 5 rfl
               have hs := hs.pull 1 rfl
               have hs := hs.pull 5 rfl
               have hs := hs.pull 5 rfl
               have hs := hs.pull 4 rfl
               have hs := hs.pull 5 rfl
               have hs : St _ [_,_,_,_,_,_] _ := St.take (Γ' := []) hs
               exact ih4_ _ _ ⟨x292, x293, x282.set 3 (i64w ((x282.get 3 0) + 1)), Hx4_, rfl, hs⟩
              ·
               intro ha
               refine g_seq ?_
               obtain ⟨r283, Hr283, H⟩ := bind_get H
               refine g_name ?_
               intro T hT
               refine g_any (n := 14) rfl [0, 1, 2, 3, 4, 5, 6, 7, 8, 9, 10, 11, 12, 13] [0, 1, 2, 3, 4, 5, 6, 7, 8, 12, 9, 10, 11, 13] rfl rfl (Inv := fun D t w => ∃ b284 : Nat, ∃ b286 : Nat, ∃ O : Nat → Value, t = (Value.pointer (some ⟨b2, 0, none⟩)::O 1::Value.int .i64 a7::O 3::Value.pointer (some ⟨b8, 0, none⟩)::O 5::Value.pointer (some ⟨b10, 0, none⟩)::O 7::Value.pointer (some ⟨b12, 0, none⟩)::cnd (D 10) (Value.pointer (some ⟨b284, 0, none⟩)) (O 9)::cnd (D 11) (Value.pointer (some ⟨b286, 0, none⟩)) (O 10)::O 11::O 12::O 13::O 14::O 15::O 16::O 17::O 18::O 19::O 20::O 21::O 22::O 23::O 24::O 25::O 26::O 27::O 28::O 29::O 30::O 31::O 32::O 33::O 34::O 35::O 36::O 37::O 38::O 39::O 40::O 41::O 42::Value.pointer (some ⟨b12, 0 + (3 : Int).toNat * 1, none⟩)::Value.int .i64 (x282.get 3 0)::Value.pointer (some ⟨b8, 0 + (3 : Int).toNat * 1, none⟩)::Value.int .i64 (a6.get 3 0)::Value.bool true::O 48::O 49::O 50::O 51::cnd (D 7) (Value.tuple #[Value.agg ((encA (encI .i64)) r283.1).toArray, Value.agg ((encA (encI .i64)) r283.2).toArray]) (O 52)::cnd (D 0) (Value.pointer (some ⟨b2, 0, none⟩)) (O 53)::cnd (D 1) (Value.pointer (some ⟨b2, 0, none⟩)) (O 54)::cnd (D 2) (Value.pointer (some ⟨b2, 0, none⟩)) (O 55)::cnd (D 3) (Value.int .i64 x280) (O 56)::cnd (D 4) (Value.agg ((encA (encI .i64)) a6).toArray) (O 57)::cnd (D 5) (Value.agg ((encA (encI .i64)) x282).toArray) (O 58)::cnd (D 6) (Value.tuple #[Value.agg ((encA (encI .i64)) r283.1).toArray, Value.agg ((encA (encI .i64)) r283.2).toArray]) (O 59)::cnd (D 8) (Value.agg ((encA (encI .i64)) r283.1).toArray) (O 60)::cnd (D 9) (Value.agg ((encA (encI .i64)) r283.2).toArray) (O 61)::O 62::O 63::O 64::O 65::O 66::O 67::O 68::O 69::O 70::O 71::O 72::O 73::O 74::O 75::[]) ∧ St wb [Asc (D 10) (Cells b284 (cnd (D 12) ((encA (encI .i64)) r283.1) ((encA (encI .i64)) (Ar.rep 4 0))) 25), Asc (D 11) (Cells b286 (cnd (D 13) ((encA (encI .i64)) r283.2) ((encA (encI .i64)) (Ar.rep 4 0))) 25), Row 75 (K.int .i8) v3 x281, Cells b2 (([Value.int .i64 x280, v3] : List Value)) 73, Cells b8 ((encA (encI .i64)) a6) 25, Cells b10 ((encA (encI .i64)) (Ar.rep 4 0)) 25, Cells b12 ((encA (encI .i64)) x282) 25, Z] w) ?_ ⟨⟨⟨⟨⟨⟨⟨⟨⟨⟨⟨⟨⟨⟨trivial, ?_⟩, ?_⟩, ?_⟩, ?_⟩, ?_⟩, ?_⟩, ?_⟩, ?_⟩, ?_⟩, ?_⟩, ?_⟩, ?_⟩, ?_⟩, ?_⟩ ?_
               ·
                intro w hh hbw
                have hs := hs.samew hh hbw
                have hs := hs.emp
                have hs := hs.emp
                exact ⟨0, 0, fun i => T.getD i undef, (by subst hT; rfl), hs⟩
               ·
                intro D t w hD hp hcl hI rest hk
                obtain ⟨b284, b286, O, ht, hs⟩ := hI
                have q1_ : D 1 = false := not_yet (hcl.get 1 (by decide)) 0 0 rfl hD
                have q2_ : D 2 = false := not_yet (hcl.get 2 (by decide)) 0 1 rfl q1_
                have q3_ : D 3 = false := not_yet (hcl.get 3 (by decide)) 0 2 rfl q2_
                have q6_ : D 6 = false := not_yet (hcl.get 6 (by decide)) 0 3 rfl q3_
                have q7_ : D 7 = false := not_yet (hcl.get 7 (by decide)) 0 6 rfl q6_
                have q8_ : D 8 = false := not_yet (hcl.get 8 (by decide)) 0 7 rfl q7_
                have q9_ : D 9 = false := not_yet (hcl.get 9 (by decide)) 0 7 rfl q7_
                have q12_ : D 12 = false := not_yet (hcl.get 12 (by decide)) 1 8 rfl q8_
                have q13_ : D 13 = false := not_yet (hcl.get 13 (by decide)) 1 9 rfl q9_
                simp only [hD, q1_, q2_, q3_, q6_, q7_, q8_, q9_, q12_, q13_, cnd_t, cnd_f, Asc_t, Asc_f] at ht hs
                subst ht
                refine g_op (v := Value.pointer (some ⟨b2, 0, none⟩)) rfl rfl rfl ?_
                refine g_d rfl ?_
                try dsimp only [set0,setS]
                exact hk _ _ ⟨b284, b286, O, (by simp only [upd, Nat.reduceBEq, Bool.true_or, Bool.false_or, q1_, q2_, q3_, q6_, q7_, q8_, q9_, q12_, q13_, cnd_t, cnd_f, Asc_t, Asc_f]), hs.cast (by first | rfl | simp only [List.take, List.drop, List.cons_append, List.nil_append, List.set_cons_zero, List.set_cons_succ, List.eraseIdx, upd, Nat.reduceBEq, Bool.true_or, Bool.false_or, q1_, q2_, q3_, q6_, q7_, q8_, q9_, q12_, q13_, cnd_t, cnd_f, Asc_t, Asc_f])⟩
               ·
                intro D t w hD hp hcl hI rest hk
                obtain ⟨b284, b286, O, ht, hs⟩ := hI
                obtain ⟨p0_, _⟩ := hp
                have q2_ : D 2 = false := not_yet (hcl.get 2 (by decide)) 0 1 rfl hD
                have q3_ : D 3 = false := not_yet (hcl.get 3 (by decide)) 0 2 rfl q2_
                have q6_ : D 6 = false := not_yet (hcl.get 6 (by decide)) 0 3 rfl q3_
                have q7_ : D 7 = false := not_yet (hcl.get 7 (by decide)) 0 6 rfl q6_
                have q8_ : D 8 = false := not_yet (hcl.get 8 (by decide)) 0 7 rfl q7_
                have q9_ : D 9 = false := not_yet (hcl.get 9 (by decide)) 0 7 rfl q7_
                have q12_ : D 12 = false := not_yet (hcl.get 12 (by decide)) 1 8 rfl q8_
                have q13_ : D 13 = false := not_yet (hcl.get 13 (by decide)) 1 9 rfl q9_
                simp only [hD, p0_, q2_, q3_, q6_, q7_, q8_, q9_, q12_, q13_, cnd_t, cnd_f, Asc_t, Asc_f] at ht hs
                subst ht
                refine g_op (v := Value.pointer (some ⟨b2, 0, none⟩)) rfl rfl rfl ?_
                refine g_d rfl ?_
                try dsimp only [set0,setS]
                exact hk _ _ ⟨b284, b286, O, (by simp only [upd, Nat.reduceBEq, Bool.true_or, Bool.false_or, p0_, q2_, q3_, q6_, q7_, q8_, q9_, q12_, q13_, cnd_t, cnd_f, Asc_t, Asc_f]), hs.cast (by first | rfl | simp only [List.take, List.drop, List.cons_append, List.nil_append, List.set_cons_zero, List.set_cons_succ, List.eraseIdx, upd, Nat.reduceBEq, Bool.true_or, Bool.false_or, p0_, q2_, q3_, q6_, q7_, q8_, q9_, q12_, q13_, cnd_t, cnd_f, Asc_t, Asc_f])⟩
               ·
                intro D t w hD hp hcl hI rest hk
                obtain ⟨b284, b286, O, ht, hs⟩ := hI
                obtain ⟨p1_, _⟩ := hp
                obtain ⟨p0_, _⟩ := (hcl.get 1 (by decide)) p1_
                have q3_ : D 3 = false := not_yet (hcl.get 3 (by decide)) 0 2 rfl hD
                have q6_ : D 6 = false := not_yet (hcl.get 6 (by decide)) 0 3 rfl q3_
                have q7_ : D 7 = false := not_yet (hcl.get 7 (by decide)) 0 6 rfl q6_
                have q8_ : D 8 = false := not_yet (hcl.get 8 (by decide)) 0 7 rfl q7_
                have q9_ : D 9 = false := not_yet (hcl.get 9 (by decide)) 0 7 rfl q7_
                have q12_ : D 12 = false := not_yet (hcl.get 12 (by decide)) 1 8 rfl q8_
                have q13_ : D 13 = false := not_yet (hcl.get 13 (by decide)) 1 9 rfl q9_
                simp only [hD, p0_, p1_, q3_, q6_, q7_, q8_, q9_, q12_, q13_, cnd_t, cnd_f, Asc_t, Asc_f] at ht hs
                subst ht
                refine g_op (v := Value.pointer (some ⟨b2, 0, none⟩)) rfl rfl rfl ?_
                refine g_d rfl ?_
                try dsimp only [set0,setS]
                exact hk _ _ ⟨b284, b286, O, (by simp only [upd, Nat.reduceBEq, Bool.true_or, Bool.false_or, p0_, p1_, q3_, q6_, q7_, q8_, q9_, q12_, q13_, cnd_t, cnd_f, Asc_t, Asc_f]), hs.cast (by first | rfl | simp only [List.take, List.drop, List.cons_append, List.nil_append, List.set_cons_zero, List.set_cons_succ, List.eraseIdx, upd, Nat.reduceBEq, Bool.true_or, Bool.false_or, p0_, p1_, q3_, q6_, q7_, q8_, q9_, q12_, q13_, cnd_t, cnd_f, Asc_t, Asc_f])⟩
               ·
                intro D t w hD hp hcl hI rest hk
                obtain ⟨b284, b286, O, ht, hs⟩ := hI
                obtain ⟨p2_, _⟩ := hp
                obtain ⟨p1_, _⟩ := (hcl.get 2 (by decide)) p2_
                obtain ⟨p0_, _⟩ := (hcl.get 1 (by decide)) p1_
                have q6_ : D 6 = false := not_yet (hcl.get 6 (by decide)) 0 3 rfl hD
                have q7_ : D 7 = false := not_yet (hcl.get 7 (by decide)) 0 6 rfl q6_
                have q8_ : D 8 = false := not_yet (hcl.get 8 (by decide)) 0 7 rfl q7_
                have q9_ : D 9 = false := not_yet (hcl.get 9 (by decide)) 0 7 rfl q7_
                have q12_ : D 12 = false := not_yet (hcl.get 12 (by decide)) 1 8 rfl q8_
                have q13_ : D 13 = false := not_yet (hcl.get 13 (by decide)) 1 9 rfl q9_
                simp only [hD, p0_, p1_, p2_, q6_, q7_, q8_, q9_, q12_, q13_, cnd_t, cnd_f, Asc_t, Asc_f] at ht hs
                subst ht
                refine s_load1 rfl rfl (v := Value.int .i64 x280) rfl rfl (fun _ => rfl) (cells_load (hs.cells 3 rfl) 0 1 rfl) ?_
                refine g_d rfl ?_
                try dsimp only [set0,setS]
                exact hk _ _ ⟨b284, b286, O, (by simp only [upd, Nat.reduceBEq, Bool.true_or, Bool.false_or, p0_, p1_, p2_, q6_, q7_, q8_, q9_, q12_, q13_, cnd_t, cnd_f, Asc_t, Asc_f]), hs.cast (by first | rfl | simp only [List.take, List.drop, List.cons_append, List.nil_append, List.set_cons_zero, List.set_cons_succ, List.eraseIdx, upd, Nat.reduceBEq, Bool.true_or, Bool.false_or, p0_, p1_, p2_, q6_, q7_, q8_, q9_, q12_, q13_, cnd_t, cnd_f, Asc_t, Asc_f])⟩
               ·
                intro D t w hD hp hcl hI rest hk
                obtain ⟨b284, b286, O, ht, hs⟩ := hI
                have q6_ : D 6 = false := not_yet (hcl.get 6 (by decide)) 1 4 rfl hD
                have q7_ : D 7 = false := not_yet (hcl.get 7 (by decide)) 0 6 rfl q6_
                have q8_ : D 8 = false := not_yet (hcl.get 8 (by decide)) 0 7 rfl q7_
                have q9_ : D 9 = false := not_yet (hcl.get 9 (by decide)) 0 7 rfl q7_
                have q12_ : D 12 = false := not_yet (hcl.get 12 (by decide)) 1 8 rfl q8_
                have q13_ : D 13 = false := not_yet (hcl.get 13 (by decide)) 1 9 rfl q9_
                simp only [hD, q6_, q7_, q8_, q9_, q12_, q13_, cnd_t, cnd_f, Asc_t, Asc_f] at ht hs
                subst ht
                refine s_loadA rfl rfl (es := ((encA (encI .i64)) a6)) rfl rfl (fun _ => rfl) (n := 4) (fun _ => rfl) ((fkA (n := 4) (he := (fkI .i64).len) (h1 := (fkI .i64).one)).len _) (cells_all (hs.cells 4 rfl)) ?_
                refine g_d rfl ?_
                try dsimp only [set0,setS]
                exact hk _ _ ⟨b284, b286, O, (by simp only [upd, Nat.reduceBEq, Bool.true_or, Bool.false_or, q6_, q7_, q8_, q9_, q12_, q13_, cnd_t, cnd_f, Asc_t, Asc_f]), hs.cast (by first | rfl | simp only [List.take, List.drop, List.cons_append, List.nil_append, List.set_cons_zero, List.set_cons_succ, List.eraseIdx, upd, Nat.reduceBEq, Bool.true_or, Bool.false_or, q6_, q7_, q8_, q9_, q12_, q13_, cnd_t, cnd_f, Asc_t, Asc_f])⟩
               ·
                intro D t w hD hp hcl hI rest hk
                obtain ⟨b284, b286, O, ht, hs⟩ := hI
                have q6_ : D 6 = false := not_yet (hcl.get 6 (by decide)) 2 5 rfl hD
                have q7_ : D 7 = false := not_yet (hcl.get 7 (by decide)) 0 6 rfl q6_
                have q8_ : D 8 = false := not_yet (hcl.get 8 (by decide)) 0 7 rfl q7_
                have q9_ : D 9 = false := not_yet (hcl.get 9 (by decide)) 0 7 rfl q7_
                have q12_ : D 12 = false := not_yet (hcl.get 12 (by decide)) 1 8 rfl q8_
                have q13_ : D 13 = false := not_yet (hcl.get 13 (by decide)) 1 9 rfl q9_
                simp only [hD, q6_, q7_, q8_, q9_, q12_, q13_, cnd_t, cnd_f, Asc_t, Asc_f] at ht hs
                subst ht
                refine s_loadA rfl rfl (es := ((encA (encI .i64)) x282)) rfl rfl (fun _ => rfl) (n := 4) (fun _ => rfl) ((fkA (n := 4) (he := (fkI .i64).len) (h1 := (fkI .i64).one)).len _) (cells_all (hs.cells 6 rfl)) ?_
                refine g_d rfl ?_
                try dsimp only [set0,setS]
                exact hk _ _ ⟨b284, b286, O, (by simp only [upd, Nat.reduceBEq, Bool.true_or, Bool.false_or, q6_, q7_, q8_, q9_, q12_, q13_, cnd_t, cnd_f, Asc_t, Asc_f]), hs.cast (by first | rfl | simp only [List.take, List.drop, List.cons_append, List.nil_append, List.set_cons_zero, List.set_cons_succ, List.eraseIdx, upd, Nat.reduceBEq, Bool.true_or, Bool.false_or, q6_, q7_, q8_, q9_, q12_, q13_, cnd_t, cnd_f, Asc_t, Asc_f])⟩
               ·
                intro D t w hD hp hcl hI rest hk
                obtain ⟨b284, b286, O, ht, hs⟩ := hI
                obtain ⟨p3_, p4_, p5_, _⟩ := hp
                obtain ⟨p2_, _⟩ := (hcl.get 3 (by decide)) p3_
                obtain ⟨p1_, _⟩ := (hcl.get 2 (by decide)) p2_
                obtain ⟨p0_, _⟩ := (hcl.get 1 (by decide)) p1_
                have q7_ : D 7 = false := not_yet (hcl.get 7 (by decide)) 0 6 rfl hD
                have q8_ : D 8 = false := not_yet (hcl.get 8 (by decide)) 0 7 rfl q7_
                have q9_ : D 9 = false := not_yet (hcl.get 9 (by decide)) 0 7 rfl q7_
                have q12_ : D 12 = false := not_yet (hcl.get 12 (by decide)) 1 8 rfl q8_
                have q13_ : D 13 = false := not_yet (hcl.get 13 (by decide)) 1 9 rfl q9_
                simp only [hD, p0_, p1_, p2_, p3_, p4_, p5_, q7_, q8_, q9_, q12_, q13_, cnd_t, cnd_f, Asc_t, Asc_f] at ht hs
                subst ht
                refine s_call (args := [Value.int .i64 x280, Value.agg ((encA (encI .i64)) a6).toArray, Value.agg ((encA (encI .i64)) x282).toArray]) rfl rfl (x_call rfl (callFunc_enter Try.func26 rfl rfl) rfl) (spec_l06Split.calls (a1 := x280) (a2 := a6) (a3 := x282) Hr283) ?_
                rintro _ w ⟨rfl, hs2⟩
                have hs : St _ [_,_,_,_,_,_,_,_] _ := hs.call hs2
                refine g_d rfl ?_
                try dsimp only [set0,setS]
                exact hk _ _ ⟨b284, b286, O, (by simp only [upd, Nat.reduceBEq, Bool.true_or, Bool.false_or, p0_, p1_, p2_, p3_, p4_, p5_, q7_, q8_, q9_, q12_, q13_, cnd_t, cnd_f, Asc_t, Asc_f]), hs.cast (by first | rfl | simp only [List.take, List.drop, List.cons_append, List.nil_append, List.set_cons_zero, List.set_cons_succ, List.eraseIdx, upd, Nat.reduceBEq, Bool.true_or, Bool.false_or, p0_, p1_, p2_, p3_, p4_, p5_, q7_, q8_, q9_, q12_, q13_, cnd_t, cnd_f, Asc_t, Asc_f])⟩
               ·
                intro D t w hD hp hcl hI rest hk
                obtain ⟨b284, b286, O, ht, hs⟩ := hI
                obtain ⟨p6_, _⟩ := hp
                obtain ⟨p3_, p4_, p5_, _⟩ := (hcl.get 6 (by decide)) p6_
                obtain ⟨p2_, _⟩ := (hcl.get 3 (by decide)) p3_
                obtain ⟨p1_, _⟩ := (hcl.get 2 (by decide)) p2_
                obtain ⟨p0_, _⟩ := (hcl.get 1 (by decide)) p1_
                have q8_ : D 8 = false := not_yet (hcl.get 8 (by decide)) 0 7 rfl hD
                have q9_ : D 9 = false := not_yet (hcl.get 9 (by decide)) 0 7 rfl hD
                have q12_ : D 12 = false := not_yet (hcl.get 12 (by decide)) 1 8 rfl q8_
                have q13_ : D 13 = false := not_yet (hcl.get 13 (by decide)) 1 9 rfl q9_
                simp only [hD, p0_, p1_, p2_, p3_, p4_, p5_, p6_, q8_, q9_, q12_, q13_, cnd_t, cnd_f, Asc_t, Asc_f] at ht hs
                subst ht
                refine g_op (v := Value.tuple #[Value.agg ((encA (encI .i64)) r283.1).toArray, Value.agg ((encA (encI .i64)) r283.2).toArray]) rfl rfl rfl ?_
                refine g_d rfl ?_
                try dsimp only [set0,setS]
                exact hk _ _ ⟨b284, b286, O, (by simp only [upd, Nat.reduceBEq, Bool.true_or, Bool.false_or, p0_, p1_, p2_, p3_, p4_, p5_, p6_, q8_, q9_, q12_, q13_, cnd_t, cnd_f, Asc_t, Asc_f]), hs.cast (by first | rfl | simp only [List.take, List.drop, List.cons_append, List.nil_append, List.set_cons_zero, List.set_cons_succ, List.eraseIdx, upd, Nat.reduceBEq, Bool.true_or, Bool.false_or, p0_, p1_, p2_, p3_, p4_, p5_, p6_, q8_, q9_, q12_, q13_, cnd_t, cnd_f, Asc_t, Asc_f])⟩
               ·
                intro D t w hD hp hcl hI rest hk
                obtain ⟨b284, b286, O, ht, hs⟩ := hI
                obtain ⟨p7_, _⟩ := hp
                obtain ⟨p6_, _⟩ := (hcl.get 7 (by decide)) p7_
                obtain ⟨p3_, p4_, p5_, _⟩ := (hcl.get 6 (by decide)) p6_
                obtain ⟨p2_, _⟩ := (hcl.get 3 (by decide)) p3_
                obtain ⟨p1_, _⟩ := (hcl.get 2 (by decide)) p2_
                obtain ⟨p0_, _⟩ := (hcl.get 1 (by decide)) p1_
                have q12_ : D 12 = false := not_yet (hcl.get 12 (by decide)) 1 8 rfl hD
                have q13_ : D 13 = false := not_yet (hcl.get 13 (by decide)) 2 12 rfl q12_
                simp only [hD, p0_, p1_, p2_, p3_, p4_, p5_, p6_, p7_, q12_, q13_, cnd_t, cnd_f, Asc_t, Asc_f] at ht hs
                subst ht
                refine g_op (v := Value.agg ((encA (encI .i64)) r283.1).toArray) rfl rfl rfl ?_
                refine g_d rfl ?_
                try dsimp only [set0,setS]
                exact hk _ _ ⟨b284, b286, O, (by simp only [upd, Nat.reduceBEq, Bool.true_or, Bool.false_or, p0_, p1_, p2_, p3_, p4_, p5_, p6_, p7_, q12_, q13_, cnd_t, cnd_f, Asc_t, Asc_f]), hs.cast (by first | rfl | simp only [List.take, List.drop, List.cons_append, List.nil_append, List.set_cons_zero, List.set_cons_succ, List.eraseIdx, upd, Nat.reduceBEq, Bool.true_or, Bool.false_or, p0_, p1_, p2_, p3_, p4_, p5_, p6_, p7_, q12_, q13_, cnd_t, cnd_f, Asc_t, Asc_f])⟩
               ·
                intro D t w hD hp hcl hI rest hk
                obtain ⟨b284, b286, O, ht, hs⟩ := hI
                obtain ⟨p7_, _⟩ := hp
                obtain ⟨p6_, _⟩ := (hcl.get 7 (by decide)) p7_
                obtain ⟨p3_, p4_, p5_, _⟩ := (hcl.get 6 (by decide)) p6_
                obtain ⟨p2_, _⟩ := (hcl.get 3 (by decide)) p3_
                obtain ⟨p1_, _⟩ := (hcl.get 2 (by decide)) p2_
                obtain ⟨p0_, _⟩ := (hcl.get 1 (by decide)) p1_
                have q13_ : D 13 = false := not_yet (hcl.get 13 (by decide)) 1 9 rfl hD
                simp only [hD, p0_, p1_, p2_, p3_, p4_, p5_, p6_, p7_, q13_, cnd_t, cnd_f, Asc_t, Asc_f] at ht hs
                subst ht
                refine g_op (v := Value.agg ((encA (encI .i64)) r283.2).toArray) rfl rfl rfl ?_
                refine g_d rfl ?_
                try dsimp only [set0,setS]
                exact hk _ _ ⟨b284, b286, O, (by simp only [upd, Nat.reduceBEq, Bool.true_or, Bool.false_or, p0_, p1_, p2_, p3_, p4_, p5_, p6_, p7_, q13_, cnd_t, cnd_f, Asc_t, Asc_f]), hs.cast (by first | rfl | simp only [List.take, List.drop, List.cons_append, List.nil_append, List.set_cons_zero, List.set_cons_succ, List.eraseIdx, upd, Nat.reduceBEq, Bool.true_or, Bool.false_or, p0_, p1_, p2_, p3_, p4_, p5_, p6_, p7_, q13_, cnd_t, cnd_f, Asc_t, Asc_f])⟩
               ·
                intro D t w hD hp hcl hI rest hk
                obtain ⟨b284, b286, O, ht, hs⟩ := hI
                have q12_ : D 12 = false := not_yet (hcl.get 12 (by decide)) 0 10 rfl hD
                have q13_ : D 13 = false := not_yet (hcl.get 13 (by decide)) 2 12 rfl q12_
                simp only [hD, q12_, q13_, cnd_t, cnd_f, Asc_t, Asc_f] at ht hs
                subst ht
                refine s_alloc hs rfl rfl (z := (Value.agg #[Value.int .i64 0, Value.int .i64 0, Value.int .i64 0, Value.int .i64 0])) (cs := ((encA (encI .i64)) (Ar.rep 4 0))) rfl (fun _ => rfl) rfl ?_
                intro b284 w hs
                refine g_d rfl ?_
                try dsimp only [set0,setS]
                have hs := hs.fill 0 rfl
                exact hk _ _ ⟨b284, b286, O, (by simp only [upd, Nat.reduceBEq, Bool.true_or, Bool.false_or, q12_, q13_, cnd_t, cnd_f, Asc_t, Asc_f]), hs.cast (by first | rfl | simp only [List.take, List.drop, List.cons_append, List.nil_append, List.set_cons_zero, List.set_cons_succ, List.eraseIdx, upd, Nat.reduceBEq, Bool.true_or, Bool.false_or, q12_, q13_, cnd_t, cnd_f, Asc_t, Asc_f])⟩
               ·
                intro D t w hD hp hcl hI rest hk
                obtain ⟨b284, b286, O, ht, hs⟩ := hI
                have q12_ : D 12 = false := not_yet (hcl.get 12 (by decide)) 13 11 rfl hD
                have q13_ : D 13 = false := not_yet (hcl.get 13 (by decide)) 0 11 rfl hD
                simp only [hD, q12_, q13_, cnd_t, cnd_f, Asc_t, Asc_f] at ht hs
                subst ht
                refine s_alloc hs rfl rfl (z := (Value.agg #[Value.int .i64 0, Value.int .i64 0, Value.int .i64 0, Value.int .i64 0])) (cs := ((encA (encI .i64)) (Ar.rep 4 0))) rfl (fun _ => rfl) rfl ?_
                intro b286 w hs
                refine g_d rfl ?_
                try dsimp only [set0,setS]
                have hs := hs.fill 1 rfl
                exact hk _ _ ⟨b284, b286, O, (by simp only [upd, Nat.reduceBEq, Bool.true_or, Bool.false_or, q12_, q13_, cnd_t, cnd_f, Asc_t, Asc_f]), hs.cast (by first | rfl | simp only [List.take, List.drop, List.cons_append, List.nil_append, List.set_cons_zero, List.set_cons_succ, List.eraseIdx, upd, Nat.reduceBEq, Bool.true_or, Bool.false_or, q12_, q13_, cnd_t, cnd_f, Asc_t, Asc_f])⟩
               ·
                intro D t w hD hp hcl hI rest hk
                obtain ⟨b284, b286, O, ht, hs⟩ := hI
                obtain ⟨p10_, p8_, p6_, p0_, p1_, p2_, p3_, p4_, p5_, _, p7_, _, _, p11_, _⟩ := hp
                have q13_ : D 13 = false := not_yet (hcl.get 13 (by decide)) 2 12 rfl hD
                simp only [hD, p0_, p1_, p2_, p3_, p4_, p5_, p6_, p7_, p8_, p10_, p11_, q13_, cnd_t, cnd_f, Asc_t, Asc_f] at ht hs
                subst ht
                refine s_storeAll (n := 4) hs ((fkA (n := 4) (he := (fkI .i64).len) (h1 := (fkI .i64).one)).len _) rfl rfl (vs := ((encA (encI .i64)) r283.1)) rfl rfl rfl (fun _ => rfl) ((fkA (n := 4) (he := (fkI .i64).len) (h1 := (fkI .i64).one)).len _) ((fkA (n := 4) (he := (fkI .i64).len) (h1 := (fkI .i64).one)).one _) ?_
                intro w hs
                refine g_n rfl ?_
                try dsimp only [set0,setS]
                have hs := hs.push 0 (by simp)
                exact hk _ _ ⟨b284, b286, O, (by simp only [upd, Nat.reduceBEq, Bool.true_or, Bool.false_or, p0_, p1_, p2_, p3_, p4_, p5_, p6_, p7_, p8_, p10_, p11_, q13_, cnd_t, cnd_f, Asc_t, Asc_f]), hs.cast (by first | rfl | simp only [List.take, List.drop, List.cons_append, List.nil_append, List.set_cons_zero, List.set_cons_succ, List.eraseIdx, upd, Nat.reduceBEq, Bool.true_or, Bool.false_or, p0_, p1_, p2_, p3_, p4_, p5_, p6_, p7_, p8_, p10_, p11_, q13_, cnd_t, cnd_f, Asc_t, Asc_f])⟩
               ·
                intro D t w hD hp hcl hI rest hk
                obtain ⟨b284, b286, O, ht, hs⟩ := hI
                obtain ⟨p11_, p9_, p12_, p0_, p1_, p2_, p3_, p4_, p5_, p6_, p7_, p8_, _, p10_, _, _, _⟩ := hp
                simp only [hD, p0_, p1_, p2_, p3_, p4_, p5_, p6_, p7_, p8_, p9_, p10_, p11_, p12_, cnd_t, cnd_f, Asc_t, Asc_f] at ht hs
                subst ht
                have hs := hs.pull 1 rfl
                have hs : St _ [_,_,_,_,_,_,_,_] _ := hs
                refine s_storeAll (n := 4) hs ((fkA (n := 4) (he := (fkI .i64).len) (h1 := (fkI .i64).one)).len _) rfl rfl (vs := ((encA (encI .i64)) r283.2)) rfl rfl rfl (fun _ => rfl) ((fkA (n := 4) (he := (fkI .i64).len) (h1 := (fkI .i64).one)).len _) ((fkA (n := 4) (he := (fkI .i64).len) (h1 := (fkI .i64).one)).one _) ?_
                intro w hs
                refine g_n rfl ?_
                try dsimp only [set0,setS]
                have hs := hs.push 1 (by simp)
                exact hk _ _ ⟨b284, b286, O, (by simp only [upd, Nat.reduceBEq, Bool.true_or, Bool.false_or, p0_, p1_, p2_, p3_, p4_, p5_, p6_, p7_, p8_, p9_, p10_, p11_, p12_, cnd_t, cnd_f, Asc_t, Asc_f]), hs.cast (by first | rfl | simp only [List.take, List.drop, List.cons_append, List.nil_append, List.set_cons_zero, List.set_cons_succ, List.eraseIdx, upd, Nat.reduceBEq, Bool.true_or, Bool.false_or, p0_, p1_, p2_, p3_, p4_, p5_, p6_, p7_, p8_, p9_, p10_, p11_, p12_, cnd_t, cnd_f, Asc_t, Asc_f])⟩
               ·
                intro D t w hall hI
                obtain ⟨b284, b286, O, ht, hs⟩ := hI
                have p0_ : D 0 = true := hall 0 (by decide)
                have p1_ : D 1 = true := hall 1 (by decide)
                have p2_ : D 2 = true := hall 2 (by decide)
                have p3_ : D 3 = true := hall 3 (by decide)
                have p4_ : D 4 = true := hall 4 (by decide)
                have p5_ : D 5 = true := hall 5 (by decide)
                have p6_ : D 6 = true := hall 6 (by decide)
                have p7_ : D 7 = true := hall 7 (by decide)
                have p8_ : D 8 = true := hall 8 (by decide)
                have p9_ : D 9 = true := hall 9 (by decide)
                have p10_ : D 10 = true := hall 10 (by decide)
                have p11_ : D 11 = true := hall 11 (by decide)
                have p12_ : D 12 = true := hall 12 (by decide)
                have p13_ : D 13 = true := hall 13 (by decide)
                simp only [p0_, p1_, p2_, p3_, p4_, p5_, p6_, p7_, p8_, p9_, p10_, p11_, p12_, p13_, cnd_t, cnd_f, Asc_t, Asc_f] at ht hs
                subst ht
                refine g_seq ?_
                refine g_region ?_
                show G _ _ _ (.inRegion _ [0, 1, 2, 3, 4, 5, 6, 7, 8, 9, 10, 11] :: _) _ _
                refine g_op (v := Value.pointer (some ⟨b2, 0, none⟩)) rfl rfl rfl ?_
                refine g_d rfl ?_
                refine s_loadA rfl rfl (es := ((encA (encI .i64)) r283.1)) rfl rfl (fun _ => rfl) (n := 4) (fun _ => rfl) ((fkA (n := 4) (he := (fkI .i64).len) (h1 := (fkI .i64).one)).len _) (cells_all (hs.cells 0 rfl)) ?_
                refine g_d rfl ?_
                try dsimp only [set0,setS]
                refine g_op (v := Value.int .i64 a7) rfl rfl rfl ?_
                refine g_d rfl ?_
                refine g_op (v := Value.int .i64 (i64w (a7 - 1))) rfl rfl rfl ?_
                refine g_d rfl ?_
                try dsimp only [set0,setS]
                obtain ⟨r290, Hr290, H⟩ := bind_get H
                have hs := hs.pull 3 rfl
                have hs := hs.pull 3 rfl
                have hs : St _ [_,_,_,_,_,_,_,_] _ := hs
                have hs := hs.pack 2
                refine s_call (args := [Value.pointer (some ⟨b2, 0, none⟩), Value.agg ((encA (encI .i64)) r283.1).toArray, Value.int .i64 (i64w (a7 - 1))]) rfl rfl (x_call rfl (callFunc_enter Try.func35 rfl rfl) rfl) (ih (⟨x280, x281⟩ : S_spec_l06Finder) r283.1 (i64w (a7 - 1)) _ _ _ _ _ _ hs Hr290) ?_
                rintro _ w ⟨rfl, hs⟩
                have hs := St.unpack (Γ := [_,_]) hs
                have hs : St _ [_,_,_,_,_,_,_,_] _ := hs
                generalize hb169_ : r290.1 = b_ at H ⊢
                cases b_ with
                | true =>
                  rw [if_pos rfl] at H
                  refine g_d rfl ?_
                  try dsimp only [set0,setS]
                  refine g_op (v := Value.bool true) rfl rfl rfl ?_
                  refine g_d rfl ?_
                  refine g_op (v := Value.pointer (some ⟨b2, 0, none⟩)) rfl rfl rfl ?_
                  refine g_d rfl ?_
                  refine s_loadA rfl rfl (es := ((encA (encI .i64)) r283.2)) rfl rfl (fun _ => rfl) (n := 4) (fun _ => rfl) ((fkA (n := 4) (he := (fkI .i64).len) (h1 := (fkI .i64).one)).len _) (cells_all (hs.cells 3 rfl)) ?_
                  refine g_d rfl ?_
                  try dsimp only [set0,setS]
                  refine g_op (v := Value.int .i64 a7) rfl rfl rfl ?_
                  refine g_d rfl ?_
                  refine g_op (v := Value.int .i64 (i64w (a7 - 1))) rfl rfl rfl ?_
                  refine g_d rfl ?_
                  try dsimp only [set0,setS]
                  obtain ⟨r291, Hr291, H⟩ := bind_get H
                  have hs := hs.pull 1 rfl
                  have hs := hs.pull 1 rfl
                  have hs : St _ [_,_,_,_,_,_,_,_] _ := hs
                  have hs := hs.pack 2
                  refine s_call (args := [Value.pointer (some ⟨b2, 0, none⟩), Value.agg ((encA (encI .i64)) r283.2).toArray, Value.int .i64 (i64w (a7 - 1))]) rfl rfl (x_call rfl (callFunc_enter Try.func35 rfl rfl) rfl) (ih (⟨r290.2.2.f_lies, r290.2.1⟩ : S_spec_l06Finder) r283.2 (i64w (a7 - 1)) _ _ _ _ _ _ hs Hr291) ?_
                  rintro _ w ⟨rfl, hs⟩
                  have hs := St.unpack (Γ := [_,_]) hs
                  have hs : St _ [_,_,_,_,_,_,_,_] _ := hs
                  generalize hb170_ : r291.1 = b_ at H ⊢
                  cases b_ with
                  | true =>
                    rw [if_pos rfl] at H
                    refine g_d rfl ?_
                    try dsimp only [set0,setS]
                    refine g_op (v := Value.bool true) rfl rfl rfl ?_
                    refine g_d rfl ?_
                    try dsimp only [set0,setS]
                    refine g_ops_nil ?_
                    refine g_cond_true rfl ?_
                    refine g_seq ?_
                    refine g_region ?_
                    show G _ _ _ (.inRegion _ [0, 1, 2] :: _) _ _
                    refine s_loadA rfl rfl (es := ((encA (encI .i64)) x282)) rfl rfl (fun _ => rfl) (n := 4) (fun _ => rfl) ((fkA (n := 4) (he := (fkI .i64).len) (h1 := (fkI .i64).one)).len _) (cells_all (hs.cells 6 rfl)) ?_
                    refine g_d rfl ?_
                    try dsimp only [set0,setS]
                    have hs := hs.pull 5 rfl
                    have hs : St _ [_,_,_,_,_,_,_,_] _ := hs
                    refine s_storeAll (n := 4) hs ((fkA (n := 4) (he := (fkI .i64).len) (h1 := (fkI .i64).one)).len _) rfl rfl (vs := ((encA (encI .i64)) x282)) rfl rfl rfl (fun _ => rfl) ((fkA (n := 4) (he := (fkI .i64).len) (h1 := (fkI .i64).one)).len _) ((fkA (n := 4) (he := (fkI .i64).len) (h1 := (fkI .i64).one)).one _) ?_
                    intro w hs
                    refine g_n rfl ?_
                    refine g_op (v := Value.bool true) rfl rfl rfl ?_
                    refine g_d rfl ?_
                    try dsimp only [set0,setS]
                    refine g_ops_nil ?_
                    obtain rfl := Option.some.inj H
                    subst Hx4_
                    have H := Option.some.inj Hr4_
                    subst H
                    subst Hx3_
                    have H := Option.some.inj Hr3_
                    subst H
                    subst Hx2_
                    have H := Option.some.inj Hr2_
                    subst H
                    subst Hx1_
                    have H := Option.some.inj Hr1_
                    subst H
                    refine g_ret Try.func37 (v := Value.tuple #[Value.agg ((encA (encI .i64)) x282).toArray, Value.bool true]) (resN (l := Try.f37.results.toList) (vs := [Value.agg ((encA (encI .i64)) x282).toArray, Value.bool true]) rfl ⟨⟨_, rfl, (run_loadVar_agg (es := ((encA (encI .i64)) x282)) rfl (congrArg (Result.ok · _) ((fkA (n := 4) (he := (fkI .i64).len) (h1 := (fkI .i64).one)).len _).symm) (cells_all (hs.cells 0 rfl)))⟩, rfl, trivial⟩ (by simp)) ?_
                    have hs := hs.pull 7 rfl
                    have hs := hs.pull 3 rfl
                    have hs := hs.pull 3 rfl
                    have hs : St _ [_,_,_] _ := St.take (Γ' := [_,_,_,_,_]) hs
                    exact ⟨_, rfl, rfl, hs⟩
                  | false =>
                    rw [if_neg Bool.false_ne_true] at H
                    refine g_d rfl ?_
                    try dsimp only [set0,setS]
                    refine g_op (v := Value.bool false) rfl rfl rfl ?_
                    refine g_d rfl ?_
                    try dsimp only [set0,setS]
                    refine g_ops_nil ?_
                    refine g_cond_false rfl ?_
                    refine g_skip ?_
                    refine g_inBlock ?_
                    have hs := hs.pull 7 rfl
                    have hs := hs.pull 7 rfl
                    have hs := hs.pull 7 rfl
                    have hs := hs.pull 7 rfl
                    have hs := hs.pull 4 rfl
                    have hs := hs.pull 5 rfl
                    have hs : St _ [_,_,_,_,_,_] _ := St.take (Γ' := [_,_]) hs
                    exact ha _ _ ⟨r291.2.2.f_lies, r291.2.1, H, rfl, hs⟩
                | false =>
                  rw [if_neg Bool.false_ne_true] at H
                  refine g_d rfl ?_
                  try dsimp only [set0,setS]
                  refine g_op (v := Value.bool false) rfl rfl rfl ?_
                  refine g_d rfl ?_
                  refine g_op_not rfl rfl ?_
                  refine g_d rfl ?_
                  refine g_op_not rfl rfl ?_
                  refine g_d rfl ?_
                  try dsimp only [set0,setS]
                  refine g_op_not rfl rfl ?_
                  refine g_d rfl ?_
                  refine g_op_not rfl rfl ?_
                  refine g_d rfl ?_
                  try dsimp only [set0,setS]
                  refine g_op_not rfl rfl ?_
                  refine g_d rfl ?_
                  try dsimp only [set0,setS]
                  refine g_op (v := Value.bool false) rfl rfl rfl ?_
                  refine g_d rfl ?_
                  try dsimp only [set0,setS]
                  refine g_ops_nil ?_
                  refine g_cond_false rfl ?_
                  refine g_skip ?_
                  refine g_inBlock ?_
                  have hs := hs.pull 7 rfl
                  have hs := hs.pull 7 rfl
                  have hs := hs.pull 7 rfl
                  have hs := hs.pull 7 rfl
                  have hs := hs.pull 4 rfl
                  have hs := hs.pull 5 rfl
                  have hs : St _ [_,_,_,_,_,_] _ := St.take (Γ' := [_,_]) hs
                  exact ha _ _ ⟨r290.2.2.f_lies, r290.2.1, H, rfl, hs⟩
             ·
              intro hb
              rw [if_neg (b_dec_f hb)] at H
              refine g_d rfl ?_
              try dsimp only [set0,setS]
              refine g_ops_nil ?_
              refine g_cond_false rfl ?_
              obtain rfl := Option.some.inj H
              subst Hx4_
              have hs := hs.pull 5 rfl
              have hs := hs.pull 5 rfl
              have hs := hs.pull 5 rfl
              have hs := hs.pull 5 rfl
              have hs := hs.pull 4 rfl
              have hs := hs.pull 5 rfl
              have hs : St _ [_,_,_,_,_,_] _ := St.take (Γ' := []) hs
              refine g_exit rfl ?_
              exact ha4_ _ _ ⟨x280, x281, x282, Hr4_, rfl, hs⟩
          ·
           intro hb
           rw [if_neg (b_dec_f hb)] at H
           refine g_d rfl ?_
           try dsimp only [set0,setS]
           refine g_ops_nil ?_
           refine g_cond_false rfl ?_
           obtain rfl := Option.some.inj H
           subst Hx3_
           have hs := hs.pull 5 rfl
           have hs := hs.pull 5 rfl
           have hs := hs.pull 5 rfl
           have hs := hs.pull 5 rfl
           have hs := hs.pull 4 rfl
           have hs := hs.pull 5 rfl
           have hs : St _ [_,_,_,_,_,_] _ := St.take (Γ' := []) hs
           refine g_exit rfl ?_
           exact ha3_ _ _ ⟨x265, x266, x267, Hr3_, rfl, hs⟩
       ·
        intro hb
        rw [if_neg (b_dec_f hb)] at H
        refine g_d rfl ?_
        try dsimp only [set0,setS]
        refine g_ops_nil ?_
        refine g_cond_false rfl ?_
        obtain rfl := Option.some.inj H
        subst Hx2_
        have hs := hs.pull 5 rfl
        have hs := hs.pull 5 rfl
        have hs := hs.pull 5 rfl
        have hs := hs.pull 5 rfl
        have hs := hs.pull 4 rfl
        have hs := hs.pull 5 rfl
        have hs : St _ [_,_,_,_,_,_] _ := St.take (Γ' := []) hs
        refine g_exit rfl ?_
        exact ha2_ _ _ ⟨x231, x232, x233, Hr2_, rfl, hs⟩
    ·
     intro hb
     rw [if_neg (b_dec_f hb)] at H
     refine g_d rfl ?_
     try dsimp only [set0,setS]
     refine g_ops_nil ?_
     refine g_cond_false rfl ?_
     obtain rfl := Option.some.inj H
     subst Hx1_
     have hs := hs.pull 5 rfl
     have hs := hs.pull 2 rfl
     have hs := hs.pull 2 rfl
     have hs := hs.pull 4 rfl
     have hs : St _ [_,_,_,_] _ := St.take (Γ' := [_,_]) hs
     refine g_exit rfl ?_
     exact ha1_ _ _ ⟨x160, x159, Hr1_, rfl, hs⟩

end Go.Proofs.YtfnfoecocicigaaX
