/- Contracts, printed by gen.py. -/
import Derived.Test.YtioefkcldfjobaaXT
import Derived.Test.YtioefkcldfjobaaProg
import Derived.Test.YtioefkcldfjobaaXRowR
import Derived.Test.YtioefkcldfjobaaXSeg
import Derived.Test.YtioefkcldfjobaaXKey
import Derived.Test.YtioefkcldfjobaaXIter
import Derived.Test.YtioefkcldfjobaaXC0
import Derived.Test.YtioefkcldfjobaaXC5
import Derived.Test.YtioefkcldfjobaaXC6
namespace Go.Proofs.YtioefkcldfjobaaX
open Go Go.RowKit Go.Proofs
set_option linter.unusedVariables false
set_option linter.unusedSimpArgs false
/- function 28 impl_PlansFor -/
def impl_PlansFor.post (w0 : World) (r : (Int × Int)) (v : Value) (w : World) : Prop := v = Value.tuple #[Value.int .i64 r.1, Value.int .i64 r.2] ∧ St w0 [] w
set_option maxHeartbeats 8000000 in
set_option maxRecDepth 100000 in
theorem impl_PlansFor.calls {N : Nat} {a1 : (List Int)} {a3 : (Ar Int 4)} {a4 : Int} {a5 : Int} {v2 : Value} {w0 : World} {Q : (Int × Int) → Prop} (hr0 : RdRow (K.int .i16) w0 v2 a1) (H : impl_PlansFor.f N a1 a3 a4 a5 Q) :
    Calls Try.prog 28 #[v2, Value.agg ((encA (encI .i16)) a3).toArray, Value.int .i64 a4, Value.int .i64 a5] w0 fun e w => ∃ v, e = .returned v ∧ ∃ r, Q r ∧ impl_PlansFor.post w0 r v w := by
  unfold impl_PlansFor.f at H
  have hs : St w0 [] w0 := St.refl w0
  refine calls_of_g (n := 63) Try.func28 rfl rfl ?_
  show G _ _ _ _ (_::_::_::_::_::_::_::_::_::_::_::_::_::_::_::_::_::_::_::_::_::_::_::_::_::_::_::_::_::_::_::_::_::_::_::_::_::_::_::_::_::_::_::_::_::_::_::_::_::_::_::_::_::_::_::_::_::_::_::_::_::_::_::_::_::_::_::[]) _
  refine g_seq ?_
  refine g_region ?_
  show G _ _ _ (.inRegion _ [0, 1, 2] :: _) _ _
  refine s_box hs rfl rfl (cs := ((encA (encI .i16)) a3)) rfl rfl ?_
  intro b6 w hs
  refine g_d rfl ?_
  try dsimp only [set0,setS]
  refine g_op (v := Value.int .i64 0) rfl rfl rfl ?_
  refine g_d rfl ?_
  try dsimp only [set0,setS]
  refine g_op (v := Value.int .i64 0) rfl rfl rfl ?_
  refine g_d rfl ?_
  try dsimp only [set0,setS]
  refine g_ops_nil ?_
  refine g_seq ?_
  refine g_region ?_
  show G _ _ _ (.inRegion _ [0, 1, 2, 3, 4] :: _) _ _
  refine g_op (v := v2) rfl rfl rfl ?_
  refine g_d rfl ?_
  refine s_loadA rfl rfl (es := ((encA (encI .i16)) a3)) rfl rfl (fun _ => rfl) (n := 4) (fun _ => rfl) ((fkA (n := 4) (he := (fkI .i16).len) (h1 := (fkI .i16).one)).len _) (cells_all (hs.cells 0 rfl)) ?_
  refine g_d rfl ?_
  try dsimp only [set0,setS]
  refine g_op (v := Value.int .i64 a4) rfl rfl rfl ?_
  refine g_d rfl ?_
  obtain ⟨r8, Hr8, H⟩ := H
  refine s_call (args := [v2, Value.agg ((encA (encI .i16)) a3).toArray, Value.int .i64 a4]) rfl rfl (x_call rfl (callFunc_enter Try.func37 rfl rfl) rfl) (impl_timeCode.calls (a1 := a1) (a3 := a3) (a4 := a4) (hs.rd hr0) Hr8) ?_
  rintro _ w ⟨rfl, hs2⟩
  have hs : St _ [_] _ := hs.call hs2
  refine g_d rfl ?_
  try dsimp only [set0,setS]
  refine g_op (v := Value.int .i64 r8) rfl rfl rfl ?_
  refine g_d rfl ?_
  try dsimp only [set0,setS]
  refine g_ops_nil ?_
  refine g_seq ?_
  refine g_seq ?_
  refine g_join2 (J := (fun t w => ∃ x11 : Int, impl_PlansFor.j0 N a5 a1 a4 a3 x11 Q ∧ Fr t (fun O => (v2::O 1::Value.int .i64 a4::Value.int .i64 a5::O 4::Value.pointer (some ⟨b6, 0, none⟩)::O 6::O 7::O 8::O 9::Value.int .i64 x11::O 11::O 12::O 13::O 14::O 15::O 16::O 17::O 18::O 19::O 20::O 21::O 22::O 23::O 24::O 25::O 26::O 27::O 28::O 29::O 30::O 31::O 32::O 33::O 34::O 35::O 36::O 37::O 38::O 39::O 40::O 41::O 42::O 43::O 44::O 45::O 46::O 47::O 48::O 49::O 50::O 51::O 52::O 53::O 54::O 55::O 56::O 57::O 58::O 59::O 60::O 61::O 62::O 63::O 64::O 65::O 66::[] : List Value)) ∧ St w0 [Cells b6 ((encA (encI .i16)) a3) 29] w)) ?_ ?_
  ·
   rintro t w ⟨x11, H, hf, hs⟩
   obtain ⟨O, rfl⟩ := hf.open
   try dsimp only
   unfold impl_PlansFor.j0 at H
   refine g_seq ?_
   refine g_seq ?_
   refine g_region ?_
   show G _ _ _ (.inRegion _ [0, 1] :: _) _ _
   refine g_op (v := Value.int .i64 x11) rfl rfl rfl ?_
   refine g_d rfl ?_
   refine g_op_b (B := x11 != 0) rfl rfl rfl ?_ ?_
   ·
    intro hb
    rw [if_neg (b_bne_t hb)] at H
    refine g_d rfl ?_
    try dsimp only [set0,setS]
    refine g_ops_nil ?_
    refine g_cond_true rfl ?_
    refine g_seq ?_
    refine g_region ?_
    show G _ _ _ (.inRegion _ [0, 1, 2] :: _) _ _
    refine g_op (v := Value.int .i64 x11) rfl rfl rfl ?_
    refine g_d rfl ?_
    refine g_op (v := Value.int .i64 0) rfl rfl rfl ?_
    refine g_d rfl ?_
    try dsimp only [set0,setS]
    refine g_op (v := Value.int .i64 x11) rfl rfl rfl ?_
    refine g_d rfl ?_
    try dsimp only [set0,setS]
    refine g_ops_nil ?_
    refine g_ret Try.func28 (v := Value.tuple #[Value.int .i64 0, Value.int .i64 x11]) (resN (l := Try.f28.results.toList) (vs := [Value.int .i64 0, Value.int .i64 x11]) rfl ⟨rfl, rfl, trivial⟩ (by simp)) ?_
    have hs : St _ [] _ := St.take (Γ' := [_]) hs
    exact ⟨_, rfl, _, H, rfl, hs⟩
   ·
    intro hb
    rw [if_pos (b_bne_f hb)] at H
    refine g_d rfl ?_
    try dsimp only [set0,setS]
    refine g_ops_nil ?_
    refine g_cond_false rfl ?_
    refine g_skip ?_
    refine g_seq ?_
    refine g_region ?_
    show G _ _ _ (.inRegion _ [0, 1, 2, 3, 4, 5] :: _) _ _
    refine s_makeMap (ek := ek_S_impl_moment) (en := (Value.int .i64)) hs rfl rfl rfl ?_
    intro b12 w hs
    refine g_d rfl ?_
    try dsimp only [set0,setS]
    refine s_loadA rfl rfl (es := ((encA (encI .i16)) a3)) rfl rfl (fun _ => rfl) (n := 4) (fun _ => rfl) ((fkA (n := 4) (he := (fkI .i16).len) (h1 := (fkI .i16).one)).len _) (cells_all (hs.cells 1 rfl)) ?_
    refine g_d rfl ?_
    try dsimp only [set0,setS]
    refine g_op (v := Value.agg (enc_S_impl_moment (⟨0, a3⟩ : S_impl_moment)).toArray) rfl rfl (x_buildS (cs := (enc_S_impl_moment (⟨0, a3⟩ : S_impl_moment))) (segs := [[Value.int .i64 0], [Value.int .i16 0, Value.int .i16 0, Value.int .i16 0, Value.int .i16 0]]) rfl rfl (fun _ => rfl) ⟨rfl, (fun _ => rfl), rfl, (fun _ => rfl), trivial⟩ (by simp only [List.map_cons, List.map_nil, List.forall_mem_cons, List.not_mem_nil, false_implies, implies_true, and_true]; exact ⟨⟨_, rfl, rfl⟩, ⟨_, rfl, (fkA (n := 4) (he := (fkI .i16).len) (h1 := (fkI .i16).one)).len _⟩⟩) (by first | rfl | (simp [ev, enc_S_impl_moment]; done) | (simp [ev, enc_S_impl_moment]; rfl))) ?_
    refine g_d rfl ?_
    try dsimp only [set0,setS]
    refine s_mapSet key_S_impl_moment_73 (a := (⟨0, a3⟩ : S_impl_moment)) (v := 1) hs rfl rfl (.inr rfl) Try.underlying74 rfl rfl rfl ?_
    intro w hs
    refine g_n rfl ?_
    refine g_op (v := Value.map (some b12)) rfl rfl rfl ?_
    refine g_d rfl ?_
    refine g_op (v := Value.map (some b12)) rfl rfl rfl ?_
    refine g_d rfl ?_
    try dsimp only [set0,setS]
    refine g_ops_nil ?_
    refine g_seq ?_
    refine g_seq ?_
    refine g_region ?_
    show G _ _ _ (.inRegion _ [0, 1] :: _) _ _
    refine g_op (v := Value.int .i64 a5) rfl rfl rfl ?_
    refine g_d rfl ?_
    refine g_op (v := Value.int .i64 0) rfl rfl rfl ?_
    refine g_d rfl ?_
    refine g_ops_nil ?_
    have Ho := H
    refine g_block_join (J := fun t w => ∃ b41 : Nat, ∃ x42 : (List (S_impl_moment × Int)), impl_PlansFor.a1 N a4 x42 Q ∧ Fr t (fun O => (O 0::O 1::Value.int .i64 a4::O 3::O 4::O 5::O 6::O 7::O 8::O 9::O 10::Value.map (some b41)::O 12::O 13::O 14::O 15::O 16::O 17::O 18::O 19::O 20::O 21::O 22::O 23::O 24::O 25::O 26::O 27::O 28::O 29::O 30::O 31::O 32::O 33::O 34::O 35::O 36::O 37::O 38::O 39::O 40::O 41::O 42::O 43::O 44::O 45::O 46::O 47::O 48::O 49::O 50::O 51::O 52::O 53::O 54::O 55::O 56::O 57::O 58::O 59::O 60::O 61::O 62::O 63::O 64::O 65::O 66::[] : List Value)) ∧ St w0 [MapAs b41 ek_S_impl_moment (Value.int .i64) x42] w) ?_ ?_
    ·
     rintro t w ⟨b41, x42, H, hf, hs⟩
     obtain ⟨O, rfl⟩ := hf.open
     try dsimp only
     unfold impl_PlansFor.a1 at H
     refine g_seq ?_
     refine g_region ?_
     show G _ _ _ (.inRegion _ [0] :: _) _ _
     refine g_op (v := Value.int .i64 0) rfl rfl rfl ?_
     refine g_d rfl ?_
     try dsimp only [set0,setS]
     refine g_ops_nil ?_
     refine g_seq ?_
     refine g_seq ?_
     refine g_region ?_
     show G _ _ _ (.inRegion _ [0, 1] :: _) _ _
     refine g_op (v := Value.map (some b41)) rfl rfl rfl ?_
     refine g_d rfl ?_
     refine s_range hs rfl rfl rfl Try.underlying74 rfl ?_
     intro b43 w hs
     refine g_d rfl ?_
     try dsimp only [set0,setS]
     refine g_ops_nil ?_
     have Ho := H
     refine g_block_join (J := fun t w => ∃ x58 : Int, impl_PlansFor.a3 N x58 Q ∧ Fr t (fun O => (O 0::O 1::O 2::O 3::O 4::O 5::O 6::O 7::O 8::O 9::O 10::O 11::O 12::O 13::O 14::Value.int .i64 x58::O 16::O 17::O 18::O 19::O 20::O 21::O 22::O 23::O 24::O 25::O 26::O 27::O 28::O 29::O 30::O 31::O 32::O 33::O 34::O 35::O 36::O 37::O 38::O 39::O 40::O 41::O 42::O 43::O 44::O 45::O 46::O 47::O 48::O 49::O 50::O 51::O 52::O 53::O 54::O 55::O 56::O 57::O 58::O 59::O 60::O 61::O 62::O 63::O 64::O 65::O 66::[] : List Value)) ∧ St w0 [] w) ?_ ?_
     ·
      rintro t w ⟨x58, H, hf, hs⟩
      obtain ⟨O, rfl⟩ := hf.open
      try dsimp only
      unfold impl_PlansFor.a3 at H
      refine g_seq ?_
      refine g_region ?_
      show G _ _ _ (.inRegion _ [0, 1, 2] :: _) _ _
      refine g_op (v := Value.int .i64 x58) rfl rfl rfl ?_
      refine g_d rfl ?_
      refine g_op (v := Value.int .i64 x58) rfl rfl rfl ?_
      refine g_d rfl ?_
      try dsimp only [set0,setS]
      refine g_op (v := Value.int .i64 0) rfl rfl rfl ?_
      refine g_d rfl ?_
      try dsimp only [set0,setS]
      refine g_ops_nil ?_
      refine g_ret Try.func28 (v := Value.tuple #[Value.int .i64 x58, Value.int .i64 0]) (resN (l := Try.f28.results.toList) (vs := [Value.int .i64 x58, Value.int .i64 0]) rfl ⟨rfl, rfl, trivial⟩ (by simp)) ?_
      have hs : St _ [] _ := St.take (Γ' := []) hs
      exact ⟨_, rfl, _, H, rfl, hs⟩
     ·
      intro ha1_
      have hs := hs.pull 1 rfl
      have hs := hs.pull 1 rfl
      have hs : St _ [_,_] _ := St.take (Γ' := []) hs
      refine g_loop_fuel (I := fun n_ t w => ∃ x51 : Int, ∃ x52 : (List (S_impl_moment × Int)), roundsD (fun s => impl_PlansFor.b3 N a4 s.1 s.2) n_ (x51, x52) (Ex.finD (fun s => impl_PlansFor.a3 N s Q) Q) ∧ Fr t (fun O => (O 0::O 1::Value.int .i64 a4::O 3::O 4::O 5::O 6::O 7::O 8::O 9::O 10::O 11::O 12::O 13::O 14::Value.int .i64 x51::O 16::O 17::O 18::O 19::O 20::O 21::O 22::O 23::O 24::O 25::O 26::O 27::O 28::O 29::O 30::O 31::O 32::O 33::O 34::O 35::O 36::O 37::O 38::O 39::O 40::O 41::O 42::O 43::O 44::O 45::O 46::O 47::O 48::O 49::O 50::O 51::O 52::Value.pointer (some ⟨b43, 0, none⟩)::O 54::O 55::O 56::O 57::O 58::O 59::O 60::O 61::O 62::O 63::O 64::O 65::O 66::[] : List Value)) ∧ St w0 [IterAs b43 b41 x42 x52 none, MapAs b41 ek_S_impl_moment (Value.int .i64) x42] w) N ⟨0, x42, Ho, rfl, hs⟩ ?_ ?_
      ·
       rintro _ _ ⟨x51, x52, h, _⟩
       exact (h : False).elim
      ·
       intro n_ ih1_
       rintro t w ⟨x51, x52, Ho, hf, hs⟩
       obtain ⟨O, rfl⟩ := hf.open
       try dsimp only
       obtain ⟨x6_, hQ1_, H⟩ := roundsD_succ Ho
       have H : impl_PlansFor.b3 N a4 x51 x52 x6_ := H
       unfold impl_PlansFor.b3 at H
       refine g_seq ?_
       refine g_region ?_
       show G _ _ _ (.inRegion _ [0, 1] :: _) _ _
       have hs := hs.pull 1 rfl
       have hs : St _ [_,_] _ := hs
       have hs := hs.pull 1 rfl
       have hs : St _ [_,_] _ := hs
       refine s_next hs rfl rfl rfl rfl ?_ ?_
       ·
        intro hl5_ w hs
        have H := H.1 hl5_
        refine g_d rfl ?_
        try dsimp only [set0,setS]
        refine g_op (v := Value.bool false) rfl rfl rfl ?_
        refine g_d rfl ?_
        refine g_ops_nil ?_
        refine g_seq ?_
        refine g_cond_false rfl ?_
        have hs : St _ [] _ := St.take (Γ' := [_,_]) hs
        refine g_exit rfl ?_
        exact ha1_ _ _ ⟨x51, cast (congrFun hQ1_ _) H, rfl, hs⟩
       ·
        intro q53 l54 hl5_ w hs
        have H := H.2 q53 l54 hl5_
        dsimp only at H
        refine g_d rfl ?_
        try dsimp only [set0,setS]
        refine g_op (v := Value.bool true) rfl rfl rfl ?_
        refine g_d rfl ?_
        refine g_ops_nil ?_
        refine g_seq ?_
        refine g_cond_true rfl ?_
        refine g_skip ?_
        refine g_block_join (J := (fun t w => ∃ x57 : Int, impl_PlansFor.j5 N l54 x57 x6_ ∧ Fr t (fun O => (O 0::O 1::Value.int .i64 a4::O 3::O 4::O 5::O 6::O 7::O 8::O 9::O 10::O 11::O 12::O 13::O 14::Value.int .i64 x57::O 16::O 17::O 18::O 19::O 20::O 21::O 22::O 23::O 24::O 25::O 26::O 27::O 28::O 29::O 30::O 31::O 32::O 33::O 34::O 35::O 36::O 37::O 38::O 39::O 40::O 41::O 42::O 43::O 44::O 45::O 46::O 47::O 48::O 49::O 50::O 51::O 52::Value.pointer (some ⟨b43, 0, none⟩)::O 54::O 55::O 56::O 57::O 58::O 59::O 60::O 61::O 62::O 63::O 64::O 65::O 66::[] : List Value)) ∧ St w0 [IterAs b43 b41 x42 l54 none, MapAs b41 ek_S_impl_moment (Value.int .i64) x42] w)) ?_ ?_
        ·
         rintro t w ⟨x57, H, hf, hs⟩
         obtain ⟨O, rfl⟩ := hf.open
         try dsimp only
         unfold impl_PlansFor.j5 at H
         have hs := hs.pull 1 rfl
         have hs := hs.pull 1 rfl
         have hs : St _ [_,_] _ := St.take (Γ' := []) hs
         exact ih1_ _ _ ⟨x57, l54, cast (congrFun hQ1_ _) H, rfl, hs⟩
        ·
         intro ha
         refine g_seq ?_
         refine g_region ?_
         show G _ _ _ (.inRegion _ [0, 1, 2, 3, 4, 5] :: _) _ _
         have hs := hs.pull 1 rfl
         have hs : St _ [_,_] _ := hs
         have hs := hs.pull 1 rfl
         have hs : St _ [_,_] _ := hs
         refine s_entry hs rfl rfl rfl rfl ?_
         have hs := hs.iterForget
         have hs : St _ [_,_] _ := hs
         refine g_d rfl ?_
         try dsimp only [set0,setS]
         refine g_op (v := Value.agg (enc_S_impl_moment q53.1).toArray) rfl rfl rfl ?_
         refine g_d rfl ?_
         refine g_op (v := Value.int .i64 q53.2) rfl rfl rfl ?_
         refine g_d rfl ?_
         refine s_alloc hs rfl rfl (z := (Value.agg #[Value.int .i64 0, Value.int .i16 0, Value.int .i16 0, Value.int .i16 0, Value.int .i16 0])) (cs := (enc_S_impl_moment z_S_impl_moment)) rfl (fun _ => rfl) rfl ?_
         intro b55 w hs
         refine g_d rfl ?_
         try dsimp only [set0,setS]
         refine s_storeAll (n := 5) hs (fk_S_impl_moment.len _) rfl rfl (vs := (enc_S_impl_moment q53.1)) rfl rfl rfl (fun _ => rfl) (fk_S_impl_moment.len _) (fk_S_impl_moment.one _) ?_
         intro w hs
         refine g_n rfl ?_
         refine g_op (v := Value.int .i64 q53.2) rfl rfl rfl ?_
         refine g_d rfl ?_
         try dsimp only [set0,setS]
         refine g_ops_nil ?_
         refine g_seq ?_
         refine g_region ?_
         show G _ _ _ (.inRegion _ [0, 1, 2, 3] :: _) _ _
         refine g_op (v := Value.pointer (some ⟨b55, 0, none⟩)) rfl rfl rfl ?_
         refine g_d rfl ?_
         refine s_load1 rfl rfl (v := Value.int .i64 q53.1.f_time) rfl rfl (fun _ => rfl) (cells_load (hs.cells 0 rfl) 0 1 rfl) ?_
         refine g_d rfl ?_
         try dsimp only [set0,setS]
         refine g_op (v := Value.int .i64 a4) rfl rfl rfl ?_
         refine g_d rfl ?_
         refine g_op_b (B := q53.1.f_time == a4) rfl rfl rfl ?_ ?_
         ·
          intro hb
          rw [if_pos (b_beq_t hb)] at H
          refine g_d rfl ?_
          try dsimp only [set0,setS]
          refine g_ops_nil ?_
          refine g_cond_true rfl ?_
          refine g_region ?_
          show G _ _ _ (.inRegion _ [0, 1, 2, 3] :: _) _ _
          refine g_op (v := Value.int .i64 x51) rfl rfl rfl ?_
          refine g_d rfl ?_
          refine g_op (v := Value.int .i64 q53.2) rfl rfl rfl ?_
          refine g_d rfl ?_
          refine g_op (v := Value.int .i64 (i64w (x51 + q53.2))) rfl rfl rfl ?_
          refine g_d rfl ?_
          try dsimp only [set0,setS]
          refine g_op (v := Value.int .i64 (i64w (x51 + q53.2))) rfl rfl rfl ?_
          refine g_d rfl ?_
          try dsimp only [set0,setS]
          refine g_ops_nil ?_
          refine g_inBlock ?_
          have hs := hs.pull 2 rfl
          have hs := hs.pull 2 rfl
          have hs : St _ [_,_] _ := St.take (Γ' := [_]) hs
          exact ha _ _ ⟨i64w (x51 + q53.2), H, rfl, hs⟩
         ·
          intro hb
          rw [if_neg (b_beq_f hb)] at H
          refine g_d rfl ?_
          try dsimp only [set0,setS]
          refine g_ops_nil ?_
          refine g_cond_false rfl ?_
          refine g_skip ?_
          refine g_inBlock ?_
          have hs := hs.pull 2 rfl
          have hs := hs.pull 2 rfl
          have hs : St _ [_,_] _ := St.take (Γ' := [_]) hs
          exact ha _ _ ⟨x51, H, rfl, hs⟩
    ·
     intro ha1_
     have hs := hs.pull 0 rfl
     have hs : St _ [_] _ := St.take (Γ' := [_]) hs
     refine g_loop_fuel (I := fun n_ t w => ∃ b15 : Nat, ∃ x16 : (List (S_impl_moment × Int)), ∃ x17 : Int, roundsD (fun s => impl_PlansFor.b1 N a5 a1 a4 s.1 s.2) n_ (x16, x17) (Ex.finD (fun s => impl_PlansFor.a1 N a4 s Q) Q) ∧ Fr t (fun O => (v2::O 1::Value.int .i64 a4::O 3::O 4::O 5::O 6::O 7::O 8::O 9::O 10::Value.map (some b15)::O 12::O 13::O 14::O 15::O 16::O 17::O 18::O 19::O 20::O 21::O 22::O 23::O 24::O 25::O 26::O 27::O 28::O 29::O 30::O 31::O 32::O 33::Value.int .i64 a5::Value.int .i64 x17::O 36::O 37::O 38::O 39::O 40::O 41::O 42::O 43::O 44::O 45::O 46::O 47::O 48::O 49::O 50::O 51::O 52::O 53::O 54::O 55::O 56::O 57::O 58::O 59::O 60::O 61::O 62::O 63::O 64::O 65::O 66::[] : List Value)) ∧ St w0 [MapAs b15 ek_S_impl_moment (Value.int .i64) x16] w) N ⟨b12, mSet ([] : (List (S_impl_moment × Int))) (⟨0, a3⟩ : S_impl_moment) 1, 0, Ho, rfl, hs⟩ ?_ ?_
     ·
      rintro _ _ ⟨b15, x16, x17, h, _⟩
      exact (h : False).elim
     ·
      intro n_ ih1_
      rintro t w ⟨b15, x16, x17, Ho, hf, hs⟩
      obtain ⟨O, rfl⟩ := hf.open
      try dsimp only
      obtain ⟨x7_, hQ1_, H⟩ := roundsD_succ Ho
      have H : impl_PlansFor.b1 N a5 a1 a4 x16 x17 x7_ := H
      unfold impl_PlansFor.b1 at H
      refine g_seq ?_
      refine g_region ?_
      show G _ _ _ (.inRegion _ [0] :: _) _ _
      refine g_op_b (B := decide (x17 < a5)) rfl rfl rfl ?_ ?_
      ·
       intro hb
       rw [if_pos (b_dec_t hb)] at H
       refine g_d rfl ?_
       try dsimp only [set0,setS]
       refine g_ops_nil ?_
       refine g_seq ?_
       refine g_cond_true rfl ?_
       refine g_skip ?_
       refine g_seq ?_
       refine g_block ?_
       refine g_seq ?_
       refine g_region ?_
       show G _ _ _ (.inRegion _ [0, 1, 2] :: _) _ _
       refine s_makeMap (ek := ek_S_impl_moment) (en := (Value.int .i64)) hs rfl rfl rfl ?_
       intro b18 w hs
       refine g_d rfl ?_
       try dsimp only [set0,setS]
       refine s_alloc hs rfl rfl (z := (Value.map none)) (cs := [Value.map none]) rfl (fun _ => rfl) rfl ?_
       intro b20 w hs
       refine g_d rfl ?_
       try dsimp only [set0,setS]
       refine s_storeAll (n := 1) hs rfl rfl rfl (vs := [Value.map (some b18)]) rfl rfl rfl (fun _ => rfl) rfl (by simp [Value.oneCell']) ?_
       intro w hs
       refine g_n rfl ?_
       refine g_ops_nil ?_
       refine g_seq ?_
       refine g_seq ?_
       refine g_region ?_
       show G _ _ _ (.inRegion _ [0, 1] :: _) _ _
       refine g_op (v := Value.map (some b15)) rfl rfl rfl ?_
       refine g_d rfl ?_
       have hs := hs.pull 2 rfl
       have hs : St _ [_,_,_] _ := hs
       refine s_range hs rfl rfl rfl Try.underlying74 rfl ?_
       intro b22 w hs
       refine g_d rfl ?_
       try dsimp only [set0,setS]
       refine g_ops_nil ?_
       have Ho := H
       refine g_block_join (J := fun t w => ∃ x40 : (List (S_impl_moment × Int)), impl_PlansFor.a6 N x17 x40 x7_ ∧ Fr t (fun O => (v2::O 1::Value.int .i64 a4::O 3::O 4::O 5::O 6::O 7::O 8::O 9::O 10::O 11::Value.pointer (some ⟨b20, 0, none⟩)::O 13::O 14::O 15::O 16::O 17::O 18::O 19::O 20::O 21::O 22::O 23::O 24::O 25::O 26::O 27::O 28::O 29::O 30::O 31::O 32::O 33::Value.int .i64 a5::Value.int .i64 x17::O 36::O 37::O 38::O 39::O 40::O 41::O 42::O 43::O 44::O 45::O 46::O 47::O 48::O 49::O 50::O 51::O 52::O 53::O 54::O 55::O 56::O 57::O 58::O 59::O 60::O 61::O 62::O 63::O 64::O 65::O 66::[] : List Value)) ∧ St w0 [Cells b20 ([Value.map (some b18)]) 74, MapAs b18 ek_S_impl_moment (Value.int .i64) x40] w) ?_ ?_
       ·
        rintro t w ⟨x40, H, hf, hs⟩
        obtain ⟨O, rfl⟩ := hf.open
        try dsimp only
        unfold impl_PlansFor.a6 at H
        refine g_region ?_
        show G _ _ _ (.inRegion _ [0, 1] :: _) _ _
        refine s_load1 rfl rfl (v := Value.map (some b18)) rfl rfl (fun _ => rfl) (cells_load (hs.cells 0 rfl) 0 1 rfl) ?_
        refine g_d rfl ?_
        try dsimp only [set0,setS]
        refine g_op (v := Value.map (some b18)) rfl rfl rfl ?_
        refine g_d rfl ?_
        try dsimp only [set0,setS]
        refine g_ops_nil ?_
        refine g_inBlock ?_
        refine g_region ?_
        show G _ _ _ (.inRegion _ [0, 1] :: _) _ _
        refine g_op (v := Value.int .i64 (i64w (x17 + 1))) rfl rfl rfl ?_
        refine g_d rfl ?_
        try dsimp only [set0,setS]
        refine g_op (v := Value.int .i64 (i64w (x17 + 1))) rfl rfl rfl ?_
        refine g_d rfl ?_
        refine g_ops_nil ?_
        have hs := hs.pull 1 rfl
        have hs : St _ [_] _ := St.take (Γ' := [_]) hs
        exact ih1_ _ _ ⟨b18, x40, i64w (x17 + 1), cast (congrFun hQ1_ _) H, rfl, hs⟩
       ·
        intro ha2_
        have hs := hs.pull 1 rfl
        have hs := hs.pull 1 rfl
        have hs := hs.pull 2 rfl
        have hs := hs.pull 3 rfl
        have hs : St _ [_,_,_,_] _ := St.take (Γ' := []) hs
        refine g_loop_fuel (I := fun n_ t w => ∃ x31 : (List (S_impl_moment × Int)), ∃ x32 : (List (S_impl_moment × Int)), roundsD (fun s => impl_PlansFor.b6 N a1 a4 s.1 s.2) n_ (x31, x32) (Ex.finBD (fun s => impl_PlansFor.a6 N x17 s x7_) x7_) ∧ Fr t (fun O => (v2::O 1::Value.int .i64 a4::O 3::O 4::O 5::O 6::O 7::O 8::O 9::O 10::O 11::Value.pointer (some ⟨b20, 0, none⟩)::O 13::O 14::O 15::O 16::O 17::O 18::O 19::O 20::O 21::O 22::O 23::O 24::O 25::O 26::O 27::O 28::O 29::O 30::O 31::O 32::O 33::Value.int .i64 a5::Value.int .i64 x17::O 36::O 37::O 38::Value.pointer (some ⟨b22, 0, none⟩)::O 40::O 41::O 42::O 43::O 44::O 45::O 46::O 47::O 48::O 49::O 50::O 51::O 52::O 53::O 54::O 55::O 56::O 57::O 58::O 59::O 60::O 61::O 62::O 63::O 64::O 65::O 66::[] : List Value)) ∧ St w0 [MapAs b18 ek_S_impl_moment (Value.int .i64) x31, Cells b20 ([Value.map (some b18)]) 74, IterAs b22 b15 x16 x32 none, MapAs b15 ek_S_impl_moment (Value.int .i64) x16] w) N ⟨([] : (List (S_impl_moment × Int))), x16, Ho, rfl, hs⟩ ?_ ?_
        ·
         rintro _ _ ⟨x31, x32, h, _⟩
         exact (h : False).elim
        ·
         intro n_ ih2_
         rintro t w ⟨x31, x32, Ho, hf, hs⟩
         obtain ⟨O, rfl⟩ := hf.open
         try dsimp only
         obtain ⟨x3_, hQ2_, H⟩ := roundsD_succ Ho
         have H : impl_PlansFor.b6 N a1 a4 x31 x32 x3_ := H
         unfold impl_PlansFor.b6 at H
         refine g_seq ?_
         refine g_region ?_
         show G _ _ _ (.inRegion _ [0, 1] :: _) _ _
         have hs := hs.pull 3 rfl
         have hs : St _ [_,_,_,_] _ := hs
         have hs := hs.pull 3 rfl
         have hs : St _ [_,_,_,_] _ := hs
         refine s_next hs rfl rfl rfl rfl ?_ ?_
         ·
          intro hl2_ w hs
          have H := H.1 hl2_
          refine g_d rfl ?_
          try dsimp only [set0,setS]
          refine g_op (v := Value.bool false) rfl rfl rfl ?_
          refine g_d rfl ?_
          refine g_ops_nil ?_
          refine g_seq ?_
          refine g_cond_false rfl ?_
          have hs := hs.pull 2 rfl
          have hs := hs.pull 3 rfl
          have hs : St _ [_,_] _ := St.take (Γ' := [_,_]) hs
          refine g_exit rfl ?_
          exact ha2_ _ _ ⟨x31, cast (congrFun hQ2_ _) H, rfl, hs⟩
         ·
          intro q33 l34 hl2_ w hs
          have H := H.2 q33 l34 hl2_
          dsimp only at H
          refine g_d rfl ?_
          try dsimp only [set0,setS]
          refine g_op (v := Value.bool true) rfl rfl rfl ?_
          refine g_d rfl ?_
          refine g_ops_nil ?_
          refine g_seq ?_
          refine g_cond_true rfl ?_
          refine g_skip ?_
          refine g_block ?_
          refine g_seq ?_
          refine g_region ?_
          show G _ _ _ (.inRegion _ [0, 1, 2, 3, 4, 5, 6] :: _) _ _
          have hs := hs.pull 1 rfl
          have hs : St _ [_,_,_,_] _ := hs
          have hs := hs.pull 1 rfl
          have hs : St _ [_,_,_,_] _ := hs
          refine s_entry hs rfl rfl rfl rfl ?_
          have hs := hs.iterForget
          have hs : St _ [_,_,_,_] _ := hs
          refine g_d rfl ?_
          try dsimp only [set0,setS]
          refine g_op (v := Value.agg (enc_S_impl_moment q33.1).toArray) rfl rfl rfl ?_
          refine g_d rfl ?_
          refine g_op (v := Value.int .i64 q33.2) rfl rfl rfl ?_
          refine g_d rfl ?_
          refine s_alloc hs rfl rfl (z := (Value.agg #[Value.int .i64 0, Value.int .i16 0, Value.int .i16 0, Value.int .i16 0, Value.int .i16 0])) (cs := (enc_S_impl_moment z_S_impl_moment)) rfl (fun _ => rfl) rfl ?_
          intro b35 w hs
          refine g_d rfl ?_
          try dsimp only [set0,setS]
          refine s_alloc hs rfl rfl (z := (Value.int .i64 0)) (cs := ((encI .i64) 0)) rfl (fun _ => rfl) rfl ?_
          intro b37 w hs
          refine g_d rfl ?_
          try dsimp only [set0,setS]
          have hs := hs.pull 1 rfl
          have hs : St _ [_,_,_,_,_,_] _ := hs
          refine s_storeAll (n := 5) hs (fk_S_impl_moment.len _) rfl rfl (vs := (enc_S_impl_moment q33.1)) rfl rfl rfl (fun _ => rfl) (fk_S_impl_moment.len _) (fk_S_impl_moment.one _) ?_
          intro w hs
          refine g_n rfl ?_
          have hs := hs.pull 1 rfl
          have hs : St _ [_,_,_,_,_,_] _ := hs
          refine s_storeAll (n := 1) hs ((fkI .i64).len _) rfl rfl (vs := ((encI .i64) q33.2)) rfl rfl rfl (fun _ => rfl) ((fkI .i64).len _) ((fkI .i64).one _) ?_
          intro w hs
          refine g_n rfl ?_
          refine g_ops_nil ?_
          refine g_region ?_
          show G _ _ _ (.inRegion _ [0, 1, 2, 3, 4] :: _) _ _
          refine g_op (v := v2) rfl rfl rfl ?_
          refine g_d rfl ?_
          refine s_loadA rfl rfl (es := (enc_S_impl_moment q33.1)) rfl rfl (fun _ => rfl) (n := 5) (fun _ => rfl) (fk_S_impl_moment.len _) (cells_all (hs.cells 1 rfl)) ?_
          refine g_d rfl ?_
          try dsimp only [set0,setS]
          refine g_op (v := Value.int .i64 a4) rfl rfl rfl ?_
          refine g_d rfl ?_
          refine g_op (v := Value.func (Fn.func 56) #[] #[Value.pointer (some ⟨b20, 0, none⟩), Value.pointer (some ⟨b37, 0, none⟩)]) rfl rfl (x_mkfunc rfl rfl) ?_
          refine g_d rfl ?_
          try dsimp only [set0,setS]
          obtain ⟨r39, Hr39, H⟩ := H
          have hs := hs.pull 0 rfl
          have hs := hs.pull 5 rfl
          have hs := hs.pull 5 rfl
          have hs : St _ [_,_,_,_,_,_] _ := hs
          have hs := hs.pack 3
          refine s_call (args := [v2, Value.agg (enc_S_impl_moment q33.1).toArray, Value.int .i64 a4, Value.func (Fn.func 56) #[] #[Value.pointer (some ⟨b20, 0, none⟩), Value.pointer (some ⟨b37, 0, none⟩)]]) rfl rfl (x_call rfl (callFunc_enter Try.func55 rfl rfl) rfl) (_impl_Glasses_events_at_impl_PlansFor_1.calls (a1 := a1) (a3 := q33.1) (a4 := a4) (a5 := x31) (a10 := q33.2) hs hr0 Hr39) ?_
          rintro _ w ⟨rfl, hs⟩
          have hs := St.unpack (Γ := [_,_,_]) hs
          have hs : St _ [_,_,_,_,_,_] _ := hs
          refine g_d rfl ?_
          try dsimp only [set0,setS]
          refine g_ops_nil ?_
          refine g_inBlock ?_
          have hs := hs.pull 5 rfl
          have hs := hs.pull 5 rfl
          have hs := hs.pull 3 rfl
          have hs := hs.pull 3 rfl
          have hs : St _ [_,_,_,_] _ := St.take (Γ' := [_,_]) hs
          exact ih2_ _ _ ⟨r39.1, l34, cast (congrFun hQ2_ _) H, rfl, hs⟩
      ·
       intro hb
       rw [if_neg (b_dec_f hb)] at H
       refine g_d rfl ?_
       try dsimp only [set0,setS]
       refine g_ops_nil ?_
       refine g_seq ?_
       refine g_cond_false rfl ?_
       have hs := hs.pull 0 rfl
       have hs : St _ [_] _ := St.take (Γ' := []) hs
       refine g_exit rfl ?_
       exact ha1_ _ _ ⟨b15, x16, cast (congrFun hQ1_ _) H, rfl, hs⟩
  ·
   intro ha
   refine g_region ?_
   show G _ _ _ (.inRegion _ [0, 1] :: _) _ _
   refine g_op (v := Value.int .i64 r8) rfl rfl rfl ?_
   refine g_d rfl ?_
   refine g_op_b (B := r8 == 0) rfl rfl rfl ?_ ?_
   ·
    intro hb
    rw [if_pos (b_beq_t hb)] at H
    refine g_d rfl ?_
    try dsimp only [set0,setS]
    refine g_ops_nil ?_
    refine g_cond_true rfl ?_
    refine g_region ?_
    show G _ _ _ (.inRegion _ [0, 1, 2, 3] :: _) _ _
    refine g_op (v := Value.int .i64 a5) rfl rfl rfl ?_
    refine g_d rfl ?_
    obtain ⟨r9, Hr9, H⟩ := H
    refine s_call (args := [Value.int .i64 a5, Value.int .i64 0, Value.int .i64 12]) rfl rfl (x_call rfl (callFunc_enter Try.func54 rfl rfl) rfl) (impl_within.calls (a1 := a5) (a2 := 0) (a3 := 12) Hr9) ?_
    rintro _ w ⟨rfl, hs2⟩
    have hs : St _ [_] _ := hs.call hs2
    refine g_d rfl ?_
    try dsimp only [set0,setS]
    obtain ⟨r10, Hr10, H⟩ := H
    refine s_call (args := [Value.bool r9, Value.int .i64 2]) rfl rfl (x_call rfl (callFunc_enter Try.func53 rfl rfl) rfl) (impl_unless.calls (a1 := r9) (a2 := 2) Hr10) ?_
    rintro _ w ⟨rfl, hs2⟩
    have hs : St _ [_] _ := hs.call hs2
    refine g_d rfl ?_
    try dsimp only [set0,setS]
    refine g_op (v := Value.int .i64 r10) rfl rfl rfl ?_
    refine g_d rfl ?_
    try dsimp only [set0,setS]
    refine g_ops_nil ?_
    have hs := hs.pull 0 rfl
    have hs : St _ [_] _ := St.take (Γ' := []) hs
    exact ha _ _ ⟨r10, H, rfl, hs⟩
   ·
    intro hb
    rw [if_neg (b_beq_f hb)] at H
    refine g_d rfl ?_
    try dsimp only [set0,setS]
    refine g_ops_nil ?_
    refine g_cond_false rfl ?_
    refine g_skip ?_
    have hs := hs.pull 0 rfl
    have hs : St _ [_] _ := St.take (Γ' := []) hs
    exact ha _ _ ⟨r8, H, rfl, hs⟩

/- function 13 laws_eqGlasses -/
def laws_eqGlasses.post (w0 : World) (r : Bool) (v : Value) (w : World) : Prop := v = Value.bool r ∧ St w0 [] w
set_option maxHeartbeats 8000000 in
set_option maxRecDepth 100000 in
theorem laws_eqGlasses.calls {N : Nat} {a1 : (List Int)} {a3 : (List Int)} {v2 : Value} {v4 : Value} {w0 : World} {r : Bool} (hr0 : RdRow (K.int .i16) w0 v2 a1) (hr1 : RdRow (K.int .i16) w0 v4 a3) (H : laws_eqGlasses.f N a1 a3 = some r) :
    Calls Try.prog 13 #[v2, v4] w0 fun e w => ∃ v, e = .returned v ∧ laws_eqGlasses.post w0 r v w := by
  unfold laws_eqGlasses.f at H
  have hs : St w0 [] w0 := St.refl w0
  refine calls_of_g (n := 24) Try.func13 rfl rfl ?_
  show G _ _ _ _ [_,_,_,_,_,_,_,_,_,_,_,_,_,_,_,_,_,_,_,_,_,_,_,_,_,_] _
  refine g_seq ?_
  refine g_region ?_
  show G _ _ _ (.inRegion _ [0] :: _) _ _
  refine g_op (v := Value.bool false) rfl rfl rfl ?_
  show G _ _ _ _ [_,_,_,_,_,_,_,_,_,_,_,_,_,_,_,_,_,_,_,_,_,_,_,_,_,_] _
  refine g_ops_nil ?_
  refine g_seq ?_
  refine g_seq ?_
  refine g_region ?_
  show G _ _ _ (.inRegion _ [0, 1, 2, 3, 4] :: _) _ _
  refine g_op (v := v2) rfl rfl rfl ?_
  refine s_len (hs.rd hr0) rfl rfl rfl rfl rfl ?_
  show G _ _ _ _ [_,_,_,_,_,_,_,_,_,_,_,_,_,_,_,_,_,_,_,_,_,_,_,_,_,_] _
  refine g_op (v := v4) rfl rfl rfl ?_
  refine s_len (hs.rd hr1) rfl rfl rfl rfl rfl ?_
  show G _ _ _ _ [_,_,_,_,_,_,_,_,_,_,_,_,_,_,_,_,_,_,_,_,_,_,_,_,_,_] _
  refine g_op_b (B := (a1.length : Int) != (a3.length : Int)) rfl rfl rfl ?_ ?_
  ·
   intro hb
   rw [if_neg (b_bne_t hb)] at H
   show G _ _ _ _ [_,_,_,_,_,_,_,_,_,_,_,_,_,_,_,_,_,_,_,_,_,_,_,_,_,_] _
   refine g_ops_nil ?_
   refine g_cond_true rfl ?_
   refine g_seq ?_
   refine g_region ?_
   show G _ _ _ (.inRegion _ [0] :: _) _ _
   refine g_op (v := Value.bool false) rfl rfl rfl ?_
   show G _ _ _ _ [_,_,_,_,_,_,_,_,_,_,_,_,_,_,_,_,_,_,_,_,_,_,_,_,_,_] _
   refine g_ops_nil ?_
   obtain rfl := Option.some.inj H
   refine g_ret Try.func13 (v := Value.bool false) (res1 rfl rfl) ?_
   have hs : St _ [] _ := St.take (Γ' := []) hs
   exact ⟨_, rfl, rfl, hs⟩
  ·
   intro hb
   rw [if_pos (b_bne_f hb)] at H
   show G _ _ _ _ [_,_,_,_,_,_,_,_,_,_,_,_,_,_,_,_,_,_,_,_,_,_,_,_,_,_] _
   refine g_ops_nil ?_
   refine g_cond_false rfl ?_
   refine g_skip ?_
   refine g_seq ?_
   refine g_seq ?_
   refine g_region ?_
   show G _ _ _ (.inRegion _ [0] :: _) _ _
   refine g_op (v := Value.int .i64 0) rfl rfl rfl ?_
   show G _ _ _ _ [_,_,_,_,_,_,_,_,_,_,_,_,_,_,_,_,_,_,_,_,_,_,_,_,_,_] _
   refine g_ops_nil ?_
   obtain ⟨o1_, Ho, Hr1_⟩ := bind_get H
   refine g_block_join (J := fun t w => laws_eqGlasses.a0 N = some r ∧ Fr t (fun O => ([O 0, O 1, O 2, O 3, O 4, O 5, O 6, O 7, O 8, O 9, O 10, O 11, O 12, O 13, O 14, O 15, O 16, O 17, O 18, O 19, O 20, O 21, O 22, O 23, O 24, O 25] : List Value)) ∧ St w0 [] w) ?_ ?_
   ·
    rintro t w ⟨H, hf, hs⟩
    obtain ⟨O, rfl⟩ := hf.open
    show G _ _ _ _ [_,_,_,_,_,_,_,_,_,_,_,_,_,_,_,_,_,_,_,_,_,_,_,_,_,_] _
    unfold laws_eqGlasses.a0 at H
    refine g_seq ?_
    refine g_region ?_
    show G _ _ _ (.inRegion _ [0] :: _) _ _
    refine g_op (v := Value.bool true) rfl rfl rfl ?_
    show G _ _ _ _ [_,_,_,_,_,_,_,_,_,_,_,_,_,_,_,_,_,_,_,_,_,_,_,_,_,_] _
    refine g_ops_nil ?_
    obtain rfl := Option.some.inj H
    refine g_ret Try.func13 (v := Value.bool true) (res1 rfl rfl) ?_
    have hs : St _ [] _ := St.take (Γ' := []) hs
    exact ⟨_, rfl, rfl, hs⟩
   ·
    intro ha1_
    have hs : St _ [] _ := St.take (Γ' := []) hs
    refine g_loop_fuel (I := fun n_ t w => ∃ x5 : Int, rounds (fun s => laws_eqGlasses.b0 N a1 a3 s) n_ x5 = some o1_ ∧ Fr t (fun O => ([v2, v4, O 2, O 3, O 4, Value.int .i64 x5, O 6, O 7, O 8, O 9, O 10, O 11, O 12, O 13, O 14, O 15, O 16, O 17, O 18, O 19, O 20, O 21, O 22, O 23, O 24, O 25] : List Value)) ∧ St w0 [] w) N ⟨0, Ho, rfl, hs⟩ ?_ ?_
    ·
     rintro _ _ ⟨x5, h, _⟩
     exact rounds_zero h
    ·
     intro n_ ih1_
     rintro t w ⟨x5, Ho, hf, hs⟩
     obtain ⟨O, rfl⟩ := hf.open
     show G _ _ _ _ [_,_,_,_,_,_,_,_,_,_,_,_,_,_,_,_,_,_,_,_,_,_,_,_,_,_] _
     obtain ⟨x7_, H, Hx1_⟩ := rounds_succ Ho
     have H : laws_eqGlasses.b0 N a1 a3 x5 = some x7_ := H
     unfold laws_eqGlasses.b0 at H
     refine g_seq ?_
     refine g_seq ?_
     refine g_region ?_
     show G _ _ _ (.inRegion _ [0, 1, 2, 3] :: _) _ _
     refine g_op (v := Value.int .i64 x5) rfl rfl rfl ?_
     refine g_op (v := v2) rfl rfl rfl ?_
     refine s_len (hs.rd hr0) rfl rfl rfl rfl rfl ?_
     show G _ _ _ _ [_,_,_,_,_,_,_,_,_,_,_,_,_,_,_,_,_,_,_,_,_,_,_,_,_,_] _
     refine g_op_b (B := decide (x5 < (a1.length : Int))) rfl rfl rfl ?_ ?_
     ·
      intro hb
      rw [if_pos (b_dec_t hb)] at H
      show G _ _ _ _ [_,_,_,_,_,_,_,_,_,_,_,_,_,_,_,_,_,_,_,_,_,_,_,_,_,_] _
      refine g_ops_nil ?_
      refine g_cond_true rfl ?_
      refine g_skip ?_
      refine g_seq ?_
      refine g_block ?_
      refine g_seq ?_
      refine g_lay (n := 9) rfl [0, 1, 2, 3, 4, 5, 6, 7, 8] [0, 1, 2, 3, 4, 5, 6, 7, 8] rfl rfl ?_
      intro rest w hh hbw hO
      have hs := hs.samew hh hbw
      show G _ _ _ _ [_,_,_,_,_,_,_,_,_,_,_,_,_,_,_,_,_,_,_,_,_,_,_,_,_,_] _
      obtain ⟨gd2, H⟩ := ite_get H
      obtain ⟨ad3_, ad3_N, ad3_C, had3_⟩ := sl_at (hs.rd hr0) gd2.1 gd2.2
      obtain ⟨gd4, H⟩ := ite_get H
      obtain ⟨ad5_, ad5_N, ad5_C, had5_⟩ := sl_at (hs.rd hr1) gd4.1 gd4.2
      refine g_name ?_
      intro T hT
      refine g_layer (m0 := 0) hO rfl 255 [0, 1, 2, 3, 4, 5, 6, 7] [0, 0, 3, 7, 0, 0, 48, 112, 255] (by decide +kernel) (fun D t w => ∃ O : Nat → Value, t = [v2, v4, O 2, O 3, O 4, Value.int .i64 x5, O 6, O 7, O 8, O 9, O 10, Value.int .i64 x5, v2, Value.int .i64 (a1.length : Int), Value.bool true, O 15, O 16, cnd (D 0) v2 (O 17), cnd (D 1) (Value.int .i64 x5) (O 18), cnd (D 2) (Value.pointer (some (ad3_.add (x5.toNat * 1)))) (O 19), cnd (D 3) (Value.int .i16 (rdL a1 x5 0)) (O 20), cnd (D 4) v4 (O 21), cnd (D 5) (Value.int .i64 x5) (O 22), cnd (D 6) (Value.pointer (some (ad5_.add (x5.toNat * 1)))) (O 23), cnd (D 7) (Value.int .i16 (rdL a3 x5 0)) (O 24), O 25] ∧ St w0 [] w) ?_ ⟨?_, ⟨?_, ⟨?_, ⟨?_, ⟨?_, ⟨?_, ⟨?_, ⟨?_, trivial⟩⟩⟩⟩⟩⟩⟩⟩ ?_
      · exact ⟨fun i => T.getD i undef, (by subst hT; rfl), hs⟩
      ·
       intro D t w hD hp hcl hI rest hk
       obtain ⟨O, ht, hs⟩ := hI
       have hp : AllDone D [] := hp
       have q2_ : D 2 = false := not_yet (show D 2 = true → AllDone D [0, 1] from hcl 2 (by decide)) 0 0 rfl hD
       have q3_ : D 3 = false := not_yet (show D 3 = true → AllDone D [2] from hcl 3 (by decide)) 0 2 rfl q2_
       simp only [hD, q2_, q3_, cnd_t, cnd_f, Asc_t, Asc_f] at ht hs
       subst ht
       refine g_op (v := v2) rfl rfl rfl ?_
       show G _ _ _ _ [_,_,_,_,_,_,_,_,_,_,_,_,_,_,_,_,_,_,_,_,_,_,_,_,_,_] _
       exact hk _ _ ⟨O, (by simp only [upd, Nat.reduceBEq, Bool.true_or, Bool.false_or, q2_, q3_, cnd_t, cnd_f, Asc_t, Asc_f]), hs.cast (by first | rfl | simp only [List.take, List.drop, List.cons_append, List.nil_append, List.set_cons_zero, List.set_cons_succ, List.eraseIdx, upd, Nat.reduceBEq, Bool.true_or, Bool.false_or, q2_, q3_, cnd_t, cnd_f, Asc_t, Asc_f])⟩
      ·
       intro D t w hD hp hcl hI rest hk
       obtain ⟨O, ht, hs⟩ := hI
       have hp : AllDone D [] := hp
       have q2_ : D 2 = false := not_yet (show D 2 = true → AllDone D [0, 1] from hcl 2 (by decide)) 1 1 rfl hD
       have q3_ : D 3 = false := not_yet (show D 3 = true → AllDone D [2] from hcl 3 (by decide)) 0 2 rfl q2_
       simp only [hD, q2_, q3_, cnd_t, cnd_f, Asc_t, Asc_f] at ht hs
       subst ht
       refine g_op (v := Value.int .i64 x5) rfl rfl rfl ?_
       show G _ _ _ _ [_,_,_,_,_,_,_,_,_,_,_,_,_,_,_,_,_,_,_,_,_,_,_,_,_,_] _
       exact hk _ _ ⟨O, (by simp only [upd, Nat.reduceBEq, Bool.true_or, Bool.false_or, q2_, q3_, cnd_t, cnd_f, Asc_t, Asc_f]), hs.cast (by first | rfl | simp only [List.take, List.drop, List.cons_append, List.nil_append, List.set_cons_zero, List.set_cons_succ, List.eraseIdx, upd, Nat.reduceBEq, Bool.true_or, Bool.false_or, q2_, q3_, cnd_t, cnd_f, Asc_t, Asc_f])⟩
      ·
       intro D t w hD hp hcl hI rest hk
       obtain ⟨O, ht, hs⟩ := hI
       have hp : AllDone D [0, 1] := hp
       obtain ⟨p0_, p1_, _⟩ := hp
       have q3_ : D 3 = false := not_yet (show D 3 = true → AllDone D [2] from hcl 3 (by decide)) 0 2 rfl hD
       simp only [hD, p0_, p1_, q3_, cnd_t, cnd_f, Asc_t, Asc_f] at ht hs
       subst ht
       refine s_idxD (κ := (K.int .i16)) (m := 1) rfl (hs.rd hr0) rfl (fun _ => rfl) gd2.1 gd2.2 had3_ rfl rfl rfl rfl rfl ?_
       show G _ _ _ _ [_,_,_,_,_,_,_,_,_,_,_,_,_,_,_,_,_,_,_,_,_,_,_,_,_,_] _
       exact hk _ _ ⟨O, (by simp only [upd, Nat.reduceBEq, Bool.true_or, Bool.false_or, p0_, p1_, q3_, cnd_t, cnd_f, Asc_t, Asc_f]), hs.cast (by first | rfl | simp only [List.take, List.drop, List.cons_append, List.nil_append, List.set_cons_zero, List.set_cons_succ, List.eraseIdx, upd, Nat.reduceBEq, Bool.true_or, Bool.false_or, p0_, p1_, q3_, cnd_t, cnd_f, Asc_t, Asc_f])⟩
      ·
       intro D t w hD hp hcl hI rest hk
       obtain ⟨O, ht, hs⟩ := hI
       have hp : AllDone D [2] := hp
       obtain ⟨p2_, _⟩ := hp
       obtain ⟨p0_, p1_, _⟩ := (show D 2 = true → AllDone D [0, 1] from hcl 2 (by decide)) p2_
       simp only [hD, p0_, p1_, p2_, cnd_t, cnd_f, Asc_t, Asc_f] at ht hs
       subst ht
       refine s_load1 rfl rfl (v := Value.int .i16 (rdL a1 x5 0)) rfl rfl (fun _ => rfl) (cellsAt_of (fkI .i16) 0 (hs.rd hr0) had3_ gd2.1 gd2.2) ?_
       show G _ _ _ _ [_,_,_,_,_,_,_,_,_,_,_,_,_,_,_,_,_,_,_,_,_,_,_,_,_,_] _
       exact hk _ _ ⟨O, (by simp only [upd, Nat.reduceBEq, Bool.true_or, Bool.false_or, p0_, p1_, p2_, cnd_t, cnd_f, Asc_t, Asc_f]), hs.cast (by first | rfl | simp only [List.take, List.drop, List.cons_append, List.nil_append, List.set_cons_zero, List.set_cons_succ, List.eraseIdx, upd, Nat.reduceBEq, Bool.true_or, Bool.false_or, p0_, p1_, p2_, cnd_t, cnd_f, Asc_t, Asc_f])⟩
      ·
       intro D t w hD hp hcl hI rest hk
       obtain ⟨O, ht, hs⟩ := hI
       have hp : AllDone D [] := hp
       have q6_ : D 6 = false := not_yet (show D 6 = true → AllDone D [4, 5] from hcl 6 (by decide)) 0 4 rfl hD
       have q7_ : D 7 = false := not_yet (show D 7 = true → AllDone D [6] from hcl 7 (by decide)) 0 6 rfl q6_
       simp only [hD, q6_, q7_, cnd_t, cnd_f, Asc_t, Asc_f] at ht hs
       subst ht
       refine g_op (v := v4) rfl rfl rfl ?_
       show G _ _ _ _ [_,_,_,_,_,_,_,_,_,_,_,_,_,_,_,_,_,_,_,_,_,_,_,_,_,_] _
       exact hk _ _ ⟨O, (by simp only [upd, Nat.reduceBEq, Bool.true_or, Bool.false_or, q6_, q7_, cnd_t, cnd_f, Asc_t, Asc_f]), hs.cast (by first | rfl | simp only [List.take, List.drop, List.cons_append, List.nil_append, List.set_cons_zero, List.set_cons_succ, List.eraseIdx, upd, Nat.reduceBEq, Bool.true_or, Bool.false_or, q6_, q7_, cnd_t, cnd_f, Asc_t, Asc_f])⟩
      ·
       intro D t w hD hp hcl hI rest hk
       obtain ⟨O, ht, hs⟩ := hI
       have hp : AllDone D [] := hp
       have q6_ : D 6 = false := not_yet (show D 6 = true → AllDone D [4, 5] from hcl 6 (by decide)) 1 5 rfl hD
       have q7_ : D 7 = false := not_yet (show D 7 = true → AllDone D [6] from hcl 7 (by decide)) 0 6 rfl q6_
       simp only [hD, q6_, q7_, cnd_t, cnd_f, Asc_t, Asc_f] at ht hs
       subst ht
       refine g_op (v := Value.int .i64 x5) rfl rfl rfl ?_
       show G _ _ _ _ [_,_,_,_,_,_,_,_,_,_,_,_,_,_,_,_,_,_,_,_,_,_,_,_,_,_] _
       exact hk _ _ ⟨O, (by simp only [upd, Nat.reduceBEq, Bool.true_or, Bool.false_or, q6_, q7_, cnd_t, cnd_f, Asc_t, Asc_f]), hs.cast (by first | rfl | simp only [List.take, List.drop, List.cons_append, List.nil_append, List.set_cons_zero, List.set_cons_succ, List.eraseIdx, upd, Nat.reduceBEq, Bool.true_or, Bool.false_or, q6_, q7_, cnd_t, cnd_f, Asc_t, Asc_f])⟩
      ·
       intro D t w hD hp hcl hI rest hk
       obtain ⟨O, ht, hs⟩ := hI
       have hp : AllDone D [4, 5] := hp
       obtain ⟨p4_, p5_, _⟩ := hp
       have q7_ : D 7 = false := not_yet (show D 7 = true → AllDone D [6] from hcl 7 (by decide)) 0 6 rfl hD
       simp only [hD, p4_, p5_, q7_, cnd_t, cnd_f, Asc_t, Asc_f] at ht hs
       subst ht
       refine s_idxD (κ := (K.int .i16)) (m := 1) rfl (hs.rd hr1) rfl (fun _ => rfl) gd4.1 gd4.2 had5_ rfl rfl rfl rfl rfl ?_
       show G _ _ _ _ [_,_,_,_,_,_,_,_,_,_,_,_,_,_,_,_,_,_,_,_,_,_,_,_,_,_] _
       exact hk _ _ ⟨O, (by simp only [upd, Nat.reduceBEq, Bool.true_or, Bool.false_or, p4_, p5_, q7_, cnd_t, cnd_f, Asc_t, Asc_f]), hs.cast (by first | rfl | simp only [List.take, List.drop, List.cons_append, List.nil_append, List.set_cons_zero, List.set_cons_succ, List.eraseIdx, upd, Nat.reduceBEq, Bool.true_or, Bool.false_or, p4_, p5_, q7_, cnd_t, cnd_f, Asc_t, Asc_f])⟩
      ·
       intro D t w hD hp hcl hI rest hk
       obtain ⟨O, ht, hs⟩ := hI
       have hp : AllDone D [6] := hp
       obtain ⟨p6_, _⟩ := hp
       obtain ⟨p4_, p5_, _⟩ := (show D 6 = true → AllDone D [4, 5] from hcl 6 (by decide)) p6_
       simp only [hD, p4_, p5_, p6_, cnd_t, cnd_f, Asc_t, Asc_f] at ht hs
       subst ht
       refine s_load1 rfl rfl (v := Value.int .i16 (rdL a3 x5 0)) rfl rfl (fun _ => rfl) (cellsAt_of (fkI .i16) 0 (hs.rd hr1) had5_ gd4.1 gd4.2) ?_
       show G _ _ _ _ [_,_,_,_,_,_,_,_,_,_,_,_,_,_,_,_,_,_,_,_,_,_,_,_,_,_] _
       exact hk _ _ ⟨O, (by simp only [upd, Nat.reduceBEq, Bool.true_or, Bool.false_or, p4_, p5_, p6_, cnd_t, cnd_f, Asc_t, Asc_f]), hs.cast (by first | rfl | simp only [List.take, List.drop, List.cons_append, List.nil_append, List.set_cons_zero, List.set_cons_succ, List.eraseIdx, upd, Nat.reduceBEq, Bool.true_or, Bool.false_or, p4_, p5_, p6_, cnd_t, cnd_f, Asc_t, Asc_f])⟩
      ·
       intro D t w rest hall hO1_ hI
       obtain ⟨O, ht, hs⟩ := hI
       have p0_ : D 0 = true := hall 0 (by decide) rfl
       have p1_ : D 1 = true := hall 1 (by decide) rfl
       have p2_ : D 2 = true := hall 2 (by decide) rfl
       have p3_ : D 3 = true := hall 3 (by decide) rfl
       have p4_ : D 4 = true := hall 4 (by decide) rfl
       have p5_ : D 5 = true := hall 5 (by decide) rfl
       have p6_ : D 6 = true := hall 6 (by decide) rfl
       have p7_ : D 7 = true := hall 7 (by decide) rfl
       simp only [p0_, p1_, p2_, p3_, p4_, p5_, p6_, p7_, cnd_t, cnd_f, Asc_t, Asc_f] at ht hs
       subst ht
       obtain ⟨rest, rfl, hO6_⟩ := ord_one (m := 255) hO1_ rfl 8 (m' := 511) (by decide +kernel) rfl
       clear hO1_
       refine g_op_b (B := (rdL a1 x5 0) != (rdL a3 x5 0)) rfl rfl rfl ?_ ?_
       ·
        intro hb
        rw [if_neg (b_bne_t hb)] at H
        show G _ _ _ _ [_,_,_,_,_,_,_,_,_,_,_,_,_,_,_,_,_,_,_,_,_,_,_,_,_,_] _
        obtain rfl := ord_end hO6_ rfl (by decide +kernel)
        refine g_ops_nil ?_
        refine g_cond_true rfl ?_
        refine g_seq ?_
        refine g_region ?_
        show G _ _ _ (.inRegion _ [0] :: _) _ _
        refine g_op (v := Value.bool false) rfl rfl rfl ?_
        show G _ _ _ _ [_,_,_,_,_,_,_,_,_,_,_,_,_,_,_,_,_,_,_,_,_,_,_,_,_,_] _
        refine g_ops_nil ?_
        obtain rfl := Option.some.inj H
        subst Hx1_
        have H := Option.some.inj Hr1_
        subst H
        refine g_ret Try.func13 (v := Value.bool false) (res1 rfl rfl) ?_
        have hs : St _ [] _ := St.take (Γ' := []) hs
        exact ⟨_, rfl, rfl, hs⟩
       ·
        intro hb
        rw [if_pos (b_bne_f hb)] at H
        show G _ _ _ _ [_,_,_,_,_,_,_,_,_,_,_,_,_,_,_,_,_,_,_,_,_,_,_,_,_,_] _
        obtain rfl := ord_end hO6_ rfl (by decide +kernel)
        refine g_ops_nil ?_
        refine g_cond_false rfl ?_
        refine g_skip ?_
        refine g_inBlock ?_
        refine g_region ?_
        show G _ _ _ (.inRegion _ [0, 1, 2] :: _) _ _
        refine g_op (v := Value.int .i64 x5) rfl rfl rfl ?_
        refine g_op (v := Value.int .i64 (i64w (x5 + 1))) rfl rfl rfl ?_
        show G _ _ _ _ [_,_,_,_,_,_,_,_,_,_,_,_,_,_,_,_,_,_,_,_,_,_,_,_,_,_] _
        refine g_op (v := Value.int .i64 (i64w (x5 + 1))) rfl rfl rfl ?_
        show G _ _ _ _ [_,_,_,_,_,_,_,_,_,_,_,_,_,_,_,_,_,_,_,_,_,_,_,_,_,_] _
        refine g_ops_nil ?_
        obtain rfl := Option.some.inj H
        have hs : St _ [] _ := St.take (Γ' := []) hs
        exact ih1_ _ _ ⟨i64w (x5 + 1), Hx1_, rfl, hs⟩
     ·
      intro hb
      rw [if_neg (b_dec_f hb)] at H
      show G _ _ _ _ [_,_,_,_,_,_,_,_,_,_,_,_,_,_,_,_,_,_,_,_,_,_,_,_,_,_] _
      refine g_ops_nil ?_
      refine g_cond_false rfl ?_
      obtain rfl := Option.some.inj H
      subst Hx1_
      have hs : St _ [] _ := St.take (Γ' := []) hs
      refine g_exit rfl ?_
      exact ha1_ _ _ ⟨Hr1_, rfl, hs⟩

end Go.Proofs.YtioefkcldfjobaaX
