/- Contracts, printed by gen.py. -/
import Derived.Test.YtcaokmnajnfpiaaXT
import Derived.Test.YtcaokmnajnfpiaaProg
import Derived.Test.YtcaokmnajnfpiaaXRowR
import Derived.Test.YtcaokmnajnfpiaaXSq
import Derived.Test.YtcaokmnajnfpiaaXSeg
import Derived.Test.YtcaokmnajnfpiaaXKey
import Derived.Test.YtcaokmnajnfpiaaXC5
import Derived.Test.YtcaokmnajnfpiaaXC10
import Derived.Test.YtcaokmnajnfpiaaXC11
import Derived.Test.YtcaokmnajnfpiaaXC12
namespace Go.Proofs.YtcaokmnajnfpiaaX
open Go Go.RowKit Go.Proofs
set_option linter.unusedVariables false
set_option linter.unusedSimpArgs false
/- function 20 spec_SameFerry -/
def spec_SameFerry.post (w0 : World) (r : Bool) (v : Value) (w : World) : Prop := v = Value.bool r ∧ St w0 [] w
set_option maxHeartbeats 8000000 in
set_option maxRecDepth 100000 in
theorem spec_SameFerry.calls {N : Nat} {a1 : S_impl_Ferry} {a4 : S_impl_Ferry} {v2 : Value} {v5 : Value} {w0 : World} {r : Bool} (hr3 : RdRow (K.int .u16) w0 v2 a1.f_Rules) (hr6 : RdRow (K.int .u16) w0 v5 a4.f_Rules) (H : spec_SameFerry.f N a1 a4 = some r) :
    Calls Try.prog 20 #[Value.agg (([Value.int .i8 a1.f_Things, Value.int .i8 a1.f_Boat, v2] : List Value)).toArray, Value.agg (([Value.int .i8 a4.f_Things, Value.int .i8 a4.f_Boat, v5] : List Value)).toArray] w0 fun e w => ∃ v, e = .returned v ∧ spec_SameFerry.post w0 r v w := by
  unfold spec_SameFerry.f at H
  have hs : St w0 [] w0 := St.refl w0
  refine calls_of_g (n := 4) Try.func20 rfl rfl ?_
  show G _ _ _ _ [_,_,_,_,_,_] _
  refine g_seq (g_region ?_)
  show G _ _ _ (.inRegion _ [0, 1, 2] :: _) _ _
  refine s_box hs rfl rfl (cs := (([Value.int .i8 a1.f_Things, Value.int .i8 a1.f_Boat, v2] : List Value))) rfl rfl ?_
  intro b7 w hs
  show G _ _ _ _ [_,_,_,_,_,_] _
  refine s_box hs rfl rfl (cs := (([Value.int .i8 a4.f_Things, Value.int .i8 a4.f_Boat, v5] : List Value))) rfl rfl ?_
  intro b9 w hs
  show G _ _ _ _ [_,_,_,_,_,_] _
  refine g_op (v := Value.bool false) rfl rfl rfl ?_
  show G _ _ _ _ [_,_,_,_,_,_] _
  refine g_ops_nil (g_seq (g_region ?_))
  show G _ _ _ (.inRegion _ [0, 1] :: _) _ _
  obtain ⟨r11, Hr11, H⟩ := bind_get H
  refine s_call (args := [Value.pointer (some ⟨b7, 0, none⟩), Value.pointer (some ⟨b9, 0, none⟩)]) rfl rfl (x_call rfl (callFunc_enter Try.func44 rfl rfl) rfl) (spec_l05Same.calls (a1 := (⟨a1.f_Things, a1.f_Boat, a1.f_Rules⟩ : S_impl_Ferry)) (a6 := (⟨a4.f_Things, a4.f_Boat, a4.f_Rules⟩ : S_impl_Ferry)) (hs.rd hr3) (hs.cells 1 rfl) (hs.rd hr6) (hs.cells 0 rfl) Hr11) ?_
  rintro _ w ⟨rfl, hs2⟩
  have hs : St _ [_,_] _ := hs.call hs2
  show G _ _ _ _ [_,_,_,_,_,_] _
  refine g_op (v := Value.bool r11) rfl rfl rfl ?_
  show G _ _ _ _ [_,_,_,_,_,_] _
  refine g_ops_nil ?_
  obtain rfl := Option.some.inj H
  refine g_ret Try.func20 (v := Value.bool r11) (res1 rfl rfl) ?_
  have hs : St _ [] _ := St.take (Γ' := [_,_]) hs
  exact ⟨_, rfl, rfl, hs⟩

/- a part of function 3 laws_FnCovers -/
def laws_FnCovers.post (w0 : World) (r : Bool) (v : Value) (w : World) : Prop := v = Value.bool r ∧ St w0 [] w
set_option maxHeartbeats 8000000 in
set_option maxRecDepth 100000 in
theorem laws_FnCovers.seg0 {N : Nat} {a1 : (List Int)} {a3 : (List Int)} {v2 : Value} {v4 : Value} {r6 : S_impl_Ferry} {r14 : (Int × Int)} {r12 : (Int × Int)} {b9 : Nat} {v7 : Value} {w0 : World} {r : Bool} (hr0 : RdRow (K.int .u8) w0 v2 a1) (hr1 : RdRow (K.int .u8) w0 v4 a3) :
    ∀ t w, (fun t w => laws_FnCovers.j2 N a3 r6 r14 r12 = some r ∧ Fr t (fun O => (O 0::v4::O 2::O 3::O 4::Value.pointer (some ⟨b9, 0, none⟩)::O 6::O 7::Value.int .i64 r12.1::O 9::O 10::O 11::Value.int .u16 r14.1::O 13::O 14::O 15::O 16::O 17::O 18::O 19::O 20::O 21::O 22::O 23::O 24::O 25::O 26::O 27::O 28::O 29::O 30::O 31::O 32::O 33::O 34::O 35::O 36::O 37::O 38::O 39::O 40::O 41::O 42::O 43::O 44::O 45::O 46::O 47::O 48::O 49::O 50::O 51::O 52::O 53::O 54::O 55::O 56::O 57::O 58::O 59::O 60::O 61::O 62::O 63::O 64::O 65::O 66::O 67::O 68::O 69::O 70::O 71::O 72::O 73::O 74::O 75::O 76::O 77::O 78::O 79::O 80::O 81::O 82::O 83::O 84::O 85::O 86::O 87::O 88::O 89::O 90::O 91::O 92::O 93::O 94::O 95::O 96::O 97::O 98::O 99::O 100::O 101::O 102::O 103::O 104::O 105::O 106::O 107::O 108::O 109::O 110::O 111::O 112::O 113::O 114::O 115::O 116::O 117::O 118::O 119::O 120::O 121::O 122::O 123::O 124::O 125::O 126::O 127::O 128::O 129::O 130::O 131::O 132::O 133::O 134::O 135::O 136::O 137::O 138::O 139::O 140::O 141::O 142::O 143::O 144::O 145::O 146::O 147::O 148::O 149::O 150::O 151::O 152::O 153::O 154::O 155::O 156::O 157::O 158::O 159::O 160::O 161::O 162::O 163::O 164::O 165::O 166::O 167::O 168::O 169::O 170::O 171::O 172::O 173::O 174::O 175::O 176::O 177::O 178::O 179::O 180::O 181::O 182::O 183::O 184::O 185::O 186::O 187::O 188::O 189::O 190::O 191::O 192::O 193::O 194::O 195::O 196::O 197::O 198::O 199::O 200::O 201::O 202::O 203::O 204::O 205::O 206::O 207::O 208::O 209::O 210::O 211::O 212::O 213::O 214::O 215::O 216::O 217::O 218::O 219::O 220::O 221::O 222::O 223::O 224::O 225::O 226::O 227::O 228::O 229::O 230::O 231::O 232::O 233::O 234::O 235::O 236::O 237::O 238::O 239::O 240::O 241::O 242::O 243::O 244::O 245::O 246::O 247::O 248::O 249::O 250::O 251::O 252::O 253::O 254::O 255::O 256::O 257::O 258::O 259::O 260::O 261::[] : List Value)) ∧ St w0 [Cells b9 (([Value.int .i8 r6.f_Things, Value.int .i8 r6.f_Boat, v7] : List Value)) 27, Row 31 (K.int .u16) v7 r6.f_Rules] w) t w → G Try.prog 3 (fun e w => ∃ v, e = .returned v ∧ laws_FnCovers.post w0 r v w) [.code (Code.at_ (Try.f3.body.getD .skip) [1, 1, 1, 1, 1, 1, 1, 1, 1, 1, 1, 1, 1, 1, 1, 1, 1, 1])] t w := by
  rintro t w ⟨H, hf, hs⟩
  obtain ⟨O, rfl⟩ := hf.open
  try dsimp only
  unfold laws_FnCovers.j2 at H
  refine g_seq (g_region ?_)
  show G _ _ _ (.inRegion _ [0, 1, 2, 3, 4, 5] :: _) _ _
  refine g_op (v := v4) rfl rfl rfl (g_d rfl ?_)
  refine g_op (v := Value.pointer (some ⟨b9, 0, none⟩)) rfl rfl rfl (g_d rfl ?_)
  refine s_load1 rfl rfl (v := Value.int .i8 r6.f_Things) rfl rfl (fun _ => rfl) (cells_load (hs.cells 0 rfl) 0 1 rfl) (g_d rfl ?_)
  try dsimp only [set0,setS]
  refine g_op (v := Value.int .i64 (i64w r6.f_Things)) rfl rfl rfl (g_d rfl ?_)
  obtain ⟨r46, Hr46, H⟩ := bind_get H
  refine s_call (args := [v4, Value.int .i64 0, Value.int .i64 (i64w r6.f_Things)]) rfl rfl (x_call rfl (callFunc_enter Try.func15 rfl rfl) rfl) (laws_a2At.calls (a1 := a3) (a3 := 0) (a4 := i64w r6.f_Things) (hs.rd hr1) Hr46) ?_
  rintro _ w ⟨rfl, hs2⟩
  have hs : St _ [_,_] _ := hs.call hs2
  refine g_d rfl ?_
  try dsimp only [set0,setS]
  refine g_op (v := Value.int .i64 r46) rfl rfl rfl (g_d rfl ?_)
  try dsimp only [set0,setS]
  refine g_ops_nil (g_seq (g_region ?_))
  show G _ _ _ (.inRegion _ [0, 1, 2, 3, 4, 5, 6, 7, 8] :: _) _ _
  refine s_loadA rfl rfl (es := (([Value.int .i8 r6.f_Things, Value.int .i8 r6.f_Boat, v7] : List Value))) rfl rfl (fun _ => rfl) (n := 3) (fun _ => rfl) rfl (cells_all (hs.cells 0 rfl)) (g_d rfl ?_)
  try dsimp only [set0,setS]
  refine g_op (v := Value.int .i64 r46) rfl rfl rfl (g_d rfl ?_)
  obtain ⟨r47, Hr47, H⟩ := bind_get H
  refine s_call (args := [Value.agg (([Value.int .i8 r6.f_Things, Value.int .i8 r6.f_Boat, v7] : List Value)).toArray, Value.int .i64 r46]) rfl rfl (x_call rfl (callFunc_enter Try.func16 rfl rfl) rfl) (impl_WithoutThing.calls (a1 := (⟨r6.f_Things, r6.f_Boat, r6.f_Rules⟩ : S_impl_Ferry)) (a4 := r46) (hs.row 1 rfl) Hr47) ?_
  rintro _ w ⟨v48, rfl, hs2⟩
  have hs : St _ [_,_,_] _ := hs.call hs2
  refine g_d rfl ?_
  try dsimp only [set0,setS]
  refine g_op (v := Value.tuple #[Value.agg (([Value.int .i8 r47.1.f_Things, Value.int .i8 r47.1.f_Boat, v48] : List Value)).toArray, Value.int .i64 r47.2]) rfl rfl rfl (g_d rfl ?_)
  refine g_op (v := Value.agg (([Value.int .i8 r47.1.f_Things, Value.int .i8 r47.1.f_Boat, v48] : List Value)).toArray) rfl rfl rfl (g_d rfl ?_)
  refine g_op (v := Value.int .i64 r47.2) rfl rfl rfl (g_d rfl ?_)
  refine s_alloc hs rfl rfl (z := (Value.agg #[Value.int .i8 0, Value.int .i8 0, Value.slice none 0 0])) (cs := (([Value.int .i8 0, Value.int .i8 0, Value.slice none 0 0] : List Value))) rfl (fun _ => rfl) rfl ?_
  intro b50 w hs
  refine g_d rfl ?_
  try dsimp only [set0,setS]
  refine s_storeAll (n := 3) hs rfl rfl rfl (vs := (([Value.int .i8 r47.1.f_Things, Value.int .i8 r47.1.f_Boat, v48] : List Value))) rfl rfl rfl (fun _ => rfl) rfl (by intro v hv; simp only [List.mem_append, List.mem_cons, List.not_mem_nil, or_false] at hv; repeat (first | (subst hv; first | rfl | exact slOne (hs.row 1 rfl)) | (rcases hv with hv | hv))) ?_
  intro w hs
  refine g_n rfl ?_
  refine g_op (v := Value.int .i64 r47.2) rfl rfl rfl (g_d rfl ?_)
  try dsimp only [set0,setS]
  refine g_ops_nil (g_seq (g_region ?_))
  show G _ _ _ (.inRegion _ [0, 1, 2, 3, 4, 5, 6, 7, 8] :: _) _ _
  refine s_loadA rfl rfl (es := (([Value.int .i8 r6.f_Things, Value.int .i8 r6.f_Boat, v7] : List Value))) rfl rfl (fun _ => rfl) (n := 3) (fun _ => rfl) rfl (cells_all (hs.cells 2 rfl)) (g_d rfl ?_)
  try dsimp only [set0,setS]
  refine g_op (v := Value.int .i64 r46) rfl rfl rfl (g_d rfl ?_)
  obtain ⟨r52, Hr52, H⟩ := bind_get H
  refine s_call (args := [Value.agg (([Value.int .i8 r6.f_Things, Value.int .i8 r6.f_Boat, v7] : List Value)).toArray, Value.int .i64 r46]) rfl rfl (x_call rfl (callFunc_enter Try.func17 rfl rfl) rfl) (spec_WithoutThing.calls (a1 := (⟨r6.f_Things, r6.f_Boat, r6.f_Rules⟩ : S_impl_Ferry)) (a4 := r46) (hs.row 3 rfl) Hr52) ?_
  rintro _ w ⟨v53, rfl, hs2⟩
  have hs : St _ [_,_,_,_,_] _ := hs.call hs2
  refine g_d rfl ?_
  try dsimp only [set0,setS]
  refine g_op (v := Value.tuple #[Value.agg (([Value.int .i8 r52.1.f_Things, Value.int .i8 r52.1.f_Boat, v53] : List Value)).toArray, Value.int .i64 r52.2]) rfl rfl rfl (g_d rfl ?_)
  refine g_op (v := Value.agg (([Value.int .i8 r52.1.f_Things, Value.int .i8 r52.1.f_Boat, v53] : List Value)).toArray) rfl rfl rfl (g_d rfl ?_)
  refine g_op (v := Value.int .i64 r52.2) rfl rfl rfl (g_d rfl ?_)
  refine s_alloc hs rfl rfl (z := (Value.agg #[Value.int .i8 0, Value.int .i8 0, Value.slice none 0 0])) (cs := (([Value.int .i8 0, Value.int .i8 0, Value.slice none 0 0] : List Value))) rfl (fun _ => rfl) rfl ?_
  intro b55 w hs
  refine g_d rfl ?_
  try dsimp only [set0,setS]
  refine s_storeAll (n := 3) hs rfl rfl rfl (vs := (([Value.int .i8 r52.1.f_Things, Value.int .i8 r52.1.f_Boat, v53] : List Value))) rfl rfl rfl (fun _ => rfl) rfl (by intro v hv; simp only [List.mem_append, List.mem_cons, List.not_mem_nil, or_false] at hv; repeat (first | (subst hv; first | rfl | exact slOne (hs.row 1 rfl)) | (rcases hv with hv | hv))) ?_
  intro w hs
  refine g_n rfl ?_
  refine g_op (v := Value.int .i64 r52.2) rfl rfl rfl (g_d rfl ?_)
  try dsimp only [set0,setS]
  refine g_ops_nil (g_seq (g_region ?_))
  show G _ _ _ (.inRegion _ [0, 1, 2, 3, 4, 5, 6] :: _) _ _
  refine s_loadA rfl rfl (es := (([Value.int .i8 r52.1.f_Things, Value.int .i8 r52.1.f_Boat, v53] : List Value))) rfl rfl (fun _ => rfl) (n := 3) (fun _ => rfl) rfl (cells_all (hs.cells 0 rfl)) (g_d rfl ?_)
  try dsimp only [set0,setS]
  obtain ⟨r57, Hr57, H⟩ := bind_get H
  refine s_call (args := [Value.agg (([Value.int .i8 r52.1.f_Things, Value.int .i8 r52.1.f_Boat, v53] : List Value)).toArray]) rfl rfl (x_call rfl (callFunc_enter Try.func6 rfl rfl) rfl) (impl_LeastBoat.calls (a1 := (⟨r52.1.f_Things, r52.1.f_Boat, r52.1.f_Rules⟩ : S_impl_Ferry)) (hs.row 1 rfl) Hr57) ?_
  rintro _ w ⟨rfl, hs2⟩
  have hs : St _ [_,_,_,_,_,_] _ := hs.call hs2
  refine g_d rfl ?_
  try dsimp only [set0,setS]
  refine g_op (v := Value.tuple #[Value.int .i64 r57.1, Value.int .i64 r57.2]) rfl rfl rfl (g_d rfl ?_)
  refine g_op (v := Value.int .i64 r57.1) rfl rfl rfl (g_d rfl ?_)
  refine g_op (v := Value.int .i64 r57.2) rfl rfl rfl (g_d rfl ?_)
  refine g_op (v := Value.int .i64 r57.1) rfl rfl rfl (g_d rfl ?_)
  try dsimp only [set0,setS]
  refine g_op (v := Value.int .i64 r57.2) rfl rfl rfl (g_d rfl ?_)
  try dsimp only [set0,setS]
  refine g_ops_nil (g_seq (g_region ?_))
  show G _ _ _ (.inRegion _ [0, 1, 2, 3, 4, 5, 6, 7] :: _) _ _
  refine g_op (v := Value.int .u16 r14.1) rfl rfl rfl (g_d rfl ?_)
  obtain ⟨r58, Hr58, H⟩ := bind_get H
  refine s_call (args := [Value.int .u16 r14.1]) rfl rfl (x_call rfl (callFunc_enter Try.func19 rfl rfl) rfl) (impl_ThingsText.calls (a1 := r14.1) Hr58) ?_
  rintro _ w ⟨rfl, hs2⟩
  have hs : St _ [_,_,_,_,_,_] _ := hs.call hs2
  refine g_d rfl ?_
  try dsimp only [set0,setS]
  obtain ⟨r59, Hr59, H⟩ := bind_get H
  refine s_call (args := [Value.string r58]) rfl rfl (x_call rfl (callFunc_enter Try.func18 rfl rfl) rfl) (impl_ReadThings.calls (a1 := r58) Hr59) ?_
  rintro _ w ⟨rfl, hs2⟩
  have hs : St _ [_,_,_,_,_,_] _ := hs.call hs2
  refine g_d rfl ?_
  try dsimp only [set0,setS]
  refine g_op (v := Value.tuple #[Value.int .u16 r59.1, Value.int .i64 r59.2]) rfl rfl rfl (g_d rfl ?_)
  refine g_op (v := Value.int .u16 r59.1) rfl rfl rfl (g_d rfl ?_)
  refine g_op (v := Value.int .i64 r59.2) rfl rfl rfl (g_d rfl ?_)
  refine g_op (v := Value.int .u16 r59.1) rfl rfl rfl (g_d rfl ?_)
  try dsimp only [set0,setS]
  refine g_op (v := Value.int .i64 r59.2) rfl rfl rfl (g_d rfl ?_)
  try dsimp only [set0,setS]
  refine g_ops_nil (g_seq (g_region ?_))
  show G _ _ _ (.inRegion _ [0, 1, 2, 3, 4, 5, 6, 7, 8, 9, 10, 11, 12, 13, 14, 15, 16, 17, 18, 19, 20, 21, 22, 23, 24, 25, 26, 27, 28, 29, 30] :: _) _ _
  refine g_op (v := Value.int .i64 r47.2) rfl rfl rfl (g_d rfl ?_)
  refine g_op (v := Value.int .i64 r52.2) rfl rfl rfl (g_d rfl ?_)
  refine g_op_b (B := r47.2 == r52.2) rfl rfl rfl ?_ ?_
  ·
   intro hb
   rw [if_pos (b_beq_t hb)] at H
   refine g_d rfl ?_
   try dsimp only [set0,setS]
   refine g_op (v := Value.bool true) rfl rfl rfl (g_d rfl ?_)
   refine g_op (v := Value.int .i64 r47.2) rfl rfl rfl (g_d rfl ?_)
   refine g_op (v := Value.bool (r47.2 == 0)) rfl rfl rfl (g_d rfl ?_)
   try dsimp only [set0,setS]
   refine g_op_b (B := r47.2 == 0) rfl rfl rfl ?_ ?_
   ·
    intro hb
    rw [if_pos (b_beq_t hb)] at H
    refine g_d rfl ?_
    try dsimp only [set0,setS]
    refine g_op (v := Value.bool true) rfl rfl rfl (g_d rfl ?_)
    refine s_loadA rfl rfl (es := (([Value.int .i8 r47.1.f_Things, Value.int .i8 r47.1.f_Boat, v48] : List Value))) rfl rfl (fun _ => rfl) (n := 3) (fun _ => rfl) rfl (cells_all (hs.cells 2 rfl)) (g_d rfl ?_)
    try dsimp only [set0,setS]
    refine s_loadA rfl rfl (es := (([Value.int .i8 r52.1.f_Things, Value.int .i8 r52.1.f_Boat, v53] : List Value))) rfl rfl (fun _ => rfl) (n := 3) (fun _ => rfl) rfl (cells_all (hs.cells 0 rfl)) (g_d rfl ?_)
    try dsimp only [set0,setS]
    obtain ⟨r60, Hr60, H⟩ := bind_get H
    refine s_call (args := [Value.agg (([Value.int .i8 r47.1.f_Things, Value.int .i8 r47.1.f_Boat, v48] : List Value)).toArray, Value.agg (([Value.int .i8 r52.1.f_Things, Value.int .i8 r52.1.f_Boat, v53] : List Value)).toArray]) rfl rfl (x_call rfl (callFunc_enter Try.func20 rfl rfl) rfl) (spec_SameFerry.calls (a1 := (⟨r47.1.f_Things, r47.1.f_Boat, r47.1.f_Rules⟩ : S_impl_Ferry)) (a4 := (⟨r52.1.f_Things, r52.1.f_Boat, r52.1.f_Rules⟩ : S_impl_Ferry)) (hs.row 3 rfl) (hs.row 1 rfl) Hr60) ?_
    rintro _ w ⟨rfl, hs2⟩
    have hs : St _ [_,_,_,_,_,_] _ := hs.call hs2
    refine g_d rfl ?_
    try dsimp only [set0,setS]
    refine g_op_b (B := r60) rfl rfl rfl ?_ ?_
    ·
     intro hb
     rw [if_pos (b_var_t hb)] at H
     refine g_d rfl ?_
     try dsimp only [set0,setS]
     refine g_op (v := Value.bool true) rfl rfl rfl (g_d rfl ?_)
     refine g_op (v := Value.int .i64 r57.2) rfl rfl rfl (g_d rfl ?_)
     refine g_op (v := Value.bool (r57.2 == 0)) rfl rfl rfl (g_d rfl ?_)
     try dsimp only [set0,setS]
     refine g_op_b (B := r57.2 == 0) rfl rfl rfl ?_ ?_
     ·
      intro hb
      rw [if_pos (b_beq_t hb)] at H
      refine g_d rfl ?_
      try dsimp only [set0,setS]
      refine g_op (v := Value.bool true) rfl rfl rfl (g_d rfl ?_)
      refine g_op (v := Value.int .i64 r57.1) rfl rfl rfl (g_d rfl ?_)
      refine g_op (v := Value.int .i64 r12.1) rfl rfl rfl (g_d rfl ?_)
      refine g_op (v := Value.bool (decide (r57.1 ≤ r12.1))) rfl rfl rfl (g_d rfl ?_)
      try dsimp only [set0,setS]
      refine g_op_b (B := decide (r57.1 ≤ r12.1)) rfl rfl rfl ?_ ?_
      ·
       intro hb
       rw [if_pos (b_dec_t hb)] at H
       refine g_d rfl ?_
       try dsimp only [set0,setS]
       refine g_op (v := Value.bool true) rfl rfl rfl (g_d rfl ?_)
       refine g_op (v := Value.int .i64 r59.2) rfl rfl rfl (g_d rfl ?_)
       refine g_op (v := Value.bool (r59.2 == 0)) rfl rfl rfl (g_d rfl ?_)
       try dsimp only [set0,setS]
       refine g_op_b (B := r59.2 == 0) rfl rfl rfl ?_ ?_
       ·
        intro hb
        rw [if_pos (b_beq_t hb)] at H
        refine g_d rfl ?_
        try dsimp only [set0,setS]
        refine g_op (v := Value.bool true) rfl rfl rfl (g_d rfl ?_)
        refine g_op (v := Value.int .u16 r59.1) rfl rfl rfl (g_d rfl ?_)
        refine g_op (v := Value.int .u16 r14.1) rfl rfl rfl (g_d rfl ?_)
        refine g_op (v := Value.bool (r59.1 == r14.1)) rfl rfl rfl (g_d rfl ?_)
        try dsimp only [set0,setS]
        refine g_op (v := Value.bool (r59.1 == r14.1)) rfl rfl rfl (g_d rfl ?_)
        try dsimp only [set0,setS]
        refine g_op (v := Value.bool (r59.1 == r14.1)) rfl rfl rfl (g_d rfl ?_)
        try dsimp only [set0,setS]
        refine g_ops_nil ?_
        obtain rfl := Option.some.inj H
        refine g_ret Try.func3 (v := Value.bool (r59.1 == r14.1)) (res1 rfl rfl) ?_
        have hs : St _ [] _ := St.take (Γ' := [_,_,_,_,_,_]) hs
        exact ⟨_, rfl, rfl, hs⟩
       intro hb
       rw [if_neg (b_beq_f hb)] at H
       refine g_d rfl ?_
       try dsimp only [set0,setS]
       refine g_op (v := Value.bool false) rfl rfl rfl (g_d rfl (g_op_not rfl rfl (g_d rfl (g_op_not rfl rfl (g_d rfl (g_op_not rfl rfl (g_d rfl ?_)))))))
       try dsimp only [set0,setS]
       refine g_op (v := Value.bool false) rfl rfl rfl (g_d rfl ?_)
       try dsimp only [set0,setS]
       refine g_op (v := Value.bool false) rfl rfl rfl (g_d rfl ?_)
       try dsimp only [set0,setS]
       refine g_ops_nil ?_
       obtain rfl := Option.some.inj H
       refine g_ret Try.func3 (v := Value.bool false) (res1 rfl rfl) ?_
       have hs : St _ [] _ := St.take (Γ' := [_,_,_,_,_,_]) hs
       exact ⟨_, rfl, rfl, hs⟩
      intro hb
      rw [if_neg (b_dec_f hb)] at H
      refine g_d rfl ?_
      try dsimp only [set0,setS]
      refine g_op (v := Value.bool false) rfl rfl rfl (g_d rfl (g_op_not rfl rfl (g_d rfl (g_op_not rfl rfl (g_d rfl ?_)))))
      try dsimp only [set0,setS]
      refine g_op (v := Value.bool false) rfl rfl rfl (g_d rfl ?_)
      try dsimp only [set0,setS]
      refine g_op (v := Value.bool false) rfl rfl rfl (g_d rfl (g_op_not rfl rfl (g_d rfl (g_op_not rfl rfl (g_d rfl (g_op_not rfl rfl (g_d rfl ?_)))))))
      try dsimp only [set0,setS]
      refine g_op (v := Value.bool false) rfl rfl rfl (g_d rfl ?_)
      try dsimp only [set0,setS]
      refine g_op (v := Value.bool false) rfl rfl rfl (g_d rfl ?_)
      try dsimp only [set0,setS]
      refine g_ops_nil ?_
      obtain rfl := Option.some.inj H
      refine g_ret Try.func3 (v := Value.bool false) (res1 rfl rfl) ?_
      have hs : St _ [] _ := St.take (Γ' := [_,_,_,_,_,_]) hs
      exact ⟨_, rfl, rfl, hs⟩
     intro hb
     rw [if_neg (b_beq_f hb)] at H
     refine g_d rfl ?_
     try dsimp only [set0,setS]
     refine g_op (v := Value.bool false) rfl rfl rfl (g_d rfl (g_op_not rfl rfl (g_d rfl (g_op_not rfl rfl (g_d rfl (g_op_not rfl rfl (g_d rfl ?_)))))))
     try dsimp only [set0,setS]
     refine g_op (v := Value.bool false) rfl rfl rfl (g_d rfl ?_)
     try dsimp only [set0,setS]
     refine g_op (v := Value.bool false) rfl rfl rfl (g_d rfl (g_op_not rfl rfl (g_d rfl (g_op_not rfl rfl (g_d rfl ?_)))))
     try dsimp only [set0,setS]
     refine g_op (v := Value.bool false) rfl rfl rfl (g_d rfl ?_)
     try dsimp only [set0,setS]
     refine g_op (v := Value.bool false) rfl rfl rfl (g_d rfl (g_op_not rfl rfl (g_d rfl (g_op_not rfl rfl (g_d rfl (g_op_not rfl rfl (g_d rfl ?_)))))))
     try dsimp only [set0,setS]
     refine g_op (v := Value.bool false) rfl rfl rfl (g_d rfl ?_)
     try dsimp only [set0,setS]
     refine g_op (v := Value.bool false) rfl rfl rfl (g_d rfl ?_)
     try dsimp only [set0,setS]
     refine g_ops_nil ?_
     obtain rfl := Option.some.inj H
     refine g_ret Try.func3 (v := Value.bool false) (res1 rfl rfl) ?_
     have hs : St _ [] _ := St.take (Γ' := [_,_,_,_,_,_]) hs
     exact ⟨_, rfl, rfl, hs⟩
    intro hb
    rw [if_neg (b_var_f hb)] at H
    refine g_d rfl ?_
    try dsimp only [set0,setS]
    refine g_op (v := Value.bool false) rfl rfl rfl (g_d rfl (g_op_not rfl rfl (g_d rfl (g_op_not rfl rfl (g_d rfl ?_)))))
    try dsimp only [set0,setS]
    refine g_op (v := Value.bool false) rfl rfl rfl (g_d rfl ?_)
    try dsimp only [set0,setS]
    refine g_op (v := Value.bool false) rfl rfl rfl (g_d rfl (g_op_not rfl rfl (g_d rfl (g_op_not rfl rfl (g_d rfl (g_op_not rfl rfl (g_d rfl ?_)))))))
    try dsimp only [set0,setS]
    refine g_op (v := Value.bool false) rfl rfl rfl (g_d rfl ?_)
    try dsimp only [set0,setS]
    refine g_op (v := Value.bool false) rfl rfl rfl (g_d rfl (g_op_not rfl rfl (g_d rfl (g_op_not rfl rfl (g_d rfl ?_)))))
    try dsimp only [set0,setS]
    refine g_op (v := Value.bool false) rfl rfl rfl (g_d rfl ?_)
    try dsimp only [set0,setS]
    refine g_op (v := Value.bool false) rfl rfl rfl (g_d rfl (g_op_not rfl rfl (g_d rfl (g_op_not rfl rfl (g_d rfl (g_op_not rfl rfl (g_d rfl ?_)))))))
    try dsimp only [set0,setS]
    refine g_op (v := Value.bool false) rfl rfl rfl (g_d rfl ?_)
    try dsimp only [set0,setS]
    refine g_op (v := Value.bool false) rfl rfl rfl (g_d rfl ?_)
    try dsimp only [set0,setS]
    refine g_ops_nil ?_
    obtain rfl := Option.some.inj H
    refine g_ret Try.func3 (v := Value.bool false) (res1 rfl rfl) ?_
    have hs : St _ [] _ := St.take (Γ' := [_,_,_,_,_,_]) hs
    exact ⟨_, rfl, rfl, hs⟩
   intro hb
   rw [if_neg (b_beq_f hb)] at H
   refine g_d rfl ?_
   try dsimp only [set0,setS]
   refine g_op (v := Value.bool false) rfl rfl rfl (g_d rfl (g_op_not rfl rfl (g_d rfl ?_)))
   try dsimp only [set0,setS]
   refine g_op_not rfl rfl (g_d rfl ?_)
   try dsimp only [set0,setS]
   refine g_op_not rfl rfl (g_d rfl ?_)
   try dsimp only [set0,setS]
   refine g_op (v := Value.bool false) rfl rfl rfl (g_d rfl ?_)
   try dsimp only [set0,setS]
   refine g_op (v := Value.bool false) rfl rfl rfl (g_d rfl (g_op_not rfl rfl (g_d rfl (g_op_not rfl rfl (g_d rfl ?_)))))
   try dsimp only [set0,setS]
   refine g_op (v := Value.bool false) rfl rfl rfl (g_d rfl ?_)
   try dsimp only [set0,setS]
   refine g_op (v := Value.bool false) rfl rfl rfl (g_d rfl (g_op_not rfl rfl (g_d rfl (g_op_not rfl rfl (g_d rfl (g_op_not rfl rfl (g_d rfl ?_)))))))
   try dsimp only [set0,setS]
   refine g_op (v := Value.bool false) rfl rfl rfl (g_d rfl ?_)
   try dsimp only [set0,setS]
   refine g_op (v := Value.bool false) rfl rfl rfl (g_d rfl (g_op_not rfl rfl (g_d rfl (g_op_not rfl rfl (g_d rfl ?_)))))
   try dsimp only [set0,setS]
   refine g_op (v := Value.bool false) rfl rfl rfl (g_d rfl ?_)
   try dsimp only [set0,setS]
   refine g_op (v := Value.bool false) rfl rfl rfl (g_d rfl (g_op_not rfl rfl (g_d rfl (g_op_not rfl rfl (g_d rfl (g_op_not rfl rfl (g_d rfl ?_)))))))
   try dsimp only [set0,setS]
   refine g_op (v := Value.bool false) rfl rfl rfl (g_d rfl ?_)
   try dsimp only [set0,setS]
   refine g_op (v := Value.bool false) rfl rfl rfl (g_d rfl ?_)
   try dsimp only [set0,setS]
   refine g_ops_nil ?_
   obtain rfl := Option.some.inj H
   refine g_ret Try.func3 (v := Value.bool false) (res1 rfl rfl) ?_
   have hs : St _ [] _ := St.take (Γ' := [_,_,_,_,_,_]) hs
   exact ⟨_, rfl, rfl, hs⟩
  intro hb
  rw [if_neg (b_beq_f hb)] at H
  refine g_d rfl ?_
  try dsimp only [set0,setS]
  refine g_op (v := Value.bool false) rfl rfl rfl (g_d rfl (g_op_not rfl rfl (g_d rfl (g_op_not rfl rfl (g_d rfl ?_)))))
  try dsimp only [set0,setS]
  refine g_op (v := Value.bool false) rfl rfl rfl (g_d rfl ?_)
  try dsimp only [set0,setS]
  refine g_op (v := Value.bool false) rfl rfl rfl (g_d rfl (g_op_not rfl rfl (g_d rfl ?_)))
  try dsimp only [set0,setS]
  refine g_op_not rfl rfl (g_d rfl ?_)
  try dsimp only [set0,setS]
  refine g_op_not rfl rfl (g_d rfl ?_)
  try dsimp only [set0,setS]
  refine g_op (v := Value.bool false) rfl rfl rfl (g_d rfl ?_)
  try dsimp only [set0,setS]
  refine g_op (v := Value.bool false) rfl rfl rfl (g_d rfl (g_op_not rfl rfl (g_d rfl (g_op_not rfl rfl (g_d rfl ?_)))))
  try dsimp only [set0,setS]
  refine g_op (v := Value.bool false) rfl rfl rfl (g_d rfl ?_)
  try dsimp only [set0,setS]
  refine g_op (v := Value.bool false) rfl rfl rfl (g_d rfl (g_op_not rfl rfl (g_d rfl (g_op_not rfl rfl (g_d rfl (g_op_not rfl rfl (g_d rfl ?_)))))))
  try dsimp only [set0,setS]
  refine g_op (v := Value.bool false) rfl rfl rfl (g_d rfl ?_)
  try dsimp only [set0,setS]
  refine g_op (v := Value.bool false) rfl rfl rfl (g_d rfl (g_op_not rfl rfl (g_d rfl (g_op_not rfl rfl (g_d rfl ?_)))))
  try dsimp only [set0,setS]
  refine g_op (v := Value.bool false) rfl rfl rfl (g_d rfl ?_)
  try dsimp only [set0,setS]
  refine g_op (v := Value.bool false) rfl rfl rfl (g_d rfl (g_op_not rfl rfl (g_d rfl (g_op_not rfl rfl (g_d rfl (g_op_not rfl rfl (g_d rfl ?_)))))))
  try dsimp only [set0,setS]
  refine g_op (v := Value.bool false) rfl rfl rfl (g_d rfl ?_)
  try dsimp only [set0,setS]
  refine g_op (v := Value.bool false) rfl rfl rfl (g_d rfl ?_)
  try dsimp only [set0,setS]
  refine g_ops_nil ?_
  obtain rfl := Option.some.inj H
  refine g_ret Try.func3 (v := Value.bool false) (res1 rfl rfl) ?_
  have hs : St _ [] _ := St.take (Γ' := [_,_,_,_,_,_]) hs
  exact ⟨_, rfl, rfl, hs⟩

/- a part of function 3 laws_FnCovers -/
set_option maxHeartbeats 8000000 in
set_option maxRecDepth 100000 in
theorem laws_FnCovers.seg1 {N : Nat} {a1 : (List Int)} {a3 : (List Int)} {v2 : Value} {v4 : Value} {r6 : S_impl_Ferry} {r12 : (Int × Int)} {r14 : (Int × Int)} {b9 : Nat} {v7 : Value} {w0 : World} {r : Bool} (hr0 : RdRow (K.int .u8) w0 v2 a1) (hr1 : RdRow (K.int .u8) w0 v4 a3) :
    ∀ t w, (fun t w => ∃ x33 : Int, laws_FnCovers.a0 N r6 r12 a3 r14 x33 = some r ∧ Fr t (fun O => (O 0::v4::O 2::O 3::O 4::Value.pointer (some ⟨b9, 0, none⟩)::O 6::O 7::Value.int .i64 r12.1::O 9::O 10::O 11::Value.int .u16 r14.1::O 13::O 14::O 15::Value.int .i64 x33::O 17::O 18::O 19::O 20::O 21::O 22::O 23::O 24::O 25::O 26::O 27::O 28::O 29::O 30::O 31::O 32::O 33::O 34::O 35::O 36::O 37::O 38::O 39::O 40::O 41::O 42::O 43::O 44::O 45::O 46::O 47::O 48::O 49::O 50::O 51::O 52::O 53::O 54::O 55::O 56::O 57::O 58::O 59::O 60::O 61::O 62::O 63::O 64::O 65::O 66::O 67::O 68::O 69::O 70::O 71::O 72::O 73::O 74::O 75::O 76::O 77::O 78::O 79::O 80::O 81::O 82::O 83::O 84::O 85::O 86::O 87::O 88::O 89::O 90::O 91::O 92::O 93::O 94::O 95::O 96::O 97::O 98::O 99::O 100::O 101::O 102::O 103::O 104::O 105::O 106::O 107::O 108::O 109::O 110::O 111::O 112::O 113::O 114::O 115::O 116::O 117::O 118::O 119::O 120::O 121::O 122::O 123::O 124::O 125::O 126::O 127::O 128::O 129::O 130::O 131::O 132::O 133::O 134::O 135::O 136::O 137::O 138::O 139::O 140::O 141::O 142::O 143::O 144::O 145::O 146::O 147::O 148::O 149::O 150::O 151::O 152::O 153::O 154::O 155::O 156::O 157::O 158::O 159::O 160::O 161::O 162::O 163::O 164::O 165::O 166::O 167::O 168::O 169::O 170::O 171::O 172::O 173::O 174::O 175::O 176::O 177::O 178::O 179::O 180::O 181::O 182::O 183::O 184::O 185::O 186::O 187::O 188::O 189::O 190::O 191::O 192::O 193::O 194::O 195::O 196::O 197::O 198::O 199::O 200::O 201::O 202::O 203::O 204::O 205::O 206::O 207::O 208::O 209::O 210::O 211::O 212::O 213::O 214::O 215::O 216::O 217::O 218::O 219::O 220::O 221::O 222::O 223::O 224::O 225::O 226::O 227::O 228::O 229::O 230::O 231::O 232::O 233::O 234::O 235::O 236::O 237::O 238::O 239::O 240::O 241::O 242::O 243::O 244::O 245::O 246::O 247::O 248::O 249::O 250::O 251::O 252::O 253::O 254::O 255::O 256::O 257::O 258::O 259::O 260::O 261::[] : List Value)) ∧ St w0 [Cells b9 (([Value.int .i8 r6.f_Things, Value.int .i8 r6.f_Boat, v7] : List Value)) 27, Row 31 (K.int .u16) v7 r6.f_Rules] w) t w → G Try.prog 3 (fun e w => ∃ v, e = .returned v ∧ laws_FnCovers.post w0 r v w) [.code (Code.at_ (Try.f3.body.getD .skip) [1, 1, 1, 1, 1, 1, 1, 1, 1, 1, 1, 1])] t w := by
  rintro t w ⟨x33, H, hf, hs⟩
  obtain ⟨O, rfl⟩ := hf.open
  try dsimp only
  unfold laws_FnCovers.a0 at H
  refine g_seq (g_region ?_)
  show G _ _ _ (.inRegion _ [0, 1, 2, 3, 4, 5, 6] :: _) _ _
  refine s_loadA rfl rfl (es := (([Value.int .i8 r6.f_Things, Value.int .i8 r6.f_Boat, v7] : List Value))) rfl rfl (fun _ => rfl) (n := 3) (fun _ => rfl) rfl (cells_all (hs.cells 0 rfl)) (g_d rfl ?_)
  try dsimp only [set0,setS]
  obtain ⟨r34, Hr34, H⟩ := bind_get H
  refine s_call (args := [Value.agg (([Value.int .i8 r6.f_Things, Value.int .i8 r6.f_Boat, v7] : List Value)).toArray]) rfl rfl (x_call rfl (callFunc_enter Try.func13 rfl rfl) rfl) (impl_SafeSets.calls (a1 := (⟨r6.f_Things, r6.f_Boat, r6.f_Rules⟩ : S_impl_Ferry)) (hs.row 1 rfl) Hr34) ?_
  rintro _ w ⟨rfl, hs2⟩
  have hs : St _ [_,_] _ := hs.call hs2
  refine g_d rfl ?_
  try dsimp only [set0,setS]
  refine g_op (v := Value.tuple #[Value.int .i64 r34.1, Value.int .i64 r34.2]) rfl rfl rfl (g_d rfl ?_)
  refine g_op (v := Value.int .i64 r34.1) rfl rfl rfl (g_d rfl ?_)
  refine g_op (v := Value.int .i64 r34.2) rfl rfl rfl (g_d rfl ?_)
  refine g_op (v := Value.int .i64 r34.1) rfl rfl rfl (g_d rfl ?_)
  try dsimp only [set0,setS]
  refine g_op (v := Value.int .i64 r34.2) rfl rfl rfl (g_d rfl ?_)
  try dsimp only [set0,setS]
  refine g_ops_nil (g_seq (g_seq (g_region ?_)))
  show G _ _ _ (.inRegion _ [0, 1, 2, 3, 4, 5, 6] :: _) _ _
  refine g_op (v := Value.int .i64 r34.2) rfl rfl rfl (g_d rfl ?_)
  refine g_op_b (B := r34.2 != 0) rfl rfl rfl ?_ ?_
  ·
   intro hb
   rw [if_neg (b_bne_t hb)] at H
   refine g_d rfl ?_
   try dsimp only [set0,setS]
   refine g_op (v := Value.bool true) rfl rfl rfl (g_d rfl (g_op_not rfl rfl (g_d rfl (g_op_not rfl rfl (g_d rfl (g_op_not rfl rfl (g_d rfl ?_)))))))
   try dsimp only [set0,setS]
   refine g_op (v := Value.bool true) rfl rfl rfl (g_d rfl ?_)
   try dsimp only [set0,setS]
   refine g_ops_nil (g_cond_true rfl (g_seq (g_region ?_)))
   show G _ _ _ (.inRegion _ [0] :: _) _ _
   refine g_op (v := Value.bool false) rfl rfl rfl (g_d rfl ?_)
   try dsimp only [set0,setS]
   refine g_ops_nil ?_
   obtain rfl := Option.some.inj H
   refine g_ret Try.func3 (v := Value.bool false) (res1 rfl rfl) ?_
   have hs : St _ [] _ := St.take (Γ' := [_,_]) hs
   exact ⟨_, rfl, rfl, hs⟩
  intro hb
  rw [if_pos (b_bne_f hb)] at H
  refine g_d rfl ?_
  try dsimp only [set0,setS]
  refine g_op (v := Value.bool false) rfl rfl rfl (g_d rfl ?_)
  refine g_op (v := Value.int .i64 r34.1) rfl rfl rfl (g_d rfl ?_)
  refine g_op (v := Value.int .i64 x33) rfl rfl rfl (g_d rfl ?_)
  refine g_op_b (B := r34.1 != x33) rfl rfl rfl ?_ ?_
  ·
   intro hb
   rw [if_neg (b_bne_t hb)] at H
   refine g_d rfl ?_
   try dsimp only [set0,setS]
   refine g_op (v := Value.bool true) rfl rfl rfl (g_d rfl ?_)
   try dsimp only [set0,setS]
   refine g_ops_nil (g_cond_true rfl (g_seq (g_region ?_)))
   show G _ _ _ (.inRegion _ [0] :: _) _ _
   refine g_op (v := Value.bool false) rfl rfl rfl (g_d rfl ?_)
   try dsimp only [set0,setS]
   refine g_ops_nil ?_
   obtain rfl := Option.some.inj H
   refine g_ret Try.func3 (v := Value.bool false) (res1 rfl rfl) ?_
   have hs : St _ [] _ := St.take (Γ' := [_,_]) hs
   exact ⟨_, rfl, rfl, hs⟩
  intro hb
  rw [if_pos (b_bne_f hb)] at H
  refine g_d rfl ?_
  try dsimp only [set0,setS]
  refine g_op (v := Value.bool false) rfl rfl rfl (g_d rfl ?_)
  try dsimp only [set0,setS]
  refine g_ops_nil (g_cond_false rfl (g_skip (g_seq (g_region ?_))))
  show G _ _ _ (.inRegion _ [0, 1, 2, 3, 4, 5, 6, 7, 8] :: _) _ _
  refine g_op (v := Value.pointer (some ⟨b9, 0, none⟩)) rfl rfl rfl (g_d rfl ?_)
  refine s_load1 rfl rfl (v := Value.int .i8 r6.f_Things) rfl rfl (fun _ => rfl) (cells_load (hs.cells 0 rfl) 0 1 rfl) (g_d rfl ?_)
  try dsimp only [set0,setS]
  refine g_op (v := Value.int .i64 r12.1) rfl rfl rfl (g_d rfl ?_)
  refine g_op (v := Value.int .i8 (i8w r12.1)) rfl rfl rfl (g_d rfl ?_)
  refine g_op (v := Value.pointer (some ⟨b9, 2, none⟩)) rfl rfl rfl (g_d rfl ?_)
  refine s_load1 rfl rfl (v := v7) rfl rfl (fun _ => rfl) (cells_load (hs.cells 0 rfl) 2 1 rfl) (g_d rfl ?_)
  try dsimp only [set0,setS]
  refine g_op (v := Value.agg (([Value.int .i8 r6.f_Things, Value.int .i8 (i8w r12.1), v7] : List Value)).toArray) rfl rfl (x_buildS (cs := (([Value.int .i8 r6.f_Things, Value.int .i8 (i8w r12.1), v7] : List Value))) (segs := [[Value.int .i8 0], [Value.int .i8 0], [Value.slice none 0 0]]) rfl rfl (fun _ => rfl) ⟨rfl, (fun _ => rfl), rfl, (fun _ => rfl), rfl, (fun _ => rfl), trivial⟩ (by simp only [List.map_cons, List.map_nil, List.forall_mem_cons, List.not_mem_nil, false_implies, implies_true, and_true]; exact ⟨⟨_, rfl, rfl⟩, ⟨_, rfl, rfl⟩, ⟨_, rfl, slSize (hs.row 1 rfl)⟩⟩) (by first | rfl | (simp [ev, encA, slCells (hs.row 1 rfl)]; done) | (simp [ev, encA, slCells (hs.row 1 rfl)]; rfl))) ?_
  refine g_d rfl ?_
  try dsimp only [set0,setS]
  refine s_alloc hs rfl rfl (z := (Value.agg #[Value.int .i8 0, Value.int .i8 0, Value.slice none 0 0])) (cs := (([Value.int .i8 0, Value.int .i8 0, Value.slice none 0 0] : List Value))) rfl (fun _ => rfl) rfl ?_
  intro b35 w hs
  refine g_d rfl ?_
  try dsimp only [set0,setS]
  refine s_storeAll (n := 3) hs rfl rfl rfl (vs := (([Value.int .i8 r6.f_Things, Value.int .i8 (i8w r12.1), v7] : List Value))) rfl rfl rfl (fun _ => rfl) rfl (by intro v hv; simp only [List.mem_append, List.mem_cons, List.not_mem_nil, or_false] at hv; repeat (first | (subst hv; first | rfl | exact slOne (hs.row 2 rfl)) | (rcases hv with hv | hv))) ?_
  intro w hs
  refine g_n rfl (g_ops_nil (g_seq (g_region ?_)))
  show G _ _ _ (.inRegion _ [0, 1, 2, 3, 4, 5, 6] :: _) _ _
  refine s_loadA rfl rfl (es := (([Value.int .i8 r6.f_Things, Value.int .i8 (i8w r12.1), v7] : List Value))) rfl rfl (fun _ => rfl) (n := 3) (fun _ => rfl) rfl (cells_all (hs.cells 0 rfl)) (g_d rfl ?_)
  try dsimp only [set0,setS]
  obtain ⟨r37, Hr37, H⟩ := bind_get H
  refine s_call (args := [Value.agg (([Value.int .i8 r6.f_Things, Value.int .i8 (i8w r12.1), v7] : List Value)).toArray]) rfl rfl (x_call rfl (callFunc_enter Try.func14 rfl rfl) rfl) (impl_ShortestCrossing.calls (a1 := (⟨r6.f_Things, i8w r12.1, r6.f_Rules⟩ : S_impl_Ferry)) (hs.row 2 rfl) Hr37) ?_
  rintro _ w ⟨v38, rfl, hs2⟩
  have hs : St _ [_,_,_,_] _ := hs.call hs2
  refine g_d rfl ?_
  try dsimp only [set0,setS]
  refine g_op (v := Value.tuple #[v38, Value.int .i64 r37.2]) rfl rfl rfl (g_d rfl ?_)
  refine g_op (v := v38) rfl rfl rfl (g_d rfl ?_)
  refine g_op (v := Value.int .i64 r37.2) rfl rfl rfl (g_d rfl ?_)
  refine g_op (v := v38) rfl rfl rfl (g_d rfl ?_)
  try dsimp only [set0,setS]
  refine g_op (v := Value.int .i64 r37.2) rfl rfl rfl (g_d rfl ?_)
  try dsimp only [set0,setS]
  refine g_ops_nil (g_seq (g_seq (g_region ?_)))
  show G _ _ _ (.inRegion _ [0, 1] :: _) _ _
  refine g_op (v := Value.int .i64 r37.2) rfl rfl rfl (g_d rfl ?_)
  refine g_op_b (B := r37.2 != 0) rfl rfl rfl ?_ ?_
  ·
   intro hb
   rw [if_neg (b_bne_t hb)] at H
   refine g_d rfl ?_
   try dsimp only [set0,setS]
   refine g_ops_nil (g_cond_true rfl (g_seq (g_region ?_)))
   show G _ _ _ (.inRegion _ [0] :: _) _ _
   refine g_op (v := Value.bool false) rfl rfl rfl (g_d rfl ?_)
   try dsimp only [set0,setS]
   refine g_ops_nil ?_
   obtain rfl := Option.some.inj H
   refine g_ret Try.func3 (v := Value.bool false) (res1 rfl rfl) ?_
   have hs : St _ [] _ := St.take (Γ' := [_,_,_,_]) hs
   exact ⟨_, rfl, rfl, hs⟩
  intro hb
  rw [if_pos (b_bne_f hb)] at H
  refine g_d rfl ?_
  try dsimp only [set0,setS]
  refine g_ops_nil (g_cond_false rfl (g_skip (g_seq (g_seq ?_))))
  refine g_join2 (J := (fun t w => laws_FnCovers.j2 N a3 r6 r14 r12 = some r ∧ Fr t (fun O => (O 0::v4::O 2::O 3::O 4::Value.pointer (some ⟨b9, 0, none⟩)::O 6::O 7::Value.int .i64 r12.1::O 9::O 10::O 11::Value.int .u16 r14.1::O 13::O 14::O 15::O 16::O 17::O 18::O 19::O 20::O 21::O 22::O 23::O 24::O 25::O 26::O 27::O 28::O 29::O 30::O 31::O 32::O 33::O 34::O 35::O 36::O 37::O 38::O 39::O 40::O 41::O 42::O 43::O 44::O 45::O 46::O 47::O 48::O 49::O 50::O 51::O 52::O 53::O 54::O 55::O 56::O 57::O 58::O 59::O 60::O 61::O 62::O 63::O 64::O 65::O 66::O 67::O 68::O 69::O 70::O 71::O 72::O 73::O 74::O 75::O 76::O 77::O 78::O 79::O 80::O 81::O 82::O 83::O 84::O 85::O 86::O 87::O 88::O 89::O 90::O 91::O 92::O 93::O 94::O 95::O 96::O 97::O 98::O 99::O 100::O 101::O 102::O 103::O 104::O 105::O 106::O 107::O 108::O 109::O 110::O 111::O 112::O 113::O 114::O 115::O 116::O 117::O 118::O 119::O 120::O 121::O 122::O 123::O 124::O 125::O 126::O 127::O 128::O 129::O 130::O 131::O 132::O 133::O 134::O 135::O 136::O 137::O 138::O 139::O 140::O 141::O 142::O 143::O 144::O 145::O 146::O 147::O 148::O 149::O 150::O 151::O 152::O 153::O 154::O 155::O 156::O 157::O 158::O 159::O 160::O 161::O 162::O 163::O 164::O 165::O 166::O 167::O 168::O 169::O 170::O 171::O 172::O 173::O 174::O 175::O 176::O 177::O 178::O 179::O 180::O 181::O 182::O 183::O 184::O 185::O 186::O 187::O 188::O 189::O 190::O 191::O 192::O 193::O 194::O 195::O 196::O 197::O 198::O 199::O 200::O 201::O 202::O 203::O 204::O 205::O 206::O 207::O 208::O 209::O 210::O 211::O 212::O 213::O 214::O 215::O 216::O 217::O 218::O 219::O 220::O 221::O 222::O 223::O 224::O 225::O 226::O 227::O 228::O 229::O 230::O 231::O 232::O 233::O 234::O 235::O 236::O 237::O 238::O 239::O 240::O 241::O 242::O 243::O 244::O 245::O 246::O 247::O 248::O 249::O 250::O 251::O 252::O 253::O 254::O 255::O 256::O 257::O 258::O 259::O 260::O 261::[] : List Value)) ∧ St w0 [Cells b9 (([Value.int .i8 r6.f_Things, Value.int .i8 r6.f_Boat, v7] : List Value)) 27, Row 31 (K.int .u16) v7 r6.f_Rules] w)) ?_ ?_
  · exact laws_FnCovers.seg0 hr0 hr1
  intro ha
  refine g_region ?_
  show G _ _ _ (.inRegion _ [0, 1] :: _) _ _
  refine g_op (v := Value.int .i64 r12.1) rfl rfl rfl (g_d rfl ?_)
  refine g_op_b (B := decide (r12.1 > 0)) rfl rfl rfl ?_ ?_
  ·
   intro hb
   rw [if_pos (b_dec_t hb)] at H
   refine g_d rfl ?_
   try dsimp only [set0,setS]
   refine g_ops_nil (g_cond_true rfl (g_seq (g_region ?_)))
   show G _ _ _ (.inRegion _ [0, 1, 2, 3, 4, 5, 6, 7, 8, 9] :: _) _ _
   refine g_op (v := Value.pointer (some ⟨b9, 0, none⟩)) rfl rfl rfl (g_d rfl ?_)
   refine s_load1 rfl rfl (v := Value.int .i8 r6.f_Things) rfl rfl (fun _ => rfl) (cells_load (hs.cells 2 rfl) 0 1 rfl) (g_d rfl ?_)
   try dsimp only [set0,setS]
   refine g_op (v := Value.int .i64 r12.1) rfl rfl rfl (g_d rfl ?_)
   refine g_op (v := Value.int .i8 (i8w r12.1)) rfl rfl rfl (g_d rfl ?_)
   refine g_op (v := Value.int .i8 (i8w ((i8w r12.1) - 1))) rfl rfl rfl (g_d rfl ?_)
   try dsimp only [set0,setS]
   refine g_op (v := Value.pointer (some ⟨b9, 2, none⟩)) rfl rfl rfl (g_d rfl ?_)
   refine s_load1 rfl rfl (v := v7) rfl rfl (fun _ => rfl) (cells_load (hs.cells 2 rfl) 2 1 rfl) (g_d rfl ?_)
   try dsimp only [set0,setS]
   refine g_op (v := Value.agg (([Value.int .i8 r6.f_Things, Value.int .i8 (i8w ((i8w r12.1) - 1)), v7] : List Value)).toArray) rfl rfl (x_buildS (cs := (([Value.int .i8 r6.f_Things, Value.int .i8 (i8w ((i8w r12.1) - 1)), v7] : List Value))) (segs := [[Value.int .i8 0], [Value.int .i8 0], [Value.slice none 0 0]]) rfl rfl (fun _ => rfl) ⟨rfl, (fun _ => rfl), rfl, (fun _ => rfl), rfl, (fun _ => rfl), trivial⟩ (by simp only [List.map_cons, List.map_nil, List.forall_mem_cons, List.not_mem_nil, false_implies, implies_true, and_true]; exact ⟨⟨_, rfl, rfl⟩, ⟨_, rfl, rfl⟩, ⟨_, rfl, slSize (hs.row 3 rfl)⟩⟩) (by first | rfl | (simp [ev, encA, slCells (hs.row 3 rfl)]; done) | (simp [ev, encA, slCells (hs.row 3 rfl)]; rfl))) ?_
   refine g_d rfl ?_
   try dsimp only [set0,setS]
   refine s_alloc hs rfl rfl (z := (Value.agg #[Value.int .i8 0, Value.int .i8 0, Value.slice none 0 0])) (cs := (([Value.int .i8 0, Value.int .i8 0, Value.slice none 0 0] : List Value))) rfl (fun _ => rfl) rfl ?_
   intro b40 w hs
   refine g_d rfl ?_
   try dsimp only [set0,setS]
   refine s_storeAll (n := 3) hs rfl rfl rfl (vs := (([Value.int .i8 r6.f_Things, Value.int .i8 (i8w ((i8w r12.1) - 1)), v7] : List Value))) rfl rfl rfl (fun _ => rfl) rfl (by intro v hv; simp only [List.mem_append, List.mem_cons, List.not_mem_nil, or_false] at hv; repeat (first | (subst hv; first | rfl | exact slOne (hs.row 4 rfl)) | (rcases hv with hv | hv))) ?_
   intro w hs
   refine g_n rfl (g_ops_nil (g_seq (g_region ?_)))
   show G _ _ _ (.inRegion _ [0, 1, 2, 3, 4, 5, 6] :: _) _ _
   refine s_loadA rfl rfl (es := (([Value.int .i8 r6.f_Things, Value.int .i8 (i8w ((i8w r12.1) - 1)), v7] : List Value))) rfl rfl (fun _ => rfl) (n := 3) (fun _ => rfl) rfl (cells_all (hs.cells 0 rfl)) (g_d rfl ?_)
   try dsimp only [set0,setS]
   obtain ⟨r42, Hr42, H⟩ := bind_get H
   refine s_call (args := [Value.agg (([Value.int .i8 r6.f_Things, Value.int .i8 (i8w ((i8w r12.1) - 1)), v7] : List Value)).toArray]) rfl rfl (x_call rfl (callFunc_enter Try.func14 rfl rfl) rfl) (impl_ShortestCrossing.calls (a1 := (⟨r6.f_Things, i8w ((i8w r12.1) - 1), r6.f_Rules⟩ : S_impl_Ferry)) (hs.row 4 rfl) Hr42) ?_
   rintro _ w ⟨v43, rfl, hs2⟩
   have hs : St _ [_,_,_,_,_,_] _ := hs.call hs2
   refine g_d rfl ?_
   try dsimp only [set0,setS]
   refine g_op (v := Value.tuple #[v43, Value.int .i64 r42.2]) rfl rfl rfl (g_d rfl ?_)
   refine g_op (v := v43) rfl rfl rfl (g_d rfl ?_)
   refine g_op (v := Value.int .i64 r42.2) rfl rfl rfl (g_d rfl ?_)
   refine g_op (v := v43) rfl rfl rfl (g_d rfl ?_)
   try dsimp only [set0,setS]
   refine g_op (v := Value.int .i64 r42.2) rfl rfl rfl (g_d rfl ?_)
   try dsimp only [set0,setS]
   refine g_ops_nil (g_seq (g_region ?_))
   show G _ _ _ (.inRegion _ [0, 1] :: _) _ _
   refine g_op (v := Value.int .i64 r42.2) rfl rfl rfl (g_d rfl ?_)
   refine g_op_b (B := r42.2 != 6) rfl rfl rfl ?_ ?_
   ·
    intro hb
    rw [if_neg (b_bne_t hb)] at H
    refine g_d rfl ?_
    try dsimp only [set0,setS]
    refine g_ops_nil (g_cond_true rfl (g_seq (g_region ?_)))
    show G _ _ _ (.inRegion _ [0] :: _) _ _
    refine g_op (v := Value.bool false) rfl rfl rfl (g_d rfl ?_)
    try dsimp only [set0,setS]
    refine g_ops_nil ?_
    obtain rfl := Option.some.inj H
    refine g_ret Try.func3 (v := Value.bool false) (res1 rfl rfl) ?_
    have hs : St _ [] _ := St.take (Γ' := [_,_,_,_,_,_]) hs
    exact ⟨_, rfl, rfl, hs⟩
   intro hb
   rw [if_pos (b_bne_f hb)] at H
   refine g_d rfl ?_
   try dsimp only [set0,setS]
   refine g_ops_nil (g_cond_false rfl (g_skip ?_))
   have hs := hs.pull 5 rfl
   have hs := hs.pull 5 rfl
   have hs : St _ [_,_] _ := St.take (Γ' := [_,_,_,_]) hs
   exact ha _ _ ⟨H, rfl, hs⟩
  intro hb
  rw [if_neg (b_dec_f hb)] at H
  refine g_d rfl ?_
  try dsimp only [set0,setS]
  refine g_ops_nil (g_cond_false rfl (g_skip ?_))
  have hs := hs.pull 3 rfl
  have hs := hs.pull 3 rfl
  have hs : St _ [_,_] _ := St.take (Γ' := [_,_]) hs
  exact ha _ _ ⟨H, rfl, hs⟩

end Go.Proofs.YtcaokmnajnfpiaaX
