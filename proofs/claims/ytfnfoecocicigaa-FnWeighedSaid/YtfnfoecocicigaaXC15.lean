/- Contracts, printed by gen.py. -/
import Derived.Test.YtfnfoecocicigaaXT
import Derived.Test.YtfnfoecocicigaaProg
import Derived.Test.YtfnfoecocicigaaXRowR
import Derived.Test.YtfnfoecocicigaaXSeg
import Derived.Test.YtfnfoecocicigaaXKey
import Derived.Test.YtfnfoecocicigaaXC0
import Derived.Test.YtfnfoecocicigaaXC7
import Derived.Test.YtfnfoecocicigaaXC14
namespace Go.Proofs.YtfnfoecocicigaaX
open Go Go.RowKit Go.Proofs
set_option linter.unusedVariables false
set_option linter.unusedSimpArgs false
/- a part of function 3 laws_FnWeighed -/
def laws_FnWeighed.post (w0 : World) (r : Bool) (v : Value) (w : World) : Prop := v = Value.bool r ∧ St w0 [] w
set_option maxHeartbeats 8000000 in
set_option maxRecDepth 100000 in
theorem laws_FnWeighed.seg0 {N : Nat} {a1 : (List Int)} {a3 : (List Int)} {v2 : Value} {v4 : Value} {r7 : (Int × (Ar Int 4))} {r41 : (Int × Int)} {b8 : Nat} {w0 : World} {r : Bool} (hr0 : RdRow (K.int .u8) w0 v2 a1) (hr1 : RdRow (K.int .u8) w0 v4 a3) :
    ∀ t w, (fun t w => laws_FnWeighed.j4 N r7 r41 = some r ∧ Fr t (fun O => (O 0::O 1::O 2::O 3::O 4::Value.int .i64 r7.1::Value.pointer (some ⟨b8, 0, none⟩)::O 7::O 8::O 9::O 10::O 11::O 12::O 13::O 14::O 15::O 16::O 17::O 18::O 19::O 20::O 21::O 22::O 23::O 24::O 25::O 26::O 27::O 28::O 29::O 30::Value.int .i64 r41.1::O 32::O 33::O 34::O 35::O 36::O 37::O 38::O 39::O 40::O 41::O 42::O 43::O 44::O 45::O 46::O 47::O 48::O 49::O 50::O 51::O 52::O 53::O 54::O 55::O 56::O 57::O 58::O 59::O 60::O 61::O 62::O 63::O 64::O 65::O 66::O 67::O 68::O 69::O 70::O 71::O 72::O 73::O 74::O 75::O 76::O 77::O 78::O 79::O 80::O 81::O 82::O 83::O 84::O 85::O 86::O 87::O 88::O 89::O 90::O 91::O 92::O 93::O 94::O 95::O 96::O 97::O 98::O 99::O 100::O 101::O 102::O 103::O 104::O 105::O 106::O 107::O 108::O 109::O 110::O 111::O 112::O 113::O 114::O 115::O 116::O 117::O 118::O 119::O 120::O 121::O 122::O 123::O 124::O 125::O 126::O 127::O 128::O 129::O 130::O 131::O 132::O 133::O 134::O 135::O 136::O 137::O 138::O 139::O 140::O 141::O 142::O 143::O 144::O 145::O 146::O 147::O 148::O 149::O 150::O 151::O 152::O 153::O 154::O 155::O 156::O 157::O 158::O 159::O 160::O 161::O 162::O 163::O 164::O 165::O 166::O 167::O 168::O 169::O 170::O 171::O 172::O 173::O 174::O 175::O 176::O 177::O 178::O 179::O 180::O 181::O 182::O 183::O 184::O 185::O 186::O 187::O 188::O 189::O 190::O 191::O 192::O 193::O 194::O 195::O 196::O 197::O 198::O 199::O 200::O 201::O 202::O 203::O 204::O 205::O 206::O 207::O 208::O 209::O 210::O 211::O 212::O 213::O 214::O 215::O 216::O 217::O 218::O 219::O 220::O 221::O 222::O 223::O 224::O 225::O 226::O 227::O 228::O 229::O 230::O 231::O 232::O 233::O 234::O 235::O 236::O 237::O 238::O 239::O 240::O 241::O 242::O 243::O 244::O 245::O 246::O 247::O 248::O 249::O 250::O 251::O 252::O 253::O 254::O 255::O 256::O 257::O 258::O 259::O 260::O 261::O 262::O 263::O 264::O 265::O 266::O 267::O 268::O 269::O 270::O 271::O 272::O 273::O 274::O 275::O 276::O 277::O 278::O 279::O 280::O 281::O 282::O 283::O 284::O 285::O 286::O 287::O 288::O 289::O 290::O 291::O 292::O 293::O 294::O 295::O 296::O 297::O 298::O 299::O 300::O 301::O 302::O 303::O 304::O 305::O 306::O 307::O 308::O 309::O 310::O 311::O 312::O 313::O 314::O 315::O 316::O 317::O 318::O 319::O 320::O 321::O 322::O 323::O 324::O 325::O 326::O 327::O 328::O 329::O 330::O 331::O 332::O 333::O 334::O 335::O 336::O 337::O 338::O 339::O 340::O 341::O 342::O 343::O 344::O 345::O 346::O 347::O 348::O 349::O 350::O 351::O 352::O 353::O 354::O 355::O 356::O 357::O 358::O 359::O 360::O 361::O 362::O 363::O 364::[] : List Value)) ∧ St w0 [Cells b8 ((encA (encI .i64)) r7.2) 25] w) t w → G Try.prog 3 (fun e w => ∃ v, e = .returned v ∧ laws_FnWeighed.post w0 r v w) [.code (Code.at_ (Try.f3.body.getD .skip) [1, 1, 1, 1, 1, 1, 1, 1, 1, 1, 1, 1, 1, 1, 1, 1, 1, 1, 1, 1, 1, 1, 1, 1])] t w := by
  rintro t w ⟨H, hf, hs⟩
  obtain ⟨O, rfl⟩ := hf.open
  try dsimp only
  unfold laws_FnWeighed.j4 at H
  refine g_seq ?_
  refine g_region ?_
  show G _ _ _ (.inRegion _ [0, 1, 2, 3, 4, 5, 6, 7, 8] :: _) _ _
  refine g_op (v := Value.int .i64 r7.1) rfl rfl rfl ?_
  refine g_d rfl ?_
  refine s_loadA rfl rfl (es := ((encA (encI .i64)) r7.2)) rfl rfl (fun _ => rfl) (n := 4) (fun _ => rfl) ((fkA (n := 4) (he := (fkI .i64).len) (h1 := (fkI .i64).one)).len _) (cells_all (hs.cells 0 rfl)) ?_
  refine g_d rfl ?_
  try dsimp only [set0,setS]
  refine g_op (v := Value.int .i64 r41.1) rfl rfl rfl ?_
  refine g_d rfl ?_
  obtain ⟨r42, Hr42, H⟩ := bind_get H
  refine s_call (args := [Value.int .i64 r7.1, Value.agg ((encA (encI .i64)) r7.2).toArray, Value.int .i64 r41.1]) rfl rfl (x_call rfl (callFunc_enter Try.func17 rfl rfl) rfl) (impl_CanFindIn.calls (a1 := r7.1) (a2 := r7.2) (a3 := r41.1) Hr42) ?_
  rintro _ w ⟨rfl, hs2⟩
  have hs : St _ [_] _ := hs.call hs2
  refine g_d rfl ?_
  try dsimp only [set0,setS]
  refine g_op (v := Value.tuple #[Value.bool r42.1, Value.int .i64 r42.2]) rfl rfl rfl ?_
  refine g_d rfl ?_
  refine g_op (v := Value.bool r42.1) rfl rfl rfl ?_
  refine g_d rfl ?_
  refine g_op (v := Value.int .i64 r42.2) rfl rfl rfl ?_
  refine g_d rfl ?_
  refine g_op (v := Value.bool r42.1) rfl rfl rfl ?_
  refine g_d rfl ?_
  try dsimp only [set0,setS]
  refine g_op (v := Value.int .i64 r42.2) rfl rfl rfl ?_
  refine g_d rfl ?_
  try dsimp only [set0,setS]
  refine g_ops_nil ?_
  refine g_seq ?_
  refine g_seq ?_
  refine g_region ?_
  show G _ _ _ (.inRegion _ [0, 1, 2, 3, 4, 5] :: _) _ _
  refine g_op (v := Value.int .i64 r42.2) rfl rfl rfl ?_
  refine g_d rfl ?_
  refine g_op_b (B := r42.2 != 0) rfl rfl rfl ?_ ?_
  ·
   intro hb
   rw [if_neg (b_bne_t hb)] at H
   refine g_d rfl ?_
   try dsimp only [set0,setS]
   refine g_op (v := Value.bool true) rfl rfl rfl ?_
   refine g_d rfl ?_
   refine g_op_not rfl rfl ?_
   refine g_d rfl ?_
   refine g_op_not rfl rfl ?_
   refine g_d rfl ?_
   try dsimp only [set0,setS]
   refine g_op (v := Value.bool true) rfl rfl rfl ?_
   refine g_d rfl ?_
   try dsimp only [set0,setS]
   refine g_ops_nil ?_
   refine g_cond_true rfl ?_
   refine g_seq ?_
   refine g_region ?_
   show G _ _ _ (.inRegion _ [0] :: _) _ _
   refine g_op (v := Value.bool false) rfl rfl rfl ?_
   refine g_d rfl ?_
   try dsimp only [set0,setS]
   refine g_ops_nil ?_
   obtain rfl := Option.some.inj H
   refine g_ret Try.func3 (v := Value.bool false) (res1 rfl rfl) ?_
   have hs : St _ [] _ := St.take (Γ' := [_]) hs
   exact ⟨_, rfl, rfl, hs⟩
  ·
   intro hb
   rw [if_pos (b_bne_f hb)] at H
   refine g_d rfl ?_
   try dsimp only [set0,setS]
   refine g_op (v := Value.bool false) rfl rfl rfl ?_
   refine g_d rfl ?_
   refine g_op_b (B := r42.1) rfl rfl rfl ?_ ?_
   ·
    intro hb
    rw [if_pos (b_var_t hb)] at H
    refine g_d rfl ?_
    refine g_op (v := Value.bool false) rfl rfl rfl ?_
    refine g_d rfl ?_
    try dsimp only [set0,setS]
    refine g_op (v := Value.bool false) rfl rfl rfl ?_
    refine g_d rfl ?_
    try dsimp only [set0,setS]
    refine g_ops_nil ?_
    refine g_cond_false rfl ?_
    refine g_skip ?_
    refine g_seq ?_
    refine g_seq ?_
    refine g_region ?_
    show G _ _ _ (.inRegion _ [0, 1] :: _) _ _
    refine g_op (v := Value.int .i64 r41.1) rfl rfl rfl ?_
    refine g_d rfl ?_
    refine g_op_b (B := r41.1 == 0) rfl rfl rfl ?_ ?_
    ·
     intro hb
     rw [if_pos (b_beq_t hb)] at H
     refine g_d rfl ?_
     try dsimp only [set0,setS]
     refine g_ops_nil ?_
     refine g_cond_true rfl ?_
     refine g_seq ?_
     refine g_region ?_
     show G _ _ _ (.inRegion _ [0] :: _) _ _
     refine g_op (v := Value.bool true) rfl rfl rfl ?_
     refine g_d rfl ?_
     try dsimp only [set0,setS]
     refine g_ops_nil ?_
     obtain rfl := Option.some.inj H
     refine g_ret Try.func3 (v := Value.bool true) (res1 rfl rfl) ?_
     have hs : St _ [] _ := St.take (Γ' := [_]) hs
     exact ⟨_, rfl, rfl, hs⟩
    ·
     intro hb
     rw [if_neg (b_beq_f hb)] at H
     refine g_d rfl ?_
     try dsimp only [set0,setS]
     refine g_ops_nil ?_
     refine g_cond_false rfl ?_
     refine g_skip ?_
     refine g_seq ?_
     refine g_region ?_
     show G _ _ _ (.inRegion _ [0, 1, 2, 3, 4, 5, 6, 7, 8, 9] :: _) _ _
     refine g_op (v := Value.int .i64 r7.1) rfl rfl rfl ?_
     refine g_d rfl ?_
     refine s_loadA rfl rfl (es := ((encA (encI .i64)) r7.2)) rfl rfl (fun _ => rfl) (n := 4) (fun _ => rfl) ((fkA (n := 4) (he := (fkI .i64).len) (h1 := (fkI .i64).one)).len _) (cells_all (hs.cells 0 rfl)) ?_
     refine g_d rfl ?_
     try dsimp only [set0,setS]
     refine g_op (v := Value.int .i64 r41.1) rfl rfl rfl ?_
     refine g_d rfl ?_
     refine g_op (v := Value.int .i64 (i64w (r41.1 - 1))) rfl rfl rfl ?_
     refine g_d rfl ?_
     try dsimp only [set0,setS]
     obtain ⟨r43, Hr43, H⟩ := bind_get H
     refine s_call (args := [Value.int .i64 r7.1, Value.agg ((encA (encI .i64)) r7.2).toArray, Value.int .i64 (i64w (r41.1 - 1))]) rfl rfl (x_call rfl (callFunc_enter Try.func17 rfl rfl) rfl) (impl_CanFindIn.calls (a1 := r7.1) (a2 := r7.2) (a3 := i64w (r41.1 - 1)) Hr43) ?_
     rintro _ w ⟨rfl, hs2⟩
     have hs : St _ [_] _ := hs.call hs2
     refine g_d rfl ?_
     try dsimp only [set0,setS]
     refine g_op (v := Value.tuple #[Value.bool r43.1, Value.int .i64 r43.2]) rfl rfl rfl ?_
     refine g_d rfl ?_
     refine g_op (v := Value.bool r43.1) rfl rfl rfl ?_
     refine g_d rfl ?_
     refine g_op (v := Value.int .i64 r43.2) rfl rfl rfl ?_
     refine g_d rfl ?_
     refine g_op (v := Value.bool r43.1) rfl rfl rfl ?_
     refine g_d rfl ?_
     try dsimp only [set0,setS]
     refine g_op (v := Value.int .i64 r43.2) rfl rfl rfl ?_
     refine g_d rfl ?_
     try dsimp only [set0,setS]
     refine g_ops_nil ?_
     refine g_seq ?_
     refine g_region ?_
     show G _ _ _ (.inRegion _ [0, 1, 2, 3, 4, 5, 6, 7, 8, 9] :: _) _ _
     refine g_op (v := Value.int .i64 r7.1) rfl rfl rfl ?_
     refine g_d rfl ?_
     refine s_loadA rfl rfl (es := ((encA (encI .i64)) r7.2)) rfl rfl (fun _ => rfl) (n := 4) (fun _ => rfl) ((fkA (n := 4) (he := (fkI .i64).len) (h1 := (fkI .i64).one)).len _) (cells_all (hs.cells 0 rfl)) ?_
     refine g_d rfl ?_
     try dsimp only [set0,setS]
     refine g_op (v := Value.int .i64 r41.1) rfl rfl rfl ?_
     refine g_d rfl ?_
     obtain ⟨r44, Hr44, H⟩ := bind_get H
     refine s_call (args := [Value.int .i64 r7.1, Value.agg ((encA (encI .i64)) r7.2).toArray, Value.int .i64 r41.1]) rfl rfl (x_call rfl (callFunc_enter Try.func18 rfl rfl) rfl) (impl_AskThatDoes.calls (a1 := r7.1) (a2 := r7.2) (a3 := r41.1) Hr44) ?_
     rintro _ w ⟨rfl, hs2⟩
     have hs : St _ [_] _ := hs.call hs2
     refine g_d rfl ?_
     try dsimp only [set0,setS]
     refine g_op (v := Value.tuple #[Value.agg ((encA (encI .i64)) r44.1).toArray, Value.int .i64 r44.2]) rfl rfl rfl ?_
     refine g_d rfl ?_
     refine g_op (v := Value.agg ((encA (encI .i64)) r44.1).toArray) rfl rfl rfl ?_
     refine g_d rfl ?_
     refine g_op (v := Value.int .i64 r44.2) rfl rfl rfl ?_
     refine g_d rfl ?_
     refine s_alloc hs rfl rfl (z := (Value.agg #[Value.int .i64 0, Value.int .i64 0, Value.int .i64 0, Value.int .i64 0])) (cs := ((encA (encI .i64)) (Ar.rep 4 0))) rfl (fun _ => rfl) rfl ?_
     intro b45 w hs
     refine g_d rfl ?_
     try dsimp only [set0,setS]
     refine s_storeAll (n := 4) hs ((fkA (n := 4) (he := (fkI .i64).len) (h1 := (fkI .i64).one)).len _) rfl rfl (vs := ((encA (encI .i64)) r44.1)) rfl rfl rfl (fun _ => rfl) ((fkA (n := 4) (he := (fkI .i64).len) (h1 := (fkI .i64).one)).len _) ((fkA (n := 4) (he := (fkI .i64).len) (h1 := (fkI .i64).one)).one _) ?_
     intro w hs
     refine g_n rfl ?_
     refine g_op (v := Value.int .i64 r44.2) rfl rfl rfl ?_
     refine g_d rfl ?_
     try dsimp only [set0,setS]
     refine g_ops_nil ?_
     refine g_seq ?_
     refine g_region ?_
     show G _ _ _ (.inRegion _ [0, 1, 2, 3, 4, 5, 6, 7, 8, 9] :: _) _ _
     refine g_op (v := Value.int .i64 r7.1) rfl rfl rfl ?_
     refine g_d rfl ?_
     refine s_loadA rfl rfl (es := ((encA (encI .i64)) r7.2)) rfl rfl (fun _ => rfl) (n := 4) (fun _ => rfl) ((fkA (n := 4) (he := (fkI .i64).len) (h1 := (fkI .i64).one)).len _) (cells_all (hs.cells 1 rfl)) ?_
     refine g_d rfl ?_
     try dsimp only [set0,setS]
     refine g_op (v := Value.int .i64 r41.1) rfl rfl rfl ?_
     refine g_d rfl ?_
     obtain ⟨r47, Hr47, H⟩ := bind_get H
     refine s_call (args := [Value.int .i64 r7.1, Value.agg ((encA (encI .i64)) r7.2).toArray, Value.int .i64 r41.1]) rfl rfl (x_call rfl (callFunc_enter Try.func19 rfl rfl) rfl) (spec_AskThatDoes.calls (a1 := r7.1) (a2 := r7.2) (a3 := r41.1) Hr47) ?_
     rintro _ w ⟨rfl, hs2⟩
     have hs : St _ [_,_] _ := hs.call hs2
     refine g_d rfl ?_
     try dsimp only [set0,setS]
     refine g_op (v := Value.tuple #[Value.agg ((encA (encI .i64)) r47.1).toArray, Value.int .i64 r47.2]) rfl rfl rfl ?_
     refine g_d rfl ?_
     refine g_op (v := Value.agg ((encA (encI .i64)) r47.1).toArray) rfl rfl rfl ?_
     refine g_d rfl ?_
     refine g_op (v := Value.int .i64 r47.2) rfl rfl rfl ?_
     refine g_d rfl ?_
     refine s_alloc hs rfl rfl (z := (Value.agg #[Value.int .i64 0, Value.int .i64 0, Value.int .i64 0, Value.int .i64 0])) (cs := ((encA (encI .i64)) (Ar.rep 4 0))) rfl (fun _ => rfl) rfl ?_
     intro b48 w hs
     refine g_d rfl ?_
     try dsimp only [set0,setS]
     refine s_storeAll (n := 4) hs ((fkA (n := 4) (he := (fkI .i64).len) (h1 := (fkI .i64).one)).len _) rfl rfl (vs := ((encA (encI .i64)) r47.1)) rfl rfl rfl (fun _ => rfl) ((fkA (n := 4) (he := (fkI .i64).len) (h1 := (fkI .i64).one)).len _) ((fkA (n := 4) (he := (fkI .i64).len) (h1 := (fkI .i64).one)).one _) ?_
     intro w hs
     refine g_n rfl ?_
     refine g_op (v := Value.int .i64 r47.2) rfl rfl rfl ?_
     refine g_d rfl ?_
     try dsimp only [set0,setS]
     refine g_ops_nil ?_
     refine g_seq ?_
     refine g_region ?_
     show G _ _ _ (.inRegion _ [0, 1, 2, 3, 4, 5, 6, 7, 8, 9, 10, 11, 12] :: _) _ _
     refine g_op (v := Value.int .i64 r7.1) rfl rfl rfl ?_
     refine g_d rfl ?_
     refine s_loadA rfl rfl (es := ((encA (encI .i64)) r7.2)) rfl rfl (fun _ => rfl) (n := 4) (fun _ => rfl) ((fkA (n := 4) (he := (fkI .i64).len) (h1 := (fkI .i64).one)).len _) (cells_all (hs.cells 2 rfl)) ?_
     refine g_d rfl ?_
     try dsimp only [set0,setS]
     refine s_loadA rfl rfl (es := ((encA (encI .i64)) r47.1)) rfl rfl (fun _ => rfl) (n := 4) (fun _ => rfl) ((fkA (n := 4) (he := (fkI .i64).len) (h1 := (fkI .i64).one)).len _) (cells_all (hs.cells 0 rfl)) ?_
     refine g_d rfl ?_
     try dsimp only [set0,setS]
     obtain ⟨r50, Hr50, H⟩ := bind_get H
     refine s_call (args := [Value.int .i64 r7.1, Value.agg ((encA (encI .i64)) r7.2).toArray, Value.agg ((encA (encI .i64)) r47.1).toArray]) rfl rfl (x_call rfl (callFunc_enter Try.func9 rfl rfl) rfl) (spec_SplitState.calls (a1 := r7.1) (a2 := r7.2) (a3 := r47.1) Hr50) ?_
     rintro _ w ⟨rfl, hs2⟩
     have hs : St _ [_,_,_] _ := hs.call hs2
     refine g_d rfl ?_
     try dsimp only [set0,setS]
     refine g_op (v := Value.tuple #[Value.agg ((encA (encI .i64)) r50.1).toArray, Value.agg ((encA (encI .i64)) r50.2.1).toArray, Value.int .i64 r50.2.2]) rfl rfl rfl ?_
     refine g_d rfl ?_
     refine g_op (v := Value.agg ((encA (encI .i64)) r50.1).toArray) rfl rfl rfl ?_
     refine g_d rfl ?_
     refine g_op (v := Value.agg ((encA (encI .i64)) r50.2.1).toArray) rfl rfl rfl ?_
     refine g_d rfl ?_
     refine g_op (v := Value.int .i64 r50.2.2) rfl rfl rfl ?_
     refine g_d rfl ?_
     refine s_alloc hs rfl rfl (z := (Value.agg #[Value.int .i64 0, Value.int .i64 0, Value.int .i64 0, Value.int .i64 0])) (cs := ((encA (encI .i64)) (Ar.rep 4 0))) rfl (fun _ => rfl) rfl ?_
     intro b51 w hs
     refine g_d rfl ?_
     try dsimp only [set0,setS]
     refine s_alloc hs rfl rfl (z := (Value.agg #[Value.int .i64 0, Value.int .i64 0, Value.int .i64 0, Value.int .i64 0])) (cs := ((encA (encI .i64)) (Ar.rep 4 0))) rfl (fun _ => rfl) rfl ?_
     intro b53 w hs
     refine g_d rfl ?_
     try dsimp only [set0,setS]
     have hs := hs.pull 1 rfl
     have hs : St _ [_,_,_,_,_] _ := hs
     refine s_storeAll (n := 4) hs ((fkA (n := 4) (he := (fkI .i64).len) (h1 := (fkI .i64).one)).len _) rfl rfl (vs := ((encA (encI .i64)) r50.1)) rfl rfl rfl (fun _ => rfl) ((fkA (n := 4) (he := (fkI .i64).len) (h1 := (fkI .i64).one)).len _) ((fkA (n := 4) (he := (fkI .i64).len) (h1 := (fkI .i64).one)).one _) ?_
     intro w hs
     refine g_n rfl ?_
     have hs := hs.pull 1 rfl
     have hs : St _ [_,_,_,_,_] _ := hs
     refine s_storeAll (n := 4) hs ((fkA (n := 4) (he := (fkI .i64).len) (h1 := (fkI .i64).one)).len _) rfl rfl (vs := ((encA (encI .i64)) r50.2.1)) rfl rfl rfl (fun _ => rfl) ((fkA (n := 4) (he := (fkI .i64).len) (h1 := (fkI .i64).one)).len _) ((fkA (n := 4) (he := (fkI .i64).len) (h1 := (fkI .i64).one)).one _) ?_
     intro w hs
     refine g_n rfl ?_
     refine g_op (v := Value.int .i64 r50.2.2) rfl rfl rfl ?_
     refine g_d rfl ?_
     try dsimp only [set0,setS]
     refine g_ops_nil ?_
     refine g_seq ?_
     refine g_seq ?_
     refine g_region ?_
     show G _ _ _ (.inRegion _ [0, 1, 2, 3, 4, 5, 6, 7, 8, 9, 10, 11, 12, 13, 14, 15, 16, 17, 18, 19, 20, 21, 22] :: _) _ _
     refine g_op (v := Value.int .i64 r43.2) rfl rfl rfl ?_
     refine g_d rfl ?_
     refine g_op_b (B := r43.2 != 0) rfl rfl rfl ?_ ?_
     ·
      intro hb
      rw [if_neg (b_bne_t hb)] at H
      refine g_d rfl ?_
      try dsimp only [set0,setS]
      refine g_op (v := Value.bool true) rfl rfl rfl ?_
      refine g_d rfl ?_
      refine g_op_not rfl rfl ?_
      refine g_d rfl ?_
      refine g_op (v := Value.bool true) rfl rfl rfl ?_
      refine g_d rfl ?_
      try dsimp only [set0,setS]
      refine g_op (v := Value.bool true) rfl rfl rfl ?_
      refine g_d rfl ?_
      refine g_op_not rfl rfl ?_
      refine g_d rfl ?_
      refine g_op_not rfl rfl ?_
      refine g_d rfl ?_
      refine g_op_not rfl rfl ?_
      refine g_d rfl ?_
      try dsimp only [set0,setS]
      refine g_op (v := Value.bool true) rfl rfl rfl ?_
      refine g_d rfl ?_
      try dsimp only [set0,setS]
      refine g_op (v := Value.bool true) rfl rfl rfl ?_
      refine g_d rfl ?_
      refine g_op_not rfl rfl ?_
      refine g_d rfl ?_
      refine g_op_not rfl rfl ?_
      refine g_d rfl ?_
      try dsimp only [set0,setS]
      refine g_op (v := Value.bool true) rfl rfl rfl ?_
      refine g_d rfl ?_
      try dsimp only [set0,setS]
      refine g_op (v := Value.bool true) rfl rfl rfl ?_
      refine g_d rfl ?_
      refine g_op_not rfl rfl ?_
      refine g_d rfl ?_
      try dsimp only [set0,setS]
      refine g_op_not rfl rfl ?_
      refine g_d rfl ?_
      try dsimp only [set0,setS]
      refine g_op_not rfl rfl ?_
      refine g_d rfl ?_
      try dsimp only [set0,setS]
      refine g_op (v := Value.bool true) rfl rfl rfl ?_
      refine g_d rfl ?_
      try dsimp only [set0,setS]
      refine g_op (v := Value.bool true) rfl rfl rfl ?_
      refine g_d rfl ?_
      refine g_op_not rfl rfl ?_
      refine g_d rfl ?_
      refine g_op_not rfl rfl ?_
      refine g_d rfl ?_
      try dsimp only [set0,setS]
      refine g_op (v := Value.bool true) rfl rfl rfl ?_
      refine g_d rfl ?_
      try dsimp only [set0,setS]
      refine g_ops_nil ?_
      refine g_cond_true rfl ?_
      refine g_seq ?_
      refine g_region ?_
      show G _ _ _ (.inRegion _ [0] :: _) _ _
      refine g_op (v := Value.bool false) rfl rfl rfl ?_
      refine g_d rfl ?_
      try dsimp only [set0,setS]
      refine g_ops_nil ?_
      obtain rfl := Option.some.inj H
      refine g_ret Try.func3 (v := Value.bool false) (res1 rfl rfl) ?_
      have hs : St _ [] _ := St.take (Γ' := [_,_,_,_,_]) hs
      exact ⟨_, rfl, rfl, hs⟩
     ·
      intro hb
      rw [if_pos (b_bne_f hb)] at H
      refine g_d rfl ?_
      try dsimp only [set0,setS]
      refine g_op (v := Value.bool false) rfl rfl rfl ?_
      refine g_d rfl ?_
      refine g_op (v := Value.bool r43.1) rfl rfl rfl ?_
      refine g_d rfl ?_
      refine g_op_b (B := r43.1) rfl rfl rfl ?_ ?_
      ·
       intro hb
       rw [if_pos (b_var_t hb)] at H
       refine g_d rfl ?_
       try dsimp only [set0,setS]
       refine g_op (v := Value.bool true) rfl rfl rfl ?_
       refine g_d rfl ?_
       refine g_op_not rfl rfl ?_
       refine g_d rfl ?_
       refine g_op_not rfl rfl ?_
       refine g_d rfl ?_
       refine g_op_not rfl rfl ?_
       refine g_d rfl ?_
       try dsimp only [set0,setS]
       refine g_op (v := Value.bool true) rfl rfl rfl ?_
       refine g_d rfl ?_
       try dsimp only [set0,setS]
       refine g_op (v := Value.bool true) rfl rfl rfl ?_
       refine g_d rfl ?_
       refine g_op_not rfl rfl ?_
       refine g_d rfl ?_
       refine g_op_not rfl rfl ?_
       refine g_d rfl ?_
       try dsimp only [set0,setS]
       refine g_op (v := Value.bool true) rfl rfl rfl ?_
       refine g_d rfl ?_
       try dsimp only [set0,setS]
       refine g_op (v := Value.bool true) rfl rfl rfl ?_
       refine g_d rfl ?_
       refine g_op_not rfl rfl ?_
       refine g_d rfl ?_
       try dsimp only [set0,setS]
       refine g_op_not rfl rfl ?_
       refine g_d rfl ?_
       try dsimp only [set0,setS]
       refine g_op_not rfl rfl ?_
       refine g_d rfl ?_
       try dsimp only [set0,setS]
       refine g_op (v := Value.bool true) rfl rfl rfl ?_
       refine g_d rfl ?_
       try dsimp only [set0,setS]
       refine g_op (v := Value.bool true) rfl rfl rfl ?_
       refine g_d rfl ?_
       refine g_op_not rfl rfl ?_
       refine g_d rfl ?_
       refine g_op_not rfl rfl ?_
       refine g_d rfl ?_
       try dsimp only [set0,setS]
       refine g_op (v := Value.bool true) rfl rfl rfl ?_
       refine g_d rfl ?_
       try dsimp only [set0,setS]
       refine g_ops_nil ?_
       refine g_cond_true rfl ?_
       refine g_seq ?_
       refine g_region ?_
       show G _ _ _ (.inRegion _ [0] :: _) _ _
       refine g_op (v := Value.bool false) rfl rfl rfl ?_
       refine g_d rfl ?_
       try dsimp only [set0,setS]
       refine g_ops_nil ?_
       obtain rfl := Option.some.inj H
       refine g_ret Try.func3 (v := Value.bool false) (res1 rfl rfl) ?_
       have hs : St _ [] _ := St.take (Γ' := [_,_,_,_,_]) hs
       exact ⟨_, rfl, rfl, hs⟩
      ·
       intro hb
       rw [if_neg (b_var_f hb)] at H
       refine g_d rfl ?_
       try dsimp only [set0,setS]
       refine g_op (v := Value.bool false) rfl rfl rfl ?_
       refine g_d rfl ?_
       refine g_op (v := Value.int .i64 r44.2) rfl rfl rfl ?_
       refine g_d rfl ?_
       refine g_op (v := Value.int .i64 r47.2) rfl rfl rfl ?_
       refine g_d rfl ?_
       refine g_op (v := Value.bool (r44.2 != r47.2)) rfl rfl rfl ?_
       refine g_d rfl ?_
       try dsimp only [set0,setS]
       refine g_op_b (B := r44.2 != r47.2) rfl rfl rfl ?_ ?_
       ·
        intro hb
        rw [if_neg (b_bne_t hb)] at H
        refine g_d rfl ?_
        try dsimp only [set0,setS]
        refine g_op (v := Value.bool true) rfl rfl rfl ?_
        refine g_d rfl ?_
        refine g_op_not rfl rfl ?_
        refine g_d rfl ?_
        refine g_op_not rfl rfl ?_
        refine g_d rfl ?_
        try dsimp only [set0,setS]
        refine g_op (v := Value.bool true) rfl rfl rfl ?_
        refine g_d rfl ?_
        try dsimp only [set0,setS]
        refine g_op (v := Value.bool true) rfl rfl rfl ?_
        refine g_d rfl ?_
        refine g_op_not rfl rfl ?_
        refine g_d rfl ?_
        try dsimp only [set0,setS]
        refine g_op_not rfl rfl ?_
        refine g_d rfl ?_
        try dsimp only [set0,setS]
        refine g_op_not rfl rfl ?_
        refine g_d rfl ?_
        try dsimp only [set0,setS]
        refine g_op (v := Value.bool true) rfl rfl rfl ?_
        refine g_d rfl ?_
        try dsimp only [set0,setS]
        refine g_op (v := Value.bool true) rfl rfl rfl ?_
        refine g_d rfl ?_
        refine g_op_not rfl rfl ?_
        refine g_d rfl ?_
        refine g_op_not rfl rfl ?_
        refine g_d rfl ?_
        try dsimp only [set0,setS]
        refine g_op (v := Value.bool true) rfl rfl rfl ?_
        refine g_d rfl ?_
        try dsimp only [set0,setS]
        refine g_ops_nil ?_
        refine g_cond_true rfl ?_
        refine g_seq ?_
        refine g_region ?_
        show G _ _ _ (.inRegion _ [0] :: _) _ _
        refine g_op (v := Value.bool false) rfl rfl rfl ?_
        refine g_d rfl ?_
        try dsimp only [set0,setS]
        refine g_ops_nil ?_
        obtain rfl := Option.some.inj H
        refine g_ret Try.func3 (v := Value.bool false) (res1 rfl rfl) ?_
        have hs : St _ [] _ := St.take (Γ' := [_,_,_,_,_]) hs
        exact ⟨_, rfl, rfl, hs⟩
       ·
        intro hb
        rw [if_pos (b_bne_f hb)] at H
        refine g_d rfl ?_
        try dsimp only [set0,setS]
        refine g_op (v := Value.bool false) rfl rfl rfl ?_
        refine g_d rfl ?_
        refine g_op (v := Value.int .i64 r44.2) rfl rfl rfl ?_
        refine g_d rfl ?_
        refine g_op (v := Value.bool (r44.2 != 0)) rfl rfl rfl ?_
        refine g_d rfl ?_
        try dsimp only [set0,setS]
        refine g_op_b (B := r44.2 != 0) rfl rfl rfl ?_ ?_
        ·
         intro hb
         rw [if_neg (b_bne_t hb)] at H
         refine g_d rfl ?_
         try dsimp only [set0,setS]
         refine g_op (v := Value.bool true) rfl rfl rfl ?_
         refine g_d rfl ?_
         refine g_op_not rfl rfl ?_
         refine g_d rfl ?_
         try dsimp only [set0,setS]
         refine g_op_not rfl rfl ?_
         refine g_d rfl ?_
         try dsimp only [set0,setS]
         refine g_op_not rfl rfl ?_
         refine g_d rfl ?_
         try dsimp only [set0,setS]
         refine g_op (v := Value.bool true) rfl rfl rfl ?_
         refine g_d rfl ?_
         try dsimp only [set0,setS]
         refine g_op (v := Value.bool true) rfl rfl rfl ?_
         refine g_d rfl ?_
         refine g_op_not rfl rfl ?_
         refine g_d rfl ?_
         refine g_op_not rfl rfl ?_
         refine g_d rfl ?_
         try dsimp only [set0,setS]
         refine g_op (v := Value.bool true) rfl rfl rfl ?_
         refine g_d rfl ?_
         try dsimp only [set0,setS]
         refine g_ops_nil ?_
         refine g_cond_true rfl ?_
         refine g_seq ?_
         refine g_region ?_
         show G _ _ _ (.inRegion _ [0] :: _) _ _
         refine g_op (v := Value.bool false) rfl rfl rfl ?_
         refine g_d rfl ?_
         try dsimp only [set0,setS]
         refine g_ops_nil ?_
         obtain rfl := Option.some.inj H
         refine g_ret Try.func3 (v := Value.bool false) (res1 rfl rfl) ?_
         have hs : St _ [] _ := St.take (Γ' := [_,_,_,_,_]) hs
         exact ⟨_, rfl, rfl, hs⟩
        ·
         intro hb
         rw [if_pos (b_bne_f hb)] at H
         refine g_d rfl ?_
         try dsimp only [set0,setS]
         refine g_op (v := Value.bool false) rfl rfl rfl ?_
         refine g_d rfl ?_
         refine s_loadA rfl rfl (es := ((encA (encI .i64)) r44.1)) rfl rfl (fun _ => rfl) (n := 4) (fun _ => rfl) ((fkA (n := 4) (he := (fkI .i64).len) (h1 := (fkI .i64).one)).len _) (cells_all (hs.cells 3 rfl)) ?_
         refine g_d rfl ?_
         try dsimp only [set0,setS]
         refine s_loadA rfl rfl (es := ((encA (encI .i64)) r47.1)) rfl rfl (fun _ => rfl) (n := 4) (fun _ => rfl) ((fkA (n := 4) (he := (fkI .i64).len) (h1 := (fkI .i64).one)).len _) (cells_all (hs.cells 2 rfl)) ?_
         refine g_d rfl ?_
         try dsimp only [set0,setS]
         refine g_op (v := Value.bool (!decide (r44.1 = r47.1))) rfl rfl (x_neq rfl rfl rfl eq_ar4_25_g (eq_ar4_25 _ _ _)) ?_
         refine g_d rfl ?_
         try dsimp only [set0,setS]
         refine g_op_b (B := !decide (r44.1 = r47.1)) rfl rfl rfl ?_ ?_
         ·
          intro hb
          rw [if_neg (b_ndec_t hb)] at H
          refine g_d rfl ?_
          try dsimp only [set0,setS]
          refine g_op (v := Value.bool true) rfl rfl rfl ?_
          refine g_d rfl ?_
          refine g_op_not rfl rfl ?_
          refine g_d rfl ?_
          refine g_op_not rfl rfl ?_
          refine g_d rfl ?_
          try dsimp only [set0,setS]
          refine g_op (v := Value.bool true) rfl rfl rfl ?_
          refine g_d rfl ?_
          try dsimp only [set0,setS]
          refine g_ops_nil ?_
          refine g_cond_true rfl ?_
          refine g_seq ?_
          refine g_region ?_
          show G _ _ _ (.inRegion _ [0] :: _) _ _
          refine g_op (v := Value.bool false) rfl rfl rfl ?_
          refine g_d rfl ?_
          try dsimp only [set0,setS]
          refine g_ops_nil ?_
          obtain rfl := Option.some.inj H
          refine g_ret Try.func3 (v := Value.bool false) (res1 rfl rfl) ?_
          have hs : St _ [] _ := St.take (Γ' := [_,_,_,_,_]) hs
          exact ⟨_, rfl, rfl, hs⟩
         ·
          intro hb
          rw [if_pos (b_ndec_f hb)] at H
          refine g_d rfl ?_
          try dsimp only [set0,setS]
          refine g_op (v := Value.bool false) rfl rfl rfl ?_
          refine g_d rfl ?_
          refine g_op (v := Value.int .i64 r50.2.2) rfl rfl rfl ?_
          refine g_d rfl ?_
          refine g_op_b (B := r50.2.2 != 0) rfl rfl rfl ?_ ?_
          ·
           intro hb
           rw [if_neg (b_bne_t hb)] at H
           refine g_d rfl ?_
           try dsimp only [set0,setS]
           refine g_op (v := Value.bool true) rfl rfl rfl ?_
           refine g_d rfl ?_
           try dsimp only [set0,setS]
           refine g_ops_nil ?_
           refine g_cond_true rfl ?_
           refine g_seq ?_
           refine g_region ?_
           show G _ _ _ (.inRegion _ [0] :: _) _ _
           refine g_op (v := Value.bool false) rfl rfl rfl ?_
           refine g_d rfl ?_
           try dsimp only [set0,setS]
           refine g_ops_nil ?_
           obtain rfl := Option.some.inj H
           refine g_ret Try.func3 (v := Value.bool false) (res1 rfl rfl) ?_
           have hs : St _ [] _ := St.take (Γ' := [_,_,_,_,_]) hs
           exact ⟨_, rfl, rfl, hs⟩
          ·
           intro hb
           rw [if_pos (b_bne_f hb)] at H
           refine g_d rfl ?_
           try dsimp only [set0,setS]
           refine g_op (v := Value.bool false) rfl rfl rfl ?_
           refine g_d rfl ?_
           try dsimp only [set0,setS]
           refine g_ops_nil ?_
           refine g_cond_false rfl ?_
           refine g_skip ?_
           refine g_seq ?_
           refine g_region ?_
           show G _ _ _ (.inRegion _ [0, 1, 2, 3, 4, 5, 6, 7, 8, 9] :: _) _ _
           refine g_op (v := Value.int .i64 r7.1) rfl rfl rfl ?_
           refine g_d rfl ?_
           refine s_loadA rfl rfl (es := ((encA (encI .i64)) r50.1)) rfl rfl (fun _ => rfl) (n := 4) (fun _ => rfl) ((fkA (n := 4) (he := (fkI .i64).len) (h1 := (fkI .i64).one)).len _) (cells_all (hs.cells 1 rfl)) ?_
           refine g_d rfl ?_
           try dsimp only [set0,setS]
           refine g_op (v := Value.int .i64 r41.1) rfl rfl rfl ?_
           refine g_d rfl ?_
           refine g_op (v := Value.int .i64 (i64w (r41.1 - 1))) rfl rfl rfl ?_
           refine g_d rfl ?_
           try dsimp only [set0,setS]
           obtain ⟨r55, Hr55, H⟩ := bind_get H
           refine s_call (args := [Value.int .i64 r7.1, Value.agg ((encA (encI .i64)) r50.1).toArray, Value.int .i64 (i64w (r41.1 - 1))]) rfl rfl (x_call rfl (callFunc_enter Try.func17 rfl rfl) rfl) (impl_CanFindIn.calls (a1 := r7.1) (a2 := r50.1) (a3 := i64w (r41.1 - 1)) Hr55) ?_
           rintro _ w ⟨rfl, hs2⟩
           have hs : St _ [_,_,_,_,_] _ := hs.call hs2
           refine g_d rfl ?_
           try dsimp only [set0,setS]
           refine g_op (v := Value.tuple #[Value.bool r55.1, Value.int .i64 r55.2]) rfl rfl rfl ?_
           refine g_d rfl ?_
           refine g_op (v := Value.bool r55.1) rfl rfl rfl ?_
           refine g_d rfl ?_
           refine g_op (v := Value.int .i64 r55.2) rfl rfl rfl ?_
           refine g_d rfl ?_
           refine g_op (v := Value.bool r55.1) rfl rfl rfl ?_
           refine g_d rfl ?_
           try dsimp only [set0,setS]
           refine g_op (v := Value.int .i64 r55.2) rfl rfl rfl ?_
           refine g_d rfl ?_
           try dsimp only [set0,setS]
           refine g_ops_nil ?_
           refine g_seq ?_
           refine g_region ?_
           show G _ _ _ (.inRegion _ [0, 1, 2, 3, 4, 5, 6, 7, 8, 9] :: _) _ _
           refine g_op (v := Value.int .i64 r7.1) rfl rfl rfl ?_
           refine g_d rfl ?_
           refine s_loadA rfl rfl (es := ((encA (encI .i64)) r50.2.1)) rfl rfl (fun _ => rfl) (n := 4) (fun _ => rfl) ((fkA (n := 4) (he := (fkI .i64).len) (h1 := (fkI .i64).one)).len _) (cells_all (hs.cells 0 rfl)) ?_
           refine g_d rfl ?_
           try dsimp only [set0,setS]
           refine g_op (v := Value.int .i64 r41.1) rfl rfl rfl ?_
           refine g_d rfl ?_
           refine g_op (v := Value.int .i64 (i64w (r41.1 - 1))) rfl rfl rfl ?_
           refine g_d rfl ?_
           try dsimp only [set0,setS]
           obtain ⟨r56, Hr56, H⟩ := bind_get H
           refine s_call (args := [Value.int .i64 r7.1, Value.agg ((encA (encI .i64)) r50.2.1).toArray, Value.int .i64 (i64w (r41.1 - 1))]) rfl rfl (x_call rfl (callFunc_enter Try.func17 rfl rfl) rfl) (impl_CanFindIn.calls (a1 := r7.1) (a2 := r50.2.1) (a3 := i64w (r41.1 - 1)) Hr56) ?_
           rintro _ w ⟨rfl, hs2⟩
           have hs : St _ [_,_,_,_,_] _ := hs.call hs2
           refine g_d rfl ?_
           try dsimp only [set0,setS]
           refine g_op (v := Value.tuple #[Value.bool r56.1, Value.int .i64 r56.2]) rfl rfl rfl ?_
           refine g_d rfl ?_
           refine g_op (v := Value.bool r56.1) rfl rfl rfl ?_
           refine g_d rfl ?_
           refine g_op (v := Value.int .i64 r56.2) rfl rfl rfl ?_
           refine g_d rfl ?_
           refine g_op (v := Value.bool r56.1) rfl rfl rfl ?_
           refine g_d rfl ?_
           try dsimp only [set0,setS]
           refine g_op (v := Value.int .i64 r56.2) rfl rfl rfl ?_
           refine g_d rfl ?_
           try dsimp only [set0,setS]
           refine g_ops_nil ?_
           refine g_seq ?_
           refine g_region ?_
           show G _ _ _ (.inRegion _ [0, 1, 2, 3, 4, 5, 6, 7, 8, 9, 10, 11, 12] :: _) _ _
           refine g_op (v := Value.int .i64 r55.2) rfl rfl rfl ?_
           refine g_d rfl ?_
           refine g_op_b (B := r55.2 == 0) rfl rfl rfl ?_ ?_
           ·
            intro hb
            rw [if_pos (b_beq_t hb)] at H
            refine g_d rfl ?_
            try dsimp only [set0,setS]
            refine g_op (v := Value.bool true) rfl rfl rfl ?_
            refine g_d rfl ?_
            refine g_op (v := Value.bool r55.1) rfl rfl rfl ?_
            refine g_d rfl ?_
            refine g_op_b (B := r55.1) rfl rfl rfl ?_ ?_
            ·
             intro hb
             rw [if_pos (b_var_t hb)] at H
             refine g_d rfl ?_
             try dsimp only [set0,setS]
             refine g_op (v := Value.bool true) rfl rfl rfl ?_
             refine g_d rfl ?_
             refine g_op (v := Value.int .i64 r56.2) rfl rfl rfl ?_
             refine g_d rfl ?_
             refine g_op (v := Value.bool (r56.2 == 0)) rfl rfl rfl ?_
             refine g_d rfl ?_
             try dsimp only [set0,setS]
             refine g_op_b (B := r56.2 == 0) rfl rfl rfl ?_ ?_
             ·
              intro hb
              rw [if_pos (b_beq_t hb)] at H
              refine g_d rfl ?_
              try dsimp only [set0,setS]
              refine g_op (v := Value.bool true) rfl rfl rfl ?_
              refine g_d rfl ?_
              refine g_op (v := Value.bool r56.1) rfl rfl rfl ?_
              refine g_d rfl ?_
              refine g_op (v := Value.bool r56.1) rfl rfl rfl ?_
              refine g_d rfl ?_
              try dsimp only [set0,setS]
              refine g_op (v := Value.bool r56.1) rfl rfl rfl ?_
              refine g_d rfl ?_
              try dsimp only [set0,setS]
              refine g_ops_nil ?_
              obtain rfl := Option.some.inj H
              refine g_ret Try.func3 (v := Value.bool r56.1) (res1 rfl rfl) ?_
              have hs : St _ [] _ := St.take (Γ' := [_,_,_,_,_]) hs
              exact ⟨_, rfl, rfl, hs⟩
             ·
              intro hb
              rw [if_neg (b_beq_f hb)] at H
              refine g_d rfl ?_
              try dsimp only [set0,setS]
              refine g_op (v := Value.bool false) rfl rfl rfl ?_
              refine g_d rfl ?_
              refine g_op_not rfl rfl ?_
              refine g_d rfl ?_
              refine g_op (v := Value.bool false) rfl rfl rfl ?_
              refine g_d rfl ?_
              try dsimp only [set0,setS]
              refine g_op (v := Value.bool false) rfl rfl rfl ?_
              refine g_d rfl ?_
              try dsimp only [set0,setS]
              refine g_ops_nil ?_
              obtain rfl := Option.some.inj H
              refine g_ret Try.func3 (v := Value.bool false) (res1 rfl rfl) ?_
              have hs : St _ [] _ := St.take (Γ' := [_,_,_,_,_]) hs
              exact ⟨_, rfl, rfl, hs⟩
            ·
             intro hb
             rw [if_neg (b_var_f hb)] at H
             refine g_d rfl ?_
             try dsimp only [set0,setS]
             refine g_op (v := Value.bool false) rfl rfl rfl ?_
             refine g_d rfl ?_
             refine g_op_not rfl rfl ?_
             refine g_d rfl ?_
             refine g_op_not rfl rfl ?_
             refine g_d rfl ?_
             try dsimp only [set0,setS]
             refine g_op (v := Value.bool false) rfl rfl rfl ?_
             refine g_d rfl ?_
             try dsimp only [set0,setS]
             refine g_op (v := Value.bool false) rfl rfl rfl ?_
             refine g_d rfl ?_
             refine g_op_not rfl rfl ?_
             refine g_d rfl ?_
             refine g_op (v := Value.bool false) rfl rfl rfl ?_
             refine g_d rfl ?_
             try dsimp only [set0,setS]
             refine g_op (v := Value.bool false) rfl rfl rfl ?_
             refine g_d rfl ?_
             try dsimp only [set0,setS]
             refine g_ops_nil ?_
             obtain rfl := Option.some.inj H
             refine g_ret Try.func3 (v := Value.bool false) (res1 rfl rfl) ?_
             have hs : St _ [] _ := St.take (Γ' := [_,_,_,_,_]) hs
             exact ⟨_, rfl, rfl, hs⟩
           ·
            intro hb
            rw [if_neg (b_beq_f hb)] at H
            refine g_d rfl ?_
            try dsimp only [set0,setS]
            refine g_op (v := Value.bool false) rfl rfl rfl ?_
            refine g_d rfl ?_
            refine g_op_not rfl rfl ?_
            refine g_d rfl ?_
            refine g_op (v := Value.bool false) rfl rfl rfl ?_
            refine g_d rfl ?_
            try dsimp only [set0,setS]
            refine g_op (v := Value.bool false) rfl rfl rfl ?_
            refine g_d rfl ?_
            refine g_op_not rfl rfl ?_
            refine g_d rfl ?_
            refine g_op_not rfl rfl ?_
            refine g_d rfl ?_
            try dsimp only [set0,setS]
            refine g_op (v := Value.bool false) rfl rfl rfl ?_
            refine g_d rfl ?_
            try dsimp only [set0,setS]
            refine g_op (v := Value.bool false) rfl rfl rfl ?_
            refine g_d rfl ?_
            refine g_op_not rfl rfl ?_
            refine g_d rfl ?_
            refine g_op (v := Value.bool false) rfl rfl rfl ?_
            refine g_d rfl ?_
            try dsimp only [set0,setS]
            refine g_op (v := Value.bool false) rfl rfl rfl ?_
            refine g_d rfl ?_
            try dsimp only [set0,setS]
            refine g_ops_nil ?_
            obtain rfl := Option.some.inj H
            refine g_ret Try.func3 (v := Value.bool false) (res1 rfl rfl) ?_
            have hs : St _ [] _ := St.take (Γ' := [_,_,_,_,_]) hs
            exact ⟨_, rfl, rfl, hs⟩
   ·
    intro hb
    rw [if_neg (b_var_f hb)] at H
    refine g_d rfl ?_
    refine g_op (v := Value.bool true) rfl rfl rfl ?_
    refine g_d rfl ?_
    try dsimp only [set0,setS]
    refine g_op (v := Value.bool true) rfl rfl rfl ?_
    refine g_d rfl ?_
    try dsimp only [set0,setS]
    refine g_ops_nil ?_
    refine g_cond_true rfl ?_
    refine g_seq ?_
    refine g_region ?_
    show G _ _ _ (.inRegion _ [0] :: _) _ _
    refine g_op (v := Value.bool false) rfl rfl rfl ?_
    refine g_d rfl ?_
    try dsimp only [set0,setS]
    refine g_ops_nil ?_
    obtain rfl := Option.some.inj H
    refine g_ret Try.func3 (v := Value.bool false) (res1 rfl rfl) ?_
    have hs : St _ [] _ := St.take (Γ' := [_]) hs
    exact ⟨_, rfl, rfl, hs⟩

/- a part of function 3 laws_FnWeighed -/
set_option maxHeartbeats 8000000 in
set_option maxRecDepth 100000 in
theorem laws_FnWeighed.seg1 {N : Nat} {a1 : (List Int)} {a3 : (List Int)} {v2 : Value} {v4 : Value} {r40 : (Int × Int)} {r7 : (Int × (Ar Int 4))} {r41 : (Int × Int)} {r39 : (Int × Int)} {b8 : Nat} {w0 : World} {r : Bool} (hr0 : RdRow (K.int .u8) w0 v2 a1) (hr1 : RdRow (K.int .u8) w0 v4 a3) :
    ∀ t w, (fun t w => laws_FnWeighed.j3 N r40 r7 r41 r39 = some r ∧ Fr t (fun O => (O 0::O 1::O 2::O 3::O 4::Value.int .i64 r7.1::Value.pointer (some ⟨b8, 0, none⟩)::O 7::O 8::O 9::O 10::O 11::O 12::O 13::O 14::O 15::O 16::O 17::O 18::O 19::O 20::O 21::O 22::O 23::O 24::O 25::O 26::Value.int .i64 r39.1::O 28::O 29::Value.int .i64 r40.2::Value.int .i64 r41.1::O 32::O 33::O 34::O 35::O 36::O 37::O 38::O 39::O 40::O 41::O 42::O 43::O 44::O 45::O 46::O 47::O 48::O 49::O 50::O 51::O 52::O 53::O 54::O 55::O 56::O 57::O 58::O 59::O 60::O 61::O 62::O 63::O 64::O 65::O 66::O 67::O 68::O 69::O 70::O 71::O 72::O 73::O 74::O 75::O 76::O 77::O 78::O 79::O 80::O 81::O 82::O 83::O 84::O 85::O 86::O 87::O 88::O 89::O 90::O 91::O 92::O 93::O 94::O 95::O 96::O 97::O 98::O 99::O 100::O 101::O 102::O 103::O 104::O 105::O 106::O 107::O 108::O 109::O 110::O 111::O 112::O 113::O 114::O 115::O 116::O 117::O 118::O 119::O 120::O 121::O 122::O 123::O 124::O 125::O 126::O 127::O 128::O 129::O 130::O 131::O 132::O 133::O 134::O 135::O 136::O 137::O 138::O 139::O 140::O 141::O 142::O 143::O 144::O 145::O 146::O 147::O 148::O 149::O 150::O 151::O 152::O 153::O 154::O 155::O 156::O 157::O 158::O 159::O 160::O 161::O 162::O 163::O 164::O 165::O 166::O 167::O 168::O 169::O 170::O 171::O 172::O 173::O 174::O 175::O 176::O 177::O 178::O 179::O 180::O 181::O 182::O 183::O 184::O 185::O 186::O 187::O 188::O 189::O 190::O 191::O 192::O 193::O 194::O 195::O 196::O 197::O 198::O 199::O 200::O 201::O 202::O 203::O 204::O 205::O 206::O 207::O 208::O 209::O 210::O 211::O 212::O 213::O 214::O 215::O 216::O 217::O 218::O 219::O 220::O 221::O 222::O 223::O 224::O 225::O 226::O 227::O 228::O 229::O 230::O 231::O 232::O 233::O 234::O 235::O 236::O 237::O 238::O 239::O 240::O 241::O 242::O 243::O 244::O 245::O 246::O 247::O 248::O 249::O 250::O 251::O 252::O 253::O 254::O 255::O 256::O 257::O 258::O 259::O 260::O 261::O 262::O 263::O 264::O 265::O 266::O 267::O 268::O 269::O 270::O 271::O 272::O 273::O 274::O 275::O 276::O 277::O 278::O 279::O 280::O 281::O 282::O 283::O 284::O 285::O 286::O 287::O 288::O 289::O 290::O 291::O 292::O 293::O 294::O 295::O 296::O 297::O 298::O 299::O 300::O 301::O 302::O 303::O 304::O 305::O 306::O 307::O 308::O 309::O 310::O 311::O 312::O 313::O 314::O 315::O 316::O 317::O 318::O 319::O 320::O 321::O 322::O 323::O 324::O 325::O 326::O 327::O 328::O 329::O 330::O 331::O 332::O 333::O 334::O 335::O 336::O 337::O 338::O 339::O 340::O 341::O 342::O 343::O 344::O 345::O 346::O 347::O 348::O 349::O 350::O 351::O 352::O 353::O 354::O 355::O 356::O 357::O 358::O 359::O 360::O 361::O 362::O 363::O 364::[] : List Value)) ∧ St w0 [Cells b8 ((encA (encI .i64)) r7.2) 25] w) t w → G Try.prog 3 (fun e w => ∃ v, e = .returned v ∧ laws_FnWeighed.post w0 r v w) [.code (Code.at_ (Try.f3.body.getD .skip) [1, 1, 1, 1, 1, 1, 1, 1, 1, 1, 1, 1, 1, 1, 1, 1, 1, 1, 1, 1, 1])] t w := by
  rintro t w ⟨H, hf, hs⟩
  obtain ⟨O, rfl⟩ := hf.open
  try dsimp only
  unfold laws_FnWeighed.j3 at H
  refine g_seq ?_
  refine g_region ?_
  show G _ _ _ (.inRegion _ [0, 1, 2, 3, 4, 5, 6, 7, 8, 9, 10, 11] :: _) _ _
  obtain ⟨g3, H⟩ := ite_get H
  refine s_idxA (n := 0) (m := 1) rfl (fun _ => rfl) g3.1 g3.2 rfl rfl rfl rfl rfl ?_
  refine g_d rfl ?_
  try dsimp only [set0,setS]
  refine s_load1 rfl rfl (v := Value.int .i64 (r7.2.get 0 0)) rfl rfl (fun _ => rfl) (by rw [Nat.zero_add]; exact cells_load (hs.cells 0 rfl) _ _ (encA_at (fkI .i64).len _ _ 0 g3.1 g3.2)) ?_
  refine g_d rfl ?_
  try dsimp only [set0,setS]
  obtain ⟨g4, H⟩ := ite_get H
  refine s_idxA (n := 1) (m := 1) rfl (fun _ => rfl) g4.1 g4.2 rfl rfl rfl rfl rfl ?_
  refine g_d rfl ?_
  try dsimp only [set0,setS]
  refine s_load1 rfl rfl (v := Value.int .i64 (r7.2.get 1 0)) rfl rfl (fun _ => rfl) (by rw [Nat.zero_add]; exact cells_load (hs.cells 0 rfl) _ _ (encA_at (fkI .i64).len _ _ 0 g4.1 g4.2)) ?_
  refine g_d rfl ?_
  try dsimp only [set0,setS]
  refine g_op (v := Value.int .i64 (i64w ((r7.2.get 0 0) + (r7.2.get 1 0)))) rfl rfl rfl ?_
  refine g_d rfl ?_
  try dsimp only [set0,setS]
  obtain ⟨g5, H⟩ := ite_get H
  refine s_idxA (n := 2) (m := 1) rfl (fun _ => rfl) g5.1 g5.2 rfl rfl rfl rfl rfl ?_
  refine g_d rfl ?_
  try dsimp only [set0,setS]
  refine s_load1 rfl rfl (v := Value.int .i64 (r7.2.get 2 0)) rfl rfl (fun _ => rfl) (by rw [Nat.zero_add]; exact cells_load (hs.cells 0 rfl) _ _ (encA_at (fkI .i64).len _ _ 0 g5.1 g5.2)) ?_
  refine g_d rfl ?_
  try dsimp only [set0,setS]
  refine g_op (v := Value.int .i64 (i64w ((i64w ((r7.2.get 0 0) + (r7.2.get 1 0))) + (r7.2.get 2 0)))) rfl rfl rfl ?_
  refine g_d rfl ?_
  try dsimp only [set0,setS]
  obtain ⟨g6, H⟩ := ite_get H
  refine s_idxA (n := 3) (m := 1) rfl (fun _ => rfl) g6.1 g6.2 rfl rfl rfl rfl rfl ?_
  refine g_d rfl ?_
  try dsimp only [set0,setS]
  refine s_load1 rfl rfl (v := Value.int .i64 (r7.2.get 3 0)) rfl rfl (fun _ => rfl) (by rw [Nat.zero_add]; exact cells_load (hs.cells 0 rfl) _ _ (encA_at (fkI .i64).len _ _ 0 g6.1 g6.2)) ?_
  refine g_d rfl ?_
  try dsimp only [set0,setS]
  refine g_op (v := Value.int .i64 (i64w ((i64w ((i64w ((r7.2.get 0 0) + (r7.2.get 1 0))) + (r7.2.get 2 0))) + (r7.2.get 3 0)))) rfl rfl rfl ?_
  refine g_d rfl ?_
  try dsimp only [set0,setS]
  refine g_op (v := Value.int .i64 (i64w ((i64w ((i64w ((r7.2.get 0 0) + (r7.2.get 1 0))) + (r7.2.get 2 0))) + (r7.2.get 3 0)))) rfl rfl rfl ?_
  refine g_d rfl ?_
  try dsimp only [set0,setS]
  refine g_ops_nil ?_
  refine g_seq ?_
  refine g_seq ?_
  refine g_region ?_
  show G _ _ _ (.inRegion _ [0, 1] :: _) _ _
  refine g_op (v := Value.int .i64 r40.2) rfl rfl rfl ?_
  refine g_d rfl ?_
  refine g_op_b (B := r40.2 == 6) rfl rfl rfl ?_ ?_
  ·
   intro hb
   rw [if_pos (b_beq_t hb)] at H
   refine g_d rfl ?_
   try dsimp only [set0,setS]
   refine g_ops_nil ?_
   refine g_cond_true rfl ?_
   refine g_seq ?_
   refine g_region ?_
   show G _ _ _ (.inRegion _ [0] :: _) _ _
   refine g_op (v := Value.bool true) rfl rfl rfl ?_
   refine g_d rfl ?_
   try dsimp only [set0,setS]
   refine g_ops_nil ?_
   obtain rfl := Option.some.inj H
   refine g_ret Try.func3 (v := Value.bool true) (res1 rfl rfl) ?_
   have hs : St _ [] _ := St.take (Γ' := [_]) hs
   exact ⟨_, rfl, rfl, hs⟩
  ·
   intro hb
   rw [if_neg (b_beq_f hb)] at H
   refine g_d rfl ?_
   try dsimp only [set0,setS]
   refine g_ops_nil ?_
   refine g_cond_false rfl ?_
   refine g_skip ?_
   refine g_seq ?_
   refine g_seq ?_
   refine g_join2 (J := (fun t w => laws_FnWeighed.j4 N r7 r41 = some r ∧ Fr t (fun O => (O 0::O 1::O 2::O 3::O 4::Value.int .i64 r7.1::Value.pointer (some ⟨b8, 0, none⟩)::O 7::O 8::O 9::O 10::O 11::O 12::O 13::O 14::O 15::O 16::O 17::O 18::O 19::O 20::O 21::O 22::O 23::O 24::O 25::O 26::O 27::O 28::O 29::O 30::Value.int .i64 r41.1::O 32::O 33::O 34::O 35::O 36::O 37::O 38::O 39::O 40::O 41::O 42::O 43::O 44::O 45::O 46::O 47::O 48::O 49::O 50::O 51::O 52::O 53::O 54::O 55::O 56::O 57::O 58::O 59::O 60::O 61::O 62::O 63::O 64::O 65::O 66::O 67::O 68::O 69::O 70::O 71::O 72::O 73::O 74::O 75::O 76::O 77::O 78::O 79::O 80::O 81::O 82::O 83::O 84::O 85::O 86::O 87::O 88::O 89::O 90::O 91::O 92::O 93::O 94::O 95::O 96::O 97::O 98::O 99::O 100::O 101::O 102::O 103::O 104::O 105::O 106::O 107::O 108::O 109::O 110::O 111::O 112::O 113::O 114::O 115::O 116::O 117::O 118::O 119::O 120::O 121::O 122::O 123::O 124::O 125::O 126::O 127::O 128::O 129::O 130::O 131::O 132::O 133::O 134::O 135::O 136::O 137::O 138::O 139::O 140::O 141::O 142::O 143::O 144::O 145::O 146::O 147::O 148::O 149::O 150::O 151::O 152::O 153::O 154::O 155::O 156::O 157::O 158::O 159::O 160::O 161::O 162::O 163::O 164::O 165::O 166::O 167::O 168::O 169::O 170::O 171::O 172::O 173::O 174::O 175::O 176::O 177::O 178::O 179::O 180::O 181::O 182::O 183::O 184::O 185::O 186::O 187::O 188::O 189::O 190::O 191::O 192::O 193::O 194::O 195::O 196::O 197::O 198::O 199::O 200::O 201::O 202::O 203::O 204::O 205::O 206::O 207::O 208::O 209::O 210::O 211::O 212::O 213::O 214::O 215::O 216::O 217::O 218::O 219::O 220::O 221::O 222::O 223::O 224::O 225::O 226::O 227::O 228::O 229::O 230::O 231::O 232::O 233::O 234::O 235::O 236::O 237::O 238::O 239::O 240::O 241::O 242::O 243::O 244::O 245::O 246::O 247::O 248::O 249::O 250::O 251::O 252::O 253::O 254::O 255::O 256::O 257::O 258::O 259::O 260::O 261::O 262::O 263::O 264::O 265::O 266::O 267::O 268::O 269::O 270::O 271::O 272::O 273::O 274::O 275::O 276::O 277::O 278::O 279::O 280::O 281::O 282::O 283::O 284::O 285::O 286::O 287::O 288::O 289::O 290::O 291::O 292::O 293::O 294::O 295::O 296::O 297::O 298::O 299::O 300::O 301::O 302::O 303::O 304::O 305::O 306::O 307::O 308::O 309::O 310::O 311::O 312::O 313::O 314::O 315::O 316::O 317::O 318::O 319::O 320::O 321::O 322::O 323::O 324::O 325::O 326::O 327::O 328::O 329::O 330::O 331::O 332::O 333::O 334::O 335::O 336::O 337::O 338::O 339::O 340::O 341::O 342::O 343::O 344::O 345::O 346::O 347::O 348::O 349::O 350::O 351::O 352::O 353::O 354::O 355::O 356::O 357::O 358::O 359::O 360::O 361::O 362::O 363::O 364::[] : List Value)) ∧ St w0 [Cells b8 ((encA (encI .i64)) r7.2) 25] w)) ?_ ?_
   · exact laws_FnWeighed.seg0 hr0 hr1
   ·
    intro ha
    refine g_region ?_
    show G _ _ _ (.inRegion _ [0, 1, 2, 3, 4, 5, 6, 7, 8, 9, 10, 11, 12, 13, 14] :: _) _ _
    refine g_op (v := Value.int .i64 (i64w ((i64w ((i64w ((r7.2.get 0 0) + (r7.2.get 1 0))) + (r7.2.get 2 0))) + (r7.2.get 3 0)))) rfl rfl rfl ?_
    refine g_d rfl ?_
    refine g_op_b (B := decide ((i64w ((i64w ((i64w ((r7.2.get 0 0) + (r7.2.get 1 0))) + (r7.2.get 2 0))) + (r7.2.get 3 0))) > 1)) rfl rfl rfl ?_ ?_
    ·
     intro hb
     rw [if_pos (b_dec_t hb)] at H
     refine g_d rfl ?_
     try dsimp only [set0,setS]
     refine g_op (v := Value.bool true) rfl rfl rfl ?_
     refine g_d rfl ?_
     refine g_op (v := Value.int .i64 r41.1) rfl rfl rfl ?_
     refine g_d rfl ?_
     refine g_op (v := Value.int .i64 r39.1) rfl rfl rfl ?_
     refine g_d rfl ?_
     refine g_op (v := Value.bool (decide (r41.1 < r39.1))) rfl rfl rfl ?_
     refine g_d rfl ?_
     try dsimp only [set0,setS]
     refine g_op_b (B := decide (r41.1 < r39.1)) rfl rfl rfl ?_ ?_
     ·
      intro hb
      rw [if_pos (b_dec_t hb)] at H
      refine g_d rfl ?_
      try dsimp only [set0,setS]
      refine g_op (v := Value.bool true) rfl rfl rfl ?_
      refine g_d rfl ?_
      refine g_op_not rfl rfl ?_
      refine g_d rfl ?_
      refine g_op_not rfl rfl ?_
      refine g_d rfl ?_
      try dsimp only [set0,setS]
      refine g_op_not rfl rfl ?_
      refine g_d rfl ?_
      refine g_op_not rfl rfl ?_
      refine g_d rfl ?_
      refine g_op_not rfl rfl ?_
      refine g_d rfl ?_
      try dsimp only [set0,setS]
      refine g_op_not rfl rfl ?_
      refine g_d rfl ?_
      try dsimp only [set0,setS]
      refine g_op (v := Value.bool true) rfl rfl rfl ?_
      refine g_d rfl ?_
      try dsimp only [set0,setS]
      refine g_ops_nil ?_
      refine g_cond_true rfl ?_
      refine g_seq ?_
      refine g_region ?_
      show G _ _ _ (.inRegion _ [0] :: _) _ _
      refine g_op (v := Value.bool false) rfl rfl rfl ?_
      refine g_d rfl ?_
      try dsimp only [set0,setS]
      refine g_ops_nil ?_
      obtain rfl := Option.some.inj H
      refine g_ret Try.func3 (v := Value.bool false) (res1 rfl rfl) ?_
      have hs : St _ [] _ := St.take (Γ' := [_]) hs
      exact ⟨_, rfl, rfl, hs⟩
     ·
      intro hb
      rw [if_neg (b_dec_f hb)] at H
      refine g_d rfl ?_
      try dsimp only [set0,setS]
      refine g_op (v := Value.bool false) rfl rfl rfl ?_
      refine g_d rfl ?_
      refine g_op (v := Value.int .i64 (i64w ((i64w ((i64w ((r7.2.get 0 0) + (r7.2.get 1 0))) + (r7.2.get 2 0))) + (r7.2.get 3 0)))) rfl rfl rfl ?_
      refine g_d rfl ?_
      refine g_op_b (B := decide ((i64w ((i64w ((i64w ((r7.2.get 0 0) + (r7.2.get 1 0))) + (r7.2.get 2 0))) + (r7.2.get 3 0))) ≤ 1)) rfl rfl rfl ?_ ?_
      ·
       intro hb
       rw [if_pos (b_dec_t hb)] at H
       refine g_d rfl ?_
       try dsimp only [set0,setS]
       refine g_op (v := Value.bool true) rfl rfl rfl ?_
       refine g_d rfl ?_
       refine g_op (v := Value.int .i64 r41.1) rfl rfl rfl ?_
       refine g_d rfl ?_
       refine g_op (v := Value.bool (r41.1 != 0)) rfl rfl rfl ?_
       refine g_d rfl ?_
       try dsimp only [set0,setS]
       refine g_op_b (B := r41.1 != 0) rfl rfl rfl ?_ ?_
       ·
        intro hb
        rw [if_neg (b_bne_t hb)] at H
        refine g_d rfl ?_
        try dsimp only [set0,setS]
        refine g_op (v := Value.bool true) rfl rfl rfl ?_
        refine g_d rfl ?_
        try dsimp only [set0,setS]
        refine g_ops_nil ?_
        refine g_cond_true rfl ?_
        refine g_seq ?_
        refine g_region ?_
        show G _ _ _ (.inRegion _ [0] :: _) _ _
        refine g_op (v := Value.bool false) rfl rfl rfl ?_
        refine g_d rfl ?_
        try dsimp only [set0,setS]
        refine g_ops_nil ?_
        obtain rfl := Option.some.inj H
        refine g_ret Try.func3 (v := Value.bool false) (res1 rfl rfl) ?_
        have hs : St _ [] _ := St.take (Γ' := [_]) hs
        exact ⟨_, rfl, rfl, hs⟩
       ·
        intro hb
        rw [if_pos (b_bne_f hb)] at H
        refine g_d rfl ?_
        try dsimp only [set0,setS]
        refine g_op (v := Value.bool false) rfl rfl rfl ?_
        refine g_d rfl ?_
        try dsimp only [set0,setS]
        refine g_ops_nil ?_
        refine g_cond_false rfl ?_
        refine g_skip ?_
        have hs := hs.pull 0 rfl
        have hs : St _ [_] _ := St.take (Γ' := []) hs
        exact ha _ _ ⟨H, rfl, hs⟩
      ·
       intro hb
       rw [if_neg (b_dec_f hb)] at H
       refine g_d rfl ?_
       try dsimp only [set0,setS]
       refine g_op (v := Value.bool false) rfl rfl rfl ?_
       refine g_d rfl ?_
       refine g_op_not rfl rfl ?_
       refine g_d rfl ?_
       refine g_op_not rfl rfl ?_
       refine g_d rfl ?_
       try dsimp only [set0,setS]
       refine g_op (v := Value.bool false) rfl rfl rfl ?_
       refine g_d rfl ?_
       try dsimp only [set0,setS]
       refine g_op (v := Value.bool false) rfl rfl rfl ?_
       refine g_d rfl ?_
       try dsimp only [set0,setS]
       refine g_ops_nil ?_
       refine g_cond_false rfl ?_
       refine g_skip ?_
       have hs := hs.pull 0 rfl
       have hs : St _ [_] _ := St.take (Γ' := []) hs
       exact ha _ _ ⟨H, rfl, hs⟩
    ·
     intro hb
     rw [if_neg (b_dec_f hb)] at H
     refine g_d rfl ?_
     try dsimp only [set0,setS]
     refine g_op (v := Value.bool false) rfl rfl rfl ?_
     refine g_d rfl ?_
     refine g_op_not rfl rfl ?_
     refine g_d rfl ?_
     refine g_op_not rfl rfl ?_
     refine g_d rfl ?_
     refine g_op_not rfl rfl ?_
     refine g_d rfl ?_
     try dsimp only [set0,setS]
     refine g_op (v := Value.bool false) rfl rfl rfl ?_
     refine g_d rfl ?_
     try dsimp only [set0,setS]
     refine g_op (v := Value.bool false) rfl rfl rfl ?_
     refine g_d rfl ?_
     refine g_op (v := Value.int .i64 (i64w ((i64w ((i64w ((r7.2.get 0 0) + (r7.2.get 1 0))) + (r7.2.get 2 0))) + (r7.2.get 3 0)))) rfl rfl rfl ?_
     refine g_d rfl ?_
     refine g_op_b (B := decide ((i64w ((i64w ((i64w ((r7.2.get 0 0) + (r7.2.get 1 0))) + (r7.2.get 2 0))) + (r7.2.get 3 0))) ≤ 1)) rfl rfl rfl ?_ ?_
     ·
      intro hb
      rw [if_pos (b_dec_t hb)] at H
      refine g_d rfl ?_
      try dsimp only [set0,setS]
      refine g_op (v := Value.bool true) rfl rfl rfl ?_
      refine g_d rfl ?_
      refine g_op (v := Value.int .i64 r41.1) rfl rfl rfl ?_
      refine g_d rfl ?_
      refine g_op (v := Value.bool (r41.1 != 0)) rfl rfl rfl ?_
      refine g_d rfl ?_
      try dsimp only [set0,setS]
      refine g_op_b (B := r41.1 != 0) rfl rfl rfl ?_ ?_
      ·
       intro hb
       rw [if_neg (b_bne_t hb)] at H
       refine g_d rfl ?_
       try dsimp only [set0,setS]
       refine g_op (v := Value.bool true) rfl rfl rfl ?_
       refine g_d rfl ?_
       try dsimp only [set0,setS]
       refine g_ops_nil ?_
       refine g_cond_true rfl ?_
       refine g_seq ?_
       refine g_region ?_
       show G _ _ _ (.inRegion _ [0] :: _) _ _
       refine g_op (v := Value.bool false) rfl rfl rfl ?_
       refine g_d rfl ?_
       try dsimp only [set0,setS]
       refine g_ops_nil ?_
       obtain rfl := Option.some.inj H
       refine g_ret Try.func3 (v := Value.bool false) (res1 rfl rfl) ?_
       have hs : St _ [] _ := St.take (Γ' := [_]) hs
       exact ⟨_, rfl, rfl, hs⟩
      ·
       intro hb
       rw [if_pos (b_bne_f hb)] at H
       refine g_d rfl ?_
       try dsimp only [set0,setS]
       refine g_op (v := Value.bool false) rfl rfl rfl ?_
       refine g_d rfl ?_
       try dsimp only [set0,setS]
       refine g_ops_nil ?_
       refine g_cond_false rfl ?_
       refine g_skip ?_
       have hs := hs.pull 0 rfl
       have hs : St _ [_] _ := St.take (Γ' := []) hs
       exact ha _ _ ⟨H, rfl, hs⟩
     ·
      intro hb
      rw [if_neg (b_dec_f hb)] at H
      refine g_d rfl ?_
      try dsimp only [set0,setS]
      refine g_op (v := Value.bool false) rfl rfl rfl ?_
      refine g_d rfl ?_
      refine g_op_not rfl rfl ?_
      refine g_d rfl ?_
      refine g_op_not rfl rfl ?_
      refine g_d rfl ?_
      try dsimp only [set0,setS]
      refine g_op (v := Value.bool false) rfl rfl rfl ?_
      refine g_d rfl ?_
      try dsimp only [set0,setS]
      refine g_op (v := Value.bool false) rfl rfl rfl ?_
      refine g_d rfl ?_
      try dsimp only [set0,setS]
      refine g_ops_nil ?_
      refine g_cond_false rfl ?_
      refine g_skip ?_
      have hs := hs.pull 0 rfl
      have hs : St _ [_] _ := St.take (Γ' := []) hs
      exact ha _ _ ⟨H, rfl, hs⟩

end Go.Proofs.YtfnfoecocicigaaX
