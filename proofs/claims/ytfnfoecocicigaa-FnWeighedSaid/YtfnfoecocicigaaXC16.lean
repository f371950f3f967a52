/- Contracts, printed by gen.py. -/
import Derived.Test.YtfnfoecocicigaaXT
import Derived.Test.YtfnfoecocicigaaProg
import Derived.Test.YtfnfoecocicigaaXRowR
import Derived.Test.YtfnfoecocicigaaXSeg
import Derived.Test.YtfnfoecocicigaaXKey
import Derived.Test.YtfnfoecocicigaaXC8
import Derived.Test.YtfnfoecocicigaaXC10
import Derived.Test.YtfnfoecocicigaaXC14
import Derived.Test.YtfnfoecocicigaaXC15
namespace Go.Proofs.YtfnfoecocicigaaX
open Go Go.RowKit Go.Proofs
set_option linter.unusedVariables false
set_option linter.unusedSimpArgs false
/- a part of function 3 laws_FnWeighed -/
set_option maxHeartbeats 8000000 in
set_option maxRecDepth 100000 in
theorem laws_FnWeighed.seg2 {N : Nat} {a1 : (List Int)} {a3 : (List Int)} {v2 : Value} {v4 : Value} {r7 : (Int × (Ar Int 4))} {b8 : Nat} {w0 : World} {r : Bool} (hr0 : RdRow (K.int .u8) w0 v2 a1) (hr1 : RdRow (K.int .u8) w0 v4 a3) :
    ∀ t w, (fun t w => laws_FnWeighed.j2 N r7 = some r ∧ Fr t (fun O => (O 0::O 1::O 2::O 3::O 4::Value.int .i64 r7.1::Value.pointer (some ⟨b8, 0, none⟩)::O 7::O 8::O 9::O 10::O 11::O 12::O 13::O 14::O 15::O 16::O 17::O 18::O 19::O 20::O 21::O 22::O 23::O 24::O 25::O 26::O 27::O 28::O 29::O 30::O 31::O 32::O 33::O 34::O 35::O 36::O 37::O 38::O 39::O 40::O 41::O 42::O 43::O 44::O 45::O 46::O 47::O 48::O 49::O 50::O 51::O 52::O 53::O 54::O 55::O 56::O 57::O 58::O 59::O 60::O 61::O 62::O 63::O 64::O 65::O 66::O 67::O 68::O 69::O 70::O 71::O 72::O 73::O 74::O 75::O 76::O 77::O 78::O 79::O 80::O 81::O 82::O 83::O 84::O 85::O 86::O 87::O 88::O 89::O 90::O 91::O 92::O 93::O 94::O 95::O 96::O 97::O 98::O 99::O 100::O 101::O 102::O 103::O 104::O 105::O 106::O 107::O 108::O 109::O 110::O 111::O 112::O 113::O 114::O 115::O 116::O 117::O 118::O 119::O 120::O 121::O 122::O 123::O 124::O 125::O 126::O 127::O 128::O 129::O 130::O 131::O 132::O 133::O 134::O 135::O 136::O 137::O 138::O 139::O 140::O 141::O 142::O 143::O 144::O 145::O 146::O 147::O 148::O 149::O 150::O 151::O 152::O 153::O 154::O 155::O 156::O 157::O 158::O 159::O 160::O 161::O 162::O 163::O 164::O 165::O 166::O 167::O 168::O 169::O 170::O 171::O 172::O 173::O 174::O 175::O 176::O 177::O 178::O 179::O 180::O 181::O 182::O 183::O 184::O 185::O 186::O 187::O 188::O 189::O 190::O 191::O 192::O 193::O 194::O 195::O 196::O 197::O 198::O 199::O 200::O 201::O 202::O 203::O 204::O 205::O 206::O 207::O 208::O 209::O 210::O 211::O 212::O 213::O 214::O 215::O 216::O 217::O 218::O 219::O 220::O 221::O 222::O 223::O 224::O 225::O 226::O 227::O 228::O 229::O 230::O 231::O 232::O 233::O 234::O 235::O 236::O 237::O 238::O 239::O 240::O 241::O 242::O 243::O 244::O 245::O 246::O 247::O 248::O 249::O 250::O 251::O 252::O 253::O 254::O 255::O 256::O 257::O 258::O 259::O 260::O 261::O 262::O 263::O 264::O 265::O 266::O 267::O 268::O 269::O 270::O 271::O 272::O 273::O 274::O 275::O 276::O 277::O 278::O 279::O 280::O 281::O 282::O 283::O 284::O 285::O 286::O 287::O 288::O 289::O 290::O 291::O 292::O 293::O 294::O 295::O 296::O 297::O 298::O 299::O 300::O 301::O 302::O 303::O 304::O 305::O 306::O 307::O 308::O 309::O 310::O 311::O 312::O 313::O 314::O 315::O 316::O 317::O 318::O 319::O 320::O 321::O 322::O 323::O 324::O 325::O 326::O 327::O 328::O 329::O 330::O 331::O 332::O 333::O 334::O 335::O 336::O 337::O 338::O 339::O 340::O 341::O 342::O 343::O 344::O 345::O 346::O 347::O 348::O 349::O 350::O 351::O 352::O 353::O 354::O 355::O 356::O 357::O 358::O 359::O 360::O 361::O 362::O 363::O 364::[] : List Value)) ∧ St w0 [Cells b8 ((encA (encI .i64)) r7.2) 25] w) t w → G Try.prog 3 (fun e w => ∃ v, e = .returned v ∧ laws_FnWeighed.post w0 r v w) [.code (Code.at_ (Try.f3.body.getD .skip) [1, 1, 1, 1, 1, 1, 1, 1, 1, 1, 1, 1, 1, 1, 1, 1, 1])] t w := by
  rintro t w ⟨H, hf, hs⟩
  obtain ⟨O, rfl⟩ := hf.open
  try dsimp only
  unfold laws_FnWeighed.j2 at H
  refine g_seq ?_
  refine g_region ?_
  show G _ _ _ (.inRegion _ [0, 1, 2, 3, 4, 5, 6, 7] :: _) _ _
  refine g_op (v := Value.int .i64 r7.1) rfl rfl rfl ?_
  refine g_d rfl ?_
  refine s_loadA rfl rfl (es := ((encA (encI .i64)) r7.2)) rfl rfl (fun _ => rfl) (n := 4) (fun _ => rfl) ((fkA (n := 4) (he := (fkI .i64).len) (h1 := (fkI .i64).one)).len _) (cells_all (hs.cells 0 rfl)) ?_
  refine g_d rfl ?_
  try dsimp only [set0,setS]
  obtain ⟨r39, Hr39, H⟩ := bind_get H
  refine s_call (args := [Value.int .i64 r7.1, Value.agg ((encA (encI .i64)) r7.2).toArray]) rfl rfl (x_call rfl (callFunc_enter Try.func14 rfl rfl) rfl) (impl_LeastByWeight.calls (a1 := r7.1) (a2 := r7.2) Hr39) ?_
  rintro _ w ⟨rfl, hs2⟩
  have hs : St _ [_] _ := hs.call hs2
  refine g_d rfl ?_
  try dsimp only [set0,setS]
  refine g_op (v := Value.tuple #[Value.int .i64 r39.1, Value.int .i64 r39.2]) rfl rfl rfl ?_
  refine g_d rfl ?_
  refine g_op (v := Value.int .i64 r39.1) rfl rfl rfl ?_
  refine g_d rfl ?_
  refine g_op (v := Value.int .i64 r39.2) rfl rfl rfl ?_
  refine g_d rfl ?_
  refine g_op (v := Value.int .i64 r39.1) rfl rfl rfl ?_
  refine g_d rfl ?_
  try dsimp only [set0,setS]
  refine g_op (v := Value.int .i64 r39.2) rfl rfl rfl ?_
  refine g_d rfl ?_
  try dsimp only [set0,setS]
  refine g_ops_nil ?_
  refine g_seq ?_
  refine g_region ?_
  show G _ _ _ (.inRegion _ [0, 1, 2, 3, 4, 5, 6, 7] :: _) _ _
  refine g_op (v := Value.int .i64 r7.1) rfl rfl rfl ?_
  refine g_d rfl ?_
  refine s_loadA rfl rfl (es := ((encA (encI .i64)) r7.2)) rfl rfl (fun _ => rfl) (n := 4) (fun _ => rfl) ((fkA (n := 4) (he := (fkI .i64).len) (h1 := (fkI .i64).one)).len _) (cells_all (hs.cells 0 rfl)) ?_
  refine g_d rfl ?_
  try dsimp only [set0,setS]
  obtain ⟨r40, Hr40, H⟩ := bind_get H
  refine s_call (args := [Value.int .i64 r7.1, Value.agg ((encA (encI .i64)) r7.2).toArray]) rfl rfl (x_call rfl (callFunc_enter Try.func15 rfl rfl) rfl) (impl_LeastQuestions.calls (a1 := r7.1) (a2 := r7.2) Hr40) ?_
  rintro _ w ⟨rfl, hs2⟩
  have hs : St _ [_] _ := hs.call hs2
  refine g_d rfl ?_
  try dsimp only [set0,setS]
  refine g_op (v := Value.tuple #[Value.int .i64 r40.1, Value.int .i64 r40.2]) rfl rfl rfl ?_
  refine g_d rfl ?_
  refine g_op (v := Value.int .i64 r40.1) rfl rfl rfl ?_
  refine g_d rfl ?_
  refine g_op (v := Value.int .i64 r40.2) rfl rfl rfl ?_
  refine g_d rfl ?_
  refine g_op (v := Value.int .i64 r40.1) rfl rfl rfl ?_
  refine g_d rfl ?_
  try dsimp only [set0,setS]
  refine g_op (v := Value.int .i64 r40.2) rfl rfl rfl ?_
  refine g_d rfl ?_
  try dsimp only [set0,setS]
  refine g_ops_nil ?_
  refine g_seq ?_
  refine g_region ?_
  show G _ _ _ (.inRegion _ [0, 1, 2, 3, 4, 5, 6, 7] :: _) _ _
  refine g_op (v := Value.int .i64 r7.1) rfl rfl rfl ?_
  refine g_d rfl ?_
  refine s_loadA rfl rfl (es := ((encA (encI .i64)) r7.2)) rfl rfl (fun _ => rfl) (n := 4) (fun _ => rfl) ((fkA (n := 4) (he := (fkI .i64).len) (h1 := (fkI .i64).one)).len _) (cells_all (hs.cells 0 rfl)) ?_
  refine g_d rfl ?_
  try dsimp only [set0,setS]
  obtain ⟨r41, Hr41, H⟩ := bind_get H
  refine s_call (args := [Value.int .i64 r7.1, Value.agg ((encA (encI .i64)) r7.2).toArray]) rfl rfl (x_call rfl (callFunc_enter Try.func16 rfl rfl) rfl) (spec_LeastQuestions.calls (a1 := r7.1) (a2 := r7.2) Hr41) ?_
  rintro _ w ⟨rfl, hs2⟩
  have hs : St _ [_] _ := hs.call hs2
  refine g_d rfl ?_
  try dsimp only [set0,setS]
  refine g_op (v := Value.tuple #[Value.int .i64 r41.1, Value.int .i64 r41.2]) rfl rfl rfl ?_
  refine g_d rfl ?_
  refine g_op (v := Value.int .i64 r41.1) rfl rfl rfl ?_
  refine g_d rfl ?_
  refine g_op (v := Value.int .i64 r41.2) rfl rfl rfl ?_
  refine g_d rfl ?_
  refine g_op (v := Value.int .i64 r41.1) rfl rfl rfl ?_
  refine g_d rfl ?_
  try dsimp only [set0,setS]
  refine g_op (v := Value.int .i64 r41.2) rfl rfl rfl ?_
  refine g_d rfl ?_
  try dsimp only [set0,setS]
  refine g_ops_nil ?_
  refine g_seq ?_
  refine g_seq ?_
  refine g_join2 (J := (fun t w => laws_FnWeighed.j3 N r40 r7 r41 r39 = some r ∧ Fr t (fun O => (O 0::O 1::O 2::O 3::O 4::Value.int .i64 r7.1::Value.pointer (some ⟨b8, 0, none⟩)::O 7::O 8::O 9::O 10::O 11::O 12::O 13::O 14::O 15::O 16::O 17::O 18::O 19::O 20::O 21::O 22::O 23::O 24::O 25::O 26::Value.int .i64 r39.1::O 28::O 29::Value.int .i64 r40.2::Value.int .i64 r41.1::O 32::O 33::O 34::O 35::O 36::O 37::O 38::O 39::O 40::O 41::O 42::O 43::O 44::O 45::O 46::O 47::O 48::O 49::O 50::O 51::O 52::O 53::O 54::O 55::O 56::O 57::O 58::O 59::O 60::O 61::O 62::O 63::O 64::O 65::O 66::O 67::O 68::O 69::O 70::O 71::O 72::O 73::O 74::O 75::O 76::O 77::O 78::O 79::O 80::O 81::O 82::O 83::O 84::O 85::O 86::O 87::O 88::O 89::O 90::O 91::O 92::O 93::O 94::O 95::O 96::O 97::O 98::O 99::O 100::O 101::O 102::O 103::O 104::O 105::O 106::O 107::O 108::O 109::O 110::O 111::O 112::O 113::O 114::O 115::O 116::O 117::O 118::O 119::O 120::O 121::O 122::O 123::O 124::O 125::O 126::O 127::O 128::O 129::O 130::O 131::O 132::O 133::O 134::O 135::O 136::O 137::O 138::O 139::O 140::O 141::O 142::O 143::O 144::O 145::O 146::O 147::O 148::O 149::O 150::O 151::O 152::O 153::O 154::O 155::O 156::O 157::O 158::O 159::O 160::O 161::O 162::O 163::O 164::O 165::O 166::O 167::O 168::O 169::O 170::O 171::O 172::O 173::O 174::O 175::O 176::O 177::O 178::O 179::O 180::O 181::O 182::O 183::O 184::O 185::O 186::O 187::O 188::O 189::O 190::O 191::O 192::O 193::O 194::O 195::O 196::O 197::O 198::O 199::O 200::O 201::O 202::O 203::O 204::O 205::O 206::O 207::O 208::O 209::O 210::O 211::O 212::O 213::O 214::O 215::O 216::O 217::O 218::O 219::O 220::O 221::O 222::O 223::O 224::O 225::O 226::O 227::O 228::O 229::O 230::O 231::O 232::O 233::O 234::O 235::O 236::O 237::O 238::O 239::O 240::O 241::O 242::O 243::O 244::O 245::O 246::O 247::O 248::O 249::O 250::O 251::O 252::O 253::O 254::O 255::O 256::O 257::O 258::O 259::O 260::O 261::O 262::O 263::O 264::O 265::O 266::O 267::O 268::O 269::O 270::O 271::O 272::O 273::O 274::O 275::O 276::O 277::O 278::O 279::O 280::O 281::O 282::O 283::O 284::O 285::O 286::O 287::O 288::O 289::O 290::O 291::O 292::O 293::O 294::O 295::O 296::O 297::O 298::O 299::O 300::O 301::O 302::O 303::O 304::O 305::O 306::O 307::O 308::O 309::O 310::O 311::O 312::O 313::O 314::O 315::O 316::O 317::O 318::O 319::O 320::O 321::O 322::O 323::O 324::O 325::O 326::O 327::O 328::O 329::O 330::O 331::O 332::O 333::O 334::O 335::O 336::O 337::O 338::O 339::O 340::O 341::O 342::O 343::O 344::O 345::O 346::O 347::O 348::O 349::O 350::O 351::O 352::O 353::O 354::O 355::O 356::O 357::O 358::O 359::O 360::O 361::O 362::O 363::O 364::[] : List Value)) ∧ St w0 [Cells b8 ((encA (encI .i64)) r7.2) 25] w)) ?_ ?_
  · exact laws_FnWeighed.seg1 hr0 hr1
  ·
   intro ha
   refine g_region ?_
   show G _ _ _ (.inRegion _ [0, 1, 2, 3, 4, 5, 6, 7, 8, 9, 10, 11, 12, 13, 14, 15, 16, 17, 18, 19] :: _) _ _
   refine g_op (v := Value.int .i64 r39.2) rfl rfl rfl ?_
   refine g_d rfl ?_
   refine g_op_b (B := r39.2 != 0) rfl rfl rfl ?_ ?_
   ·
    intro hb
    rw [if_neg (b_bne_t hb)] at H
    refine g_d rfl ?_
    try dsimp only [set0,setS]
    refine g_op (v := Value.bool true) rfl rfl rfl ?_
    refine g_d rfl ?_
    refine g_op_not rfl rfl ?_
    refine g_d rfl ?_
    refine g_op_not rfl rfl ?_
    refine g_d rfl ?_
    refine g_op_not rfl rfl ?_
    refine g_d rfl ?_
    try dsimp only [set0,setS]
    refine g_op (v := Value.bool true) rfl rfl rfl ?_
    refine g_d rfl ?_
    try dsimp only [set0,setS]
    refine g_op (v := Value.bool true) rfl rfl rfl ?_
    refine g_d rfl ?_
    refine g_op_not rfl rfl ?_
    refine g_d rfl ?_
    refine g_op_not rfl rfl ?_
    refine g_d rfl ?_
    refine g_op_not rfl rfl ?_
    refine g_d rfl ?_
    try dsimp only [set0,setS]
    refine g_op (v := Value.bool true) rfl rfl rfl ?_
    refine g_d rfl ?_
    try dsimp only [set0,setS]
    refine g_op (v := Value.bool true) rfl rfl rfl ?_
    refine g_d rfl ?_
    refine g_op_not rfl rfl ?_
    refine g_d rfl ?_
    refine g_op_not rfl rfl ?_
    refine g_d rfl ?_
    try dsimp only [set0,setS]
    refine g_op_not rfl rfl ?_
    refine g_d rfl ?_
    refine g_op_not rfl rfl ?_
    refine g_d rfl ?_
    refine g_op_not rfl rfl ?_
    refine g_d rfl ?_
    try dsimp only [set0,setS]
    refine g_op_not rfl rfl ?_
    refine g_d rfl ?_
    try dsimp only [set0,setS]
    refine g_op (v := Value.bool true) rfl rfl rfl ?_
    refine g_d rfl ?_
    try dsimp only [set0,setS]
    refine g_ops_nil ?_
    refine g_cond_true rfl ?_
    refine g_seq ?_
    refine g_region ?_
    show G _ _ _ (.inRegion _ [0] :: _) _ _
    refine g_op (v := Value.bool false) rfl rfl rfl ?_
    refine g_d rfl ?_
    try dsimp only [set0,setS]
    refine g_ops_nil ?_
    obtain rfl := Option.some.inj H
    refine g_ret Try.func3 (v := Value.bool false) (res1 rfl rfl) ?_
    have hs : St _ [] _ := St.take (Γ' := [_]) hs
    exact ⟨_, rfl, rfl, hs⟩
   ·
    intro hb
    rw [if_pos (b_bne_f hb)] at H
    refine g_d rfl ?_
    try dsimp only [set0,setS]
    refine g_op (v := Value.bool false) rfl rfl rfl ?_
    refine g_d rfl ?_
    refine g_op (v := Value.int .i64 r40.2) rfl rfl rfl ?_
    refine g_d rfl ?_
    refine g_op (v := Value.int .i64 r41.2) rfl rfl rfl ?_
    refine g_d rfl ?_
    refine g_op (v := Value.bool (r40.2 != r41.2)) rfl rfl rfl ?_
    refine g_d rfl ?_
    try dsimp only [set0,setS]
    refine g_op_b (B := r40.2 != r41.2) rfl rfl rfl ?_ ?_
    ·
     intro hb
     rw [if_neg (b_bne_t hb)] at H
     refine g_d rfl ?_
     try dsimp only [set0,setS]
     refine g_op (v := Value.bool true) rfl rfl rfl ?_
     refine g_d rfl ?_
     refine g_op_not rfl rfl ?_
     refine g_d rfl ?_
     refine g_op_not rfl rfl ?_
     refine g_d rfl ?_
     refine g_op_not rfl rfl ?_
     refine g_d rfl ?_
     try dsimp only [set0,setS]
     refine g_op (v := Value.bool true) rfl rfl rfl ?_
     refine g_d rfl ?_
     try dsimp only [set0,setS]
     refine g_op (v := Value.bool true) rfl rfl rfl ?_
     refine g_d rfl ?_
     refine g_op_not rfl rfl ?_
     refine g_d rfl ?_
     refine g_op_not rfl rfl ?_
     refine g_d rfl ?_
     try dsimp only [set0,setS]
     refine g_op_not rfl rfl ?_
     refine g_d rfl ?_
     refine g_op_not rfl rfl ?_
     refine g_d rfl ?_
     refine g_op_not rfl rfl ?_
     refine g_d rfl ?_
     try dsimp only [set0,setS]
     refine g_op_not rfl rfl ?_
     refine g_d rfl ?_
     try dsimp only [set0,setS]
     refine g_op (v := Value.bool true) rfl rfl rfl ?_
     refine g_d rfl ?_
     try dsimp only [set0,setS]
     refine g_ops_nil ?_
     refine g_cond_true rfl ?_
     refine g_seq ?_
     refine g_region ?_
     show G _ _ _ (.inRegion _ [0] :: _) _ _
     refine g_op (v := Value.bool false) rfl rfl rfl ?_
     refine g_d rfl ?_
     try dsimp only [set0,setS]
     refine g_ops_nil ?_
     obtain rfl := Option.some.inj H
     refine g_ret Try.func3 (v := Value.bool false) (res1 rfl rfl) ?_
     have hs : St _ [] _ := St.take (Γ' := [_]) hs
     exact ⟨_, rfl, rfl, hs⟩
    ·
     intro hb
     rw [if_pos (b_bne_f hb)] at H
     refine g_d rfl ?_
     try dsimp only [set0,setS]
     refine g_op (v := Value.bool false) rfl rfl rfl ?_
     refine g_d rfl ?_
     refine g_op (v := Value.int .i64 r40.1) rfl rfl rfl ?_
     refine g_d rfl ?_
     refine g_op (v := Value.int .i64 r41.1) rfl rfl rfl ?_
     refine g_d rfl ?_
     refine g_op (v := Value.bool (r40.1 != r41.1)) rfl rfl rfl ?_
     refine g_d rfl ?_
     try dsimp only [set0,setS]
     refine g_op_b (B := r40.1 != r41.1) rfl rfl rfl ?_ ?_
     ·
      intro hb
      rw [if_neg (b_bne_t hb)] at H
      refine g_d rfl ?_
      try dsimp only [set0,setS]
      refine g_op (v := Value.bool true) rfl rfl rfl ?_
      refine g_d rfl ?_
      refine g_op_not rfl rfl ?_
      refine g_d rfl ?_
      refine g_op_not rfl rfl ?_
      refine g_d rfl ?_
      try dsimp only [set0,setS]
      refine g_op_not rfl rfl ?_
      refine g_d rfl ?_
      refine g_op_not rfl rfl ?_
      refine g_d rfl ?_
      refine g_op_not rfl rfl ?_
      refine g_d rfl ?_
      try dsimp only [set0,setS]
      refine g_op_not rfl rfl ?_
      refine g_d rfl ?_
      try dsimp only [set0,setS]
      refine g_op (v := Value.bool true) rfl rfl rfl ?_
      refine g_d rfl ?_
      try dsimp only [set0,setS]
      refine g_ops_nil ?_
      refine g_cond_true rfl ?_
      refine g_seq ?_
      refine g_region ?_
      show G _ _ _ (.inRegion _ [0] :: _) _ _
      refine g_op (v := Value.bool false) rfl rfl rfl ?_
      refine g_d rfl ?_
      try dsimp only [set0,setS]
      refine g_ops_nil ?_
      obtain rfl := Option.some.inj H
      refine g_ret Try.func3 (v := Value.bool false) (res1 rfl rfl) ?_
      have hs : St _ [] _ := St.take (Γ' := [_]) hs
      exact ⟨_, rfl, rfl, hs⟩
     ·
      intro hb
      rw [if_pos (b_bne_f hb)] at H
      refine g_d rfl ?_
      try dsimp only [set0,setS]
      refine g_op (v := Value.bool false) rfl rfl rfl ?_
      refine g_d rfl ?_
      refine g_op (v := Value.int .i64 r40.2) rfl rfl rfl ?_
      refine g_d rfl ?_
      refine g_op_b (B := r40.2 != 0) rfl rfl rfl ?_ ?_
      ·
       intro hb
       rw [if_neg (b_bne_t hb)] at H
       refine g_d rfl ?_
       try dsimp only [set0,setS]
       refine g_op (v := Value.bool true) rfl rfl rfl ?_
       refine g_d rfl ?_
       refine g_op (v := Value.int .i64 r40.2) rfl rfl rfl ?_
       refine g_d rfl ?_
       refine g_op (v := Value.bool (r40.2 != 6)) rfl rfl rfl ?_
       refine g_d rfl ?_
       try dsimp only [set0,setS]
       refine g_op_b (B := r40.2 != 6) rfl rfl rfl ?_ ?_
       ·
        intro hb
        rw [if_neg (b_bne_t hb)] at H
        refine g_d rfl ?_
        try dsimp only [set0,setS]
        refine g_op (v := Value.bool true) rfl rfl rfl ?_
        refine g_d rfl ?_
        try dsimp only [set0,setS]
        refine g_ops_nil ?_
        refine g_cond_true rfl ?_
        refine g_seq ?_
        refine g_region ?_
        show G _ _ _ (.inRegion _ [0] :: _) _ _
        refine g_op (v := Value.bool false) rfl rfl rfl ?_
        refine g_d rfl ?_
        try dsimp only [set0,setS]
        refine g_ops_nil ?_
        obtain rfl := Option.some.inj H
        refine g_ret Try.func3 (v := Value.bool false) (res1 rfl rfl) ?_
        have hs : St _ [] _ := St.take (Γ' := [_]) hs
        exact ⟨_, rfl, rfl, hs⟩
       ·
        intro hb
        rw [if_pos (b_bne_f hb)] at H
        refine g_d rfl ?_
        try dsimp only [set0,setS]
        refine g_op (v := Value.bool false) rfl rfl rfl ?_
        refine g_d rfl ?_
        try dsimp only [set0,setS]
        refine g_ops_nil ?_
        refine g_cond_false rfl ?_
        refine g_skip ?_
        have hs := hs.pull 0 rfl
        have hs : St _ [_] _ := St.take (Γ' := []) hs
        exact ha _ _ ⟨H, rfl, hs⟩
      ·
       intro hb
       rw [if_pos (b_bne_f hb)] at H
       refine g_d rfl ?_
       try dsimp only [set0,setS]
       refine g_op (v := Value.bool false) rfl rfl rfl ?_
       refine g_d rfl ?_
       refine g_op_not rfl rfl ?_
       refine g_d rfl ?_
       refine g_op_not rfl rfl ?_
       refine g_d rfl ?_
       try dsimp only [set0,setS]
       refine g_op (v := Value.bool false) rfl rfl rfl ?_
       refine g_d rfl ?_
       try dsimp only [set0,setS]
       refine g_op (v := Value.bool false) rfl rfl rfl ?_
       refine g_d rfl ?_
       try dsimp only [set0,setS]
       refine g_ops_nil ?_
       refine g_cond_false rfl ?_
       refine g_skip ?_
       have hs := hs.pull 0 rfl
       have hs : St _ [_] _ := St.take (Γ' := []) hs
       exact ha _ _ ⟨H, rfl, hs⟩

/- a part of function 3 laws_FnWeighed -/
set_option maxHeartbeats 8000000 in
set_option maxRecDepth 100000 in
theorem laws_FnWeighed.seg3 {N : Nat} {a1 : (List Int)} {a3 : (List Int)} {v2 : Value} {v4 : Value} {r7 : (Int × (Ar Int 4))} {b8 : Nat} {w0 : World} {r : Bool} (hr0 : RdRow (K.int .u8) w0 v2 a1) (hr1 : RdRow (K.int .u8) w0 v4 a3) :
    ∀ t w, (fun t w => ∃ x38 : Int, laws_FnWeighed.a0 N r7 x38 = some r ∧ Fr t (fun O => (O 0::O 1::O 2::O 3::O 4::Value.int .i64 r7.1::Value.pointer (some ⟨b8, 0, none⟩)::O 7::O 8::O 9::O 10::O 11::O 12::O 13::O 14::O 15::O 16::O 17::O 18::O 19::O 20::O 21::O 22::O 23::O 24::Value.int .i64 x38::O 26::O 27::O 28::O 29::O 30::O 31::O 32::O 33::O 34::O 35::O 36::O 37::O 38::O 39::O 40::O 41::O 42::O 43::O 44::O 45::O 46::O 47::O 48::O 49::O 50::O 51::O 52::O 53::O 54::O 55::O 56::O 57::O 58::O 59::O 60::O 61::O 62::O 63::O 64::O 65::O 66::O 67::O 68::O 69::O 70::O 71::O 72::O 73::O 74::O 75::O 76::O 77::O 78::O 79::O 80::O 81::O 82::O 83::O 84::O 85::O 86::O 87::O 88::O 89::O 90::O 91::O 92::O 93::O 94::O 95::O 96::O 97::O 98::O 99::O 100::O 101::O 102::O 103::O 104::O 105::O 106::O 107::O 108::O 109::O 110::O 111::O 112::O 113::O 114::O 115::O 116::O 117::O 118::O 119::O 120::O 121::O 122::O 123::O 124::O 125::O 126::O 127::O 128::O 129::O 130::O 131::O 132::O 133::O 134::O 135::O 136::O 137::O 138::O 139::O 140::O 141::O 142::O 143::O 144::O 145::O 146::O 147::O 148::O 149::O 150::O 151::O 152::O 153::O 154::O 155::O 156::O 157::O 158::O 159::O 160::O 161::O 162::O 163::O 164::O 165::O 166::O 167::O 168::O 169::O 170::O 171::O 172::O 173::O 174::O 175::O 176::O 177::O 178::O 179::O 180::O 181::O 182::O 183::O 184::O 185::O 186::O 187::O 188::O 189::O 190::O 191::O 192::O 193::O 194::O 195::O 196::O 197::O 198::O 199::O 200::O 201::O 202::O 203::O 204::O 205::O 206::O 207::O 208::O 209::O 210::O 211::O 212::O 213::O 214::O 215::O 216::O 217::O 218::O 219::O 220::O 221::O 222::O 223::O 224::O 225::O 226::O 227::O 228::O 229::O 230::O 231::O 232::O 233::O 234::O 235::O 236::O 237::O 238::O 239::O 240::O 241::O 242::O 243::O 244::O 245::O 246::O 247::O 248::O 249::O 250::O 251::O 252::O 253::O 254::O 255::O 256::O 257::O 258::O 259::O 260::O 261::O 262::O 263::O 264::O 265::O 266::O 267::O 268::O 269::O 270::O 271::O 272::O 273::O 274::O 275::O 276::O 277::O 278::O 279::O 280::O 281::O 282::O 283::O 284::O 285::O 286::O 287::O 288::O 289::O 290::O 291::O 292::O 293::O 294::O 295::O 296::O 297::O 298::O 299::O 300::O 301::O 302::O 303::O 304::O 305::O 306::O 307::O 308::O 309::O 310::O 311::O 312::O 313::O 314::O 315::O 316::O 317::O 318::O 319::O 320::O 321::O 322::O 323::O 324::O 325::O 326::O 327::O 328::O 329::O 330::O 331::O 332::O 333::O 334::O 335::O 336::O 337::O 338::O 339::O 340::O 341::O 342::O 343::O 344::O 345::O 346::O 347::O 348::O 349::O 350::O 351::O 352::O 353::O 354::O 355::O 356::O 357::O 358::O 359::O 360::O 361::O 362::O 363::O 364::[] : List Value)) ∧ St w0 [Cells b8 ((encA (encI .i64)) r7.2) 25] w) t w → G Try.prog 3 (fun e w => ∃ v, e = .returned v ∧ laws_FnWeighed.post w0 r v w) [.code (Code.at_ (Try.f3.body.getD .skip) [1, 1, 1, 1, 1, 1, 1, 1, 1, 1, 1, 1, 1, 1, 1, 1])] t w := by
  rintro t w ⟨x38, H, hf, hs⟩
  obtain ⟨O, rfl⟩ := hf.open
  try dsimp only
  unfold laws_FnWeighed.a0 at H
  refine g_seq ?_
  refine g_seq ?_
  refine g_join2 (J := (fun t w => laws_FnWeighed.j2 N r7 = some r ∧ Fr t (fun O => (O 0::O 1::O 2::O 3::O 4::Value.int .i64 r7.1::Value.pointer (some ⟨b8, 0, none⟩)::O 7::O 8::O 9::O 10::O 11::O 12::O 13::O 14::O 15::O 16::O 17::O 18::O 19::O 20::O 21::O 22::O 23::O 24::O 25::O 26::O 27::O 28::O 29::O 30::O 31::O 32::O 33::O 34::O 35::O 36::O 37::O 38::O 39::O 40::O 41::O 42::O 43::O 44::O 45::O 46::O 47::O 48::O 49::O 50::O 51::O 52::O 53::O 54::O 55::O 56::O 57::O 58::O 59::O 60::O 61::O 62::O 63::O 64::O 65::O 66::O 67::O 68::O 69::O 70::O 71::O 72::O 73::O 74::O 75::O 76::O 77::O 78::O 79::O 80::O 81::O 82::O 83::O 84::O 85::O 86::O 87::O 88::O 89::O 90::O 91::O 92::O 93::O 94::O 95::O 96::O 97::O 98::O 99::O 100::O 101::O 102::O 103::O 104::O 105::O 106::O 107::O 108::O 109::O 110::O 111::O 112::O 113::O 114::O 115::O 116::O 117::O 118::O 119::O 120::O 121::O 122::O 123::O 124::O 125::O 126::O 127::O 128::O 129::O 130::O 131::O 132::O 133::O 134::O 135::O 136::O 137::O 138::O 139::O 140::O 141::O 142::O 143::O 144::O 145::O 146::O 147::O 148::O 149::O 150::O 151::O 152::O 153::O 154::O 155::O 156::O 157::O 158::O 159::O 160::O 161::O 162::O 163::O 164::O 165::O 166::O 167::O 168::O 169::O 170::O 171::O 172::O 173::O 174::O 175::O 176::O 177::O 178::O 179::O 180::O 181::O 182::O 183::O 184::O 185::O 186::O 187::O 188::O 189::O 190::O 191::O 192::O 193::O 194::O 195::O 196::O 197::O 198::O 199::O 200::O 201::O 202::O 203::O 204::O 205::O 206::O 207::O 208::O 209::O 210::O 211::O 212::O 213::O 214::O 215::O 216::O 217::O 218::O 219::O 220::O 221::O 222::O 223::O 224::O 225::O 226::O 227::O 228::O 229::O 230::O 231::O 232::O 233::O 234::O 235::O 236::O 237::O 238::O 239::O 240::O 241::O 242::O 243::O 244::O 245::O 246::O 247::O 248::O 249::O 250::O 251::O 252::O 253::O 254::O 255::O 256::O 257::O 258::O 259::O 260::O 261::O 262::O 263::O 264::O 265::O 266::O 267::O 268::O 269::O 270::O 271::O 272::O 273::O 274::O 275::O 276::O 277::O 278::O 279::O 280::O 281::O 282::O 283::O 284::O 285::O 286::O 287::O 288::O 289::O 290::O 291::O 292::O 293::O 294::O 295::O 296::O 297::O 298::O 299::O 300::O 301::O 302::O 303::O 304::O 305::O 306::O 307::O 308::O 309::O 310::O 311::O 312::O 313::O 314::O 315::O 316::O 317::O 318::O 319::O 320::O 321::O 322::O 323::O 324::O 325::O 326::O 327::O 328::O 329::O 330::O 331::O 332::O 333::O 334::O 335::O 336::O 337::O 338::O 339::O 340::O 341::O 342::O 343::O 344::O 345::O 346::O 347::O 348::O 349::O 350::O 351::O 352::O 353::O 354::O 355::O 356::O 357::O 358::O 359::O 360::O 361::O 362::O 363::O 364::[] : List Value)) ∧ St w0 [Cells b8 ((encA (encI .i64)) r7.2) 25] w)) ?_ ?_
  · exact laws_FnWeighed.seg2 hr0 hr1
  ·
   intro ha
   refine g_region ?_
   show G _ _ _ (.inRegion _ [0, 1, 2, 3, 4, 5] :: _) _ _
   refine g_op (v := Value.int .i64 x38) rfl rfl rfl ?_
   refine g_d rfl ?_
   refine g_op_b (B := x38 != 0) rfl rfl rfl ?_ ?_
   ·
    intro hb
    rw [if_neg (b_bne_t hb)] at H
    refine g_d rfl ?_
    try dsimp only [set0,setS]
    refine g_op (v := Value.bool true) rfl rfl rfl ?_
    refine g_d rfl ?_
    refine g_op (v := Value.int .i64 x38) rfl rfl rfl ?_
    refine g_d rfl ?_
    refine g_op_b (B := x38 != 1) rfl rfl rfl ?_ ?_
    ·
     intro hb
     rw [if_neg (b_bne_t hb)] at H
     refine g_d rfl ?_
     try dsimp only [set0,setS]
     refine g_op (v := Value.bool true) rfl rfl rfl ?_
     refine g_d rfl ?_
     try dsimp only [set0,setS]
     refine g_ops_nil ?_
     refine g_cond_true rfl ?_
     refine g_seq ?_
     refine g_region ?_
     show G _ _ _ (.inRegion _ [0] :: _) _ _
     refine g_op (v := Value.bool false) rfl rfl rfl ?_
     refine g_d rfl ?_
     try dsimp only [set0,setS]
     refine g_ops_nil ?_
     obtain rfl := Option.some.inj H
     refine g_ret Try.func3 (v := Value.bool false) (res1 rfl rfl) ?_
     have hs : St _ [] _ := St.take (Γ' := [_]) hs
     exact ⟨_, rfl, rfl, hs⟩
    ·
     intro hb
     rw [if_pos (b_bne_f hb)] at H
     refine g_d rfl ?_
     try dsimp only [set0,setS]
     refine g_op (v := Value.bool false) rfl rfl rfl ?_
     refine g_d rfl ?_
     try dsimp only [set0,setS]
     refine g_ops_nil ?_
     refine g_cond_false rfl ?_
     refine g_skip ?_
     have hs := hs.pull 0 rfl
     have hs : St _ [_] _ := St.take (Γ' := []) hs
     exact ha _ _ ⟨H, rfl, hs⟩
   ·
    intro hb
    rw [if_pos (b_bne_f hb)] at H
    refine g_d rfl ?_
    try dsimp only [set0,setS]
    refine g_op (v := Value.bool false) rfl rfl rfl ?_
    refine g_d rfl ?_
    refine g_op_not rfl rfl ?_
    refine g_d rfl ?_
    refine g_op_not rfl rfl ?_
    refine g_d rfl ?_
    try dsimp only [set0,setS]
    refine g_op (v := Value.bool false) rfl rfl rfl ?_
    refine g_d rfl ?_
    try dsimp only [set0,setS]
    refine g_ops_nil ?_
    refine g_cond_false rfl ?_
    refine g_skip ?_
    have hs := hs.pull 0 rfl
    have hs : St _ [_] _ := St.take (Γ' := []) hs
    exact ha _ _ ⟨H, rfl, hs⟩

end Go.Proofs.YtfnfoecocicigaaX
