import Derived.Test.YtblbfnngmeoipaaGreatDoorP19
import Derived.Test.YtblbfnngmeoipaaGreatDoorP20
namespace Go.Proofs.YtblbfnngmeoipaaGreatDoorX
open Go Go.RowKit Go.Proofs
open Go.Value (int pointer bool agg slice string tuple)
set_option maxHeartbeats 8000000
set_option maxRecDepth 100000
set_option linter.unusedVariables false
set_option linter.unusedSimpArgs false
theorem Qar.seg2 {N : Nat} {a1 : (List Int)} {a3 : (List Int)} {v2 : Value} {v4 : Value} {r38 : ((List Int) × Int)} {r6 : Qaf} {r41 : ((List Int) × Int)} {r53 : (Int × Int)} {x51 : Int} {b9 : Nat} {v42 : Value} {v7 : Value} {w0 : World} {r : Bool} (htab : Lib.TabIs Tryz.prog w0 "internal/strconv.uint64pow10" .u64 Lib.pow10Tab) (hmax : CellI w0 0) (hsyn : CellE w0 1) (hrng : CellE w0 2) (hr0 : RdRow (K.int .u8) w0 v2 a1) (hr1 : RdRow (K.int .u8) w0 v4 a3) :
 ∀ t w,(fun t w=>Qar.j3 N r38 r6 r41 r53 x51=some r∧Fr t (fun O=>(O 0::O 1::O 2::O 3::O 4::pointer (some ⟨b9,0,none⟩)::O 6::O 7::O 8::O 9::O 10::O 11::O 12::O 13::O 14::int .i64 r38.2::v42::O 17::int .i64 x51::O 19::int .i64 r53.1::O 21::O 22::O 23::O 24::O 25::O 26::O 27::O 28::O 29::oT O 3 (oT O 4 (oT O 5 (oT O 6 (oT O 7 (oT O 8 (oT O 9 (oT O 10 (oT O 11 (oT O 12 (oT O 13 (oT O 14 (oT O 15 (oT O 16 (oT O 17 (oT O 18 (oT O 19 (oT O 20 (oT O 21 (oT O 22 (oT O 23 (oT O 24 (oT O 25 (oT O 26 (oT O 27 (oT O 28 (oT O 29 (O 300::O 301::O 302::O 303::O 304::O 305::O 306::[]))))))))))))))))))))))))))):List Value))∧St w0 [Cells b9 (([int .i8 r6.Qad,int .i8 r6.Qag,v7]:List Value)) 27,Row 46 (K.int .u16) v7 r6.Qal,Row 46 (K.int .u16) v42 r41.1] w) t w→G Tryz.prog 3 (fun e w=>∃ v,e= .returned v∧Qar.post w0 r v w) [.code (Code.at_ (Tryz.f3.body.getD .skip) [1,1,1,1,1,1,1,1,1,1,1,1])] t w:=by
 rintro t w ⟨H,hf,hs⟩
 obtain ⟨O,rfl⟩:=hf.open
 try dsimp only [oT]
 unfold Qar.j3 at H
 refine Qaj (Qaj (Qan [0,1] rfl ?_))
 refine Qab (v:=int .i64 r38.2) rfl rfl rfl (g_d rfl ?_)
 refine QaI (B:=r38.2 !=0) rfl rfl rfl ?_ ?_
 ·
  intro hb
  rw [if_neg (b_bne_t hb)] at H
  refine g_d rfl (Qac (Qaq rfl (Qaj (Qan [0,1,2] rfl ?_))))
  refine Qab (v:=int .i64 r38.2) rfl rfl rfl (g_d rfl ?_)
  refine Qab (v:=bool (r38.2==6)) rfl rfl rfl (g_d rfl ?_)
  try dsimp only [Qah,Qai]
  refine Qab (v:=bool (r38.2==6)) rfl rfl rfl (g_d rfl (Qac ?_))
  obtain rfl:=QsJ H
  refine QaB Tryz.func3 (v:=bool (r38.2==6)) (res1 rfl rfl) ?_
  have hs:St _ [] _:=St.take (Γ':=[_,_,_]) hs
  exact ⟨_,rfl,rfl,hs⟩
 intro hb
 rw [if_pos (b_bne_f hb)] at H
 refine g_d rfl (Qac (Qas rfl (QaK (Qaj (Qan [0,1,2,3,4,5,6,7,8] rfl ?_)))))
 refine QaF rfl rfl (es:=(([int .i8 r6.Qad,int .i8 r6.Qag,v7]:List Value))) rfl rfl (fun _=>rfl) (n:=3) (fun _=>rfl) rfl (cells_all (hs.cells 0 rfl)) (g_d rfl ?_)
 try dsimp only [Qah,Qai]
 refine Qab (v:=v42) rfl rfl rfl (g_d rfl ?_)
 obtain ⟨r61,Hr61,H⟩:=bind_get H
 refine Qaz (args:=[agg (([int .i8 r6.Qad,int .i8 r6.Qag,v7]:List Value)).toArray,v42]) rfl rfl (QaA rfl (callFunc_enter Tryz.func20 rfl rfl) rfl) (Qbn.calls (a1:=(⟨r6.Qad,r6.Qag,r6.Qal⟩:Qaf)) (a4:=r41.1) (hs.row 1 rfl) (hs.row 2 rfl) Hr61) ?_
 rintro _ w ⟨rfl,hs2⟩
 have hs:St _ [_,_,_] _:=hs.call hs2
 refine g_d rfl ?_
 refine Qab (v:=tuple #[agg (Qaa r61.1).toArray,int .i64 r61.2]) rfl rfl rfl (g_d rfl ?_)
 refine Qab (v:=agg (Qaa r61.1).toArray) rfl rfl rfl (g_d rfl ?_)
 refine Qab (v:=int .i64 r61.2) rfl rfl rfl (g_d rfl ?_)
 refine QbI hs rfl rfl (z:=(agg #[int .u16 0,bool false])) (cs:=(Qaa Qa9)) rfl (fun _=>rfl) rfl ?_
 intro b62 w hs
 refine g_d rfl ?_
 try dsimp only [Qah,Qai]
 refine QaY (n:=2) hs (Qam.len _) rfl rfl (vs:=(Qaa r61.1)) rfl rfl rfl (fun _=>rfl) (Qam.len _) (Qam.one _) ?_
 intro w hs
 refine g_n rfl ?_
 refine Qab (v:=int .i64 r61.2) rfl rfl rfl (g_d rfl (Qac (Qaj (Qaj ?_))))
 refine Qcz (J:=(fun t w=>Qar.j4 N r6 r41 r61=some r∧Fr t (fun O=>(O 0::O 1::O 2::O 3::O 4::pointer (some ⟨b9,0,none⟩)::O 6::O 7::O 8::O 9::O 10::O 11::O 12::O 13::O 14::O 15::v42::O 17::O 18::O 19::O 20::O 21::pointer (some ⟨b62,0,none⟩)::O 23::O 24::O 25::O 26::O 27::O 28::O 29::oT O 3 (oT O 4 (oT O 5 (oT O 6 (oT O 7 (oT O 8 (oT O 9 (oT O 10 (oT O 11 (oT O 12 (oT O 13 (oT O 14 (oT O 15 (oT O 16 (oT O 17 (oT O 18 (oT O 19 (oT O 20 (oT O 21 (oT O 22 (oT O 23 (oT O 24 (oT O 25 (oT O 26 (oT O 27 (oT O 28 (oT O 29 (O 300::O 301::O 302::O 303::O 304::O 305::O 306::[]))))))))))))))))))))))))))):List Value))∧St w0 [Cells b9 (([int .i8 r6.Qad,int .i8 r6.Qag,v7]:List Value)) 27,Row 46 (K.int .u16) v7 r6.Qal,Row 46 (K.int .u16) v42 r41.1,Cells b62 (Qaa r61.1) 48] w)) ?_ ?_
 ·exact Qar.seg1 htab hmax hsyn hrng hr0 hr1
 intro ha
 refine Qan [0,1,2,3,4,5,6,7,8,9,10,11,12,13,14,15,16,17,18,19,20,21,22,23,24,25,26] rfl ?_
 refine Qab (v:=int .i64 r61.2) rfl rfl rfl (g_d rfl ?_)
 refine QaI (B:=r61.2 !=0) rfl rfl rfl ?_ ?_
 ·
  intro hb
  rw [if_neg (b_bne_t hb)] at H
  refine g_d rfl ?_
  try dsimp only [Qah,Qai]
  refine Qab (v:=bool true) rfl rfl rfl (g_d rfl (Qae rfl rfl (g_d rfl (Qae rfl rfl (g_d rfl (Qae rfl rfl (g_d rfl ?_)))))))
  try dsimp only [Qah,Qai]
  refine Qab (v:=bool true) rfl rfl rfl (g_d rfl ?_)
  refine Qab (v:=bool true) rfl rfl rfl (g_d rfl (Qae rfl rfl (g_d rfl (Qae rfl rfl (g_d rfl ?_)))))
  try dsimp only [Qah,Qai]
  refine Qae rfl rfl (g_d rfl ?_)
  refine Qab (v:=bool true) rfl rfl rfl (g_d rfl ?_)
  try dsimp only [Qah,Qai]
  refine Qab (v:=bool true) rfl rfl rfl (g_d rfl (Qae rfl rfl (g_d rfl (Qae rfl rfl (g_d rfl (Qae rfl rfl (g_d rfl ?_)))))))
  refine Qae rfl rfl (g_d rfl ?_)
  try dsimp only [Qah,Qai]
  refine Qab (v:=bool true) rfl rfl rfl (g_d rfl ?_)
  refine Qab (v:=bool true) rfl rfl rfl (g_d rfl (Qae rfl rfl (g_d rfl (Qae rfl rfl (g_d rfl ?_)))))
  try dsimp only [Qah,Qai]
  refine Qae rfl rfl (g_d rfl ?_)
  refine Qab (v:=bool true) rfl rfl rfl (g_d rfl ?_)
  try dsimp only [Qah,Qai]
  refine Qab (v:=bool true) rfl rfl rfl (g_d rfl (Qae rfl rfl (g_d rfl (Qae rfl rfl (g_d rfl ?_)))))
  refine Qab (v:=bool true) rfl rfl rfl (g_d rfl ?_)
  try dsimp only [Qah,Qai]
  refine Qac (Qaq rfl (Qaj (Qan [0] rfl ?_)))
  refine Qab (v:=bool false) rfl rfl rfl (g_d rfl (Qac ?_))
  obtain rfl:=QsJ H
  refine QaB Tryz.func3 (v:=bool false) (res1 rfl rfl) ?_
  have hs:St _ [] _:=St.take (Γ':=[_,_,_,_]) hs
  exact ⟨_,rfl,rfl,hs⟩
 intro hb
 rw [if_pos (b_bne_f hb)] at H
 refine g_d rfl ?_
 try dsimp only [Qah,Qai]
 refine Qab (v:=bool false) rfl rfl rfl (g_d rfl ?_)
 refine Qab (v:=pointer (some ⟨b62,0,none⟩)) rfl rfl rfl (g_d rfl ?_)
 refine Qaw rfl rfl (v:=int .u16 r61.1.Qat) rfl rfl (fun _=>rfl) (cells_load (hs.cells 0 rfl) 0 1 rfl) (g_d rfl ?_)
 refine Qab (v:=bool (r61.1.Qat !=0)) rfl rfl rfl (g_d rfl ?_)
 try dsimp only [Qah,Qai]
 refine QaI (B:=r61.1.Qat !=0) rfl rfl rfl ?_ ?_
 ·
  intro hb
  rw [if_neg (b_bne_t hb)] at H
  refine g_d rfl ?_
  refine Qab (v:=bool true) rfl rfl rfl (g_d rfl (Qae rfl rfl (g_d rfl (Qae rfl rfl (g_d rfl ?_)))))
  try dsimp only [Qah,Qai]
  refine Qae rfl rfl (g_d rfl ?_)
  refine Qab (v:=bool true) rfl rfl rfl (g_d rfl ?_)
  try dsimp only [Qah,Qai]
  refine Qab (v:=bool true) rfl rfl rfl (g_d rfl (Qae rfl rfl (g_d rfl (Qae rfl rfl (g_d rfl (Qae rfl rfl (g_d rfl ?_)))))))
  refine Qae rfl rfl (g_d rfl ?_)
  try dsimp only [Qah,Qai]
  refine Qab (v:=bool true) rfl rfl rfl (g_d rfl ?_)
  refine Qab (v:=bool true) rfl rfl rfl (g_d rfl (Qae rfl rfl (g_d rfl (Qae rfl rfl (g_d rfl ?_)))))
  try dsimp only [Qah,Qai]
  refine Qae rfl rfl (g_d rfl ?_)
  refine Qab (v:=bool true) rfl rfl rfl (g_d rfl ?_)
  try dsimp only [Qah,Qai]
  refine Qab (v:=bool true) rfl rfl rfl (g_d rfl (Qae rfl rfl (g_d rfl (Qae rfl rfl (g_d rfl ?_)))))
  refine Qab (v:=bool true) rfl rfl rfl (g_d rfl ?_)
  try dsimp only [Qah,Qai]
  refine Qac (Qaq rfl (Qaj (Qan [0] rfl ?_)))
  refine Qab (v:=bool false) rfl rfl rfl (g_d rfl (Qac ?_))
  obtain rfl:=QsJ H
  refine QaB Tryz.func3 (v:=bool false) (res1 rfl rfl) ?_
  have hs:St _ [] _:=St.take (Γ':=[_,_,_,_]) hs
  exact ⟨_,rfl,rfl,hs⟩
 intro hb
 rw [if_pos (b_bne_f hb)] at H
 refine g_d rfl ?_
 refine Qab (v:=bool false) rfl rfl rfl (g_d rfl ?_)
 refine Qab (v:=pointer (some ⟨b62,1,none⟩)) rfl rfl rfl (g_d rfl ?_)
 refine Qaw rfl rfl (v:=bool r61.1.Qbi) rfl rfl (fun _=>rfl) (cells_load (hs.cells 0 rfl) 1 1 rfl) (g_d rfl ?_)
 try dsimp only [Qah,Qai]
 refine Qab (v:=bool (!r61.1.Qbi)) rfl rfl rfl (g_d rfl ?_)
 refine QaI (B:=!r61.1.Qbi) rfl rfl rfl ?_ ?_
 ·
  intro hb
  rw [if_neg (b_not_t hb)] at H
  refine g_d rfl ?_
  refine Qab (v:=bool true) rfl rfl rfl (g_d rfl (Qae rfl rfl (g_d rfl (Qae rfl rfl (g_d rfl (Qae rfl rfl (g_d rfl ?_)))))))
  try dsimp only [Qah,Qai]
  refine Qae rfl rfl (g_d rfl ?_)
  refine Qab (v:=bool true) rfl rfl rfl (g_d rfl ?_)
  try dsimp only [Qah,Qai]
  refine Qab (v:=bool true) rfl rfl rfl (g_d rfl (Qae rfl rfl (g_d rfl (Qae rfl rfl (g_d rfl (Qae rfl rfl (g_d rfl ?_)))))))
  try dsimp only [Qah,Qai]
  refine Qab (v:=bool true) rfl rfl rfl (g_d rfl ?_)
  refine Qab (v:=bool true) rfl rfl rfl (g_d rfl (Qae rfl rfl (g_d rfl (Qae rfl rfl (g_d rfl ?_)))))
  try dsimp only [Qah,Qai]
  refine Qab (v:=bool true) rfl rfl rfl (g_d rfl (Qac (Qaq rfl (Qaj (Qan [0] rfl ?_)))))
  refine Qab (v:=bool false) rfl rfl rfl (g_d rfl ?_)
  try dsimp only [Qah,Qai]
  refine Qac ?_
  obtain rfl:=QsJ H
  refine QaB Tryz.func3 (v:=bool false) (res1 rfl rfl) ?_
  have hs:St _ [] _:=St.take (Γ':=[_,_,_,_]) hs
  exact ⟨_,rfl,rfl,hs⟩
 intro hb
 rw [if_pos (b_not_f hb)] at H
 refine g_d rfl ?_
 try dsimp only [Qah,Qai]
 refine Qab (v:=bool false) rfl rfl rfl (g_d rfl ?_)
 refine Qab (v:=int .i64 r53.1) rfl rfl rfl (g_d rfl ?_)
 refine Qab (v:=v42) rfl rfl rfl (g_d rfl ?_)
 refine QbC (hs.row 3 rfl) rfl rfl rfl rfl rfl (g_d rfl ?_)
 refine Qab (v:=bool (r53.1 !=(r41.1.length:Int))) rfl rfl rfl (g_d rfl ?_)
 try dsimp only [Qah,Qai]
 refine QaI (B:=r53.1 !=(r41.1.length:Int)) rfl rfl rfl ?_ ?_
 ·
  intro hb
  rw [if_neg (b_bne_t hb)] at H
  refine g_d rfl ?_
  try dsimp only [Qah,Qai]
  refine Qab (v:=bool true) rfl rfl rfl (g_d rfl (Qae rfl rfl (g_d rfl (Qae rfl rfl (g_d rfl (Qae rfl rfl (g_d rfl ?_)))))))
  try dsimp only [Qah,Qai]
  refine Qab (v:=bool true) rfl rfl rfl (g_d rfl ?_)
  refine Qab (v:=bool true) rfl rfl rfl (g_d rfl (Qae rfl rfl (g_d rfl (Qae rfl rfl (g_d rfl ?_)))))
  try dsimp only [Qah,Qai]
  refine Qab (v:=bool true) rfl rfl rfl (g_d rfl (Qac (Qaq rfl (Qaj (Qan [0] rfl ?_)))))
  refine Qab (v:=bool false) rfl rfl rfl (g_d rfl ?_)
  try dsimp only [Qah,Qai]
  refine Qac ?_
  obtain rfl:=QsJ H
  refine QaB Tryz.func3 (v:=bool false) (res1 rfl rfl) ?_
  have hs:St _ [] _:=St.take (Γ':=[_,_,_,_]) hs
  exact ⟨_,rfl,rfl,hs⟩
 intro hb
 rw [if_pos (b_bne_f hb)] at H
 refine g_d rfl ?_
 refine Qab (v:=bool false) rfl rfl rfl (g_d rfl ?_)
 refine Qab (v:=int .i64 r53.1) rfl rfl rfl (g_d rfl ?_)
 refine Qab (v:=int .i64 (r53.1.tmod 2)) rfl rfl rfl (g_d rfl ?_)
 try dsimp only [Qah,Qai]
 refine Qab (v:=bool ((r53.1.tmod 2) !=1)) rfl rfl rfl (g_d rfl ?_)
 refine QaI (B:=(r53.1.tmod 2) !=1) rfl rfl rfl ?_ ?_
 ·
  intro hb
  rw [if_neg (b_bne_t hb)] at H
  refine g_d rfl ?_
  try dsimp only [Qah,Qai]
  refine Qab (v:=bool true) rfl rfl rfl (g_d rfl (Qae rfl rfl (g_d rfl (Qae rfl rfl (g_d rfl ?_)))))
  refine Qab (v:=bool true) rfl rfl rfl (g_d rfl ?_)
  try dsimp only [Qah,Qai]
  refine Qac (Qaq rfl (Qaj (Qan [0] rfl ?_)))
  refine Qab (v:=bool false) rfl rfl rfl (g_d rfl (Qac ?_))
  obtain rfl:=QsJ H
  refine QaB Tryz.func3 (v:=bool false) (res1 rfl rfl) ?_
  have hs:St _ [] _:=St.take (Γ':=[_,_,_,_]) hs
  exact ⟨_,rfl,rfl,hs⟩
 intro hb
 rw [if_pos (b_bne_f hb)] at H
 refine g_d rfl ?_
 try dsimp only [Qah,Qai]
 refine Qab (v:=bool false) rfl rfl rfl (g_d rfl ?_)
 refine Qab (v:=int .i64 x51) rfl rfl rfl (g_d rfl ?_)
 refine QaI (B:=decide (x51< 1)) rfl rfl rfl ?_ ?_
 ·
  intro hb
  rw [if_pos (b_dec_t hb)] at H
  refine g_d rfl ?_
  refine Qab (v:=bool true) rfl rfl rfl (g_d rfl ?_)
  try dsimp only [Qah,Qai]
  refine Qac (Qaq rfl (Qaj (Qan [0] rfl ?_)))
  refine Qab (v:=bool false) rfl rfl rfl (g_d rfl (Qac ?_))
  obtain rfl:=QsJ H
  refine QaB Tryz.func3 (v:=bool false) (res1 rfl rfl) ?_
  have hs:St _ [] _:=St.take (Γ':=[_,_,_,_]) hs
  exact ⟨_,rfl,rfl,hs⟩
 intro hb
 rw [if_neg (b_dec_f hb)] at H
 refine g_d rfl ?_
 refine Qab (v:=bool false) rfl rfl rfl (g_d rfl ?_)
 try dsimp only [Qah,Qai]
 refine Qac (Qas rfl (QaK ?_))
 have hs:=hs.pull 0 rfl
 have hs:=hs.pull 3 rfl
 have hs:=hs.pull 3 rfl
 have hs:=hs.pull 3 rfl
 have hs:St _ [_,_,_,_] _:=St.take (Γ':=[]) hs
 exact ha _ _ ⟨H,rfl,hs⟩
theorem Qar.seg3 {N : Nat} {a1 : (List Int)} {a3 : (List Int)} {v2 : Value} {v4 : Value} {r6 : Qaf} {r28 : ((List Int) × Int)} {x24 : Int} {x19 : Int} {x20 : Int} {x22 : (List Int)} {r25 : ((List Int) × Int)} {x37 : Int} {x36 : Bool} {r38 : ((List Int) × Int)} {r41 : ((List Int) × Int)} {b9 : Nat} {b18 : Nat} {v26 : Value} {v29 : Value} {v39 : Value} {v42 : Value} {v7 : Value} {v21 : Value} {w0 : World} {r : Bool} (htab : Lib.TabIs Tryz.prog w0 "internal/strconv.uint64pow10" .u64 Lib.pow10Tab) (hmax : CellI w0 0) (hsyn : CellE w0 1) (hrng : CellE w0 2) (hr0 : RdRow (K.int .u8) w0 v2 a1) (hr1 : RdRow (K.int .u8) w0 v4 a3) :
 ∀ t w,(fun t w=>∃ x51:Int,∃ x52:Int,Qar.j2 N r6 r28 x24 x19 x20 x22 r25 x37 x36 r38 r41 x51 x52=some r∧Fr t (fun O=>(O 0::O 1::O 2::O 3::O 4::pointer (some ⟨b9,0,none⟩)::pointer (some ⟨b18,0,none⟩)::int .i64 x24::v26::int .i64 r25.2::v29::int .i64 r28.2::bool x36::int .i64 x37::v39::int .i64 r38.2::v42::int .i64 r41.2::int .i64 x51::int .i64 x52::oT O 2 (oT O 3 (oT O 4 (oT O 5 (oT O 6 (oT O 7 (oT O 8 (oT O 9 (oT O 10 (oT O 11 (oT O 12 (oT O 13 (oT O 14 (oT O 15 (oT O 16 (oT O 17 (oT O 18 (oT O 19 (oT O 20 (oT O 21 (oT O 22 (oT O 23 (oT O 24 (oT O 25 (oT O 26 (oT O 27 (oT O 28 (oT O 29 (O 300::O 301::O 302::O 303::O 304::O 305::O 306::[])))))))))))))))))))))))))))):List Value))∧St w0 [Cells b9 (([int .i8 r6.Qad,int .i8 r6.Qag,v7]:List Value)) 27,Row 46 (K.int .u16) v7 r6.Qal,Cells b18 (([int .i8 x19,int .i8 x20,v21]:List Value)) 27,Row 46 (K.int .u16) v21 x22,Row 86 (K.int .i16) v26 r25.1,Row 86 (K.int .i16) v29 r28.1,Row 46 (K.int .u16) v39 r38.1,Row 46 (K.int .u16) v42 r41.1] w) t w→G Tryz.prog 3 (fun e w=>∃ v,e= .returned v∧Qar.post w0 r v w) [.code (Code.at_ (Tryz.f3.body.getD .skip) [1,1,1,1,1,1,1,1,1,1])] t w:=by
 rintro t w ⟨x51,x52,H,hf,hs⟩
 obtain ⟨O,rfl⟩:=hf.open
 try dsimp only [oT]
 unfold Qar.j2 at H
 refine Qaj (Qan [0,1,2,3,4,5,6,7] rfl ?_)
 refine QaF rfl rfl (es:=(([int .i8 r6.Qad,int .i8 r6.Qag,v7]:List Value))) rfl rfl (fun _=>rfl) (n:=3) (fun _=>rfl) rfl (cells_all (hs.cells 0 rfl)) (g_d rfl ?_)
 try dsimp only [Qah,Qai]
 refine Qab (v:=v29) rfl rfl rfl (g_d rfl ?_)
 obtain ⟨r53,Hr53,H⟩:=bind_get H
 refine Qaz (args:=[agg (([int .i8 r6.Qad,int .i8 r6.Qag,v7]:List Value)).toArray,v29]) rfl rfl (QaA rfl (callFunc_enter Tryz.func14 rfl rfl) rfl) (QbB.calls (a1:=(⟨r6.Qad,r6.Qag,r6.Qal⟩:Qaf)) (a4:=r28.1) (hs.row 1 rfl) (hs.row 5 rfl) Hr53) ?_
 rintro _ w ⟨rfl,hs2⟩
 have hs:St _ [_,_,_,_,_,_,_,_] _:=hs.call hs2
 refine g_d rfl ?_
 refine Qab (v:=tuple #[int .i64 r53.1,int .i64 r53.2]) rfl rfl rfl (g_d rfl ?_)
 refine Qab (v:=int .i64 r53.1) rfl rfl rfl (g_d rfl ?_)
 refine Qab (v:=int .i64 r53.2) rfl rfl rfl (g_d rfl ?_)
 refine Qab (v:=int .i64 r53.1) rfl rfl rfl (g_d rfl ?_)
 try dsimp only [Qah,Qai]
 refine Qab (v:=int .i64 r53.2) rfl rfl rfl (g_d rfl (Qac (Qaj (Qaj ?_))))
 refine Qcz (J:=(fun t w=>Qar.j3 N r38 r6 r41 r53 x51=some r∧Fr t (fun O=>(O 0::O 1::O 2::O 3::O 4::pointer (some ⟨b9,0,none⟩)::O 6::O 7::O 8::O 9::O 10::O 11::O 12::O 13::O 14::int .i64 r38.2::v42::O 17::int .i64 x51::O 19::int .i64 r53.1::O 21::O 22::O 23::O 24::O 25::O 26::O 27::O 28::O 29::oT O 3 (oT O 4 (oT O 5 (oT O 6 (oT O 7 (oT O 8 (oT O 9 (oT O 10 (oT O 11 (oT O 12 (oT O 13 (oT O 14 (oT O 15 (oT O 16 (oT O 17 (oT O 18 (oT O 19 (oT O 20 (oT O 21 (oT O 22 (oT O 23 (oT O 24 (oT O 25 (oT O 26 (oT O 27 (oT O 28 (oT O 29 (O 300::O 301::O 302::O 303::O 304::O 305::O 306::[]))))))))))))))))))))))))))):List Value))∧St w0 [Cells b9 (([int .i8 r6.Qad,int .i8 r6.Qag,v7]:List Value)) 27,Row 46 (K.int .u16) v7 r6.Qal,Row 46 (K.int .u16) v42 r41.1] w)) ?_ ?_
 ·exact Qar.seg2 htab hmax hsyn hrng hr0 hr1
 intro ha
 refine Qan [0,1,2,3,4,5,6,7,8,9,10,11,12,13,14,15,16,17,18,19,20,21,22,23,24,25,26,27,28,29,30,31,32,33,34,35,36,37,38,39,40,41,42,43,44,45,46,47,48,49,50,51,52,53,54,55,56,57,58,59,60,61,62] rfl ?_
 refine Qab (v:=int .i64 x24) rfl rfl rfl (g_d rfl ?_)
 refine QaI (B:=x24 !=0) rfl rfl rfl ?_ ?_
 ·
  intro hb
  rw [if_neg (b_bne_t hb)] at H
  refine g_d rfl ?_
  refine Qab (v:=bool true) rfl rfl rfl (g_d rfl (Qae rfl rfl (g_d rfl ?_)))
  try dsimp only [Qah,Qai]
  refine Qae rfl rfl (g_d rfl (Qae rfl rfl (g_d rfl ?_)))
  try dsimp only [Qah,Qai]
  refine Qae rfl rfl (g_d rfl ?_)
  refine Qab (v:=bool true) rfl rfl rfl (g_d rfl ?_)
  try dsimp only [Qah,Qai]
  refine Qab (v:=bool true) rfl rfl rfl (g_d rfl (Qae rfl rfl (g_d rfl (Qae rfl rfl (g_d rfl ?_)))))
  try dsimp only [Qah,Qai]
  refine Qae rfl rfl (g_d rfl (Qae rfl rfl (g_d rfl ?_)))
  try dsimp only [Qah,Qai]
  refine Qab (v:=bool true) rfl rfl rfl (g_d rfl ?_)
  refine Qab (v:=bool true) rfl rfl rfl (g_d rfl (Qae rfl rfl (g_d rfl ?_)))
  try dsimp only [Qah,Qai]
  refine Qae rfl rfl (g_d rfl (Qae rfl rfl (g_d rfl ?_)))
  try dsimp only [Qah,Qai]
  refine Qab (v:=bool true) rfl rfl rfl (g_d rfl ?_)
  refine Qab (v:=bool true) rfl rfl rfl (g_d rfl (Qae rfl rfl (g_d rfl (Qae rfl rfl (g_d rfl (Qae rfl rfl (g_d rfl ?_)))))))
  try dsimp only [Qah,Qai]
  refine Qab (v:=bool true) rfl rfl rfl (g_d rfl ?_)
  refine Qab (v:=bool true) rfl rfl rfl (g_d rfl (Qae rfl rfl (g_d rfl (Qae rfl rfl (g_d rfl ?_)))))
  try dsimp only [Qah,Qai]
  refine Qab (v:=bool true) rfl rfl rfl (g_d rfl ?_)
  refine Qab (v:=bool true) rfl rfl rfl (g_d rfl (Qae rfl rfl (g_d rfl (Qae rfl rfl (g_d rfl (Qae rfl rfl (g_d rfl ?_)))))))
  try dsimp only [Qah,Qai]
  refine Qae rfl rfl (g_d rfl ?_)
  refine Qab (v:=bool true) rfl rfl rfl (g_d rfl ?_)
  try dsimp only [Qah,Qai]
  refine Qab (v:=bool true) rfl rfl rfl (g_d rfl (Qae rfl rfl (g_d rfl (Qae rfl rfl (g_d rfl ?_)))))
  refine Qab (v:=bool true) rfl rfl rfl (g_d rfl ?_)
  try dsimp only [Qah,Qai]
  refine Qab (v:=bool true) rfl rfl rfl (g_d rfl (Qae rfl rfl (g_d rfl (Qae rfl rfl (g_d rfl ?_)))))
  refine Qab (v:=bool true) rfl rfl rfl (g_d rfl ?_)
  try dsimp only [Qah,Qai]
  refine Qab (v:=bool true) rfl rfl rfl (g_d rfl (Qae rfl rfl (g_d rfl (Qae rfl rfl (g_d rfl (Qae rfl rfl (g_d rfl ?_)))))))
  refine Qab (v:=bool true) rfl rfl rfl (g_d rfl ?_)
  try dsimp only [Qah,Qai]
  refine Qab (v:=bool true) rfl rfl rfl (g_d rfl (Qae rfl rfl (g_d rfl (Qae rfl rfl (g_d rfl (Qae rfl rfl (g_d rfl ?_)))))))
  refine Qae rfl rfl (g_d rfl ?_)
  try dsimp only [Qah,Qai]
  refine Qab (v:=bool true) rfl rfl rfl (g_d rfl ?_)
  refine Qab (v:=bool true) rfl rfl rfl (g_d rfl (Qae rfl rfl (g_d rfl (Qae rfl rfl (g_d rfl (Qae rfl rfl (g_d rfl ?_)))))))
  try dsimp only [Qah,Qai]
  refine Qab (v:=bool true) rfl rfl rfl (g_d rfl ?_)
  refine Qab (v:=bool true) rfl rfl rfl (g_d rfl (Qae rfl rfl (g_d rfl (Qae rfl rfl (g_d rfl (Qae rfl rfl (g_d rfl ?_)))))))
  try dsimp only [Qah,Qai]
  refine Qab (v:=bool true) rfl rfl rfl (g_d rfl (Qac (Qaq rfl (Qaj (Qan [0] rfl ?_)))))
  refine Qab (v:=bool false) rfl rfl rfl (g_d rfl ?_)
  try dsimp only [Qah,Qai]
  refine Qac ?_
  obtain rfl:=QsJ H
  refine QaB Tryz.func3 (v:=bool false) (res1 rfl rfl) ?_
  have hs:St _ [] _:=St.take (Γ':=[_,_,_,_,_,_,_,_]) hs
  exact ⟨_,rfl,rfl,hs⟩
 intro hb
 rw [if_pos (b_bne_f hb)] at H
 refine g_d rfl ?_
 try dsimp only [Qah,Qai]
 refine Qab (v:=bool false) rfl rfl rfl (g_d rfl ?_)
 refine QaF rfl rfl (es:=(([int .i8 x19,int .i8 x20,v21]:List Value))) rfl rfl (fun _=>rfl) (n:=3) (fun _=>rfl) rfl (cells_all (hs.cells 2 rfl)) (g_d rfl ?_)
 refine QaF rfl rfl (es:=(([int .i8 r6.Qad,int .i8 r6.Qag,v7]:List Value))) rfl rfl (fun _=>rfl) (n:=3) (fun _=>rfl) rfl (cells_all (hs.cells 0 rfl)) (g_d rfl ?_)
 try dsimp only [Qah,Qai]
 obtain ⟨r54,Hr54,H⟩:=bind_get H
 refine Qaz (args:=[agg (([int .i8 x19,int .i8 x20,v21]:List Value)).toArray,agg (([int .i8 r6.Qad,int .i8 r6.Qag,v7]:List Value)).toArray]) rfl rfl (QaA rfl (callFunc_enter Tryz.func15 rfl rfl) rfl) (Qb2.calls (a1:=(⟨x19,x20,x22⟩:Qaf)) (a4:=(⟨r6.Qad,r6.Qag,r6.Qal⟩:Qaf)) (hs.row 3 rfl) (hs.row 1 rfl) Hr54) ?_
 rintro _ w ⟨rfl,hs2⟩
 have hs:St _ [_,_,_,_,_,_,_,_] _:=hs.call hs2
 refine g_d rfl ?_
 refine Qab (v:=bool (!r54)) rfl rfl rfl (g_d rfl ?_)
 try dsimp only [Qah,Qai]
 refine QaI (B:=!r54) rfl rfl rfl ?_ ?_
 ·
  intro hb
  rw [if_neg (b_not_t hb)] at H
  refine g_d rfl ?_
  try dsimp only [Qah,Qai]
  refine Qab (v:=bool true) rfl rfl rfl (g_d rfl (Qae rfl rfl (g_d rfl (Qae rfl rfl (g_d rfl ?_)))))
  try dsimp only [Qah,Qai]
  refine Qae rfl rfl (g_d rfl (Qae rfl rfl (g_d rfl ?_)))
  try dsimp only [Qah,Qai]
  refine Qab (v:=bool true) rfl rfl rfl (g_d rfl ?_)
  refine Qab (v:=bool true) rfl rfl rfl (g_d rfl (Qae rfl rfl (g_d rfl ?_)))
  try dsimp only [Qah,Qai]
  refine Qae rfl rfl (g_d rfl (Qae rfl rfl (g_d rfl ?_)))
  try dsimp only [Qah,Qai]
  refine Qab (v:=bool true) rfl rfl rfl (g_d rfl ?_)
  refine Qab (v:=bool true) rfl rfl rfl (g_d rfl (Qae rfl rfl (g_d rfl (Qae rfl rfl (g_d rfl (Qae rfl rfl (g_d rfl ?_)))))))
  try dsimp only [Qah,Qai]
  refine Qab (v:=bool true) rfl rfl rfl (g_d rfl ?_)
  refine Qab (v:=bool true) rfl rfl rfl (g_d rfl (Qae rfl rfl (g_d rfl (Qae rfl rfl (g_d rfl ?_)))))
  try dsimp only [Qah,Qai]
  refine Qab (v:=bool true) rfl rfl rfl (g_d rfl ?_)
  refine Qab (v:=bool true) rfl rfl rfl (g_d rfl (Qae rfl rfl (g_d rfl (Qae rfl rfl (g_d rfl (Qae rfl rfl (g_d rfl ?_)))))))
  try dsimp only [Qah,Qai]
  refine Qae rfl rfl (g_d rfl ?_)
  refine Qab (v:=bool true) rfl rfl rfl (g_d rfl ?_)
  try dsimp only [Qah,Qai]
  refine Qab (v:=bool true) rfl rfl rfl (g_d rfl (Qae rfl rfl (g_d rfl (Qae rfl rfl (g_d rfl ?_)))))
  refine Qab (v:=bool true) rfl rfl rfl (g_d rfl ?_)
  try dsimp only [Qah,Qai]
  refine Qab (v:=bool true) rfl rfl rfl (g_d rfl (Qae rfl rfl (g_d rfl (Qae rfl rfl (g_d rfl ?_)))))
  refine Qab (v:=bool true) rfl rfl rfl (g_d rfl ?_)
  try dsimp only [Qah,Qai]
  refine Qab (v:=bool true) rfl rfl rfl (g_d rfl (Qae rfl rfl (g_d rfl (Qae rfl rfl (g_d rfl (Qae rfl rfl (g_d rfl ?_)))))))
  refine Qab (v:=bool true) rfl rfl rfl (g_d rfl ?_)
  try dsimp only [Qah,Qai]
  refine Qab (v:=bool true) rfl rfl rfl (g_d rfl (Qae rfl rfl (g_d rfl (Qae rfl rfl (g_d rfl (Qae rfl rfl (g_d rfl ?_)))))))
  refine Qae rfl rfl (g_d rfl ?_)
  try dsimp only [Qah,Qai]
  refine Qab (v:=bool true) rfl rfl rfl (g_d rfl ?_)
  refine Qab (v:=bool true) rfl rfl rfl (g_d rfl (Qae rfl rfl (g_d rfl (Qae rfl rfl (g_d rfl (Qae rfl rfl (g_d rfl ?_)))))))
  try dsimp only [Qah,Qai]
  refine Qab (v:=bool true) rfl rfl rfl (g_d rfl ?_)
  refine Qab (v:=bool true) rfl rfl rfl (g_d rfl (Qae rfl rfl (g_d rfl (Qae rfl rfl (g_d rfl (Qae rfl rfl (g_d rfl ?_)))))))
  try dsimp only [Qah,Qai]
  refine Qab (v:=bool true) rfl rfl rfl (g_d rfl (Qac (Qaq rfl (Qaj (Qan [0] rfl ?_)))))
  refine Qab (v:=bool false) rfl rfl rfl (g_d rfl ?_)
  try dsimp only [Qah,Qai]
  refine Qac ?_
  obtain rfl:=QsJ H
  refine QaB Tryz.func3 (v:=bool false) (res1 rfl rfl) ?_
  have hs:St _ [] _:=St.take (Γ':=[_,_,_,_,_,_,_,_]) hs
  exact ⟨_,rfl,rfl,hs⟩
 intro hb
 rw [if_pos (b_not_f hb)] at H
 refine g_d rfl ?_
 refine Qab (v:=bool false) rfl rfl rfl (g_d rfl ?_)
 refine QaF rfl rfl (es:=(([int .i8 x19,int .i8 x20,v21]:List Value))) rfl rfl (fun _=>rfl) (n:=3) (fun _=>rfl) rfl (cells_all (hs.cells 2 rfl)) (g_d rfl ?_)
 try dsimp only [Qah,Qai]
 refine QaF rfl rfl (es:=(([int .i8 r6.Qad,int .i8 r6.Qag,v7]:List Value))) rfl rfl (fun _=>rfl) (n:=3) (fun _=>rfl) rfl (cells_all (hs.cells 0 rfl)) (g_d rfl ?_)
 obtain ⟨r55,Hr55,H⟩:=bind_get H
 refine Qaz (args:=[agg (([int .i8 x19,int .i8 x20,v21]:List Value)).toArray,agg (([int .i8 r6.Qad,int .i8 r6.Qag,v7]:List Value)).toArray]) rfl rfl (QaA rfl (callFunc_enter Tryz.func16 rfl rfl) rfl) (Qb4.calls (a1:=(⟨x19,x20,x22⟩:Qaf)) (a4:=(⟨r6.Qad,r6.Qag,r6.Qal⟩:Qaf)) (hs.row 3 rfl) (hs.row 1 rfl) Hr55) ?_
 rintro _ w ⟨rfl,hs2⟩
 have hs:St _ [_,_,_,_,_,_,_,_] _:=hs.call hs2
 refine g_d rfl ?_
 try dsimp only [Qah,Qai]
 refine Qab (v:=bool (!r55)) rfl rfl rfl (g_d rfl ?_)
 refine QaI (B:=!r55) rfl rfl rfl ?_ ?_
 ·
  intro hb
  rw [if_neg (b_not_t hb)] at H
  refine g_d rfl ?_
  try dsimp only [Qah,Qai]
  refine Qab (v:=bool true) rfl rfl rfl (g_d rfl (Qae rfl rfl (g_d rfl (Qae rfl rfl (g_d rfl ?_)))))
  try dsimp only [Qah,Qai]
  refine Qae rfl rfl (g_d rfl ?_)
  refine Qab (v:=bool true) rfl rfl rfl (g_d rfl ?_)
  try dsimp only [Qah,Qai]
  refine Qab (v:=bool true) rfl rfl rfl (g_d rfl (Qae rfl rfl (g_d rfl (Qae rfl rfl (g_d rfl (Qae rfl rfl (g_d rfl ?_)))))))
  refine Qab (v:=bool true) rfl rfl rfl (g_d rfl ?_)
  try dsimp only [Qah,Qai]
  refine Qab (v:=bool true) rfl rfl rfl (g_d rfl (Qae rfl rfl (g_d rfl (Qae rfl rfl (g_d rfl ?_)))))
  refine Qab (v:=bool true) rfl rfl rfl (g_d rfl ?_)
  try dsimp only [Qah,Qai]
  refine Qab (v:=bool true) rfl rfl rfl (g_d rfl (Qae rfl rfl (g_d rfl (Qae rfl rfl (g_d rfl (Qae rfl rfl (g_d rfl ?_)))))))
  refine Qae rfl rfl (g_d rfl ?_)
  try dsimp only [Qah,Qai]
  refine Qab (v:=bool true) rfl rfl rfl (g_d rfl ?_)
  refine Qab (v:=bool true) rfl rfl rfl (g_d rfl (Qae rfl rfl (g_d rfl (Qae rfl rfl (g_d rfl ?_)))))
  try dsimp only [Qah,Qai]
  refine Qab (v:=bool true) rfl rfl rfl (g_d rfl ?_)
  refine Qab (v:=bool true) rfl rfl rfl (g_d rfl (Qae rfl rfl (g_d rfl (Qae rfl rfl (g_d rfl ?_)))))
  try dsimp only [Qah,Qai]
  refine Qab (v:=bool true) rfl rfl rfl (g_d rfl ?_)
  refine Qab (v:=bool true) rfl rfl rfl (g_d rfl (Qae rfl rfl (g_d rfl (Qae rfl rfl (g_d rfl (Qae rfl rfl (g_d rfl ?_)))))))
  try dsimp only [Qah,Qai]
  refine Qab (v:=bool true) rfl rfl rfl (g_d rfl ?_)
  refine Qab (v:=bool true) rfl rfl rfl (g_d rfl (Qae rfl rfl (g_d rfl (Qae rfl rfl (g_d rfl (Qae rfl rfl (g_d rfl ?_)))))))
  try dsimp only [Qah,Qai]
  refine Qae rfl rfl (g_d rfl ?_)
  refine Qab (v:=bool true) rfl rfl rfl (g_d rfl ?_)
  try dsimp only [Qah,Qai]
  refine Qab (v:=bool true) rfl rfl rfl (g_d rfl (Qae rfl rfl (g_d rfl (Qae rfl rfl (g_d rfl (Qae rfl rfl (g_d rfl ?_)))))))
  refine Qab (v:=bool true) rfl rfl rfl (g_d rfl ?_)
  try dsimp only [Qah,Qai]
  refine Qab (v:=bool true) rfl rfl rfl (g_d rfl (Qae rfl rfl (g_d rfl (Qae rfl rfl (g_d rfl (Qae rfl rfl (g_d rfl ?_)))))))
  refine Qab (v:=bool true) rfl rfl rfl (g_d rfl ?_)
  try dsimp only [Qah,Qai]
  refine Qac (Qaq rfl (Qaj (Qan [0] rfl ?_)))
  refine Qab (v:=bool false) rfl rfl rfl (g_d rfl (Qac ?_))
  obtain rfl:=QsJ H
  refine QaB Tryz.func3 (v:=bool false) (res1 rfl rfl) ?_
  have hs:St _ [] _:=St.take (Γ':=[_,_,_,_,_,_,_,_]) hs
  exact ⟨_,rfl,rfl,hs⟩
 intro hb
 rw [if_pos (b_not_f hb)] at H
 refine g_d rfl ?_
 try dsimp only [Qah,Qai]
 refine Qab (v:=bool false) rfl rfl rfl (g_d rfl ?_)
 refine QaF rfl rfl (es:=(([int .i8 r6.Qad,int .i8 r6.Qag,v7]:List Value))) rfl rfl (fun _=>rfl) (n:=3) (fun _=>rfl) rfl (cells_all (hs.cells 0 rfl)) (g_d rfl ?_)
 obtain ⟨r56,Hr56,H⟩:=bind_get H
 refine Qaz (args:=[agg (([int .i8 r6.Qad,int .i8 r6.Qag,v7]:List Value)).toArray]) rfl rfl (QaA rfl (callFunc_enter Tryz.func17 rfl rfl) rfl) (QaX.calls (a1:=(⟨r6.Qad,r6.Qag,r6.Qal⟩:Qaf)) (hs.row 1 rfl) Hr56) ?_
 rintro _ w ⟨rfl,hs2⟩
 have hs:St _ [_,_,_,_,_,_,_,_] _:=hs.call hs2
 refine g_d rfl ?_
 try dsimp only [Qah,Qai]
 refine Qab (v:=bool (!r56)) rfl rfl rfl (g_d rfl ?_)
 refine QaI (B:=!r56) rfl rfl rfl ?_ ?_
 ·
  intro hb
  rw [if_neg (b_not_t hb)] at H
  refine g_d rfl ?_
  try dsimp only [Qah,Qai]
  refine Qab (v:=bool true) rfl rfl rfl (g_d rfl (Qae rfl rfl (g_d rfl (Qae rfl rfl (g_d rfl (Qae rfl rfl (g_d rfl ?_)))))))
  refine Qab (v:=bool true) rfl rfl rfl (g_d rfl ?_)
  try dsimp only [Qah,Qai]
  refine Qab (v:=bool true) rfl rfl rfl (g_d rfl (Qae rfl rfl (g_d rfl (Qae rfl rfl (g_d rfl ?_)))))
  refine Qab (v:=bool true) rfl rfl rfl (g_d rfl ?_)
  try dsimp only [Qah,Qai]
  refine Qab (v:=bool true) rfl rfl rfl (g_d rfl (Qae rfl rfl (g_d rfl (Qae rfl rfl (g_d rfl (Qae rfl rfl (g_d rfl ?_)))))))
  refine Qae rfl rfl (g_d rfl ?_)
  try dsimp only [Qah,Qai]
  refine Qab (v:=bool true) rfl rfl rfl (g_d rfl ?_)
  refine Qab (v:=bool true) rfl rfl rfl (g_d rfl (Qae rfl rfl (g_d rfl (Qae rfl rfl (g_d rfl ?_)))))
  try dsimp only [Qah,Qai]
  refine Qab (v:=bool true) rfl rfl rfl (g_d rfl ?_)
  refine Qab (v:=bool true) rfl rfl rfl (g_d rfl (Qae rfl rfl (g_d rfl (Qae rfl rfl (g_d rfl ?_)))))
  try dsimp only [Qah,Qai]
  refine Qab (v:=bool true) rfl rfl rfl (g_d rfl ?_)
  refine Qab (v:=bool true) rfl rfl rfl (g_d rfl (Qae rfl rfl (g_d rfl (Qae rfl rfl (g_d rfl (Qae rfl rfl (g_d rfl ?_)))))))
  try dsimp only [Qah,Qai]
  refine Qab (v:=bool true) rfl rfl rfl (g_d rfl ?_)
  refine Qab (v:=bool true) rfl rfl rfl (g_d rfl (Qae rfl rfl (g_d rfl (Qae rfl rfl (g_d rfl (Qae rfl rfl (g_d rfl ?_)))))))
  try dsimp only [Qah,Qai]
  refine Qae rfl rfl (g_d rfl ?_)
  refine Qab (v:=bool true) rfl rfl rfl (g_d rfl ?_)
  try dsimp only [Qah,Qai]
  refine Qab (v:=bool true) rfl rfl rfl (g_d rfl (Qae rfl rfl (g_d rfl (Qae rfl rfl (g_d rfl (Qae rfl rfl (g_d rfl ?_)))))))
  refine Qab (v:=bool true) rfl rfl rfl (g_d rfl ?_)
  try dsimp only [Qah,Qai]
  refine Qab (v:=bool true) rfl rfl rfl (g_d rfl (Qae rfl rfl (g_d rfl (Qae rfl rfl (g_d rfl (Qae rfl rfl (g_d rfl ?_)))))))
  refine Qab (v:=bool true) rfl rfl rfl (g_d rfl ?_)
  try dsimp only [Qah,Qai]
  refine Qac (Qaq rfl (Qaj (Qan [0] rfl ?_)))
  refine Qab (v:=bool false) rfl rfl rfl (g_d rfl (Qac ?_))
  obtain rfl:=QsJ H
  refine QaB Tryz.func3 (v:=bool false) (res1 rfl rfl) ?_
  have hs:St _ [] _:=St.take (Γ':=[_,_,_,_,_,_,_,_]) hs
  exact ⟨_,rfl,rfl,hs⟩
 intro hb
 rw [if_pos (b_not_f hb)] at H
 refine g_d rfl ?_
 try dsimp only [Qah,Qai]
 refine Qab (v:=bool false) rfl rfl rfl (g_d rfl ?_)
 refine Qab (v:=int .i64 r25.2) rfl rfl rfl (g_d rfl ?_)
 refine Qab (v:=int .i64 r28.2) rfl rfl rfl (g_d rfl ?_)
 refine Qab (v:=bool (r25.2 !=r28.2)) rfl rfl rfl (g_d rfl ?_)
 refine QaI (B:=r25.2 !=r28.2) rfl rfl rfl ?_ ?_
 ·
  intro hb
  rw [if_neg (b_bne_t hb)] at H
  refine g_d rfl ?_
  try dsimp only [Qah,Qai]
  refine Qab (v:=bool true) rfl rfl rfl (g_d rfl (Qae rfl rfl (g_d rfl (Qae rfl rfl (g_d rfl ?_)))))
  refine Qab (v:=bool true) rfl rfl rfl (g_d rfl ?_)
  try dsimp only [Qah,Qai]
  refine Qab (v:=bool true) rfl rfl rfl (g_d rfl (Qae rfl rfl (g_d rfl (Qae rfl rfl (g_d rfl (Qae rfl rfl (g_d rfl ?_)))))))
  refine Qae rfl rfl (g_d rfl ?_)
  try dsimp only [Qah,Qai]
  refine Qab (v:=bool true) rfl rfl rfl (g_d rfl ?_)
  refine Qab (v:=bool true) rfl rfl rfl (g_d rfl (Qae rfl rfl (g_d rfl (Qae rfl rfl (g_d rfl ?_)))))
  try dsimp only [Qah,Qai]
  refine Qab (v:=bool true) rfl rfl rfl (g_d rfl ?_)
  refine Qab (v:=bool true) rfl rfl rfl (g_d rfl (Qae rfl rfl (g_d rfl (Qae rfl rfl (g_d rfl ?_)))))
  try dsimp only [Qah,Qai]
  refine Qab (v:=bool true) rfl rfl rfl (g_d rfl ?_)
  refine Qab (v:=bool true) rfl rfl rfl (g_d rfl (Qae rfl rfl (g_d rfl (Qae rfl rfl (g_d rfl (Qae rfl rfl (g_d rfl ?_)))))))
  try dsimp only [Qah,Qai]
  refine Qab (v:=bool true) rfl rfl rfl (g_d rfl ?_)
  refine Qab (v:=bool true) rfl rfl rfl (g_d rfl (Qae rfl rfl (g_d rfl (Qae rfl rfl (g_d rfl (Qae rfl rfl (g_d rfl ?_)))))))
  try dsimp only [Qah,Qai]
  refine Qae rfl rfl (g_d rfl ?_)
  refine Qab (v:=bool true) rfl rfl rfl (g_d rfl ?_)
  try dsimp only [Qah,Qai]
  refine Qab (v:=bool true) rfl rfl rfl (g_d rfl (Qae rfl rfl (g_d rfl (Qae rfl rfl (g_d rfl (Qae rfl rfl (g_d rfl ?_)))))))
  refine Qab (v:=bool true) rfl rfl rfl (g_d rfl ?_)
  try dsimp only [Qah,Qai]
  refine Qab (v:=bool true) rfl rfl rfl (g_d rfl (Qae rfl rfl (g_d rfl (Qae rfl rfl (g_d rfl (Qae rfl rfl (g_d rfl ?_)))))))
  refine Qab (v:=bool true) rfl rfl rfl (g_d rfl ?_)
  try dsimp only [Qah,Qai]
  refine Qac (Qaq rfl (Qaj (Qan [0] rfl ?_)))
  refine Qab (v:=bool false) rfl rfl rfl (g_d rfl (Qac ?_))
  obtain rfl:=QsJ H
  refine QaB Tryz.func3 (v:=bool false) (res1 rfl rfl) ?_
  have hs:St _ [] _:=St.take (Γ':=[_,_,_,_,_,_,_,_]) hs
  exact ⟨_,rfl,rfl,hs⟩
 intro hb
 rw [if_pos (b_bne_f hb)] at H
 refine g_d rfl ?_
 try dsimp only [Qah,Qai]
 refine Qab (v:=bool false) rfl rfl rfl (g_d rfl ?_)
 refine Qab (v:=int .i64 r25.2) rfl rfl rfl (g_d rfl ?_)
 refine Qab (v:=bool (r25.2 !=0)) rfl rfl rfl (g_d rfl ?_)
 refine QaI (B:=r25.2 !=0) rfl rfl rfl ?_ ?_
 ·
  intro hb
  rw [if_neg (b_bne_t hb)] at H
  refine g_d rfl ?_
  try dsimp only [Qah,Qai]
  refine Qab (v:=bool true) rfl rfl rfl (g_d rfl (Qae rfl rfl (g_d rfl (Qae rfl rfl (g_d rfl (Qae rfl rfl (g_d rfl ?_)))))))
  refine Qae rfl rfl (g_d rfl ?_)
  try dsimp only [Qah,Qai]
  refine Qab (v:=bool true) rfl rfl rfl (g_d rfl ?_)
  refine Qab (v:=bool true) rfl rfl rfl (g_d rfl (Qae rfl rfl (g_d rfl (Qae rfl rfl (g_d rfl ?_)))))
  try dsimp only [Qah,Qai]
  refine Qab (v:=bool true) rfl rfl rfl (g_d rfl ?_)
  refine Qab (v:=bool true) rfl rfl rfl (g_d rfl (Qae rfl rfl (g_d rfl (Qae rfl rfl (g_d rfl ?_)))))
  try dsimp only [Qah,Qai]
  refine Qab (v:=bool true) rfl rfl rfl (g_d rfl ?_)
  refine Qab (v:=bool true) rfl rfl rfl (g_d rfl (Qae rfl rfl (g_d rfl (Qae rfl rfl (g_d rfl (Qae rfl rfl (g_d rfl ?_)))))))
  try dsimp only [Qah,Qai]
  refine Qab (v:=bool true) rfl rfl rfl (g_d rfl ?_)
  refine Qab (v:=bool true) rfl rfl rfl (g_d rfl (Qae rfl rfl (g_d rfl (Qae rfl rfl (g_d rfl (Qae rfl rfl (g_d rfl ?_)))))))
  try dsimp only [Qah,Qai]
  refine Qae rfl rfl (g_d rfl ?_)
  refine Qab (v:=bool true) rfl rfl rfl (g_d rfl ?_)
  try dsimp only [Qah,Qai]
  refine Qab (v:=bool true) rfl rfl rfl (g_d rfl (Qae rfl rfl (g_d rfl (Qae rfl rfl (g_d rfl (Qae rfl rfl (g_d rfl ?_)))))))
  refine Qab (v:=bool true) rfl rfl rfl (g_d rfl ?_)
  try dsimp only [Qah,Qai]
  refine Qab (v:=bool true) rfl rfl rfl (g_d rfl (Qae rfl rfl (g_d rfl (Qae rfl rfl (g_d rfl (Qae rfl rfl (g_d rfl ?_)))))))
  refine Qab (v:=bool true) rfl rfl rfl (g_d rfl ?_)
  try dsimp only [Qah,Qai]
  refine Qac (Qaq rfl (Qaj (Qan [0] rfl ?_)))
  refine Qab (v:=bool false) rfl rfl rfl (g_d rfl (Qac ?_))
  obtain rfl:=QsJ H
  refine QaB Tryz.func3 (v:=bool false) (res1 rfl rfl) ?_
  have hs:St _ [] _:=St.take (Γ':=[_,_,_,_,_,_,_,_]) hs
  exact ⟨_,rfl,rfl,hs⟩
 intro hb
 rw [if_pos (b_bne_f hb)] at H
 refine g_d rfl ?_
 try dsimp only [Qah,Qai]
 refine Qab (v:=bool false) rfl rfl rfl (g_d rfl ?_)
 refine Qab (v:=v26) rfl rfl rfl (g_d rfl ?_)
 refine Qab (v:=v29) rfl rfl rfl (g_d rfl ?_)
 obtain ⟨r57,Hr57,H⟩:=bind_get H
 refine Qaz (args:=[v26,v29]) rfl rfl (QaA rfl (callFunc_enter Tryz.func18 rfl rfl) rfl) (Qbe.calls (a1:=r25.1) (a3:=r28.1) (hs.row 4 rfl) (hs.row 5 rfl) Hr57) ?_
 rintro _ w ⟨rfl,hs2⟩
 have hs:St _ [_,_,_,_,_,_,_,_] _:=hs.call hs2
 refine g_d rfl ?_
 refine Qab (v:=bool (!r57)) rfl rfl rfl (g_d rfl ?_)
 try dsimp only [Qah,Qai]
 refine QaI (B:=!r57) rfl rfl rfl ?_ ?_
 ·
  intro hb
  rw [if_neg (b_not_t hb)] at H
  refine g_d rfl ?_
  refine Qab (v:=bool true) rfl rfl rfl (g_d rfl (Qae rfl rfl (g_d rfl (Qae rfl rfl (g_d rfl ?_)))))
  try dsimp only [Qah,Qai]
  refine Qab (v:=bool true) rfl rfl rfl (g_d rfl ?_)
  refine Qab (v:=bool true) rfl rfl rfl (g_d rfl (Qae rfl rfl (g_d rfl (Qae rfl rfl (g_d rfl ?_)))))
  try dsimp only [Qah,Qai]
  refine Qab (v:=bool true) rfl rfl rfl (g_d rfl ?_)
  refine Qab (v:=bool true) rfl rfl rfl (g_d rfl (Qae rfl rfl (g_d rfl (Qae rfl rfl (g_d rfl (Qae rfl rfl (g_d rfl ?_)))))))
  try dsimp only [Qah,Qai]
  refine Qab (v:=bool true) rfl rfl rfl (g_d rfl ?_)
  refine Qab (v:=bool true) rfl rfl rfl (g_d rfl (Qae rfl rfl (g_d rfl (Qae rfl rfl (g_d rfl (Qae rfl rfl (g_d rfl ?_)))))))
  try dsimp only [Qah,Qai]
  refine Qae rfl rfl (g_d rfl ?_)
  refine Qab (v:=bool true) rfl rfl rfl (g_d rfl ?_)
  try dsimp only [Qah,Qai]
  refine Qab (v:=bool true) rfl rfl rfl (g_d rfl (Qae rfl rfl (g_d rfl (Qae rfl rfl (g_d rfl (Qae rfl rfl (g_d rfl ?_)))))))
  refine Qab (v:=bool true) rfl rfl rfl (g_d rfl ?_)
  try dsimp only [Qah,Qai]
  refine Qab (v:=bool true) rfl rfl rfl (g_d rfl (Qae rfl rfl (g_d rfl (Qae rfl rfl (g_d rfl (Qae rfl rfl (g_d rfl ?_)))))))
  refine Qab (v:=bool true) rfl rfl rfl (g_d rfl ?_)
  try dsimp only [Qah,Qai]
  refine Qac (Qaq rfl (Qaj (Qan [0] rfl ?_)))
  refine Qab (v:=bool false) rfl rfl rfl (g_d rfl (Qac ?_))
  obtain rfl:=QsJ H
  refine QaB Tryz.func3 (v:=bool false) (res1 rfl rfl) ?_
  have hs:St _ [] _:=St.take (Γ':=[_,_,_,_,_,_,_,_]) hs
  exact ⟨_,rfl,rfl,hs⟩
 intro hb
 rw [if_pos (b_not_f hb)] at H
 refine g_d rfl ?_
 refine Qab (v:=bool false) rfl rfl rfl (g_d rfl ?_)
 refine Qab (v:=int .i64 x37) rfl rfl rfl (g_d rfl ?_)
 refine Qab (v:=bool (x37 !=0)) rfl rfl rfl (g_d rfl ?_)
 try dsimp only [Qah,Qai]
 refine QaI (B:=x37 !=0) rfl rfl rfl ?_ ?_
 ·
  intro hb
  rw [if_neg (b_bne_t hb)] at H
  refine g_d rfl ?_
  try dsimp only [Qah,Qai]
  refine Qab (v:=bool true) rfl rfl rfl (g_d rfl (Qae rfl rfl (g_d rfl (Qae rfl rfl (g_d rfl ?_)))))
  refine Qab (v:=bool true) rfl rfl rfl (g_d rfl ?_)
  try dsimp only [Qah,Qai]
  refine Qab (v:=bool true) rfl rfl rfl (g_d rfl (Qae rfl rfl (g_d rfl (Qae rfl rfl (g_d rfl (Qae rfl rfl (g_d rfl ?_)))))))
  refine Qab (v:=bool true) rfl rfl rfl (g_d rfl ?_)
  try dsimp only [Qah,Qai]
  refine Qab (v:=bool true) rfl rfl rfl (g_d rfl (Qae rfl rfl (g_d rfl (Qae rfl rfl (g_d rfl (Qae rfl rfl (g_d rfl ?_)))))))
  refine Qae rfl rfl (g_d rfl ?_)
  try dsimp only [Qah,Qai]
  refine Qab (v:=bool true) rfl rfl rfl (g_d rfl ?_)
  refine Qab (v:=bool true) rfl rfl rfl (g_d rfl (Qae rfl rfl (g_d rfl (Qae rfl rfl (g_d rfl (Qae rfl rfl (g_d rfl ?_)))))))
  try dsimp only [Qah,Qai]
  refine Qab (v:=bool true) rfl rfl rfl (g_d rfl ?_)
  refine Qab (v:=bool true) rfl rfl rfl (g_d rfl (Qae rfl rfl (g_d rfl (Qae rfl rfl (g_d rfl (Qae rfl rfl (g_d rfl ?_)))))))
  try dsimp only [Qah,Qai]
  refine Qab (v:=bool true) rfl rfl rfl (g_d rfl (Qac (Qaq rfl (Qaj (Qan [0] rfl ?_)))))
  refine Qab (v:=bool false) rfl rfl rfl (g_d rfl ?_)
  try dsimp only [Qah,Qai]
  refine Qac ?_
  obtain rfl:=QsJ H
  refine QaB Tryz.func3 (v:=bool false) (res1 rfl rfl) ?_
  have hs:St _ [] _:=St.take (Γ':=[_,_,_,_,_,_,_,_]) hs
  exact ⟨_,rfl,rfl,hs⟩
 intro hb
 rw [if_pos (b_bne_f hb)] at H
 refine g_d rfl ?_
 refine Qab (v:=bool false) rfl rfl rfl (g_d rfl ?_)
 refine Qab (v:=bool x36) rfl rfl rfl (g_d rfl ?_)
 refine Qab (v:=bool (!x36)) rfl rfl rfl (g_d rfl ?_)
 try dsimp only [Qah,Qai]
 refine QaI (B:=!x36) rfl rfl rfl ?_ ?_
 ·
  intro hb
  rw [if_neg (b_not_t hb)] at H
  refine g_d rfl ?_
  refine Qab (v:=bool true) rfl rfl rfl (g_d rfl (Qae rfl rfl (g_d rfl (Qae rfl rfl (g_d rfl (Qae rfl rfl (g_d rfl ?_)))))))
  try dsimp only [Qah,Qai]
  refine Qab (v:=bool true) rfl rfl rfl (g_d rfl ?_)
  refine Qab (v:=bool true) rfl rfl rfl (g_d rfl (Qae rfl rfl (g_d rfl (Qae rfl rfl (g_d rfl (Qae rfl rfl (g_d rfl ?_)))))))
  try dsimp only [Qah,Qai]
  refine Qae rfl rfl (g_d rfl ?_)
  refine Qab (v:=bool true) rfl rfl rfl (g_d rfl ?_)
  try dsimp only [Qah,Qai]
  refine Qab (v:=bool true) rfl rfl rfl (g_d rfl (Qae rfl rfl (g_d rfl (Qae rfl rfl (g_d rfl (Qae rfl rfl (g_d rfl ?_)))))))
  refine Qab (v:=bool true) rfl rfl rfl (g_d rfl ?_)
  try dsimp only [Qah,Qai]
  refine Qab (v:=bool true) rfl rfl rfl (g_d rfl (Qae rfl rfl (g_d rfl (Qae rfl rfl (g_d rfl (Qae rfl rfl (g_d rfl ?_)))))))
  refine Qab (v:=bool true) rfl rfl rfl (g_d rfl ?_)
  try dsimp only [Qah,Qai]
  refine Qac (Qaq rfl (Qaj (Qan [0] rfl ?_)))
  refine Qab (v:=bool false) rfl rfl rfl (g_d rfl (Qac ?_))
  obtain rfl:=QsJ H
  refine QaB Tryz.func3 (v:=bool false) (res1 rfl rfl) ?_
  have hs:St _ [] _:=St.take (Γ':=[_,_,_,_,_,_,_,_]) hs
  exact ⟨_,rfl,rfl,hs⟩
 intro hb
 rw [if_pos (b_not_f hb)] at H
 refine g_d rfl ?_
 refine Qab (v:=bool false) rfl rfl rfl (g_d rfl ?_)
 refine Qab (v:=int .i64 r38.2) rfl rfl rfl (g_d rfl ?_)
 refine Qab (v:=int .i64 r41.2) rfl rfl rfl (g_d rfl ?_)
 refine Qab (v:=bool (r38.2 !=r41.2)) rfl rfl rfl (g_d rfl ?_)
 try dsimp only [Qah,Qai]
 refine QaI (B:=r38.2 !=r41.2) rfl rfl rfl ?_ ?_
 ·
  intro hb
  rw [if_neg (b_bne_t hb)] at H
  refine g_d rfl ?_
  try dsimp only [Qah,Qai]
  refine Qab (v:=bool true) rfl rfl rfl (g_d rfl (Qae rfl rfl (g_d rfl (Qae rfl rfl (g_d rfl (Qae rfl rfl (g_d rfl ?_)))))))
  refine Qae rfl rfl (g_d rfl ?_)
  try dsimp only [Qah,Qai]
  refine Qab (v:=bool true) rfl rfl rfl (g_d rfl ?_)
  refine Qab (v:=bool true) rfl rfl rfl (g_d rfl (Qae rfl rfl (g_d rfl (Qae rfl rfl (g_d rfl (Qae rfl rfl (g_d rfl ?_)))))))
  try dsimp only [Qah,Qai]
  refine Qab (v:=bool true) rfl rfl rfl (g_d rfl ?_)
  refine Qab (v:=bool true) rfl rfl rfl (g_d rfl (Qae rfl rfl (g_d rfl (Qae rfl rfl (g_d rfl (Qae rfl rfl (g_d rfl ?_)))))))
  try dsimp only [Qah,Qai]
  refine Qab (v:=bool true) rfl rfl rfl (g_d rfl (Qac (Qaq rfl (Qaj (Qan [0] rfl ?_)))))
  refine Qab (v:=bool false) rfl rfl rfl (g_d rfl ?_)
  try dsimp only [Qah,Qai]
  refine Qac ?_
  obtain rfl:=QsJ H
  refine QaB Tryz.func3 (v:=bool false) (res1 rfl rfl) ?_
  have hs:St _ [] _:=St.take (Γ':=[_,_,_,_,_,_,_,_]) hs
  exact ⟨_,rfl,rfl,hs⟩
 intro hb
 rw [if_pos (b_bne_f hb)] at H
 refine g_d rfl ?_
 refine Qab (v:=bool false) rfl rfl rfl (g_d rfl ?_)
 refine Qab (v:=v39) rfl rfl rfl (g_d rfl ?_)
 refine Qab (v:=v42) rfl rfl rfl (g_d rfl ?_)
 obtain ⟨r58,Hr58,H⟩:=bind_get H
 refine Qaz (args:=[v39,v42]) rfl rfl (QaA rfl (callFunc_enter Tryz.func19 rfl rfl) rfl) (Qbd.calls (a1:=r38.1) (a3:=r41.1) (hs.row 6 rfl) (hs.row 7 rfl) Hr58) ?_
 rintro _ w ⟨rfl,hs2⟩
 have hs:St _ [_,_,_,_,_,_,_,_] _:=hs.call hs2
 refine g_d rfl ?_
 try dsimp only [Qah,Qai]
 refine Qab (v:=bool (!r58)) rfl rfl rfl (g_d rfl ?_)
 refine QaI (B:=!r58) rfl rfl rfl ?_ ?_
 ·
  intro hb
  rw [if_neg (b_not_t hb)] at H
  refine g_d rfl ?_
  try dsimp only [Qah,Qai]
  refine Qab (v:=bool true) rfl rfl rfl (g_d rfl (Qae rfl rfl (g_d rfl (Qae rfl rfl (g_d rfl (Qae rfl rfl (g_d rfl ?_)))))))
  refine Qab (v:=bool true) rfl rfl rfl (g_d rfl ?_)
  try dsimp only [Qah,Qai]
  refine Qab (v:=bool true) rfl rfl rfl (g_d rfl (Qae rfl rfl (g_d rfl (Qae rfl rfl (g_d rfl (Qae rfl rfl (g_d rfl ?_)))))))
  refine Qab (v:=bool true) rfl rfl rfl (g_d rfl ?_)
  try dsimp only [Qah,Qai]
  refine Qac (Qaq rfl (Qaj (Qan [0] rfl ?_)))
  refine Qab (v:=bool false) rfl rfl rfl (g_d rfl (Qac ?_))
  obtain rfl:=QsJ H
  refine QaB Tryz.func3 (v:=bool false) (res1 rfl rfl) ?_
  have hs:St _ [] _:=St.take (Γ':=[_,_,_,_,_,_,_,_]) hs
  exact ⟨_,rfl,rfl,hs⟩
 intro hb
 rw [if_pos (b_not_f hb)] at H
 refine g_d rfl ?_
 try dsimp only [Qah,Qai]
 refine Qab (v:=bool false) rfl rfl rfl (g_d rfl ?_)
 refine Qab (v:=int .i64 x52) rfl rfl rfl (g_d rfl ?_)
 refine Qab (v:=int .i64 r38.2) rfl rfl rfl (g_d rfl ?_)
 refine Qab (v:=bool (x52 !=r38.2)) rfl rfl rfl (g_d rfl ?_)
 refine QaI (B:=x52 !=r38.2) rfl rfl rfl ?_ ?_
 ·
  intro hb
  rw [if_neg (b_bne_t hb)] at H
  refine g_d rfl ?_
  try dsimp only [Qah,Qai]
  refine Qab (v:=bool true) rfl rfl rfl (g_d rfl (Qae rfl rfl (g_d rfl (Qae rfl rfl (g_d rfl (Qae rfl rfl (g_d rfl ?_)))))))
  refine Qab (v:=bool true) rfl rfl rfl (g_d rfl ?_)
  try dsimp only [Qah,Qai]
  refine Qac (Qaq rfl (Qaj (Qan [0] rfl ?_)))
  refine Qab (v:=bool false) rfl rfl rfl (g_d rfl (Qac ?_))
  obtain rfl:=QsJ H
  refine QaB Tryz.func3 (v:=bool false) (res1 rfl rfl) ?_
  have hs:St _ [] _:=St.take (Γ':=[_,_,_,_,_,_,_,_]) hs
  exact ⟨_,rfl,rfl,hs⟩
 intro hb
 rw [if_pos (b_bne_f hb)] at H
 refine g_d rfl ?_
 try dsimp only [Qah,Qai]
 refine Qab (v:=bool false) rfl rfl rfl (g_d rfl ?_)
 refine Qab (v:=int .i64 r53.2) rfl rfl rfl (g_d rfl ?_)
 refine Qab (v:=int .i64 r38.2) rfl rfl rfl (g_d rfl ?_)
 refine QaI (B:=r53.2 !=r38.2) rfl rfl rfl ?_ ?_
 ·
  intro hb
  rw [if_neg (b_bne_t hb)] at H
  refine g_d rfl ?_
  refine Qab (v:=bool true) rfl rfl rfl (g_d rfl ?_)
  try dsimp only [Qah,Qai]
  refine Qac (Qaq rfl (Qaj (Qan [0] rfl ?_)))
  refine Qab (v:=bool false) rfl rfl rfl (g_d rfl (Qac ?_))
  obtain rfl:=QsJ H
  refine QaB Tryz.func3 (v:=bool false) (res1 rfl rfl) ?_
  have hs:St _ [] _:=St.take (Γ':=[_,_,_,_,_,_,_,_]) hs
  exact ⟨_,rfl,rfl,hs⟩
 intro hb
 rw [if_pos (b_bne_f hb)] at H
 refine g_d rfl ?_
 refine Qab (v:=bool false) rfl rfl rfl (g_d rfl ?_)
 try dsimp only [Qah,Qai]
 refine Qac (Qas rfl (QaK ?_))
 have hs:=hs.pull 7 rfl
 have hs:=hs.pull 2 rfl
 have hs:=hs.pull 2 rfl
 have hs:St _ [_,_,_] _:=St.take (Γ':=[_,_,_,_,_]) hs
 exact ha _ _ ⟨H,rfl,hs⟩
theorem Qar.seg4 {N : Nat} {a1 : (List Int)} {a3 : (List Int)} {v2 : Value} {v4 : Value} {r6 : Qaf} {r28 : ((List Int) × Int)} {x24 : Int} {x19 : Int} {x20 : Int} {x22 : (List Int)} {r25 : ((List Int) × Int)} {b9 : Nat} {b18 : Nat} {v26 : Value} {v29 : Value} {v7 : Value} {v21 : Value} {w0 : World} {r : Bool} (htab : Lib.TabIs Tryz.prog w0 "internal/strconv.uint64pow10" .u64 Lib.pow10Tab) (hmax : CellI w0 0) (hsyn : CellE w0 1) (hrng : CellE w0 2) (hr0 : RdRow (K.int .u8) w0 v2 a1) (hr1 : RdRow (K.int .u8) w0 v4 a3) :
 ∀ t w,(fun t w=>∃ x36:Bool,∃ x37:Int,Qar.j1 N r6 r28 x24 x19 x20 x22 r25 x36 x37=some r∧Fr t (fun O=>(O 0::O 1::O 2::O 3::O 4::pointer (some ⟨b9,0,none⟩)::pointer (some ⟨b18,0,none⟩)::int .i64 x24::v26::int .i64 r25.2::v29::int .i64 r28.2::bool x36::int .i64 x37::O 14::O 15::O 16::O 17::O 18::O 19::oT O 2 (oT O 3 (oT O 4 (oT O 5 (oT O 6 (oT O 7 (oT O 8 (oT O 9 (oT O 10 (oT O 11 (oT O 12 (oT O 13 (oT O 14 (oT O 15 (oT O 16 (oT O 17 (oT O 18 (oT O 19 (oT O 20 (oT O 21 (oT O 22 (oT O 23 (oT O 24 (oT O 25 (oT O 26 (oT O 27 (oT O 28 (oT O 29 (O 300::O 301::O 302::O 303::O 304::O 305::O 306::[])))))))))))))))))))))))))))):List Value))∧St w0 [Cells b9 (([int .i8 r6.Qad,int .i8 r6.Qag,v7]:List Value)) 27,Row 46 (K.int .u16) v7 r6.Qal,Cells b18 (([int .i8 x19,int .i8 x20,v21]:List Value)) 27,Row 46 (K.int .u16) v21 x22,Row 86 (K.int .i16) v26 r25.1,Row 86 (K.int .i16) v29 r28.1] w) t w→G Tryz.prog 3 (fun e w=>∃ v,e= .returned v∧Qar.post w0 r v w) [.code (Code.at_ (Tryz.f3.body.getD .skip) [1,1,1,1,1,1,1])] t w:=by
 rintro t w ⟨x36,x37,H,hf,hs⟩
 obtain ⟨O,rfl⟩:=hf.open
 try dsimp only [oT]
 unfold Qar.j1 at H
 refine Qaj (Qan [0,1,2,3,4,5,6] rfl ?_)
 refine QaF rfl rfl (es:=(([int .i8 r6.Qad,int .i8 r6.Qag,v7]:List Value))) rfl rfl (fun _=>rfl) (n:=3) (fun _=>rfl) rfl (cells_all (hs.cells 0 rfl)) (g_d rfl ?_)
 try dsimp only [Qah,Qai]
 obtain ⟨r38,Hr38,H⟩:=bind_get H
 refine Qaz (args:=[agg (([int .i8 r6.Qad,int .i8 r6.Qag,v7]:List Value)).toArray]) rfl rfl (QaA rfl (callFunc_enter Tryz.func11 rfl rfl) rfl) (QaL.calls (a1:=(⟨r6.Qad,r6.Qag,r6.Qal⟩:Qaf)) (hs.row 1 rfl) Hr38) ?_
 rintro _ w ⟨v39,rfl,hs2⟩
 have hs:St _ [_,_,_,_,_,_,_] _:=hs.call hs2
 refine g_d rfl ?_
 refine Qab (v:=tuple #[v39,int .i64 r38.2]) rfl rfl rfl (g_d rfl ?_)
 refine Qab (v:=v39) rfl rfl rfl (g_d rfl ?_)
 refine Qab (v:=int .i64 r38.2) rfl rfl rfl (g_d rfl ?_)
 refine Qab (v:=v39) rfl rfl rfl (g_d rfl ?_)
 try dsimp only [Qah,Qai]
 refine Qab (v:=int .i64 r38.2) rfl rfl rfl (g_d rfl (Qac (Qaj (Qan [0,1,2,3,4,5,6] rfl ?_))))
 refine QaF rfl rfl (es:=(([int .i8 r6.Qad,int .i8 r6.Qag,v7]:List Value))) rfl rfl (fun _=>rfl) (n:=3) (fun _=>rfl) rfl (cells_all (hs.cells 1 rfl)) (g_d rfl ?_)
 try dsimp only [Qah,Qai]
 obtain ⟨r41,Hr41,H⟩:=bind_get H
 refine Qaz (args:=[agg (([int .i8 r6.Qad,int .i8 r6.Qag,v7]:List Value)).toArray]) rfl rfl (QaA rfl (callFunc_enter Tryz.func12 rfl rfl) rfl) (QaT.calls (a1:=(⟨r6.Qad,r6.Qag,r6.Qal⟩:Qaf)) (hs.row 2 rfl) Hr41) ?_
 rintro _ w ⟨v42,rfl,hs2⟩
 have hs:St _ [_,_,_,_,_,_,_,_] _:=hs.call hs2
 refine g_d rfl ?_
 refine Qab (v:=tuple #[v42,int .i64 r41.2]) rfl rfl rfl (g_d rfl ?_)
 refine Qab (v:=v42) rfl rfl rfl (g_d rfl ?_)
 refine Qab (v:=int .i64 r41.2) rfl rfl rfl (g_d rfl ?_)
 refine Qab (v:=v42) rfl rfl rfl (g_d rfl ?_)
 try dsimp only [Qah,Qai]
 refine Qab (v:=int .i64 r41.2) rfl rfl rfl (g_d rfl (Qac (Qaj ?_)))
 refine QcU (J:=(fun t w=>∃ x51:Int,∃ x52:Int,Qar.j2 N r6 r28 x24 x19 x20 x22 r25 x37 x36 r38 r41 x51 x52=some r∧Fr t (fun O=>(O 0::O 1::O 2::O 3::O 4::pointer (some ⟨b9,0,none⟩)::pointer (some ⟨b18,0,none⟩)::int .i64 x24::v26::int .i64 r25.2::v29::int .i64 r28.2::bool x36::int .i64 x37::v39::int .i64 r38.2::v42::int .i64 r41.2::int .i64 x51::int .i64 x52::oT O 2 (oT O 3 (oT O 4 (oT O 5 (oT O 6 (oT O 7 (oT O 8 (oT O 9 (oT O 10 (oT O 11 (oT O 12 (oT O 13 (oT O 14 (oT O 15 (oT O 16 (oT O 17 (oT O 18 (oT O 19 (oT O 20 (oT O 21 (oT O 22 (oT O 23 (oT O 24 (oT O 25 (oT O 26 (oT O 27 (oT O 28 (oT O 29 (O 300::O 301::O 302::O 303::O 304::O 305::O 306::[])))))))))))))))))))))))))))):List Value))∧St w0 [Cells b9 (([int .i8 r6.Qad,int .i8 r6.Qag,v7]:List Value)) 27,Row 46 (K.int .u16) v7 r6.Qal,Cells b18 (([int .i8 x19,int .i8 x20,v21]:List Value)) 27,Row 46 (K.int .u16) v21 x22,Row 86 (K.int .i16) v26 r25.1,Row 86 (K.int .i16) v29 r28.1,Row 46 (K.int .u16) v39 r38.1,Row 46 (K.int .u16) v42 r41.1] w)) ?_ ?_
 ·exact Qar.seg3 htab hmax hsyn hrng hr0 hr1
 intro ha
 refine Qan [0,1,2,3,4,5,6] rfl ?_
 refine QaF rfl rfl (es:=(([int .i8 r6.Qad,int .i8 r6.Qag,v7]:List Value))) rfl rfl (fun _=>rfl) (n:=3) (fun _=>rfl) rfl (cells_all (hs.cells 2 rfl)) (g_d rfl ?_)
 try dsimp only [Qah,Qai]
 obtain ⟨r44,Hr44,H⟩:=bind_get H
 refine Qaz (args:=[agg (([int .i8 r6.Qad,int .i8 r6.Qag,v7]:List Value)).toArray]) rfl rfl (QaA rfl (callFunc_enter Tryz.func13 rfl rfl) rfl) (QaJ.calls (a1:=(⟨r6.Qad,r6.Qag,r6.Qal⟩:Qaf)) (hs.row 3 rfl) Hr44) ?_
 rintro _ w ⟨rfl,hs2⟩
 have hs:St _ [_,_,_,_,_,_,_,_] _:=hs.call hs2
 refine g_d rfl ?_
 refine Qab (v:=tuple #[int .i64 r44.1,int .i64 r44.2]) rfl rfl rfl (g_d rfl ?_)
 refine Qab (v:=int .i64 r44.1) rfl rfl rfl (g_d rfl ?_)
 refine Qab (v:=int .i64 r44.2) rfl rfl rfl (g_d rfl ?_)
 refine Qab (v:=int .i64 r44.1) rfl rfl rfl (g_d rfl ?_)
 try dsimp only [Qah,Qai]
 refine Qab (v:=int .i64 r44.2) rfl rfl rfl (g_d rfl (Qac ?_))
 have hs:=hs.pull 0 rfl
 have hs:=hs.pull 1 rfl
 have hs:=hs.pull 7 rfl
 have hs:=hs.pull 7 rfl
 have hs:=hs.pull 7 rfl
 have hs:=hs.pull 7 rfl
 have hs:=hs.pull 7 rfl
 have hs:=hs.pull 7 rfl
 have hs:St _ [_,_,_,_,_,_,_,_] _:=St.take (Γ':=[]) hs
 exact ha _ _ ⟨r44.1,r44.2,H,rfl,hs⟩
theorem Qar.seg5 {N : Nat} {a1 : (List Int)} {a3 : (List Int)} {v2 : Value} {v4 : Value} {r6 : Qaf} {b9 : Nat} {v7 : Value} {w0 : World} {r : Bool} (htab : Lib.TabIs Tryz.prog w0 "internal/strconv.uint64pow10" .u64 Lib.pow10Tab) (hmax : CellI w0 0) (hsyn : CellE w0 1) (hrng : CellE w0 2) (hr0 : RdRow (K.int .u8) w0 v2 a1) (hr1 : RdRow (K.int .u8) w0 v4 a3) :
 ∀ t w,(fun t w=>∃ b18:Nat,∃ x19:Int,∃ x20:Int,∃ v21:Value,∃ x22:(List Int),∃ x24:Int,Qar.j0 N r6 x19 x20 x22 x24=some r∧Fr t (fun O=>(O 0::O 1::O 2::O 3::O 4::pointer (some ⟨b9,0,none⟩)::pointer (some ⟨b18,0,none⟩)::int .i64 x24::O 8::O 9::oT O 1 (oT O 2 (oT O 3 (oT O 4 (oT O 5 (oT O 6 (oT O 7 (oT O 8 (oT O 9 (oT O 10 (oT O 11 (oT O 12 (oT O 13 (oT O 14 (oT O 15 (oT O 16 (oT O 17 (oT O 18 (oT O 19 (oT O 20 (oT O 21 (oT O 22 (oT O 23 (oT O 24 (oT O 25 (oT O 26 (oT O 27 (oT O 28 (oT O 29 (O 300::O 301::O 302::O 303::O 304::O 305::O 306::[]))))))))))))))))))))))))))))):List Value))∧St w0 [Cells b9 (([int .i8 r6.Qad,int .i8 r6.Qag,v7]:List Value)) 27,Row 46 (K.int .u16) v7 r6.Qal,Cells b18 (([int .i8 x19,int .i8 x20,v21]:List Value)) 27,Row 46 (K.int .u16) v21 x22] w) t w→G Tryz.prog 3 (fun e w=>∃ v,e= .returned v∧Qar.post w0 r v w) [.code (Code.at_ (Tryz.f3.body.getD .skip) [1,1,1,1])] t w:=by
 rintro t w ⟨b18,x19,x20,v21,x22,x24,H,hf,hs⟩
 obtain ⟨O,rfl⟩:=hf.open
 try dsimp only [oT]
 unfold Qar.j0 at H
 refine Qaj (Qan [0,1,2,3,4,5,6] rfl ?_)
 refine QaF rfl rfl (es:=(([int .i8 r6.Qad,int .i8 r6.Qag,v7]:List Value))) rfl rfl (fun _=>rfl) (n:=3) (fun _=>rfl) rfl (cells_all (hs.cells 0 rfl)) (g_d rfl ?_)
 try dsimp only [Qah,Qai]
 obtain ⟨r25,Hr25,H⟩:=bind_get H
 refine Qaz (args:=[agg (([int .i8 r6.Qad,int .i8 r6.Qag,v7]:List Value)).toArray]) rfl rfl (QaA rfl (callFunc_enter Tryz.func8 rfl rfl) rfl) (QbM.calls (a1:=(⟨r6.Qad,r6.Qag,r6.Qal⟩:Qaf)) (hs.row 1 rfl) Hr25) ?_
 rintro _ w ⟨v26,rfl,hs2⟩
 have hs:St _ [_,_,_,_,_] _:=hs.call hs2
 refine g_d rfl ?_
 refine Qab (v:=tuple #[v26,int .i64 r25.2]) rfl rfl rfl (g_d rfl ?_)
 refine Qab (v:=v26) rfl rfl rfl (g_d rfl ?_)
 refine Qab (v:=int .i64 r25.2) rfl rfl rfl (g_d rfl ?_)
 refine Qab (v:=v26) rfl rfl rfl (g_d rfl ?_)
 try dsimp only [Qah,Qai]
 refine Qab (v:=int .i64 r25.2) rfl rfl rfl (g_d rfl (Qac (Qaj (Qan [0,1,2,3,4,5,6] rfl ?_))))
 refine QaF rfl rfl (es:=(([int .i8 r6.Qad,int .i8 r6.Qag,v7]:List Value))) rfl rfl (fun _=>rfl) (n:=3) (fun _=>rfl) rfl (cells_all (hs.cells 1 rfl)) (g_d rfl ?_)
 try dsimp only [Qah,Qai]
 obtain ⟨r28,Hr28,H⟩:=bind_get H
 refine Qaz (args:=[agg (([int .i8 r6.Qad,int .i8 r6.Qag,v7]:List Value)).toArray]) rfl rfl (QaA rfl (callFunc_enter Tryz.func9 rfl rfl) rfl) (QbN.calls (a1:=(⟨r6.Qad,r6.Qag,r6.Qal⟩:Qaf)) (hs.row 2 rfl) Hr28) ?_
 rintro _ w ⟨v29,rfl,hs2⟩
 have hs:St _ [_,_,_,_,_,_] _:=hs.call hs2
 refine g_d rfl ?_
 refine Qab (v:=tuple #[v29,int .i64 r28.2]) rfl rfl rfl (g_d rfl ?_)
 refine Qab (v:=v29) rfl rfl rfl (g_d rfl ?_)
 refine Qab (v:=int .i64 r28.2) rfl rfl rfl (g_d rfl ?_)
 refine Qab (v:=v29) rfl rfl rfl (g_d rfl ?_)
 try dsimp only [Qah,Qai]
 refine Qab (v:=int .i64 r28.2) rfl rfl rfl (g_d rfl (Qac (Qaj ?_)))
 refine QcU (J:=(fun t w=>∃ x36:Bool,∃ x37:Int,Qar.j1 N r6 r28 x24 x19 x20 x22 r25 x36 x37=some r∧Fr t (fun O=>(O 0::O 1::O 2::O 3::O 4::pointer (some ⟨b9,0,none⟩)::pointer (some ⟨b18,0,none⟩)::int .i64 x24::v26::int .i64 r25.2::v29::int .i64 r28.2::bool x36::int .i64 x37::O 14::O 15::O 16::O 17::O 18::O 19::oT O 2 (oT O 3 (oT O 4 (oT O 5 (oT O 6 (oT O 7 (oT O 8 (oT O 9 (oT O 10 (oT O 11 (oT O 12 (oT O 13 (oT O 14 (oT O 15 (oT O 16 (oT O 17 (oT O 18 (oT O 19 (oT O 20 (oT O 21 (oT O 22 (oT O 23 (oT O 24 (oT O 25 (oT O 26 (oT O 27 (oT O 28 (oT O 29 (O 300::O 301::O 302::O 303::O 304::O 305::O 306::[])))))))))))))))))))))))))))):List Value))∧St w0 [Cells b9 (([int .i8 r6.Qad,int .i8 r6.Qag,v7]:List Value)) 27,Row 46 (K.int .u16) v7 r6.Qal,Cells b18 (([int .i8 x19,int .i8 x20,v21]:List Value)) 27,Row 46 (K.int .u16) v21 x22,Row 86 (K.int .i16) v26 r25.1,Row 86 (K.int .i16) v29 r28.1] w)) ?_ ?_
 ·exact Qar.seg4 htab hmax hsyn hrng hr0 hr1
 intro ha
 refine Qan [0,1,2,3,4,5,6,7] rfl ?_
 refine QaF rfl rfl (es:=(([int .i8 r6.Qad,int .i8 r6.Qag,v7]:List Value))) rfl rfl (fun _=>rfl) (n:=3) (fun _=>rfl) rfl (cells_all (hs.cells 2 rfl)) (g_d rfl ?_)
 try dsimp only [Qah,Qai]
 refine Qab (v:=v29) rfl rfl rfl (g_d rfl ?_)
 obtain ⟨r31,Hr31,H⟩:=bind_get H
 refine Qaz (args:=[agg (([int .i8 r6.Qad,int .i8 r6.Qag,v7]:List Value)).toArray,v29]) rfl rfl (QaA rfl (callFunc_enter Tryz.func10 rfl rfl) rfl) (QbA.calls (a1:=(⟨r6.Qad,r6.Qag,r6.Qal⟩:Qaf)) (a4:=r28.1) (hs.row 3 rfl) (hs.row 0 rfl) Hr31) ?_
 rintro _ w ⟨rfl,hs2⟩
 have hs:St _ [_,_,_,_,_,_] _:=hs.call hs2
 refine g_d rfl ?_
 refine Qab (v:=tuple #[bool r31.1,int .i64 r31.2]) rfl rfl rfl (g_d rfl ?_)
 refine Qab (v:=bool r31.1) rfl rfl rfl (g_d rfl ?_)
 refine Qab (v:=int .i64 r31.2) rfl rfl rfl (g_d rfl ?_)
 refine Qab (v:=bool r31.1) rfl rfl rfl (g_d rfl ?_)
 try dsimp only [Qah,Qai]
 refine Qab (v:=int .i64 r31.2) rfl rfl rfl (g_d rfl (Qac ?_))
 have hs:=hs.pull 0 rfl
 have hs:=hs.pull 1 rfl
 have hs:=hs.pull 5 rfl
 have hs:=hs.pull 5 rfl
 have hs:=hs.pull 5 rfl
 have hs:=hs.pull 5 rfl
 have hs:St _ [_,_,_,_,_,_] _:=St.take (Γ':=[]) hs
 exact ha _ _ ⟨r31.1,r31.2,H,rfl,hs⟩
theorem Qar.calls {N : Nat} {a1 : (List Int)} {a3 : (List Int)} {v2 : Value} {v4 : Value} {w0 : World} {r : Bool} (htab : Lib.TabIs Tryz.prog w0 "internal/strconv.uint64pow10" .u64 Lib.pow10Tab) (hmax : CellI w0 0) (hsyn : CellE w0 1) (hrng : CellE w0 2) (hr0 : RdRow (K.int .u8) w0 v2 a1) (hr1 : RdRow (K.int .u8) w0 v4 a3) (H : Qar.f N a1 a3 = some r) :
 Calls Tryz.prog 3 #[v2,v4] w0 fun e w=>∃ v,e= .returned v∧Qar.post w0 r v w:=by
 unfold Qar.f at H
 have hs:St w0 [] w0:=St.refl w0
 refine calls_of_g (n:=305) Tryz.func3 rfl rfl ?_
 show G _ _ _ _ (_::_::_::_::_::_::_::_::_::_::_::_::_::_::_::_::_::_::_::_::_::_::_::_::_::_::_::_::_::_::_::_::_::_::_::_::_::_::_::_::_::_::_::_::_::_::_::_::_::_::_::_::_::_::_::_::_::_::_::_::_::_::_::_::_::_::_::_::_::_::_::_::_::_::_::_::_::_::_::_::_::_::_::_::_::_::_::_::_::_::_::_::_::_::_::_::_::_::_::_::_::_::_::_::_::_::_::_::_::_::_::_::_::_::_::_::_::_::_::_::_::_::_::_::_::_::_::_::_::_::_::_::_::_::_::_::_::_::_::_::_::_::_::_::_::_::_::_::_::_::_::_::_::_::_::_::_::_::_::_::_::_::_::_::_::_::_::_::_::_::_::_::_::_::_::_::_::_::_::_::_::_::_::_::_::_::_::_::_::_::_::_::_::_::_::_::_::_::_::_::_::_::_::_::_::_::_::_::_::_::_::_::_::_::_::_::_::_::_::_::_::_::_::_::_::_::_::_::_::_::_::_::_::_::_::_::_::_::_::_::_::_::_::_::_::_::_::_::_::_::_::_::_::_::_::_::_::_::_::_::_::_::_::_::_::_::_::_::_::_::_::_::_::_::_::_::_::_::_::_::_::_::_::_::_::_::_::_::_::_::_::_::_::_::_::_::_::_::_::_::_::_::_::_::_::_::_::[]) _
 refine Qaj (Qan [0] rfl ?_)
 refine Qab (v:=bool false) rfl rfl rfl (g_d rfl (Qac (Qaj (Qaj (Qan [0,1,2] rfl ?_)))))
 refine Qab (v:=v2) rfl rfl rfl (g_d rfl ?_)
 refine Qab (v:=v4) rfl rfl rfl (g_d rfl ?_)
 obtain ⟨r5,Hr5,H⟩:=bind_get H
 refine Qaz (args:=[v2,v4]) rfl rfl (QaA rfl (callFunc_enter Tryz.func4 rfl rfl) rfl) (Qb8.calls (a1:=a1) (a3:=a3) (hs.rd hr0) (hs.rd hr1) Hr5) ?_
 rintro _ w ⟨rfl,hs2⟩
 have hs:St _ [] _:=hs.call hs2
 cases r5 with
 |true=>
  rw [if_pos rfl] at H
  refine g_d rfl (Qac (Qaq rfl (Qaj (Qan [0] rfl ?_))))
  refine Qab (v:=bool true) rfl rfl rfl (g_d rfl ?_)
  try dsimp only [Qah,Qai]
  refine Qac ?_
  obtain rfl:=QsJ H
  refine QaB Tryz.func3 (v:=bool true) (res1 rfl rfl) ?_
  have hs:St _ [] _:=St.take (Γ':=[]) hs
  exact ⟨_,rfl,rfl,hs⟩
 |false=>
  rw [if_neg Bool.false_ne_true] at H
  refine g_d rfl ?_
  try dsimp only [Qah,Qai]
  refine Qac (Qas rfl (QaK (Qaj (Qan [0,1,2,3] rfl ?_))))
  refine Qab (v:=v2) rfl rfl rfl (g_d rfl ?_)
  obtain ⟨r6,Hr6,H⟩:=bind_get H
  refine Qaz (args:=[v2]) rfl rfl (QaA rfl (callFunc_enter Tryz.func5 rfl rfl) rfl) (Qce.calls (a1:=a1) (hs.rd hr0) Hr6) ?_
  rintro _ w ⟨v7,rfl,hs2⟩
  have hs:St _ [_] _:=hs.call hs2
  refine g_d rfl ?_
  refine QbI hs rfl rfl (z:=(agg #[int .i8 0,int .i8 0,slice none 0 0])) (cs:=(([int .i8 0,int .i8 0,slice none 0 0]:List Value))) rfl (fun _=>rfl) rfl ?_
  intro b9 w hs
  refine g_d rfl ?_
  try dsimp only [Qah,Qai]
  refine QaY (n:=3) hs rfl rfl rfl (vs:=(([int .i8 r6.Qad,int .i8 r6.Qag,v7]:List Value))) rfl rfl rfl (fun _=>rfl) rfl (by intro v hv;simp only [List.mem_append,List.mem_cons,List.not_mem_nil,or_false] at hv;repeat (first|(subst hv;first|rfl|exact slOne (hs.row 1 rfl))|(rcases hv with hv|hv))) ?_
  intro w hs
  refine g_n rfl (Qac (Qaj ?_))
  refine QcU (J:=(fun t w=>∃ b18:Nat,∃ x19:Int,∃ x20:Int,∃ v21:Value,∃ x22:(List Int),∃ x24:Int,Qar.j0 N r6 x19 x20 x22 x24=some r∧Fr t (fun O=>(O 0::O 1::O 2::O 3::O 4::pointer (some ⟨b9,0,none⟩)::pointer (some ⟨b18,0,none⟩)::int .i64 x24::O 8::O 9::oT O 1 (oT O 2 (oT O 3 (oT O 4 (oT O 5 (oT O 6 (oT O 7 (oT O 8 (oT O 9 (oT O 10 (oT O 11 (oT O 12 (oT O 13 (oT O 14 (oT O 15 (oT O 16 (oT O 17 (oT O 18 (oT O 19 (oT O 20 (oT O 21 (oT O 22 (oT O 23 (oT O 24 (oT O 25 (oT O 26 (oT O 27 (oT O 28 (oT O 29 (O 300::O 301::O 302::O 303::O 304::O 305::O 306::[]))))))))))))))))))))))))))))):List Value))∧St w0 [Cells b9 (([int .i8 r6.Qad,int .i8 r6.Qag,v7]:List Value)) 27,Row 46 (K.int .u16) v7 r6.Qal,Cells b18 (([int .i8 x19,int .i8 x20,v21]:List Value)) 27,Row 46 (K.int .u16) v21 x22] w)) ?_ ?_
  ·exact Qar.seg5 htab hmax hsyn hrng hr0 hr1
  intro ha
  refine Qan [0,1,2,3,4,5,6,7,8] rfl ?_
  refine QaF rfl rfl (es:=(([int .i8 r6.Qad,int .i8 r6.Qag,v7]:List Value))) rfl rfl (fun _=>rfl) (n:=3) (fun _=>rfl) rfl (cells_all (hs.cells 0 rfl)) (g_d rfl ?_)
  obtain ⟨r11,Hr11,H⟩:=bind_get H
  refine Qaz (args:=[agg (([int .i8 r6.Qad,int .i8 r6.Qag,v7]:List Value)).toArray]) rfl rfl (QaA rfl (callFunc_enter Tryz.func7 rfl rfl) rfl) (Qbj.calls (a1:=(⟨r6.Qad,r6.Qag,r6.Qal⟩:Qaf)) (hs.tab htab) (hs.row 1 rfl) Hr11) ?_
  rintro _ w ⟨rfl,hs2⟩
  have hs:St _ [_,_] _:=hs.call hs2
  refine g_d rfl ?_
  try dsimp only [Qah,Qai]
  obtain ⟨r12,Hr12,H⟩:=bind_get H
  refine Qaz (args:=[string r11]) rfl rfl (QaA rfl (callFunc_enter Tryz.func6 rfl rfl) rfl) (Qa7.calls (a1:=r11) (hs.tab htab) (hs.cellI hmax) (hs.cellE hsyn) (hs.cellE hrng) Hr12) ?_
  rintro _ w ⟨v13,rfl,hs2⟩
  have hs:St _ [_,_,_] _:=hs.call hs2
  refine g_d rfl ?_
  refine Qab (v:=tuple #[agg (([int .i8 r12.1.Qad,int .i8 r12.1.Qag,v13]:List Value)).toArray,int .i64 r12.2]) rfl rfl rfl (g_d rfl ?_)
  refine Qab (v:=agg (([int .i8 r12.1.Qad,int .i8 r12.1.Qag,v13]:List Value)).toArray) rfl rfl rfl (g_d rfl ?_)
  refine Qab (v:=int .i64 r12.2) rfl rfl rfl (g_d rfl ?_)
  refine QbI hs rfl rfl (z:=(agg #[int .i8 0,int .i8 0,slice none 0 0])) (cs:=(([int .i8 0,int .i8 0,slice none 0 0]:List Value))) rfl (fun _=>rfl) rfl ?_
  intro b15 w hs
  refine g_d rfl ?_
  try dsimp only [Qah,Qai]
  refine QaY (n:=3) hs rfl rfl rfl (vs:=(([int .i8 r12.1.Qad,int .i8 r12.1.Qag,v13]:List Value))) rfl rfl rfl (fun _=>rfl) rfl (by intro v hv;simp only [List.mem_append,List.mem_cons,List.not_mem_nil,or_false] at hv;repeat (first|(subst hv;first|rfl|exact slOne (hs.row 1 rfl))|(rcases hv with hv|hv))) ?_
  intro w hs
  refine g_n rfl ?_
  refine Qab (v:=int .i64 r12.2) rfl rfl rfl (g_d rfl (Qac ?_))
  have hs:=hs.pull 1 rfl
  have hs:=hs.pull 1 rfl
  have hs:=hs.pull 3 rfl
  have hs:=hs.pull 3 rfl
  have hs:St _ [_,_,_,_] _:=St.take (Γ':=[]) hs
  exact ha _ _ ⟨b15,r12.1.Qad,r12.1.Qag,v13,r12.1.Qal,r12.2,H,rfl,hs⟩
end Go.Proofs.YtblbfnngmeoipaaGreatDoorX
