import Derived.Test.YtdnipilfcjkfoaaGreatDoorP18
namespace Go.Proofs.YtdnipilfcjkfoaaGreatDoorX
open Go Go.RowKit Go.Proofs
open Go.Value (int pointer bool agg slice string tuple)
set_option maxHeartbeats 8000000
set_option maxRecDepth 100000
set_option linter.unusedVariables false
set_option linter.unusedSimpArgs false
theorem Qal.seg8 {N : Nat} {a1 : (List Int)} {a3 : (List Int)} {v2 : Value} {v4 : Value} {r53 : (Int × Int × Int)} {r7 : Int} {w0 : World} {r : Bool} (htab : Lib.TabIs Tryz.prog w0 "internal/strconv.uint64pow10" .u64 Lib.pow10Tab) (hmax : CellI w0 0) (hsyn : CellE w0 2) (hrng : CellE w0 3) (hdbr : CellU w0 7 15 4) (hr0 : RdRow (K.int .u8) w0 v2 a1) (hr1 : RdRow (K.int .u8) w0 v4 a3) :
 ∀ t w,(fun t w=>∃ x55:Int,∃ x56:Int,∃ x57:Int,Qal.j5 N r53 r7 a3 x55 x56 x57=some r∧Fr t (fun O=>(O 0::v4::O 2::O 3::O 4::int .i64 (i64w (1+r7))::O 6::O 7::O 8::O 9::O 10::O 11::O 12::O 13::O 14::O 15::O 16::O 17::O 18::int .i64 r53.1::int .i64 r53.2.1::int .i64 r53.2.2::int .i64 x55::int .i64 x56::int .i64 x57::O 25::O 26::O 27::O 28::O 29::oT O 3 (oT O 4 (oT O 5 (oT O 6 (oT O 7 (oT O 8 (oT O 9 (oT O 10 (oT O 11 (oT O 12 (oT O 13 (oT O 14 (oT O 15 (oT O 16 (oT O 17 (oT O 18 (oT O 19 (oT O 20 (oT O 21 (oT O 22 (oT O 23 (oT O 24 (oT O 25 (oT O 26 (oT O 27 (oT O 28 (oT O 29 (oT O 30 (oT O 31 (oT O 32 (oT O 33 (oT O 34 (oT O 35 (oT O 36 (oT O 37 (oT O 38 (oT O 39 (oT O 40 (oT O 41 (oT O 42 (O 430::O 431::O 432::O 433::O 434::O 435::[])))))))))))))))))))))))))))))))))))))))):List Value))∧St w0 [] w) t w→G Tryz.prog 3 (fun e w=>∃ v,e= .returned v∧Qal.post w0 r v w) [.code (Code.at_ (Tryz.f3.body.getD .skip) [1,1,1,1,1,1,1,1,1,1,1,1,1,1])] t w:=by
 rintro t w ⟨x55,x56,x57,H,hf,hs⟩
 obtain ⟨O,rfl⟩:=hf.open
 try dsimp only [oT]
 unfold Qal.j5 at H
 refine Qaf (Qaf ?_)
 refine Qcq (J:=(fun t w=>Qal.j6 N a3=some r∧Fr t (fun O=>(O 0::v4::O 2::O 3::O 4::O 5::O 6::O 7::O 8::O 9::oT O 1 (oT O 2 (oT O 3 (oT O 4 (oT O 5 (oT O 6 (oT O 7 (oT O 8 (oT O 9 (oT O 10 (oT O 11 (oT O 12 (oT O 13 (oT O 14 (oT O 15 (oT O 16 (oT O 17 (oT O 18 (oT O 19 (oT O 20 (oT O 21 (oT O 22 (oT O 23 (oT O 24 (oT O 25 (oT O 26 (oT O 27 (oT O 28 (oT O 29 (oT O 30 (oT O 31 (oT O 32 (oT O 33 (oT O 34 (oT O 35 (oT O 36 (oT O 37 (oT O 38 (oT O 39 (oT O 40 (oT O 41 (oT O 42 (O 430::O 431::O 432::O 433::O 434::O 435::[])))))))))))))))))))))))))))))))))))))))))):List Value))∧St w0 [] w)) ?_ ?_
 ·exact Qal.seg7 htab hmax hsyn hrng hdbr hr0 hr1
 intro ha
 refine Qak [0,1,2,3,4,5,6,7,8,9,10,11,12,13,14,15,16,17,18,19,20,21,22,23,24,25] rfl ?_
 refine Qaa (v:=int .i64 r53.2.2) rfl rfl rfl (g_d rfl ?_)
 refine Qaa (v:=int .i64 x57) rfl rfl rfl (g_d rfl ?_)
 refine QaA (B:=r53.2.2 !=x57) rfl rfl rfl ?_ ?_
 ·
  intro hb
  rw [if_neg (b_bne_t hb)] at H
  refine g_d rfl ?_
  try dsimp only [Qai,Qaj]
  refine Qaa (v:=bool true) rfl rfl rfl (g_d rfl (Qad rfl rfl (g_d rfl (Qad rfl rfl (g_d rfl ?_)))))
  refine Qaa (v:=bool true) rfl rfl rfl (g_d rfl ?_)
  try dsimp only [Qai,Qaj]
  refine Qaa (v:=bool true) rfl rfl rfl (g_d rfl (Qad rfl rfl (g_d rfl (Qad rfl rfl (g_d rfl (Qad rfl rfl (g_d rfl ?_)))))))
  refine Qaa (v:=bool true) rfl rfl rfl (g_d rfl ?_)
  try dsimp only [Qai,Qaj]
  refine Qaa (v:=bool true) rfl rfl rfl (g_d rfl (Qad rfl rfl (g_d rfl (Qad rfl rfl (g_d rfl (Qad rfl rfl (g_d rfl ?_)))))))
  refine Qaa (v:=bool true) rfl rfl rfl (g_d rfl ?_)
  try dsimp only [Qai,Qaj]
  refine Qaa (v:=bool true) rfl rfl rfl (g_d rfl (Qad rfl rfl (g_d rfl (Qad rfl rfl (g_d rfl ?_)))))
  refine Qaa (v:=bool true) rfl rfl rfl (g_d rfl ?_)
  try dsimp only [Qai,Qaj]
  refine Qaa (v:=bool true) rfl rfl rfl (g_d rfl (Qad rfl rfl (g_d rfl (Qad rfl rfl (g_d rfl (Qad rfl rfl (g_d rfl ?_)))))))
  refine Qaa (v:=bool true) rfl rfl rfl (g_d rfl ?_)
  try dsimp only [Qai,Qaj]
  refine Qab (Qam rfl (Qaf (Qak [0] rfl ?_)))
  refine Qaa (v:=bool false) rfl rfl rfl (g_d rfl (Qab ?_))
  obtain rfl:=QsJ H
  refine Qax Tryz.func3 (v:=bool false) (res1 rfl rfl) ?_
  have hs:St _ [] _:=St.take (Γ':=[]) hs
  exact ⟨_,rfl,rfl,hs⟩
 intro hb
 rw [if_pos (b_bne_f hb)] at H
 refine g_d rfl ?_
 try dsimp only [Qai,Qaj]
 refine Qaa (v:=bool false) rfl rfl rfl (g_d rfl ?_)
 refine Qaa (v:=int .i64 r53.2.2) rfl rfl rfl (g_d rfl ?_)
 refine Qaa (v:=bool (r53.2.2 !=0)) rfl rfl rfl (g_d rfl ?_)
 refine QaA (B:=r53.2.2 !=0) rfl rfl rfl ?_ ?_
 ·
  intro hb
  rw [if_neg (b_bne_t hb)] at H
  refine g_d rfl ?_
  try dsimp only [Qai,Qaj]
  refine Qaa (v:=bool true) rfl rfl rfl (g_d rfl (Qad rfl rfl (g_d rfl (Qad rfl rfl (g_d rfl (Qad rfl rfl (g_d rfl ?_)))))))
  refine Qaa (v:=bool true) rfl rfl rfl (g_d rfl ?_)
  try dsimp only [Qai,Qaj]
  refine Qaa (v:=bool true) rfl rfl rfl (g_d rfl (Qad rfl rfl (g_d rfl (Qad rfl rfl (g_d rfl (Qad rfl rfl (g_d rfl ?_)))))))
  refine Qaa (v:=bool true) rfl rfl rfl (g_d rfl ?_)
  try dsimp only [Qai,Qaj]
  refine Qaa (v:=bool true) rfl rfl rfl (g_d rfl (Qad rfl rfl (g_d rfl (Qad rfl rfl (g_d rfl ?_)))))
  refine Qaa (v:=bool true) rfl rfl rfl (g_d rfl ?_)
  try dsimp only [Qai,Qaj]
  refine Qaa (v:=bool true) rfl rfl rfl (g_d rfl (Qad rfl rfl (g_d rfl (Qad rfl rfl (g_d rfl (Qad rfl rfl (g_d rfl ?_)))))))
  refine Qaa (v:=bool true) rfl rfl rfl (g_d rfl ?_)
  try dsimp only [Qai,Qaj]
  refine Qab (Qam rfl (Qaf (Qak [0] rfl ?_)))
  refine Qaa (v:=bool false) rfl rfl rfl (g_d rfl (Qab ?_))
  obtain rfl:=QsJ H
  refine Qax Tryz.func3 (v:=bool false) (res1 rfl rfl) ?_
  have hs:St _ [] _:=St.take (Γ':=[]) hs
  exact ⟨_,rfl,rfl,hs⟩
 intro hb
 rw [if_pos (b_bne_f hb)] at H
 refine g_d rfl ?_
 try dsimp only [Qai,Qaj]
 refine Qaa (v:=bool false) rfl rfl rfl (g_d rfl ?_)
 refine Qaa (v:=int .i64 r53.1) rfl rfl rfl (g_d rfl ?_)
 refine Qaa (v:=int .i64 x55) rfl rfl rfl (g_d rfl ?_)
 refine Qaa (v:=bool (r53.1 !=x55)) rfl rfl rfl (g_d rfl ?_)
 refine QaA (B:=r53.1 !=x55) rfl rfl rfl ?_ ?_
 ·
  intro hb
  rw [if_neg (b_bne_t hb)] at H
  refine g_d rfl ?_
  try dsimp only [Qai,Qaj]
  refine Qaa (v:=bool true) rfl rfl rfl (g_d rfl (Qad rfl rfl (g_d rfl (Qad rfl rfl (g_d rfl (Qad rfl rfl (g_d rfl ?_)))))))
  refine Qaa (v:=bool true) rfl rfl rfl (g_d rfl ?_)
  try dsimp only [Qai,Qaj]
  refine Qaa (v:=bool true) rfl rfl rfl (g_d rfl (Qad rfl rfl (g_d rfl (Qad rfl rfl (g_d rfl ?_)))))
  refine Qaa (v:=bool true) rfl rfl rfl (g_d rfl ?_)
  try dsimp only [Qai,Qaj]
  refine Qaa (v:=bool true) rfl rfl rfl (g_d rfl (Qad rfl rfl (g_d rfl (Qad rfl rfl (g_d rfl (Qad rfl rfl (g_d rfl ?_)))))))
  refine Qaa (v:=bool true) rfl rfl rfl (g_d rfl ?_)
  try dsimp only [Qai,Qaj]
  refine Qab (Qam rfl (Qaf (Qak [0] rfl ?_)))
  refine Qaa (v:=bool false) rfl rfl rfl (g_d rfl (Qab ?_))
  obtain rfl:=QsJ H
  refine Qax Tryz.func3 (v:=bool false) (res1 rfl rfl) ?_
  have hs:St _ [] _:=St.take (Γ':=[]) hs
  exact ⟨_,rfl,rfl,hs⟩
 intro hb
 rw [if_pos (b_bne_f hb)] at H
 refine g_d rfl ?_
 try dsimp only [Qai,Qaj]
 refine Qaa (v:=bool false) rfl rfl rfl (g_d rfl ?_)
 refine Qaa (v:=int .i64 r53.2.1) rfl rfl rfl (g_d rfl ?_)
 refine Qaa (v:=int .i64 x56) rfl rfl rfl (g_d rfl ?_)
 refine Qaa (v:=bool (r53.2.1 !=x56)) rfl rfl rfl (g_d rfl ?_)
 refine QaA (B:=r53.2.1 !=x56) rfl rfl rfl ?_ ?_
 ·
  intro hb
  rw [if_neg (b_bne_t hb)] at H
  refine g_d rfl ?_
  try dsimp only [Qai,Qaj]
  refine Qaa (v:=bool true) rfl rfl rfl (g_d rfl (Qad rfl rfl (g_d rfl (Qad rfl rfl (g_d rfl ?_)))))
  refine Qaa (v:=bool true) rfl rfl rfl (g_d rfl ?_)
  try dsimp only [Qai,Qaj]
  refine Qaa (v:=bool true) rfl rfl rfl (g_d rfl (Qad rfl rfl (g_d rfl (Qad rfl rfl (g_d rfl (Qad rfl rfl (g_d rfl ?_)))))))
  refine Qaa (v:=bool true) rfl rfl rfl (g_d rfl ?_)
  try dsimp only [Qai,Qaj]
  refine Qab (Qam rfl (Qaf (Qak [0] rfl ?_)))
  refine Qaa (v:=bool false) rfl rfl rfl (g_d rfl (Qab ?_))
  obtain rfl:=QsJ H
  refine Qax Tryz.func3 (v:=bool false) (res1 rfl rfl) ?_
  have hs:St _ [] _:=St.take (Γ':=[]) hs
  exact ⟨_,rfl,rfl,hs⟩
 intro hb
 rw [if_pos (b_bne_f hb)] at H
 refine g_d rfl ?_
 try dsimp only [Qai,Qaj]
 refine Qaa (v:=bool false) rfl rfl rfl (g_d rfl ?_)
 refine Qaa (v:=int .i64 x55) rfl rfl rfl (g_d rfl ?_)
 refine Qaa (v:=bool (decide (x55< 0))) rfl rfl rfl (g_d rfl ?_)
 refine QaA (B:=decide (x55< 0)) rfl rfl rfl ?_ ?_
 ·
  intro hb
  rw [if_pos (b_dec_t hb)] at H
  refine g_d rfl ?_
  try dsimp only [Qai,Qaj]
  refine Qaa (v:=bool true) rfl rfl rfl (g_d rfl (Qad rfl rfl (g_d rfl (Qad rfl rfl (g_d rfl (Qad rfl rfl (g_d rfl ?_)))))))
  refine Qaa (v:=bool true) rfl rfl rfl (g_d rfl ?_)
  try dsimp only [Qai,Qaj]
  refine Qab (Qam rfl (Qaf (Qak [0] rfl ?_)))
  refine Qaa (v:=bool false) rfl rfl rfl (g_d rfl (Qab ?_))
  obtain rfl:=QsJ H
  refine Qax Tryz.func3 (v:=bool false) (res1 rfl rfl) ?_
  have hs:St _ [] _:=St.take (Γ':=[]) hs
  exact ⟨_,rfl,rfl,hs⟩
 intro hb
 rw [if_neg (b_dec_f hb)] at H
 refine g_d rfl ?_
 try dsimp only [Qai,Qaj]
 refine Qaa (v:=bool false) rfl rfl rfl (g_d rfl ?_)
 refine Qaa (v:=int .i64 x55) rfl rfl rfl (g_d rfl ?_)
 refine Qaa (v:=int .i64 (i64w (1+r7))) rfl rfl rfl (g_d rfl ?_)
 refine QaA (B:=decide (x55≥(i64w (1+r7)))) rfl rfl rfl ?_ ?_
 ·
  intro hb
  rw [if_pos (b_dec_t hb)] at H
  refine g_d rfl ?_
  refine Qaa (v:=bool true) rfl rfl rfl (g_d rfl ?_)
  try dsimp only [Qai,Qaj]
  refine Qab (Qam rfl (Qaf (Qak [0] rfl ?_)))
  refine Qaa (v:=bool false) rfl rfl rfl (g_d rfl (Qab ?_))
  obtain rfl:=QsJ H
  refine Qax Tryz.func3 (v:=bool false) (res1 rfl rfl) ?_
  have hs:St _ [] _:=St.take (Γ':=[]) hs
  exact ⟨_,rfl,rfl,hs⟩
 intro hb
 rw [if_neg (b_dec_f hb)] at H
 refine g_d rfl ?_
 refine Qaa (v:=bool false) rfl rfl rfl (g_d rfl ?_)
 try dsimp only [Qai,Qaj]
 refine Qab (Qap rfl (QaE ?_))
 have hs:St _ [] _:=St.take (Γ':=[]) hs
 exact ha _ _ ⟨H,rfl,hs⟩
theorem Qal.seg9 {N : Nat} {a1 : (List Int)} {a3 : (List Int)} {v2 : Value} {v4 : Value} {r7 : Int} {r8 : Int} {w0 : World} {r : Bool} (htab : Lib.TabIs Tryz.prog w0 "internal/strconv.uint64pow10" .u64 Lib.pow10Tab) (hmax : CellI w0 0) (hsyn : CellE w0 2) (hrng : CellE w0 3) (hdbr : CellU w0 7 15 4) (hr0 : RdRow (K.int .u8) w0 v2 a1) (hr1 : RdRow (K.int .u8) w0 v4 a3) :
 ∀ t w,(fun t w=>Qal.j4 N r7 r8 a3=some r∧Fr t (fun O=>(O 0::v4::O 2::O 3::O 4::int .i64 (i64w (1+r7))::int .i64 r8::O 7::O 8::O 9::oT O 1 (oT O 2 (oT O 3 (oT O 4 (oT O 5 (oT O 6 (oT O 7 (oT O 8 (oT O 9 (oT O 10 (oT O 11 (oT O 12 (oT O 13 (oT O 14 (oT O 15 (oT O 16 (oT O 17 (oT O 18 (oT O 19 (oT O 20 (oT O 21 (oT O 22 (oT O 23 (oT O 24 (oT O 25 (oT O 26 (oT O 27 (oT O 28 (oT O 29 (oT O 30 (oT O 31 (oT O 32 (oT O 33 (oT O 34 (oT O 35 (oT O 36 (oT O 37 (oT O 38 (oT O 39 (oT O 40 (oT O 41 (oT O 42 (O 430::O 431::O 432::O 433::O 434::O 435::[])))))))))))))))))))))))))))))))))))))))))):List Value))∧St w0 [] w) t w→G Tryz.prog 3 (fun e w=>∃ v,e= .returned v∧Qal.post w0 r v w) [.code (Code.at_ (Tryz.f3.body.getD .skip) [1,1,1,1,1,1,1,1,1,1,1,1])] t w:=by
 rintro t w ⟨H,hf,hs⟩
 obtain ⟨O,rfl⟩:=hf.open
 try dsimp only [oT]
 unfold Qal.j4 at H
 refine Qaf (Qak [0,1,2,3,4,5,6,7,8,9] rfl ?_)
 refine Qaa (v:=int .i64 (i64w (1+r7))) rfl rfl rfl (g_d rfl ?_)
 refine Qaa (v:=int .i64 r8) rfl rfl rfl (g_d rfl ?_)
 obtain ⟨r53,Hr53,H⟩:=bind_get H
 refine Qas (args:=[int .i64 (i64w (1+r7)),int .i64 r8]) rfl rfl (Qat rfl (callFunc_enter Tryz.func15 rfl rfl) rfl) (QaW.calls (a1:=i64w (1+r7)) (a2:=r8) Hr53) ?_
 rintro _ w ⟨rfl,hs2⟩
 have hs:St _ [] _:=hs.call hs2
 refine g_d rfl ?_
 try dsimp only [Qai,Qaj]
 refine Qaa (v:=tuple #[int .i64 r53.1,int .i64 r53.2.1,int .i64 r53.2.2]) rfl rfl rfl (g_d rfl ?_)
 refine Qaa (v:=int .i64 r53.1) rfl rfl rfl (g_d rfl ?_)
 refine Qaa (v:=int .i64 r53.2.1) rfl rfl rfl (g_d rfl ?_)
 refine Qaa (v:=int .i64 r53.2.2) rfl rfl rfl (g_d rfl ?_)
 refine Qaa (v:=int .i64 r53.1) rfl rfl rfl (g_d rfl ?_)
 refine Qaa (v:=int .i64 r53.2.1) rfl rfl rfl (g_d rfl ?_)
 try dsimp only [Qai,Qaj]
 refine Qaa (v:=int .i64 r53.2.2) rfl rfl rfl (g_d rfl (Qab (Qaf ?_)))
 refine Qcp (J:=(fun t w=>∃ x55:Int,∃ x56:Int,∃ x57:Int,Qal.j5 N r53 r7 a3 x55 x56 x57=some r∧Fr t (fun O=>(O 0::v4::O 2::O 3::O 4::int .i64 (i64w (1+r7))::O 6::O 7::O 8::O 9::O 10::O 11::O 12::O 13::O 14::O 15::O 16::O 17::O 18::int .i64 r53.1::int .i64 r53.2.1::int .i64 r53.2.2::int .i64 x55::int .i64 x56::int .i64 x57::O 25::O 26::O 27::O 28::O 29::oT O 3 (oT O 4 (oT O 5 (oT O 6 (oT O 7 (oT O 8 (oT O 9 (oT O 10 (oT O 11 (oT O 12 (oT O 13 (oT O 14 (oT O 15 (oT O 16 (oT O 17 (oT O 18 (oT O 19 (oT O 20 (oT O 21 (oT O 22 (oT O 23 (oT O 24 (oT O 25 (oT O 26 (oT O 27 (oT O 28 (oT O 29 (oT O 30 (oT O 31 (oT O 32 (oT O 33 (oT O 34 (oT O 35 (oT O 36 (oT O 37 (oT O 38 (oT O 39 (oT O 40 (oT O 41 (oT O 42 (O 430::O 431::O 432::O 433::O 434::O 435::[])))))))))))))))))))))))))))))))))))))))):List Value))∧St w0 [] w)) ?_ ?_
 ·exact Qal.seg8 htab hmax hsyn hrng hdbr hr0 hr1
 intro ha
 refine Qak [0,1,2,3,4,5,6,7,8,9] rfl ?_
 refine Qaa (v:=int .i64 (i64w (1+r7))) rfl rfl rfl (g_d rfl ?_)
 refine Qaa (v:=int .i64 r8) rfl rfl rfl (g_d rfl ?_)
 obtain ⟨r54,Hr54,H⟩:=bind_get H
 refine Qas (args:=[int .i64 (i64w (1+r7)),int .i64 r8]) rfl rfl (Qat rfl (callFunc_enter Tryz.func16 rfl rfl) rfl) (QaM.calls (a1:=i64w (1+r7)) (a2:=r8) Hr54) ?_
 rintro _ w ⟨rfl,hs2⟩
 have hs:St _ [] _:=hs.call hs2
 refine g_d rfl ?_
 try dsimp only [Qai,Qaj]
 refine Qaa (v:=tuple #[int .i64 r54.1,int .i64 r54.2.1,int .i64 r54.2.2]) rfl rfl rfl (g_d rfl ?_)
 refine Qaa (v:=int .i64 r54.1) rfl rfl rfl (g_d rfl ?_)
 refine Qaa (v:=int .i64 r54.2.1) rfl rfl rfl (g_d rfl ?_)
 refine Qaa (v:=int .i64 r54.2.2) rfl rfl rfl (g_d rfl ?_)
 refine Qaa (v:=int .i64 r54.1) rfl rfl rfl (g_d rfl ?_)
 refine Qaa (v:=int .i64 r54.2.1) rfl rfl rfl (g_d rfl ?_)
 try dsimp only [Qai,Qaj]
 refine Qaa (v:=int .i64 r54.2.2) rfl rfl rfl (g_d rfl (Qab ?_))
 have hs:St _ [] _:=St.take (Γ':=[]) hs
 exact ha _ _ ⟨r54.1,r54.2.1,r54.2.2,H,rfl,hs⟩
theorem Qal.seg10 {N : Nat} {a1 : (List Int)} {a3 : (List Int)} {v2 : Value} {v4 : Value} {r35 : (Int × Int)} {x10 : Int} {r28 : (Qag × Int × Int)} {r7 : Int} {r8 : Int} {b31 : Nat} {v29 : Value} {w0 : World} {r : Bool} (htab : Lib.TabIs Tryz.prog w0 "internal/strconv.uint64pow10" .u64 Lib.pow10Tab) (hmax : CellI w0 0) (hsyn : CellE w0 2) (hrng : CellE w0 3) (hdbr : CellU w0 7 15 4) (hr0 : RdRow (K.int .u8) w0 v2 a1) (hr1 : RdRow (K.int .u8) w0 v4 a3) :
 ∀ t w,(fun t w=>∃ b43:Nat,∃ x44:Int,∃ x45:Int,∃ v46:Value,∃ x47:(List Qav),∃ x49:Int,Qal.j3 N r35 x10 r28 r7 r8 a3 x44 x45 x47 x49=some r∧Fr t (fun O=>(O 0::v4::O 2::O 3::O 4::int .i64 (i64w (1+r7))::int .i64 r8::int .i64 x10::O 8::O 9::O 10::O 11::pointer (some ⟨b31,0,none⟩)::O 13::O 14::int .i64 r35.1::int .i64 r35.2::pointer (some ⟨b43,0,none⟩)::int .i64 x49::O 19::oT O 2 (oT O 3 (oT O 4 (oT O 5 (oT O 6 (oT O 7 (oT O 8 (oT O 9 (oT O 10 (oT O 11 (oT O 12 (oT O 13 (oT O 14 (oT O 15 (oT O 16 (oT O 17 (oT O 18 (oT O 19 (oT O 20 (oT O 21 (oT O 22 (oT O 23 (oT O 24 (oT O 25 (oT O 26 (oT O 27 (oT O 28 (oT O 29 (oT O 30 (oT O 31 (oT O 32 (oT O 33 (oT O 34 (oT O 35 (oT O 36 (oT O 37 (oT O 38 (oT O 39 (oT O 40 (oT O 41 (oT O 42 (O 430::O 431::O 432::O 433::O 434::O 435::[]))))))))))))))))))))))))))))))))))))))))):List Value))∧St w0 [Cells b31 (([int .i8 r28.1.Qac,int .i8 r28.1.Qae,v29]:List Value)) 30,Row 61 Qao v29 r28.1.Qah,Cells b43 (([int .i8 x44,int .i8 x45,v46]:List Value)) 30,Row 61 Qao v46 x47] w) t w→G Tryz.prog 3 (fun e w=>∃ v,e= .returned v∧Qal.post w0 r v w) [.code (Code.at_ (Tryz.f3.body.getD .skip) [1,1,1,1,1,1,1,1,1,1,1])] t w:=by
 rintro t w ⟨b43,x44,x45,v46,x47,x49,H,hf,hs⟩
 obtain ⟨O,rfl⟩:=hf.open
 try dsimp only [oT]
 unfold Qal.j3 at H
 refine Qaf (Qaf ?_)
 refine Qcq (J:=(fun t w=>Qal.j4 N r7 r8 a3=some r∧Fr t (fun O=>(O 0::v4::O 2::O 3::O 4::int .i64 (i64w (1+r7))::int .i64 r8::O 7::O 8::O 9::oT O 1 (oT O 2 (oT O 3 (oT O 4 (oT O 5 (oT O 6 (oT O 7 (oT O 8 (oT O 9 (oT O 10 (oT O 11 (oT O 12 (oT O 13 (oT O 14 (oT O 15 (oT O 16 (oT O 17 (oT O 18 (oT O 19 (oT O 20 (oT O 21 (oT O 22 (oT O 23 (oT O 24 (oT O 25 (oT O 26 (oT O 27 (oT O 28 (oT O 29 (oT O 30 (oT O 31 (oT O 32 (oT O 33 (oT O 34 (oT O 35 (oT O 36 (oT O 37 (oT O 38 (oT O 39 (oT O 40 (oT O 41 (oT O 42 (O 430::O 431::O 432::O 433::O 434::O 435::[])))))))))))))))))))))))))))))))))))))))))):List Value))∧St w0 [] w)) ?_ ?_
 ·exact Qal.seg9 htab hmax hsyn hrng hdbr hr0 hr1
 intro ha
 refine Qak [0,1,2,3,4,5,6,7,8,9,10,11,12,13,14,15,16,17,18,19,20,21,22,23,24,25,26,27] rfl ?_
 refine Qaa (v:=int .i64 r35.2) rfl rfl rfl (g_d rfl ?_)
 refine QaA (B:=r35.2 !=0) rfl rfl rfl ?_ ?_
 ·
  intro hb
  rw [if_neg (b_bne_t hb)] at H
  refine g_d rfl ?_
  try dsimp only [Qai,Qaj]
  refine Qaa (v:=bool true) rfl rfl rfl (g_d rfl (Qad rfl rfl (g_d rfl (Qad rfl rfl (g_d rfl (Qad rfl rfl (g_d rfl ?_)))))))
  refine Qaa (v:=bool true) rfl rfl rfl (g_d rfl ?_)
  try dsimp only [Qai,Qaj]
  refine Qaa (v:=bool true) rfl rfl rfl (g_d rfl (Qad rfl rfl (g_d rfl (Qad rfl rfl (g_d rfl ?_)))))
  refine Qaa (v:=bool true) rfl rfl rfl (g_d rfl ?_)
  try dsimp only [Qai,Qaj]
  refine Qaa (v:=bool true) rfl rfl rfl (g_d rfl (Qad rfl rfl (g_d rfl (Qad rfl rfl (g_d rfl ?_)))))
  try dsimp only [Qai,Qaj]
  refine Qad rfl rfl (g_d rfl (Qad rfl rfl (g_d rfl ?_)))
  try dsimp only [Qai,Qaj]
  refine Qaa (v:=bool true) rfl rfl rfl (g_d rfl ?_)
  refine Qaa (v:=bool true) rfl rfl rfl (g_d rfl (Qad rfl rfl (g_d rfl ?_)))
  try dsimp only [Qai,Qaj]
  refine Qad rfl rfl (g_d rfl (Qad rfl rfl (g_d rfl ?_)))
  try dsimp only [Qai,Qaj]
  refine Qad rfl rfl (g_d rfl ?_)
  refine Qaa (v:=bool true) rfl rfl rfl (g_d rfl ?_)
  try dsimp only [Qai,Qaj]
  refine Qaa (v:=bool true) rfl rfl rfl (g_d rfl (Qad rfl rfl (g_d rfl (Qad rfl rfl (g_d rfl ?_)))))
  try dsimp only [Qai,Qaj]
  refine Qad rfl rfl (g_d rfl ?_)
  refine Qaa (v:=bool true) rfl rfl rfl (g_d rfl ?_)
  try dsimp only [Qai,Qaj]
  refine Qab (Qam rfl (Qaf (Qak [0] rfl ?_)))
  refine Qaa (v:=bool false) rfl rfl rfl (g_d rfl (Qab ?_))
  obtain rfl:=QsJ H
  refine Qax Tryz.func3 (v:=bool false) (res1 rfl rfl) ?_
  have hs:St _ [] _:=St.take (Γ':=[_,_,_,_]) hs
  exact ⟨_,rfl,rfl,hs⟩
 intro hb
 rw [if_pos (b_bne_f hb)] at H
 refine g_d rfl ?_
 try dsimp only [Qai,Qaj]
 refine Qaa (v:=bool false) rfl rfl rfl (g_d rfl ?_)
 refine Qaa (v:=int .i64 r35.1) rfl rfl rfl (g_d rfl ?_)
 refine Qaa (v:=int .i64 x10) rfl rfl rfl (g_d rfl ?_)
 refine Qaa (v:=bool (r35.1 !=x10)) rfl rfl rfl (g_d rfl ?_)
 refine QaA (B:=r35.1 !=x10) rfl rfl rfl ?_ ?_
 ·
  intro hb
  rw [if_neg (b_bne_t hb)] at H
  refine g_d rfl ?_
  try dsimp only [Qai,Qaj]
  refine Qaa (v:=bool true) rfl rfl rfl (g_d rfl (Qad rfl rfl (g_d rfl (Qad rfl rfl (g_d rfl ?_)))))
  refine Qaa (v:=bool true) rfl rfl rfl (g_d rfl ?_)
  try dsimp only [Qai,Qaj]
  refine Qaa (v:=bool true) rfl rfl rfl (g_d rfl (Qad rfl rfl (g_d rfl (Qad rfl rfl (g_d rfl ?_)))))
  try dsimp only [Qai,Qaj]
  refine Qad rfl rfl (g_d rfl (Qad rfl rfl (g_d rfl ?_)))
  try dsimp only [Qai,Qaj]
  refine Qaa (v:=bool true) rfl rfl rfl (g_d rfl ?_)
  refine Qaa (v:=bool true) rfl rfl rfl (g_d rfl (Qad rfl rfl (g_d rfl ?_)))
  try dsimp only [Qai,Qaj]
  refine Qad rfl rfl (g_d rfl (Qad rfl rfl (g_d rfl ?_)))
  try dsimp only [Qai,Qaj]
  refine Qad rfl rfl (g_d rfl ?_)
  refine Qaa (v:=bool true) rfl rfl rfl (g_d rfl ?_)
  try dsimp only [Qai,Qaj]
  refine Qaa (v:=bool true) rfl rfl rfl (g_d rfl (Qad rfl rfl (g_d rfl (Qad rfl rfl (g_d rfl ?_)))))
  try dsimp only [Qai,Qaj]
  refine Qad rfl rfl (g_d rfl ?_)
  refine Qaa (v:=bool true) rfl rfl rfl (g_d rfl ?_)
  try dsimp only [Qai,Qaj]
  refine Qab (Qam rfl (Qaf (Qak [0] rfl ?_)))
  refine Qaa (v:=bool false) rfl rfl rfl (g_d rfl (Qab ?_))
  obtain rfl:=QsJ H
  refine Qax Tryz.func3 (v:=bool false) (res1 rfl rfl) ?_
  have hs:St _ [] _:=St.take (Γ':=[_,_,_,_]) hs
  exact ⟨_,rfl,rfl,hs⟩
 intro hb
 rw [if_pos (b_bne_f hb)] at H
 refine g_d rfl ?_
 try dsimp only [Qai,Qaj]
 refine Qaa (v:=bool false) rfl rfl rfl (g_d rfl ?_)
 refine Qaa (v:=int .i64 x49) rfl rfl rfl (g_d rfl ?_)
 refine Qaa (v:=bool (x49 !=0)) rfl rfl rfl (g_d rfl ?_)
 refine QaA (B:=x49 !=0) rfl rfl rfl ?_ ?_
 ·
  intro hb
  rw [if_neg (b_bne_t hb)] at H
  refine g_d rfl ?_
  try dsimp only [Qai,Qaj]
  refine Qaa (v:=bool true) rfl rfl rfl (g_d rfl (Qad rfl rfl (g_d rfl (Qad rfl rfl (g_d rfl ?_)))))
  try dsimp only [Qai,Qaj]
  refine Qad rfl rfl (g_d rfl (Qad rfl rfl (g_d rfl ?_)))
  try dsimp only [Qai,Qaj]
  refine Qaa (v:=bool true) rfl rfl rfl (g_d rfl ?_)
  refine Qaa (v:=bool true) rfl rfl rfl (g_d rfl (Qad rfl rfl (g_d rfl ?_)))
  try dsimp only [Qai,Qaj]
  refine Qad rfl rfl (g_d rfl (Qad rfl rfl (g_d rfl ?_)))
  try dsimp only [Qai,Qaj]
  refine Qad rfl rfl (g_d rfl ?_)
  refine Qaa (v:=bool true) rfl rfl rfl (g_d rfl ?_)
  try dsimp only [Qai,Qaj]
  refine Qaa (v:=bool true) rfl rfl rfl (g_d rfl (Qad rfl rfl (g_d rfl (Qad rfl rfl (g_d rfl ?_)))))
  try dsimp only [Qai,Qaj]
  refine Qad rfl rfl (g_d rfl ?_)
  refine Qaa (v:=bool true) rfl rfl rfl (g_d rfl ?_)
  try dsimp only [Qai,Qaj]
  refine Qab (Qam rfl (Qaf (Qak [0] rfl ?_)))
  refine Qaa (v:=bool false) rfl rfl rfl (g_d rfl (Qab ?_))
  obtain rfl:=QsJ H
  refine Qax Tryz.func3 (v:=bool false) (res1 rfl rfl) ?_
  have hs:St _ [] _:=St.take (Γ':=[_,_,_,_]) hs
  exact ⟨_,rfl,rfl,hs⟩
 intro hb
 rw [if_pos (b_bne_f hb)] at H
 refine g_d rfl ?_
 try dsimp only [Qai,Qaj]
 refine Qaa (v:=bool false) rfl rfl rfl (g_d rfl ?_)
 refine QaG rfl rfl (es:=(([int .i8 x44,int .i8 x45,v46]:List Value))) rfl rfl (fun _=>rfl) (n:=3) (fun _=>rfl) rfl (cells_all (hs.cells 2 rfl)) (g_d rfl ?_)
 refine QaG rfl rfl (es:=(([int .i8 r28.1.Qac,int .i8 r28.1.Qae,v29]:List Value))) rfl rfl (fun _=>rfl) (n:=3) (fun _=>rfl) rfl (cells_all (hs.cells 0 rfl)) (g_d rfl ?_)
 try dsimp only [Qai,Qaj]
 obtain ⟨r50,Hr50,H⟩:=bind_get H
 refine Qas (args:=[agg (([int .i8 x44,int .i8 x45,v46]:List Value)).toArray,agg (([int .i8 r28.1.Qac,int .i8 r28.1.Qae,v29]:List Value)).toArray]) rfl rfl (Qat rfl (callFunc_enter Tryz.func9 rfl rfl) rfl) (Qbb.calls (a1:=(⟨x44,x45,x47⟩:Qag)) (a4:=(⟨r28.1.Qac,r28.1.Qae,r28.1.Qah⟩:Qag)) (hs.row 3 rfl) (hs.row 1 rfl) Hr50) ?_
 rintro _ w ⟨rfl,hs2⟩
 have hs:St _ [_,_,_,_] _:=hs.call hs2
 refine g_d rfl ?_
 refine Qaa (v:=bool (!r50)) rfl rfl rfl (g_d rfl ?_)
 try dsimp only [Qai,Qaj]
 refine QaA (B:=!r50) rfl rfl rfl ?_ ?_
 ·
  intro hb
  rw [if_neg (b_not_t hb)] at H
  refine g_d rfl ?_
  refine Qaa (v:=bool true) rfl rfl rfl (g_d rfl (Qad rfl rfl (g_d rfl ?_)))
  try dsimp only [Qai,Qaj]
  refine Qad rfl rfl (g_d rfl (Qad rfl rfl (g_d rfl ?_)))
  try dsimp only [Qai,Qaj]
  refine Qad rfl rfl (g_d rfl ?_)
  refine Qaa (v:=bool true) rfl rfl rfl (g_d rfl ?_)
  try dsimp only [Qai,Qaj]
  refine Qaa (v:=bool true) rfl rfl rfl (g_d rfl (Qad rfl rfl (g_d rfl (Qad rfl rfl (g_d rfl ?_)))))
  try dsimp only [Qai,Qaj]
  refine Qad rfl rfl (g_d rfl ?_)
  refine Qaa (v:=bool true) rfl rfl rfl (g_d rfl ?_)
  try dsimp only [Qai,Qaj]
  refine Qab (Qam rfl (Qaf (Qak [0] rfl ?_)))
  refine Qaa (v:=bool false) rfl rfl rfl (g_d rfl (Qab ?_))
  obtain rfl:=QsJ H
  refine Qax Tryz.func3 (v:=bool false) (res1 rfl rfl) ?_
  have hs:St _ [] _:=St.take (Γ':=[_,_,_,_]) hs
  exact ⟨_,rfl,rfl,hs⟩
 intro hb
 rw [if_pos (b_not_f hb)] at H
 refine g_d rfl ?_
 refine Qaa (v:=bool false) rfl rfl rfl (g_d rfl ?_)
 refine QaG rfl rfl (es:=(([int .i8 x44,int .i8 x45,v46]:List Value))) rfl rfl (fun _=>rfl) (n:=3) (fun _=>rfl) rfl (cells_all (hs.cells 2 rfl)) (g_d rfl ?_)
 try dsimp only [Qai,Qaj]
 refine QaG rfl rfl (es:=(([int .i8 r28.1.Qac,int .i8 r28.1.Qae,v29]:List Value))) rfl rfl (fun _=>rfl) (n:=3) (fun _=>rfl) rfl (cells_all (hs.cells 0 rfl)) (g_d rfl ?_)
 obtain ⟨r51,Hr51,H⟩:=bind_get H
 refine Qas (args:=[agg (([int .i8 x44,int .i8 x45,v46]:List Value)).toArray,agg (([int .i8 r28.1.Qac,int .i8 r28.1.Qae,v29]:List Value)).toArray]) rfl rfl (Qat rfl (callFunc_enter Tryz.func13 rfl rfl) rfl) (Qb5.calls (a1:=(⟨x44,x45,x47⟩:Qag)) (a4:=(⟨r28.1.Qac,r28.1.Qae,r28.1.Qah⟩:Qag)) (hs.row 3 rfl) (hs.row 1 rfl) Hr51) ?_
 rintro _ w ⟨rfl,hs2⟩
 have hs:St _ [_,_,_,_] _:=hs.call hs2
 refine g_d rfl ?_
 try dsimp only [Qai,Qaj]
 refine Qaa (v:=bool (!r51)) rfl rfl rfl (g_d rfl ?_)
 refine QaA (B:=!r51) rfl rfl rfl ?_ ?_
 ·
  intro hb
  rw [if_neg (b_not_t hb)] at H
  refine g_d rfl ?_
  refine Qaa (v:=bool true) rfl rfl rfl (g_d rfl (Qad rfl rfl (g_d rfl ?_)))
  try dsimp only [Qai,Qaj]
  refine Qad rfl rfl (g_d rfl (Qad rfl rfl (g_d rfl ?_)))
  try dsimp only [Qai,Qaj]
  refine Qaa (v:=bool true) rfl rfl rfl (g_d rfl (Qab (Qam rfl (Qaf (Qak [0] rfl ?_)))))
  refine Qaa (v:=bool false) rfl rfl rfl (g_d rfl ?_)
  try dsimp only [Qai,Qaj]
  refine Qab ?_
  obtain rfl:=QsJ H
  refine Qax Tryz.func3 (v:=bool false) (res1 rfl rfl) ?_
  have hs:St _ [] _:=St.take (Γ':=[_,_,_,_]) hs
  exact ⟨_,rfl,rfl,hs⟩
 intro hb
 rw [if_pos (b_not_f hb)] at H
 refine g_d rfl ?_
 try dsimp only [Qai,Qaj]
 refine Qaa (v:=bool false) rfl rfl rfl (g_d rfl ?_)
 refine QaG rfl rfl (es:=(([int .i8 r28.1.Qac,int .i8 r28.1.Qae,v29]:List Value))) rfl rfl (fun _=>rfl) (n:=3) (fun _=>rfl) rfl (cells_all (hs.cells 0 rfl)) (g_d rfl ?_)
 obtain ⟨r52,Hr52,H⟩:=bind_get H
 refine Qas (args:=[agg (([int .i8 r28.1.Qac,int .i8 r28.1.Qae,v29]:List Value)).toArray]) rfl rfl (Qat rfl (callFunc_enter Tryz.func14 rfl rfl) rfl) (Qa1.calls (a1:=(⟨r28.1.Qac,r28.1.Qae,r28.1.Qah⟩:Qag)) (hs.row 1 rfl) Hr52) ?_
 rintro _ w ⟨rfl,hs2⟩
 have hs:St _ [_,_,_,_] _:=hs.call hs2
 cases r52 with
 |true=>
  rw [if_pos rfl] at H
  refine g_d rfl ?_
  try dsimp only [Qai,Qaj]
  refine Qaa (v:=bool false) rfl rfl rfl (g_d rfl ?_)
  refine Qaa (v:=bool false) rfl rfl rfl (g_d rfl ?_)
  try dsimp only [Qai,Qaj]
  refine Qab (Qap rfl (QaE ?_))
  have hs:St _ [] _:=St.take (Γ':=[_,_,_,_]) hs
  exact ha _ _ ⟨H,rfl,hs⟩
 |false=>
  rw [if_neg Bool.false_ne_true] at H
  refine g_d rfl ?_
  try dsimp only [Qai,Qaj]
  refine Qaa (v:=bool true) rfl rfl rfl (g_d rfl ?_)
  refine Qaa (v:=bool true) rfl rfl rfl (g_d rfl ?_)
  try dsimp only [Qai,Qaj]
  refine Qab (Qam rfl (Qaf (Qak [0] rfl ?_)))
  refine Qaa (v:=bool false) rfl rfl rfl (g_d rfl (Qab ?_))
  obtain rfl:=QsJ H
  refine Qax Tryz.func3 (v:=bool false) (res1 rfl rfl) ?_
  have hs:St _ [] _:=St.take (Γ':=[_,_,_,_]) hs
  exact ⟨_,rfl,rfl,hs⟩
theorem Qal.seg11 {N : Nat} {a1 : (List Int)} {a3 : (List Int)} {v2 : Value} {v4 : Value} {r28 : (Qag × Int × Int)} {x10 : Int} {r7 : Int} {r8 : Int} {b31 : Nat} {v29 : Value} {w0 : World} {r : Bool} (htab : Lib.TabIs Tryz.prog w0 "internal/strconv.uint64pow10" .u64 Lib.pow10Tab) (hmax : CellI w0 0) (hsyn : CellE w0 2) (hrng : CellE w0 3) (hdbr : CellU w0 7 15 4) (hr0 : RdRow (K.int .u8) w0 v2 a1) (hr1 : RdRow (K.int .u8) w0 v4 a3) :
 ∀ t w,(fun t w=>Qal.j2 N r28 x10 r7 r8 a3=some r∧Fr t (fun O=>(O 0::v4::O 2::O 3::O 4::int .i64 (i64w (1+r7))::int .i64 r8::int .i64 x10::O 8::O 9::O 10::O 11::pointer (some ⟨b31,0,none⟩)::O 13::O 14::O 15::O 16::O 17::O 18::O 19::oT O 2 (oT O 3 (oT O 4 (oT O 5 (oT O 6 (oT O 7 (oT O 8 (oT O 9 (oT O 10 (oT O 11 (oT O 12 (oT O 13 (oT O 14 (oT O 15 (oT O 16 (oT O 17 (oT O 18 (oT O 19 (oT O 20 (oT O 21 (oT O 22 (oT O 23 (oT O 24 (oT O 25 (oT O 26 (oT O 27 (oT O 28 (oT O 29 (oT O 30 (oT O 31 (oT O 32 (oT O 33 (oT O 34 (oT O 35 (oT O 36 (oT O 37 (oT O 38 (oT O 39 (oT O 40 (oT O 41 (oT O 42 (O 430::O 431::O 432::O 433::O 434::O 435::[]))))))))))))))))))))))))))))))))))))))))):List Value))∧St w0 [Cells b31 (([int .i8 r28.1.Qac,int .i8 r28.1.Qae,v29]:List Value)) 30,Row 61 Qao v29 r28.1.Qah] w) t w→G Tryz.prog 3 (fun e w=>∃ v,e= .returned v∧Qal.post w0 r v w) [.code (Code.at_ (Tryz.f3.body.getD .skip) [1,1,1,1,1,1,1,1,1])] t w:=by
 rintro t w ⟨H,hf,hs⟩
 obtain ⟨O,rfl⟩:=hf.open
 try dsimp only [oT]
 unfold Qal.j2 at H
 refine Qaf (Qak [0,1,2,3,4,5,6] rfl ?_)
 refine QaG rfl rfl (es:=(([int .i8 r28.1.Qac,int .i8 r28.1.Qae,v29]:List Value))) rfl rfl (fun _=>rfl) (n:=3) (fun _=>rfl) rfl (cells_all (hs.cells 0 rfl)) (g_d rfl ?_)
 obtain ⟨r35,Hr35,H⟩:=bind_get H
 refine Qas (args:=[agg (([int .i8 r28.1.Qac,int .i8 r28.1.Qae,v29]:List Value)).toArray]) rfl rfl (Qat rfl (callFunc_enter Tryz.func10 rfl rfl) rfl) (Qb9.calls (a1:=(⟨r28.1.Qac,r28.1.Qae,r28.1.Qah⟩:Qag)) (hs.row 1 rfl) Hr35) ?_
 rintro _ w ⟨rfl,hs2⟩
 have hs:St _ [_,_] _:=hs.call hs2
 refine g_d rfl ?_
 try dsimp only [Qai,Qaj]
 refine Qaa (v:=tuple #[int .i64 r35.1,int .i64 r35.2]) rfl rfl rfl (g_d rfl ?_)
 refine Qaa (v:=int .i64 r35.1) rfl rfl rfl (g_d rfl ?_)
 refine Qaa (v:=int .i64 r35.2) rfl rfl rfl (g_d rfl ?_)
 refine Qaa (v:=int .i64 r35.1) rfl rfl rfl (g_d rfl ?_)
 refine Qaa (v:=int .i64 r35.2) rfl rfl rfl (g_d rfl ?_)
 try dsimp only [Qai,Qaj]
 refine Qab (Qaf ?_)
 refine Qcp (J:=(fun t w=>∃ b43:Nat,∃ x44:Int,∃ x45:Int,∃ v46:Value,∃ x47:(List Qav),∃ x49:Int,Qal.j3 N r35 x10 r28 r7 r8 a3 x44 x45 x47 x49=some r∧Fr t (fun O=>(O 0::v4::O 2::O 3::O 4::int .i64 (i64w (1+r7))::int .i64 r8::int .i64 x10::O 8::O 9::O 10::O 11::pointer (some ⟨b31,0,none⟩)::O 13::O 14::int .i64 r35.1::int .i64 r35.2::pointer (some ⟨b43,0,none⟩)::int .i64 x49::O 19::oT O 2 (oT O 3 (oT O 4 (oT O 5 (oT O 6 (oT O 7 (oT O 8 (oT O 9 (oT O 10 (oT O 11 (oT O 12 (oT O 13 (oT O 14 (oT O 15 (oT O 16 (oT O 17 (oT O 18 (oT O 19 (oT O 20 (oT O 21 (oT O 22 (oT O 23 (oT O 24 (oT O 25 (oT O 26 (oT O 27 (oT O 28 (oT O 29 (oT O 30 (oT O 31 (oT O 32 (oT O 33 (oT O 34 (oT O 35 (oT O 36 (oT O 37 (oT O 38 (oT O 39 (oT O 40 (oT O 41 (oT O 42 (O 430::O 431::O 432::O 433::O 434::O 435::[]))))))))))))))))))))))))))))))))))))))))):List Value))∧St w0 [Cells b31 (([int .i8 r28.1.Qac,int .i8 r28.1.Qae,v29]:List Value)) 30,Row 61 Qao v29 r28.1.Qah,Cells b43 (([int .i8 x44,int .i8 x45,v46]:List Value)) 30,Row 61 Qao v46 x47] w)) ?_ ?_
 ·exact Qal.seg10 htab hmax hsyn hrng hdbr hr0 hr1
 intro ha
 refine Qak [0,1,2,3,4,5,6,7,8] rfl ?_
 refine QaG rfl rfl (es:=(([int .i8 r28.1.Qac,int .i8 r28.1.Qae,v29]:List Value))) rfl rfl (fun _=>rfl) (n:=3) (fun _=>rfl) rfl (cells_all (hs.cells 0 rfl)) (g_d rfl ?_)
 obtain ⟨r36,Hr36,H⟩:=bind_get H
 refine Qas (args:=[agg (([int .i8 r28.1.Qac,int .i8 r28.1.Qae,v29]:List Value)).toArray]) rfl rfl (Qat rfl (callFunc_enter Tryz.func12 rfl rfl) rfl) (QaY.calls (a1:=(⟨r28.1.Qac,r28.1.Qae,r28.1.Qah⟩:Qag)) (hs.tab htab) (hs.cellU hdbr) (hs.row 1 rfl) Hr36) ?_
 rintro _ w ⟨rfl,hs2⟩
 have hs:St _ [_,_] _:=hs.call hs2
 refine g_d rfl ?_
 try dsimp only [Qai,Qaj]
 obtain ⟨r37,Hr37,H⟩:=bind_get H
 refine Qas (args:=[string r36]) rfl rfl (Qat rfl (callFunc_enter Tryz.func11 rfl rfl) rfl) (Qa7.calls (a1:=r36) (hs.tab htab) (hs.cellI hmax) (hs.cellE hsyn) (hs.cellE hrng) (hs.cellU hdbr) Hr37) ?_
 rintro _ w ⟨v38,rfl,hs2⟩
 have hs:St _ [_,_,_] _:=hs.call hs2
 refine g_d rfl ?_
 refine Qaa (v:=tuple #[agg (([int .i8 r37.1.Qac,int .i8 r37.1.Qae,v38]:List Value)).toArray,int .i64 r37.2]) rfl rfl rfl (g_d rfl ?_)
 refine Qaa (v:=agg (([int .i8 r37.1.Qac,int .i8 r37.1.Qae,v38]:List Value)).toArray) rfl rfl rfl (g_d rfl ?_)
 refine Qaa (v:=int .i64 r37.2) rfl rfl rfl (g_d rfl ?_)
 refine Qa5 hs rfl rfl (z:=(agg #[int .i8 0,int .i8 0,slice none 0 0])) (cs:=(([int .i8 0,int .i8 0,slice none 0 0]:List Value))) rfl (fun _=>rfl) rfl ?_
 intro b40 w hs
 refine g_d rfl ?_
 try dsimp only [Qai,Qaj]
 refine QaB (n:=3) hs rfl rfl rfl (vs:=(([int .i8 r37.1.Qac,int .i8 r37.1.Qae,v38]:List Value))) rfl rfl rfl (fun _=>rfl) rfl (by intro v hv;simp only [List.mem_append,List.mem_cons,List.not_mem_nil,or_false] at hv;repeat (first|(subst hv;first|rfl|exact slOne (hs.row 1 rfl))|(rcases hv with hv|hv))) ?_
 intro w hs
 refine g_n rfl ?_
 refine Qaa (v:=int .i64 r37.2) rfl rfl rfl (g_d rfl (Qab ?_))
 have hs:=hs.pull 1 rfl
 have hs:=hs.pull 1 rfl
 have hs:=hs.pull 3 rfl
 have hs:=hs.pull 3 rfl
 have hs:St _ [_,_,_,_] _:=St.take (Γ':=[]) hs
 exact ha _ _ ⟨b40,r37.1.Qac,r37.1.Qae,v38,r37.1.Qah,r37.2,H,rfl,hs⟩
theorem Qal.seg12 {N : Nat} {a1 : (List Int)} {a3 : (List Int)} {v2 : Value} {v4 : Value} {r7 : Int} {r8 : Int} {x10 : Int} {r11 : (List Bool)} {v12 : Value} {w0 : World} {r : Bool} (htab : Lib.TabIs Tryz.prog w0 "internal/strconv.uint64pow10" .u64 Lib.pow10Tab) (hmax : CellI w0 0) (hsyn : CellE w0 2) (hrng : CellE w0 3) (hdbr : CellU w0 7 15 4) (hr0 : RdRow (K.int .u8) w0 v2 a1) (hr1 : RdRow (K.int .u8) w0 v4 a3) :
 ∀ t w,(fun t w=>∃ b20:Nat,∃ x21:Int,∃ x22:Int,∃ v23:Value,∃ x24:(List Qav),∃ x26:Int,∃ x27:Int,Qal.j1 N r7 r8 x10 r11 a3 x21 x22 x24 x26 x27=some r∧Fr t (fun O=>(O 0::v4::O 2::O 3::O 4::int .i64 (i64w (1+r7))::int .i64 r8::int .i64 x10::v12::pointer (some ⟨b20,0,none⟩)::int .i64 x26::int .i64 x27::O 12::O 13::O 14::O 15::O 16::O 17::O 18::O 19::oT O 2 (oT O 3 (oT O 4 (oT O 5 (oT O 6 (oT O 7 (oT O 8 (oT O 9 (oT O 10 (oT O 11 (oT O 12 (oT O 13 (oT O 14 (oT O 15 (oT O 16 (oT O 17 (oT O 18 (oT O 19 (oT O 20 (oT O 21 (oT O 22 (oT O 23 (oT O 24 (oT O 25 (oT O 26 (oT O 27 (oT O 28 (oT O 29 (oT O 30 (oT O 31 (oT O 32 (oT O 33 (oT O 34 (oT O 35 (oT O 36 (oT O 37 (oT O 38 (oT O 39 (oT O 40 (oT O 41 (oT O 42 (O 430::O 431::O 432::O 433::O 434::O 435::[]))))))))))))))))))))))))))))))))))))))))):List Value))∧St w0 [Row 4 K.bool v12 r11,Cells b20 (([int .i8 x21,int .i8 x22,v23]:List Value)) 30,Row 61 Qao v23 x24] w) t w→G Tryz.prog 3 (fun e w=>∃ v,e= .returned v∧Qal.post w0 r v w) [.code (Code.at_ (Tryz.f3.body.getD .skip) [1,1,1,1,1,1,1])] t w:=by
 rintro t w ⟨b20,x21,x22,v23,x24,x26,x27,H,hf,hs⟩
 obtain ⟨O,rfl⟩:=hf.open
 try dsimp only [oT]
 unfold Qal.j1 at H
 refine Qaf (Qak [0,1,2,3,4,5,6,7,8,9,10,11,12] rfl ?_)
 refine Qaa (v:=int .i64 (i64w (1+r7))) rfl rfl rfl (g_d rfl ?_)
 refine Qaa (v:=int .i64 r8) rfl rfl rfl (g_d rfl ?_)
 refine Qaa (v:=int .i64 x10) rfl rfl rfl (g_d rfl ?_)
 refine Qaa (v:=v12) rfl rfl rfl (g_d rfl ?_)
 obtain ⟨r28,Hr28,H⟩:=bind_get H
 refine Qas (args:=[int .i64 (i64w (1+r7)),int .i64 r8,int .i64 x10,v12]) rfl rfl (Qat rfl (callFunc_enter Tryz.func8 rfl rfl) rfl) (QbK.calls (a1:=i64w (1+r7)) (a2:=r8) (a3:=x10) (a4:=r11) (hs.row 0 rfl) Hr28) ?_
 rintro _ w ⟨v29,rfl,hs2⟩
 have hs:St _ [_,_,_,_] _:=hs.call hs2
 refine g_d rfl ?_
 try dsimp only [Qai,Qaj]
 refine Qaa (v:=tuple #[agg (([int .i8 r28.1.Qac,int .i8 r28.1.Qae,v29]:List Value)).toArray,int .i64 r28.2.1,int .i64 r28.2.2]) rfl rfl rfl (g_d rfl ?_)
 refine Qaa (v:=agg (([int .i8 r28.1.Qac,int .i8 r28.1.Qae,v29]:List Value)).toArray) rfl rfl rfl (g_d rfl ?_)
 refine Qaa (v:=int .i64 r28.2.1) rfl rfl rfl (g_d rfl ?_)
 refine Qaa (v:=int .i64 r28.2.2) rfl rfl rfl (g_d rfl ?_)
 refine Qa5 hs rfl rfl (z:=(agg #[int .i8 0,int .i8 0,slice none 0 0])) (cs:=(([int .i8 0,int .i8 0,slice none 0 0]:List Value))) rfl (fun _=>rfl) rfl ?_
 intro b31 w hs
 refine g_d rfl ?_
 refine QaB (n:=3) hs rfl rfl rfl (vs:=(([int .i8 r28.1.Qac,int .i8 r28.1.Qae,v29]:List Value))) rfl rfl rfl (fun _=>rfl) rfl (by intro v hv;simp only [List.mem_append,List.mem_cons,List.not_mem_nil,or_false] at hv;repeat (first|(subst hv;first|rfl|exact slOne (hs.row 1 rfl))|(rcases hv with hv|hv))) ?_
 intro w hs
 refine g_n rfl ?_
 refine Qaa (v:=int .i64 r28.2.1) rfl rfl rfl (g_d rfl ?_)
 try dsimp only [Qai,Qaj]
 refine Qaa (v:=int .i64 r28.2.2) rfl rfl rfl (g_d rfl (Qab (Qaf (Qaf ?_))))
 refine Qcq (J:=(fun t w=>Qal.j2 N r28 x10 r7 r8 a3=some r∧Fr t (fun O=>(O 0::v4::O 2::O 3::O 4::int .i64 (i64w (1+r7))::int .i64 r8::int .i64 x10::O 8::O 9::O 10::O 11::pointer (some ⟨b31,0,none⟩)::O 13::O 14::O 15::O 16::O 17::O 18::O 19::oT O 2 (oT O 3 (oT O 4 (oT O 5 (oT O 6 (oT O 7 (oT O 8 (oT O 9 (oT O 10 (oT O 11 (oT O 12 (oT O 13 (oT O 14 (oT O 15 (oT O 16 (oT O 17 (oT O 18 (oT O 19 (oT O 20 (oT O 21 (oT O 22 (oT O 23 (oT O 24 (oT O 25 (oT O 26 (oT O 27 (oT O 28 (oT O 29 (oT O 30 (oT O 31 (oT O 32 (oT O 33 (oT O 34 (oT O 35 (oT O 36 (oT O 37 (oT O 38 (oT O 39 (oT O 40 (oT O 41 (oT O 42 (O 430::O 431::O 432::O 433::O 434::O 435::[]))))))))))))))))))))))))))))))))))))))))):List Value))∧St w0 [Cells b31 (([int .i8 r28.1.Qac,int .i8 r28.1.Qae,v29]:List Value)) 30,Row 61 Qao v29 r28.1.Qah] w)) ?_ ?_
 ·exact Qal.seg11 htab hmax hsyn hrng hdbr hr0 hr1
 intro ha
 refine Qak [0,1,2,3,4,5,6,7,8,9,10,11,12,13,14,15,16,17,18,19,20,21,22] rfl ?_
 refine Qaa (v:=int .i64 x27) rfl rfl rfl (g_d rfl ?_)
 refine Qaa (v:=int .i64 r28.2.2) rfl rfl rfl (g_d rfl ?_)
 refine QaA (B:=x27 !=r28.2.2) rfl rfl rfl ?_ ?_
 ·
  intro hb
  rw [if_neg (b_bne_t hb)] at H
  refine g_d rfl ?_
  try dsimp only [Qai,Qaj]
  refine Qaa (v:=bool true) rfl rfl rfl (g_d rfl (Qad rfl rfl (g_d rfl (Qad rfl rfl (g_d rfl ?_)))))
  refine Qaa (v:=bool true) rfl rfl rfl (g_d rfl ?_)
  try dsimp only [Qai,Qaj]
  refine Qaa (v:=bool true) rfl rfl rfl (g_d rfl (Qad rfl rfl (g_d rfl (Qad rfl rfl (g_d rfl ?_)))))
  try dsimp only [Qai,Qaj]
  refine Qad rfl rfl (g_d rfl (Qad rfl rfl (g_d rfl ?_)))
  try dsimp only [Qai,Qaj]
  refine Qaa (v:=bool true) rfl rfl rfl (g_d rfl ?_)
  refine Qaa (v:=bool true) rfl rfl rfl (g_d rfl (Qad rfl rfl (g_d rfl (Qad rfl rfl (g_d rfl (Qad rfl rfl (g_d rfl ?_)))))))
  try dsimp only [Qai,Qaj]
  refine Qaa (v:=bool true) rfl rfl rfl (g_d rfl ?_)
  refine Qaa (v:=bool true) rfl rfl rfl (g_d rfl (Qad rfl rfl (g_d rfl (Qad rfl rfl (g_d rfl (Qad rfl rfl (g_d rfl ?_)))))))
  try dsimp only [Qai,Qaj]
  refine Qaa (v:=bool true) rfl rfl rfl (g_d rfl (Qab (Qam rfl (Qaf (Qak [0] rfl ?_)))))
  refine Qaa (v:=bool false) rfl rfl rfl (g_d rfl ?_)
  try dsimp only [Qai,Qaj]
  refine Qab ?_
  obtain rfl:=QsJ H
  refine Qax Tryz.func3 (v:=bool false) (res1 rfl rfl) ?_
  have hs:St _ [] _:=St.take (Γ':=[_,_,_,_,_]) hs
  exact ⟨_,rfl,rfl,hs⟩
 intro hb
 rw [if_pos (b_bne_f hb)] at H
 refine g_d rfl ?_
 try dsimp only [Qai,Qaj]
 refine Qaa (v:=bool false) rfl rfl rfl (g_d rfl ?_)
 refine Qaa (v:=int .i64 x27) rfl rfl rfl (g_d rfl ?_)
 refine Qaa (v:=bool (x27 !=0)) rfl rfl rfl (g_d rfl ?_)
 refine QaA (B:=x27 !=0) rfl rfl rfl ?_ ?_
 ·
  intro hb
  rw [if_neg (b_bne_t hb)] at H
  refine g_d rfl ?_
  refine Qaa (v:=bool true) rfl rfl rfl (g_d rfl (Qad rfl rfl (g_d rfl ?_)))
  try dsimp only [Qai,Qaj]
  refine Qad rfl rfl (g_d rfl (Qad rfl rfl (g_d rfl ?_)))
  try dsimp only [Qai,Qaj]
  refine Qad rfl rfl (g_d rfl ?_)
  refine Qaa (v:=bool true) rfl rfl rfl (g_d rfl ?_)
  try dsimp only [Qai,Qaj]
  refine Qaa (v:=bool true) rfl rfl rfl (g_d rfl (Qad rfl rfl (g_d rfl (Qad rfl rfl (g_d rfl (Qad rfl rfl (g_d rfl ?_)))))))
  refine Qaa (v:=bool true) rfl rfl rfl (g_d rfl ?_)
  try dsimp only [Qai,Qaj]
  refine Qaa (v:=bool true) rfl rfl rfl (g_d rfl (Qad rfl rfl (g_d rfl (Qad rfl rfl (g_d rfl (Qad rfl rfl (g_d rfl ?_)))))))
  refine Qaa (v:=bool true) rfl rfl rfl (g_d rfl ?_)
  try dsimp only [Qai,Qaj]
  refine Qab (Qam rfl (Qaf (Qak [0] rfl ?_)))
  refine Qaa (v:=bool false) rfl rfl rfl (g_d rfl (Qab ?_))
  obtain rfl:=QsJ H
  refine Qax Tryz.func3 (v:=bool false) (res1 rfl rfl) ?_
  have hs:St _ [] _:=St.take (Γ':=[_,_,_,_,_]) hs
  exact ⟨_,rfl,rfl,hs⟩
 intro hb
 rw [if_pos (b_bne_f hb)] at H
 refine g_d rfl ?_
 try dsimp only [Qai,Qaj]
 refine Qaa (v:=bool false) rfl rfl rfl (g_d rfl ?_)
 refine QaG rfl rfl (es:=(([int .i8 x21,int .i8 x22,v23]:List Value))) rfl rfl (fun _=>rfl) (n:=3) (fun _=>rfl) rfl (cells_all (hs.cells 3 rfl)) (g_d rfl ?_)
 refine QaG rfl rfl (es:=(([int .i8 r28.1.Qac,int .i8 r28.1.Qae,v29]:List Value))) rfl rfl (fun _=>rfl) (n:=3) (fun _=>rfl) rfl (cells_all (hs.cells 0 rfl)) (g_d rfl ?_)
 try dsimp only [Qai,Qaj]
 obtain ⟨r33,Hr33,H⟩:=bind_get H
 refine Qas (args:=[agg (([int .i8 x21,int .i8 x22,v23]:List Value)).toArray,agg (([int .i8 r28.1.Qac,int .i8 r28.1.Qae,v29]:List Value)).toArray]) rfl rfl (Qat rfl (callFunc_enter Tryz.func9 rfl rfl) rfl) (Qbb.calls (a1:=(⟨x21,x22,x24⟩:Qag)) (a4:=(⟨r28.1.Qac,r28.1.Qae,r28.1.Qah⟩:Qag)) (hs.row 4 rfl) (hs.row 1 rfl) Hr33) ?_
 rintro _ w ⟨rfl,hs2⟩
 have hs:St _ [_,_,_,_,_] _:=hs.call hs2
 refine g_d rfl ?_
 refine Qaa (v:=bool (!r33)) rfl rfl rfl (g_d rfl ?_)
 try dsimp only [Qai,Qaj]
 refine QaA (B:=!r33) rfl rfl rfl ?_ ?_
 ·
  intro hb
  rw [if_neg (b_not_t hb)] at H
  refine g_d rfl ?_
  refine Qaa (v:=bool true) rfl rfl rfl (g_d rfl (Qad rfl rfl (g_d rfl (Qad rfl rfl (g_d rfl (Qad rfl rfl (g_d rfl ?_)))))))
  try dsimp only [Qai,Qaj]
  refine Qaa (v:=bool true) rfl rfl rfl (g_d rfl ?_)
  refine Qaa (v:=bool true) rfl rfl rfl (g_d rfl (Qad rfl rfl (g_d rfl (Qad rfl rfl (g_d rfl (Qad rfl rfl (g_d rfl ?_)))))))
  try dsimp only [Qai,Qaj]
  refine Qaa (v:=bool true) rfl rfl rfl (g_d rfl (Qab (Qam rfl (Qaf (Qak [0] rfl ?_)))))
  refine Qaa (v:=bool false) rfl rfl rfl (g_d rfl ?_)
  try dsimp only [Qai,Qaj]
  refine Qab ?_
  obtain rfl:=QsJ H
  refine Qax Tryz.func3 (v:=bool false) (res1 rfl rfl) ?_
  have hs:St _ [] _:=St.take (Γ':=[_,_,_,_,_]) hs
  exact ⟨_,rfl,rfl,hs⟩
 intro hb
 rw [if_pos (b_not_f hb)] at H
 refine g_d rfl ?_
 refine Qaa (v:=bool false) rfl rfl rfl (g_d rfl ?_)
 refine Qaa (v:=int .i64 x26) rfl rfl rfl (g_d rfl ?_)
 refine Qaa (v:=int .i64 r28.2.1) rfl rfl rfl (g_d rfl ?_)
 refine Qaa (v:=bool (x26 !=r28.2.1)) rfl rfl rfl (g_d rfl ?_)
 try dsimp only [Qai,Qaj]
 refine QaA (B:=x26 !=r28.2.1) rfl rfl rfl ?_ ?_
 ·
  intro hb
  rw [if_neg (b_bne_t hb)] at H
  refine g_d rfl ?_
  refine Qaa (v:=bool true) rfl rfl rfl (g_d rfl (Qad rfl rfl (g_d rfl (Qad rfl rfl (g_d rfl (Qad rfl rfl (g_d rfl ?_)))))))
  try dsimp only [Qai,Qaj]
  refine Qaa (v:=bool true) rfl rfl rfl (g_d rfl (Qab (Qam rfl (Qaf (Qak [0] rfl ?_)))))
  refine Qaa (v:=bool false) rfl rfl rfl (g_d rfl ?_)
  try dsimp only [Qai,Qaj]
  refine Qab ?_
  obtain rfl:=QsJ H
  refine Qax Tryz.func3 (v:=bool false) (res1 rfl rfl) ?_
  have hs:St _ [] _:=St.take (Γ':=[_,_,_,_,_]) hs
  exact ⟨_,rfl,rfl,hs⟩
 intro hb
 rw [if_pos (b_bne_f hb)] at H
 refine g_d rfl ?_
 refine Qaa (v:=bool false) rfl rfl rfl (g_d rfl ?_)
 refine Qaa (v:=int .i64 r28.2.1) rfl rfl rfl (g_d rfl ?_)
 refine Qaa (v:=int .i64 x10) rfl rfl rfl (g_d rfl ?_)
 refine QaA (B:=r28.2.1 !=x10) rfl rfl rfl ?_ ?_
 ·
  intro hb
  rw [if_neg (b_bne_t hb)] at H
  refine g_d rfl ?_
  try dsimp only [Qai,Qaj]
  refine Qaa (v:=bool true) rfl rfl rfl (g_d rfl (Qab (Qam rfl (Qaf (Qak [0] rfl ?_)))))
  refine Qaa (v:=bool false) rfl rfl rfl (g_d rfl ?_)
  try dsimp only [Qai,Qaj]
  refine Qab ?_
  obtain rfl:=QsJ H
  refine Qax Tryz.func3 (v:=bool false) (res1 rfl rfl) ?_
  have hs:St _ [] _:=St.take (Γ':=[_,_,_,_,_]) hs
  exact ⟨_,rfl,rfl,hs⟩
 intro hb
 rw [if_pos (b_bne_f hb)] at H
 refine g_d rfl ?_
 try dsimp only [Qai,Qaj]
 refine Qaa (v:=bool false) rfl rfl rfl (g_d rfl (Qab (Qap rfl (QaE ?_))))
 have hs:=hs.pull 1 rfl
 have hs:=hs.pull 1 rfl
 have hs:St _ [_,_] _:=St.take (Γ':=[_,_,_]) hs
 exact ha _ _ ⟨H,rfl,hs⟩
theorem Qal.seg13 {N : Nat} {a1 : (List Int)} {a3 : (List Int)} {v2 : Value} {v4 : Value} {r8 : Int} {r7 : Int} {w0 : World} {r : Bool} (htab : Lib.TabIs Tryz.prog w0 "internal/strconv.uint64pow10" .u64 Lib.pow10Tab) (hmax : CellI w0 0) (hsyn : CellE w0 2) (hrng : CellE w0 3) (hdbr : CellU w0 7 15 4) (hr0 : RdRow (K.int .u8) w0 v2 a1) (hr1 : RdRow (K.int .u8) w0 v4 a3) :
 ∀ t w,(fun t w=>∃ x10:Int,Qal.j0 N a1 r8 r7 a3 x10=some r∧Fr t (fun O=>(v2::v4::O 2::O 3::O 4::int .i64 (i64w (1+r7))::int .i64 r8::int .i64 x10::O 8::O 9::oT O 1 (oT O 2 (oT O 3 (oT O 4 (oT O 5 (oT O 6 (oT O 7 (oT O 8 (oT O 9 (oT O 10 (oT O 11 (oT O 12 (oT O 13 (oT O 14 (oT O 15 (oT O 16 (oT O 17 (oT O 18 (oT O 19 (oT O 20 (oT O 21 (oT O 22 (oT O 23 (oT O 24 (oT O 25 (oT O 26 (oT O 27 (oT O 28 (oT O 29 (oT O 30 (oT O 31 (oT O 32 (oT O 33 (oT O 34 (oT O 35 (oT O 36 (oT O 37 (oT O 38 (oT O 39 (oT O 40 (oT O 41 (oT O 42 (O 430::O 431::O 432::O 433::O 434::O 435::[])))))))))))))))))))))))))))))))))))))))))):List Value))∧St w0 [] w) t w→G Tryz.prog 3 (fun e w=>∃ v,e= .returned v∧Qal.post w0 r v w) [.code (Code.at_ (Tryz.f3.body.getD .skip) [1,1,1,1,1])] t w:=by
 rintro t w ⟨x10,H,hf,hs⟩
 obtain ⟨O,rfl⟩:=hf.open
 try dsimp only [oT]
 unfold Qal.j0 at H
 refine Qaf (Qak [0,1,2,3] rfl ?_)
 refine Qaa (v:=v2) rfl rfl rfl (g_d rfl ?_)
 refine Qaa (v:=int .i64 r8) rfl rfl rfl (g_d rfl ?_)
 obtain ⟨r11,Hr11,H⟩:=bind_get H
 refine Qas (args:=[v2,int .i64 r8]) rfl rfl (Qat rfl (callFunc_enter Tryz.func6 rfl rfl) rfl) (Qbi.calls (a1:=a1) (a3:=r8) (hs.rd hr0) Hr11) ?_
 intro v12 w hs2
 have hs:St _ [_] _:=hs.call hs2
 refine g_d rfl ?_
 try dsimp only [Qai,Qaj]
 refine Qaa (v:=v12) rfl rfl rfl (g_d rfl (Qab (Qaf ?_)))
 refine Qcp (J:=(fun t w=>∃ b20:Nat,∃ x21:Int,∃ x22:Int,∃ v23:Value,∃ x24:(List Qav),∃ x26:Int,∃ x27:Int,Qal.j1 N r7 r8 x10 r11 a3 x21 x22 x24 x26 x27=some r∧Fr t (fun O=>(O 0::v4::O 2::O 3::O 4::int .i64 (i64w (1+r7))::int .i64 r8::int .i64 x10::v12::pointer (some ⟨b20,0,none⟩)::int .i64 x26::int .i64 x27::O 12::O 13::O 14::O 15::O 16::O 17::O 18::O 19::oT O 2 (oT O 3 (oT O 4 (oT O 5 (oT O 6 (oT O 7 (oT O 8 (oT O 9 (oT O 10 (oT O 11 (oT O 12 (oT O 13 (oT O 14 (oT O 15 (oT O 16 (oT O 17 (oT O 18 (oT O 19 (oT O 20 (oT O 21 (oT O 22 (oT O 23 (oT O 24 (oT O 25 (oT O 26 (oT O 27 (oT O 28 (oT O 29 (oT O 30 (oT O 31 (oT O 32 (oT O 33 (oT O 34 (oT O 35 (oT O 36 (oT O 37 (oT O 38 (oT O 39 (oT O 40 (oT O 41 (oT O 42 (O 430::O 431::O 432::O 433::O 434::O 435::[]))))))))))))))))))))))))))))))))))))))))):List Value))∧St w0 [Row 4 K.bool v12 r11,Cells b20 (([int .i8 x21,int .i8 x22,v23]:List Value)) 30,Row 61 Qao v23 x24] w)) ?_ ?_
 ·exact Qal.seg12 htab hmax hsyn hrng hdbr hr0 hr1
 intro ha
 refine Qak [0,1,2,3,4,5,6,7,8,9,10,11,12] rfl ?_
 refine Qaa (v:=int .i64 (i64w (1+r7))) rfl rfl rfl (g_d rfl ?_)
 refine Qaa (v:=int .i64 r8) rfl rfl rfl (g_d rfl ?_)
 refine Qaa (v:=int .i64 x10) rfl rfl rfl (g_d rfl ?_)
 refine Qaa (v:=v12) rfl rfl rfl (g_d rfl ?_)
 obtain ⟨r14,Hr14,H⟩:=bind_get H
 refine Qas (args:=[int .i64 (i64w (1+r7)),int .i64 r8,int .i64 x10,v12]) rfl rfl (Qat rfl (callFunc_enter Tryz.func7 rfl rfl) rfl) (QaP.calls (a1:=i64w (1+r7)) (a2:=r8) (a3:=x10) (a4:=r11) (hs.row 0 rfl) Hr14) ?_
 rintro _ w ⟨v15,rfl,hs2⟩
 have hs:St _ [_,_] _:=hs.call hs2
 refine g_d rfl ?_
 try dsimp only [Qai,Qaj]
 refine Qaa (v:=tuple #[agg (([int .i8 r14.1.Qac,int .i8 r14.1.Qae,v15]:List Value)).toArray,int .i64 r14.2.1,int .i64 r14.2.2]) rfl rfl rfl (g_d rfl ?_)
 refine Qaa (v:=agg (([int .i8 r14.1.Qac,int .i8 r14.1.Qae,v15]:List Value)).toArray) rfl rfl rfl (g_d rfl ?_)
 refine Qaa (v:=int .i64 r14.2.1) rfl rfl rfl (g_d rfl ?_)
 refine Qaa (v:=int .i64 r14.2.2) rfl rfl rfl (g_d rfl ?_)
 refine Qa5 hs rfl rfl (z:=(agg #[int .i8 0,int .i8 0,slice none 0 0])) (cs:=(([int .i8 0,int .i8 0,slice none 0 0]:List Value))) rfl (fun _=>rfl) rfl ?_
 intro b17 w hs
 refine g_d rfl ?_
 refine QaB (n:=3) hs rfl rfl rfl (vs:=(([int .i8 r14.1.Qac,int .i8 r14.1.Qae,v15]:List Value))) rfl rfl rfl (fun _=>rfl) rfl (by intro v hv;simp only [List.mem_append,List.mem_cons,List.not_mem_nil,or_false] at hv;repeat (first|(subst hv;first|rfl|exact slOne (hs.row 1 rfl))|(rcases hv with hv|hv))) ?_
 intro w hs
 refine g_n rfl ?_
 refine Qaa (v:=int .i64 r14.2.1) rfl rfl rfl (g_d rfl ?_)
 try dsimp only [Qai,Qaj]
 refine Qaa (v:=int .i64 r14.2.2) rfl rfl rfl (g_d rfl (Qab ?_))
 have hs:=hs.pull 1 rfl
 have hs:=hs.pull 1 rfl
 have hs:=hs.pull 2 rfl
 have hs:St _ [_,_,_] _:=St.take (Γ':=[]) hs
 exact ha _ _ ⟨b17,r14.1.Qac,r14.1.Qae,v15,r14.1.Qah,r14.2.1,r14.2.2,H,rfl,hs⟩
theorem Qal.calls {N : Nat} {a1 : (List Int)} {a3 : (List Int)} {v2 : Value} {v4 : Value} {w0 : World} {r : Bool} (htab : Lib.TabIs Tryz.prog w0 "internal/strconv.uint64pow10" .u64 Lib.pow10Tab) (hmax : CellI w0 0) (hsyn : CellE w0 2) (hrng : CellE w0 3) (hdbr : CellU w0 7 15 4) (hr0 : RdRow (K.int .u8) w0 v2 a1) (hr1 : RdRow (K.int .u8) w0 v4 a3) (H : Qal.f N a1 a3 = some r) :
 Calls Tryz.prog 3 #[v2,v4] w0 fun e w=>∃ v,e= .returned v∧Qal.post w0 r v w:=by
 unfold Qal.f at H
 have hs:St w0 [] w0:=St.refl w0
 refine calls_of_g (n:=434) Tryz.func3 rfl rfl ?_
 show G _ _ _ _ (_::_::_::_::_::_::_::_::_::_::_::_::_::_::_::_::_::_::_::_::_::_::_::_::_::_::_::_::_::_::_::_::_::_::_::_::_::_::_::_::_::_::_::_::_::_::_::_::_::_::_::_::_::_::_::_::_::_::_::_::_::_::_::_::_::_::_::_::_::_::_::_::_::_::_::_::_::_::_::_::_::_::_::_::_::_::_::_::_::_::_::_::_::_::_::_::_::_::_::_::_::_::_::_::_::_::_::_::_::_::_::_::_::_::_::_::_::_::_::_::_::_::_::_::_::_::_::_::_::_::_::_::_::_::_::_::_::_::_::_::_::_::_::_::_::_::_::_::_::_::_::_::_::_::_::_::_::_::_::_::_::_::_::_::_::_::_::_::_::_::_::_::_::_::_::_::_::_::_::_::_::_::_::_::_::_::_::_::_::_::_::_::_::_::_::_::_::_::_::_::_::_::_::_::_::_::_::_::_::_::_::_::_::_::_::_::_::_::_::_::_::_::_::_::_::_::_::_::_::_::_::_::_::_::_::_::_::_::_::_::_::_::_::_::_::_::_::_::_::_::_::_::_::_::_::_::_::_::_::_::_::_::_::_::_::_::_::_::_::_::_::_::_::_::_::_::_::_::_::_::_::_::_::_::_::_::_::_::_::_::_::_::_::_::_::_::_::_::_::_::_::_::_::_::_::_::_::_::_::_::_::_::_::_::_::_::_::_::_::_::_::_::_::_::_::_::_::_::_::_::_::_::_::_::_::_::_::_::_::_::_::_::_::_::_::_::_::_::_::_::_::_::_::_::_::_::_::_::_::_::_::_::_::_::_::_::_::_::_::_::_::_::_::_::_::_::_::_::_::_::_::_::_::_::_::_::_::_::_::_::_::_::_::_::_::_::_::_::_::_::_::_::_::_::_::_::_::_::_::_::_::_::_::_::_::_::_::_::_::_::_::_::_::_::_::_::_::_::_::_::_::_::_::_::_::_::[]) _
 refine Qaf (Qak [0] rfl ?_)
 refine Qaa (v:=bool false) rfl rfl rfl (g_d rfl (Qab (Qaf (Qaf (Qak [0,1,2,3,4,5] rfl ?_)))))
 refine Qaa (v:=v2) rfl rfl rfl (g_d rfl ?_)
 obtain ⟨r5,Hr5,H⟩:=bind_get H
 refine Qas (args:=[v2]) rfl rfl (Qat rfl (callFunc_enter Tryz.func4 rfl rfl) rfl) (Qcg.calls (a1:=a1) (hs.rd hr0) Hr5) ?_
 rintro _ w ⟨rfl,hs2⟩
 have hs:St _ [] _:=hs.call hs2
 cases r5 with
 |true=>
  rw [if_pos rfl] at H
  refine g_d rfl ?_
  refine Qaa (v:=bool true) rfl rfl rfl (g_d rfl (Qad rfl rfl (g_d rfl (Qad rfl rfl (g_d rfl ?_)))))
  try dsimp only [Qai,Qaj]
  refine Qaa (v:=bool true) rfl rfl rfl (g_d rfl (Qab (Qam rfl (Qaf (Qak [0] rfl ?_)))))
  refine Qaa (v:=bool true) rfl rfl rfl (g_d rfl ?_)
  try dsimp only [Qai,Qaj]
  refine Qab ?_
  obtain rfl:=QsJ H
  refine Qax Tryz.func3 (v:=bool true) (res1 rfl rfl) ?_
  have hs:St _ [] _:=St.take (Γ':=[]) hs
  exact ⟨_,rfl,rfl,hs⟩
 |false=>
  rw [if_neg Bool.false_ne_true] at H
  refine g_d rfl ?_
  try dsimp only [Qai,Qaj]
  refine Qaa (v:=bool false) rfl rfl rfl (g_d rfl ?_)
  refine Qaa (v:=v4) rfl rfl rfl (g_d rfl ?_)
  obtain ⟨r6,Hr6,H⟩:=bind_get H
  refine Qas (args:=[v4]) rfl rfl (Qat rfl (callFunc_enter Tryz.func4 rfl rfl) rfl) (Qcg.calls (a1:=a3) (hs.rd hr1) Hr6) ?_
  rintro _ w ⟨rfl,hs2⟩
  have hs:St _ [] _:=hs.call hs2
  cases r6 with
  |true=>
   rw [if_pos rfl] at H
   refine g_d rfl ?_
   try dsimp only [Qai,Qaj]
   refine Qaa (v:=bool true) rfl rfl rfl (g_d rfl (Qab (Qam rfl (Qaf (Qak [0] rfl ?_)))))
   refine Qaa (v:=bool true) rfl rfl rfl (g_d rfl ?_)
   try dsimp only [Qai,Qaj]
   refine Qab ?_
   obtain rfl:=QsJ H
   refine Qax Tryz.func3 (v:=bool true) (res1 rfl rfl) ?_
   have hs:St _ [] _:=St.take (Γ':=[]) hs
   exact ⟨_,rfl,rfl,hs⟩
  |false=>
   rw [if_neg Bool.false_ne_true] at H
   refine g_d rfl ?_
   refine Qaa (v:=bool false) rfl rfl rfl (g_d rfl ?_)
   try dsimp only [Qai,Qaj]
   refine Qab (Qap rfl (QaE (Qaf (Qak [0,1,2,3] rfl ?_))))
   refine Qaa (v:=v2) rfl rfl rfl (g_d rfl ?_)
   obtain ⟨r7,Hr7,H⟩:=bind_get H
   refine Qas (args:=[v2,int .i64 20]) rfl rfl (Qat rfl (callFunc_enter Tryz.func5 rfl rfl) rfl) (QbW.calls (a1:=a1) (a3:=20) (hs.rd hr0) Hr7) ?_
   rintro _ w ⟨rfl,hs2⟩
   have hs:St _ [] _:=hs.call hs2
   refine g_d rfl ?_
   refine Qaa (v:=int .i64 (i64w (1+r7))) rfl rfl rfl (g_d rfl ?_)
   try dsimp only [Qai,Qaj]
   refine Qaa (v:=int .i64 (i64w (1+r7))) rfl rfl rfl (g_d rfl (Qab (Qaf (Qak [0,1,2] rfl ?_))))
   refine Qaa (v:=v4) rfl rfl rfl (g_d rfl ?_)
   obtain ⟨r8,Hr8,H⟩:=bind_get H
   refine Qas (args:=[v4,int .i64 4]) rfl rfl (Qat rfl (callFunc_enter Tryz.func5 rfl rfl) rfl) (QbW.calls (a1:=a3) (a3:=4) (hs.rd hr1) Hr8) ?_
   rintro _ w ⟨rfl,hs2⟩
   have hs:St _ [] _:=hs.call hs2
   refine g_d rfl ?_
   try dsimp only [Qai,Qaj]
   refine Qaa (v:=int .i64 r8) rfl rfl rfl (g_d rfl (Qab (Qaf ?_)))
   refine Qcp (J:=(fun t w=>∃ x10:Int,Qal.j0 N a1 r8 r7 a3 x10=some r∧Fr t (fun O=>(v2::v4::O 2::O 3::O 4::int .i64 (i64w (1+r7))::int .i64 r8::int .i64 x10::O 8::O 9::oT O 1 (oT O 2 (oT O 3 (oT O 4 (oT O 5 (oT O 6 (oT O 7 (oT O 8 (oT O 9 (oT O 10 (oT O 11 (oT O 12 (oT O 13 (oT O 14 (oT O 15 (oT O 16 (oT O 17 (oT O 18 (oT O 19 (oT O 20 (oT O 21 (oT O 22 (oT O 23 (oT O 24 (oT O 25 (oT O 26 (oT O 27 (oT O 28 (oT O 29 (oT O 30 (oT O 31 (oT O 32 (oT O 33 (oT O 34 (oT O 35 (oT O 36 (oT O 37 (oT O 38 (oT O 39 (oT O 40 (oT O 41 (oT O 42 (O 430::O 431::O 432::O 433::O 434::O 435::[])))))))))))))))))))))))))))))))))))))))))):List Value))∧St w0 [] w)) ?_ ?_
   ·exact Qal.seg13 htab hmax hsyn hrng hdbr hr0 hr1
   intro ha
   refine Qak [0,1,2,3] rfl ?_
   refine Qaa (v:=v4) rfl rfl rfl (g_d rfl ?_)
   refine Qaa (v:=int .i64 (i64w (1+r7))) rfl rfl rfl (g_d rfl ?_)
   obtain ⟨r9,Hr9,H⟩:=bind_get H
   refine Qas (args:=[v4,int .i64 (i64w (1+r7))]) rfl rfl (Qat rfl (callFunc_enter Tryz.func5 rfl rfl) rfl) (QbW.calls (a1:=a3) (a3:=i64w (1+r7)) (hs.rd hr1) Hr9) ?_
   rintro _ w ⟨rfl,hs2⟩
   have hs:St _ [] _:=hs.call hs2
   refine g_d rfl ?_
   try dsimp only [Qai,Qaj]
   refine Qaa (v:=int .i64 r9) rfl rfl rfl (g_d rfl (Qab ?_))
   have hs:St _ [] _:=St.take (Γ':=[]) hs
   exact ha _ _ ⟨r9,H,rfl,hs⟩
end Go.Proofs.YtdnipilfcjkfoaaGreatDoorX
