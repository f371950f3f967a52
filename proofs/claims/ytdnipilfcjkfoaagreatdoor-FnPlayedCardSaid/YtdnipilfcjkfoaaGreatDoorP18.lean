import Derived.Test.YtdnipilfcjkfoaaGreatDoorP17
namespace Go.Proofs.YtdnipilfcjkfoaaGreatDoorX
open Go Go.RowKit Go.Proofs
open Go.Value (int pointer bool agg slice string tuple)
set_option maxHeartbeats 8000000
set_option maxRecDepth 100000
set_option linter.unusedVariables false
set_option linter.unusedSimpArgs false
theorem Qal.seg4 {N : Nat} {a1 : (List Int)} {a3 : (List Int)} {v2 : Value} {v4 : Value} {r58 : Qag} {r63 : ((List Int) × Int)} {x74 : Int} {x72 : (List Int)} {r75 : ((Ar Int 4) × Int)} {x86 : Int} {x85 : (Ar Int 4)} {r87 : (Int × Int)} {b61 : Nat} {v64 : Value} {v71 : Value} {b76 : Nat} {b84 : Nat} {v59 : Value} {w0 : World} {r : Bool} (htab : Lib.TabIs Tryz.prog w0 "internal/strconv.uint64pow10" .u64 Lib.pow10Tab) (hmax : CellI w0 0) (hsyn : CellE w0 2) (hrng : CellE w0 3) (hdbr : CellU w0 7 15 4) (hr0 : RdRow (K.int .u8) w0 v2 a1) (hr1 : RdRow (K.int .u8) w0 v4 a3) :
 ∀ t w,(fun t w=>∃ b94:Nat,∃ x95:(Ar Int 4),∃ x96:Int,Qal.j9 N r58 r63 x74 x72 r75 x86 x85 r87 x95 x96=some r∧Fr t (fun O=>(oT O 0 (oT O 1 (O 20::O 21::O 22::O 23::O 24::pointer (some ⟨b61,0,none⟩)::v64::int .i64 r63.2::v71::int .i64 x74::pointer (some ⟨b76,0,none⟩)::int .i64 r75.2::pointer (some ⟨b84,0,none⟩)::int .i64 x86::int .u64 r87.1::int .i64 r87.2::pointer (some ⟨b94,0,none⟩)::int .i64 x96::O 38::O 39::oT O 4 (oT O 5 (oT O 6 (oT O 7 (oT O 8 (oT O 9 (oT O 10 (oT O 11 (oT O 12 (oT O 13 (oT O 14 (oT O 15 (oT O 16 (oT O 17 (oT O 18 (oT O 19 (oT O 20 (oT O 21 (oT O 22 (oT O 23 (oT O 24 (oT O 25 (oT O 26 (oT O 27 (oT O 28 (oT O 29 (oT O 30 (oT O 31 (oT O 32 (oT O 33 (oT O 34 (oT O 35 (oT O 36 (oT O 37 (oT O 38 (oT O 39 (oT O 40 (oT O 41 (oT O 42 (O 430::O 431::O 432::O 433::O 434::O 435::[]))))))))))))))))))))))))))))))))))))))))):List Value))∧St w0 [Cells b61 (([int .i8 r58.Qac,int .i8 r58.Qae,v59]:List Value)) 30,Row 61 Qao v59 r58.Qah,Row 2 (K.int .i64) v64 r63.1,Row 2 (K.int .i64) v71 x72,Cells b76 ((encA (encI .i64)) r75.1) 47,Cells b84 ((encA (encI .i64)) x85) 47,Cells b94 ((encA (encI .i64)) x95) 47] w) t w→G Tryz.prog 3 (fun e w=>∃ v,e= .returned v∧Qal.post w0 r v w) [.code (Code.at_ (Tryz.f3.body.getD .skip) [1,1,1,1,1,1,1,1,1,1,1,1,1,1,1,1,1,1,1,1,1,1])] t w:=by
 rintro t w ⟨b94,x95,x96,H,hf,hs⟩
 obtain ⟨O,rfl⟩:=hf.open
 try dsimp only [oT]
 unfold Qal.j9 at H
 refine Qaf (Qak [0,1,2,3,4,5,6,7] rfl ?_)
 refine QaG rfl rfl (es:=(([int .i8 r58.Qac,int .i8 r58.Qae,v59]:List Value))) rfl rfl (fun _=>rfl) (n:=3) (fun _=>rfl) rfl (cells_all (hs.cells 0 rfl)) (g_d rfl ?_)
 refine QaG rfl rfl (es:=((encA (encI .i64)) x95)) rfl rfl (fun _=>rfl) (n:=4) (fun _=>rfl) ((fkA (n:=4) (he:=(fkI .i64).len) (h1:=(fkI .i64).one)).len _) (cells_all (hs.cells 6 rfl)) (g_d rfl ?_)
 try dsimp only [Qai,Qaj]
 obtain ⟨r97,Hr97,H⟩:=bind_get H
 refine Qas (args:=[agg (([int .i8 r58.Qac,int .i8 r58.Qae,v59]:List Value)).toArray,agg ((encA (encI .i64)) x95).toArray]) rfl rfl (Qat rfl (callFunc_enter Tryz.func24 rfl rfl) rfl) (Qcf.calls (a1:=(⟨r58.Qac,r58.Qae,r58.Qah⟩:Qag)) (a4:=x95) (hs.row 1 rfl) Hr97) ?_
 rintro _ w ⟨rfl,hs2⟩
 have hs:St _ [_,_,_,_,_,_,_] _:=hs.call hs2
 refine g_d rfl ?_
 refine Qaa (v:=tuple #[int .u64 r97.1,int .i64 r97.2]) rfl rfl rfl (g_d rfl ?_)
 refine Qaa (v:=int .u64 r97.1) rfl rfl rfl (g_d rfl ?_)
 refine Qaa (v:=int .i64 r97.2) rfl rfl rfl (g_d rfl ?_)
 refine Qaa (v:=int .u64 r97.1) rfl rfl rfl (g_d rfl ?_)
 try dsimp only [Qai,Qaj]
 refine Qaa (v:=int .i64 r97.2) rfl rfl rfl (g_d rfl (Qab (Qaf (Qaf ?_))))
 refine Qcq (J:=(fun t w=>Qal.j10 N r58 x72 r87 x85 x95=some r∧Fr t (fun O=>(oT O 0 (oT O 1 (O 20::O 21::O 22::O 23::O 24::pointer (some ⟨b61,0,none⟩)::O 26::O 27::v71::O 29::O 30::O 31::pointer (some ⟨b84,0,none⟩)::O 33::int .u64 r87.1::O 35::pointer (some ⟨b94,0,none⟩)::O 37::O 38::O 39::oT O 4 (oT O 5 (oT O 6 (oT O 7 (oT O 8 (oT O 9 (oT O 10 (oT O 11 (oT O 12 (oT O 13 (oT O 14 (oT O 15 (oT O 16 (oT O 17 (oT O 18 (oT O 19 (oT O 20 (oT O 21 (oT O 22 (oT O 23 (oT O 24 (oT O 25 (oT O 26 (oT O 27 (oT O 28 (oT O 29 (oT O 30 (oT O 31 (oT O 32 (oT O 33 (oT O 34 (oT O 35 (oT O 36 (oT O 37 (oT O 38 (oT O 39 (oT O 40 (oT O 41 (oT O 42 (O 430::O 431::O 432::O 433::O 434::O 435::[]))))))))))))))))))))))))))))))))))))))))):List Value))∧St w0 [Cells b61 (([int .i8 r58.Qac,int .i8 r58.Qae,v59]:List Value)) 30,Row 61 Qao v59 r58.Qah,Row 2 (K.int .i64) v71 x72,Cells b84 ((encA (encI .i64)) x85) 47,Cells b94 ((encA (encI .i64)) x95) 47] w)) ?_ ?_
 ·exact Qal.seg3 htab hmax hsyn hrng hdbr hr0 hr1
 intro ha
 refine Qak [0,1,2,3,4,5,6,7,8,9,10,11,12,13,14,15,16,17,18,19,20,21,22,23,24,25,26,27,28,29,30,31,32,33,34,35,36,37,38,39,40,41,42,43,44,45,46,47,48,49,50,51,52,53,54,55,56,57,58,59] rfl ?_
 refine Qaa (v:=int .i64 r63.2) rfl rfl rfl (g_d rfl ?_)
 refine Qaa (v:=int .i64 x74) rfl rfl rfl (g_d rfl ?_)
 refine QaA (B:=r63.2 !=x74) rfl rfl rfl ?_ ?_
 ·
  intro hb
  rw [if_neg (b_bne_t hb)] at H
  refine g_d rfl ?_
  try dsimp only [Qai,Qaj]
  refine Qaa (v:=bool true) rfl rfl rfl (g_d rfl (Qad rfl rfl (g_d rfl (Qad rfl rfl (g_d rfl ?_)))))
  refine Qaa (v:=bool true) rfl rfl rfl (g_d rfl ?_)
  try dsimp only [Qai,Qaj]
  refine Qaa (v:=bool true) rfl rfl rfl (g_d rfl (Qad rfl rfl (g_d rfl (Qad rfl rfl (g_d rfl (Qad rfl rfl (g_d rfl ?_)))))))
  refine Qad rfl rfl (g_d rfl ?_)
  try dsimp only [Qai,Qaj]
  refine Qaa (v:=bool true) rfl rfl rfl (g_d rfl ?_)
  refine Qaa (v:=bool true) rfl rfl rfl (g_d rfl (Qad rfl rfl (g_d rfl (Qad rfl rfl (g_d rfl (Qad rfl rfl (g_d rfl ?_)))))))
  try dsimp only [Qai,Qaj]
  refine Qaa (v:=bool true) rfl rfl rfl (g_d rfl ?_)
  refine Qaa (v:=bool true) rfl rfl rfl (g_d rfl (Qad rfl rfl (g_d rfl (Qad rfl rfl (g_d rfl ?_)))))
  try dsimp only [Qai,Qaj]
  refine Qaa (v:=bool true) rfl rfl rfl (g_d rfl ?_)
  refine Qaa (v:=bool true) rfl rfl rfl (g_d rfl (Qad rfl rfl (g_d rfl ?_)))
  try dsimp only [Qai,Qaj]
  refine Qad rfl rfl (g_d rfl (Qad rfl rfl (g_d rfl ?_)))
  try dsimp only [Qai,Qaj]
  refine Qaa (v:=bool true) rfl rfl rfl (g_d rfl ?_)
  refine Qaa (v:=bool true) rfl rfl rfl (g_d rfl (Qad rfl rfl (g_d rfl (Qad rfl rfl (g_d rfl ?_)))))
  try dsimp only [Qai,Qaj]
  refine Qaa (v:=bool true) rfl rfl rfl (g_d rfl ?_)
  refine Qaa (v:=bool true) rfl rfl rfl (g_d rfl (Qad rfl rfl (g_d rfl (Qad rfl rfl (g_d rfl ?_)))))
  try dsimp only [Qai,Qaj]
  refine Qaa (v:=bool true) rfl rfl rfl (g_d rfl ?_)
  refine Qaa (v:=bool true) rfl rfl rfl (g_d rfl (Qad rfl rfl (g_d rfl (Qad rfl rfl (g_d rfl ?_)))))
  try dsimp only [Qai,Qaj]
  refine Qaa (v:=bool true) rfl rfl rfl (g_d rfl ?_)
  refine Qaa (v:=bool true) rfl rfl rfl (g_d rfl (Qad rfl rfl (g_d rfl (Qad rfl rfl (g_d rfl (Qad rfl rfl (g_d rfl ?_)))))))
  try dsimp only [Qai,Qaj]
  refine Qaa (v:=bool true) rfl rfl rfl (g_d rfl ?_)
  refine Qaa (v:=bool true) rfl rfl rfl (g_d rfl (Qad rfl rfl (g_d rfl ?_)))
  try dsimp only [Qai,Qaj]
  refine Qad rfl rfl (g_d rfl (Qad rfl rfl (g_d rfl ?_)))
  try dsimp only [Qai,Qaj]
  refine Qad rfl rfl (g_d rfl (Qad rfl rfl (g_d rfl ?_)))
  try dsimp only [Qai,Qaj]
  refine Qad rfl rfl (g_d rfl (Qad rfl rfl (g_d rfl ?_)))
  try dsimp only [Qai,Qaj]
  refine Qad rfl rfl (g_d rfl (Qad rfl rfl (g_d rfl ?_)))
  try dsimp only [Qai,Qaj]
  refine Qad rfl rfl (g_d rfl (Qad rfl rfl (g_d rfl ?_)))
  try dsimp only [Qai,Qaj]
  refine Qad rfl rfl (g_d rfl (Qad rfl rfl (g_d rfl (Qad rfl rfl (g_d rfl ?_)))))
  try dsimp only [Qai,Qaj]
  refine Qaa (v:=bool true) rfl rfl rfl (g_d rfl (Qab (Qam rfl (Qaf (Qak [0] rfl ?_)))))
  refine Qaa (v:=bool false) rfl rfl rfl (g_d rfl ?_)
  try dsimp only [Qai,Qaj]
  refine Qab ?_
  obtain rfl:=QsJ H
  refine Qax Tryz.func3 (v:=bool false) (res1 rfl rfl) ?_
  have hs:St _ [] _:=St.take (Γ':=[_,_,_,_,_,_,_]) hs
  exact ⟨_,rfl,rfl,hs⟩
 intro hb
 rw [if_pos (b_bne_f hb)] at H
 refine g_d rfl ?_
 try dsimp only [Qai,Qaj]
 refine Qaa (v:=bool false) rfl rfl rfl (g_d rfl ?_)
 refine Qaa (v:=int .i64 r63.2) rfl rfl rfl (g_d rfl ?_)
 refine Qaa (v:=bool (r63.2 !=0)) rfl rfl rfl (g_d rfl ?_)
 refine QaA (B:=r63.2 !=0) rfl rfl rfl ?_ ?_
 ·
  intro hb
  rw [if_neg (b_bne_t hb)] at H
  refine g_d rfl ?_
  refine Qaa (v:=bool true) rfl rfl rfl (g_d rfl (Qad rfl rfl (g_d rfl (Qad rfl rfl (g_d rfl (Qad rfl rfl (g_d rfl ?_)))))))
  try dsimp only [Qai,Qaj]
  refine Qad rfl rfl (g_d rfl ?_)
  refine Qaa (v:=bool true) rfl rfl rfl (g_d rfl ?_)
  try dsimp only [Qai,Qaj]
  refine Qaa (v:=bool true) rfl rfl rfl (g_d rfl (Qad rfl rfl (g_d rfl (Qad rfl rfl (g_d rfl (Qad rfl rfl (g_d rfl ?_)))))))
  refine Qaa (v:=bool true) rfl rfl rfl (g_d rfl ?_)
  try dsimp only [Qai,Qaj]
  refine Qaa (v:=bool true) rfl rfl rfl (g_d rfl (Qad rfl rfl (g_d rfl (Qad rfl rfl (g_d rfl ?_)))))
  refine Qaa (v:=bool true) rfl rfl rfl (g_d rfl ?_)
  try dsimp only [Qai,Qaj]
  refine Qaa (v:=bool true) rfl rfl rfl (g_d rfl (Qad rfl rfl (g_d rfl (Qad rfl rfl (g_d rfl ?_)))))
  try dsimp only [Qai,Qaj]
  refine Qad rfl rfl (g_d rfl ?_)
  refine Qaa (v:=bool true) rfl rfl rfl (g_d rfl ?_)
  try dsimp only [Qai,Qaj]
  refine Qaa (v:=bool true) rfl rfl rfl (g_d rfl (Qad rfl rfl (g_d rfl (Qad rfl rfl (g_d rfl ?_)))))
  refine Qaa (v:=bool true) rfl rfl rfl (g_d rfl ?_)
  try dsimp only [Qai,Qaj]
  refine Qaa (v:=bool true) rfl rfl rfl (g_d rfl (Qad rfl rfl (g_d rfl (Qad rfl rfl (g_d rfl ?_)))))
  refine Qaa (v:=bool true) rfl rfl rfl (g_d rfl ?_)
  try dsimp only [Qai,Qaj]
  refine Qaa (v:=bool true) rfl rfl rfl (g_d rfl (Qad rfl rfl (g_d rfl (Qad rfl rfl (g_d rfl ?_)))))
  refine Qaa (v:=bool true) rfl rfl rfl (g_d rfl ?_)
  try dsimp only [Qai,Qaj]
  refine Qaa (v:=bool true) rfl rfl rfl (g_d rfl (Qad rfl rfl (g_d rfl (Qad rfl rfl (g_d rfl (Qad rfl rfl (g_d rfl ?_)))))))
  refine Qaa (v:=bool true) rfl rfl rfl (g_d rfl ?_)
  try dsimp only [Qai,Qaj]
  refine Qaa (v:=bool true) rfl rfl rfl (g_d rfl (Qad rfl rfl (g_d rfl (Qad rfl rfl (g_d rfl ?_)))))
  try dsimp only [Qai,Qaj]
  refine Qad rfl rfl (g_d rfl (Qad rfl rfl (g_d rfl ?_)))
  try dsimp only [Qai,Qaj]
  refine Qad rfl rfl (g_d rfl (Qad rfl rfl (g_d rfl ?_)))
  try dsimp only [Qai,Qaj]
  refine Qad rfl rfl (g_d rfl (Qad rfl rfl (g_d rfl ?_)))
  try dsimp only [Qai,Qaj]
  refine Qad rfl rfl (g_d rfl (Qad rfl rfl (g_d rfl ?_)))
  try dsimp only [Qai,Qaj]
  refine Qad rfl rfl (g_d rfl (Qad rfl rfl (g_d rfl (Qad rfl rfl (g_d rfl ?_)))))
  try dsimp only [Qai,Qaj]
  refine Qad rfl rfl (g_d rfl ?_)
  refine Qaa (v:=bool true) rfl rfl rfl (g_d rfl ?_)
  try dsimp only [Qai,Qaj]
  refine Qab (Qam rfl (Qaf (Qak [0] rfl ?_)))
  refine Qaa (v:=bool false) rfl rfl rfl (g_d rfl (Qab ?_))
  obtain rfl:=QsJ H
  refine Qax Tryz.func3 (v:=bool false) (res1 rfl rfl) ?_
  have hs:St _ [] _:=St.take (Γ':=[_,_,_,_,_,_,_]) hs
  exact ⟨_,rfl,rfl,hs⟩
 intro hb
 rw [if_pos (b_bne_f hb)] at H
 refine g_d rfl ?_
 try dsimp only [Qai,Qaj]
 refine Qaa (v:=bool false) rfl rfl rfl (g_d rfl ?_)
 refine Qaa (v:=v64) rfl rfl rfl (g_d rfl ?_)
 refine Qaa (v:=v71) rfl rfl rfl (g_d rfl ?_)
 obtain ⟨r98,Hr98,H⟩:=bind_get H
 refine Qas (args:=[v64,v71]) rfl rfl (Qat rfl (callFunc_enter Tryz.func25 rfl rfl) rfl) (QbS.calls (a1:=r63.1) (a3:=x72) (hs.row 2 rfl) (hs.row 3 rfl) Hr98) ?_
 rintro _ w ⟨rfl,hs2⟩
 have hs:St _ [_,_,_,_,_,_,_] _:=hs.call hs2
 refine g_d rfl ?_
 refine Qaa (v:=bool (!r98)) rfl rfl rfl (g_d rfl ?_)
 try dsimp only [Qai,Qaj]
 refine QaA (B:=!r98) rfl rfl rfl ?_ ?_
 ·
  intro hb
  rw [if_neg (b_not_t hb)] at H
  refine g_d rfl ?_
  refine Qaa (v:=bool true) rfl rfl rfl (g_d rfl (Qad rfl rfl (g_d rfl (Qad rfl rfl (g_d rfl (Qad rfl rfl (g_d rfl ?_)))))))
  try dsimp only [Qai,Qaj]
  refine Qaa (v:=bool true) rfl rfl rfl (g_d rfl ?_)
  refine Qaa (v:=bool true) rfl rfl rfl (g_d rfl (Qad rfl rfl (g_d rfl (Qad rfl rfl (g_d rfl ?_)))))
  try dsimp only [Qai,Qaj]
  refine Qaa (v:=bool true) rfl rfl rfl (g_d rfl ?_)
  refine Qaa (v:=bool true) rfl rfl rfl (g_d rfl (Qad rfl rfl (g_d rfl ?_)))
  try dsimp only [Qai,Qaj]
  refine Qad rfl rfl (g_d rfl (Qad rfl rfl (g_d rfl ?_)))
  try dsimp only [Qai,Qaj]
  refine Qaa (v:=bool true) rfl rfl rfl (g_d rfl ?_)
  refine Qaa (v:=bool true) rfl rfl rfl (g_d rfl (Qad rfl rfl (g_d rfl (Qad rfl rfl (g_d rfl ?_)))))
  try dsimp only [Qai,Qaj]
  refine Qaa (v:=bool true) rfl rfl rfl (g_d rfl ?_)
  refine Qaa (v:=bool true) rfl rfl rfl (g_d rfl (Qad rfl rfl (g_d rfl (Qad rfl rfl (g_d rfl ?_)))))
  try dsimp only [Qai,Qaj]
  refine Qaa (v:=bool true) rfl rfl rfl (g_d rfl ?_)
  refine Qaa (v:=bool true) rfl rfl rfl (g_d rfl (Qad rfl rfl (g_d rfl (Qad rfl rfl (g_d rfl ?_)))))
  try dsimp only [Qai,Qaj]
  refine Qaa (v:=bool true) rfl rfl rfl (g_d rfl ?_)
  refine Qaa (v:=bool true) rfl rfl rfl (g_d rfl (Qad rfl rfl (g_d rfl (Qad rfl rfl (g_d rfl (Qad rfl rfl (g_d rfl ?_)))))))
  try dsimp only [Qai,Qaj]
  refine Qaa (v:=bool true) rfl rfl rfl (g_d rfl ?_)
  refine Qaa (v:=bool true) rfl rfl rfl (g_d rfl (Qad rfl rfl (g_d rfl ?_)))
  try dsimp only [Qai,Qaj]
  refine Qad rfl rfl (g_d rfl (Qad rfl rfl (g_d rfl ?_)))
  try dsimp only [Qai,Qaj]
  refine Qad rfl rfl (g_d rfl (Qad rfl rfl (g_d rfl ?_)))
  try dsimp only [Qai,Qaj]
  refine Qad rfl rfl (g_d rfl (Qad rfl rfl (g_d rfl ?_)))
  try dsimp only [Qai,Qaj]
  refine Qad rfl rfl (g_d rfl (Qad rfl rfl (g_d rfl ?_)))
  try dsimp only [Qai,Qaj]
  refine Qad rfl rfl (g_d rfl (Qad rfl rfl (g_d rfl ?_)))
  try dsimp only [Qai,Qaj]
  refine Qad rfl rfl (g_d rfl (Qad rfl rfl (g_d rfl (Qad rfl rfl (g_d rfl ?_)))))
  try dsimp only [Qai,Qaj]
  refine Qaa (v:=bool true) rfl rfl rfl (g_d rfl (Qab (Qam rfl (Qaf (Qak [0] rfl ?_)))))
  refine Qaa (v:=bool false) rfl rfl rfl (g_d rfl ?_)
  try dsimp only [Qai,Qaj]
  refine Qab ?_
  obtain rfl:=QsJ H
  refine Qax Tryz.func3 (v:=bool false) (res1 rfl rfl) ?_
  have hs:St _ [] _:=St.take (Γ':=[_,_,_,_,_,_,_]) hs
  exact ⟨_,rfl,rfl,hs⟩
 intro hb
 rw [if_pos (b_not_f hb)] at H
 refine g_d rfl ?_
 refine Qaa (v:=bool false) rfl rfl rfl (g_d rfl ?_)
 refine Qaa (v:=int .i64 r75.2) rfl rfl rfl (g_d rfl ?_)
 refine Qaa (v:=int .i64 x86) rfl rfl rfl (g_d rfl ?_)
 refine Qaa (v:=bool (r75.2 !=x86)) rfl rfl rfl (g_d rfl ?_)
 try dsimp only [Qai,Qaj]
 refine QaA (B:=r75.2 !=x86) rfl rfl rfl ?_ ?_
 ·
  intro hb
  rw [if_neg (b_bne_t hb)] at H
  refine g_d rfl ?_
  refine Qaa (v:=bool true) rfl rfl rfl (g_d rfl (Qad rfl rfl (g_d rfl (Qad rfl rfl (g_d rfl ?_)))))
  try dsimp only [Qai,Qaj]
  refine Qaa (v:=bool true) rfl rfl rfl (g_d rfl ?_)
  refine Qaa (v:=bool true) rfl rfl rfl (g_d rfl (Qad rfl rfl (g_d rfl ?_)))
  try dsimp only [Qai,Qaj]
  refine Qad rfl rfl (g_d rfl (Qad rfl rfl (g_d rfl ?_)))
  try dsimp only [Qai,Qaj]
  refine Qaa (v:=bool true) rfl rfl rfl (g_d rfl ?_)
  refine Qaa (v:=bool true) rfl rfl rfl (g_d rfl (Qad rfl rfl (g_d rfl (Qad rfl rfl (g_d rfl ?_)))))
  try dsimp only [Qai,Qaj]
  refine Qaa (v:=bool true) rfl rfl rfl (g_d rfl ?_)
  refine Qaa (v:=bool true) rfl rfl rfl (g_d rfl (Qad rfl rfl (g_d rfl (Qad rfl rfl (g_d rfl ?_)))))
  try dsimp only [Qai,Qaj]
  refine Qaa (v:=bool true) rfl rfl rfl (g_d rfl ?_)
  refine Qaa (v:=bool true) rfl rfl rfl (g_d rfl (Qad rfl rfl (g_d rfl (Qad rfl rfl (g_d rfl ?_)))))
  try dsimp only [Qai,Qaj]
  refine Qaa (v:=bool true) rfl rfl rfl (g_d rfl ?_)
  refine Qaa (v:=bool true) rfl rfl rfl (g_d rfl (Qad rfl rfl (g_d rfl (Qad rfl rfl (g_d rfl (Qad rfl rfl (g_d rfl ?_)))))))
  try dsimp only [Qai,Qaj]
  refine Qaa (v:=bool true) rfl rfl rfl (g_d rfl ?_)
  refine Qaa (v:=bool true) rfl rfl rfl (g_d rfl (Qad rfl rfl (g_d rfl ?_)))
  try dsimp only [Qai,Qaj]
  refine Qad rfl rfl (g_d rfl (Qad rfl rfl (g_d rfl ?_)))
  try dsimp only [Qai,Qaj]
  refine Qad rfl rfl (g_d rfl (Qad rfl rfl (g_d rfl ?_)))
  try dsimp only [Qai,Qaj]
  refine Qad rfl rfl (g_d rfl (Qad rfl rfl (g_d rfl ?_)))
  try dsimp only [Qai,Qaj]
  refine Qad rfl rfl (g_d rfl (Qad rfl rfl (g_d rfl ?_)))
  try dsimp only [Qai,Qaj]
  refine Qad rfl rfl (g_d rfl (Qad rfl rfl (g_d rfl ?_)))
  try dsimp only [Qai,Qaj]
  refine Qad rfl rfl (g_d rfl (Qad rfl rfl (g_d rfl (Qad rfl rfl (g_d rfl ?_)))))
  try dsimp only [Qai,Qaj]
  refine Qaa (v:=bool true) rfl rfl rfl (g_d rfl (Qab (Qam rfl (Qaf (Qak [0] rfl ?_)))))
  refine Qaa (v:=bool false) rfl rfl rfl (g_d rfl ?_)
  try dsimp only [Qai,Qaj]
  refine Qab ?_
  obtain rfl:=QsJ H
  refine Qax Tryz.func3 (v:=bool false) (res1 rfl rfl) ?_
  have hs:St _ [] _:=St.take (Γ':=[_,_,_,_,_,_,_]) hs
  exact ⟨_,rfl,rfl,hs⟩
 intro hb
 rw [if_pos (b_bne_f hb)] at H
 refine g_d rfl ?_
 refine Qaa (v:=bool false) rfl rfl rfl (g_d rfl ?_)
 refine Qaa (v:=int .i64 r75.2) rfl rfl rfl (g_d rfl ?_)
 refine Qaa (v:=bool (r75.2 !=0)) rfl rfl rfl (g_d rfl ?_)
 try dsimp only [Qai,Qaj]
 refine QaA (B:=r75.2 !=0) rfl rfl rfl ?_ ?_
 ·
  intro hb
  rw [if_neg (b_bne_t hb)] at H
  refine g_d rfl ?_
  refine Qaa (v:=bool true) rfl rfl rfl (g_d rfl (Qad rfl rfl (g_d rfl ?_)))
  try dsimp only [Qai,Qaj]
  refine Qad rfl rfl (g_d rfl (Qad rfl rfl (g_d rfl ?_)))
  try dsimp only [Qai,Qaj]
  refine Qaa (v:=bool true) rfl rfl rfl (g_d rfl ?_)
  refine Qaa (v:=bool true) rfl rfl rfl (g_d rfl (Qad rfl rfl (g_d rfl (Qad rfl rfl (g_d rfl ?_)))))
  try dsimp only [Qai,Qaj]
  refine Qaa (v:=bool true) rfl rfl rfl (g_d rfl ?_)
  refine Qaa (v:=bool true) rfl rfl rfl (g_d rfl (Qad rfl rfl (g_d rfl (Qad rfl rfl (g_d rfl ?_)))))
  try dsimp only [Qai,Qaj]
  refine Qaa (v:=bool true) rfl rfl rfl (g_d rfl ?_)
  refine Qaa (v:=bool true) rfl rfl rfl (g_d rfl (Qad rfl rfl (g_d rfl (Qad rfl rfl (g_d rfl ?_)))))
  try dsimp only [Qai,Qaj]
  refine Qaa (v:=bool true) rfl rfl rfl (g_d rfl ?_)
  refine Qaa (v:=bool true) rfl rfl rfl (g_d rfl (Qad rfl rfl (g_d rfl (Qad rfl rfl (g_d rfl (Qad rfl rfl (g_d rfl ?_)))))))
  try dsimp only [Qai,Qaj]
  refine Qaa (v:=bool true) rfl rfl rfl (g_d rfl ?_)
  refine Qaa (v:=bool true) rfl rfl rfl (g_d rfl (Qad rfl rfl (g_d rfl ?_)))
  try dsimp only [Qai,Qaj]
  refine Qad rfl rfl (g_d rfl (Qad rfl rfl (g_d rfl ?_)))
  try dsimp only [Qai,Qaj]
  refine Qad rfl rfl (g_d rfl (Qad rfl rfl (g_d rfl ?_)))
  try dsimp only [Qai,Qaj]
  refine Qad rfl rfl (g_d rfl (Qad rfl rfl (g_d rfl ?_)))
  try dsimp only [Qai,Qaj]
  refine Qad rfl rfl (g_d rfl (Qad rfl rfl (g_d rfl ?_)))
  try dsimp only [Qai,Qaj]
  refine Qad rfl rfl (g_d rfl (Qad rfl rfl (g_d rfl ?_)))
  try dsimp only [Qai,Qaj]
  refine Qad rfl rfl (g_d rfl (Qad rfl rfl (g_d rfl (Qad rfl rfl (g_d rfl ?_)))))
  try dsimp only [Qai,Qaj]
  refine Qaa (v:=bool true) rfl rfl rfl (g_d rfl (Qab (Qam rfl (Qaf (Qak [0] rfl ?_)))))
  refine Qaa (v:=bool false) rfl rfl rfl (g_d rfl ?_)
  try dsimp only [Qai,Qaj]
  refine Qab ?_
  obtain rfl:=QsJ H
  refine Qax Tryz.func3 (v:=bool false) (res1 rfl rfl) ?_
  have hs:St _ [] _:=St.take (Γ':=[_,_,_,_,_,_,_]) hs
  exact ⟨_,rfl,rfl,hs⟩
 intro hb
 rw [if_pos (b_bne_f hb)] at H
 refine g_d rfl ?_
 refine Qaa (v:=bool false) rfl rfl rfl (g_d rfl ?_)
 refine QaG rfl rfl (es:=((encA (encI .i64)) r75.1)) rfl rfl (fun _=>rfl) (n:=4) (fun _=>rfl) ((fkA (n:=4) (he:=(fkI .i64).len) (h1:=(fkI .i64).one)).len _) (cells_all (hs.cells 4 rfl)) (g_d rfl ?_)
 try dsimp only [Qai,Qaj]
 refine QaG rfl rfl (es:=((encA (encI .i64)) x85)) rfl rfl (fun _=>rfl) (n:=4) (fun _=>rfl) ((fkA (n:=4) (he:=(fkI .i64).len) (h1:=(fkI .i64).one)).len _) (cells_all (hs.cells 5 rfl)) (g_d rfl ?_)
 refine Qaa (v:=bool (!decide (r75.1=x85))) rfl rfl (QcH rfl rfl rfl Qct (QcA _ _ _)) (g_d rfl ?_)
 try dsimp only [Qai,Qaj]
 refine QaA (B:=!decide (r75.1=x85)) rfl rfl rfl ?_ ?_
 ·
  intro hb
  rw [if_neg (b_ndec_t hb)] at H
  refine g_d rfl ?_
  refine Qaa (v:=bool true) rfl rfl rfl (g_d rfl (Qad rfl rfl (g_d rfl (Qad rfl rfl (g_d rfl ?_)))))
  try dsimp only [Qai,Qaj]
  refine Qaa (v:=bool true) rfl rfl rfl (g_d rfl ?_)
  refine Qaa (v:=bool true) rfl rfl rfl (g_d rfl (Qad rfl rfl (g_d rfl (Qad rfl rfl (g_d rfl ?_)))))
  try dsimp only [Qai,Qaj]
  refine Qaa (v:=bool true) rfl rfl rfl (g_d rfl ?_)
  refine Qaa (v:=bool true) rfl rfl rfl (g_d rfl (Qad rfl rfl (g_d rfl (Qad rfl rfl (g_d rfl ?_)))))
  try dsimp only [Qai,Qaj]
  refine Qaa (v:=bool true) rfl rfl rfl (g_d rfl ?_)
  refine Qaa (v:=bool true) rfl rfl rfl (g_d rfl (Qad rfl rfl (g_d rfl (Qad rfl rfl (g_d rfl (Qad rfl rfl (g_d rfl ?_)))))))
  try dsimp only [Qai,Qaj]
  refine Qaa (v:=bool true) rfl rfl rfl (g_d rfl ?_)
  refine Qaa (v:=bool true) rfl rfl rfl (g_d rfl (Qad rfl rfl (g_d rfl ?_)))
  try dsimp only [Qai,Qaj]
  refine Qad rfl rfl (g_d rfl (Qad rfl rfl (g_d rfl ?_)))
  try dsimp only [Qai,Qaj]
  refine Qad rfl rfl (g_d rfl (Qad rfl rfl (g_d rfl ?_)))
  try dsimp only [Qai,Qaj]
  refine Qad rfl rfl (g_d rfl (Qad rfl rfl (g_d rfl ?_)))
  try dsimp only [Qai,Qaj]
  refine Qad rfl rfl (g_d rfl (Qad rfl rfl (g_d rfl ?_)))
  try dsimp only [Qai,Qaj]
  refine Qad rfl rfl (g_d rfl (Qad rfl rfl (g_d rfl ?_)))
  try dsimp only [Qai,Qaj]
  refine Qad rfl rfl (g_d rfl (Qad rfl rfl (g_d rfl (Qad rfl rfl (g_d rfl ?_)))))
  try dsimp only [Qai,Qaj]
  refine Qaa (v:=bool true) rfl rfl rfl (g_d rfl (Qab (Qam rfl (Qaf (Qak [0] rfl ?_)))))
  refine Qaa (v:=bool false) rfl rfl rfl (g_d rfl ?_)
  try dsimp only [Qai,Qaj]
  refine Qab ?_
  obtain rfl:=QsJ H
  refine Qax Tryz.func3 (v:=bool false) (res1 rfl rfl) ?_
  have hs:St _ [] _:=St.take (Γ':=[_,_,_,_,_,_,_]) hs
  exact ⟨_,rfl,rfl,hs⟩
 intro hb
 rw [if_pos (b_ndec_f hb)] at H
 refine g_d rfl ?_
 refine Qaa (v:=bool false) rfl rfl rfl (g_d rfl ?_)
 refine Qaa (v:=int .i64 r87.2) rfl rfl rfl (g_d rfl ?_)
 refine Qaa (v:=bool (r87.2 !=0)) rfl rfl rfl (g_d rfl ?_)
 try dsimp only [Qai,Qaj]
 refine QaA (B:=r87.2 !=0) rfl rfl rfl ?_ ?_
 ·
  intro hb
  rw [if_neg (b_bne_t hb)] at H
  refine g_d rfl ?_
  refine Qaa (v:=bool true) rfl rfl rfl (g_d rfl (Qad rfl rfl (g_d rfl (Qad rfl rfl (g_d rfl ?_)))))
  try dsimp only [Qai,Qaj]
  refine Qaa (v:=bool true) rfl rfl rfl (g_d rfl ?_)
  refine Qaa (v:=bool true) rfl rfl rfl (g_d rfl (Qad rfl rfl (g_d rfl (Qad rfl rfl (g_d rfl ?_)))))
  try dsimp only [Qai,Qaj]
  refine Qaa (v:=bool true) rfl rfl rfl (g_d rfl ?_)
  refine Qaa (v:=bool true) rfl rfl rfl (g_d rfl (Qad rfl rfl (g_d rfl (Qad rfl rfl (g_d rfl (Qad rfl rfl (g_d rfl ?_)))))))
  try dsimp only [Qai,Qaj]
  refine Qaa (v:=bool true) rfl rfl rfl (g_d rfl ?_)
  refine Qaa (v:=bool true) rfl rfl rfl (g_d rfl (Qad rfl rfl (g_d rfl ?_)))
  try dsimp only [Qai,Qaj]
  refine Qad rfl rfl (g_d rfl (Qad rfl rfl (g_d rfl ?_)))
  try dsimp only [Qai,Qaj]
  refine Qad rfl rfl (g_d rfl (Qad rfl rfl (g_d rfl ?_)))
  try dsimp only [Qai,Qaj]
  refine Qad rfl rfl (g_d rfl (Qad rfl rfl (g_d rfl ?_)))
  try dsimp only [Qai,Qaj]
  refine Qad rfl rfl (g_d rfl (Qad rfl rfl (g_d rfl ?_)))
  try dsimp only [Qai,Qaj]
  refine Qad rfl rfl (g_d rfl (Qad rfl rfl (g_d rfl ?_)))
  try dsimp only [Qai,Qaj]
  refine Qad rfl rfl (g_d rfl (Qad rfl rfl (g_d rfl (Qad rfl rfl (g_d rfl ?_)))))
  try dsimp only [Qai,Qaj]
  refine Qaa (v:=bool true) rfl rfl rfl (g_d rfl (Qab (Qam rfl (Qaf (Qak [0] rfl ?_)))))
  refine Qaa (v:=bool false) rfl rfl rfl (g_d rfl ?_)
  try dsimp only [Qai,Qaj]
  refine Qab ?_
  obtain rfl:=QsJ H
  refine Qax Tryz.func3 (v:=bool false) (res1 rfl rfl) ?_
  have hs:St _ [] _:=St.take (Γ':=[_,_,_,_,_,_,_]) hs
  exact ⟨_,rfl,rfl,hs⟩
 intro hb
 rw [if_pos (b_bne_f hb)] at H
 refine g_d rfl ?_
 refine Qaa (v:=bool false) rfl rfl rfl (g_d rfl ?_)
 refine Qaa (v:=int .i64 x96) rfl rfl rfl (g_d rfl ?_)
 refine Qaa (v:=bool (x96 !=0)) rfl rfl rfl (g_d rfl ?_)
 try dsimp only [Qai,Qaj]
 refine QaA (B:=x96 !=0) rfl rfl rfl ?_ ?_
 ·
  intro hb
  rw [if_neg (b_bne_t hb)] at H
  refine g_d rfl ?_
  refine Qaa (v:=bool true) rfl rfl rfl (g_d rfl (Qad rfl rfl (g_d rfl (Qad rfl rfl (g_d rfl ?_)))))
  try dsimp only [Qai,Qaj]
  refine Qaa (v:=bool true) rfl rfl rfl (g_d rfl ?_)
  refine Qaa (v:=bool true) rfl rfl rfl (g_d rfl (Qad rfl rfl (g_d rfl (Qad rfl rfl (g_d rfl (Qad rfl rfl (g_d rfl ?_)))))))
  try dsimp only [Qai,Qaj]
  refine Qaa (v:=bool true) rfl rfl rfl (g_d rfl ?_)
  refine Qaa (v:=bool true) rfl rfl rfl (g_d rfl (Qad rfl rfl (g_d rfl ?_)))
  try dsimp only [Qai,Qaj]
  refine Qad rfl rfl (g_d rfl (Qad rfl rfl (g_d rfl ?_)))
  try dsimp only [Qai,Qaj]
  refine Qad rfl rfl (g_d rfl (Qad rfl rfl (g_d rfl ?_)))
  try dsimp only [Qai,Qaj]
  refine Qad rfl rfl (g_d rfl (Qad rfl rfl (g_d rfl ?_)))
  try dsimp only [Qai,Qaj]
  refine Qad rfl rfl (g_d rfl (Qad rfl rfl (g_d rfl ?_)))
  try dsimp only [Qai,Qaj]
  refine Qad rfl rfl (g_d rfl (Qad rfl rfl (g_d rfl ?_)))
  try dsimp only [Qai,Qaj]
  refine Qad rfl rfl (g_d rfl (Qad rfl rfl (g_d rfl (Qad rfl rfl (g_d rfl ?_)))))
  try dsimp only [Qai,Qaj]
  refine Qaa (v:=bool true) rfl rfl rfl (g_d rfl (Qab (Qam rfl (Qaf (Qak [0] rfl ?_)))))
  refine Qaa (v:=bool false) rfl rfl rfl (g_d rfl ?_)
  try dsimp only [Qai,Qaj]
  refine Qab ?_
  obtain rfl:=QsJ H
  refine Qax Tryz.func3 (v:=bool false) (res1 rfl rfl) ?_
  have hs:St _ [] _:=St.take (Γ':=[_,_,_,_,_,_,_]) hs
  exact ⟨_,rfl,rfl,hs⟩
 intro hb
 rw [if_pos (b_bne_f hb)] at H
 refine g_d rfl ?_
 refine Qaa (v:=bool false) rfl rfl rfl (g_d rfl ?_)
 refine Qaa (v:=int .i64 r97.2) rfl rfl rfl (g_d rfl ?_)
 refine Qaa (v:=bool (r97.2 !=0)) rfl rfl rfl (g_d rfl ?_)
 try dsimp only [Qai,Qaj]
 refine QaA (B:=r97.2 !=0) rfl rfl rfl ?_ ?_
 ·
  intro hb
  rw [if_neg (b_bne_t hb)] at H
  refine g_d rfl ?_
  refine Qaa (v:=bool true) rfl rfl rfl (g_d rfl (Qad rfl rfl (g_d rfl (Qad rfl rfl (g_d rfl (Qad rfl rfl (g_d rfl ?_)))))))
  try dsimp only [Qai,Qaj]
  refine Qaa (v:=bool true) rfl rfl rfl (g_d rfl ?_)
  refine Qaa (v:=bool true) rfl rfl rfl (g_d rfl (Qad rfl rfl (g_d rfl ?_)))
  try dsimp only [Qai,Qaj]
  refine Qad rfl rfl (g_d rfl (Qad rfl rfl (g_d rfl ?_)))
  try dsimp only [Qai,Qaj]
  refine Qad rfl rfl (g_d rfl (Qad rfl rfl (g_d rfl ?_)))
  try dsimp only [Qai,Qaj]
  refine Qad rfl rfl (g_d rfl (Qad rfl rfl (g_d rfl ?_)))
  try dsimp only [Qai,Qaj]
  refine Qad rfl rfl (g_d rfl (Qad rfl rfl (g_d rfl ?_)))
  try dsimp only [Qai,Qaj]
  refine Qad rfl rfl (g_d rfl (Qad rfl rfl (g_d rfl ?_)))
  try dsimp only [Qai,Qaj]
  refine Qad rfl rfl (g_d rfl (Qad rfl rfl (g_d rfl (Qad rfl rfl (g_d rfl ?_)))))
  try dsimp only [Qai,Qaj]
  refine Qaa (v:=bool true) rfl rfl rfl (g_d rfl (Qab (Qam rfl (Qaf (Qak [0] rfl ?_)))))
  refine Qaa (v:=bool false) rfl rfl rfl (g_d rfl ?_)
  try dsimp only [Qai,Qaj]
  refine Qab ?_
  obtain rfl:=QsJ H
  refine Qax Tryz.func3 (v:=bool false) (res1 rfl rfl) ?_
  have hs:St _ [] _:=St.take (Γ':=[_,_,_,_,_,_,_]) hs
  exact ⟨_,rfl,rfl,hs⟩
 intro hb
 rw [if_pos (b_bne_f hb)] at H
 refine g_d rfl ?_
 refine Qaa (v:=bool false) rfl rfl rfl (g_d rfl ?_)
 refine Qaa (v:=int .u64 r87.1) rfl rfl rfl (g_d rfl ?_)
 refine Qaa (v:=int .u64 r97.1) rfl rfl rfl (g_d rfl ?_)
 refine Qaa (v:=bool (r87.1 !=r97.1)) rfl rfl rfl (g_d rfl ?_)
 try dsimp only [Qai,Qaj]
 refine QaA (B:=r87.1 !=r97.1) rfl rfl rfl ?_ ?_
 ·
  intro hb
  rw [if_neg (b_bne_t hb)] at H
  refine g_d rfl ?_
  refine Qaa (v:=bool true) rfl rfl rfl (g_d rfl (Qad rfl rfl (g_d rfl ?_)))
  try dsimp only [Qai,Qaj]
  refine Qad rfl rfl (g_d rfl (Qad rfl rfl (g_d rfl ?_)))
  try dsimp only [Qai,Qaj]
  refine Qad rfl rfl (g_d rfl (Qad rfl rfl (g_d rfl ?_)))
  try dsimp only [Qai,Qaj]
  refine Qad rfl rfl (g_d rfl (Qad rfl rfl (g_d rfl ?_)))
  try dsimp only [Qai,Qaj]
  refine Qad rfl rfl (g_d rfl (Qad rfl rfl (g_d rfl ?_)))
  try dsimp only [Qai,Qaj]
  refine Qad rfl rfl (g_d rfl (Qad rfl rfl (g_d rfl ?_)))
  try dsimp only [Qai,Qaj]
  refine Qad rfl rfl (g_d rfl (Qad rfl rfl (g_d rfl (Qad rfl rfl (g_d rfl ?_)))))
  try dsimp only [Qai,Qaj]
  refine Qaa (v:=bool true) rfl rfl rfl (g_d rfl (Qab (Qam rfl (Qaf (Qak [0] rfl ?_)))))
  refine Qaa (v:=bool false) rfl rfl rfl (g_d rfl ?_)
  try dsimp only [Qai,Qaj]
  refine Qab ?_
  obtain rfl:=QsJ H
  refine Qax Tryz.func3 (v:=bool false) (res1 rfl rfl) ?_
  have hs:St _ [] _:=St.take (Γ':=[_,_,_,_,_,_,_]) hs
  exact ⟨_,rfl,rfl,hs⟩
 intro hb
 rw [if_pos (b_bne_f hb)] at H
 refine g_d rfl ?_
 refine Qaa (v:=bool false) rfl rfl rfl (g_d rfl ?_)
 obtain ⟨g1,H⟩:=ite_get H
 refine Qba (n:=0) (m:=1) rfl (fun _=>rfl) g1.1 g1.2 rfl rfl rfl rfl rfl (g_d rfl ?_)
 try dsimp only [Qai,Qaj]
 refine Qaw rfl rfl (v:=int .i64 (x85.get 0 0)) rfl rfl (fun _=>rfl) (by rw [Nat.zero_add];exact cells_load (hs.cells 5 rfl) _ _ (encA_at (fkI .i64).len _ _ 0 g1.1 g1.2)) (g_d rfl ?_)
 obtain ⟨g2,H⟩:=ite_get H
 refine Qba (n:=1) (m:=1) rfl (fun _=>rfl) g2.1 g2.2 rfl rfl rfl rfl rfl (g_d rfl ?_)
 try dsimp only [Qai,Qaj]
 refine Qaw rfl rfl (v:=int .i64 (x85.get 1 0)) rfl rfl (fun _=>rfl) (by rw [Nat.zero_add];exact cells_load (hs.cells 5 rfl) _ _ (encA_at (fkI .i64).len _ _ 0 g2.1 g2.2)) (g_d rfl ?_)
 refine Qaa (v:=int .i64 (i64w ((x85.get 0 0)+(x85.get 1 0)))) rfl rfl rfl (g_d rfl ?_)
 try dsimp only [Qai,Qaj]
 obtain ⟨g3,H⟩:=ite_get H
 refine Qba (n:=2) (m:=1) rfl (fun _=>rfl) g3.1 g3.2 rfl rfl rfl rfl rfl (g_d rfl ?_)
 refine Qaw rfl rfl (v:=int .i64 (x85.get 2 0)) rfl rfl (fun _=>rfl) (by rw [Nat.zero_add];exact cells_load (hs.cells 5 rfl) _ _ (encA_at (fkI .i64).len _ _ 0 g3.1 g3.2)) (g_d rfl ?_)
 try dsimp only [Qai,Qaj]
 refine Qaa (v:=int .i64 (i64w ((i64w ((x85.get 0 0)+(x85.get 1 0)))+(x85.get 2 0)))) rfl rfl rfl (g_d rfl ?_)
 obtain ⟨g4,H⟩:=ite_get H
 refine Qba (n:=3) (m:=1) rfl (fun _=>rfl) g4.1 g4.2 rfl rfl rfl rfl rfl (g_d rfl ?_)
 try dsimp only [Qai,Qaj]
 refine Qaw rfl rfl (v:=int .i64 (x85.get 3 0)) rfl rfl (fun _=>rfl) (by rw [Nat.zero_add];exact cells_load (hs.cells 5 rfl) _ _ (encA_at (fkI .i64).len _ _ 0 g4.1 g4.2)) (g_d rfl ?_)
 refine Qaa (v:=int .i64 (i64w ((i64w ((i64w ((x85.get 0 0)+(x85.get 1 0)))+(x85.get 2 0)))+(x85.get 3 0)))) rfl rfl rfl (g_d rfl ?_)
 try dsimp only [Qai,Qaj]
 refine Qaa (v:=v71) rfl rfl rfl (g_d rfl ?_)
 refine Qbp (hs.row 3 rfl) rfl rfl rfl rfl rfl (g_d rfl ?_)
 refine QaA (B:=(i64w ((i64w ((i64w ((x85.get 0 0)+(x85.get 1 0)))+(x85.get 2 0)))+(x85.get 3 0))) !=(x72.length:Int)) rfl rfl rfl ?_ ?_
 ·
  intro hb
  rw [if_neg (b_bne_t hb)] at H
  refine g_d rfl ?_
  try dsimp only [Qai,Qaj]
  refine Qaa (v:=bool true) rfl rfl rfl (g_d rfl (Qab (Qam rfl (Qaf (Qak [0] rfl ?_)))))
  refine Qaa (v:=bool false) rfl rfl rfl (g_d rfl ?_)
  try dsimp only [Qai,Qaj]
  refine Qab ?_
  obtain rfl:=QsJ H
  refine Qax Tryz.func3 (v:=bool false) (res1 rfl rfl) ?_
  have hs:St _ [] _:=St.take (Γ':=[_,_,_,_,_,_,_]) hs
  exact ⟨_,rfl,rfl,hs⟩
 intro hb
 rw [if_pos (b_bne_f hb)] at H
 refine g_d rfl ?_
 try dsimp only [Qai,Qaj]
 refine Qaa (v:=bool false) rfl rfl rfl (g_d rfl (Qab (Qap rfl (QaE ?_))))
 have hs:=hs.pull 6 rfl
 have hs:=hs.pull 6 rfl
 have hs:=hs.pull 5 rfl
 have hs:=hs.pull 4 rfl
 have hs:=hs.pull 4 rfl
 have hs:St _ [_,_,_,_,_] _:=St.take (Γ':=[_,_]) hs
 exact ha _ _ ⟨H,rfl,hs⟩
theorem Qal.seg5 {N : Nat} {a1 : (List Int)} {a3 : (List Int)} {v2 : Value} {v4 : Value} {r58 : Qag} {r63 : ((List Int) × Int)} {x74 : Int} {x72 : (List Int)} {r75 : ((Ar Int 4) × Int)} {b61 : Nat} {v64 : Value} {v71 : Value} {b76 : Nat} {v59 : Value} {w0 : World} {r : Bool} (htab : Lib.TabIs Tryz.prog w0 "internal/strconv.uint64pow10" .u64 Lib.pow10Tab) (hmax : CellI w0 0) (hsyn : CellE w0 2) (hrng : CellE w0 3) (hdbr : CellU w0 7 15 4) (hr0 : RdRow (K.int .u8) w0 v2 a1) (hr1 : RdRow (K.int .u8) w0 v4 a3) :
 ∀ t w,(fun t w=>∃ b84:Nat,∃ x85:(Ar Int 4),∃ x86:Int,Qal.j8 N r58 r63 x74 x72 r75 x85 x86=some r∧Fr t (fun O=>(oT O 0 (oT O 1 (O 20::O 21::O 22::O 23::O 24::pointer (some ⟨b61,0,none⟩)::v64::int .i64 r63.2::v71::int .i64 x74::pointer (some ⟨b76,0,none⟩)::int .i64 r75.2::pointer (some ⟨b84,0,none⟩)::int .i64 x86::O 34::O 35::O 36::O 37::O 38::O 39::oT O 4 (oT O 5 (oT O 6 (oT O 7 (oT O 8 (oT O 9 (oT O 10 (oT O 11 (oT O 12 (oT O 13 (oT O 14 (oT O 15 (oT O 16 (oT O 17 (oT O 18 (oT O 19 (oT O 20 (oT O 21 (oT O 22 (oT O 23 (oT O 24 (oT O 25 (oT O 26 (oT O 27 (oT O 28 (oT O 29 (oT O 30 (oT O 31 (oT O 32 (oT O 33 (oT O 34 (oT O 35 (oT O 36 (oT O 37 (oT O 38 (oT O 39 (oT O 40 (oT O 41 (oT O 42 (O 430::O 431::O 432::O 433::O 434::O 435::[]))))))))))))))))))))))))))))))))))))))))):List Value))∧St w0 [Cells b61 (([int .i8 r58.Qac,int .i8 r58.Qae,v59]:List Value)) 30,Row 61 Qao v59 r58.Qah,Row 2 (K.int .i64) v64 r63.1,Row 2 (K.int .i64) v71 x72,Cells b76 ((encA (encI .i64)) r75.1) 47,Cells b84 ((encA (encI .i64)) x85) 47] w) t w→G Tryz.prog 3 (fun e w=>∃ v,e= .returned v∧Qal.post w0 r v w) [.code (Code.at_ (Tryz.f3.body.getD .skip) [1,1,1,1,1,1,1,1,1,1,1,1,1,1,1,1,1,1,1,1])] t w:=by
 rintro t w ⟨b84,x85,x86,H,hf,hs⟩
 obtain ⟨O,rfl⟩:=hf.open
 try dsimp only [oT]
 unfold Qal.j8 at H
 refine Qaf (Qak [0,1,2,3,4,5,6] rfl ?_)
 refine QaG rfl rfl (es:=(([int .i8 r58.Qac,int .i8 r58.Qae,v59]:List Value))) rfl rfl (fun _=>rfl) (n:=3) (fun _=>rfl) rfl (cells_all (hs.cells 0 rfl)) (g_d rfl ?_)
 try dsimp only [Qai,Qaj]
 obtain ⟨r87,Hr87,H⟩:=bind_get H
 refine Qas (args:=[agg (([int .i8 r58.Qac,int .i8 r58.Qae,v59]:List Value)).toArray]) rfl rfl (Qat rfl (callFunc_enter Tryz.func22 rfl rfl) rfl) (QbM.calls (a1:=(⟨r58.Qac,r58.Qae,r58.Qah⟩:Qag)) (hs.row 1 rfl) Hr87) ?_
 rintro _ w ⟨rfl,hs2⟩
 have hs:St _ [_,_,_,_,_,_] _:=hs.call hs2
 refine g_d rfl ?_
 refine Qaa (v:=tuple #[int .u64 r87.1,int .i64 r87.2]) rfl rfl rfl (g_d rfl ?_)
 refine Qaa (v:=int .u64 r87.1) rfl rfl rfl (g_d rfl ?_)
 refine Qaa (v:=int .i64 r87.2) rfl rfl rfl (g_d rfl ?_)
 refine Qaa (v:=int .u64 r87.1) rfl rfl rfl (g_d rfl ?_)
 try dsimp only [Qai,Qaj]
 refine Qaa (v:=int .i64 r87.2) rfl rfl rfl (g_d rfl (Qab (Qaf ?_)))
 refine Qcp (J:=(fun t w=>∃ b94:Nat,∃ x95:(Ar Int 4),∃ x96:Int,Qal.j9 N r58 r63 x74 x72 r75 x86 x85 r87 x95 x96=some r∧Fr t (fun O=>(oT O 0 (oT O 1 (O 20::O 21::O 22::O 23::O 24::pointer (some ⟨b61,0,none⟩)::v64::int .i64 r63.2::v71::int .i64 x74::pointer (some ⟨b76,0,none⟩)::int .i64 r75.2::pointer (some ⟨b84,0,none⟩)::int .i64 x86::int .u64 r87.1::int .i64 r87.2::pointer (some ⟨b94,0,none⟩)::int .i64 x96::O 38::O 39::oT O 4 (oT O 5 (oT O 6 (oT O 7 (oT O 8 (oT O 9 (oT O 10 (oT O 11 (oT O 12 (oT O 13 (oT O 14 (oT O 15 (oT O 16 (oT O 17 (oT O 18 (oT O 19 (oT O 20 (oT O 21 (oT O 22 (oT O 23 (oT O 24 (oT O 25 (oT O 26 (oT O 27 (oT O 28 (oT O 29 (oT O 30 (oT O 31 (oT O 32 (oT O 33 (oT O 34 (oT O 35 (oT O 36 (oT O 37 (oT O 38 (oT O 39 (oT O 40 (oT O 41 (oT O 42 (O 430::O 431::O 432::O 433::O 434::O 435::[]))))))))))))))))))))))))))))))))))))))))):List Value))∧St w0 [Cells b61 (([int .i8 r58.Qac,int .i8 r58.Qae,v59]:List Value)) 30,Row 61 Qao v59 r58.Qah,Row 2 (K.int .i64) v64 r63.1,Row 2 (K.int .i64) v71 x72,Cells b76 ((encA (encI .i64)) r75.1) 47,Cells b84 ((encA (encI .i64)) x85) 47,Cells b94 ((encA (encI .i64)) x95) 47] w)) ?_ ?_
 ·exact Qal.seg4 htab hmax hsyn hrng hdbr hr0 hr1
 intro ha
 refine Qak [0,1,2,3,4,5,6,7,8,9,10] rfl ?_
 refine Qaa (v:=pointer (some ⟨b61,1,none⟩)) rfl rfl rfl (g_d rfl ?_)
 refine Qaw rfl rfl (v:=int .i8 r58.Qae) rfl rfl (fun _=>rfl) (cells_load (hs.cells 0 rfl) 1 1 rfl) (g_d rfl ?_)
 try dsimp only [Qai,Qaj]
 refine Qaa (v:=int .i64 (i64w r58.Qae)) rfl rfl rfl (g_d rfl ?_)
 refine QaG rfl rfl (es:=((encA (encI .i64)) x85)) rfl rfl (fun _=>rfl) (n:=4) (fun _=>rfl) ((fkA (n:=4) (he:=(fkI .i64).len) (h1:=(fkI .i64).one)).len _) (cells_all (hs.cells 5 rfl)) (g_d rfl ?_)
 obtain ⟨r88,Hr88,H⟩:=bind_get H
 refine Qas (args:=[int .i64 (i64w r58.Qae),agg ((encA (encI .i64)) x85).toArray]) rfl rfl (Qat rfl (callFunc_enter Tryz.func23 rfl rfl) rfl) (Qch.calls (a1:=i64w r58.Qae) (a2:=x85) Hr88) ?_
 rintro _ w ⟨rfl,hs2⟩
 have hs:St _ [_,_,_,_,_,_] _:=hs.call hs2
 refine g_d rfl ?_
 try dsimp only [Qai,Qaj]
 refine Qaa (v:=tuple #[agg ((encA (encI .i64)) r88.1).toArray,int .i64 r88.2]) rfl rfl rfl (g_d rfl ?_)
 refine Qaa (v:=agg ((encA (encI .i64)) r88.1).toArray) rfl rfl rfl (g_d rfl ?_)
 refine Qaa (v:=int .i64 r88.2) rfl rfl rfl (g_d rfl ?_)
 refine Qa5 hs rfl rfl (z:=(agg #[int .i64 0,int .i64 0,int .i64 0,int .i64 0])) (cs:=((encA (encI .i64)) (Ar.rep 4 0))) rfl (fun _=>rfl) rfl ?_
 intro b89 w hs
 refine g_d rfl ?_
 refine QaB (n:=4) hs ((fkA (n:=4) (he:=(fkI .i64).len) (h1:=(fkI .i64).one)).len _) rfl rfl (vs:=((encA (encI .i64)) r88.1)) rfl rfl rfl (fun _=>rfl) ((fkA (n:=4) (he:=(fkI .i64).len) (h1:=(fkI .i64).one)).len _) ((fkA (n:=4) (he:=(fkI .i64).len) (h1:=(fkI .i64).one)).one _) ?_
 intro w hs
 refine g_n rfl ?_
 refine Qaa (v:=int .i64 r88.2) rfl rfl rfl (g_d rfl ?_)
 try dsimp only [Qai,Qaj]
 refine Qab ?_
 have hs:=hs.pull 0 rfl
 have hs:=hs.pull 6 rfl
 have hs:=hs.pull 6 rfl
 have hs:=hs.pull 6 rfl
 have hs:=hs.pull 6 rfl
 have hs:=hs.pull 6 rfl
 have hs:=hs.pull 6 rfl
 have hs:St _ [_,_,_,_,_,_,_] _:=St.take (Γ':=[]) hs
 exact ha _ _ ⟨b89,r88.1,r88.2,H,rfl,hs⟩
theorem Qal.seg6 {N : Nat} {a1 : (List Int)} {a3 : (List Int)} {v2 : Value} {v4 : Value} {r58 : Qag} {r63 : ((List Int) × Int)} {b61 : Nat} {v64 : Value} {v59 : Value} {w0 : World} {r : Bool} (htab : Lib.TabIs Tryz.prog w0 "internal/strconv.uint64pow10" .u64 Lib.pow10Tab) (hmax : CellI w0 0) (hsyn : CellE w0 2) (hrng : CellE w0 3) (hdbr : CellU w0 7 15 4) (hr0 : RdRow (K.int .u8) w0 v2 a1) (hr1 : RdRow (K.int .u8) w0 v4 a3) :
 ∀ t w,(fun t w=>∃ v71:Value,∃ x72:(List Int),∃ x74:Int,Qal.j7 N r58 r63 x72 x74=some r∧Fr t (fun O=>(oT O 0 (oT O 1 (O 20::O 21::O 22::O 23::O 24::pointer (some ⟨b61,0,none⟩)::v64::int .i64 r63.2::v71::int .i64 x74::oT O 3 (oT O 4 (oT O 5 (oT O 6 (oT O 7 (oT O 8 (oT O 9 (oT O 10 (oT O 11 (oT O 12 (oT O 13 (oT O 14 (oT O 15 (oT O 16 (oT O 17 (oT O 18 (oT O 19 (oT O 20 (oT O 21 (oT O 22 (oT O 23 (oT O 24 (oT O 25 (oT O 26 (oT O 27 (oT O 28 (oT O 29 (oT O 30 (oT O 31 (oT O 32 (oT O 33 (oT O 34 (oT O 35 (oT O 36 (oT O 37 (oT O 38 (oT O 39 (oT O 40 (oT O 41 (oT O 42 (O 430::O 431::O 432::O 433::O 434::O 435::[])))))))))))))))))))))))))))))))))))))))))):List Value))∧St w0 [Cells b61 (([int .i8 r58.Qac,int .i8 r58.Qae,v59]:List Value)) 30,Row 61 Qao v59 r58.Qah,Row 2 (K.int .i64) v64 r63.1,Row 2 (K.int .i64) v71 x72] w) t w→G Tryz.prog 3 (fun e w=>∃ v,e= .returned v∧Qal.post w0 r v w) [.code (Code.at_ (Tryz.f3.body.getD .skip) [1,1,1,1,1,1,1,1,1,1,1,1,1,1,1,1,1,1])] t w:=by
 rintro t w ⟨v71,x72,x74,H,hf,hs⟩
 obtain ⟨O,rfl⟩:=hf.open
 try dsimp only [oT]
 unfold Qal.j7 at H
 refine Qaf (Qak [0,1,2,3,4,5,6,7] rfl ?_)
 refine QaG rfl rfl (es:=(([int .i8 r58.Qac,int .i8 r58.Qae,v59]:List Value))) rfl rfl (fun _=>rfl) (n:=3) (fun _=>rfl) rfl (cells_all (hs.cells 0 rfl)) (g_d rfl ?_)
 try dsimp only [Qai,Qaj]
 obtain ⟨r75,Hr75,H⟩:=bind_get H
 refine Qas (args:=[agg (([int .i8 r58.Qac,int .i8 r58.Qae,v59]:List Value)).toArray]) rfl rfl (Qat rfl (callFunc_enter Tryz.func20 rfl rfl) rfl) (QbZ.calls (a1:=(⟨r58.Qac,r58.Qae,r58.Qah⟩:Qag)) (hs.row 1 rfl) Hr75) ?_
 rintro _ w ⟨rfl,hs2⟩
 have hs:St _ [_,_,_,_] _:=hs.call hs2
 refine g_d rfl ?_
 refine Qaa (v:=tuple #[agg ((encA (encI .i64)) r75.1).toArray,int .i64 r75.2]) rfl rfl rfl (g_d rfl ?_)
 refine Qaa (v:=agg ((encA (encI .i64)) r75.1).toArray) rfl rfl rfl (g_d rfl ?_)
 refine Qaa (v:=int .i64 r75.2) rfl rfl rfl (g_d rfl ?_)
 refine Qa5 hs rfl rfl (z:=(agg #[int .i64 0,int .i64 0,int .i64 0,int .i64 0])) (cs:=((encA (encI .i64)) (Ar.rep 4 0))) rfl (fun _=>rfl) rfl ?_
 intro b76 w hs
 refine g_d rfl ?_
 try dsimp only [Qai,Qaj]
 refine QaB (n:=4) hs ((fkA (n:=4) (he:=(fkI .i64).len) (h1:=(fkI .i64).one)).len _) rfl rfl (vs:=((encA (encI .i64)) r75.1)) rfl rfl rfl (fun _=>rfl) ((fkA (n:=4) (he:=(fkI .i64).len) (h1:=(fkI .i64).one)).len _) ((fkA (n:=4) (he:=(fkI .i64).len) (h1:=(fkI .i64).one)).one _) ?_
 intro w hs
 refine g_n rfl ?_
 refine Qaa (v:=int .i64 r75.2) rfl rfl rfl (g_d rfl (Qab (Qaf ?_)))
 refine Qcp (J:=(fun t w=>∃ b84:Nat,∃ x85:(Ar Int 4),∃ x86:Int,Qal.j8 N r58 r63 x74 x72 r75 x85 x86=some r∧Fr t (fun O=>(oT O 0 (oT O 1 (O 20::O 21::O 22::O 23::O 24::pointer (some ⟨b61,0,none⟩)::v64::int .i64 r63.2::v71::int .i64 x74::pointer (some ⟨b76,0,none⟩)::int .i64 r75.2::pointer (some ⟨b84,0,none⟩)::int .i64 x86::O 34::O 35::O 36::O 37::O 38::O 39::oT O 4 (oT O 5 (oT O 6 (oT O 7 (oT O 8 (oT O 9 (oT O 10 (oT O 11 (oT O 12 (oT O 13 (oT O 14 (oT O 15 (oT O 16 (oT O 17 (oT O 18 (oT O 19 (oT O 20 (oT O 21 (oT O 22 (oT O 23 (oT O 24 (oT O 25 (oT O 26 (oT O 27 (oT O 28 (oT O 29 (oT O 30 (oT O 31 (oT O 32 (oT O 33 (oT O 34 (oT O 35 (oT O 36 (oT O 37 (oT O 38 (oT O 39 (oT O 40 (oT O 41 (oT O 42 (O 430::O 431::O 432::O 433::O 434::O 435::[]))))))))))))))))))))))))))))))))))))))))):List Value))∧St w0 [Cells b61 (([int .i8 r58.Qac,int .i8 r58.Qae,v59]:List Value)) 30,Row 61 Qao v59 r58.Qah,Row 2 (K.int .i64) v64 r63.1,Row 2 (K.int .i64) v71 x72,Cells b76 ((encA (encI .i64)) r75.1) 47,Cells b84 ((encA (encI .i64)) x85) 47] w)) ?_ ?_
 ·exact Qal.seg5 htab hmax hsyn hrng hdbr hr0 hr1
 intro ha
 refine Qak [0,1,2,3,4,5,6,7] rfl ?_
 refine QaG rfl rfl (es:=(([int .i8 r58.Qac,int .i8 r58.Qae,v59]:List Value))) rfl rfl (fun _=>rfl) (n:=3) (fun _=>rfl) rfl (cells_all (hs.cells 1 rfl)) (g_d rfl ?_)
 try dsimp only [Qai,Qaj]
 obtain ⟨r78,Hr78,H⟩:=bind_get H
 refine Qas (args:=[agg (([int .i8 r58.Qac,int .i8 r58.Qae,v59]:List Value)).toArray]) rfl rfl (Qat rfl (callFunc_enter Tryz.func21 rfl rfl) rfl) (Qcb.calls (a1:=(⟨r58.Qac,r58.Qae,r58.Qah⟩:Qag)) (hs.row 2 rfl) Hr78) ?_
 rintro _ w ⟨rfl,hs2⟩
 have hs:St _ [_,_,_,_,_] _:=hs.call hs2
 refine g_d rfl ?_
 refine Qaa (v:=tuple #[agg ((encA (encI .i64)) r78.1).toArray,int .i64 r78.2]) rfl rfl rfl (g_d rfl ?_)
 refine Qaa (v:=agg ((encA (encI .i64)) r78.1).toArray) rfl rfl rfl (g_d rfl ?_)
 refine Qaa (v:=int .i64 r78.2) rfl rfl rfl (g_d rfl ?_)
 refine Qa5 hs rfl rfl (z:=(agg #[int .i64 0,int .i64 0,int .i64 0,int .i64 0])) (cs:=((encA (encI .i64)) (Ar.rep 4 0))) rfl (fun _=>rfl) rfl ?_
 intro b79 w hs
 refine g_d rfl ?_
 try dsimp only [Qai,Qaj]
 refine QaB (n:=4) hs ((fkA (n:=4) (he:=(fkI .i64).len) (h1:=(fkI .i64).one)).len _) rfl rfl (vs:=((encA (encI .i64)) r78.1)) rfl rfl rfl (fun _=>rfl) ((fkA (n:=4) (he:=(fkI .i64).len) (h1:=(fkI .i64).one)).len _) ((fkA (n:=4) (he:=(fkI .i64).len) (h1:=(fkI .i64).one)).one _) ?_
 intro w hs
 refine g_n rfl ?_
 refine Qaa (v:=int .i64 r78.2) rfl rfl rfl (g_d rfl (Qab ?_))
 have hs:=hs.pull 0 rfl
 have hs:=hs.pull 1 rfl
 have hs:=hs.pull 5 rfl
 have hs:=hs.pull 5 rfl
 have hs:=hs.pull 5 rfl
 have hs:=hs.pull 5 rfl
 have hs:St _ [_,_,_,_,_,_] _:=St.take (Γ':=[]) hs
 exact ha _ _ ⟨b79,r78.1,r78.2,H,rfl,hs⟩
theorem Qal.seg7 {N : Nat} {a1 : (List Int)} {a3 : (List Int)} {v2 : Value} {v4 : Value} {w0 : World} {r : Bool} (htab : Lib.TabIs Tryz.prog w0 "internal/strconv.uint64pow10" .u64 Lib.pow10Tab) (hmax : CellI w0 0) (hsyn : CellE w0 2) (hrng : CellE w0 3) (hdbr : CellU w0 7 15 4) (hr0 : RdRow (K.int .u8) w0 v2 a1) (hr1 : RdRow (K.int .u8) w0 v4 a3) :
 ∀ t w,(fun t w=>Qal.j6 N a3=some r∧Fr t (fun O=>(O 0::v4::O 2::O 3::O 4::O 5::O 6::O 7::O 8::O 9::oT O 1 (oT O 2 (oT O 3 (oT O 4 (oT O 5 (oT O 6 (oT O 7 (oT O 8 (oT O 9 (oT O 10 (oT O 11 (oT O 12 (oT O 13 (oT O 14 (oT O 15 (oT O 16 (oT O 17 (oT O 18 (oT O 19 (oT O 20 (oT O 21 (oT O 22 (oT O 23 (oT O 24 (oT O 25 (oT O 26 (oT O 27 (oT O 28 (oT O 29 (oT O 30 (oT O 31 (oT O 32 (oT O 33 (oT O 34 (oT O 35 (oT O 36 (oT O 37 (oT O 38 (oT O 39 (oT O 40 (oT O 41 (oT O 42 (O 430::O 431::O 432::O 433::O 434::O 435::[])))))))))))))))))))))))))))))))))))))))))):List Value))∧St w0 [] w) t w→G Tryz.prog 3 (fun e w=>∃ v,e= .returned v∧Qal.post w0 r v w) [.code (Code.at_ (Tryz.f3.body.getD .skip) [1,1,1,1,1,1,1,1,1,1,1,1,1,1,1])] t w:=by
 rintro t w ⟨H,hf,hs⟩
 obtain ⟨O,rfl⟩:=hf.open
 try dsimp only [oT]
 unfold Qal.j6 at H
 refine Qaf (Qak [0,1,2,3] rfl ?_)
 refine Qaa (v:=v4) rfl rfl rfl (g_d rfl ?_)
 obtain ⟨r58,Hr58,H⟩:=bind_get H
 refine Qas (args:=[v4]) rfl rfl (Qat rfl (callFunc_enter Tryz.func17 rfl rfl) rfl) (Qb8.calls (a1:=a3) (hs.rd hr1) Hr58) ?_
 rintro _ w ⟨v59,rfl,hs2⟩
 have hs:St _ [_] _:=hs.call hs2
 refine g_d rfl ?_
 try dsimp only [Qai,Qaj]
 refine Qa5 hs rfl rfl (z:=(agg #[int .i8 0,int .i8 0,slice none 0 0])) (cs:=(([int .i8 0,int .i8 0,slice none 0 0]:List Value))) rfl (fun _=>rfl) rfl ?_
 intro b61 w hs
 refine g_d rfl ?_
 refine QaB (n:=3) hs rfl rfl rfl (vs:=(([int .i8 r58.Qac,int .i8 r58.Qae,v59]:List Value))) rfl rfl rfl (fun _=>rfl) rfl (by intro v hv;simp only [List.mem_append,List.mem_cons,List.not_mem_nil,or_false] at hv;repeat (first|(subst hv;first|rfl|exact slOne (hs.row 1 rfl))|(rcases hv with hv|hv))) ?_
 intro w hs
 refine g_n rfl (Qab (Qaf (Qak [0,1,2,3,4,5,6] rfl ?_)))
 refine QaG rfl rfl (es:=(([int .i8 r58.Qac,int .i8 r58.Qae,v59]:List Value))) rfl rfl (fun _=>rfl) (n:=3) (fun _=>rfl) rfl (cells_all (hs.cells 0 rfl)) (g_d rfl ?_)
 try dsimp only [Qai,Qaj]
 obtain ⟨r63,Hr63,H⟩:=bind_get H
 refine Qas (args:=[agg (([int .i8 r58.Qac,int .i8 r58.Qae,v59]:List Value)).toArray]) rfl rfl (Qat rfl (callFunc_enter Tryz.func18 rfl rfl) rfl) (QbI.calls (a1:=(⟨r58.Qac,r58.Qae,r58.Qah⟩:Qag)) (hs.row 1 rfl) Hr63) ?_
 rintro _ w ⟨v64,rfl,hs2⟩
 have hs:St _ [_,_,_] _:=hs.call hs2
 refine g_d rfl ?_
 refine Qaa (v:=tuple #[v64,int .i64 r63.2]) rfl rfl rfl (g_d rfl ?_)
 refine Qaa (v:=v64) rfl rfl rfl (g_d rfl ?_)
 refine Qaa (v:=int .i64 r63.2) rfl rfl rfl (g_d rfl ?_)
 refine Qaa (v:=v64) rfl rfl rfl (g_d rfl ?_)
 try dsimp only [Qai,Qaj]
 refine Qaa (v:=int .i64 r63.2) rfl rfl rfl (g_d rfl (Qab (Qaf ?_)))
 refine Qcp (J:=(fun t w=>∃ v71:Value,∃ x72:(List Int),∃ x74:Int,Qal.j7 N r58 r63 x72 x74=some r∧Fr t (fun O=>(oT O 0 (oT O 1 (O 20::O 21::O 22::O 23::O 24::pointer (some ⟨b61,0,none⟩)::v64::int .i64 r63.2::v71::int .i64 x74::oT O 3 (oT O 4 (oT O 5 (oT O 6 (oT O 7 (oT O 8 (oT O 9 (oT O 10 (oT O 11 (oT O 12 (oT O 13 (oT O 14 (oT O 15 (oT O 16 (oT O 17 (oT O 18 (oT O 19 (oT O 20 (oT O 21 (oT O 22 (oT O 23 (oT O 24 (oT O 25 (oT O 26 (oT O 27 (oT O 28 (oT O 29 (oT O 30 (oT O 31 (oT O 32 (oT O 33 (oT O 34 (oT O 35 (oT O 36 (oT O 37 (oT O 38 (oT O 39 (oT O 40 (oT O 41 (oT O 42 (O 430::O 431::O 432::O 433::O 434::O 435::[])))))))))))))))))))))))))))))))))))))))))):List Value))∧St w0 [Cells b61 (([int .i8 r58.Qac,int .i8 r58.Qae,v59]:List Value)) 30,Row 61 Qao v59 r58.Qah,Row 2 (K.int .i64) v64 r63.1,Row 2 (K.int .i64) v71 x72] w)) ?_ ?_
 ·exact Qal.seg6 htab hmax hsyn hrng hdbr hr0 hr1
 intro ha
 refine Qak [0,1,2,3,4,5,6] rfl ?_
 refine QaG rfl rfl (es:=(([int .i8 r58.Qac,int .i8 r58.Qae,v59]:List Value))) rfl rfl (fun _=>rfl) (n:=3) (fun _=>rfl) rfl (cells_all (hs.cells 1 rfl)) (g_d rfl ?_)
 try dsimp only [Qai,Qaj]
 obtain ⟨r66,Hr66,H⟩:=bind_get H
 refine Qas (args:=[agg (([int .i8 r58.Qac,int .i8 r58.Qae,v59]:List Value)).toArray]) rfl rfl (Qat rfl (callFunc_enter Tryz.func19 rfl rfl) rfl) (QbJ.calls (a1:=(⟨r58.Qac,r58.Qae,r58.Qah⟩:Qag)) (hs.row 2 rfl) Hr66) ?_
 rintro _ w ⟨v67,rfl,hs2⟩
 have hs:St _ [_,_,_,_] _:=hs.call hs2
 refine g_d rfl ?_
 refine Qaa (v:=tuple #[v67,int .i64 r66.2]) rfl rfl rfl (g_d rfl ?_)
 refine Qaa (v:=v67) rfl rfl rfl (g_d rfl ?_)
 refine Qaa (v:=int .i64 r66.2) rfl rfl rfl (g_d rfl ?_)
 refine Qaa (v:=v67) rfl rfl rfl (g_d rfl ?_)
 try dsimp only [Qai,Qaj]
 refine Qaa (v:=int .i64 r66.2) rfl rfl rfl (g_d rfl (Qab ?_))
 have hs:=hs.pull 0 rfl
 have hs:=hs.pull 1 rfl
 have hs:=hs.pull 3 rfl
 have hs:=hs.pull 3 rfl
 have hs:St _ [_,_,_,_] _:=St.take (Γ':=[]) hs
 exact ha _ _ ⟨v67,r66.1,r66.2,H,rfl,hs⟩
end Go.Proofs.YtdnipilfcjkfoaaGreatDoorX
