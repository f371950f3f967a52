import Derived.Test.YtdnipilfcjkfoaaGreatDoorP16
namespace Go.Proofs.YtdnipilfcjkfoaaGreatDoorX
open Go Go.RowKit Go.Proofs
open Go.Value (int pointer bool agg slice string tuple)
set_option maxHeartbeats 40000000
set_option maxRecDepth 100000
set_option linter.unusedVariables false
set_option linter.unusedSimpArgs false
theorem Qal.seg3 {N : Nat} {a1 : (List Int)} {a3 : (List Int)} {v2 : Value} {v4 : Value} {r58 : Qag} {x72 : (List Int)} {r87 : (Int × Int)} {x85 : (Ar Int 4)} {x95 : (Ar Int 4)} {b61 : Nat} {v71 : Value} {b84 : Nat} {b94 : Nat} {v59 : Value} {w0 : World} {r : Bool} (htab : Lib.TabIs Tryz.prog w0 "internal/strconv.uint64pow10" .u64 Lib.pow10Tab) (hmax : CellI w0 0) (hsyn : CellE w0 2) (hrng : CellE w0 3) (hdbr : CellU w0 7 15 4) (hr0 : RdRow (K.int .u8) w0 v2 a1) (hr1 : RdRow (K.int .u8) w0 v4 a3) :
 ∀ t w,(fun t w=>Qal.j10 N r58 x72 r87 x85 x95=some r∧Fr t (fun O=>(oT O 0 (oT O 1 (O 20::O 21::O 22::O 23::O 24::pointer (some ⟨b61,0,none⟩)::O 26::O 27::v71::O 29::O 30::O 31::pointer (some ⟨b84,0,none⟩)::O 33::int .u64 r87.1::O 35::pointer (some ⟨b94,0,none⟩)::O 37::O 38::O 39::oT O 4 (oT O 5 (oT O 6 (oT O 7 (oT O 8 (oT O 9 (oT O 10 (oT O 11 (oT O 12 (oT O 13 (oT O 14 (oT O 15 (oT O 16 (oT O 17 (oT O 18 (oT O 19 (oT O 20 (oT O 21 (oT O 22 (oT O 23 (oT O 24 (oT O 25 (oT O 26 (oT O 27 (oT O 28 (oT O 29 (oT O 30 (oT O 31 (oT O 32 (oT O 33 (oT O 34 (oT O 35 (oT O 36 (oT O 37 (oT O 38 (oT O 39 (oT O 40 (oT O 41 (oT O 42 (O 430::O 431::O 432::O 433::O 434::O 435::[]))))))))))))))))))))))))))))))))))))))))):List Value))∧St w0 [Cells b61 (([int .i8 r58.Qac,int .i8 r58.Qae,v59]:List Value)) 30,Row 61 Qao v59 r58.Qah,Row 2 (K.int .i64) v71 x72,Cells b84 ((encA (encI .i64)) x85) 47,Cells b94 ((encA (encI .i64)) x95) 47] w) t w→G Tryz.prog 3 (fun e w=>∃ v,e= .returned v∧Qal.post w0 r v w) [.code (Code.at_ (Tryz.f3.body.getD .skip) [1,1,1,1,1,1,1,1,1,1,1,1,1,1,1,1,1,1,1,1,1,1,1,1])] t w:=by
 rintro t w ⟨H,hf,hs⟩
 obtain ⟨O,rfl⟩:=hf.open
 try dsimp only [oT]
 unfold Qal.j10 at H
 refine Qaf (Qak [0,1,2] rfl ?_)
 refine Qaa (v:=agg ((encA (encI .i64)) (Ar.rep 4 0)).toArray) rfl rfl (Qb7 rfl rfl) (g_d rfl ?_)
 refine Qa5 hs rfl rfl (z:=(agg #[int .i64 0,int .i64 0,int .i64 0,int .i64 0])) (cs:=((encA (encI .i64)) (Ar.rep 4 0))) rfl (fun _=>rfl) rfl ?_
 intro b101 w hs
 refine g_d rfl ?_
 try dsimp only [Qai,Qaj]
 refine QaB (n:=4) hs ((fkA (n:=4) (he:=(fkI .i64).len) (h1:=(fkI .i64).one)).len _) rfl rfl (vs:=((encA (encI .i64)) (Ar.rep 4 0))) rfl rfl rfl (fun _=>rfl) ((fkA (n:=4) (he:=(fkI .i64).len) (h1:=(fkI .i64).one)).len _) ((fkA (n:=4) (he:=(fkI .i64).len) (h1:=(fkI .i64).one)).one _) ?_
 intro w hs
 refine g_n rfl (Qab (Qaf (Qak [0,1,2] rfl ?_)))
 refine Qaa (v:=agg ((encA (encI .i64)) (Ar.rep 4 0)).toArray) rfl rfl (Qb7 rfl rfl) (g_d rfl ?_)
 refine Qa5 hs rfl rfl (z:=(agg #[int .i64 0,int .i64 0,int .i64 0,int .i64 0])) (cs:=((encA (encI .i64)) (Ar.rep 4 0))) rfl (fun _=>rfl) rfl ?_
 intro b103 w hs
 refine g_d rfl ?_
 try dsimp only [Qai,Qaj]
 refine QaB (n:=4) hs ((fkA (n:=4) (he:=(fkI .i64).len) (h1:=(fkI .i64).one)).len _) rfl rfl (vs:=((encA (encI .i64)) (Ar.rep 4 0))) rfl rfl rfl (fun _=>rfl) ((fkA (n:=4) (he:=(fkI .i64).len) (h1:=(fkI .i64).one)).len _) ((fkA (n:=4) (he:=(fkI .i64).len) (h1:=(fkI .i64).one)).one _) ?_
 intro w hs
 refine g_n rfl (Qab (Qaf (Qaf (Qak [0] rfl ?_))))
 refine Qaa (v:=int .i64 0) rfl rfl rfl (g_d rfl (Qab ?_))
 refine Qcp (J:=(fun t w=>∃ x163:(Ar Int 4),∃ x164:(Ar Int 4),Qal.j11 N x85 x95 r58 r87 x163 x164=some r∧Fr t (fun O=>(oT O 0 (oT O 1 (O 20::O 21::O 22::O 23::O 24::pointer (some ⟨b61,0,none⟩)::O 26::O 27::O 28::O 29::O 30::O 31::pointer (some ⟨b84,0,none⟩)::O 33::int .u64 r87.1::O 35::pointer (some ⟨b94,0,none⟩)::O 37::O 38::O 39::pointer (some ⟨b101,0,none⟩)::pointer (some ⟨b103,0,none⟩)::O 42::O 43::O 44::O 45::O 46::O 47::O 48::O 49::oT O 5 (oT O 6 (oT O 7 (oT O 8 (oT O 9 (oT O 10 (oT O 11 (oT O 12 (oT O 13 (oT O 14 (oT O 15 (oT O 16 (oT O 17 (oT O 18 (oT O 19 (oT O 20 (oT O 21 (oT O 22 (oT O 23 (oT O 24 (oT O 25 (oT O 26 (oT O 27 (oT O 28 (oT O 29 (oT O 30 (oT O 31 (oT O 32 (oT O 33 (oT O 34 (oT O 35 (oT O 36 (oT O 37 (oT O 38 (oT O 39 (oT O 40 (oT O 41 (oT O 42 (O 430::O 431::O 432::O 433::O 434::O 435::[])))))))))))))))))))))))))))))))))))))))):List Value))∧St w0 [Cells b61 (([int .i8 r58.Qac,int .i8 r58.Qae,v59]:List Value)) 30,Row 61 Qao v59 r58.Qah,Cells b84 ((encA (encI .i64)) x85) 47,Cells b94 ((encA (encI .i64)) x95) 47,Cells b101 ((encA (encI .i64)) x163) 47,Cells b103 ((encA (encI .i64)) x164) 47] w)) ?_ ?_
 ·exact Qal.seg2 htab hmax hsyn hrng hdbr hr0 hr1
 intro ha
 obtain ⟨o1_,Ho,Hr1_⟩:=bind_get H
 refine QaF (J:=fun t w=>∃ x160:(Ar Int 4),∃ x161:(Ar Int 4),Qal.a14 N x85 x95 r58 r87 x160 x161=some r∧Fr t (fun O=>(oT O 0 (oT O 1 (O 20::O 21::O 22::O 23::O 24::pointer (some ⟨b61,0,none⟩)::O 26::O 27::O 28::O 29::O 30::O 31::pointer (some ⟨b84,0,none⟩)::O 33::int .u64 r87.1::O 35::pointer (some ⟨b94,0,none⟩)::O 37::O 38::O 39::pointer (some ⟨b101,0,none⟩)::pointer (some ⟨b103,0,none⟩)::O 42::O 43::O 44::O 45::O 46::O 47::O 48::O 49::oT O 5 (oT O 6 (oT O 7 (oT O 8 (oT O 9 (oT O 10 (oT O 11 (oT O 12 (oT O 13 (oT O 14 (oT O 15 (oT O 16 (oT O 17 (oT O 18 (oT O 19 (oT O 20 (oT O 21 (oT O 22 (oT O 23 (oT O 24 (oT O 25 (oT O 26 (oT O 27 (oT O 28 (oT O 29 (oT O 30 (oT O 31 (oT O 32 (oT O 33 (oT O 34 (oT O 35 (oT O 36 (oT O 37 (oT O 38 (oT O 39 (oT O 40 (oT O 41 (oT O 42 (O 430::O 431::O 432::O 433::O 434::O 435::[])))))))))))))))))))))))))))))))))))))))):List Value))∧St w0 [Cells b61 (([int .i8 r58.Qac,int .i8 r58.Qae,v59]:List Value)) 30,Row 61 Qao v59 r58.Qah,Cells b84 ((encA (encI .i64)) x85) 47,Cells b94 ((encA (encI .i64)) x95) 47,Cells b101 ((encA (encI .i64)) x160) 47,Cells b103 ((encA (encI .i64)) x161) 47] w) ?_ ?_
 ·
  rintro t w ⟨x160,x161,H,hf,hs⟩
  obtain ⟨O,rfl⟩:=hf.open
  try dsimp only [oT]
  unfold Qal.a14 at H
  have hs:=hs.pull 5 rfl
  have hs:=hs.pull 5 rfl
  have hs:=hs.pull 5 rfl
  have hs:=hs.pull 5 rfl
  have hs:=hs.pull 5 rfl
  have hs:=hs.pull 5 rfl
  have hs:St _ [_,_,_,_,_,_] _:=St.take (Γ':=[]) hs
  exact ha _ _ ⟨x160,x161,H,rfl,hs⟩
 intro ha1_
 have hs:=hs.pull 0 rfl
 have hs:=hs.pull 1 rfl
 have hs:=hs.pull 6 rfl
 have hs:=hs.pull 6 rfl
 have hs:=hs.pull 6 rfl
 have hs:=hs.pull 5 rfl
 have hs:=hs.pull 6 rfl
 have hs:St _ [_,_,_,_,_,_,_] _:=St.take (Γ':=[]) hs
 refine QaZ (I:=fun n_ t w=>∃ x131:(Ar Int 4),∃ x132:(Ar Int 4),∃ x133:Int,rounds (fun s=>Qal.b14 N r58 x72 r87 s.1 s.2.1 s.2.2) n_ (x131,x132,x133)=some o1_∧Fr t (fun O=>(oT O 0 (oT O 1 (O 20::O 21::O 22::O 23::O 24::pointer (some ⟨b61,0,none⟩)::O 26::O 27::v71::O 29::O 30::O 31::pointer (some ⟨b84,0,none⟩)::O 33::int .u64 r87.1::O 35::pointer (some ⟨b94,0,none⟩)::O 37::O 38::O 39::pointer (some ⟨b101,0,none⟩)::pointer (some ⟨b103,0,none⟩)::int .i64 x133::O 43::O 44::O 45::O 46::O 47::O 48::O 49::oT O 5 (oT O 6 (oT O 7 (oT O 8 (oT O 9 (oT O 10 (oT O 11 (oT O 12 (oT O 13 (oT O 14 (oT O 15 (oT O 16 (oT O 17 (oT O 18 (oT O 19 (oT O 20 (oT O 21 (oT O 22 (oT O 23 (oT O 24 (oT O 25 (oT O 26 (oT O 27 (oT O 28 (oT O 29 (oT O 30 (oT O 31 (oT O 32 (oT O 33 (oT O 34 (oT O 35 (oT O 36 (oT O 37 (oT O 38 (oT O 39 (oT O 40 (oT O 41 (oT O 42 (O 430::O 431::O 432::O 433::O 434::O 435::[])))))))))))))))))))))))))))))))))))))))):List Value))∧St w0 [Row 61 Qao v59 r58.Qah,Cells b61 (([int .i8 r58.Qac,int .i8 r58.Qae,v59]:List Value)) 30,Row 2 (K.int .i64) v71 x72,Cells b84 ((encA (encI .i64)) x85) 47,Cells b94 ((encA (encI .i64)) x95) 47,Cells b101 ((encA (encI .i64)) x131) 47,Cells b103 ((encA (encI .i64)) x132) 47] w) N ⟨(Ar.rep 4 0),(Ar.rep 4 0),0,Ho,rfl,hs⟩ ?_ ?_
 ·
  rintro _ _ ⟨x131,x132,x133,h,_⟩
  exact rounds_zero h
 intro n_ ih1_
 rintro t w ⟨x131,x132,x133,Ho,hf,hs⟩
 obtain ⟨O,rfl⟩:=hf.open
 try dsimp only [oT]
 obtain ⟨x111_,H,Hx1_⟩:=rounds_succ Ho
 have H:Qal.b14 N r58 x72 r87 x131 x132 x133=some x111_:=H
 unfold Qal.b14 at H
 refine Qaf (Qaf (Qak [0,1,2,3,4] rfl ?_))
 refine Qaa (v:=int .i64 x133) rfl rfl rfl (g_d rfl ?_)
 refine Qaa (v:=pointer (some ⟨b61,0,none⟩)) rfl rfl rfl (g_d rfl ?_)
 refine Qaw rfl rfl (v:=int .i8 r58.Qac) rfl rfl (fun _=>rfl) (cells_load (hs.cells 1 rfl) 0 1 rfl) (g_d rfl ?_)
 try dsimp only [Qai,Qaj]
 refine Qaa (v:=int .i64 (i64w r58.Qac)) rfl rfl rfl (g_d rfl ?_)
 refine QaA (B:=decide (x133< (i64w r58.Qac))) rfl rfl rfl ?_ ?_
 · as_aux_lemma =>
  intro hb
  rw [if_pos (b_dec_t hb)] at H
  refine g_d rfl ?_
  try dsimp only [Qai,Qaj]
  refine Qab (Qam rfl (QaE (Qaf ?_)))
  refine QaF (J:=(fun t w=>∃ x147:(Ar Int 4),∃ x148:(Ar Int 4),∃ x149:Int,∃ x150:Bool,∃ v151:Value,∃ x152:(List Int),∃ x154:Int,∃ x155:Int,∃ x156:Bool,∃ x157:Bool,∃ x158:Bool,Qal.j16 N x133 x147 x148 x149 x150 x152 x154 x155 x156 x157 x158=some x111_∧Fr t (fun O=>(oT O 0 (oT O 1 (O 20::O 21::O 22::O 23::O 24::pointer (some ⟨b61,0,none⟩)::O 26::O 27::v71::O 29::O 30::O 31::pointer (some ⟨b84,0,none⟩)::O 33::int .u64 r87.1::O 35::pointer (some ⟨b94,0,none⟩)::O 37::O 38::O 39::pointer (some ⟨b101,0,none⟩)::pointer (some ⟨b103,0,none⟩)::int .i64 x133::O 43::O 44::O 45::O 46::O 47::O 48::O 49::oT O 5 (oT O 6 (oT O 7 (oT O 8 (oT O 9 (oT O 10 (oT O 11 (oT O 12 (oT O 13 (oT O 14 (oT O 15 (oT O 16 (oT O 17 (oT O 18 (oT O 19 (oT O 20 (oT O 21 (oT O 22 (oT O 23 (oT O 24 (oT O 25 (oT O 26 (oT O 27 (oT O 28 (oT O 29 (oT O 30 (O 310::O 311::O 312::O 313::O 314::O 315::O 316::O 317::int .i64 x149::bool x150::O 320::O 321::v151::int .i64 x154::int .i64 x155::bool x156::O 326::O 327::v71::int .i64 x133::bool x157::int .i64 x155::pointer (some ⟨b61,1,none⟩)::int .i8 r58.Qae::int .i64 (i64w r58.Qae)::bool x158::bool false::O 337::O 338::O 339::oT O 34 (oT O 35 (oT O 36 (oT O 37 (oT O 38 (oT O 39 (oT O 40 (oT O 41 (oT O 42 (O 430::O 431::O 432::O 433::O 434::O 435::[]))))))))))))))))))))))))))))))))))))):List Value))∧St w0 [Cells b61 (([int .i8 r58.Qac,int .i8 r58.Qae,v59]:List Value)) 30,Row 61 Qao v59 r58.Qah,Row 2 (K.int .i64) v71 x72,Cells b84 ((encA (encI .i64)) x85) 47,Cells b94 ((encA (encI .i64)) x95) 47,Cells b101 ((encA (encI .i64)) x147) 47,Cells b103 ((encA (encI .i64)) x148) 47,Row 2 (K.int .i64) v151 x152] w)) ?_ ?_
  ·
   rintro t w ⟨x147,x148,x149,x150,v151,x152,x154,x155,x156,x157,x158,H,hf,hs⟩
   obtain ⟨O,rfl⟩:=hf.open
   try dsimp only [oT]
   unfold Qal.j16 at H
   refine Qak [0,1,2] rfl ?_
   refine Qaa (v:=int .i64 x133) rfl rfl rfl (g_d rfl ?_)
   refine Qaa (v:=int .i64 (i64w (x133+1))) rfl rfl rfl (g_d rfl ?_)
   try dsimp only [Qai,Qaj]
   refine Qaa (v:=int .i64 (i64w (x133+1))) rfl rfl rfl (g_d rfl (Qab ?_))
   obtain rfl:=QsJ H
   have hs:=hs.pull 6 rfl
   have hs:=hs.pull 6 rfl
   have hs:=hs.pull 6 rfl
   have hs:=hs.pull 6 rfl
   have hs:=hs.pull 6 rfl
   have hs:=hs.pull 5 rfl
   have hs:=hs.pull 6 rfl
   have hs:St _ [_,_,_,_,_,_,_] _:=St.take (Γ':=[_]) hs
   exact ih1_ _ _ ⟨x147,x148,i64w (x133+1),Hx1_,rfl,hs⟩
  intro ha
  refine Qaf (Qak [0,1,2,3,4,5,6,7] rfl ?_)
  refine QaG rfl rfl (es:=(([int .i8 r58.Qac,int .i8 r58.Qae,v59]:List Value))) rfl rfl (fun _=>rfl) (n:=3) (fun _=>rfl) rfl (cells_all (hs.cells 1 rfl)) (g_d rfl ?_)
  refine Qaa (v:=int .i64 x133) rfl rfl rfl (g_d rfl ?_)
  obtain ⟨r134,Hr134,H⟩:=bind_get H
  refine Qas (args:=[agg (([int .i8 r58.Qac,int .i8 r58.Qae,v59]:List Value)).toArray,int .i64 x133]) rfl rfl (Qat rfl (callFunc_enter Tryz.func26 rfl rfl) rfl) (Qca.calls (a1:=(⟨r58.Qac,r58.Qae,r58.Qah⟩:Qag)) (a4:=x133) (hs.row 0 rfl) Hr134) ?_
  rintro _ w ⟨rfl,hs2⟩
  have hs:St _ [_,_,_,_,_,_,_] _:=hs.call hs2
  refine g_d rfl ?_
  try dsimp only [Qai,Qaj]
  refine Qaa (v:=tuple #[int .i64 r134.1,int .i64 r134.2]) rfl rfl rfl (g_d rfl ?_)
  refine Qaa (v:=int .i64 r134.1) rfl rfl rfl (g_d rfl ?_)
  refine Qaa (v:=int .i64 r134.2) rfl rfl rfl (g_d rfl ?_)
  refine Qaa (v:=int .i64 r134.1) rfl rfl rfl (g_d rfl ?_)
  refine Qaa (v:=int .i64 r134.2) rfl rfl rfl (g_d rfl ?_)
  try dsimp only [Qai,Qaj]
  refine Qab (Qaf (Qak [0,1,2,3,4,5,6,7] rfl ?_))
  refine QaG rfl rfl (es:=(([int .i8 r58.Qac,int .i8 r58.Qae,v59]:List Value))) rfl rfl (fun _=>rfl) (n:=3) (fun _=>rfl) rfl (cells_all (hs.cells 1 rfl)) (g_d rfl ?_)
  refine Qaa (v:=int .i64 x133) rfl rfl rfl (g_d rfl ?_)
  obtain ⟨r135,Hr135,H⟩:=bind_get H
  refine Qas (args:=[agg (([int .i8 r58.Qac,int .i8 r58.Qae,v59]:List Value)).toArray,int .i64 x133]) rfl rfl (Qat rfl (callFunc_enter Tryz.func27 rfl rfl) rfl) (QbL.calls (a1:=(⟨r58.Qac,r58.Qae,r58.Qah⟩:Qag)) (a4:=x133) (hs.row 0 rfl) Hr135) ?_
  rintro _ w ⟨v136,rfl,hs2⟩
  have hs:St _ [_,_,_,_,_,_,_,_] _:=hs.call hs2
  refine g_d rfl ?_
  try dsimp only [Qai,Qaj]
  refine Qaa (v:=tuple #[v136,int .i64 r135.2]) rfl rfl rfl (g_d rfl ?_)
  refine Qaa (v:=v136) rfl rfl rfl (g_d rfl ?_)
  refine Qaa (v:=int .i64 r135.2) rfl rfl rfl (g_d rfl ?_)
  refine Qaa (v:=v136) rfl rfl rfl (g_d rfl ?_)
  refine Qaa (v:=int .i64 r135.2) rfl rfl rfl (g_d rfl ?_)
  try dsimp only [Qai,Qaj]
  refine Qab (Qaf (Qaf ?_))
  by_cases hb58_:r134.2=0
  · as_aux_lemma =>
   rw [if_pos hb58_] at H
   refine Qcj (n:=23) rfl [0,1,2,3,4,5,6,7,8,9,10,11,12,13,14,15,16,17,18,19,20,21,22] [0,1,2,3,4,5,6,7,8,9,10,11,12,13,14,15,16,17,18,19,20,21,22] rfl rfl ?_
   intro rest w hh hbw hO
   have hs:=hs.samew hh hbw
   try dsimp only [Qai,Qaj]
   obtain ⟨rest,rfl,hO59_⟩:=ord_one (m:=0) hO rfl 0 (m':=1) (by decide+kernel) rfl
   clear hO
   refine Qaa (v:=int .i64 r134.2) rfl rfl rfl (g_d rfl ?_)
   obtain ⟨rest,rfl,hO60_⟩:=ord_one (m:=1) hO59_ rfl 1 (m':=3) (by decide+kernel) rfl
   clear hO59_
   refine Qaa (v:=bool false) rfl rfl (run_bool (b:=r134.2 !=0) rfl (by first|exact decide_eq_true hb58_|exact decide_eq_false hb58_|simp [hb58_])) (g_d rfl ?_)
   obtain ⟨rest,rfl,hO61_⟩:=ord_one (m:=3) hO60_ rfl 2 (m':=7) (by decide+kernel) rfl
   clear hO60_
   refine Qaa (v:=bool false) rfl rfl rfl (g_d rfl ?_)
   obtain ⟨rest,rfl,hO62_⟩:=ord_one (m:=7) hO61_ rfl 3 (m':=15) (by decide+kernel) rfl
   clear hO61_
   refine Qaa (v:=int .i64 r135.2) rfl rfl rfl (g_d rfl ?_)
   obtain ⟨rest,rfl,hO63_⟩:=ord_one (m:=15) hO62_ rfl 4 (m':=31) (by decide+kernel) rfl
   clear hO62_
   refine Qaa (v:=bool (r135.2 !=0)) rfl rfl rfl (g_d rfl ?_)
   try dsimp only [Qai,Qaj]
   obtain ⟨rest,rfl,hO64_⟩:=ord_one (m:=31) hO63_ rfl 5 (m':=63) (by decide+kernel) rfl
   clear hO63_
   refine QaA (B:=r135.2 !=0) rfl rfl rfl ?_ ?_
   · as_aux_lemma =>
    intro hb
    rw [if_neg (b_bne_t hb)] at H
    refine g_d rfl ?_
    try dsimp only [Qai,Qaj]
    obtain ⟨rest,rfl,hO65_⟩:=ord_one (m:=63) hO64_ rfl 6 (m':=127) (by decide+kernel) rfl
    clear hO64_
    refine Qaa (v:=bool true) rfl rfl rfl (g_d rfl ?_)
    refine Qbu ?_
    intro T hT
    refine QbV (m0:=127) hO65_ rfl 1023 [7,8,9] [0,1,3,7,15,31,63,127,255,127,1023,2047,4095,8191,8191,32767,8191,8191,139263,401407,991231,2097151,4194303] (by decide+kernel) (fun D t w=>∃ O:Nat→Value,t=(oT O 0 (oT O 1 (O 20::O 21::O 22::O 23::O 24::pointer (some ⟨b61,0,none⟩)::O 26::O 27::v71::O 29::O 30::O 31::pointer (some ⟨b84,0,none⟩)::O 33::int .u64 r87.1::O 35::pointer (some ⟨b94,0,none⟩)::O 37::O 38::O 39::pointer (some ⟨b101,0,none⟩)::pointer (some ⟨b103,0,none⟩)::int .i64 x133::int .i64 r134.1::int .i64 r134.2::v136::int .i64 r135.2::O 47::O 48::O 49::oT O 5 (oT O 6 (oT O 7 (oT O 8 (oT O 9 (oT O 10 (oT O 11 (oT O 12 (oT O 13 (oT O 14 (oT O 15 (oT O 16 (oT O 17 (oT O 18 (oT O 19 (oT O 20 (oT O 21 (oT O 22 (oT O 23 (oT O 24 (oT O 25 (oT O 26 (oT O 27 (oT O 28 (O 290::O 291::O 292::O 293::O 294::O 295::int .i64 x133::pointer (some ⟨b61,0,none⟩)::int .i8 r58.Qac::int .i64 (i64w r58.Qac)::bool true::O 301::O 302::tuple #[int .i64 r134.1,int .i64 r134.2]::agg (([int .i8 r58.Qac,int .i8 r58.Qae,v59]:List Value)).toArray::int .i64 x133::tuple #[int .i64 r134.1,int .i64 r134.2]::int .i64 r134.1::int .i64 r134.2::tuple #[v136,int .i64 r135.2]::agg (([int .i8 r58.Qac,int .i8 r58.Qae,v59]:List Value)).toArray::int .i64 x133::tuple #[v136,int .i64 r135.2]::v136::int .i64 r135.2::int .i64 r134.2::bool false::bool false::int .i64 r135.2::bool (r135.2 !=0)::bool true::bool true::cnd (D 7) undef (O 322)::cnd (D 8) undef (O 323)::cnd (D 9) undef (O 324)::O 325::O 326::O 327::O 328::O 329::oT O 33 (oT O 34 (oT O 35 (oT O 36 (oT O 37 (oT O 38 (oT O 39 (oT O 40 (oT O 41 (oT O 42 (O 430::O 431::O 432::O 433::O 434::O 435::[])))))))))))))))))))))))))))))))))))))∧St w0 [Row 2 (K.int .i64) v136 r135.1,Row 61 Qao v59 r58.Qah,Cells b61 (([int .i8 r58.Qac,int .i8 r58.Qae,v59]:List Value)) 30,Row 2 (K.int .i64) v71 x72,Cells b84 ((encA (encI .i64)) x85) 47,Cells b94 ((encA (encI .i64)) x95) 47,Cells b101 ((encA (encI .i64)) x131) 47,Cells b103 ((encA (encI .i64)) x132) 47] w) ?_ ⟨?_,⟨?_,⟨?_,trivial⟩⟩⟩ ?_
    ·exact ⟨fun i=>T.getD i undef,(by subst hT;rfl),hs⟩
    ·
     rintro D t w hD hp hcl ⟨O,ht,hs⟩ rest hk
     have hp:AllDone D [6]:=hp
     obtain ⟨p6_,_⟩:=hp
     have q8_:=ny hcl 8 0 hD
     simp only [hD,q8_,cq,oT] at ht hs
     subst ht
     refine Qad rfl rfl (g_d rfl ?_)
     try dsimp only [Qai,Qaj]
     refine hk _ _ ⟨O,?_,hs.cast ?_⟩<;>simp only [oT,cq,Nat.reduceBEq,q8_]
    ·
     rintro D t w hD hp hcl ⟨O,ht,hs⟩ rest hk
     have hp:AllDone D [7,6]:=hp
     obtain ⟨p7_,p6_,_⟩:=hp
     simp only [hD,p7_,cq,oT] at ht hs
     subst ht
     refine Qad rfl rfl (g_d rfl ?_)
     try dsimp only [Qai,Qaj]
     refine hk _ _ ⟨O,?_,hs.cast ?_⟩<;>simp only [oT,cq,Nat.reduceBEq,p7_]
    ·
     rintro D t w hD hp hcl ⟨O,ht,hs⟩ rest hk
     have hp:AllDone D [6]:=hp
     obtain ⟨p6_,_⟩:=hp
     simp only [hD,cq,oT] at ht hs
     subst ht
     refine Qad rfl rfl (g_d rfl ?_)
     try dsimp only [Qai,Qaj]
     refine hk _ _ ⟨O,?_,hs.cast ?_⟩<;>simp only [oT,cq,Nat.reduceBEq]
    intro D t w rest hall hO66_ hI
    obtain ⟨O,ht,hs⟩:=hI
    have p7_:=hall 7 (by decide) rfl
    have p8_:=hall 8 (by decide) rfl
    have p9_:=hall 9 (by decide) rfl
    simp only [p7_,p8_,p9_,cq,oT] at ht hs
    subst ht
    obtain ⟨rest,rfl,hO67_⟩:=ord_one (m:=1023) hO66_ rfl 10 (m':=2047) (by decide+kernel) rfl
    clear hO66_
    refine Qad rfl rfl (g_d rfl ?_)
    obtain ⟨rest,rfl,hO68_⟩:=ord_one (m:=2047) hO67_ rfl 11 (m':=4095) (by decide+kernel) rfl
    clear hO67_
    refine Qaa (v:=bool true) rfl rfl rfl (g_d rfl ?_)
    try dsimp only [Qai,Qaj]
    obtain ⟨rest,rfl,hO69_⟩:=ord_one (m:=4095) hO68_ rfl 12 (m':=8191) (by decide+kernel) rfl
    clear hO68_
    refine Qaa (v:=bool true) rfl rfl rfl (g_d rfl ?_)
    refine Qbu ?_
    intro T hT
    refine QbV (m0:=8191) hO69_ rfl 2097151 [13,14,15,16,17,18,19,20] [0,1,3,7,15,31,63,127,255,127,1023,2047,4095,8191,8191,32767,8191,8191,139263,401407,991231,2097151,4194303] (by decide+kernel) (fun D t w=>∃ O:Nat→Value,t=(oT O 0 (oT O 1 (O 20::O 21::O 22::O 23::O 24::pointer (some ⟨b61,0,none⟩)::O 26::O 27::v71::O 29::O 30::O 31::pointer (some ⟨b84,0,none⟩)::O 33::int .u64 r87.1::O 35::pointer (some ⟨b94,0,none⟩)::O 37::O 38::O 39::pointer (some ⟨b101,0,none⟩)::pointer (some ⟨b103,0,none⟩)::int .i64 x133::int .i64 r134.1::int .i64 r134.2::v136::int .i64 r135.2::O 47::O 48::O 49::oT O 5 (oT O 6 (oT O 7 (oT O 8 (oT O 9 (oT O 10 (oT O 11 (oT O 12 (oT O 13 (oT O 14 (oT O 15 (oT O 16 (oT O 17 (oT O 18 (oT O 19 (oT O 20 (oT O 21 (oT O 22 (oT O 23 (oT O 24 (oT O 25 (oT O 26 (oT O 27 (oT O 28 (O 290::O 291::O 292::O 293::O 294::O 295::int .i64 x133::pointer (some ⟨b61,0,none⟩)::int .i8 r58.Qac::int .i64 (i64w r58.Qac)::bool true::O 301::O 302::tuple #[int .i64 r134.1,int .i64 r134.2]::agg (([int .i8 r58.Qac,int .i8 r58.Qae,v59]:List Value)).toArray::int .i64 x133::tuple #[int .i64 r134.1,int .i64 r134.2]::int .i64 r134.1::int .i64 r134.2::tuple #[v136,int .i64 r135.2]::agg (([int .i8 r58.Qac,int .i8 r58.Qae,v59]:List Value)).toArray::int .i64 x133::tuple #[v136,int .i64 r135.2]::v136::int .i64 r135.2::int .i64 r134.2::bool false::bool false::int .i64 r135.2::bool (r135.2 !=0)::bool true::bool true::O 322::O 323::O 324::O 325::bool true::bool true::cnd (D 13) undef (O 328)::cnd (D 14) undef (O 329)::cnd (D 15) undef (O 330)::cnd (D 16) undef (O 331)::cnd (D 17) undef (O 332)::cnd (D 18) undef (O 333)::cnd (D 19) undef (O 334)::cnd (D 20) undef (O 335)::O 336::O 337::O 338::O 339::oT O 34 (oT O 35 (oT O 36 (oT O 37 (oT O 38 (oT O 39 (oT O 40 (oT O 41 (oT O 42 (O 430::O 431::O 432::O 433::O 434::O 435::[]))))))))))))))))))))))))))))))))))))∧St w0 [Row 2 (K.int .i64) v136 r135.1,Row 61 Qao v59 r58.Qah,Cells b61 (([int .i8 r58.Qac,int .i8 r58.Qae,v59]:List Value)) 30,Row 2 (K.int .i64) v71 x72,Cells b84 ((encA (encI .i64)) x85) 47,Cells b94 ((encA (encI .i64)) x95) 47,Cells b101 ((encA (encI .i64)) x131) 47,Cells b103 ((encA (encI .i64)) x132) 47] w) ?_ ⟨?_,⟨?_,⟨?_,⟨?_,⟨?_,⟨?_,⟨?_,⟨?_,trivial⟩⟩⟩⟩⟩⟩⟩⟩ ?_
    ·exact ⟨fun i=>T.getD i undef,(by subst hT;rfl),hs⟩
    ·
     rintro D t w hD hp hcl ⟨O,ht,hs⟩ rest hk
     have hp:AllDone D [12]:=hp
     obtain ⟨p12_,_⟩:=hp
     have q15_:=ny hcl 15 0 hD
     simp only [hD,q15_,cq,oT] at ht hs
     subst ht
     refine Qad rfl rfl (g_d rfl ?_)
     try dsimp only [Qai,Qaj]
     refine hk _ _ ⟨O,?_,hs.cast ?_⟩<;>simp only [oT,cq,Nat.reduceBEq,q15_]
    ·
     rintro D t w hD hp hcl ⟨O,ht,hs⟩ rest hk
     have hp:AllDone D [12]:=hp
     obtain ⟨p12_,_⟩:=hp
     have q15_:=ny hcl 15 1 hD
     simp only [hD,q15_,cq,oT] at ht hs
     subst ht
     refine Qad rfl rfl (g_d rfl ?_)
     try dsimp only [Qai,Qaj]
     refine hk _ _ ⟨O,?_,hs.cast ?_⟩<;>simp only [oT,cq,Nat.reduceBEq,q15_]
    ·
     rintro D t w hD hp hcl ⟨O,ht,hs⟩ rest hk
     have hp:AllDone D [13,14,12,12]:=hp
     obtain ⟨p13_,p14_,p12_,_,_⟩:=hp
     simp only [hD,p13_,p14_,cq,oT] at ht hs
     subst ht
     refine Qad rfl rfl (g_d rfl ?_)
     try dsimp only [Qai,Qaj]
     refine hk _ _ ⟨O,?_,hs.cast ?_⟩<;>simp only [oT,cq,Nat.reduceBEq,p13_,p14_]
    ·
     rintro D t w hD hp hcl ⟨O,ht,hs⟩ rest hk
     have hp:AllDone D [12]:=hp
     obtain ⟨p12_,_⟩:=hp
     have q20_:=ny hcl 20 0 hD
     simp only [hD,q20_,cq,oT] at ht hs
     subst ht
     refine Qad rfl rfl (g_d rfl ?_)
     try dsimp only [Qai,Qaj]
     refine hk _ _ ⟨O,?_,hs.cast ?_⟩<;>simp only [oT,cq,Nat.reduceBEq,q20_]
    ·
     rintro D t w hD hp hcl ⟨O,ht,hs⟩ rest hk
     have hp:AllDone D [12]:=hp
     obtain ⟨p12_,_⟩:=hp
     have q18_:=ny hcl 18 0 hD
     have q19_:=ny hcl 19 0 q18_
     have q20_:=ny hcl 20 1 q19_
     simp only [hD,q18_,q19_,q20_,cq,oT] at ht hs
     subst ht
     refine Qad rfl rfl (g_d rfl ?_)
     try dsimp only [Qai,Qaj]
     refine hk _ _ ⟨O,?_,hs.cast ?_⟩<;>simp only [oT,cq,Nat.reduceBEq,q18_,q19_,q20_]
    ·
     rintro D t w hD hp hcl ⟨O,ht,hs⟩ rest hk
     have hp:AllDone D [17,12]:=hp
     obtain ⟨p17_,p12_,_⟩:=hp
     have q19_:=ny hcl 19 0 hD
     have q20_:=ny hcl 20 1 q19_
     simp only [hD,p17_,q19_,q20_,cq,oT] at ht hs
     subst ht
     refine Qad rfl rfl (g_d rfl ?_)
     try dsimp only [Qai,Qaj]
     refine hk _ _ ⟨O,?_,hs.cast ?_⟩<;>simp only [oT,cq,Nat.reduceBEq,p17_,q19_,q20_]
    ·
     rintro D t w hD hp hcl ⟨O,ht,hs⟩ rest hk
     have hp:AllDone D [18,12]:=hp
     obtain ⟨p18_,p12_,_⟩:=hp
     obtain ⟨p17_,_,_⟩:=(show D 18=true→AllDone D [17,12] from hcl 18 (by decide)) p18_
     have q20_:=ny hcl 20 1 hD
     simp only [hD,p17_,p18_,q20_,cq,oT] at ht hs
     subst ht
     refine Qad rfl rfl (g_d rfl ?_)
     try dsimp only [Qai,Qaj]
     refine hk _ _ ⟨O,?_,hs.cast ?_⟩<;>simp only [oT,cq,Nat.reduceBEq,p17_,p18_,q20_]
    ·
     rintro D t w hD hp hcl ⟨O,ht,hs⟩ rest hk
     have hp:AllDone D [16,19,12]:=hp
     obtain ⟨p16_,p19_,p12_,_⟩:=hp
     obtain ⟨p18_,_,_⟩:=(show D 19=true→AllDone D [18,12] from hcl 19 (by decide)) p19_
     obtain ⟨p17_,_,_⟩:=(show D 18=true→AllDone D [17,12] from hcl 18 (by decide)) p18_
     simp only [hD,p16_,p17_,p18_,p19_,cq,oT] at ht hs
     subst ht
     refine Qad rfl rfl (g_d rfl ?_)
     try dsimp only [Qai,Qaj]
     refine hk _ _ ⟨O,?_,hs.cast ?_⟩<;>simp only [oT,cq,Nat.reduceBEq,p16_,p17_,p18_,p19_]
    intro D t w rest hall hO70_ hI
    obtain ⟨O,ht,hs⟩:=hI
    have p13_:=hall 13 (by decide) rfl
    have p14_:=hall 14 (by decide) rfl
    have p15_:=hall 15 (by decide) rfl
    have p16_:=hall 16 (by decide) rfl
    have p17_:=hall 17 (by decide) rfl
    have p18_:=hall 18 (by decide) rfl
    have p19_:=hall 19 (by decide) rfl
    have p20_:=hall 20 (by decide) rfl
    simp only [p13_,p14_,p15_,p16_,p17_,p18_,p19_,p20_,cq,oT] at ht hs
    subst ht
    obtain ⟨rest,rfl,hO71_⟩:=ord_one (m:=2097151) hO70_ rfl 21 (m':=4194303) (by decide+kernel) rfl
    clear hO70_
    refine Qad rfl rfl (g_d rfl ?_)
    obtain ⟨rest,rfl,hO72_⟩:=ord_one (m:=4194303) hO71_ rfl 22 (m':=8388607) (by decide+kernel) rfl
    clear hO71_
    refine Qaa (v:=bool true) rfl rfl rfl (g_d rfl ?_)
    try dsimp only [Qai,Qaj]
    obtain rfl:=ord_end hO72_ rfl (by decide+kernel)
    refine Qab (Qam rfl (Qaf (Qak [0] rfl ?_)))
    refine Qaa (v:=bool false) rfl rfl rfl (g_d rfl (Qab ?_))
    obtain rfl:=QsJ H
    subst Hx1_
    have H:=QsJ Hr1_
    subst H
    refine Qax Tryz.func3 (v:=bool false) (res1 rfl rfl) ?_
    have hs:St _ [] _:=St.take (Γ':=[_,_,_,_,_,_,_,_]) hs
    exact ⟨_,rfl,rfl,hs⟩
   intro hb
   rw [if_pos (b_bne_f hb)] at H
   refine g_d rfl ?_
   obtain ⟨rest,rfl,hO73_⟩:=ord_one (m:=63) hO64_ rfl 6 (m':=127) (by decide+kernel) rfl
   clear hO64_
   refine Qaa (v:=bool false) rfl rfl rfl (g_d rfl ?_)
   refine Qbu ?_
   intro T hT
   refine QbV (m0:=127) hO73_ rfl 1023 [7,8,9] [0,1,3,7,15,31,63,127,255,127,1023,2047,4095,8191,8191,32767,8191,8191,139263,401407,991231,2097151,4194303] (by decide+kernel) (fun D t w=>∃ O:Nat→Value,t=(oT O 0 (oT O 1 (O 20::O 21::O 22::O 23::O 24::pointer (some ⟨b61,0,none⟩)::O 26::O 27::v71::O 29::O 30::O 31::pointer (some ⟨b84,0,none⟩)::O 33::int .u64 r87.1::O 35::pointer (some ⟨b94,0,none⟩)::O 37::O 38::O 39::pointer (some ⟨b101,0,none⟩)::pointer (some ⟨b103,0,none⟩)::int .i64 x133::int .i64 r134.1::int .i64 r134.2::v136::int .i64 r135.2::O 47::O 48::O 49::oT O 5 (oT O 6 (oT O 7 (oT O 8 (oT O 9 (oT O 10 (oT O 11 (oT O 12 (oT O 13 (oT O 14 (oT O 15 (oT O 16 (oT O 17 (oT O 18 (oT O 19 (oT O 20 (oT O 21 (oT O 22 (oT O 23 (oT O 24 (oT O 25 (oT O 26 (oT O 27 (oT O 28 (O 290::O 291::O 292::O 293::O 294::O 295::int .i64 x133::pointer (some ⟨b61,0,none⟩)::int .i8 r58.Qac::int .i64 (i64w r58.Qac)::bool true::O 301::O 302::tuple #[int .i64 r134.1,int .i64 r134.2]::agg (([int .i8 r58.Qac,int .i8 r58.Qae,v59]:List Value)).toArray::int .i64 x133::tuple #[int .i64 r134.1,int .i64 r134.2]::int .i64 r134.1::int .i64 r134.2::tuple #[v136,int .i64 r135.2]::agg (([int .i8 r58.Qac,int .i8 r58.Qae,v59]:List Value)).toArray::int .i64 x133::tuple #[v136,int .i64 r135.2]::v136::int .i64 r135.2::int .i64 r134.2::bool false::bool false::int .i64 r135.2::bool (r135.2 !=0)::bool false::bool false::cnd (D 7) v136 (O 322)::cnd (D 8) (int .i64 (r135.1.length:Int)) (O 323)::cnd (D 9) (int .i64 r134.1) (O 324)::O 325::O 326::O 327::O 328::O 329::oT O 33 (oT O 34 (oT O 35 (oT O 36 (oT O 37 (oT O 38 (oT O 39 (oT O 40 (oT O 41 (oT O 42 (O 430::O 431::O 432::O 433::O 434::O 435::[])))))))))))))))))))))))))))))))))))))∧St w0 [Row 2 (K.int .i64) v136 r135.1,Row 61 Qao v59 r58.Qah,Cells b61 (([int .i8 r58.Qac,int .i8 r58.Qae,v59]:List Value)) 30,Row 2 (K.int .i64) v71 x72,Cells b84 ((encA (encI .i64)) x85) 47,Cells b94 ((encA (encI .i64)) x95) 47,Cells b101 ((encA (encI .i64)) x131) 47,Cells b103 ((encA (encI .i64)) x132) 47] w) ?_ ⟨?_,⟨?_,⟨?_,trivial⟩⟩⟩ ?_
   ·exact ⟨fun i=>T.getD i undef,(by subst hT;rfl),hs⟩
   ·
    rintro D t w hD hp hcl ⟨O,ht,hs⟩ rest hk
    have hp:AllDone D [6]:=hp
    obtain ⟨p6_,_⟩:=hp
    have q8_:=ny hcl 8 0 hD
    simp only [hD,q8_,cq,oT] at ht hs
    subst ht
    refine Qaa (v:=v136) rfl rfl rfl (g_d rfl ?_)
    try dsimp only [Qai,Qaj]
    refine hk _ _ ⟨O,?_,hs.cast ?_⟩<;>simp only [oT,lq,cq,Nat.reduceBEq,q8_]
   ·
    rintro D t w hD hp hcl ⟨O,ht,hs⟩ rest hk
    have hp:AllDone D [7,6]:=hp
    obtain ⟨p7_,p6_,_⟩:=hp
    simp only [hD,p7_,cq,oT] at ht hs
    subst ht
    refine Qbp (hs.row 0 rfl) rfl rfl rfl rfl rfl (g_d rfl ?_)
    try dsimp only [Qai,Qaj]
    refine hk _ _ ⟨O,?_,hs.cast ?_⟩<;>simp only [oT,lq,cq,Nat.reduceBEq,p7_]
   ·
    rintro D t w hD hp hcl ⟨O,ht,hs⟩ rest hk
    have hp:AllDone D [6]:=hp
    obtain ⟨p6_,_⟩:=hp
    simp only [hD,cq,oT] at ht hs
    subst ht
    refine Qaa (v:=int .i64 r134.1) rfl rfl rfl (g_d rfl ?_)
    try dsimp only [Qai,Qaj]
    refine hk _ _ ⟨O,?_,hs.cast ?_⟩<;>simp only [oT,lq,cq,Nat.reduceBEq]
   intro D t w rest hall hO74_ hI
   obtain ⟨O,ht,hs⟩:=hI
   have p7_:=hall 7 (by decide) rfl
   have p8_:=hall 8 (by decide) rfl
   have p9_:=hall 9 (by decide) rfl
   simp only [p7_,p8_,p9_,cq,oT] at ht hs
   subst ht
   obtain ⟨rest,rfl,hO75_⟩:=ord_one (m:=1023) hO74_ rfl 10 (m':=2047) (by decide+kernel) rfl
   clear hO74_
   refine Qaa (v:=bool ((r135.1.length:Int) !=r134.1)) rfl rfl rfl (g_d rfl ?_)
   try dsimp only [Qai,Qaj]
   obtain ⟨rest,rfl,hO76_⟩:=ord_one (m:=2047) hO75_ rfl 11 (m':=4095) (by decide+kernel) rfl
   clear hO75_
   refine QaA (B:=(r135.1.length:Int) !=r134.1) rfl rfl rfl ?_ ?_
   ·
    intro hb
    rw [if_neg (b_bne_t hb)] at H
    refine g_d rfl ?_
    try dsimp only [Qai,Qaj]
    obtain ⟨rest,rfl,hO77_⟩:=ord_one (m:=4095) hO76_ rfl 12 (m':=8191) (by decide+kernel) rfl
    clear hO76_
    refine Qaa (v:=bool true) rfl rfl rfl (g_d rfl ?_)
    refine Qbu ?_
    intro T hT
    refine QbV (m0:=8191) hO77_ rfl 2097151 [13,14,15,16,17,18,19,20] [0,1,3,7,15,31,63,127,255,127,1023,2047,4095,8191,8191,32767,8191,8191,139263,401407,991231,2097151,4194303] (by decide+kernel) (fun D t w=>∃ O:Nat→Value,t=(oT O 0 (oT O 1 (O 20::O 21::O 22::O 23::O 24::pointer (some ⟨b61,0,none⟩)::O 26::O 27::v71::O 29::O 30::O 31::pointer (some ⟨b84,0,none⟩)::O 33::int .u64 r87.1::O 35::pointer (some ⟨b94,0,none⟩)::O 37::O 38::O 39::pointer (some ⟨b101,0,none⟩)::pointer (some ⟨b103,0,none⟩)::int .i64 x133::int .i64 r134.1::int .i64 r134.2::v136::int .i64 r135.2::O 47::O 48::O 49::oT O 5 (oT O 6 (oT O 7 (oT O 8 (oT O 9 (oT O 10 (oT O 11 (oT O 12 (oT O 13 (oT O 14 (oT O 15 (oT O 16 (oT O 17 (oT O 18 (oT O 19 (oT O 20 (oT O 21 (oT O 22 (oT O 23 (oT O 24 (oT O 25 (oT O 26 (oT O 27 (oT O 28 (O 290::O 291::O 292::O 293::O 294::O 295::int .i64 x133::pointer (some ⟨b61,0,none⟩)::int .i8 r58.Qac::int .i64 (i64w r58.Qac)::bool true::O 301::O 302::tuple #[int .i64 r134.1,int .i64 r134.2]::agg (([int .i8 r58.Qac,int .i8 r58.Qae,v59]:List Value)).toArray::int .i64 x133::tuple #[int .i64 r134.1,int .i64 r134.2]::int .i64 r134.1::int .i64 r134.2::tuple #[v136,int .i64 r135.2]::agg (([int .i8 r58.Qac,int .i8 r58.Qae,v59]:List Value)).toArray::int .i64 x133::tuple #[v136,int .i64 r135.2]::v136::int .i64 r135.2::int .i64 r134.2::bool false::bool false::int .i64 r135.2::bool (r135.2 !=0)::bool false::bool false::v136::int .i64 (r135.1.length:Int)::int .i64 r134.1::bool ((r135.1.length:Int) !=r134.1)::bool true::bool true::cnd (D 13) undef (O 328)::cnd (D 14) undef (O 329)::cnd (D 15) undef (O 330)::cnd (D 16) undef (O 331)::cnd (D 17) undef (O 332)::cnd (D 18) undef (O 333)::cnd (D 19) undef (O 334)::cnd (D 20) undef (O 335)::O 336::O 337::O 338::O 339::oT O 34 (oT O 35 (oT O 36 (oT O 37 (oT O 38 (oT O 39 (oT O 40 (oT O 41 (oT O 42 (O 430::O 431::O 432::O 433::O 434::O 435::[]))))))))))))))))))))))))))))))))))))∧St w0 [Row 2 (K.int .i64) v136 r135.1,Row 61 Qao v59 r58.Qah,Cells b61 (([int .i8 r58.Qac,int .i8 r58.Qae,v59]:List Value)) 30,Row 2 (K.int .i64) v71 x72,Cells b84 ((encA (encI .i64)) x85) 47,Cells b94 ((encA (encI .i64)) x95) 47,Cells b101 ((encA (encI .i64)) x131) 47,Cells b103 ((encA (encI .i64)) x132) 47] w) ?_ ⟨?_,⟨?_,⟨?_,⟨?_,⟨?_,⟨?_,⟨?_,⟨?_,trivial⟩⟩⟩⟩⟩⟩⟩⟩ ?_
    ·exact ⟨fun i=>T.getD i undef,(by subst hT;rfl),hs⟩
    ·
     rintro D t w hD hp hcl ⟨O,ht,hs⟩ rest hk
     have hp:AllDone D [12]:=hp
     obtain ⟨p12_,_⟩:=hp
     have q15_:=ny hcl 15 0 hD
     simp only [hD,q15_,cq,oT] at ht hs
     subst ht
     refine Qad rfl rfl (g_d rfl ?_)
     try dsimp only [Qai,Qaj]
     refine hk _ _ ⟨O,?_,hs.cast ?_⟩<;>simp only [oT,cq,Nat.reduceBEq,q15_]
    ·
     rintro D t w hD hp hcl ⟨O,ht,hs⟩ rest hk
     have hp:AllDone D [12]:=hp
     obtain ⟨p12_,_⟩:=hp
     have q15_:=ny hcl 15 1 hD
     simp only [hD,q15_,cq,oT] at ht hs
     subst ht
     refine Qad rfl rfl (g_d rfl ?_)
     try dsimp only [Qai,Qaj]
     refine hk _ _ ⟨O,?_,hs.cast ?_⟩<;>simp only [oT,cq,Nat.reduceBEq,q15_]
    ·
     rintro D t w hD hp hcl ⟨O,ht,hs⟩ rest hk
     have hp:AllDone D [13,14,12,12]:=hp
     obtain ⟨p13_,p14_,p12_,_,_⟩:=hp
     simp only [hD,p13_,p14_,cq,oT] at ht hs
     subst ht
     refine Qad rfl rfl (g_d rfl ?_)
     try dsimp only [Qai,Qaj]
     refine hk _ _ ⟨O,?_,hs.cast ?_⟩<;>simp only [oT,cq,Nat.reduceBEq,p13_,p14_]
    ·
     rintro D t w hD hp hcl ⟨O,ht,hs⟩ rest hk
     have hp:AllDone D [12]:=hp
     obtain ⟨p12_,_⟩:=hp
     have q20_:=ny hcl 20 0 hD
     simp only [hD,q20_,cq,oT] at ht hs
     subst ht
     refine Qad rfl rfl (g_d rfl ?_)
     try dsimp only [Qai,Qaj]
     refine hk _ _ ⟨O,?_,hs.cast ?_⟩<;>simp only [oT,cq,Nat.reduceBEq,q20_]
    ·
     rintro D t w hD hp hcl ⟨O,ht,hs⟩ rest hk
     have hp:AllDone D [12]:=hp
     obtain ⟨p12_,_⟩:=hp
     have q18_:=ny hcl 18 0 hD
     have q19_:=ny hcl 19 0 q18_
     have q20_:=ny hcl 20 1 q19_
     simp only [hD,q18_,q19_,q20_,cq,oT] at ht hs
     subst ht
     refine Qad rfl rfl (g_d rfl ?_)
     try dsimp only [Qai,Qaj]
     refine hk _ _ ⟨O,?_,hs.cast ?_⟩<;>simp only [oT,cq,Nat.reduceBEq,q18_,q19_,q20_]
    ·
     rintro D t w hD hp hcl ⟨O,ht,hs⟩ rest hk
     have hp:AllDone D [17,12]:=hp
     obtain ⟨p17_,p12_,_⟩:=hp
     have q19_:=ny hcl 19 0 hD
     have q20_:=ny hcl 20 1 q19_
     simp only [hD,p17_,q19_,q20_,cq,oT] at ht hs
     subst ht
     refine Qad rfl rfl (g_d rfl ?_)
     try dsimp only [Qai,Qaj]
     refine hk _ _ ⟨O,?_,hs.cast ?_⟩<;>simp only [oT,cq,Nat.reduceBEq,p17_,q19_,q20_]
    ·
     rintro D t w hD hp hcl ⟨O,ht,hs⟩ rest hk
     have hp:AllDone D [18,12]:=hp
     obtain ⟨p18_,p12_,_⟩:=hp
     obtain ⟨p17_,_,_⟩:=(show D 18=true→AllDone D [17,12] from hcl 18 (by decide)) p18_
     have q20_:=ny hcl 20 1 hD
     simp only [hD,p17_,p18_,q20_,cq,oT] at ht hs
     subst ht
     refine Qad rfl rfl (g_d rfl ?_)
     try dsimp only [Qai,Qaj]
     refine hk _ _ ⟨O,?_,hs.cast ?_⟩<;>simp only [oT,cq,Nat.reduceBEq,p17_,p18_,q20_]
    ·
     rintro D t w hD hp hcl ⟨O,ht,hs⟩ rest hk
     have hp:AllDone D [16,19,12]:=hp
     obtain ⟨p16_,p19_,p12_,_⟩:=hp
     obtain ⟨p18_,_,_⟩:=(show D 19=true→AllDone D [18,12] from hcl 19 (by decide)) p19_
     obtain ⟨p17_,_,_⟩:=(show D 18=true→AllDone D [17,12] from hcl 18 (by decide)) p18_
     simp only [hD,p16_,p17_,p18_,p19_,cq,oT] at ht hs
     subst ht
     refine Qad rfl rfl (g_d rfl ?_)
     try dsimp only [Qai,Qaj]
     refine hk _ _ ⟨O,?_,hs.cast ?_⟩<;>simp only [oT,cq,Nat.reduceBEq,p16_,p17_,p18_,p19_]
    intro D t w rest hall hO78_ hI
    obtain ⟨O,ht,hs⟩:=hI
    have p13_:=hall 13 (by decide) rfl
    have p14_:=hall 14 (by decide) rfl
    have p15_:=hall 15 (by decide) rfl
    have p16_:=hall 16 (by decide) rfl
    have p17_:=hall 17 (by decide) rfl
    have p18_:=hall 18 (by decide) rfl
    have p19_:=hall 19 (by decide) rfl
    have p20_:=hall 20 (by decide) rfl
    simp only [p13_,p14_,p15_,p16_,p17_,p18_,p19_,p20_,cq,oT] at ht hs
    subst ht
    obtain ⟨rest,rfl,hO79_⟩:=ord_one (m:=2097151) hO78_ rfl 21 (m':=4194303) (by decide+kernel) rfl
    clear hO78_
    refine Qad rfl rfl (g_d rfl ?_)
    obtain ⟨rest,rfl,hO80_⟩:=ord_one (m:=4194303) hO79_ rfl 22 (m':=8388607) (by decide+kernel) rfl
    clear hO79_
    refine Qaa (v:=bool true) rfl rfl rfl (g_d rfl ?_)
    try dsimp only [Qai,Qaj]
    obtain rfl:=ord_end hO80_ rfl (by decide+kernel)
    refine Qab (Qam rfl (Qaf (Qak [0] rfl ?_)))
    refine Qaa (v:=bool false) rfl rfl rfl (g_d rfl (Qab ?_))
    obtain rfl:=QsJ H
    subst Hx1_
    have H:=QsJ Hr1_
    subst H
    refine Qax Tryz.func3 (v:=bool false) (res1 rfl rfl) ?_
    have hs:St _ [] _:=St.take (Γ':=[_,_,_,_,_,_,_,_]) hs
    exact ⟨_,rfl,rfl,hs⟩
   intro hb
   rw [if_pos (b_bne_f hb)] at H
   refine g_d rfl ?_
   obtain ⟨rest,rfl,hO81_⟩:=ord_one (m:=4095) hO76_ rfl 12 (m':=8191) (by decide+kernel) rfl
   clear hO76_
   refine Qaa (v:=bool false) rfl rfl rfl (g_d rfl ?_)
   obtain ⟨r138,Hr138,H⟩:=bind_get H
   refine Qbu ?_
   intro T hT
   refine QbV (m0:=8191) hO81_ rfl 2097151 [13,14,15,16,17,18,19,20] [0,1,3,7,15,31,63,127,255,127,1023,2047,4095,8191,8191,32767,8191,8191,139263,401407,991231,2097151,4194303] (by decide+kernel) (fun D t w=>∃ O:Nat→Value,t=(oT O 0 (oT O 1 (O 20::O 21::O 22::O 23::O 24::pointer (some ⟨b61,0,none⟩)::O 26::O 27::v71::O 29::O 30::O 31::pointer (some ⟨b84,0,none⟩)::O 33::int .u64 r87.1::O 35::pointer (some ⟨b94,0,none⟩)::O 37::O 38::O 39::pointer (some ⟨b101,0,none⟩)::pointer (some ⟨b103,0,none⟩)::int .i64 x133::int .i64 r134.1::int .i64 r134.2::v136::int .i64 r135.2::O 47::O 48::O 49::oT O 5 (oT O 6 (oT O 7 (oT O 8 (oT O 9 (oT O 10 (oT O 11 (oT O 12 (oT O 13 (oT O 14 (oT O 15 (oT O 16 (oT O 17 (oT O 18 (oT O 19 (oT O 20 (oT O 21 (oT O 22 (oT O 23 (oT O 24 (oT O 25 (oT O 26 (oT O 27 (oT O 28 (O 290::O 291::O 292::O 293::O 294::O 295::int .i64 x133::pointer (some ⟨b61,0,none⟩)::int .i8 r58.Qac::int .i64 (i64w r58.Qac)::bool true::O 301::O 302::tuple #[int .i64 r134.1,int .i64 r134.2]::agg (([int .i8 r58.Qac,int .i8 r58.Qae,v59]:List Value)).toArray::int .i64 x133::tuple #[int .i64 r134.1,int .i64 r134.2]::int .i64 r134.1::int .i64 r134.2::tuple #[v136,int .i64 r135.2]::agg (([int .i8 r58.Qac,int .i8 r58.Qae,v59]:List Value)).toArray::int .i64 x133::tuple #[v136,int .i64 r135.2]::v136::int .i64 r135.2::int .i64 r134.2::bool false::bool false::int .i64 r135.2::bool (r135.2 !=0)::bool false::bool false::v136::int .i64 (r135.1.length:Int)::int .i64 r134.1::bool ((r135.1.length:Int) !=r134.1)::bool false::bool false::cnd (D 13) v71 (O 328)::cnd (D 14) (int .i64 x133) (O 329)::cnd (D 15) (bool r138) (O 330)::cnd (D 16) (int .i64 r134.1) (O 331)::cnd (D 17) (pointer (some ⟨b61,1,none⟩)) (O 332)::cnd (D 18) (int .i8 r58.Qae) (O 333)::cnd (D 19) (int .i64 (i64w r58.Qae)) (O 334)::cnd (D 20) (bool (decide (r134.1≤(i64w r58.Qae)))) (O 335)::O 336::O 337::O 338::O 339::oT O 34 (oT O 35 (oT O 36 (oT O 37 (oT O 38 (oT O 39 (oT O 40 (oT O 41 (oT O 42 (O 430::O 431::O 432::O 433::O 434::O 435::[]))))))))))))))))))))))))))))))))))))∧St w0 [Row 2 (K.int .i64) v136 r135.1,Row 61 Qao v59 r58.Qah,Cells b61 (([int .i8 r58.Qac,int .i8 r58.Qae,v59]:List Value)) 30,Row 2 (K.int .i64) v71 x72,Cells b84 ((encA (encI .i64)) x85) 47,Cells b94 ((encA (encI .i64)) x95) 47,Cells b101 ((encA (encI .i64)) x131) 47,Cells b103 ((encA (encI .i64)) x132) 47] w) ?_ ⟨?_,⟨?_,⟨?_,⟨?_,⟨?_,⟨?_,⟨?_,⟨?_,trivial⟩⟩⟩⟩⟩⟩⟩⟩ ?_
   ·exact ⟨fun i=>T.getD i undef,(by subst hT;rfl),hs⟩
   ·
    rintro D t w hD hp hcl ⟨O,ht,hs⟩ rest hk
    have hp:AllDone D [12]:=hp
    obtain ⟨p12_,_⟩:=hp
    have q15_:=ny hcl 15 0 hD
    simp only [hD,q15_,cq,oT] at ht hs
    subst ht
    refine Qaa (v:=v71) rfl rfl rfl (g_d rfl ?_)
    try dsimp only [Qai,Qaj]
    refine hk _ _ ⟨O,?_,hs.cast ?_⟩<;>simp only [oT,lq,cq,Nat.reduceBEq,q15_]
   ·
    rintro D t w hD hp hcl ⟨O,ht,hs⟩ rest hk
    have hp:AllDone D [12]:=hp
    obtain ⟨p12_,_⟩:=hp
    have q15_:=ny hcl 15 1 hD
    simp only [hD,q15_,cq,oT] at ht hs
    subst ht
    refine Qaa (v:=int .i64 x133) rfl rfl rfl (g_d rfl ?_)
    try dsimp only [Qai,Qaj]
    refine hk _ _ ⟨O,?_,hs.cast ?_⟩<;>simp only [oT,lq,cq,Nat.reduceBEq,q15_]
   ·
    rintro D t w hD hp hcl ⟨O,ht,hs⟩ rest hk
    have hp:AllDone D [13,14,12,12]:=hp
    obtain ⟨p13_,p14_,p12_,_,_⟩:=hp
    simp only [hD,p13_,p14_,cq,oT] at ht hs
    subst ht
    refine Qas (args:=[v71,int .i64 x133]) rfl rfl (Qat rfl (callFunc_enter Tryz.func28 rfl rfl) rfl) (QbO.calls (a1:=x72) (a3:=x133) (hs.row 3 rfl) Hr138) ?_
    rintro _ w ⟨rfl,hs2⟩
    have hs:St _ [_,_,_,_,_,_,_,_] _:=hs.call hs2
    refine g_d rfl ?_
    try dsimp only [Qai,Qaj]
    refine hk _ _ ⟨O,?_,hs.cast ?_⟩<;>simp only [oT,lq,cq,Nat.reduceBEq,p13_,p14_]
   ·
    rintro D t w hD hp hcl ⟨O,ht,hs⟩ rest hk
    have hp:AllDone D [12]:=hp
    obtain ⟨p12_,_⟩:=hp
    have q20_:=ny hcl 20 0 hD
    simp only [hD,q20_,cq,oT] at ht hs
    subst ht
    refine Qaa (v:=int .i64 r134.1) rfl rfl rfl (g_d rfl ?_)
    try dsimp only [Qai,Qaj]
    refine hk _ _ ⟨O,?_,hs.cast ?_⟩<;>simp only [oT,lq,cq,Nat.reduceBEq,q20_]
   ·
    rintro D t w hD hp hcl ⟨O,ht,hs⟩ rest hk
    have hp:AllDone D [12]:=hp
    obtain ⟨p12_,_⟩:=hp
    have q18_:=ny hcl 18 0 hD
    have q19_:=ny hcl 19 0 q18_
    have q20_:=ny hcl 20 1 q19_
    simp only [hD,q18_,q19_,q20_,cq,oT] at ht hs
    subst ht
    refine Qaa (v:=pointer (some ⟨b61,1,none⟩)) rfl rfl rfl (g_d rfl ?_)
    try dsimp only [Qai,Qaj]
    refine hk _ _ ⟨O,?_,hs.cast ?_⟩<;>simp only [oT,lq,cq,Nat.reduceBEq,q18_,q19_,q20_]
   ·
    rintro D t w hD hp hcl ⟨O,ht,hs⟩ rest hk
    have hp:AllDone D [17,12]:=hp
    obtain ⟨p17_,p12_,_⟩:=hp
    have q19_:=ny hcl 19 0 hD
    have q20_:=ny hcl 20 1 q19_
    simp only [hD,p17_,q19_,q20_,cq,oT] at ht hs
    subst ht
    refine Qaw rfl rfl (v:=int .i8 r58.Qae) rfl rfl (fun _=>rfl) (cells_load (hs.cells 2 rfl) 1 1 rfl) (g_d rfl ?_)
    try dsimp only [Qai,Qaj]
    refine hk _ _ ⟨O,?_,hs.cast ?_⟩<;>simp only [oT,lq,cq,Nat.reduceBEq,p17_,q19_,q20_]
   ·
    rintro D t w hD hp hcl ⟨O,ht,hs⟩ rest hk
    have hp:AllDone D [18,12]:=hp
    obtain ⟨p18_,p12_,_⟩:=hp
    obtain ⟨p17_,_,_⟩:=(show D 18=true→AllDone D [17,12] from hcl 18 (by decide)) p18_
    have q20_:=ny hcl 20 1 hD
    simp only [hD,p17_,p18_,q20_,cq,oT] at ht hs
    subst ht
    refine Qaa (v:=int .i64 (i64w r58.Qae)) rfl rfl rfl (g_d rfl ?_)
    try dsimp only [Qai,Qaj]
    refine hk _ _ ⟨O,?_,hs.cast ?_⟩<;>simp only [oT,lq,cq,Nat.reduceBEq,p17_,p18_,q20_]
   ·
    rintro D t w hD hp hcl ⟨O,ht,hs⟩ rest hk
    have hp:AllDone D [16,19,12]:=hp
    obtain ⟨p16_,p19_,p12_,_⟩:=hp
    obtain ⟨p18_,_,_⟩:=(show D 19=true→AllDone D [18,12] from hcl 19 (by decide)) p19_
    obtain ⟨p17_,_,_⟩:=(show D 18=true→AllDone D [17,12] from hcl 18 (by decide)) p18_
    simp only [hD,p16_,p17_,p18_,p19_,cq,oT] at ht hs
    subst ht
    refine Qaa (v:=bool (decide (r134.1≤(i64w r58.Qae)))) rfl rfl rfl (g_d rfl ?_)
    try dsimp only [Qai,Qaj]
    refine hk _ _ ⟨O,?_,hs.cast ?_⟩<;>simp only [oT,lq,cq,Nat.reduceBEq,p16_,p17_,p18_,p19_]
   as_aux_lemma =>
    intro D t w rest hall hO82_ hI
    obtain ⟨O,ht,hs⟩:=hI
    have p13_:=hall 13 (by decide) rfl
    have p14_:=hall 14 (by decide) rfl
    have p15_:=hall 15 (by decide) rfl
    have p16_:=hall 16 (by decide) rfl
    have p17_:=hall 17 (by decide) rfl
    have p18_:=hall 18 (by decide) rfl
    have p19_:=hall 19 (by decide) rfl
    have p20_:=hall 20 (by decide) rfl
    simp only [p13_,p14_,p15_,p16_,p17_,p18_,p19_,p20_,cq,oT] at ht hs
    subst ht
    obtain ⟨rest,rfl,hO83_⟩:=ord_one (m:=2097151) hO82_ rfl 21 (m':=4194303) (by decide+kernel) rfl
    clear hO82_
    refine QaA (B:=r138 !=(decide (r134.1≤(i64w r58.Qae)))) rfl rfl rfl ?_ ?_
    ·
     intro hb
     rw [if_neg (b_bne_t hb)] at H
     refine g_d rfl ?_
     obtain ⟨rest,rfl,hO84_⟩:=ord_one (m:=4194303) hO83_ rfl 22 (m':=8388607) (by decide+kernel) rfl
     clear hO83_
     refine Qaa (v:=bool true) rfl rfl rfl (g_d rfl ?_)
     try dsimp only [Qai,Qaj]
     obtain rfl:=ord_end hO84_ rfl (by decide+kernel)
     refine Qab (Qam rfl (Qaf (Qak [0] rfl ?_)))
     refine Qaa (v:=bool false) rfl rfl rfl (g_d rfl (Qab ?_))
     obtain rfl:=QsJ H
     subst Hx1_
     have H:=QsJ Hr1_
     subst H
     refine Qax Tryz.func3 (v:=bool false) (res1 rfl rfl) ?_
     have hs:St _ [] _:=St.take (Γ':=[_,_,_,_,_,_,_,_]) hs
     exact ⟨_,rfl,rfl,hs⟩
    intro hb
    rw [if_pos (b_bne_f hb)] at H
    refine g_d rfl ?_
    try dsimp only [Qai,Qaj]
    obtain ⟨rest,rfl,hO85_⟩:=ord_one (m:=4194303) hO83_ rfl 22 (m':=8388607) (by decide+kernel) rfl
    clear hO83_
    refine Qaa (v:=bool false) rfl rfl rfl (g_d rfl ?_)
    obtain rfl:=ord_end hO85_ rfl (by decide+kernel)
    refine Qab (Qap rfl (QaE (Qaf (Qaf (Qak [0] rfl ?_)))))
    refine Qaa (v:=int .i64 0) rfl rfl rfl (g_d rfl ?_)
    try dsimp only [Qai,Qaj]
    refine Qab ?_
    obtain ⟨o2_,Ho,Hr2_⟩:=bind_get H
    refine QaF (J:=fun t w=>Qal.a17 N r134 r58 x133 r87 x131 x132 r135 r138=some x111_∧Fr t (fun O=>(oT O 0 (oT O 1 (O 20::O 21::O 22::O 23::O 24::pointer (some ⟨b61,0,none⟩)::O 26::O 27::v71::O 29::O 30::O 31::pointer (some ⟨b84,0,none⟩)::O 33::int .u64 r87.1::O 35::pointer (some ⟨b94,0,none⟩)::O 37::O 38::O 39::pointer (some ⟨b101,0,none⟩)::pointer (some ⟨b103,0,none⟩)::int .i64 x133::int .i64 r134.1::O 44::O 45::O 46::O 47::O 48::O 49::oT O 5 (oT O 6 (oT O 7 (oT O 8 (oT O 9 (oT O 10 (oT O 11 (oT O 12 (oT O 13 (oT O 14 (oT O 15 (oT O 16 (oT O 17 (oT O 18 (oT O 19 (oT O 20 (oT O 21 (oT O 22 (oT O 23 (oT O 24 (oT O 25 (oT O 26 (oT O 27 (oT O 28 (oT O 29 (oT O 30 (O 310::O 311::O 312::O 313::O 314::O 315::O 316::O 317::int .i64 r135.2::bool (r135.2 !=0)::O 320::O 321::v136::int .i64 (r135.1.length:Int)::int .i64 r134.1::bool ((r135.1.length:Int) !=r134.1)::O 326::O 327::v71::int .i64 x133::bool r138::int .i64 r134.1::pointer (some ⟨b61,1,none⟩)::int .i8 r58.Qae::int .i64 (i64w r58.Qae)::bool (decide (r134.1≤(i64w r58.Qae)))::bool false::O 337::O 338::O 339::oT O 34 (oT O 35 (oT O 36 (oT O 37 (oT O 38 (oT O 39 (oT O 40 (oT O 41 (oT O 42 (O 430::O 431::O 432::O 433::O 434::O 435::[]))))))))))))))))))))))))))))))))))))):List Value))∧St w0 [Cells b61 (([int .i8 r58.Qac,int .i8 r58.Qae,v59]:List Value)) 30,Row 61 Qao v59 r58.Qah,Row 2 (K.int .i64) v71 x72,Cells b84 ((encA (encI .i64)) x85) 47,Cells b94 ((encA (encI .i64)) x95) 47,Cells b101 ((encA (encI .i64)) x131) 47,Cells b103 ((encA (encI .i64)) x132) 47,Row 2 (K.int .i64) v136 r135.1] w) ?_ ?_
    ·
     rintro t w ⟨H,hf,hs⟩
     obtain ⟨O,rfl⟩:=hf.open
     try dsimp only [oT]
     unfold Qal.a17 at H
     refine Qaf (Qak [0,1,2,3,4] rfl ?_)
     refine Qaa (v:=int .i64 r134.1) rfl rfl rfl (g_d rfl ?_)
     refine Qaa (v:=pointer (some ⟨b61,1,none⟩)) rfl rfl rfl (g_d rfl ?_)
     refine Qaw rfl rfl (v:=int .i8 r58.Qae) rfl rfl (fun _=>rfl) (cells_load (hs.cells 0 rfl) 1 1 rfl) (g_d rfl ?_)
     refine Qaa (v:=int .i64 (i64w r58.Qae)) rfl rfl rfl (g_d rfl ?_)
     refine QaA (B:=decide (r134.1≤(i64w r58.Qae))) rfl rfl rfl ?_ ?_
     ·
      intro hb
      rw [if_pos (b_dec_t hb)] at H
      refine g_d rfl ?_
      try dsimp only [Qai,Qaj]
      refine Qab (Qam rfl (Qaf (Qak [0,1,2,3,4,5] rfl ?_)))
      refine Qaa (v:=int .i64 r134.1) rfl rfl rfl (g_d rfl ?_)
      obtain ⟨g90,H⟩:=ite_get H
      refine Qba (n:=r134.1) (m:=1) rfl (fun _=>rfl) g90.1 g90.2 rfl rfl rfl rfl rfl (g_d rfl ?_)
      refine Qaw rfl rfl (v:=int .i64 (x132.get r134.1 0)) rfl rfl (fun _=>rfl) (by rw [Nat.zero_add];exact cells_load (hs.cells 6 rfl) _ _ (encA_at (fkI .i64).len _ _ 0 g90.1 g90.2)) (g_d rfl ?_)
      try dsimp only [Qai,Qaj]
      refine Qaa (v:=int .i64 (i64w ((x132.get r134.1 0)+1))) rfl rfl rfl (g_d rfl ?_)
      obtain ⟨g91,H⟩:=ite_get H
      refine Qba (n:=r134.1) (m:=1) rfl (fun _=>rfl) g91.1 g91.2 rfl rfl rfl rfl rfl (g_d rfl ?_)
      try dsimp only [Qai,Qaj]
      have hs:St _ [_,_,_,_,_,_,_,_] _:=hs.pull 6 rfl
      refine QbN (y:=i64w ((x132.get r134.1 0)+1)) (fkI .i64).len (fkI .i64).one g91.1 g91.2 hs rfl rfl rfl rfl rfl (fun _=>rfl) ?_
      intro w hs
      refine g_n rfl (Qab (Qaf (Qak [0,1,2,3,4,5] rfl ?_)))
      refine Qaa (v:=int .u64 r87.1) rfl rfl rfl (g_d rfl ?_)
      refine Qaa (v:=int .i64 x133) rfl rfl rfl (g_d rfl ?_)
      refine Qaa (v:=int .u64 (u64w x133)) rfl rfl rfl (g_d rfl ?_)
      obtain ⟨g92,H⟩:=ite_get H
      refine Qaa (v:=int .u64 (shrI .u64 r87.1 (u64w x133))) rfl rfl (QcC rfl rfl rfl g92) (g_d rfl ?_)
      refine Qaa (v:=int .u64 (bAnd .u64 (shrI .u64 r87.1 (u64w x133)) 1)) rfl rfl rfl (g_d rfl ?_)
      try dsimp only [Qai,Qaj]
      refine QaA (B:=(bAnd .u64 (shrI .u64 r87.1 (u64w x133)) 1)==1) rfl rfl rfl ?_ ?_
      ·
       intro hb
       rw [if_pos (b_beq_t hb)] at H
       refine g_d rfl ?_
       try dsimp only [Qai,Qaj]
       refine Qab (Qam rfl (Qak [0,1,2,3,4,5] rfl ?_))
       refine Qaa (v:=int .i64 r134.1) rfl rfl rfl (g_d rfl ?_)
       obtain ⟨g93,H⟩:=ite_get H
       refine Qba (n:=r134.1) (m:=1) rfl (fun _=>rfl) g93.1 g93.2 rfl rfl rfl rfl rfl (g_d rfl ?_)
       refine Qaw rfl rfl (v:=int .i64 (x131.get r134.1 0)) rfl rfl (fun _=>rfl) (by rw [Nat.zero_add];exact cells_load (hs.cells 6 rfl) _ _ (encA_at (fkI .i64).len _ _ 0 g93.1 g93.2)) (g_d rfl ?_)
       try dsimp only [Qai,Qaj]
       refine Qaa (v:=int .i64 (i64w ((x131.get r134.1 0)+1))) rfl rfl rfl (g_d rfl ?_)
       obtain ⟨g94,H⟩:=ite_get H
       refine Qba (n:=r134.1) (m:=1) rfl (fun _=>rfl) g94.1 g94.2 rfl rfl rfl rfl rfl (g_d rfl ?_)
       try dsimp only [Qai,Qaj]
       have hs:St _ [_,_,_,_,_,_,_,_] _:=hs.pull 6 rfl
       refine QbN (y:=i64w ((x131.get r134.1 0)+1)) (fkI .i64).len (fkI .i64).one g94.1 g94.2 hs rfl rfl rfl rfl rfl (fun _=>rfl) ?_
       intro w hs
       refine g_n rfl (Qab ?_)
       refine QaH ?_
       have hs:=hs.pull 7 rfl
       have hs:=hs.pull 2 rfl
       have hs:=hs.pull 2 rfl
       have hs:=hs.pull 7 rfl
       have hs:=hs.pull 7 rfl
       have hs:=hs.pull 7 rfl
       have hs:=hs.pull 7 rfl
       have hs:=hs.pull 7 rfl
       have hs:St _ [_,_,_,_,_,_,_,_] _:=St.take (Γ':=[]) hs
       exact ha _ _ ⟨x131.set r134.1 (i64w ((x131.get r134.1 0)+1)),x132.set r134.1 (i64w ((x132.get r134.1 0)+1)),r135.2,r135.2 !=0,v136,r135.1,(r135.1.length:Int),r134.1,(r135.1.length:Int) !=r134.1,r138,decide (r134.1≤(i64w r58.Qae)),H,rfl,hs⟩
      intro hb
      rw [if_neg (b_beq_f hb)] at H
      refine g_d rfl (Qab (Qap rfl (QaE ?_)))
      refine QaH ?_
      have hs:=hs.pull 7 rfl
      have hs:=hs.pull 1 rfl
      have hs:=hs.pull 7 rfl
      have hs:=hs.pull 7 rfl
      have hs:=hs.pull 7 rfl
      have hs:=hs.pull 7 rfl
      have hs:=hs.pull 7 rfl
      have hs:=hs.pull 7 rfl
      have hs:St _ [_,_,_,_,_,_,_,_] _:=St.take (Γ':=[]) hs
      exact ha _ _ ⟨x131,x132.set r134.1 (i64w ((x132.get r134.1 0)+1)),r135.2,r135.2 !=0,v136,r135.1,(r135.1.length:Int),r134.1,(r135.1.length:Int) !=r134.1,r138,decide (r134.1≤(i64w r58.Qae)),H,rfl,hs⟩
     intro hb
     rw [if_neg (b_dec_f hb)] at H
     refine g_d rfl ?_
     try dsimp only [Qai,Qaj]
     refine Qab (Qap rfl (Qaf (Qak [0,1,2,3,4,5] rfl ?_)))
     refine Qaa (v:=int .u64 r87.1) rfl rfl rfl (g_d rfl ?_)
     refine Qaa (v:=int .i64 x133) rfl rfl rfl (g_d rfl ?_)
     refine Qaa (v:=int .u64 (u64w x133)) rfl rfl rfl (g_d rfl ?_)
     obtain ⟨g95,H⟩:=ite_get H
     refine Qaa (v:=int .u64 (shrI .u64 r87.1 (u64w x133))) rfl rfl (QcC rfl rfl rfl g95) (g_d rfl ?_)
     refine Qaa (v:=int .u64 (bAnd .u64 (shrI .u64 r87.1 (u64w x133)) 1)) rfl rfl rfl (g_d rfl ?_)
     try dsimp only [Qai,Qaj]
     refine QaA (B:=(bAnd .u64 (shrI .u64 r87.1 (u64w x133)) 1)==1) rfl rfl rfl ?_ ?_
     ·
      intro hb
      rw [if_pos (b_beq_t hb)] at H
      refine g_d rfl ?_
      try dsimp only [Qai,Qaj]
      refine Qab (Qam rfl (Qaf (Qak [0] rfl ?_)))
      refine Qaa (v:=bool false) rfl rfl rfl (g_d rfl (Qab ?_))
      obtain rfl:=QsJ H
      subst Hx1_
      have H:=QsJ Hr1_
      subst H
      refine Qax Tryz.func3 (v:=bool false) (res1 rfl rfl) ?_
      have hs:St _ [] _:=St.take (Γ':=[_,_,_,_,_,_,_,_]) hs
      exact ⟨_,rfl,rfl,hs⟩
     intro hb
     rw [if_neg (b_beq_f hb)] at H
     refine g_d rfl (Qab (Qap rfl (QaE ?_)))
     refine QaH ?_
     have hs:=hs.pull 7 rfl
     have hs:=hs.pull 7 rfl
     have hs:=hs.pull 7 rfl
     have hs:=hs.pull 7 rfl
     have hs:=hs.pull 7 rfl
     have hs:=hs.pull 7 rfl
     have hs:=hs.pull 7 rfl
     have hs:=hs.pull 7 rfl
     have hs:St _ [_,_,_,_,_,_,_,_] _:=St.take (Γ':=[]) hs
     exact ha _ _ ⟨x131,x132,r135.2,r135.2 !=0,v136,r135.1,(r135.1.length:Int),r134.1,(r135.1.length:Int) !=r134.1,r138,decide (r134.1≤(i64w r58.Qae)),H,rfl,hs⟩
    intro ha2_
    have hs:=hs.pull 0 rfl
    have hs:=hs.pull 7 rfl
    have hs:=hs.pull 7 rfl
    have hs:=hs.pull 7 rfl
    have hs:=hs.pull 7 rfl
    have hs:=hs.pull 7 rfl
    have hs:=hs.pull 7 rfl
    have hs:=hs.pull 7 rfl
    have hs:St _ [_,_,_,_,_,_,_,_] _:=St.take (Γ':=[]) hs
    refine QaZ (I:=fun n_ t w=>∃ x139:Int,rounds (fun s=>Qal.b17 N r58 x133 r135 s) n_ x139=some o2_∧Fr t (fun O=>(oT O 0 (oT O 1 (O 20::O 21::O 22::O 23::O 24::pointer (some ⟨b61,0,none⟩)::O 26::O 27::v71::O 29::O 30::O 31::pointer (some ⟨b84,0,none⟩)::O 33::int .u64 r87.1::O 35::pointer (some ⟨b94,0,none⟩)::O 37::O 38::O 39::pointer (some ⟨b101,0,none⟩)::pointer (some ⟨b103,0,none⟩)::int .i64 x133::int .i64 r134.1::O 44::v136::O 46::int .i64 x139::O 48::O 49::oT O 5 (oT O 6 (oT O 7 (oT O 8 (oT O 9 (oT O 10 (oT O 11 (oT O 12 (oT O 13 (oT O 14 (oT O 15 (oT O 16 (oT O 17 (oT O 18 (oT O 19 (oT O 20 (oT O 21 (oT O 22 (oT O 23 (oT O 24 (oT O 25 (oT O 26 (oT O 27 (oT O 28 (oT O 29 (oT O 30 (O 310::O 311::O 312::O 313::O 314::O 315::O 316::O 317::int .i64 r135.2::bool (r135.2 !=0)::O 320::O 321::v136::int .i64 (r135.1.length:Int)::int .i64 r134.1::bool ((r135.1.length:Int) !=r134.1)::O 326::O 327::v71::int .i64 x133::bool r138::int .i64 r134.1::pointer (some ⟨b61,1,none⟩)::int .i8 r58.Qae::int .i64 (i64w r58.Qae)::bool (decide (r134.1≤(i64w r58.Qae)))::bool false::O 337::O 338::O 339::oT O 34 (oT O 35 (oT O 36 (oT O 37 (oT O 38 (oT O 39 (oT O 40 (oT O 41 (oT O 42 (O 430::O 431::O 432::O 433::O 434::O 435::[]))))))))))))))))))))))))))))))))))))):List Value))∧St w0 [Row 61 Qao v59 r58.Qah,Cells b61 (([int .i8 r58.Qac,int .i8 r58.Qae,v59]:List Value)) 30,Row 2 (K.int .i64) v71 x72,Cells b84 ((encA (encI .i64)) x85) 47,Cells b94 ((encA (encI .i64)) x95) 47,Cells b101 ((encA (encI .i64)) x131) 47,Cells b103 ((encA (encI .i64)) x132) 47,Row 2 (K.int .i64) v136 r135.1] w) N ⟨0,Ho,rfl,hs⟩ ?_ ?_
    ·
     rintro _ _ ⟨x139,h,_⟩
     exact rounds_zero h
    intro n_ ih2_
    rintro t w ⟨x139,Ho,hf,hs⟩
    obtain ⟨O,rfl⟩:=hf.open
    try dsimp only [oT]
    obtain ⟨x96_,H,Hx2_⟩:=rounds_succ Ho
    have H:Qal.b17 N r58 x133 r135 x139=some x96_:=H
    unfold Qal.b17 at H
    refine Qaf (Qaf (Qak [0,1,2,3,4] rfl ?_))
    refine Qaa (v:=int .i64 x139) rfl rfl rfl (g_d rfl ?_)
    refine Qaa (v:=pointer (some ⟨b61,2,none⟩)) rfl rfl rfl (g_d rfl ?_)
    refine Qaw rfl rfl (v:=v59) rfl rfl (fun _=>rfl) (cells_load (hs.cells 1 rfl) 2 1 rfl) (g_d rfl ?_)
    refine Qbp (hs.row 0 rfl) rfl rfl rfl rfl rfl (g_d rfl ?_)
    try dsimp only [Qai,Qaj]
    refine QaA (B:=decide (x139< (r58.Qah.length:Int))) rfl rfl rfl ?_ ?_
    · as_aux_lemma =>
     intro hb
     rw [if_pos (b_dec_t hb)] at H
     refine g_d rfl ?_
     try dsimp only [Qai,Qaj]
     refine Qab (Qam rfl (QaE (Qaf ?_)))
     refine Qbz (Qaf ?_)
     obtain ⟨gd86,H⟩:=ite_get H
     obtain ⟨ad87_,ad87_N,ad87_C,had87_⟩:=sl_at (hs.row 0 rfl) gd86.1 gd86.2
     obtain ⟨r140,Hr140,H⟩:=bind_get H
     obtain ⟨gd88,H⟩:=ite_get H
     obtain ⟨ad89_,ad89_N,ad89_C,had89_⟩:=sl_at (hs.row 0 rfl) gd88.1 gd88.2
     refine Qbu ?_
     intro T hT
     refine Qcl (n:=16) rfl [0,1,2,3,4,5,6,7,8,9,10,11,12,13,14,15] [0,1,2,3,4,5,6,7,8,9,10,11,12,13,14,15] rfl rfl (Inv:=fun D t w=>∃ O:Nat→Value,t=(oT O 0 (oT O 1 (O 20::O 21::O 22::O 23::O 24::pointer (some ⟨b61,0,none⟩)::O 26::O 27::v71::O 29::O 30::O 31::pointer (some ⟨b84,0,none⟩)::O 33::int .u64 r87.1::O 35::pointer (some ⟨b94,0,none⟩)::O 37::O 38::O 39::pointer (some ⟨b101,0,none⟩)::pointer (some ⟨b103,0,none⟩)::int .i64 x133::int .i64 r134.1::O 44::v136::O 46::int .i64 x139::cnd (D 15) (bool (r140==((rdL r58.Qah x139 Qau).QbH))) (O 48)::O 49::oT O 5 (oT O 6 (oT O 7 (oT O 8 (oT O 9 (oT O 10 (oT O 11 (oT O 12 (oT O 13 (oT O 14 (oT O 15 (oT O 16 (oT O 17 (oT O 18 (oT O 19 (oT O 20 (oT O 21 (oT O 22 (oT O 23 (oT O 24 (oT O 25 (oT O 26 (oT O 27 (oT O 28 (oT O 29 (oT O 30 (O 310::O 311::O 312::O 313::O 314::O 315::O 316::O 317::int .i64 r135.2::bool (r135.2 !=0)::O 320::O 321::v136::int .i64 (r135.1.length:Int)::int .i64 r134.1::bool ((r135.1.length:Int) !=r134.1)::O 326::O 327::v71::int .i64 x133::bool r138::int .i64 r134.1::pointer (some ⟨b61,1,none⟩)::int .i8 r58.Qae::int .i64 (i64w r58.Qae)::bool (decide (r134.1≤(i64w r58.Qae)))::bool false::O 337::int .i64 x139::pointer (some ⟨b61,2,none⟩)::v59::int .i64 (r58.Qah.length:Int)::bool true::O 343::O 344::cnd (D 0) (pointer (some ⟨b61,2,none⟩)) (O 345)::cnd (D 1) v59 (O 346)::cnd (D 2) (int .i64 x139) (O 347)::cnd (D 3) (pointer (some (ad87_.add (x139.toNat*2)))) (O 348)::cnd (D 4) (pointer (some ((ad87_.add (x139.toNat*2)).add 0))) (O 349)::cnd (D 5) (int .u64 ((rdL r58.Qah x139 Qau).Qbh)) (O 350)::cnd (D 6) (int .i64 x133) (O 351)::cnd (D 7) (bool r140) (O 352)::cnd (D 8) (pointer (some ⟨b61,2,none⟩)) (O 353)::cnd (D 9) v59 (O 354)::cnd (D 10) (int .i64 x139) (O 355)::cnd (D 11) (pointer (some (ad89_.add (x139.toNat*2)))) (O 356)::cnd (D 12) (pointer (some ((ad89_.add (x139.toNat*2)).add 1))) (O 357)::cnd (D 13) (bool ((rdL r58.Qah x139 Qau).QbH)) (O 358)::cnd (D 14) (bool (r140==((rdL r58.Qah x139 Qau).QbH))) (O 359)::oT O 36 (oT O 37 (oT O 38 (oT O 39 (oT O 40 (oT O 41 (oT O 42 (O 430::O 431::O 432::O 433::O 434::O 435::[]))))))))))))))))))))))))))))))))))))∧St w0 [Row 61 Qao v59 r58.Qah,Cells b61 (([int .i8 r58.Qac,int .i8 r58.Qae,v59]:List Value)) 30,Row 2 (K.int .i64) v71 x72,Cells b84 ((encA (encI .i64)) x85) 47,Cells b94 ((encA (encI .i64)) x95) 47,Cells b101 ((encA (encI .i64)) x131) 47,Cells b103 ((encA (encI .i64)) x132) 47,Row 2 (K.int .i64) v136 r135.1] w) ?_ ⟨⟨⟨⟨⟨⟨⟨⟨⟨⟨⟨⟨⟨⟨⟨⟨trivial,?_⟩,?_⟩,?_⟩,?_⟩,?_⟩,?_⟩,?_⟩,?_⟩,?_⟩,?_⟩,?_⟩,?_⟩,?_⟩,?_⟩,?_⟩,?_⟩ ?_
     ·
      intro w hh hbw
      have hs:=hs.samew hh hbw
      exact ⟨fun i=>T.getD i undef,(by subst hT;rfl),hs⟩
     ·
      rintro D t w hD hp hcl ⟨O,ht,hs⟩ rest hk
      have q1_:=nz hcl 1 0 hD
      have q3_:=nz hcl 3 0 q1_
      have q4_:=nz hcl 4 0 q3_
      have q5_:=nz hcl 5 0 q4_
      have q7_:=nz hcl 7 0 q5_
      have q14_:=nz hcl 14 0 q7_
      have q15_:=nz hcl 15 0 q14_
      simp only [hD,q1_,q3_,q4_,q5_,q7_,q14_,q15_,cq,oT] at ht hs
      subst ht
      refine Qaa (v:=pointer (some ⟨b61,2,none⟩)) rfl rfl rfl (g_d rfl ?_)
      try dsimp only [Qai,Qaj]
      refine hk _ _ ⟨O,?_,hs.cast ?_⟩<;>simp only [oT,lq,cq,Nat.reduceBEq,q1_,q3_,q4_,q5_,q7_,q14_,q15_]
     ·
      rintro D t w hD hp hcl ⟨O,ht,hs⟩ rest hk
      obtain ⟨p0_,_⟩:=hp
      have q3_:=nz hcl 3 0 hD
      have q4_:=nz hcl 4 0 q3_
      have q5_:=nz hcl 5 0 q4_
      have q7_:=nz hcl 7 0 q5_
      have q14_:=nz hcl 14 0 q7_
      have q15_:=nz hcl 15 0 q14_
      simp only [hD,p0_,q3_,q4_,q5_,q7_,q14_,q15_,cq,oT] at ht hs
      subst ht
      refine Qaw rfl rfl (v:=v59) rfl rfl (fun _=>rfl) (cells_load (hs.cells 1 rfl) 2 1 rfl) (g_d rfl ?_)
      try dsimp only [Qai,Qaj]
      refine hk _ _ ⟨O,?_,hs.cast ?_⟩<;>simp only [oT,lq,cq,Nat.reduceBEq,p0_,q3_,q4_,q5_,q7_,q14_,q15_]
     ·
      rintro D t w hD hp hcl ⟨O,ht,hs⟩ rest hk
      have q3_:=nz hcl 3 1 hD
      have q4_:=nz hcl 4 0 q3_
      have q5_:=nz hcl 5 0 q4_
      have q7_:=nz hcl 7 0 q5_
      have q14_:=nz hcl 14 0 q7_
      have q15_:=nz hcl 15 0 q14_
      simp only [hD,q3_,q4_,q5_,q7_,q14_,q15_,cq,oT] at ht hs
      subst ht
      refine Qaa (v:=int .i64 x139) rfl rfl rfl (g_d rfl ?_)
      try dsimp only [Qai,Qaj]
      refine hk _ _ ⟨O,?_,hs.cast ?_⟩<;>simp only [oT,lq,cq,Nat.reduceBEq,q3_,q4_,q5_,q7_,q14_,q15_]
     ·
      rintro D t w hD hp hcl ⟨O,ht,hs⟩ rest hk
      obtain ⟨p1_,p2_,_⟩:=hp
      obtain ⟨p0_,_⟩:=(hcl.get 1 (by decide)) p1_
      have q4_:=nz hcl 4 0 hD
      have q5_:=nz hcl 5 0 q4_
      have q7_:=nz hcl 7 0 q5_
      have q14_:=nz hcl 14 0 q7_
      have q15_:=nz hcl 15 0 q14_
      simp only [hD,p0_,p1_,p2_,q4_,q5_,q7_,q14_,q15_,cq,oT] at ht hs
      subst ht
      refine Qcn (κ:=Qao) (m:=2) rfl (hs.row 0 rfl) rfl (fun _=>rfl) gd86.1 gd86.2 had87_ rfl rfl rfl rfl rfl (g_d rfl ?_)
      try dsimp only [Qai,Qaj]
      refine hk _ _ ⟨O,?_,hs.cast ?_⟩<;>simp only [oT,lq,cq,Nat.reduceBEq,p0_,p1_,p2_,q4_,q5_,q7_,q14_,q15_]
     ·
      rintro D t w hD hp hcl ⟨O,ht,hs⟩ rest hk
      obtain ⟨p3_,_⟩:=hp
      obtain ⟨p1_,p2_,_⟩:=(hcl.get 3 (by decide)) p3_
      obtain ⟨p0_,_⟩:=(hcl.get 1 (by decide)) p1_
      have q5_:=nz hcl 5 0 hD
      have q7_:=nz hcl 7 0 q5_
      have q14_:=nz hcl 14 0 q7_
      have q15_:=nz hcl 15 0 q14_
      simp only [hD,p0_,p1_,p2_,p3_,q5_,q7_,q14_,q15_,cq,oT] at ht hs
      subst ht
      refine Qaa (v:=pointer (some ((ad87_.add (x139.toNat*2)).add 0))) rfl rfl (QcE rfl rfl rfl rfl rfl (m:=1) (fun _=>rfl) (by decide)) (g_d rfl ?_)
      try dsimp only [Qai,Qaj]
      refine hk _ _ ⟨O,?_,hs.cast ?_⟩<;>simp only [oT,lq,cq,Nat.reduceBEq,p0_,p1_,p2_,p3_,q5_,q7_,q14_,q15_]
     ·
      rintro D t w hD hp hcl ⟨O,ht,hs⟩ rest hk
      obtain ⟨p4_,_⟩:=hp
      obtain ⟨p3_,_⟩:=(hcl.get 4 (by decide)) p4_
      obtain ⟨p1_,p2_,_⟩:=(hcl.get 3 (by decide)) p3_
      obtain ⟨p0_,_⟩:=(hcl.get 1 (by decide)) p1_
      have q7_:=nz hcl 7 0 hD
      have q14_:=nz hcl 14 0 q7_
      have q15_:=nz hcl 15 0 q14_
      simp only [hD,p0_,p1_,p2_,p3_,p4_,q7_,q14_,q15_,cq,oT] at ht hs
      subst ht
      refine Qaw rfl rfl (v:=int .u64 ((rdL r58.Qah x139 Qau).Qbh)) rfl rfl (fun _=>rfl) (CellsAt.sub (cellsAt_of QaX Qau (hs.row 0 rfl) had87_ gd86.1 gd86.2) 0 1 (by first|rfl|(simp [QaC,List.drop_append,List.take_append,encAI_len,encAB_len,encA_len,List.take_of_length_le,List.drop_eq_nil_of_le]))) (g_d rfl ?_)
      try dsimp only [Qai,Qaj]
      refine hk _ _ ⟨O,?_,hs.cast ?_⟩<;>simp only [oT,lq,cq,Nat.reduceBEq,p0_,p1_,p2_,p3_,p4_,q7_,q14_,q15_]
     ·
      rintro D t w hD hp hcl ⟨O,ht,hs⟩ rest hk
      have q7_:=nz hcl 7 1 hD
      have q14_:=nz hcl 14 0 q7_
      have q15_:=nz hcl 15 0 q14_
      simp only [hD,q7_,q14_,q15_,cq,oT] at ht hs
      subst ht
      refine Qaa (v:=int .i64 x133) rfl rfl rfl (g_d rfl ?_)
      try dsimp only [Qai,Qaj]
      refine hk _ _ ⟨O,?_,hs.cast ?_⟩<;>simp only [oT,lq,cq,Nat.reduceBEq,q7_,q14_,q15_]
     ·
      rintro D t w hD hp hcl ⟨O,ht,hs⟩ rest hk
      obtain ⟨p5_,p6_,_⟩:=hp
      obtain ⟨p4_,_⟩:=(hcl.get 5 (by decide)) p5_
      obtain ⟨p3_,_⟩:=(hcl.get 4 (by decide)) p4_
      obtain ⟨p1_,p2_,_⟩:=(hcl.get 3 (by decide)) p3_
      obtain ⟨p0_,_⟩:=(hcl.get 1 (by decide)) p1_
      have q14_:=nz hcl 14 0 hD
      have q15_:=nz hcl 15 0 q14_
      simp only [hD,p0_,p1_,p2_,p3_,p4_,p5_,p6_,q14_,q15_,cq,oT] at ht hs
      subst ht
      refine Qas (args:=[int .u64 ((rdL r58.Qah x139 Qau).Qbh),int .i64 x133,bool false]) rfl rfl (Qat rfl (callFunc_enter Tryz.func29 rfl rfl) rfl) (Qbo.calls (a1:=(rdL r58.Qah x139 Qau).Qbh) (a2:=x133) (a3:=false) Hr140) ?_
      rintro _ w ⟨rfl,hs2⟩
      have hs:St _ [_,_,_,_,_,_,_,_] _:=hs.call hs2
      refine g_d rfl ?_
      try dsimp only [Qai,Qaj]
      refine hk _ _ ⟨O,?_,hs.cast ?_⟩<;>simp only [oT,lq,cq,Nat.reduceBEq,p0_,p1_,p2_,p3_,p4_,p5_,p6_,q14_,q15_]
     ·
      rintro D t w hD hp hcl ⟨O,ht,hs⟩ rest hk
      have q9_:=nz hcl 9 0 hD
      have q11_:=nz hcl 11 0 q9_
      have q12_:=nz hcl 12 0 q11_
      have q13_:=nz hcl 13 0 q12_
      have q14_:=nz hcl 14 1 q13_
      have q15_:=nz hcl 15 0 q14_
      simp only [hD,q9_,q11_,q12_,q13_,q14_,q15_,cq,oT] at ht hs
      subst ht
      refine Qaa (v:=pointer (some ⟨b61,2,none⟩)) rfl rfl rfl (g_d rfl ?_)
      try dsimp only [Qai,Qaj]
      refine hk _ _ ⟨O,?_,hs.cast ?_⟩<;>simp only [oT,lq,cq,Nat.reduceBEq,q9_,q11_,q12_,q13_,q14_,q15_]
     ·
      rintro D t w hD hp hcl ⟨O,ht,hs⟩ rest hk
      obtain ⟨p8_,_⟩:=hp
      have q11_:=nz hcl 11 0 hD
      have q12_:=nz hcl 12 0 q11_
      have q13_:=nz hcl 13 0 q12_
      have q14_:=nz hcl 14 1 q13_
      have q15_:=nz hcl 15 0 q14_
      simp only [hD,p8_,q11_,q12_,q13_,q14_,q15_,cq,oT] at ht hs
      subst ht
      refine Qaw rfl rfl (v:=v59) rfl rfl (fun _=>rfl) (cells_load (hs.cells 1 rfl) 2 1 rfl) (g_d rfl ?_)
      try dsimp only [Qai,Qaj]
      refine hk _ _ ⟨O,?_,hs.cast ?_⟩<;>simp only [oT,lq,cq,Nat.reduceBEq,p8_,q11_,q12_,q13_,q14_,q15_]
     ·
      rintro D t w hD hp hcl ⟨O,ht,hs⟩ rest hk
      have q11_:=nz hcl 11 1 hD
      have q12_:=nz hcl 12 0 q11_
      have q13_:=nz hcl 13 0 q12_
      have q14_:=nz hcl 14 1 q13_
      have q15_:=nz hcl 15 0 q14_
      simp only [hD,q11_,q12_,q13_,q14_,q15_,cq,oT] at ht hs
      subst ht
      refine Qaa (v:=int .i64 x139) rfl rfl rfl (g_d rfl ?_)
      try dsimp only [Qai,Qaj]
      refine hk _ _ ⟨O,?_,hs.cast ?_⟩<;>simp only [oT,lq,cq,Nat.reduceBEq,q11_,q12_,q13_,q14_,q15_]
     ·
      rintro D t w hD hp hcl ⟨O,ht,hs⟩ rest hk
      obtain ⟨p9_,p10_,_⟩:=hp
      obtain ⟨p8_,_⟩:=(hcl.get 9 (by decide)) p9_
      have q12_:=nz hcl 12 0 hD
      have q13_:=nz hcl 13 0 q12_
      have q14_:=nz hcl 14 1 q13_
      have q15_:=nz hcl 15 0 q14_
      simp only [hD,p8_,p9_,p10_,q12_,q13_,q14_,q15_,cq,oT] at ht hs
      subst ht
      refine Qcn (κ:=Qao) (m:=2) rfl (hs.row 0 rfl) rfl (fun _=>rfl) gd88.1 gd88.2 had89_ rfl rfl rfl rfl rfl (g_d rfl ?_)
      try dsimp only [Qai,Qaj]
      refine hk _ _ ⟨O,?_,hs.cast ?_⟩<;>simp only [oT,lq,cq,Nat.reduceBEq,p8_,p9_,p10_,q12_,q13_,q14_,q15_]
     ·
      rintro D t w hD hp hcl ⟨O,ht,hs⟩ rest hk
      obtain ⟨p11_,_⟩:=hp
      obtain ⟨p9_,p10_,_⟩:=(hcl.get 11 (by decide)) p11_
      obtain ⟨p8_,_⟩:=(hcl.get 9 (by decide)) p9_
      have q13_:=nz hcl 13 0 hD
      have q14_:=nz hcl 14 1 q13_
      have q15_:=nz hcl 15 0 q14_
      simp only [hD,p8_,p9_,p10_,p11_,q13_,q14_,q15_,cq,oT] at ht hs
      subst ht
      refine Qaa (v:=pointer (some ((ad89_.add (x139.toNat*2)).add 1))) rfl rfl (QcE rfl rfl rfl rfl rfl (m:=1) (fun _=>rfl) (by decide)) (g_d rfl ?_)
      try dsimp only [Qai,Qaj]
      refine hk _ _ ⟨O,?_,hs.cast ?_⟩<;>simp only [oT,lq,cq,Nat.reduceBEq,p8_,p9_,p10_,p11_,q13_,q14_,q15_]
     ·
      rintro D t w hD hp hcl ⟨O,ht,hs⟩ rest hk
      obtain ⟨p12_,_⟩:=hp
      obtain ⟨p11_,_⟩:=(hcl.get 12 (by decide)) p12_
      obtain ⟨p9_,p10_,_⟩:=(hcl.get 11 (by decide)) p11_
      obtain ⟨p8_,_⟩:=(hcl.get 9 (by decide)) p9_
      have q14_:=nz hcl 14 1 hD
      have q15_:=nz hcl 15 0 q14_
      simp only [hD,p8_,p9_,p10_,p11_,p12_,q14_,q15_,cq,oT] at ht hs
      subst ht
      refine Qaw rfl rfl (v:=bool ((rdL r58.Qah x139 Qau).QbH)) rfl rfl (fun _=>rfl) (CellsAt.sub (cellsAt_of QaX Qau (hs.row 0 rfl) had89_ gd88.1 gd88.2) 1 1 (by first|rfl|(simp [QaC,List.drop_append,List.take_append,encAI_len,encAB_len,encA_len,List.take_of_length_le,List.drop_eq_nil_of_le]))) (g_d rfl ?_)
      try dsimp only [Qai,Qaj]
      refine hk _ _ ⟨O,?_,hs.cast ?_⟩<;>simp only [oT,lq,cq,Nat.reduceBEq,p8_,p9_,p10_,p11_,p12_,q14_,q15_]
     ·
      rintro D t w hD hp hcl ⟨O,ht,hs⟩ rest hk
      obtain ⟨p7_,p13_,_⟩:=hp
      obtain ⟨p12_,_⟩:=(hcl.get 13 (by decide)) p13_
      obtain ⟨p11_,_⟩:=(hcl.get 12 (by decide)) p12_
      obtain ⟨p9_,p10_,_⟩:=(hcl.get 11 (by decide)) p11_
      obtain ⟨p8_,_⟩:=(hcl.get 9 (by decide)) p9_
      obtain ⟨p5_,p6_,_⟩:=(hcl.get 7 (by decide)) p7_
      obtain ⟨p4_,_⟩:=(hcl.get 5 (by decide)) p5_
      obtain ⟨p3_,_⟩:=(hcl.get 4 (by decide)) p4_
      obtain ⟨p1_,p2_,_⟩:=(hcl.get 3 (by decide)) p3_
      obtain ⟨p0_,_⟩:=(hcl.get 1 (by decide)) p1_
      have q15_:=nz hcl 15 0 hD
      simp only [hD,p0_,p1_,p2_,p3_,p4_,p5_,p6_,p7_,p8_,p9_,p10_,p11_,p12_,p13_,q15_,cq,oT] at ht hs
      subst ht
      refine Qaa (v:=bool (r140==((rdL r58.Qah x139 Qau).QbH))) rfl rfl rfl (g_d rfl ?_)
      try dsimp only [Qai,Qaj]
      refine hk _ _ ⟨O,?_,hs.cast ?_⟩<;>simp only [oT,lq,cq,Nat.reduceBEq,p0_,p1_,p2_,p3_,p4_,p5_,p6_,p7_,p8_,p9_,p10_,p11_,p12_,p13_,q15_]
     ·
      rintro D t w hD hp hcl ⟨O,ht,hs⟩ rest hk
      obtain ⟨p14_,p7_,p0_,p1_,p2_,p3_,p4_,p5_,p6_,_,p8_,p9_,p10_,p11_,p12_,p13_,_,_⟩:=hp
      simp only [hD,p0_,p1_,p2_,p3_,p4_,p5_,p6_,p7_,p8_,p9_,p10_,p11_,p12_,p13_,p14_,cq,oT] at ht hs
      subst ht
      refine Qaa (v:=bool (r140==((rdL r58.Qah x139 Qau).QbH))) rfl rfl rfl (g_d rfl ?_)
      try dsimp only [Qai,Qaj]
      refine hk _ _ ⟨O,?_,hs.cast ?_⟩<;>simp only [oT,lq,cq,Nat.reduceBEq,p0_,p1_,p2_,p3_,p4_,p5_,p6_,p7_,p8_,p9_,p10_,p11_,p12_,p13_,p14_]
     intro D t w hall hI
     obtain ⟨O,ht,hs⟩:=hI
     have p0_:=hall 0 (by decide)
     have p1_:=hall 1 (by decide)
     have p2_:=hall 2 (by decide)
     have p3_:=hall 3 (by decide)
     have p4_:=hall 4 (by decide)
     have p5_:=hall 5 (by decide)
     have p6_:=hall 6 (by decide)
     have p7_:=hall 7 (by decide)
     have p8_:=hall 8 (by decide)
     have p9_:=hall 9 (by decide)
     have p10_:=hall 10 (by decide)
     have p11_:=hall 11 (by decide)
     have p12_:=hall 12 (by decide)
     have p13_:=hall 13 (by decide)
     have p14_:=hall 14 (by decide)
     have p15_:=hall 15 (by decide)
     simp only [p0_,p1_,p2_,p3_,p4_,p5_,p6_,p7_,p8_,p9_,p10_,p11_,p12_,p13_,p14_,p15_,cq,oT] at ht hs
     subst ht
     refine Qaf (Qak [0,1,2,3,4] rfl ?_)
     refine Qaa (v:=v136) rfl rfl rfl (g_d rfl ?_)
     refine Qaa (v:=int .i64 x139) rfl rfl rfl (g_d rfl ?_)
     obtain ⟨r141,Hr141,H⟩:=bind_get H
     refine Qas (args:=[v136,int .i64 x139]) rfl rfl (Qat rfl (callFunc_enter Tryz.func28 rfl rfl) rfl) (QbO.calls (a1:=r135.1) (a3:=x139) (hs.row 7 rfl) Hr141) ?_
     rintro _ w ⟨rfl,hs2⟩
     have hs:St _ [_,_,_,_,_,_,_,_] _:=hs.call hs2
     refine g_d rfl ?_
     refine Qaa (v:=bool (r140==((rdL r58.Qah x139 Qau).QbH))) rfl rfl rfl (g_d rfl ?_)
     refine QaA (B:=r141==(r140==((rdL r58.Qah x139 Qau).QbH))) rfl rfl rfl ?_ ?_
     ·
      intro hb
      rw [if_pos (b_beq_t hb)] at H
      refine g_d rfl (Qab (Qam rfl (Qaf (Qak [0] rfl ?_))))
      refine Qaa (v:=bool false) rfl rfl rfl (g_d rfl ?_)
      try dsimp only [Qai,Qaj]
      refine Qab ?_
      obtain rfl:=QsJ H
      subst Hx2_
      have H:=QsJ Hr2_
      subst H
      subst Hx1_
      have H:=QsJ Hr1_
      subst H
      refine Qax Tryz.func3 (v:=bool false) (res1 rfl rfl) ?_
      have hs:St _ [] _:=St.take (Γ':=[_,_,_,_,_,_,_,_]) hs
      exact ⟨_,rfl,rfl,hs⟩
     intro hb
     rw [if_neg (b_beq_f hb)] at H
     refine g_d rfl ?_
     try dsimp only [Qai,Qaj]
     refine Qab (Qap rfl (QaE ?_))
     refine QaH (Qak [0,1,2] rfl ?_)
     refine Qaa (v:=int .i64 x139) rfl rfl rfl (g_d rfl ?_)
     refine Qaa (v:=int .i64 (i64w (x139+1))) rfl rfl rfl (g_d rfl ?_)
     refine Qaa (v:=int .i64 (i64w (x139+1))) rfl rfl rfl (g_d rfl ?_)
     try dsimp only [Qai,Qaj]
     refine Qab ?_
     obtain rfl:=QsJ H
     have hs:=hs.pull 7 rfl
     have hs:=hs.pull 7 rfl
     have hs:=hs.pull 7 rfl
     have hs:=hs.pull 7 rfl
     have hs:=hs.pull 7 rfl
     have hs:=hs.pull 7 rfl
     have hs:=hs.pull 7 rfl
     have hs:=hs.pull 7 rfl
     have hs:St _ [_,_,_,_,_,_,_,_] _:=St.take (Γ':=[]) hs
     exact ih2_ _ _ ⟨i64w (x139+1),Hx2_,rfl,hs⟩
    intro hb
    rw [if_neg (b_dec_f hb)] at H
    refine g_d rfl (Qab (Qap rfl ?_))
    obtain rfl:=QsJ H
    subst Hx2_
    have hs:=hs.pull 7 rfl
    have hs:=hs.pull 7 rfl
    have hs:=hs.pull 7 rfl
    have hs:=hs.pull 7 rfl
    have hs:=hs.pull 7 rfl
    have hs:=hs.pull 7 rfl
    have hs:=hs.pull 6 rfl
    have hs:=hs.pull 7 rfl
    have hs:St _ [_,_,_,_,_,_,_,_] _:=St.take (Γ':=[]) hs
    refine Qbq rfl ?_
    exact ha2_ _ _ ⟨Hr2_,rfl,hs⟩
  rw [if_neg hb58_] at H
  refine Qcj (n:=23) rfl [0,1,2,3,4,5,6,7,8,9,10,11,12,13,14,15,16,17,18,19,20,21,22] [0,1,2,3,4,5,6,7,8,9,10,11,12,13,14,15,16,17,18,19,20,21,22] rfl rfl ?_
  intro rest w hh hbw hO
  have hs:=hs.samew hh hbw
  try dsimp only [Qai,Qaj]
  obtain ⟨rest,rfl,hO97_⟩:=ord_one (m:=0) hO rfl 0 (m':=1) (by decide+kernel) rfl
  clear hO
  refine Qaa (v:=int .i64 r134.2) rfl rfl rfl (g_d rfl ?_)
  obtain ⟨rest,rfl,hO98_⟩:=ord_one (m:=1) hO97_ rfl 1 (m':=3) (by decide+kernel) rfl
  clear hO97_
  refine Qaa (v:=bool true) rfl rfl (run_bool (b:=r134.2 !=0) rfl (by first|exact decide_eq_true hb58_|exact decide_eq_false hb58_|simp [hb58_])) (g_d rfl ?_)
  obtain ⟨rest,rfl,hO99_⟩:=ord_one (m:=3) hO98_ rfl 2 (m':=7) (by decide+kernel) rfl
  clear hO98_
  refine Qaa (v:=bool true) rfl rfl rfl (g_d rfl ?_)
  obtain ⟨rest,rfl,hO100_⟩:=ord_one (m:=7) hO99_ rfl 3 (m':=15) (by decide+kernel) rfl
  clear hO99_
  refine Qad rfl rfl (g_d rfl ?_)
  obtain ⟨rest,rfl,hO101_⟩:=ord_one (m:=15) hO100_ rfl 4 (m':=31) (by decide+kernel) rfl
  clear hO100_
  refine Qad rfl rfl (g_d rfl ?_)
  try dsimp only [Qai,Qaj]
  obtain ⟨rest,rfl,hO102_⟩:=ord_one (m:=31) hO101_ rfl 5 (m':=63) (by decide+kernel) rfl
  clear hO101_
  refine Qaa (v:=bool true) rfl rfl rfl (g_d rfl ?_)
  obtain ⟨rest,rfl,hO103_⟩:=ord_one (m:=63) hO102_ rfl 6 (m':=127) (by decide+kernel) rfl
  clear hO102_
  refine Qaa (v:=bool true) rfl rfl rfl (g_d rfl ?_)
  refine Qbu ?_
  intro T hT
  refine QbV (m0:=127) hO103_ rfl 1023 [7,8,9] [0,1,3,7,15,31,63,127,255,127,1023,2047,4095,8191,8191,32767,8191,8191,139263,401407,991231,2097151,4194303] (by decide+kernel) (fun D t w=>∃ O:Nat→Value,t=(oT O 0 (oT O 1 (O 20::O 21::O 22::O 23::O 24::pointer (some ⟨b61,0,none⟩)::O 26::O 27::v71::O 29::O 30::O 31::pointer (some ⟨b84,0,none⟩)::O 33::int .u64 r87.1::O 35::pointer (some ⟨b94,0,none⟩)::O 37::O 38::O 39::pointer (some ⟨b101,0,none⟩)::pointer (some ⟨b103,0,none⟩)::int .i64 x133::int .i64 r134.1::int .i64 r134.2::v136::int .i64 r135.2::O 47::O 48::O 49::oT O 5 (oT O 6 (oT O 7 (oT O 8 (oT O 9 (oT O 10 (oT O 11 (oT O 12 (oT O 13 (oT O 14 (oT O 15 (oT O 16 (oT O 17 (oT O 18 (oT O 19 (oT O 20 (oT O 21 (oT O 22 (oT O 23 (oT O 24 (oT O 25 (oT O 26 (oT O 27 (oT O 28 (O 290::O 291::O 292::O 293::O 294::O 295::int .i64 x133::pointer (some ⟨b61,0,none⟩)::int .i8 r58.Qac::int .i64 (i64w r58.Qac)::bool true::O 301::O 302::tuple #[int .i64 r134.1,int .i64 r134.2]::agg (([int .i8 r58.Qac,int .i8 r58.Qae,v59]:List Value)).toArray::int .i64 x133::tuple #[int .i64 r134.1,int .i64 r134.2]::int .i64 r134.1::int .i64 r134.2::tuple #[v136,int .i64 r135.2]::agg (([int .i8 r58.Qac,int .i8 r58.Qae,v59]:List Value)).toArray::int .i64 x133::tuple #[v136,int .i64 r135.2]::v136::int .i64 r135.2::int .i64 r134.2::bool true::bool true::O 318::O 319::bool true::bool true::cnd (D 7) undef (O 322)::cnd (D 8) undef (O 323)::cnd (D 9) undef (O 324)::O 325::O 326::O 327::O 328::O 329::oT O 33 (oT O 34 (oT O 35 (oT O 36 (oT O 37 (oT O 38 (oT O 39 (oT O 40 (oT O 41 (oT O 42 (O 430::O 431::O 432::O 433::O 434::O 435::[])))))))))))))))))))))))))))))))))))))∧St w0 [Row 2 (K.int .i64) v136 r135.1,Row 61 Qao v59 r58.Qah,Cells b61 (([int .i8 r58.Qac,int .i8 r58.Qae,v59]:List Value)) 30,Row 2 (K.int .i64) v71 x72,Cells b84 ((encA (encI .i64)) x85) 47,Cells b94 ((encA (encI .i64)) x95) 47,Cells b101 ((encA (encI .i64)) x131) 47,Cells b103 ((encA (encI .i64)) x132) 47] w) ?_ ⟨?_,⟨?_,⟨?_,trivial⟩⟩⟩ ?_
  ·exact ⟨fun i=>T.getD i undef,(by subst hT;rfl),hs⟩
  ·
   rintro D t w hD hp hcl ⟨O,ht,hs⟩ rest hk
   have hp:AllDone D [6]:=hp
   obtain ⟨p6_,_⟩:=hp
   have q8_:=ny hcl 8 0 hD
   simp only [hD,q8_,cq,oT] at ht hs
   subst ht
   refine Qad rfl rfl (g_d rfl ?_)
   try dsimp only [Qai,Qaj]
   refine hk _ _ ⟨O,?_,hs.cast ?_⟩<;>simp only [oT,cq,Nat.reduceBEq,q8_]
  ·
   rintro D t w hD hp hcl ⟨O,ht,hs⟩ rest hk
   have hp:AllDone D [7,6]:=hp
   obtain ⟨p7_,p6_,_⟩:=hp
   simp only [hD,p7_,cq,oT] at ht hs
   subst ht
   refine Qad rfl rfl (g_d rfl ?_)
   try dsimp only [Qai,Qaj]
   refine hk _ _ ⟨O,?_,hs.cast ?_⟩<;>simp only [oT,cq,Nat.reduceBEq,p7_]
  ·
   rintro D t w hD hp hcl ⟨O,ht,hs⟩ rest hk
   have hp:AllDone D [6]:=hp
   obtain ⟨p6_,_⟩:=hp
   simp only [hD,cq,oT] at ht hs
   subst ht
   refine Qad rfl rfl (g_d rfl ?_)
   try dsimp only [Qai,Qaj]
   refine hk _ _ ⟨O,?_,hs.cast ?_⟩<;>simp only [oT,cq,Nat.reduceBEq]
  intro D t w rest hall hO104_ hI
  obtain ⟨O,ht,hs⟩:=hI
  have p7_:=hall 7 (by decide) rfl
  have p8_:=hall 8 (by decide) rfl
  have p9_:=hall 9 (by decide) rfl
  simp only [p7_,p8_,p9_,cq,oT] at ht hs
  subst ht
  obtain ⟨rest,rfl,hO105_⟩:=ord_one (m:=1023) hO104_ rfl 10 (m':=2047) (by decide+kernel) rfl
  clear hO104_
  refine Qad rfl rfl (g_d rfl ?_)
  try dsimp only [Qai,Qaj]
  obtain ⟨rest,rfl,hO106_⟩:=ord_one (m:=2047) hO105_ rfl 11 (m':=4095) (by decide+kernel) rfl
  clear hO105_
  refine Qaa (v:=bool true) rfl rfl rfl (g_d rfl ?_)
  obtain ⟨rest,rfl,hO107_⟩:=ord_one (m:=4095) hO106_ rfl 12 (m':=8191) (by decide+kernel) rfl
  clear hO106_
  refine Qaa (v:=bool true) rfl rfl rfl (g_d rfl ?_)
  refine Qbu ?_
  intro T hT
  refine QbV (m0:=8191) hO107_ rfl 2097151 [13,14,15,16,17,18,19,20] [0,1,3,7,15,31,63,127,255,127,1023,2047,4095,8191,8191,32767,8191,8191,139263,401407,991231,2097151,4194303] (by decide+kernel) (fun D t w=>∃ O:Nat→Value,t=(oT O 0 (oT O 1 (O 20::O 21::O 22::O 23::O 24::pointer (some ⟨b61,0,none⟩)::O 26::O 27::v71::O 29::O 30::O 31::pointer (some ⟨b84,0,none⟩)::O 33::int .u64 r87.1::O 35::pointer (some ⟨b94,0,none⟩)::O 37::O 38::O 39::pointer (some ⟨b101,0,none⟩)::pointer (some ⟨b103,0,none⟩)::int .i64 x133::int .i64 r134.1::int .i64 r134.2::v136::int .i64 r135.2::O 47::O 48::O 49::oT O 5 (oT O 6 (oT O 7 (oT O 8 (oT O 9 (oT O 10 (oT O 11 (oT O 12 (oT O 13 (oT O 14 (oT O 15 (oT O 16 (oT O 17 (oT O 18 (oT O 19 (oT O 20 (oT O 21 (oT O 22 (oT O 23 (oT O 24 (oT O 25 (oT O 26 (oT O 27 (oT O 28 (O 290::O 291::O 292::O 293::O 294::O 295::int .i64 x133::pointer (some ⟨b61,0,none⟩)::int .i8 r58.Qac::int .i64 (i64w r58.Qac)::bool true::O 301::O 302::tuple #[int .i64 r134.1,int .i64 r134.2]::agg (([int .i8 r58.Qac,int .i8 r58.Qae,v59]:List Value)).toArray::int .i64 x133::tuple #[int .i64 r134.1,int .i64 r134.2]::int .i64 r134.1::int .i64 r134.2::tuple #[v136,int .i64 r135.2]::agg (([int .i8 r58.Qac,int .i8 r58.Qae,v59]:List Value)).toArray::int .i64 x133::tuple #[v136,int .i64 r135.2]::v136::int .i64 r135.2::int .i64 r134.2::bool true::bool true::O 318::O 319::bool true::bool true::O 322::O 323::O 324::O 325::bool true::bool true::cnd (D 13) undef (O 328)::cnd (D 14) undef (O 329)::cnd (D 15) undef (O 330)::cnd (D 16) undef (O 331)::cnd (D 17) undef (O 332)::cnd (D 18) undef (O 333)::cnd (D 19) undef (O 334)::cnd (D 20) undef (O 335)::O 336::O 337::O 338::O 339::oT O 34 (oT O 35 (oT O 36 (oT O 37 (oT O 38 (oT O 39 (oT O 40 (oT O 41 (oT O 42 (O 430::O 431::O 432::O 433::O 434::O 435::[]))))))))))))))))))))))))))))))))))))∧St w0 [Row 2 (K.int .i64) v136 r135.1,Row 61 Qao v59 r58.Qah,Cells b61 (([int .i8 r58.Qac,int .i8 r58.Qae,v59]:List Value)) 30,Row 2 (K.int .i64) v71 x72,Cells b84 ((encA (encI .i64)) x85) 47,Cells b94 ((encA (encI .i64)) x95) 47,Cells b101 ((encA (encI .i64)) x131) 47,Cells b103 ((encA (encI .i64)) x132) 47] w) ?_ ⟨?_,⟨?_,⟨?_,⟨?_,⟨?_,⟨?_,⟨?_,⟨?_,trivial⟩⟩⟩⟩⟩⟩⟩⟩ ?_
  ·exact ⟨fun i=>T.getD i undef,(by subst hT;rfl),hs⟩
  ·
   rintro D t w hD hp hcl ⟨O,ht,hs⟩ rest hk
   have hp:AllDone D [12]:=hp
   obtain ⟨p12_,_⟩:=hp
   have q15_:=ny hcl 15 0 hD
   simp only [hD,q15_,cq,oT] at ht hs
   subst ht
   refine Qad rfl rfl (g_d rfl ?_)
   try dsimp only [Qai,Qaj]
   refine hk _ _ ⟨O,?_,hs.cast ?_⟩<;>simp only [oT,cq,Nat.reduceBEq,q15_]
  ·
   rintro D t w hD hp hcl ⟨O,ht,hs⟩ rest hk
   have hp:AllDone D [12]:=hp
   obtain ⟨p12_,_⟩:=hp
   have q15_:=ny hcl 15 1 hD
   simp only [hD,q15_,cq,oT] at ht hs
   subst ht
   refine Qad rfl rfl (g_d rfl ?_)
   try dsimp only [Qai,Qaj]
   refine hk _ _ ⟨O,?_,hs.cast ?_⟩<;>simp only [oT,cq,Nat.reduceBEq,q15_]
  ·
   rintro D t w hD hp hcl ⟨O,ht,hs⟩ rest hk
   have hp:AllDone D [13,14,12,12]:=hp
   obtain ⟨p13_,p14_,p12_,_,_⟩:=hp
   simp only [hD,p13_,p14_,cq,oT] at ht hs
   subst ht
   refine Qad rfl rfl (g_d rfl ?_)
   try dsimp only [Qai,Qaj]
   refine hk _ _ ⟨O,?_,hs.cast ?_⟩<;>simp only [oT,cq,Nat.reduceBEq,p13_,p14_]
  ·
   rintro D t w hD hp hcl ⟨O,ht,hs⟩ rest hk
   have hp:AllDone D [12]:=hp
   obtain ⟨p12_,_⟩:=hp
   have q20_:=ny hcl 20 0 hD
   simp only [hD,q20_,cq,oT] at ht hs
   subst ht
   refine Qad rfl rfl (g_d rfl ?_)
   try dsimp only [Qai,Qaj]
   refine hk _ _ ⟨O,?_,hs.cast ?_⟩<;>simp only [oT,cq,Nat.reduceBEq,q20_]
  ·
   rintro D t w hD hp hcl ⟨O,ht,hs⟩ rest hk
   have hp:AllDone D [12]:=hp
   obtain ⟨p12_,_⟩:=hp
   have q18_:=ny hcl 18 0 hD
   have q19_:=ny hcl 19 0 q18_
   have q20_:=ny hcl 20 1 q19_
   simp only [hD,q18_,q19_,q20_,cq,oT] at ht hs
   subst ht
   refine Qad rfl rfl (g_d rfl ?_)
   try dsimp only [Qai,Qaj]
   refine hk _ _ ⟨O,?_,hs.cast ?_⟩<;>simp only [oT,cq,Nat.reduceBEq,q18_,q19_,q20_]
  ·
   rintro D t w hD hp hcl ⟨O,ht,hs⟩ rest hk
   have hp:AllDone D [17,12]:=hp
   obtain ⟨p17_,p12_,_⟩:=hp
   have q19_:=ny hcl 19 0 hD
   have q20_:=ny hcl 20 1 q19_
   simp only [hD,p17_,q19_,q20_,cq,oT] at ht hs
   subst ht
   refine Qad rfl rfl (g_d rfl ?_)
   try dsimp only [Qai,Qaj]
   refine hk _ _ ⟨O,?_,hs.cast ?_⟩<;>simp only [oT,cq,Nat.reduceBEq,p17_,q19_,q20_]
  ·
   rintro D t w hD hp hcl ⟨O,ht,hs⟩ rest hk
   have hp:AllDone D [18,12]:=hp
   obtain ⟨p18_,p12_,_⟩:=hp
   obtain ⟨p17_,_,_⟩:=(show D 18=true→AllDone D [17,12] from hcl 18 (by decide)) p18_
   have q20_:=ny hcl 20 1 hD
   simp only [hD,p17_,p18_,q20_,cq,oT] at ht hs
   subst ht
   refine Qad rfl rfl (g_d rfl ?_)
   try dsimp only [Qai,Qaj]
   refine hk _ _ ⟨O,?_,hs.cast ?_⟩<;>simp only [oT,cq,Nat.reduceBEq,p17_,p18_,q20_]
  ·
   rintro D t w hD hp hcl ⟨O,ht,hs⟩ rest hk
   have hp:AllDone D [16,19,12]:=hp
   obtain ⟨p16_,p19_,p12_,_⟩:=hp
   obtain ⟨p18_,_,_⟩:=(show D 19=true→AllDone D [18,12] from hcl 19 (by decide)) p19_
   obtain ⟨p17_,_,_⟩:=(show D 18=true→AllDone D [17,12] from hcl 18 (by decide)) p18_
   simp only [hD,p16_,p17_,p18_,p19_,cq,oT] at ht hs
   subst ht
   refine Qad rfl rfl (g_d rfl ?_)
   try dsimp only [Qai,Qaj]
   refine hk _ _ ⟨O,?_,hs.cast ?_⟩<;>simp only [oT,cq,Nat.reduceBEq,p16_,p17_,p18_,p19_]
  intro D t w rest hall hO108_ hI
  obtain ⟨O,ht,hs⟩:=hI
  have p13_:=hall 13 (by decide) rfl
  have p14_:=hall 14 (by decide) rfl
  have p15_:=hall 15 (by decide) rfl
  have p16_:=hall 16 (by decide) rfl
  have p17_:=hall 17 (by decide) rfl
  have p18_:=hall 18 (by decide) rfl
  have p19_:=hall 19 (by decide) rfl
  have p20_:=hall 20 (by decide) rfl
  simp only [p13_,p14_,p15_,p16_,p17_,p18_,p19_,p20_,cq,oT] at ht hs
  subst ht
  obtain ⟨rest,rfl,hO109_⟩:=ord_one (m:=2097151) hO108_ rfl 21 (m':=4194303) (by decide+kernel) rfl
  clear hO108_
  refine Qad rfl rfl (g_d rfl ?_)
  try dsimp only [Qai,Qaj]
  obtain ⟨rest,rfl,hO110_⟩:=ord_one (m:=4194303) hO109_ rfl 22 (m':=8388607) (by decide+kernel) rfl
  clear hO109_
  refine Qaa (v:=bool true) rfl rfl rfl (g_d rfl ?_)
  obtain rfl:=ord_end hO110_ rfl (by decide+kernel)
  refine Qab (Qam rfl (Qaf (Qak [0] rfl ?_)))
  refine Qaa (v:=bool false) rfl rfl rfl (g_d rfl ?_)
  try dsimp only [Qai,Qaj]
  refine Qab ?_
  obtain rfl:=QsJ H
  subst Hx1_
  have H:=QsJ Hr1_
  subst H
  refine Qax Tryz.func3 (v:=bool false) (res1 rfl rfl) ?_
  have hs:St _ [] _:=St.take (Γ':=[_,_,_,_,_,_,_,_]) hs
  exact ⟨_,rfl,rfl,hs⟩
 intro hb
 rw [if_neg (b_dec_f hb)] at H
 refine g_d rfl (Qab (Qap rfl ?_))
 obtain rfl:=QsJ H
 subst Hx1_
 have hs:=hs.pull 6 rfl
 have hs:=hs.pull 6 rfl
 have hs:=hs.pull 6 rfl
 have hs:=hs.pull 6 rfl
 have hs:=hs.pull 4 rfl
 have hs:=hs.pull 5 rfl
 have hs:St _ [_,_,_,_,_,_] _:=St.take (Γ':=[_]) hs
 refine Qbq rfl ?_
 exact ha1_ _ _ ⟨x131,x132,Hr1_,rfl,hs⟩
end Go.Proofs.YtdnipilfcjkfoaaGreatDoorX
