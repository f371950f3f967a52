import Derived.Test.YtblbfnngmeoipaaGreatDoorP13
namespace Go.Proofs.YtblbfnngmeoipaaGreatDoorX
open Go Go.RowKit Go.Proofs
open Go.Value (int pointer bool agg slice string tuple)
set_option maxHeartbeats 8000000
set_option maxRecDepth 100000
set_option linter.unusedVariables false
set_option linter.unusedSimpArgs false
theorem QaD.seg1 {N:Nat} {a1:Qaf} {b2:Nat} {v3:Value} {r6:Int} {b15:Nat} {v7:Value} {v9:Value} {v11:Value} {v13:Value} {w0:World} {r:Qbs} (hr4:RdRow (K.int .u16) w0 v3 a1.Qal) (hp0:w0.heap[b2]?=some (.cells ((([int .i8 a1.Qad,int .i8 a1.Qag,v3]:List Value)):List Value).toArray 27 (0,0))):
 ∀ t w,(fun t w=>∃ x27:(List Int),QaD.a0 N a1 r6 x27=some r∧Fr t (fun O=>(pointer (some ⟨b2,0,none⟩)::O 1::O 2::O 3::pointer (some ⟨b15,0,none⟩)::O 5::O 6::O 7::O 8::O 9::oT O 1 (oT O 2 (oT O 3 (oT O 4 (oT O 5 (oT O 6 (oT O 7 (oT O 8 (oT O 9 (oT O 10 (oT O 11 (oT O 12 (oT O 13 (oT O 14 (oT O 15 (oT O 16 ([])))))))))))))))):List Value))∧St w0 [Cells b15 (([v7,v9,v11,v13]:List Value)) 74,Row 86 (K.int .i16) v7 x27,Row 2 (K.int .i64) v9 (List.replicate ((i64w (2*(i64w ((i64w r6)+1))))).toNat (0:Int)),Row 2 (K.int .i64) v11 (List.replicate ((i64w (2*(i64w ((i64w r6)+1))))).toNat (0:Int)),Row 46 (K.int .u16) v13 (List.replicate ((i64w (2*(i64w ((i64w r6)+1))))).toNat (0:Int))] w) t w→G Tryz.prog 37 (fun e w=>∃ v,e= .returned v∧QaD.post w0 r v w) [.code (Code.at_ (Tryz.f37.body.getD .skip) [1,1,1,1])] t w:=by
 rintro t w ⟨x27,H,hf,hs⟩
 obtain ⟨O,rfl⟩:=hf.open
 try dsimp only [oT]
 unfold QaD.a0 at H
 refine Qaj (Qan [0,1,2,3] rfl ?_)
 refine Qab (v:=pointer (some ⟨b2,0,none⟩)) rfl rfl rfl (g_d rfl ?_)
 obtain ⟨r32,Hr32,H⟩:=bind_get H
 refine Qaz (args:=[pointer (some ⟨b2,0,none⟩)]) rfl rfl (QaA rfl (callFunc_enter Tryz.func74 rfl rfl) rfl) (Qbp.calls (a1:=(⟨a1.Qad,a1.Qag,a1.Qal⟩:Qaf)) (hs.rd hr4) (hs.box hp0) Hr32) ?_
 rintro _ w ⟨rfl,hs2⟩
 have hs:St _ [_,_,_,_,_] _:=hs.call hs2
 refine g_d rfl ?_
 try dsimp only [Qah,Qai]
 refine Qab (v:=int .i64 (i64w r32)) rfl rfl rfl (g_d rfl ?_)
 refine Qab (v:=int .i64 (i64w r32)) rfl rfl rfl (g_d rfl (Qac (Qaj (Qan [0,1,2,3,4,5,6] rfl ?_))))
 refine Qab (v:=pointer (some ⟨b15,0,none⟩)) rfl rfl rfl (g_d rfl ?_)
 refine Qab (v:=pointer (some ⟨b15,0,none⟩)) rfl rfl rfl (g_d rfl ?_)
 refine Qab (v:=pointer (some ⟨b15,0,none⟩)) rfl rfl rfl (g_d rfl ?_)
 refine Qaw rfl rfl (v:=v7) rfl rfl (fun _=>rfl) (cells_load (hs.cells 0 rfl) 0 1 rfl) (g_d rfl ?_)
 try dsimp only [Qah,Qai]
 refine Qab (v:=int .i64 (i64w r32)) rfl rfl rfl (g_d rfl ?_)
 obtain ⟨g3,H⟩:=ite_get H
 refine QbQ (fkI .i16) 0 (hs.row 1 rfl) rfl (fun _=>rfl) g3.1 g3.2 rfl rfl rfl rfl rfl ?_
 intro p33 hp33 lp33 op33
 refine g_d rfl ?_
 have hs:St _ [_,_,_,_,_] _:=hs.pull 1 rfl
 refine Qct (y:=0) (fkI .i16) g3.1 g3.2 op33 hs rfl rfl rfl rfl rfl (fun _=>rfl) ?_
 intro w hs
 refine g_n rfl (Qac (Qaj (Qan [0,1,2,3,4,5,6] rfl ?_)))
 refine Qab (v:=pointer (some ⟨b15,0,none⟩)) rfl rfl rfl (g_d rfl ?_)
 refine Qab (v:=pointer (some ⟨b15,0,none⟩)) rfl rfl rfl (g_d rfl ?_)
 refine Qab (v:=pointer (some ⟨b15,1,none⟩)) rfl rfl rfl (g_d rfl ?_)
 refine Qaw rfl rfl (v:=v9) rfl rfl (fun _=>rfl) (cells_load (hs.cells 1 rfl) 1 1 rfl) (g_d rfl ?_)
 try dsimp only [Qah,Qai]
 refine Qab (v:=int .i64 (i64w r32)) rfl rfl rfl (g_d rfl ?_)
 obtain ⟨g4,H⟩:=ite_get H
 refine QbQ (fkI .i64) 0 (hs.row 2 rfl) rfl (fun _=>rfl) g4.1 g4.2 rfl rfl rfl rfl rfl ?_
 intro p34 hp34 lp34 op34
 refine g_d rfl ?_
 have hs:St _ [_,_,_,_,_] _:=hs.pull 2 rfl
 refine Qct (y:=1) (fkI .i64) g4.1 g4.2 op34 hs rfl rfl rfl rfl rfl (fun _=>rfl) ?_
 intro w hs
 refine g_n rfl (Qac (Qaj (Qan [0,1,2] rfl ?_)))
 refine Qab (v:=int .i64 (i64w r32)) rfl rfl rfl (g_d rfl ?_)
 try dsimp only [Qah,Qai]
 refine Qcq (fkI .i64) (y:=i64w r32) hs rfl rfl rfl rfl (fun _=>rfl) (zv:=(int .i64 0)) (fun _=>rfl) rfl (by decide) (by decide) rfl ?_
 intro v35 w hs
 refine g_d rfl ?_
 refine Qab (v:=v35) rfl rfl rfl (g_d rfl ?_)
 try dsimp only [Qah,Qai]
 refine Qac (Qaj (Qaj (Qan [0] rfl ?_)))
 refine Qab (v:=int .i64 0) rfl rfl rfl (g_d rfl (Qac ?_))
 obtain ⟨o1_,Ho,Hr1_⟩:=bind_get H
 refine QaR (J:=fun t w=>∃ x245:(List Int),∃ x247:(List Int),∃ x249:(List Int),∃ x251:(List Int),QaD.a2 N x245 x247 x249 x251=some r∧Fr t (fun O=>(O 0::O 1::O 2::O 3::pointer (some ⟨b15,0,none⟩)::O 5::O 6::O 7::O 8::O 9::oT O 1 (oT O 2 (oT O 3 (oT O 4 (oT O 5 (oT O 6 (oT O 7 (oT O 8 (oT O 9 (oT O 10 (oT O 11 (oT O 12 (oT O 13 (oT O 14 (oT O 15 (oT O 16 ([])))))))))))))))):List Value))∧St w0 [Cells b15 (([v7,v9,v11,v13]:List Value)) 74,Row 86 (K.int .i16) v7 x245,Row 2 (K.int .i64) v9 x247,Row 2 (K.int .i64) v11 x249,Row 46 (K.int .u16) v13 x251] w) ?_ ?_
 ·exact QaD.seg0 hr4 hp0
 intro ha1_
 have hs:=hs.pull 0 rfl
 have hs:=hs.pull 3 rfl
 have hs:=hs.pull 5 rfl
 have hs:=hs.pull 5 rfl
 have hs:=hs.pull 4 rfl
 have hs:=hs.pull 5 rfl
 have hs:St _ [_,_,_,_,_,_] _:=St.take (Γ':=[]) hs
 refine Qba (I:=fun n_ t w=>∃ x139:(List Int),∃ x140:(List Int),∃ x141:(List Int),∃ x142:(List Int),∃ v144:Value,∃ x145:(List Int),∃ x146:Int,rounds (fun s=>QaD.b2 N a1 s.1 s.2.1 s.2.2.1 s.2.2.2.1 s.2.2.2.2.1 s.2.2.2.2.2) n_ (x139,x140,x141,x142,x145,x146)=some o1_∧Fr t (fun O=>(pointer (some ⟨b2,0,none⟩)::O 1::O 2::O 3::pointer (some ⟨b15,0,none⟩)::O 5::O 6::v144::int .i64 x146::O 9::oT O 1 (oT O 2 (oT O 3 (oT O 4 (oT O 5 (oT O 6 (oT O 7 (oT O 8 (oT O 9 (oT O 10 (oT O 11 (oT O 12 (oT O 13 (oT O 14 (oT O 15 (oT O 16 ([])))))))))))))))):List Value))∧St w0 [Row 86 (K.int .i16) v7 x139,Row 2 (K.int .i64) v9 x140,Row 2 (K.int .i64) v11 x141,Row 46 (K.int .u16) v13 x142,Cells b15 (([v7,v9,v11,v13]:List Value)) 74,Row 2 (K.int .i64) v144 x145] w) N ⟨stL x27 (i64w r32) 0,stL (List.replicate ((i64w (2*(i64w ((i64w r6)+1))))).toNat (0:Int)) (i64w r32) 1,List.replicate ((i64w (2*(i64w ((i64w r6)+1))))).toNat (0:Int),List.replicate ((i64w (2*(i64w ((i64w r6)+1))))).toNat (0:Int),v35,[i64w r32],0,Ho,rfl,hs⟩ ?_ ?_
 ·
  rintro _ _ ⟨x139,x140,x141,x142,v144,x145,x146,h,_⟩
  exact rounds_zero h
 intro n_ ih1_
 rintro t w ⟨x139,x140,x141,x142,v144,x145,x146,Ho,hf,hs⟩
 obtain ⟨O,rfl⟩:=hf.open
 try dsimp only [oT]
 obtain ⟨x105_,H,Hx1_⟩:=rounds_succ Ho
 have H:QaD.b2 N a1 x139 x140 x141 x142 x145 x146=some x105_:=H
 unfold QaD.b2 at H
 refine Qaj (Qaj (Qan [0,1,2,3] rfl ?_))
 refine Qab (v:=int .i64 x146) rfl rfl rfl (g_d rfl ?_)
 refine Qab (v:=v144) rfl rfl rfl (g_d rfl ?_)
 refine QbC (hs.row 5 rfl) rfl rfl rfl rfl rfl (g_d rfl ?_)
 try dsimp only [Qah,Qai]
 refine QaI (B:=decide (x146< (x145.length:Int))) rfl rfl rfl ?_ ?_
 ·
  intro hb
  rw [if_pos (b_dec_t hb)] at H
  refine g_d rfl ?_
  try dsimp only [Qah,Qai]
  refine Qac (Qaq rfl (QaK (Qaj ?_)))
  refine QbG (Qaj (Qan [0,1,2,3,4] rfl ?_))
  refine Qab (v:=v144) rfl rfl rfl (g_d rfl ?_)
  refine Qab (v:=int .i64 x146) rfl rfl rfl (g_d rfl ?_)
  obtain ⟨g55,H⟩:=ite_get H
  refine QbQ (fkI .i64) 0 (hs.row 5 rfl) rfl (fun _=>rfl) g55.1 g55.2 rfl rfl rfl rfl rfl ?_
  intro p147 hp147 lp147 op147
  refine g_d rfl ?_
  refine Qaw rfl rfl (v:=int .i64 (rdL x145 x146 0)) rfl rfl (fun _=>rfl) hp147 (g_d rfl ?_)
  try dsimp only [Qah,Qai]
  refine Qab (v:=int .i64 (rdL x145 x146 0)) rfl rfl rfl (g_d rfl (Qac (Qaj (Qan [0,1,2,3,4] rfl ?_))))
  refine Qab (v:=pointer (some ⟨b2,0,none⟩)) rfl rfl rfl (g_d rfl ?_)
  refine Qab (v:=int .i64 (rdL x145 x146 0)) rfl rfl rfl (g_d rfl ?_)
  obtain ⟨r148,Hr148,H⟩:=bind_get H
  refine Qaz (args:=[pointer (some ⟨b2,0,none⟩),int .i64 (rdL x145 x146 0)]) rfl rfl (QaA rfl (callFunc_enter Tryz.func75 rfl rfl) rfl) (Qci.calls (a1:=(⟨a1.Qad,a1.Qag,a1.Qal⟩:Qaf)) (a6:=rdL x145 x146 0) (hs.rd hr4) (hs.box hp0) Hr148) ?_
  rintro _ w ⟨rfl,hs2⟩
  have hs:St _ [_,_,_,_,_,_] _:=hs.call hs2
  refine g_d rfl ?_
  try dsimp only [Qah,Qai]
  refine QbI hs rfl rfl (z:=(agg #[int .u16 0,bool false])) (cs:=(Qaa Qa9)) rfl (fun _=>rfl) rfl ?_
  intro b149 w hs
  refine g_d rfl ?_
  refine QaY (n:=2) hs (Qam.len _) rfl rfl (vs:=(Qaa r148)) rfl rfl rfl (fun _=>rfl) (Qam.len _) (Qam.one _) ?_
  intro w hs
  refine g_n rfl (Qac (Qaj (Qan [0,1,2,3] rfl ?_)))
  refine Qab (v:=pointer (some ⟨b2,0,none⟩)) rfl rfl rfl (g_d rfl ?_)
  refine QaF rfl rfl (es:=(Qaa r148)) rfl rfl (fun _=>rfl) (n:=2) (fun _=>rfl) (Qam.len _) (cells_all (hs.cells 0 rfl)) (g_d rfl ?_)
  try dsimp only [Qah,Qai]
  obtain ⟨r151,Hr151,H⟩:=bind_get H
  refine Qaz (args:=[pointer (some ⟨b2,0,none⟩),agg (Qaa r148).toArray]) rfl rfl (QaA rfl (callFunc_enter Tryz.func76 rfl rfl) rfl) (Qbc.calls (a1:=(⟨a1.Qad,a1.Qag,a1.Qal⟩:Qaf)) (a6:=r148) (hs.rd hr4) (hs.box hp0) Hr151) ?_
  intro v152 w hs2
  have hs:St _ [_,_,_,_,_,_,_,_] _:=hs.call hs2
  refine g_d rfl ?_
  refine Qab (v:=v152) rfl rfl rfl (g_d rfl ?_)
  try dsimp only [Qah,Qai]
  refine Qac (Qaj (Qan [0] rfl ?_))
  refine Qab (v:=int .i64 0) rfl rfl rfl (g_d rfl (Qac ?_))
  obtain ⟨o2_,Ho,Hr2_⟩:=bind_get H
  refine QaR (J:=fun t w=>∃ x234:(List Int),∃ x236:(List Int),∃ x238:(List Int),∃ x240:(List Int),∃ v242:Value,∃ x243:(List Int),QaD.a4 N x146 x234 x236 x238 x240 x243=some x105_∧Fr t (fun O=>(pointer (some ⟨b2,0,none⟩)::O 1::O 2::O 3::pointer (some ⟨b15,0,none⟩)::O 5::O 6::v242::int .i64 x146::O 9::oT O 1 (oT O 2 (oT O 3 (oT O 4 (oT O 5 (oT O 6 (oT O 7 (oT O 8 (oT O 9 (oT O 10 (oT O 11 (oT O 12 (oT O 13 (oT O 14 (oT O 15 (oT O 16 ([])))))))))))))))):List Value))∧St w0 [Cells b15 (([v7,v9,v11,v13]:List Value)) 74,Row 86 (K.int .i16) v7 x234,Row 2 (K.int .i64) v9 x236,Row 2 (K.int .i64) v11 x238,Row 46 (K.int .u16) v13 x240,Row 2 (K.int .i64) v242 x243] w) ?_ ?_
  ·
   rintro t w ⟨x234,x236,x238,x240,v242,x243,H,hf,hs⟩
   obtain ⟨O,rfl⟩:=hf.open
   try dsimp only [oT]
   unfold QaD.a4 at H
   refine Qa0 (Qan [0,1,2] rfl ?_)
   refine Qab (v:=int .i64 x146) rfl rfl rfl (g_d rfl ?_)
   refine Qab (v:=int .i64 (i64w (x146+1))) rfl rfl rfl (g_d rfl ?_)
   try dsimp only [Qah,Qai]
   refine Qab (v:=int .i64 (i64w (x146+1))) rfl rfl rfl (g_d rfl (Qac ?_))
   obtain rfl:=QsJ H
   have hs:=hs.pull 5 rfl
   have hs:=hs.pull 1 rfl
   have hs:=hs.pull 5 rfl
   have hs:=hs.pull 5 rfl
   have hs:=hs.pull 5 rfl
   have hs:=hs.pull 5 rfl
   have hs:St _ [_,_,_,_,_,_] _:=St.take (Γ':=[]) hs
   exact ih1_ _ _ ⟨x234,x236,x238,x240,v242,x243,i64w (x146+1),Hx1_,rfl,hs⟩
  intro ha2_
  have hs:=hs.pull 0 rfl
  have hs:=hs.pull 1 rfl
  have hs:=hs.pull 7 rfl
  have hs:=hs.pull 7 rfl
  have hs:=hs.pull 7 rfl
  have hs:=hs.pull 7 rfl
  have hs:=hs.pull 7 rfl
  have hs:=hs.pull 7 rfl
  have hs:St _ [_,_,_,_,_,_,_,_] _:=St.take (Γ':=[]) hs
  refine Qba (I:=fun n_ t w=>∃ x192:(List Int),∃ x193:(List Int),∃ x194:(List Int),∃ x195:(List Int),∃ v197:Value,∃ x198:(List Int),∃ x199:Int,rounds (fun s=>QaD.b4 N r151 a1 r148 x145 x146 s.1 s.2.1 s.2.2.1 s.2.2.2.1 s.2.2.2.2.1 s.2.2.2.2.2) n_ (x192,x193,x194,x195,x198,x199)=some o2_∧Fr t (fun O=>(pointer (some ⟨b2,0,none⟩)::O 1::O 2::O 3::pointer (some ⟨b15,0,none⟩)::O 5::O 6::v197::int .i64 x146::int .i64 (rdL x145 x146 0)::pointer (some ⟨b149,0,none⟩)::v152::int .i64 x199::O 13::O 14::O 15::O 16::O 17::O 18::O 19::oT O 2 (oT O 3 (oT O 4 (oT O 5 (oT O 6 (oT O 7 (oT O 8 (oT O 9 (oT O 10 (oT O 11 (oT O 12 (oT O 13 (oT O 14 (oT O 15 (oT O 16 ([]))))))))))))))):List Value))∧St w0 [Row 86 (K.int .i16) v7 x192,Row 2 (K.int .i64) v9 x193,Row 2 (K.int .i64) v11 x194,Row 46 (K.int .u16) v13 x195,Cells b15 (([v7,v9,v11,v13]:List Value)) 74,Row 2 (K.int .i64) v197 x198,Cells b149 (Qaa r148) 48,Row 46 (K.int .u16) v152 r151] w) N ⟨x139,x140,x141,x142,v144,x145,0,Ho,rfl,hs⟩ ?_ ?_
  ·
   rintro _ _ ⟨x192,x193,x194,x195,v197,x198,x199,h,_⟩
   exact rounds_zero h
  intro n_ ih2_
  rintro t w ⟨x192,x193,x194,x195,v197,x198,x199,Ho,hf,hs⟩
  obtain ⟨O,rfl⟩:=hf.open
  try dsimp only [oT]
  obtain ⟨x104_,H,Hx2_⟩:=rounds_succ Ho
  have H:QaD.b4 N r151 a1 r148 x145 x146 x192 x193 x194 x195 x198 x199=some x104_:=H
  unfold QaD.b4 at H
  refine Qaj (Qaj (Qan [0,1,2,3] rfl ?_))
  refine Qab (v:=int .i64 x199) rfl rfl rfl (g_d rfl ?_)
  refine Qab (v:=v152) rfl rfl rfl (g_d rfl ?_)
  refine QbC (hs.row 7 rfl) rfl rfl rfl rfl rfl (g_d rfl ?_)
  try dsimp only [Qah,Qai]
  refine QaI (B:=decide (x199< (r151.length:Int))) rfl rfl rfl ?_ ?_
  ·
   intro hb
   rw [if_pos (b_dec_t hb)] at H
   refine g_d rfl ?_
   try dsimp only [Qah,Qai]
   refine Qac (Qaq rfl (QaK (Qaj ?_)))
   refine QaR (J:=(fun t w=>∃ x222:(List Int),∃ x224:(List Int),∃ x226:(List Int),∃ x228:(List Int),∃ v230:Value,∃ x231:(List Int),QaD.j6 N x199 x222 x224 x226 x228 x231=some x104_∧Fr t (fun O=>(pointer (some ⟨b2,0,none⟩)::O 1::O 2::O 3::pointer (some ⟨b15,0,none⟩)::O 5::O 6::v230::int .i64 x146::int .i64 (rdL x145 x146 0)::pointer (some ⟨b149,0,none⟩)::v152::int .i64 x199::O 13::O 14::O 15::O 16::O 17::O 18::O 19::oT O 2 (oT O 3 (oT O 4 (oT O 5 (oT O 6 (oT O 7 (oT O 8 (oT O 9 (oT O 10 (oT O 11 (oT O 12 (oT O 13 (oT O 14 (oT O 15 (oT O 16 ([]))))))))))))))):List Value))∧St w0 [Cells b15 (([v7,v9,v11,v13]:List Value)) 74,Row 86 (K.int .i16) v7 x222,Row 2 (K.int .i64) v9 x224,Row 2 (K.int .i64) v11 x226,Row 46 (K.int .u16) v13 x228,Row 2 (K.int .i64) v230 x231,Cells b149 (Qaa r148) 48,Row 46 (K.int .u16) v152 r151] w)) ?_ ?_
   ·
    rintro t w ⟨x222,x224,x226,x228,v230,x231,H,hf,hs⟩
    obtain ⟨O,rfl⟩:=hf.open
    try dsimp only [oT]
    unfold QaD.j6 at H
    refine Qan [0,1,2] rfl ?_
    refine Qab (v:=int .i64 x199) rfl rfl rfl (g_d rfl ?_)
    refine Qab (v:=int .i64 (i64w (x199+1))) rfl rfl rfl (g_d rfl ?_)
    try dsimp only [Qah,Qai]
    refine Qab (v:=int .i64 (i64w (x199+1))) rfl rfl rfl (g_d rfl (Qac ?_))
    obtain rfl:=QsJ H
    have hs:=hs.pull 7 rfl
    have hs:=hs.pull 7 rfl
    have hs:=hs.pull 7 rfl
    have hs:=hs.pull 3 rfl
    have hs:=hs.pull 7 rfl
    have hs:=hs.pull 7 rfl
    have hs:=hs.pull 7 rfl
    have hs:=hs.pull 7 rfl
    have hs:St _ [_,_,_,_,_,_,_,_] _:=St.take (Γ':=[]) hs
    exact ih2_ _ _ ⟨x222,x224,x226,x228,v230,x231,i64w (x199+1),Hx2_,rfl,hs⟩
   intro ha
   refine Qaj ?_
   obtain ⟨gd80,H⟩:=ite_get H
   obtain ⟨ad81_,ad81_N,ad81_C,had81_⟩:=sl_at (hs.row 7 rfl) gd80.1 gd80.2
   obtain ⟨r200,Hr200,H⟩:=bind_get H
   refine QaV ?_
   intro T hT
   refine QbZ (n:=13) rfl [0,1,2,3,4,5,6,7,8,9,10,11,12] [0,1,2,3,4,5,6,7,8,11,9,10,12] rfl rfl (Inv:=fun D t w=>∃ b201:Nat,∃ O:Nat→Value,t=(pointer (some ⟨b2,0,none⟩)::O 1::O 2::O 3::pointer (some ⟨b15,0,none⟩)::O 5::O 6::v197::int .i64 x146::int .i64 (rdL x145 x146 0)::pointer (some ⟨b149,0,none⟩)::v152::int .i64 x199::cnd (D 10) (pointer (some ⟨b201,0,none⟩)) (O 13)::cnd (D 12) (int .i64 r200.2) (O 14)::O 15::O 16::O 17::O 18::O 19::oT O 2 (oT O 3 (oT O 4 (oT O 5 (oT O 6 (O 70::O 71::O 72::O 73::O 74::int .i64 x199::v152::int .i64 (r151.length:Int)::bool true::O 79::O 80::cnd (D 7) (tuple #[agg (Qaa r200.1).toArray,int .i64 r200.2]) (O 81)::cnd (D 0) (pointer (some ⟨b2,0,none⟩)) (O 82)::cnd (D 1) (agg (Qaa r148).toArray) (O 83)::cnd (D 2) v152 (O 84)::cnd (D 3) (int .i64 x199) (O 85)::cnd (D 4) (pointer (some (ad81_.add (x199.toNat*1)))) (O 86)::cnd (D 5) (int .u16 (rdL r151 x199 0)) (O 87)::cnd (D 6) (tuple #[agg (Qaa r200.1).toArray,int .i64 r200.2]) (O 88)::cnd (D 8) (agg (Qaa r200.1).toArray) (O 89)::cnd (D 9) (int .i64 r200.2) (O 90)::O 91::O 92::O 93::O 94::O 95::O 96::O 97::O 98::O 99::oT O 10 (oT O 11 (oT O 12 (oT O 13 (oT O 14 (oT O 15 (oT O 16 ([])))))))))))))∧St w0 [Asc (D 10) (Cells b201 (cnd (D 11) (Qaa r200.1) (Qaa Qa9)) 48),Row 86 (K.int .i16) v7 x192,Row 2 (K.int .i64) v9 x193,Row 2 (K.int .i64) v11 x194,Row 46 (K.int .u16) v13 x195,Cells b15 (([v7,v9,v11,v13]:List Value)) 74,Row 2 (K.int .i64) v197 x198,Cells b149 (Qaa r148) 48,Row 46 (K.int .u16) v152 r151] w) ?_ ⟨⟨⟨⟨⟨⟨⟨⟨⟨⟨⟨⟨⟨trivial,?_⟩,?_⟩,?_⟩,?_⟩,?_⟩,?_⟩,?_⟩,?_⟩,?_⟩,?_⟩,?_⟩,?_⟩,?_⟩ ?_
   ·
    intro w hh hbw
    have hs:=hs.samew hh hbw
    have hs:=hs.emp
    exact ⟨0,fun i=>T.getD i undef,(by subst hT;rfl),hs⟩
   ·
    rintro D t w hD hp hcl ⟨b201,O,ht,hs⟩ rest hk
    have q6_:=nz hcl 6 0 hD
    have q7_:=nz hcl 7 0 q6_
    have q8_:=nz hcl 8 0 q7_
    have q9_:=nz hcl 9 0 q7_
    have q11_:=nz hcl 11 1 q8_
    have q12_:=nz hcl 12 0 q9_
    simp only [hD,q6_,q7_,q8_,q9_,q11_,q12_,cq,oT] at ht hs
    subst ht
    refine Qab (v:=pointer (some ⟨b2,0,none⟩)) rfl rfl rfl (g_d rfl ?_)
    try dsimp only [Qah,Qai]
    refine hk _ _ ⟨b201,O,?_,hs.cast ?_⟩<;>simp only [oT,lq,cq,Nat.reduceBEq,q6_,q7_,q8_,q9_,q11_,q12_]
   ·
    rintro D t w hD hp hcl ⟨b201,O,ht,hs⟩ rest hk
    have q6_:=nz hcl 6 1 hD
    have q7_:=nz hcl 7 0 q6_
    have q8_:=nz hcl 8 0 q7_
    have q9_:=nz hcl 9 0 q7_
    have q11_:=nz hcl 11 1 q8_
    have q12_:=nz hcl 12 0 q9_
    simp only [hD,q6_,q7_,q8_,q9_,q11_,q12_,cq,oT] at ht hs
    subst ht
    refine QaF rfl rfl (es:=(Qaa r148)) rfl rfl (fun _=>rfl) (n:=2) (fun _=>rfl) (Qam.len _) (cells_all (hs.cells 7 rfl)) (g_d rfl ?_)
    try dsimp only [Qah,Qai]
    refine hk _ _ ⟨b201,O,?_,hs.cast ?_⟩<;>simp only [oT,lq,cq,Nat.reduceBEq,q6_,q7_,q8_,q9_,q11_,q12_]
   ·
    rintro D t w hD hp hcl ⟨b201,O,ht,hs⟩ rest hk
    have q4_:=nz hcl 4 0 hD
    have q5_:=nz hcl 5 0 q4_
    have q6_:=nz hcl 6 2 q5_
    have q7_:=nz hcl 7 0 q6_
    have q8_:=nz hcl 8 0 q7_
    have q9_:=nz hcl 9 0 q7_
    have q11_:=nz hcl 11 1 q8_
    have q12_:=nz hcl 12 0 q9_
    simp only [hD,q4_,q5_,q6_,q7_,q8_,q9_,q11_,q12_,cq,oT] at ht hs
    subst ht
    refine Qab (v:=v152) rfl rfl rfl (g_d rfl ?_)
    try dsimp only [Qah,Qai]
    refine hk _ _ ⟨b201,O,?_,hs.cast ?_⟩<;>simp only [oT,lq,cq,Nat.reduceBEq,q4_,q5_,q6_,q7_,q8_,q9_,q11_,q12_]
   ·
    rintro D t w hD hp hcl ⟨b201,O,ht,hs⟩ rest hk
    have q4_:=nz hcl 4 1 hD
    have q5_:=nz hcl 5 0 q4_
    have q6_:=nz hcl 6 2 q5_
    have q7_:=nz hcl 7 0 q6_
    have q8_:=nz hcl 8 0 q7_
    have q9_:=nz hcl 9 0 q7_
    have q11_:=nz hcl 11 1 q8_
    have q12_:=nz hcl 12 0 q9_
    simp only [hD,q4_,q5_,q6_,q7_,q8_,q9_,q11_,q12_,cq,oT] at ht hs
    subst ht
    refine Qab (v:=int .i64 x199) rfl rfl rfl (g_d rfl ?_)
    try dsimp only [Qah,Qai]
    refine hk _ _ ⟨b201,O,?_,hs.cast ?_⟩<;>simp only [oT,lq,cq,Nat.reduceBEq,q4_,q5_,q6_,q7_,q8_,q9_,q11_,q12_]
   ·
    rintro D t w hD hp hcl ⟨b201,O,ht,hs⟩ rest hk
    obtain ⟨p2_,p3_,_⟩:=hp
    have q5_:=nz hcl 5 0 hD
    have q6_:=nz hcl 6 2 q5_
    have q7_:=nz hcl 7 0 q6_
    have q8_:=nz hcl 8 0 q7_
    have q9_:=nz hcl 9 0 q7_
    have q11_:=nz hcl 11 1 q8_
    have q12_:=nz hcl 12 0 q9_
    simp only [hD,p2_,p3_,q5_,q6_,q7_,q8_,q9_,q11_,q12_,cq,oT] at ht hs
    subst ht
    refine QbJ (κ:=(K.int .u16)) (m:=1) rfl (hs.row 8 rfl) rfl (fun _=>rfl) gd80.1 gd80.2 had81_ rfl rfl rfl rfl rfl (g_d rfl ?_)
    try dsimp only [Qah,Qai]
    refine hk _ _ ⟨b201,O,?_,hs.cast ?_⟩<;>simp only [oT,lq,cq,Nat.reduceBEq,p2_,p3_,q5_,q6_,q7_,q8_,q9_,q11_,q12_]
   ·
    rintro D t w hD hp hcl ⟨b201,O,ht,hs⟩ rest hk
    obtain ⟨p4_,_⟩:=hp
    obtain ⟨p2_,p3_,_⟩:=(hcl.get 4 (by decide)) p4_
    have q6_:=nz hcl 6 2 hD
    have q7_:=nz hcl 7 0 q6_
    have q8_:=nz hcl 8 0 q7_
    have q9_:=nz hcl 9 0 q7_
    have q11_:=nz hcl 11 1 q8_
    have q12_:=nz hcl 12 0 q9_
    simp only [hD,p2_,p3_,p4_,q6_,q7_,q8_,q9_,q11_,q12_,cq,oT] at ht hs
    subst ht
    refine Qaw rfl rfl (v:=int .u16 (rdL r151 x199 0)) rfl rfl (fun _=>rfl) (cellsAt_of (fkI .u16) 0 (hs.row 8 rfl) had81_ gd80.1 gd80.2) (g_d rfl ?_)
    try dsimp only [Qah,Qai]
    refine hk _ _ ⟨b201,O,?_,hs.cast ?_⟩<;>simp only [oT,lq,cq,Nat.reduceBEq,p2_,p3_,p4_,q6_,q7_,q8_,q9_,q11_,q12_]
   ·
    rintro D t w hD hp hcl ⟨b201,O,ht,hs⟩ rest hk
    obtain ⟨p0_,p1_,p5_,_⟩:=hp
    obtain ⟨p4_,_⟩:=(hcl.get 5 (by decide)) p5_
    obtain ⟨p2_,p3_,_⟩:=(hcl.get 4 (by decide)) p4_
    have q7_:=nz hcl 7 0 hD
    have q8_:=nz hcl 8 0 q7_
    have q9_:=nz hcl 9 0 q7_
    have q11_:=nz hcl 11 1 q8_
    have q12_:=nz hcl 12 0 q9_
    simp only [hD,p0_,p1_,p2_,p3_,p4_,p5_,q7_,q8_,q9_,q11_,q12_,cq,oT] at ht hs
    subst ht
    refine Qaz (args:=[pointer (some ⟨b2,0,none⟩),agg (Qaa r148).toArray,int .u16 (rdL r151 x199 0)]) rfl rfl (QaA rfl (callFunc_enter Tryz.func57 rfl rfl) rfl) (QbO.calls (a1:=(⟨a1.Qad,a1.Qag,a1.Qal⟩:Qaf)) (a6:=r148) (a7:=rdL r151 x199 0) (hs.rd hr4) (hs.box hp0) Hr200) ?_
    rintro _ w ⟨rfl,hs2⟩
    have hs:St _ [_,_,_,_,_,_,_,_,_] _:=hs.call hs2
    refine g_d rfl ?_
    try dsimp only [Qah,Qai]
    refine hk _ _ ⟨b201,O,?_,hs.cast ?_⟩<;>simp only [oT,lq,cq,Nat.reduceBEq,p0_,p1_,p2_,p3_,p4_,p5_,q7_,q8_,q9_,q11_,q12_]
   ·
    rintro D t w hD hp hcl ⟨b201,O,ht,hs⟩ rest hk
    obtain ⟨p6_,_⟩:=hp
    obtain ⟨p0_,p1_,p5_,_⟩:=(hcl.get 6 (by decide)) p6_
    obtain ⟨p4_,_⟩:=(hcl.get 5 (by decide)) p5_
    obtain ⟨p2_,p3_,_⟩:=(hcl.get 4 (by decide)) p4_
    have q8_:=nz hcl 8 0 hD
    have q9_:=nz hcl 9 0 hD
    have q11_:=nz hcl 11 1 q8_
    have q12_:=nz hcl 12 0 q9_
    simp only [hD,p0_,p1_,p2_,p3_,p4_,p5_,p6_,q8_,q9_,q11_,q12_,cq,oT] at ht hs
    subst ht
    refine Qab (v:=tuple #[agg (Qaa r200.1).toArray,int .i64 r200.2]) rfl rfl rfl (g_d rfl ?_)
    try dsimp only [Qah,Qai]
    refine hk _ _ ⟨b201,O,?_,hs.cast ?_⟩<;>simp only [oT,lq,cq,Nat.reduceBEq,p0_,p1_,p2_,p3_,p4_,p5_,p6_,q8_,q9_,q11_,q12_]
   ·
    rintro D t w hD hp hcl ⟨b201,O,ht,hs⟩ rest hk
    obtain ⟨p7_,_⟩:=hp
    obtain ⟨p6_,_⟩:=(hcl.get 7 (by decide)) p7_
    obtain ⟨p0_,p1_,p5_,_⟩:=(hcl.get 6 (by decide)) p6_
    obtain ⟨p4_,_⟩:=(hcl.get 5 (by decide)) p5_
    obtain ⟨p2_,p3_,_⟩:=(hcl.get 4 (by decide)) p4_
    have q11_:=nz hcl 11 1 hD
    have q12_:=nz hcl 12 1 q11_
    simp only [hD,p0_,p1_,p2_,p3_,p4_,p5_,p6_,p7_,q11_,q12_,cq,oT] at ht hs
    subst ht
    refine Qab (v:=agg (Qaa r200.1).toArray) rfl rfl rfl (g_d rfl ?_)
    try dsimp only [Qah,Qai]
    refine hk _ _ ⟨b201,O,?_,hs.cast ?_⟩<;>simp only [oT,lq,cq,Nat.reduceBEq,p0_,p1_,p2_,p3_,p4_,p5_,p6_,p7_,q11_,q12_]
   ·
    rintro D t w hD hp hcl ⟨b201,O,ht,hs⟩ rest hk
    obtain ⟨p7_,_⟩:=hp
    obtain ⟨p6_,_⟩:=(hcl.get 7 (by decide)) p7_
    obtain ⟨p0_,p1_,p5_,_⟩:=(hcl.get 6 (by decide)) p6_
    obtain ⟨p4_,_⟩:=(hcl.get 5 (by decide)) p5_
    obtain ⟨p2_,p3_,_⟩:=(hcl.get 4 (by decide)) p4_
    have q12_:=nz hcl 12 0 hD
    simp only [hD,p0_,p1_,p2_,p3_,p4_,p5_,p6_,p7_,q12_,cq,oT] at ht hs
    subst ht
    refine Qab (v:=int .i64 r200.2) rfl rfl rfl (g_d rfl ?_)
    try dsimp only [Qah,Qai]
    refine hk _ _ ⟨b201,O,?_,hs.cast ?_⟩<;>simp only [oT,lq,cq,Nat.reduceBEq,p0_,p1_,p2_,p3_,p4_,p5_,p6_,p7_,q12_]
   ·
    rintro D t w hD hp hcl ⟨b201,O,ht,hs⟩ rest hk
    have q11_:=nz hcl 11 0 hD
    have q12_:=nz hcl 12 1 q11_
    simp only [hD,q11_,q12_,cq,oT] at ht hs
    subst ht
    refine QbI hs rfl rfl (z:=(agg #[int .u16 0,bool false])) (cs:=(Qaa Qa9)) rfl (fun _=>rfl) rfl ?_
    intro b201 w hs
    refine g_d rfl ?_
    try dsimp only [Qah,Qai]
    have hs:=hs.fill 0 rfl
    refine hk _ _ ⟨b201,O,?_,hs.cast ?_⟩<;>simp only [oT,lq,cq,Nat.reduceBEq,q11_,q12_]
   ·
    rintro D t w hD hp hcl ⟨b201,O,ht,hs⟩ rest hk
    obtain ⟨p10_,p8_,p6_,p0_,p1_,p2_,p3_,p4_,p5_,_,p7_,_,_,_⟩:=hp
    have q12_:=nz hcl 12 1 hD
    simp only [hD,p0_,p1_,p2_,p3_,p4_,p5_,p6_,p7_,p8_,p10_,q12_,cq,oT] at ht hs
    subst ht
    refine QaY (n:=2) hs (Qam.len _) rfl rfl (vs:=(Qaa r200.1)) rfl rfl rfl (fun _=>rfl) (Qam.len _) (Qam.one _) ?_
    intro w hs
    refine g_n rfl ?_
    try dsimp only [Qah,Qai]
    have hs:=hs.push 0 (by simp)
    refine hk _ _ ⟨b201,O,?_,hs.cast ?_⟩<;>simp only [oT,lq,cq,Nat.reduceBEq,p0_,p1_,p2_,p3_,p4_,p5_,p6_,p7_,p8_,p10_,q12_]
   ·
    rintro D t w hD hp hcl ⟨b201,O,ht,hs⟩ rest hk
    obtain ⟨p9_,p11_,p0_,p1_,p2_,p3_,p4_,p5_,p6_,p7_,p8_,_,p10_,_,_⟩:=hp
    simp only [hD,p0_,p1_,p2_,p3_,p4_,p5_,p6_,p7_,p8_,p9_,p10_,p11_,cq,oT] at ht hs
    subst ht
    refine Qab (v:=int .i64 r200.2) rfl rfl rfl (g_d rfl ?_)
    try dsimp only [Qah,Qai]
    refine hk _ _ ⟨b201,O,?_,hs.cast ?_⟩<;>simp only [oT,lq,cq,Nat.reduceBEq,p0_,p1_,p2_,p3_,p4_,p5_,p6_,p7_,p8_,p9_,p10_,p11_]
   intro D t w hall hI
   obtain ⟨b201,O,ht,hs⟩:=hI
   have p0_:=hall 0 (by decide)
   have p1_:=hall 1 (by decide)
   have p2_:=hall 2 (by decide)
   have p3_:=hall 3 (by decide)
   have p4_:=hall 4 (by decide)
   have p5_:=hall 5 (by decide)
   have p6_:=hall 6 (by decide)
   have p7_:=hall 7 (by decide)
   have p8_:=hall 8 (by decide)
   have p9_:=hall 9 (by decide)
   have p10_:=hall 10 (by decide)
   have p11_:=hall 11 (by decide)
   have p12_:=hall 12 (by decide)
   simp only [p0_,p1_,p2_,p3_,p4_,p5_,p6_,p7_,p8_,p9_,p10_,p11_,p12_,cq,oT] at ht hs
   subst ht
   refine Qaj (Qan [0,1,2,3] rfl ?_)
   refine Qab (v:=pointer (some ⟨b2,0,none⟩)) rfl rfl rfl (g_d rfl ?_)
   refine QaF rfl rfl (es:=(Qaa r200.1)) rfl rfl (fun _=>rfl) (n:=2) (fun _=>rfl) (Qam.len _) (cells_all (hs.cells 0 rfl)) (g_d rfl ?_)
   obtain ⟨r204,Hr204,H⟩:=bind_get H
   refine Qaz (args:=[pointer (some ⟨b2,0,none⟩),agg (Qaa r200.1).toArray]) rfl rfl (QaA rfl (callFunc_enter Tryz.func77 rfl rfl) rfl) (Qb9.calls (a1:=(⟨a1.Qad,a1.Qag,a1.Qal⟩:Qaf)) (a6:=r200.1) (hs.rd hr4) (hs.box hp0) Hr204) ?_
   rintro _ w ⟨rfl,hs2⟩
   have hs:St _ [_,_,_,_,_,_,_,_,_] _:=hs.call hs2
   refine g_d rfl ?_
   try dsimp only [Qah,Qai]
   refine Qab (v:=int .i64 r204) rfl rfl rfl (g_d rfl (Qac (Qaj (Qaj ?_))))
   refine Qcz (J:=(fun t w=>∃ x211:(List Int),∃ x214:(List Int),∃ x216:(List Int),∃ v218:Value,∃ x219:(List Int),QaD.j7 N r204 x145 x146 x193 x199 x211 x214 x216 x219=some x104_∧Fr t (fun O=>(pointer (some ⟨b2,0,none⟩)::O 1::O 2::O 3::pointer (some ⟨b15,0,none⟩)::O 5::O 6::v218::int .i64 x146::int .i64 (rdL x145 x146 0)::pointer (some ⟨b149,0,none⟩)::v152::int .i64 x199::O 13::O 14::int .i64 r204::O 16::O 17::O 18::O 19::oT O 2 (oT O 3 (oT O 4 (oT O 5 (oT O 6 (oT O 7 (oT O 8 (oT O 9 (oT O 10 (oT O 11 (oT O 12 (oT O 13 (oT O 14 (oT O 15 (oT O 16 ([]))))))))))))))):List Value))∧St w0 [Cells b15 (([v7,v9,v11,v13]:List Value)) 74,Row 86 (K.int .i16) v7 x211,Row 2 (K.int .i64) v9 x193,Row 2 (K.int .i64) v11 x214,Row 46 (K.int .u16) v13 x216,Row 2 (K.int .i64) v218 x219,Cells b149 (Qaa r148) 48,Row 46 (K.int .u16) v152 r151] w)) ?_ ?_
   ·
    rintro t w ⟨x211,x214,x216,v218,x219,H,hf,hs⟩
    obtain ⟨O,rfl⟩:=hf.open
    try dsimp only [oT]
    unfold QaD.j7 at H
    refine Qaj ?_
    refine Qck (n:=16) rfl [0,1,2,3,4,5,6,7,8,9,10,11,12,13,14,15] [0,1,2,3,4,5,6,7,8,9,10,11,12,13,14,15] rfl rfl ?_
    intro rest w hh hbw hO
    have hs:=hs.samew hh hbw
    try dsimp only [Qah,Qai]
    obtain ⟨gd93,H⟩:=ite_get H
    obtain ⟨ad94_,ad94_N,ad94_C,had94_⟩:=sl_at (hs.row 1 rfl) gd93.1 gd93.2
    obtain ⟨gd95,H⟩:=ite_get H
    obtain ⟨ad96_,ad96_N,ad96_C,had96_⟩:=sl_at (hs.row 1 rfl) gd95.1 gd95.2
    refine QaV ?_
    intro T hT
    refine Qbb (m0:=0) hO rfl 32767 [0,1,2,3,4,5,6,7,8,9,10,11,12,13,14] [0,1,3,7,0,31,63,0,128,384,896,0,3968,8064,16256,32767] (by decide+kernel) (fun D t w=>∃ O:Nat→Value,t=(pointer (some ⟨b2,0,none⟩)::O 1::O 2::O 3::pointer (some ⟨b15,0,none⟩)::O 5::O 6::v218::int .i64 x146::int .i64 (rdL x145 x146 0)::pointer (some ⟨b149,0,none⟩)::v152::int .i64 x199::O 13::O 14::int .i64 r204::O 16::O 17::O 18::O 19::oT O 2 (oT O 3 (oT O 4 (oT O 5 (oT O 6 (oT O 7 (oT O 8 (oT O 9 (oT O 10 (oT O 11 (oT O 12 (O 130::O 131::O 132::O 133::O 134::O 135::O 136::cnd (D 0) (pointer (some ⟨b15,0,none⟩)) (O 137)::cnd (D 1) (pointer (some ⟨b15,0,none⟩)) (O 138)::cnd (D 2) (pointer (some ⟨b15,0,none⟩)) (O 139)::cnd (D 3) v7 (O 140)::cnd (D 4) (int .i64 r204) (O 141)::cnd (D 5) (pointer (some (ad94_.add (r204.toNat*1)))) (O 142)::cnd (D 6) (int .i16 (rdL x211 r204 0)) (O 143)::cnd (D 7) (pointer (some ⟨b15,0,none⟩)) (O 144)::cnd (D 8) (pointer (some ⟨b15,0,none⟩)) (O 145)::cnd (D 9) (pointer (some ⟨b15,0,none⟩)) (O 146)::cnd (D 10) v7 (O 147)::cnd (D 11) (int .i64 (rdL x145 x146 0)) (O 148)::cnd (D 12) (pointer (some (ad96_.add ((rdL x145 x146 0).toNat*1)))) (O 149)::cnd (D 13) (int .i16 (rdL x211 (rdL x145 x146 0) 0)) (O 150)::cnd (D 14) (int .i16 (i16w ((rdL x211 (rdL x145 x146 0) 0)+1))) (O 151)::O 152::O 153::O 154::O 155::O 156::O 157::O 158::O 159::oT O 16 ([])))))))))))))∧St w0 [Cells b15 (([v7,v9,v11,v13]:List Value)) 74,Row 86 (K.int .i16) v7 x211,Row 2 (K.int .i64) v9 x193,Row 2 (K.int .i64) v11 x214,Row 46 (K.int .u16) v13 x216,Row 2 (K.int .i64) v218 x219,Cells b149 (Qaa r148) 48,Row 46 (K.int .u16) v152 r151] w) ?_ ⟨?_,⟨?_,⟨?_,⟨?_,⟨?_,⟨?_,⟨?_,⟨?_,⟨?_,⟨?_,⟨?_,⟨?_,⟨?_,⟨?_,⟨?_,trivial⟩⟩⟩⟩⟩⟩⟩⟩⟩⟩⟩⟩⟩⟩⟩ ?_
    ·exact ⟨fun i=>T.getD i undef,(by subst hT;rfl),hs⟩
    ·
     rintro D t w hD hp hcl ⟨O,ht,hs⟩ rest hk
     have hp:AllDone D []:=hp
     have q1_:=ny hcl 1 0 hD
     have q2_:=ny hcl 2 0 q1_
     have q3_:=ny hcl 3 0 q2_
     have q5_:=ny hcl 5 0 q3_
     have q6_:=ny hcl 6 0 q5_
     simp only [hD,q1_,q2_,q3_,q5_,q6_,cq,oT] at ht hs
     subst ht
     refine Qab (v:=pointer (some ⟨b15,0,none⟩)) rfl rfl rfl (g_d rfl ?_)
     try dsimp only [Qah,Qai]
     refine hk _ _ ⟨O,?_,hs.cast ?_⟩<;>simp only [oT,lq,cq,Nat.reduceBEq,q1_,q2_,q3_,q5_,q6_]
    ·
     rintro D t w hD hp hcl ⟨O,ht,hs⟩ rest hk
     have hp:AllDone D [0]:=hp
     obtain ⟨p0_,_⟩:=hp
     have q2_:=ny hcl 2 0 hD
     have q3_:=ny hcl 3 0 q2_
     have q5_:=ny hcl 5 0 q3_
     have q6_:=ny hcl 6 0 q5_
     simp only [hD,p0_,q2_,q3_,q5_,q6_,cq,oT] at ht hs
     subst ht
     refine Qab (v:=pointer (some ⟨b15,0,none⟩)) rfl rfl rfl (g_d rfl ?_)
     try dsimp only [Qah,Qai]
     refine hk _ _ ⟨O,?_,hs.cast ?_⟩<;>simp only [oT,lq,cq,Nat.reduceBEq,p0_,q2_,q3_,q5_,q6_]
    ·
     rintro D t w hD hp hcl ⟨O,ht,hs⟩ rest hk
     have hp:AllDone D [1]:=hp
     obtain ⟨p1_,_⟩:=hp
     obtain ⟨p0_,_⟩:=(show D 1=true→AllDone D [0] from hcl 1 (by decide)) p1_
     have q3_:=ny hcl 3 0 hD
     have q5_:=ny hcl 5 0 q3_
     have q6_:=ny hcl 6 0 q5_
     simp only [hD,p0_,p1_,q3_,q5_,q6_,cq,oT] at ht hs
     subst ht
     refine Qab (v:=pointer (some ⟨b15,0,none⟩)) rfl rfl rfl (g_d rfl ?_)
     try dsimp only [Qah,Qai]
     refine hk _ _ ⟨O,?_,hs.cast ?_⟩<;>simp only [oT,lq,cq,Nat.reduceBEq,p0_,p1_,q3_,q5_,q6_]
    ·
     rintro D t w hD hp hcl ⟨O,ht,hs⟩ rest hk
     have hp:AllDone D [2]:=hp
     obtain ⟨p2_,_⟩:=hp
     obtain ⟨p1_,_⟩:=(show D 2=true→AllDone D [1] from hcl 2 (by decide)) p2_
     obtain ⟨p0_,_⟩:=(show D 1=true→AllDone D [0] from hcl 1 (by decide)) p1_
     have q5_:=ny hcl 5 0 hD
     have q6_:=ny hcl 6 0 q5_
     simp only [hD,p0_,p1_,p2_,q5_,q6_,cq,oT] at ht hs
     subst ht
     refine Qaw rfl rfl (v:=v7) rfl rfl (fun _=>rfl) (cells_load (hs.cells 0 rfl) 0 1 rfl) (g_d rfl ?_)
     try dsimp only [Qah,Qai]
     refine hk _ _ ⟨O,?_,hs.cast ?_⟩<;>simp only [oT,lq,cq,Nat.reduceBEq,p0_,p1_,p2_,q5_,q6_]
    ·
     rintro D t w hD hp hcl ⟨O,ht,hs⟩ rest hk
     have hp:AllDone D []:=hp
     have q5_:=ny hcl 5 1 hD
     have q6_:=ny hcl 6 0 q5_
     simp only [hD,q5_,q6_,cq,oT] at ht hs
     subst ht
     refine Qab (v:=int .i64 r204) rfl rfl rfl (g_d rfl ?_)
     try dsimp only [Qah,Qai]
     refine hk _ _ ⟨O,?_,hs.cast ?_⟩<;>simp only [oT,lq,cq,Nat.reduceBEq,q5_,q6_]
    ·
     rintro D t w hD hp hcl ⟨O,ht,hs⟩ rest hk
     have hp:AllDone D [3,4]:=hp
     obtain ⟨p3_,p4_,_⟩:=hp
     obtain ⟨p2_,_⟩:=(show D 3=true→AllDone D [2] from hcl 3 (by decide)) p3_
     obtain ⟨p1_,_⟩:=(show D 2=true→AllDone D [1] from hcl 2 (by decide)) p2_
     obtain ⟨p0_,_⟩:=(show D 1=true→AllDone D [0] from hcl 1 (by decide)) p1_
     have q6_:=ny hcl 6 0 hD
     simp only [hD,p0_,p1_,p2_,p3_,p4_,q6_,cq,oT] at ht hs
     subst ht
     refine QbJ (κ:=(K.int .i16)) (m:=1) rfl (hs.row 1 rfl) rfl (fun _=>rfl) gd93.1 gd93.2 had94_ rfl rfl rfl rfl rfl (g_d rfl ?_)
     try dsimp only [Qah,Qai]
     refine hk _ _ ⟨O,?_,hs.cast ?_⟩<;>simp only [oT,lq,cq,Nat.reduceBEq,p0_,p1_,p2_,p3_,p4_,q6_]
    ·
     rintro D t w hD hp hcl ⟨O,ht,hs⟩ rest hk
     have hp:AllDone D [5]:=hp
     obtain ⟨p5_,_⟩:=hp
     obtain ⟨p3_,p4_,_⟩:=(show D 5=true→AllDone D [3,4] from hcl 5 (by decide)) p5_
     obtain ⟨p2_,_⟩:=(show D 3=true→AllDone D [2] from hcl 3 (by decide)) p3_
     obtain ⟨p1_,_⟩:=(show D 2=true→AllDone D [1] from hcl 2 (by decide)) p2_
     obtain ⟨p0_,_⟩:=(show D 1=true→AllDone D [0] from hcl 1 (by decide)) p1_
     simp only [hD,p0_,p1_,p2_,p3_,p4_,p5_,cq,oT] at ht hs
     subst ht
     refine Qaw rfl rfl (v:=int .i16 (rdL x211 r204 0)) rfl rfl (fun _=>rfl) (cellsAt_of (fkI .i16) 0 (hs.row 1 rfl) had94_ gd93.1 gd93.2) (g_d rfl ?_)
     try dsimp only [Qah,Qai]
     refine hk _ _ ⟨O,?_,hs.cast ?_⟩<;>simp only [oT,lq,cq,Nat.reduceBEq,p0_,p1_,p2_,p3_,p4_,p5_]
    ·
     rintro D t w hD hp hcl ⟨O,ht,hs⟩ rest hk
     have hp:AllDone D []:=hp
     have q8_:=ny hcl 8 0 hD
     have q9_:=ny hcl 9 0 q8_
     have q10_:=ny hcl 10 0 q9_
     have q12_:=ny hcl 12 0 q10_
     have q13_:=ny hcl 13 0 q12_
     have q14_:=ny hcl 14 0 q13_
     simp only [hD,q8_,q9_,q10_,q12_,q13_,q14_,cq,oT] at ht hs
     subst ht
     refine Qab (v:=pointer (some ⟨b15,0,none⟩)) rfl rfl rfl (g_d rfl ?_)
     try dsimp only [Qah,Qai]
     refine hk _ _ ⟨O,?_,hs.cast ?_⟩<;>simp only [oT,lq,cq,Nat.reduceBEq,q8_,q9_,q10_,q12_,q13_,q14_]
    ·
     rintro D t w hD hp hcl ⟨O,ht,hs⟩ rest hk
     have hp:AllDone D [7]:=hp
     obtain ⟨p7_,_⟩:=hp
     have q9_:=ny hcl 9 0 hD
     have q10_:=ny hcl 10 0 q9_
     have q12_:=ny hcl 12 0 q10_
     have q13_:=ny hcl 13 0 q12_
     have q14_:=ny hcl 14 0 q13_
     simp only [hD,p7_,q9_,q10_,q12_,q13_,q14_,cq,oT] at ht hs
     subst ht
     refine Qab (v:=pointer (some ⟨b15,0,none⟩)) rfl rfl rfl (g_d rfl ?_)
     try dsimp only [Qah,Qai]
     refine hk _ _ ⟨O,?_,hs.cast ?_⟩<;>simp only [oT,lq,cq,Nat.reduceBEq,p7_,q9_,q10_,q12_,q13_,q14_]
    ·
     rintro D t w hD hp hcl ⟨O,ht,hs⟩ rest hk
     have hp:AllDone D [8]:=hp
     obtain ⟨p8_,_⟩:=hp
     obtain ⟨p7_,_⟩:=(show D 8=true→AllDone D [7] from hcl 8 (by decide)) p8_
     have q10_:=ny hcl 10 0 hD
     have q12_:=ny hcl 12 0 q10_
     have q13_:=ny hcl 13 0 q12_
     have q14_:=ny hcl 14 0 q13_
     simp only [hD,p7_,p8_,q10_,q12_,q13_,q14_,cq,oT] at ht hs
     subst ht
     refine Qab (v:=pointer (some ⟨b15,0,none⟩)) rfl rfl rfl (g_d rfl ?_)
     try dsimp only [Qah,Qai]
     refine hk _ _ ⟨O,?_,hs.cast ?_⟩<;>simp only [oT,lq,cq,Nat.reduceBEq,p7_,p8_,q10_,q12_,q13_,q14_]
    ·
     rintro D t w hD hp hcl ⟨O,ht,hs⟩ rest hk
     have hp:AllDone D [9]:=hp
     obtain ⟨p9_,_⟩:=hp
     obtain ⟨p8_,_⟩:=(show D 9=true→AllDone D [8] from hcl 9 (by decide)) p9_
     obtain ⟨p7_,_⟩:=(show D 8=true→AllDone D [7] from hcl 8 (by decide)) p8_
     have q12_:=ny hcl 12 0 hD
     have q13_:=ny hcl 13 0 q12_
     have q14_:=ny hcl 14 0 q13_
     simp only [hD,p7_,p8_,p9_,q12_,q13_,q14_,cq,oT] at ht hs
     subst ht
     refine Qaw rfl rfl (v:=v7) rfl rfl (fun _=>rfl) (cells_load (hs.cells 0 rfl) 0 1 rfl) (g_d rfl ?_)
     try dsimp only [Qah,Qai]
     refine hk _ _ ⟨O,?_,hs.cast ?_⟩<;>simp only [oT,lq,cq,Nat.reduceBEq,p7_,p8_,p9_,q12_,q13_,q14_]
    ·
     rintro D t w hD hp hcl ⟨O,ht,hs⟩ rest hk
     have hp:AllDone D []:=hp
     have q12_:=ny hcl 12 1 hD
     have q13_:=ny hcl 13 0 q12_
     have q14_:=ny hcl 14 0 q13_
     simp only [hD,q12_,q13_,q14_,cq,oT] at ht hs
     subst ht
     refine Qab (v:=int .i64 (rdL x145 x146 0)) rfl rfl rfl (g_d rfl ?_)
     try dsimp only [Qah,Qai]
     refine hk _ _ ⟨O,?_,hs.cast ?_⟩<;>simp only [oT,lq,cq,Nat.reduceBEq,q12_,q13_,q14_]
    ·
     rintro D t w hD hp hcl ⟨O,ht,hs⟩ rest hk
     have hp:AllDone D [10,11]:=hp
     obtain ⟨p10_,p11_,_⟩:=hp
     obtain ⟨p9_,_⟩:=(show D 10=true→AllDone D [9] from hcl 10 (by decide)) p10_
     obtain ⟨p8_,_⟩:=(show D 9=true→AllDone D [8] from hcl 9 (by decide)) p9_
     obtain ⟨p7_,_⟩:=(show D 8=true→AllDone D [7] from hcl 8 (by decide)) p8_
     have q13_:=ny hcl 13 0 hD
     have q14_:=ny hcl 14 0 q13_
     simp only [hD,p7_,p8_,p9_,p10_,p11_,q13_,q14_,cq,oT] at ht hs
     subst ht
     refine QbJ (κ:=(K.int .i16)) (m:=1) rfl (hs.row 1 rfl) rfl (fun _=>rfl) gd95.1 gd95.2 had96_ rfl rfl rfl rfl rfl (g_d rfl ?_)
     try dsimp only [Qah,Qai]
     refine hk _ _ ⟨O,?_,hs.cast ?_⟩<;>simp only [oT,lq,cq,Nat.reduceBEq,p7_,p8_,p9_,p10_,p11_,q13_,q14_]
    ·
     rintro D t w hD hp hcl ⟨O,ht,hs⟩ rest hk
     have hp:AllDone D [12]:=hp
     obtain ⟨p12_,_⟩:=hp
     obtain ⟨p10_,p11_,_⟩:=(show D 12=true→AllDone D [10,11] from hcl 12 (by decide)) p12_
     obtain ⟨p9_,_⟩:=(show D 10=true→AllDone D [9] from hcl 10 (by decide)) p10_
     obtain ⟨p8_,_⟩:=(show D 9=true→AllDone D [8] from hcl 9 (by decide)) p9_
     obtain ⟨p7_,_⟩:=(show D 8=true→AllDone D [7] from hcl 8 (by decide)) p8_
     have q14_:=ny hcl 14 0 hD
     simp only [hD,p7_,p8_,p9_,p10_,p11_,p12_,q14_,cq,oT] at ht hs
     subst ht
     refine Qaw rfl rfl (v:=int .i16 (rdL x211 (rdL x145 x146 0) 0)) rfl rfl (fun _=>rfl) (cellsAt_of (fkI .i16) 0 (hs.row 1 rfl) had96_ gd95.1 gd95.2) (g_d rfl ?_)
     try dsimp only [Qah,Qai]
     refine hk _ _ ⟨O,?_,hs.cast ?_⟩<;>simp only [oT,lq,cq,Nat.reduceBEq,p7_,p8_,p9_,p10_,p11_,p12_,q14_]
    ·
     rintro D t w hD hp hcl ⟨O,ht,hs⟩ rest hk
     have hp:AllDone D [13]:=hp
     obtain ⟨p13_,_⟩:=hp
     obtain ⟨p12_,_⟩:=(show D 13=true→AllDone D [12] from hcl 13 (by decide)) p13_
     obtain ⟨p10_,p11_,_⟩:=(show D 12=true→AllDone D [10,11] from hcl 12 (by decide)) p12_
     obtain ⟨p9_,_⟩:=(show D 10=true→AllDone D [9] from hcl 10 (by decide)) p10_
     obtain ⟨p8_,_⟩:=(show D 9=true→AllDone D [8] from hcl 9 (by decide)) p9_
     obtain ⟨p7_,_⟩:=(show D 8=true→AllDone D [7] from hcl 8 (by decide)) p8_
     simp only [hD,p7_,p8_,p9_,p10_,p11_,p12_,p13_,cq,oT] at ht hs
     subst ht
     refine Qab (v:=int .i16 (i16w ((rdL x211 (rdL x145 x146 0) 0)+1))) rfl rfl rfl (g_d rfl ?_)
     try dsimp only [Qah,Qai]
     refine hk _ _ ⟨O,?_,hs.cast ?_⟩<;>simp only [oT,lq,cq,Nat.reduceBEq,p7_,p8_,p9_,p10_,p11_,p12_,p13_]
    intro D t w rest hall hO92_ hI
    obtain ⟨O,ht,hs⟩:=hI
    have p0_:=hall 0 (by decide) rfl
    have p1_:=hall 1 (by decide) rfl
    have p2_:=hall 2 (by decide) rfl
    have p3_:=hall 3 (by decide) rfl
    have p4_:=hall 4 (by decide) rfl
    have p5_:=hall 5 (by decide) rfl
    have p6_:=hall 6 (by decide) rfl
    have p7_:=hall 7 (by decide) rfl
    have p8_:=hall 8 (by decide) rfl
    have p9_:=hall 9 (by decide) rfl
    have p10_:=hall 10 (by decide) rfl
    have p11_:=hall 11 (by decide) rfl
    have p12_:=hall 12 (by decide) rfl
    have p13_:=hall 13 (by decide) rfl
    have p14_:=hall 14 (by decide) rfl
    simp only [p0_,p1_,p2_,p3_,p4_,p5_,p6_,p7_,p8_,p9_,p10_,p11_,p12_,p13_,p14_,cq,oT] at ht hs
    subst ht
    obtain ⟨rest,rfl,hO97_⟩:=ord_one (m:=32767) hO92_ rfl 15 (m':=65535) (by decide+kernel) rfl
    clear hO92_
    refine QaI (B:=(rdL x211 r204 0)==(i16w ((rdL x211 (rdL x145 x146 0) 0)+1))) rfl rfl rfl ?_ ?_
    ·
     intro hb
     rw [if_pos (b_beq_t hb)] at H
     refine g_d rfl ?_
     try dsimp only [Qah,Qai]
     obtain rfl:=ord_end hO97_ rfl (by decide+kernel)
     refine Qac (Qaq rfl ?_)
     obtain ⟨gd98,H⟩:=ite_get H
     obtain ⟨ad99_,ad99_N,ad99_C,had99_⟩:=sl_at (hs.row 2 rfl) gd98.1 gd98.2
     obtain ⟨gd100,H⟩:=ite_get H
     obtain ⟨ad101_,ad101_N,ad101_C,had101_⟩:=sl_at (hs.row 2 rfl) gd100.1 gd100.2
     obtain ⟨gd102,H⟩:=ite_get H
     obtain ⟨ad103_,ad103_N,ad103_C,had103_⟩:=sl_at (hs.row 2 rfl) gd102.1 gd102.2
     refine QaV ?_
     intro T hT
     refine QbZ (n:=17) rfl [0,1,2,3,4,5,6,7,8,9,10,11,12,13,14,15,16] [0,1,2,3,4,5,6,7,8,9,10,11,12,13,14,15,16] rfl rfl (Inv:=fun D t w=>∃ O:Nat→Value,t=(pointer (some ⟨b2,0,none⟩)::O 1::O 2::O 3::pointer (some ⟨b15,0,none⟩)::O 5::O 6::v218::int .i64 x146::int .i64 (rdL x145 x146 0)::pointer (some ⟨b149,0,none⟩)::v152::int .i64 x199::O 13::O 14::int .i64 r204::O 16::O 17::O 18::O 19::oT O 2 (oT O 3 (oT O 4 (oT O 5 (oT O 6 (oT O 7 (oT O 8 (oT O 9 (oT O 10 (oT O 11 (oT O 12 (O 130::O 131::O 132::O 133::O 134::O 135::O 136::pointer (some ⟨b15,0,none⟩)::pointer (some ⟨b15,0,none⟩)::pointer (some ⟨b15,0,none⟩)::v7::int .i64 r204::pointer (some (ad94_.add (r204.toNat*1)))::int .i16 (rdL x211 r204 0)::pointer (some ⟨b15,0,none⟩)::pointer (some ⟨b15,0,none⟩)::pointer (some ⟨b15,0,none⟩)::v7::int .i64 (rdL x145 x146 0)::pointer (some (ad96_.add ((rdL x145 x146 0).toNat*1)))::int .i16 (rdL x211 (rdL x145 x146 0) 0)::int .i16 (i16w ((rdL x211 (rdL x145 x146 0) 0)+1))::bool true::cnd (D 0) (pointer (some ⟨b15,0,none⟩)) (O 153)::cnd (D 1) (pointer (some ⟨b15,0,none⟩)) (O 154)::cnd (D 2) (pointer (some ⟨b15,1,none⟩)) (O 155)::cnd (D 3) v9 (O 156)::cnd (D 4) (int .i64 r204) (O 157)::cnd (D 5) (pointer (some (ad99_.add (r204.toNat*1)))) (O 158)::cnd (D 6) (int .i64 (rdL x193 r204 0)) (O 159)::cnd (D 7) (pointer (some ⟨b15,0,none⟩)) (O 160)::cnd (D 8) (pointer (some ⟨b15,0,none⟩)) (O 161)::cnd (D 9) (pointer (some ⟨b15,1,none⟩)) (O 162)::cnd (D 10) v9 (O 163)::cnd (D 11) (int .i64 (rdL x145 x146 0)) (O 164)::cnd (D 12) (pointer (some (ad101_.add ((rdL x145 x146 0).toNat*1)))) (O 165)::cnd (D 13) (int .i64 (rdL x193 (rdL x145 x146 0) 0)) (O 166)::cnd (D 14) (int .i64 (i64w ((rdL x193 r204 0)+(rdL x193 (rdL x145 x146 0) 0)))) (O 167)::cnd (D 15) (pointer (some (ad103_.add (r204.toNat*1)))) (O 168)::O 169::[]))))))))))))∧St w0 [Cells b15 (([v7,v9,v11,v13]:List Value)) 74,Row 86 (K.int .i16) v7 x211,Row 2 (K.int .i64) (cnd (D 16) v9 v9) (cnd (D 16) (stL x193 r204 (i64w ((rdL x193 r204 0)+(rdL x193 (rdL x145 x146 0) 0)))) x193),Row 2 (K.int .i64) v11 x214,Row 46 (K.int .u16) v13 x216,Row 2 (K.int .i64) v218 x219,Cells b149 (Qaa r148) 48,Row 46 (K.int .u16) v152 r151] w) ?_ ⟨⟨⟨⟨⟨⟨⟨⟨⟨⟨⟨⟨⟨⟨⟨⟨⟨trivial,?_⟩,?_⟩,?_⟩,?_⟩,?_⟩,?_⟩,?_⟩,?_⟩,?_⟩,?_⟩,?_⟩,?_⟩,?_⟩,?_⟩,?_⟩,?_⟩,?_⟩ ?_
     ·
      intro w hh hbw
      have hs:=hs.samew hh hbw
      exact ⟨fun i=>T.getD i undef,(by subst hT;rfl),hs⟩
     ·
      rintro D t w hD hp hcl ⟨O,ht,hs⟩ rest hk
      have q1_:=nz hcl 1 0 hD
      have q2_:=nz hcl 2 0 q1_
      have q3_:=nz hcl 3 0 q2_
      have q5_:=nz hcl 5 0 q3_
      have q6_:=nz hcl 6 0 q5_
      have q14_:=nz hcl 14 0 q6_
      have q15_:=nz hcl 15 0 q3_
      have q16_:=nz hcl 16 0 q15_
      simp only [hD,q1_,q2_,q3_,q5_,q6_,q14_,q15_,q16_,cq,oT] at ht hs
      subst ht
      refine Qab (v:=pointer (some ⟨b15,0,none⟩)) rfl rfl rfl (g_d rfl ?_)
      try dsimp only [Qah,Qai]
      refine hk _ _ ⟨O,?_,hs.cast ?_⟩<;>simp only [oT,lq,cq,Nat.reduceBEq,q1_,q2_,q3_,q5_,q6_,q14_,q15_,q16_]
     ·
      rintro D t w hD hp hcl ⟨O,ht,hs⟩ rest hk
      obtain ⟨p0_,_⟩:=hp
      have q2_:=nz hcl 2 0 hD
      have q3_:=nz hcl 3 0 q2_
      have q5_:=nz hcl 5 0 q3_
      have q6_:=nz hcl 6 0 q5_
      have q14_:=nz hcl 14 0 q6_
      have q15_:=nz hcl 15 0 q3_
      have q16_:=nz hcl 16 0 q15_
      simp only [hD,p0_,q2_,q3_,q5_,q6_,q14_,q15_,q16_,cq,oT] at ht hs
      subst ht
      refine Qab (v:=pointer (some ⟨b15,0,none⟩)) rfl rfl rfl (g_d rfl ?_)
      try dsimp only [Qah,Qai]
      refine hk _ _ ⟨O,?_,hs.cast ?_⟩<;>simp only [oT,lq,cq,Nat.reduceBEq,p0_,q2_,q3_,q5_,q6_,q14_,q15_,q16_]
     ·
      rintro D t w hD hp hcl ⟨O,ht,hs⟩ rest hk
      obtain ⟨p1_,_⟩:=hp
      obtain ⟨p0_,_⟩:=(hcl.get 1 (by decide)) p1_
      have q3_:=nz hcl 3 0 hD
      have q5_:=nz hcl 5 0 q3_
      have q6_:=nz hcl 6 0 q5_
      have q14_:=nz hcl 14 0 q6_
      have q15_:=nz hcl 15 0 q3_
      have q16_:=nz hcl 16 0 q15_
      simp only [hD,p0_,p1_,q3_,q5_,q6_,q14_,q15_,q16_,cq,oT] at ht hs
      subst ht
      refine Qab (v:=pointer (some ⟨b15,1,none⟩)) rfl rfl rfl (g_d rfl ?_)
      try dsimp only [Qah,Qai]
      refine hk _ _ ⟨O,?_,hs.cast ?_⟩<;>simp only [oT,lq,cq,Nat.reduceBEq,p0_,p1_,q3_,q5_,q6_,q14_,q15_,q16_]
     ·
      rintro D t w hD hp hcl ⟨O,ht,hs⟩ rest hk
      obtain ⟨p2_,_⟩:=hp
      obtain ⟨p1_,_⟩:=(hcl.get 2 (by decide)) p2_
      obtain ⟨p0_,_⟩:=(hcl.get 1 (by decide)) p1_
      have q5_:=nz hcl 5 0 hD
      have q6_:=nz hcl 6 0 q5_
      have q14_:=nz hcl 14 0 q6_
      have q15_:=nz hcl 15 0 hD
      have q16_:=nz hcl 16 0 q15_
      simp only [hD,p0_,p1_,p2_,q5_,q6_,q14_,q15_,q16_,cq,oT] at ht hs
      subst ht
      refine Qaw rfl rfl (v:=v9) rfl rfl (fun _=>rfl) (cells_load (hs.cells 0 rfl) 1 1 rfl) (g_d rfl ?_)
      try dsimp only [Qah,Qai]
      refine hk _ _ ⟨O,?_,hs.cast ?_⟩<;>simp only [oT,lq,cq,Nat.reduceBEq,p0_,p1_,p2_,q5_,q6_,q14_,q15_,q16_]
     ·
      rintro D t w hD hp hcl ⟨O,ht,hs⟩ rest hk
      have q5_:=nz hcl 5 1 hD
      have q6_:=nz hcl 6 0 q5_
      have q14_:=nz hcl 14 0 q6_
      have q15_:=nz hcl 15 1 hD
      have q16_:=nz hcl 16 0 q15_
      simp only [hD,q5_,q6_,q14_,q15_,q16_,cq,oT] at ht hs
      subst ht
      refine Qab (v:=int .i64 r204) rfl rfl rfl (g_d rfl ?_)
      try dsimp only [Qah,Qai]
      refine hk _ _ ⟨O,?_,hs.cast ?_⟩<;>simp only [oT,lq,cq,Nat.reduceBEq,q5_,q6_,q14_,q15_,q16_]
     ·
      rintro D t w hD hp hcl ⟨O,ht,hs⟩ rest hk
      obtain ⟨p3_,p4_,_⟩:=hp
      obtain ⟨p2_,_⟩:=(hcl.get 3 (by decide)) p3_
      obtain ⟨p1_,_⟩:=(hcl.get 2 (by decide)) p2_
      obtain ⟨p0_,_⟩:=(hcl.get 1 (by decide)) p1_
      have q6_:=nz hcl 6 0 hD
      have q14_:=nz hcl 14 0 q6_
      have q15_:=nz hcl 15 7 hD
      have q16_:=nz hcl 16 0 q15_
      simp only [hD,p0_,p1_,p2_,p3_,p4_,q6_,q14_,q15_,q16_,cq,oT] at ht hs
      subst ht
      refine QbJ (κ:=(K.int .i64)) (m:=1) rfl (hs.row 2 rfl) rfl (fun _=>rfl) gd98.1 gd98.2 had99_ rfl rfl rfl rfl rfl (g_d rfl ?_)
      try dsimp only [Qah,Qai]
      refine hk _ _ ⟨O,?_,hs.cast ?_⟩<;>simp only [oT,lq,cq,Nat.reduceBEq,p0_,p1_,p2_,p3_,p4_,q6_,q14_,q15_,q16_]
     ·
      rintro D t w hD hp hcl ⟨O,ht,hs⟩ rest hk
      obtain ⟨p5_,_⟩:=hp
      obtain ⟨p3_,p4_,_⟩:=(hcl.get 5 (by decide)) p5_
      obtain ⟨p2_,_⟩:=(hcl.get 3 (by decide)) p3_
      obtain ⟨p1_,_⟩:=(hcl.get 2 (by decide)) p2_
      obtain ⟨p0_,_⟩:=(hcl.get 1 (by decide)) p1_
      have q14_:=nz hcl 14 0 hD
      have q15_:=nz hcl 15 8 hD
      have q16_:=nz hcl 16 0 q15_
      simp only [hD,p0_,p1_,p2_,p3_,p4_,p5_,q14_,q15_,q16_,cq,oT] at ht hs
      subst ht
      refine Qaw rfl rfl (v:=int .i64 (rdL x193 r204 0)) rfl rfl (fun _=>rfl) (cellsAt_of (fkI .i64) 0 (hs.row 2 rfl) had99_ gd98.1 gd98.2) (g_d rfl ?_)
      try dsimp only [Qah,Qai]
      refine hk _ _ ⟨O,?_,hs.cast ?_⟩<;>simp only [oT,lq,cq,Nat.reduceBEq,p0_,p1_,p2_,p3_,p4_,p5_,q14_,q15_,q16_]
     ·
      rintro D t w hD hp hcl ⟨O,ht,hs⟩ rest hk
      have q8_:=nz hcl 8 0 hD
      have q9_:=nz hcl 9 0 q8_
      have q10_:=nz hcl 10 0 q9_
      have q12_:=nz hcl 12 0 q10_
      have q13_:=nz hcl 13 0 q12_
      have q14_:=nz hcl 14 1 q13_
      have q15_:=nz hcl 15 9 hD
      have q16_:=nz hcl 16 0 q15_
      simp only [hD,q8_,q9_,q10_,q12_,q13_,q14_,q15_,q16_,cq,oT] at ht hs
      subst ht
      refine Qab (v:=pointer (some ⟨b15,0,none⟩)) rfl rfl rfl (g_d rfl ?_)
      try dsimp only [Qah,Qai]
      refine hk _ _ ⟨O,?_,hs.cast ?_⟩<;>simp only [oT,lq,cq,Nat.reduceBEq,q8_,q9_,q10_,q12_,q13_,q14_,q15_,q16_]
     ·
      rintro D t w hD hp hcl ⟨O,ht,hs⟩ rest hk
      obtain ⟨p7_,_⟩:=hp
      have q9_:=nz hcl 9 0 hD
      have q10_:=nz hcl 10 0 q9_
      have q12_:=nz hcl 12 0 q10_
      have q13_:=nz hcl 13 0 q12_
      have q14_:=nz hcl 14 1 q13_
      have q15_:=nz hcl 15 10 hD
      have q16_:=nz hcl 16 0 q15_
      simp only [hD,p7_,q9_,q10_,q12_,q13_,q14_,q15_,q16_,cq,oT] at ht hs
      subst ht
      refine Qab (v:=pointer (some ⟨b15,0,none⟩)) rfl rfl rfl (g_d rfl ?_)
      try dsimp only [Qah,Qai]
      refine hk _ _ ⟨O,?_,hs.cast ?_⟩<;>simp only [oT,lq,cq,Nat.reduceBEq,p7_,q9_,q10_,q12_,q13_,q14_,q15_,q16_]
     ·
      rintro D t w hD hp hcl ⟨O,ht,hs⟩ rest hk
      obtain ⟨p8_,_⟩:=hp
      obtain ⟨p7_,_⟩:=(hcl.get 8 (by decide)) p8_
      have q10_:=nz hcl 10 0 hD
      have q12_:=nz hcl 12 0 q10_
      have q13_:=nz hcl 13 0 q12_
      have q14_:=nz hcl 14 1 q13_
      have q15_:=nz hcl 15 11 hD
      have q16_:=nz hcl 16 0 q15_
      simp only [hD,p7_,p8_,q10_,q12_,q13_,q14_,q15_,q16_,cq,oT] at ht hs
      subst ht
      refine Qab (v:=pointer (some ⟨b15,1,none⟩)) rfl rfl rfl (g_d rfl ?_)
      try dsimp only [Qah,Qai]
      refine hk _ _ ⟨O,?_,hs.cast ?_⟩<;>simp only [oT,lq,cq,Nat.reduceBEq,p7_,p8_,q10_,q12_,q13_,q14_,q15_,q16_]
     ·
      rintro D t w hD hp hcl ⟨O,ht,hs⟩ rest hk
      obtain ⟨p9_,_⟩:=hp
      obtain ⟨p8_,_⟩:=(hcl.get 9 (by decide)) p9_
      obtain ⟨p7_,_⟩:=(hcl.get 8 (by decide)) p8_
      have q12_:=nz hcl 12 0 hD
      have q13_:=nz hcl 13 0 q12_
      have q14_:=nz hcl 14 1 q13_
      have q15_:=nz hcl 15 12 hD
      have q16_:=nz hcl 16 0 q15_
      simp only [hD,p7_,p8_,p9_,q12_,q13_,q14_,q15_,q16_,cq,oT] at ht hs
      subst ht
      refine Qaw rfl rfl (v:=v9) rfl rfl (fun _=>rfl) (cells_load (hs.cells 0 rfl) 1 1 rfl) (g_d rfl ?_)
      try dsimp only [Qah,Qai]
      refine hk _ _ ⟨O,?_,hs.cast ?_⟩<;>simp only [oT,lq,cq,Nat.reduceBEq,p7_,p8_,p9_,q12_,q13_,q14_,q15_,q16_]
     ·
      rintro D t w hD hp hcl ⟨O,ht,hs⟩ rest hk
      have q12_:=nz hcl 12 1 hD
      have q13_:=nz hcl 13 0 q12_
      have q14_:=nz hcl 14 1 q13_
      have q15_:=nz hcl 15 13 hD
      have q16_:=nz hcl 16 0 q15_
      simp only [hD,q12_,q13_,q14_,q15_,q16_,cq,oT] at ht hs
      subst ht
      refine Qab (v:=int .i64 (rdL x145 x146 0)) rfl rfl rfl (g_d rfl ?_)
      try dsimp only [Qah,Qai]
      refine hk _ _ ⟨O,?_,hs.cast ?_⟩<;>simp only [oT,lq,cq,Nat.reduceBEq,q12_,q13_,q14_,q15_,q16_]
     ·
      rintro D t w hD hp hcl ⟨O,ht,hs⟩ rest hk
      obtain ⟨p10_,p11_,_⟩:=hp
      obtain ⟨p9_,_⟩:=(hcl.get 10 (by decide)) p10_
      obtain ⟨p8_,_⟩:=(hcl.get 9 (by decide)) p9_
      obtain ⟨p7_,_⟩:=(hcl.get 8 (by decide)) p8_
      have q13_:=nz hcl 13 0 hD
      have q14_:=nz hcl 14 1 q13_
      have q15_:=nz hcl 15 14 hD
      have q16_:=nz hcl 16 0 q15_
      simp only [hD,p7_,p8_,p9_,p10_,p11_,q13_,q14_,q15_,q16_,cq,oT] at ht hs
      subst ht
      refine QbJ (κ:=(K.int .i64)) (m:=1) rfl (hs.row 2 rfl) rfl (fun _=>rfl) gd100.1 gd100.2 had101_ rfl rfl rfl rfl rfl (g_d rfl ?_)
      try dsimp only [Qah,Qai]
      refine hk _ _ ⟨O,?_,hs.cast ?_⟩<;>simp only [oT,lq,cq,Nat.reduceBEq,p7_,p8_,p9_,p10_,p11_,q13_,q14_,q15_,q16_]
     ·
      rintro D t w hD hp hcl ⟨O,ht,hs⟩ rest hk
      obtain ⟨p12_,_⟩:=hp
      obtain ⟨p10_,p11_,_⟩:=(hcl.get 12 (by decide)) p12_
      obtain ⟨p9_,_⟩:=(hcl.get 10 (by decide)) p10_
      obtain ⟨p8_,_⟩:=(hcl.get 9 (by decide)) p9_
      obtain ⟨p7_,_⟩:=(hcl.get 8 (by decide)) p8_
      have q14_:=nz hcl 14 1 hD
      have q15_:=nz hcl 15 15 hD
      have q16_:=nz hcl 16 0 q15_
      simp only [hD,p7_,p8_,p9_,p10_,p11_,p12_,q14_,q15_,q16_,cq,oT] at ht hs
      subst ht
      refine Qaw rfl rfl (v:=int .i64 (rdL x193 (rdL x145 x146 0) 0)) rfl rfl (fun _=>rfl) (cellsAt_of (fkI .i64) 0 (hs.row 2 rfl) had101_ gd100.1 gd100.2) (g_d rfl ?_)
      try dsimp only [Qah,Qai]
      refine hk _ _ ⟨O,?_,hs.cast ?_⟩<;>simp only [oT,lq,cq,Nat.reduceBEq,p7_,p8_,p9_,p10_,p11_,p12_,q14_,q15_,q16_]
     ·
      rintro D t w hD hp hcl ⟨O,ht,hs⟩ rest hk
      obtain ⟨p6_,p13_,_⟩:=hp
      obtain ⟨p12_,_⟩:=(hcl.get 13 (by decide)) p13_
      obtain ⟨p10_,p11_,_⟩:=(hcl.get 12 (by decide)) p12_
      obtain ⟨p9_,_⟩:=(hcl.get 10 (by decide)) p10_
      obtain ⟨p8_,_⟩:=(hcl.get 9 (by decide)) p9_
      obtain ⟨p7_,_⟩:=(hcl.get 8 (by decide)) p8_
      obtain ⟨p5_,_⟩:=(hcl.get 6 (by decide)) p6_
      obtain ⟨p3_,p4_,_⟩:=(hcl.get 5 (by decide)) p5_
      obtain ⟨p2_,_⟩:=(hcl.get 3 (by decide)) p3_
      obtain ⟨p1_,_⟩:=(hcl.get 2 (by decide)) p2_
      obtain ⟨p0_,_⟩:=(hcl.get 1 (by decide)) p1_
      have q15_:=nz hcl 15 16 hD
      have q16_:=nz hcl 16 0 q15_
      simp only [hD,p0_,p1_,p2_,p3_,p4_,p5_,p6_,p7_,p8_,p9_,p10_,p11_,p12_,p13_,q15_,q16_,cq,oT] at ht hs
      subst ht
      refine Qab (v:=int .i64 (i64w ((rdL x193 r204 0)+(rdL x193 (rdL x145 x146 0) 0)))) rfl rfl rfl (g_d rfl ?_)
      try dsimp only [Qah,Qai]
      refine hk _ _ ⟨O,?_,hs.cast ?_⟩<;>simp only [oT,lq,cq,Nat.reduceBEq,p0_,p1_,p2_,p3_,p4_,p5_,p6_,p7_,p8_,p9_,p10_,p11_,p12_,p13_,q15_,q16_]
     ·
      rintro D t w hD hp hcl ⟨O,ht,hs⟩ rest hk
      obtain ⟨p3_,p4_,p0_,p1_,p2_,_,_,p5_,p6_,p7_,p8_,p9_,p10_,p11_,p12_,p13_,p14_,_⟩:=hp
      have q16_:=nz hcl 16 0 hD
      simp only [hD,p0_,p1_,p2_,p3_,p4_,p5_,p6_,p7_,p8_,p9_,p10_,p11_,p12_,p13_,p14_,q16_,cq,oT] at ht hs
      subst ht
      refine QbJ (κ:=(K.int .i64)) (m:=1) rfl (hs.row 2 rfl) rfl (fun _=>rfl) gd102.1 gd102.2 had103_ rfl rfl rfl rfl rfl (g_d rfl ?_)
      try dsimp only [Qah,Qai]
      refine hk _ _ ⟨O,?_,hs.cast ?_⟩<;>simp only [oT,lq,cq,Nat.reduceBEq,p0_,p1_,p2_,p3_,p4_,p5_,p6_,p7_,p8_,p9_,p10_,p11_,p12_,p13_,p14_,q16_]
     ·
      rintro D t w hD hp hcl ⟨O,ht,hs⟩ rest hk
      obtain ⟨p15_,p14_,p0_,p1_,p2_,p3_,p4_,p5_,p6_,p7_,p8_,p9_,p10_,p11_,p12_,p13_,_,_⟩:=hp
      simp only [hD,p0_,p1_,p2_,p3_,p4_,p5_,p6_,p7_,p8_,p9_,p10_,p11_,p12_,p13_,p14_,p15_,cq,oT] at ht hs
      subst ht
      have hs:St _ [_,_,_,_,_,_,_,_] _:=hs.pull 2 rfl
      refine Qct (y:=i64w ((rdL x193 r204 0)+(rdL x193 (rdL x145 x146 0) 0))) (fkI .i64) gd102.1 gd102.2 (hown_of had103_) hs rfl rfl rfl rfl rfl (fun _=>rfl) ?_
      intro w hs
      refine g_n rfl ?_
      try dsimp only [Qah,Qai]
      have hs:=hs.push 2 (by simp)
      refine hk _ _ ⟨O,?_,hs.cast ?_⟩<;>simp only [oT,lq,cq,Nat.reduceBEq,p0_,p1_,p2_,p3_,p4_,p5_,p6_,p7_,p8_,p9_,p10_,p11_,p12_,p13_,p14_,p15_]
     intro D t w hall hI
     obtain ⟨O,ht,hs⟩:=hI
     have p0_:=hall 0 (by decide)
     have p1_:=hall 1 (by decide)
     have p2_:=hall 2 (by decide)
     have p3_:=hall 3 (by decide)
     have p4_:=hall 4 (by decide)
     have p5_:=hall 5 (by decide)
     have p6_:=hall 6 (by decide)
     have p7_:=hall 7 (by decide)
     have p8_:=hall 8 (by decide)
     have p9_:=hall 9 (by decide)
     have p10_:=hall 10 (by decide)
     have p11_:=hall 11 (by decide)
     have p12_:=hall 12 (by decide)
     have p13_:=hall 13 (by decide)
     have p14_:=hall 14 (by decide)
     have p15_:=hall 15 (by decide)
     have p16_:=hall 16 (by decide)
     simp only [p0_,p1_,p2_,p3_,p4_,p5_,p6_,p7_,p8_,p9_,p10_,p11_,p12_,p13_,p14_,p15_,p16_,cq,oT] at ht hs
     subst ht
     refine Qa0 ?_
     have hs:=hs.pull 7 rfl
     have hs:=hs.pull 7 rfl
     have hs:=hs.pull 7 rfl
     have hs:=hs.pull 7 rfl
     have hs:=hs.pull 7 rfl
     have hs:=hs.pull 7 rfl
     have hs:=hs.pull 7 rfl
     have hs:=hs.pull 7 rfl
     have hs:St _ [_,_,_,_,_,_,_,_] _:=St.take (Γ':=[]) hs
     exact ha _ _ ⟨x211,stL x193 r204 (i64w ((rdL x193 r204 0)+(rdL x193 (rdL x145 x146 0) 0))),x214,x216,v218,x219,H,rfl,hs⟩
    intro hb
    rw [if_neg (b_beq_f hb)] at H
    refine g_d rfl ?_
    obtain rfl:=ord_end hO97_ rfl (by decide+kernel)
    refine Qac (Qas rfl (QaK ?_))
    refine Qa0 ?_
    have hs:=hs.pull 7 rfl
    have hs:=hs.pull 7 rfl
    have hs:=hs.pull 7 rfl
    have hs:=hs.pull 7 rfl
    have hs:=hs.pull 7 rfl
    have hs:=hs.pull 7 rfl
    have hs:=hs.pull 7 rfl
    have hs:=hs.pull 7 rfl
    have hs:St _ [_,_,_,_,_,_,_,_] _:=St.take (Γ':=[]) hs
    exact ha _ _ ⟨x211,x193,x214,x216,v218,x219,H,rfl,hs⟩
   intro ha
   refine Qan [0,1,2,3,4,5,6,7] rfl ?_
   refine Qab (v:=pointer (some ⟨b15,0,none⟩)) rfl rfl rfl (g_d rfl ?_)
   refine Qab (v:=pointer (some ⟨b15,0,none⟩)) rfl rfl rfl (g_d rfl ?_)
   refine Qab (v:=pointer (some ⟨b15,0,none⟩)) rfl rfl rfl (g_d rfl ?_)
   refine Qaw rfl rfl (v:=v7) rfl rfl (fun _=>rfl) (cells_load (hs.cells 5 rfl) 0 1 rfl) (g_d rfl ?_)
   try dsimp only [Qah,Qai]
   refine Qab (v:=int .i64 r204) rfl rfl rfl (g_d rfl ?_)
   obtain ⟨g82,H⟩:=ite_get H
   refine QbQ (fkI .i16) 0 (hs.row 1 rfl) rfl (fun _=>rfl) g82.1 g82.2 rfl rfl rfl rfl rfl ?_
   intro p205 hp205 lp205 op205
   refine g_d rfl ?_
   refine Qaw rfl rfl (v:=int .i16 (rdL x192 r204 0)) rfl rfl (fun _=>rfl) hp205 (g_d rfl ?_)
   try dsimp only [Qah,Qai]
   refine QaI (B:=decide ((rdL x192 r204 0)< 0)) rfl rfl rfl ?_ ?_
   ·
    intro hb
    rw [if_pos (b_dec_t hb)] at H
    refine g_d rfl ?_
    try dsimp only [Qah,Qai]
    refine Qac (Qaq rfl (Qaj ?_))
    obtain ⟨gd83,H⟩:=ite_get H
    obtain ⟨ad84_,ad84_N,ad84_C,had84_⟩:=sl_at (hs.row 1 rfl) gd83.1 gd83.2
    obtain ⟨gd85,H⟩:=ite_get H
    obtain ⟨ad86_,ad86_N,ad86_C,had86_⟩:=sl_at (hs.row 1 rfl) gd85.1 gd85.2
    refine QaV ?_
    intro T hT
    refine QbZ (n:=15) rfl [0,1,2,3,4,5,6,7,8,9,10,11,12,13,14] [0,1,2,3,4,5,6,7,8,9,10,11,12,13,14] rfl rfl (Inv:=fun D t w=>∃ O:Nat→Value,t=(pointer (some ⟨b2,0,none⟩)::O 1::O 2::O 3::pointer (some ⟨b15,0,none⟩)::O 5::O 6::v197::int .i64 x146::int .i64 (rdL x145 x146 0)::pointer (some ⟨b149,0,none⟩)::v152::int .i64 x199::pointer (some ⟨b201,0,none⟩)::int .i64 r200.2::int .i64 r204::O 16::O 17::O 18::O 19::oT O 2 (oT O 3 (oT O 4 (oT O 5 (oT O 6 (O 70::O 71::O 72::O 73::O 74::int .i64 x199::v152::int .i64 (r151.length:Int)::bool true::O 79::O 80::tuple #[agg (Qaa r200.1).toArray,int .i64 r200.2]::pointer (some ⟨b2,0,none⟩)::agg (Qaa r148).toArray::v152::int .i64 x199::pointer (some (ad81_.add (x199.toNat*1)))::int .u16 (rdL r151 x199 0)::tuple #[agg (Qaa r200.1).toArray,int .i64 r200.2]::agg (Qaa r200.1).toArray::int .i64 r200.2::pointer (some ⟨b2,0,none⟩)::agg (Qaa r200.1).toArray::int .i64 r204::pointer (some ⟨b15,0,none⟩)::pointer (some ⟨b15,0,none⟩)::pointer (some ⟨b15,0,none⟩)::v7::int .i64 r204::pointer (some p205)::int .i16 (rdL x192 r204 0)::bool true::cnd (D 0) (pointer (some ⟨b15,0,none⟩)) (O 102)::cnd (D 1) (pointer (some ⟨b15,0,none⟩)) (O 103)::cnd (D 2) (pointer (some ⟨b15,0,none⟩)) (O 104)::cnd (D 3) v7 (O 105)::cnd (D 4) (int .i64 r204) (O 106)::cnd (D 5) (pointer (some ⟨b15,0,none⟩)) (O 107)::cnd (D 6) (pointer (some ⟨b15,0,none⟩)) (O 108)::cnd (D 7) (pointer (some ⟨b15,0,none⟩)) (O 109)::cnd (D 8) v7 (O 110)::cnd (D 9) (int .i64 (rdL x145 x146 0)) (O 111)::cnd (D 10) (pointer (some (ad84_.add ((rdL x145 x146 0).toNat*1)))) (O 112)::cnd (D 11) (int .i16 (rdL x192 (rdL x145 x146 0) 0)) (O 113)::cnd (D 12) (int .i16 (i16w ((rdL x192 (rdL x145 x146 0) 0)+1))) (O 114)::cnd (D 13) (pointer (some (ad86_.add (r204.toNat*1)))) (O 115)::O 116::O 117::O 118::O 119::oT O 12 (oT O 13 (oT O 14 (oT O 15 (oT O 16 ([])))))))))))∧St w0 [Cells b201 (Qaa r200.1) 48,Row 86 (K.int .i16) (cnd (D 14) v7 v7) (cnd (D 14) (stL x192 r204 (i16w ((rdL x192 (rdL x145 x146 0) 0)+1))) x192),Row 2 (K.int .i64) v9 x193,Row 2 (K.int .i64) v11 x194,Row 46 (K.int .u16) v13 x195,Cells b15 (([v7,v9,v11,v13]:List Value)) 74,Row 2 (K.int .i64) v197 x198,Cells b149 (Qaa r148) 48,Row 46 (K.int .u16) v152 r151] w) ?_ ⟨⟨⟨⟨⟨⟨⟨⟨⟨⟨⟨⟨⟨⟨⟨trivial,?_⟩,?_⟩,?_⟩,?_⟩,?_⟩,?_⟩,?_⟩,?_⟩,?_⟩,?_⟩,?_⟩,?_⟩,?_⟩,?_⟩,?_⟩ ?_
    ·
     intro w hh hbw
     have hs:=hs.samew hh hbw
     exact ⟨fun i=>T.getD i undef,(by subst hT;rfl),hs⟩
    ·
     rintro D t w hD hp hcl ⟨O,ht,hs⟩ rest hk
     have q1_:=nz hcl 1 0 hD
     have q2_:=nz hcl 2 0 q1_
     have q3_:=nz hcl 3 0 q2_
     have q13_:=nz hcl 13 0 q3_
     have q14_:=nz hcl 14 0 q13_
     simp only [hD,q1_,q2_,q3_,q13_,q14_,cq,oT] at ht hs
     subst ht
     refine Qab (v:=pointer (some ⟨b15,0,none⟩)) rfl rfl rfl (g_d rfl ?_)
     try dsimp only [Qah,Qai]
     refine hk _ _ ⟨O,?_,hs.cast ?_⟩<;>simp only [oT,lq,cq,Nat.reduceBEq,q1_,q2_,q3_,q13_,q14_]
    ·
     rintro D t w hD hp hcl ⟨O,ht,hs⟩ rest hk
     obtain ⟨p0_,_⟩:=hp
     have q2_:=nz hcl 2 0 hD
     have q3_:=nz hcl 3 0 q2_
     have q13_:=nz hcl 13 0 q3_
     have q14_:=nz hcl 14 0 q13_
     simp only [hD,p0_,q2_,q3_,q13_,q14_,cq,oT] at ht hs
     subst ht
     refine Qab (v:=pointer (some ⟨b15,0,none⟩)) rfl rfl rfl (g_d rfl ?_)
     try dsimp only [Qah,Qai]
     refine hk _ _ ⟨O,?_,hs.cast ?_⟩<;>simp only [oT,lq,cq,Nat.reduceBEq,p0_,q2_,q3_,q13_,q14_]
    ·
     rintro D t w hD hp hcl ⟨O,ht,hs⟩ rest hk
     obtain ⟨p1_,_⟩:=hp
     obtain ⟨p0_,_⟩:=(hcl.get 1 (by decide)) p1_
     have q3_:=nz hcl 3 0 hD
     have q13_:=nz hcl 13 0 q3_
     have q14_:=nz hcl 14 0 q13_
     simp only [hD,p0_,p1_,q3_,q13_,q14_,cq,oT] at ht hs
     subst ht
     refine Qab (v:=pointer (some ⟨b15,0,none⟩)) rfl rfl rfl (g_d rfl ?_)
     try dsimp only [Qah,Qai]
     refine hk _ _ ⟨O,?_,hs.cast ?_⟩<;>simp only [oT,lq,cq,Nat.reduceBEq,p0_,p1_,q3_,q13_,q14_]
    ·
     rintro D t w hD hp hcl ⟨O,ht,hs⟩ rest hk
     obtain ⟨p2_,_⟩:=hp
     obtain ⟨p1_,_⟩:=(hcl.get 2 (by decide)) p2_
     obtain ⟨p0_,_⟩:=(hcl.get 1 (by decide)) p1_
     have q13_:=nz hcl 13 0 hD
     have q14_:=nz hcl 14 0 q13_
     simp only [hD,p0_,p1_,p2_,q13_,q14_,cq,oT] at ht hs
     subst ht
     refine Qaw rfl rfl (v:=v7) rfl rfl (fun _=>rfl) (cells_load (hs.cells 5 rfl) 0 1 rfl) (g_d rfl ?_)
     try dsimp only [Qah,Qai]
     refine hk _ _ ⟨O,?_,hs.cast ?_⟩<;>simp only [oT,lq,cq,Nat.reduceBEq,p0_,p1_,p2_,q13_,q14_]
    ·
     rintro D t w hD hp hcl ⟨O,ht,hs⟩ rest hk
     have q13_:=nz hcl 13 1 hD
     have q14_:=nz hcl 14 0 q13_
     simp only [hD,q13_,q14_,cq,oT] at ht hs
     subst ht
     refine Qab (v:=int .i64 r204) rfl rfl rfl (g_d rfl ?_)
     try dsimp only [Qah,Qai]
     refine hk _ _ ⟨O,?_,hs.cast ?_⟩<;>simp only [oT,lq,cq,Nat.reduceBEq,q13_,q14_]
    ·
     rintro D t w hD hp hcl ⟨O,ht,hs⟩ rest hk
     have q6_:=nz hcl 6 0 hD
     have q7_:=nz hcl 7 0 q6_
     have q8_:=nz hcl 8 0 q7_
     have q10_:=nz hcl 10 0 q8_
     have q11_:=nz hcl 11 0 q10_
     have q12_:=nz hcl 12 0 q11_
     have q13_:=nz hcl 13 7 hD
     have q14_:=nz hcl 14 0 q13_
     simp only [hD,q6_,q7_,q8_,q10_,q11_,q12_,q13_,q14_,cq,oT] at ht hs
     subst ht
     refine Qab (v:=pointer (some ⟨b15,0,none⟩)) rfl rfl rfl (g_d rfl ?_)
     try dsimp only [Qah,Qai]
     refine hk _ _ ⟨O,?_,hs.cast ?_⟩<;>simp only [oT,lq,cq,Nat.reduceBEq,q6_,q7_,q8_,q10_,q11_,q12_,q13_,q14_]
    ·
     rintro D t w hD hp hcl ⟨O,ht,hs⟩ rest hk
     obtain ⟨p5_,_⟩:=hp
     have q7_:=nz hcl 7 0 hD
     have q8_:=nz hcl 8 0 q7_
     have q10_:=nz hcl 10 0 q8_
     have q11_:=nz hcl 11 0 q10_
     have q12_:=nz hcl 12 0 q11_
     have q13_:=nz hcl 13 8 hD
     have q14_:=nz hcl 14 0 q13_
     simp only [hD,p5_,q7_,q8_,q10_,q11_,q12_,q13_,q14_,cq,oT] at ht hs
     subst ht
     refine Qab (v:=pointer (some ⟨b15,0,none⟩)) rfl rfl rfl (g_d rfl ?_)
     try dsimp only [Qah,Qai]
     refine hk _ _ ⟨O,?_,hs.cast ?_⟩<;>simp only [oT,lq,cq,Nat.reduceBEq,p5_,q7_,q8_,q10_,q11_,q12_,q13_,q14_]
    ·
     rintro D t w hD hp hcl ⟨O,ht,hs⟩ rest hk
     obtain ⟨p6_,_⟩:=hp
     obtain ⟨p5_,_⟩:=(hcl.get 6 (by decide)) p6_
     have q8_:=nz hcl 8 0 hD
     have q10_:=nz hcl 10 0 q8_
     have q11_:=nz hcl 11 0 q10_
     have q12_:=nz hcl 12 0 q11_
     have q13_:=nz hcl 13 9 hD
     have q14_:=nz hcl 14 0 q13_
     simp only [hD,p5_,p6_,q8_,q10_,q11_,q12_,q13_,q14_,cq,oT] at ht hs
     subst ht
     refine Qab (v:=pointer (some ⟨b15,0,none⟩)) rfl rfl rfl (g_d rfl ?_)
     try dsimp only [Qah,Qai]
     refine hk _ _ ⟨O,?_,hs.cast ?_⟩<;>simp only [oT,lq,cq,Nat.reduceBEq,p5_,p6_,q8_,q10_,q11_,q12_,q13_,q14_]
    ·
     rintro D t w hD hp hcl ⟨O,ht,hs⟩ rest hk
     obtain ⟨p7_,_⟩:=hp
     obtain ⟨p6_,_⟩:=(hcl.get 7 (by decide)) p7_
     obtain ⟨p5_,_⟩:=(hcl.get 6 (by decide)) p6_
     have q10_:=nz hcl 10 0 hD
     have q11_:=nz hcl 11 0 q10_
     have q12_:=nz hcl 12 0 q11_
     have q13_:=nz hcl 13 10 hD
     have q14_:=nz hcl 14 0 q13_
     simp only [hD,p5_,p6_,p7_,q10_,q11_,q12_,q13_,q14_,cq,oT] at ht hs
     subst ht
     refine Qaw rfl rfl (v:=v7) rfl rfl (fun _=>rfl) (cells_load (hs.cells 5 rfl) 0 1 rfl) (g_d rfl ?_)
     try dsimp only [Qah,Qai]
     refine hk _ _ ⟨O,?_,hs.cast ?_⟩<;>simp only [oT,lq,cq,Nat.reduceBEq,p5_,p6_,p7_,q10_,q11_,q12_,q13_,q14_]
    ·
     rintro D t w hD hp hcl ⟨O,ht,hs⟩ rest hk
     have q10_:=nz hcl 10 1 hD
     have q11_:=nz hcl 11 0 q10_
     have q12_:=nz hcl 12 0 q11_
     have q13_:=nz hcl 13 11 hD
     have q14_:=nz hcl 14 0 q13_
     simp only [hD,q10_,q11_,q12_,q13_,q14_,cq,oT] at ht hs
     subst ht
     refine Qab (v:=int .i64 (rdL x145 x146 0)) rfl rfl rfl (g_d rfl ?_)
     try dsimp only [Qah,Qai]
     refine hk _ _ ⟨O,?_,hs.cast ?_⟩<;>simp only [oT,lq,cq,Nat.reduceBEq,q10_,q11_,q12_,q13_,q14_]
    ·
     rintro D t w hD hp hcl ⟨O,ht,hs⟩ rest hk
     obtain ⟨p8_,p9_,_⟩:=hp
     obtain ⟨p7_,_⟩:=(hcl.get 8 (by decide)) p8_
     obtain ⟨p6_,_⟩:=(hcl.get 7 (by decide)) p7_
     obtain ⟨p5_,_⟩:=(hcl.get 6 (by decide)) p6_
     have q11_:=nz hcl 11 0 hD
     have q12_:=nz hcl 12 0 q11_
     have q13_:=nz hcl 13 12 hD
     have q14_:=nz hcl 14 0 q13_
     simp only [hD,p5_,p6_,p7_,p8_,p9_,q11_,q12_,q13_,q14_,cq,oT] at ht hs
     subst ht
     refine QbJ (κ:=(K.int .i16)) (m:=1) rfl (hs.row 1 rfl) rfl (fun _=>rfl) gd83.1 gd83.2 had84_ rfl rfl rfl rfl rfl (g_d rfl ?_)
     try dsimp only [Qah,Qai]
     refine hk _ _ ⟨O,?_,hs.cast ?_⟩<;>simp only [oT,lq,cq,Nat.reduceBEq,p5_,p6_,p7_,p8_,p9_,q11_,q12_,q13_,q14_]
    ·
     rintro D t w hD hp hcl ⟨O,ht,hs⟩ rest hk
     obtain ⟨p10_,_⟩:=hp
     obtain ⟨p8_,p9_,_⟩:=(hcl.get 10 (by decide)) p10_
     obtain ⟨p7_,_⟩:=(hcl.get 8 (by decide)) p8_
     obtain ⟨p6_,_⟩:=(hcl.get 7 (by decide)) p7_
     obtain ⟨p5_,_⟩:=(hcl.get 6 (by decide)) p6_
     have q12_:=nz hcl 12 0 hD
     have q13_:=nz hcl 13 13 hD
     have q14_:=nz hcl 14 0 q13_
     simp only [hD,p5_,p6_,p7_,p8_,p9_,p10_,q12_,q13_,q14_,cq,oT] at ht hs
     subst ht
     refine Qaw rfl rfl (v:=int .i16 (rdL x192 (rdL x145 x146 0) 0)) rfl rfl (fun _=>rfl) (cellsAt_of (fkI .i16) 0 (hs.row 1 rfl) had84_ gd83.1 gd83.2) (g_d rfl ?_)
     try dsimp only [Qah,Qai]
     refine hk _ _ ⟨O,?_,hs.cast ?_⟩<;>simp only [oT,lq,cq,Nat.reduceBEq,p5_,p6_,p7_,p8_,p9_,p10_,q12_,q13_,q14_]
    ·
     rintro D t w hD hp hcl ⟨O,ht,hs⟩ rest hk
     obtain ⟨p11_,_⟩:=hp
     obtain ⟨p10_,_⟩:=(hcl.get 11 (by decide)) p11_
     obtain ⟨p8_,p9_,_⟩:=(hcl.get 10 (by decide)) p10_
     obtain ⟨p7_,_⟩:=(hcl.get 8 (by decide)) p8_
     obtain ⟨p6_,_⟩:=(hcl.get 7 (by decide)) p7_
     obtain ⟨p5_,_⟩:=(hcl.get 6 (by decide)) p6_
     have q13_:=nz hcl 13 14 hD
     have q14_:=nz hcl 14 0 q13_
     simp only [hD,p5_,p6_,p7_,p8_,p9_,p10_,p11_,q13_,q14_,cq,oT] at ht hs
     subst ht
     refine Qab (v:=int .i16 (i16w ((rdL x192 (rdL x145 x146 0) 0)+1))) rfl rfl rfl (g_d rfl ?_)
     try dsimp only [Qah,Qai]
     refine hk _ _ ⟨O,?_,hs.cast ?_⟩<;>simp only [oT,lq,cq,Nat.reduceBEq,p5_,p6_,p7_,p8_,p9_,p10_,p11_,q13_,q14_]
    ·
     rintro D t w hD hp hcl ⟨O,ht,hs⟩ rest hk
     obtain ⟨p3_,p4_,p0_,p1_,p2_,_,_,p5_,p6_,p7_,p8_,p9_,p10_,p11_,p12_,_⟩:=hp
     have q14_:=nz hcl 14 0 hD
     simp only [hD,p0_,p1_,p2_,p3_,p4_,p5_,p6_,p7_,p8_,p9_,p10_,p11_,p12_,q14_,cq,oT] at ht hs
     subst ht
     refine QbJ (κ:=(K.int .i16)) (m:=1) rfl (hs.row 1 rfl) rfl (fun _=>rfl) gd85.1 gd85.2 had86_ rfl rfl rfl rfl rfl (g_d rfl ?_)
     try dsimp only [Qah,Qai]
     refine hk _ _ ⟨O,?_,hs.cast ?_⟩<;>simp only [oT,lq,cq,Nat.reduceBEq,p0_,p1_,p2_,p3_,p4_,p5_,p6_,p7_,p8_,p9_,p10_,p11_,p12_,q14_]
    ·
     rintro D t w hD hp hcl ⟨O,ht,hs⟩ rest hk
     obtain ⟨p13_,p12_,p0_,p1_,p2_,p3_,p4_,p5_,p6_,p7_,p8_,p9_,p10_,p11_,_,_⟩:=hp
     simp only [hD,p0_,p1_,p2_,p3_,p4_,p5_,p6_,p7_,p8_,p9_,p10_,p11_,p12_,p13_,cq,oT] at ht hs
     subst ht
     have hs:St _ [_,_,_,_,_,_,_,_,_] _:=hs.pull 1 rfl
     refine Qct (y:=i16w ((rdL x192 (rdL x145 x146 0) 0)+1)) (fkI .i16) gd85.1 gd85.2 (hown_of had86_) hs rfl rfl rfl rfl rfl (fun _=>rfl) ?_
     intro w hs
     refine g_n rfl ?_
     try dsimp only [Qah,Qai]
     have hs:=hs.push 1 (by simp)
     refine hk _ _ ⟨O,?_,hs.cast ?_⟩<;>simp only [oT,lq,cq,Nat.reduceBEq,p0_,p1_,p2_,p3_,p4_,p5_,p6_,p7_,p8_,p9_,p10_,p11_,p12_,p13_]
    intro D t w hall hI
    obtain ⟨O,ht,hs⟩:=hI
    have p0_:=hall 0 (by decide)
    have p1_:=hall 1 (by decide)
    have p2_:=hall 2 (by decide)
    have p3_:=hall 3 (by decide)
    have p4_:=hall 4 (by decide)
    have p5_:=hall 5 (by decide)
    have p6_:=hall 6 (by decide)
    have p7_:=hall 7 (by decide)
    have p8_:=hall 8 (by decide)
    have p9_:=hall 9 (by decide)
    have p10_:=hall 10 (by decide)
    have p11_:=hall 11 (by decide)
    have p12_:=hall 12 (by decide)
    have p13_:=hall 13 (by decide)
    have p14_:=hall 14 (by decide)
    simp only [p0_,p1_,p2_,p3_,p4_,p5_,p6_,p7_,p8_,p9_,p10_,p11_,p12_,p13_,p14_,cq,oT] at ht hs
    subst ht
    refine Qaj (Qan [0,1,2,3,4,5,6,7] rfl ?_)
    refine Qab (v:=pointer (some ⟨b15,0,none⟩)) rfl rfl rfl (g_d rfl ?_)
    refine Qab (v:=pointer (some ⟨b15,0,none⟩)) rfl rfl rfl (g_d rfl ?_)
    refine Qab (v:=pointer (some ⟨b15,2,none⟩)) rfl rfl rfl (g_d rfl ?_)
    refine Qaw rfl rfl (v:=v11) rfl rfl (fun _=>rfl) (cells_load (hs.cells 5 rfl) 2 1 rfl) (g_d rfl ?_)
    refine Qab (v:=int .i64 r204) rfl rfl rfl (g_d rfl ?_)
    refine Qab (v:=int .i64 (rdL x145 x146 0)) rfl rfl rfl (g_d rfl ?_)
    obtain ⟨g87,H⟩:=ite_get H
    refine QbQ (fkI .i64) 0 (hs.row 3 rfl) rfl (fun _=>rfl) g87.1 g87.2 rfl rfl rfl rfl rfl ?_
    intro p206 hp206 lp206 op206
    refine g_d rfl ?_
    try dsimp only [Qah,Qai]
    have hs:St _ [_,_,_,_,_,_,_,_,_] _:=hs.pull 3 rfl
    refine Qct (y:=rdL x145 x146 0) (fkI .i64) g87.1 g87.2 op206 hs rfl rfl rfl rfl rfl (fun _=>rfl) ?_
    intro w hs
    refine g_n rfl (Qac (Qaj ?_))
    obtain ⟨gd88,H⟩:=ite_get H
    obtain ⟨ad89_,ad89_N,ad89_C,had89_⟩:=sl_at (hs.row 8 rfl) gd88.1 gd88.2
    obtain ⟨gd90,H⟩:=ite_get H
    obtain ⟨ad91_,ad91_N,ad91_C,had91_⟩:=sl_at (hs.row 4 rfl) gd90.1 gd90.2
    refine QaV ?_
    intro T hT
    refine QbZ (n:=11) rfl [0,1,2,3,4,5,6,7,8,9,10] [0,1,2,3,4,5,6,7,8,9,10] rfl rfl (Inv:=fun D t w=>∃ O:Nat→Value,t=(pointer (some ⟨b2,0,none⟩)::O 1::O 2::O 3::pointer (some ⟨b15,0,none⟩)::O 5::O 6::v197::int .i64 x146::int .i64 (rdL x145 x146 0)::pointer (some ⟨b149,0,none⟩)::v152::int .i64 x199::pointer (some ⟨b201,0,none⟩)::int .i64 r200.2::int .i64 r204::O 16::O 17::O 18::O 19::oT O 2 (oT O 3 (oT O 4 (oT O 5 (oT O 6 (O 70::O 71::O 72::O 73::O 74::int .i64 x199::v152::int .i64 (r151.length:Int)::bool true::O 79::O 80::tuple #[agg (Qaa r200.1).toArray,int .i64 r200.2]::pointer (some ⟨b2,0,none⟩)::agg (Qaa r148).toArray::v152::int .i64 x199::pointer (some (ad81_.add (x199.toNat*1)))::int .u16 (rdL r151 x199 0)::tuple #[agg (Qaa r200.1).toArray,int .i64 r200.2]::agg (Qaa r200.1).toArray::int .i64 r200.2::pointer (some ⟨b2,0,none⟩)::agg (Qaa r200.1).toArray::int .i64 r204::pointer (some ⟨b15,0,none⟩)::pointer (some ⟨b15,0,none⟩)::pointer (some ⟨b15,0,none⟩)::v7::int .i64 r204::pointer (some p205)::int .i16 (rdL x192 r204 0)::bool true::pointer (some ⟨b15,0,none⟩)::pointer (some ⟨b15,0,none⟩)::pointer (some ⟨b15,0,none⟩)::v7::int .i64 r204::pointer (some ⟨b15,0,none⟩)::pointer (some ⟨b15,0,none⟩)::pointer (some ⟨b15,0,none⟩)::v7::int .i64 (rdL x145 x146 0)::pointer (some (ad84_.add ((rdL x145 x146 0).toNat*1)))::int .i16 (rdL x192 (rdL x145 x146 0) 0)::int .i16 (i16w ((rdL x192 (rdL x145 x146 0) 0)+1))::pointer (some (ad86_.add (r204.toNat*1)))::pointer (some ⟨b15,0,none⟩)::pointer (some ⟨b15,0,none⟩)::pointer (some ⟨b15,2,none⟩)::v11::int .i64 r204::int .i64 (rdL x145 x146 0)::pointer (some p206)::cnd (D 0) (pointer (some ⟨b15,0,none⟩)) (O 123)::cnd (D 1) (pointer (some ⟨b15,0,none⟩)) (O 124)::cnd (D 2) (pointer (some ⟨b15,3,none⟩)) (O 125)::cnd (D 3) v13 (O 126)::cnd (D 4) (int .i64 r204) (O 127)::cnd (D 5) v152 (O 128)::cnd (D 6) (int .i64 x199) (O 129)::cnd (D 7) (pointer (some (ad89_.add (x199.toNat*1)))) (O 130)::cnd (D 8) (int .u16 (rdL r151 x199 0)) (O 131)::cnd (D 9) (pointer (some (ad91_.add (r204.toNat*1)))) (O 132)::O 133::O 134::O 135::O 136::O 137::O 138::O 139::oT O 14 (oT O 15 (oT O 16 ([])))))))))∧St w0 [Row 2 (K.int .i64) v11 (stL x194 r204 (rdL x145 x146 0)),Cells b201 (Qaa r200.1) 48,Row 86 (K.int .i16) v7 (stL x192 r204 (i16w ((rdL x192 (rdL x145 x146 0) 0)+1))),Row 2 (K.int .i64) v9 x193,Row 46 (K.int .u16) (cnd (D 10) v13 v13) (cnd (D 10) (stL x195 r204 (rdL r151 x199 0)) x195),Cells b15 (([v7,v9,v11,v13]:List Value)) 74,Row 2 (K.int .i64) v197 x198,Cells b149 (Qaa r148) 48,Row 46 (K.int .u16) v152 r151] w) ?_ ⟨⟨⟨⟨⟨⟨⟨⟨⟨⟨⟨trivial,?_⟩,?_⟩,?_⟩,?_⟩,?_⟩,?_⟩,?_⟩,?_⟩,?_⟩,?_⟩,?_⟩ ?_
    ·
     intro w hh hbw
     have hs:=hs.samew hh hbw
     exact ⟨fun i=>T.getD i undef,(by subst hT;rfl),hs⟩
    ·
     rintro D t w hD hp hcl ⟨O,ht,hs⟩ rest hk
     have q1_:=nz hcl 1 0 hD
     have q2_:=nz hcl 2 0 q1_
     have q3_:=nz hcl 3 0 q2_
     have q9_:=nz hcl 9 0 q3_
     have q10_:=nz hcl 10 0 q9_
     simp only [hD,q1_,q2_,q3_,q9_,q10_,cq,oT] at ht hs
     subst ht
     refine Qab (v:=pointer (some ⟨b15,0,none⟩)) rfl rfl rfl (g_d rfl ?_)
     try dsimp only [Qah,Qai]
     refine hk _ _ ⟨O,?_,hs.cast ?_⟩<;>simp only [oT,lq,cq,Nat.reduceBEq,q1_,q2_,q3_,q9_,q10_]
    ·
     rintro D t w hD hp hcl ⟨O,ht,hs⟩ rest hk
     obtain ⟨p0_,_⟩:=hp
     have q2_:=nz hcl 2 0 hD
     have q3_:=nz hcl 3 0 q2_
     have q9_:=nz hcl 9 0 q3_
     have q10_:=nz hcl 10 0 q9_
     simp only [hD,p0_,q2_,q3_,q9_,q10_,cq,oT] at ht hs
     subst ht
     refine Qab (v:=pointer (some ⟨b15,0,none⟩)) rfl rfl rfl (g_d rfl ?_)
     try dsimp only [Qah,Qai]
     refine hk _ _ ⟨O,?_,hs.cast ?_⟩<;>simp only [oT,lq,cq,Nat.reduceBEq,p0_,q2_,q3_,q9_,q10_]
    ·
     rintro D t w hD hp hcl ⟨O,ht,hs⟩ rest hk
     obtain ⟨p1_,_⟩:=hp
     obtain ⟨p0_,_⟩:=(hcl.get 1 (by decide)) p1_
     have q3_:=nz hcl 3 0 hD
     have q9_:=nz hcl 9 0 q3_
     have q10_:=nz hcl 10 0 q9_
     simp only [hD,p0_,p1_,q3_,q9_,q10_,cq,oT] at ht hs
     subst ht
     refine Qab (v:=pointer (some ⟨b15,3,none⟩)) rfl rfl rfl (g_d rfl ?_)
     try dsimp only [Qah,Qai]
     refine hk _ _ ⟨O,?_,hs.cast ?_⟩<;>simp only [oT,lq,cq,Nat.reduceBEq,p0_,p1_,q3_,q9_,q10_]
    ·
     rintro D t w hD hp hcl ⟨O,ht,hs⟩ rest hk
     obtain ⟨p2_,_⟩:=hp
     obtain ⟨p1_,_⟩:=(hcl.get 2 (by decide)) p2_
     obtain ⟨p0_,_⟩:=(hcl.get 1 (by decide)) p1_
     have q9_:=nz hcl 9 0 hD
     have q10_:=nz hcl 10 0 q9_
     simp only [hD,p0_,p1_,p2_,q9_,q10_,cq,oT] at ht hs
     subst ht
     refine Qaw rfl rfl (v:=v13) rfl rfl (fun _=>rfl) (cells_load (hs.cells 5 rfl) 3 1 rfl) (g_d rfl ?_)
     try dsimp only [Qah,Qai]
     refine hk _ _ ⟨O,?_,hs.cast ?_⟩<;>simp only [oT,lq,cq,Nat.reduceBEq,p0_,p1_,p2_,q9_,q10_]
    ·
     rintro D t w hD hp hcl ⟨O,ht,hs⟩ rest hk
     have q9_:=nz hcl 9 1 hD
     have q10_:=nz hcl 10 0 q9_
     simp only [hD,q9_,q10_,cq,oT] at ht hs
     subst ht
     refine Qab (v:=int .i64 r204) rfl rfl rfl (g_d rfl ?_)
     try dsimp only [Qah,Qai]
     refine hk _ _ ⟨O,?_,hs.cast ?_⟩<;>simp only [oT,lq,cq,Nat.reduceBEq,q9_,q10_]
    ·
     rintro D t w hD hp hcl ⟨O,ht,hs⟩ rest hk
     have q7_:=nz hcl 7 0 hD
     have q8_:=nz hcl 8 0 q7_
     have q9_:=nz hcl 9 7 hD
     have q10_:=nz hcl 10 0 q9_
     simp only [hD,q7_,q8_,q9_,q10_,cq,oT] at ht hs
     subst ht
     refine Qab (v:=v152) rfl rfl rfl (g_d rfl ?_)
     try dsimp only [Qah,Qai]
     refine hk _ _ ⟨O,?_,hs.cast ?_⟩<;>simp only [oT,lq,cq,Nat.reduceBEq,q7_,q8_,q9_,q10_]
    ·
     rintro D t w hD hp hcl ⟨O,ht,hs⟩ rest hk
     have q7_:=nz hcl 7 1 hD
     have q8_:=nz hcl 8 0 q7_
     have q9_:=nz hcl 9 8 hD
     have q10_:=nz hcl 10 0 q9_
     simp only [hD,q7_,q8_,q9_,q10_,cq,oT] at ht hs
     subst ht
     refine Qab (v:=int .i64 x199) rfl rfl rfl (g_d rfl ?_)
     try dsimp only [Qah,Qai]
     refine hk _ _ ⟨O,?_,hs.cast ?_⟩<;>simp only [oT,lq,cq,Nat.reduceBEq,q7_,q8_,q9_,q10_]
    ·
     rintro D t w hD hp hcl ⟨O,ht,hs⟩ rest hk
     obtain ⟨p5_,p6_,_⟩:=hp
     have q8_:=nz hcl 8 0 hD
     have q9_:=nz hcl 9 9 hD
     have q10_:=nz hcl 10 0 q9_
     simp only [hD,p5_,p6_,q8_,q9_,q10_,cq,oT] at ht hs
     subst ht
     refine QbJ (κ:=(K.int .u16)) (m:=1) rfl (hs.row 8 rfl) rfl (fun _=>rfl) gd88.1 gd88.2 had89_ rfl rfl rfl rfl rfl (g_d rfl ?_)
     try dsimp only [Qah,Qai]
     refine hk _ _ ⟨O,?_,hs.cast ?_⟩<;>simp only [oT,lq,cq,Nat.reduceBEq,p5_,p6_,q8_,q9_,q10_]
    ·
     rintro D t w hD hp hcl ⟨O,ht,hs⟩ rest hk
     obtain ⟨p7_,_⟩:=hp
     obtain ⟨p5_,p6_,_⟩:=(hcl.get 7 (by decide)) p7_
     have q9_:=nz hcl 9 10 hD
     have q10_:=nz hcl 10 0 q9_
     simp only [hD,p5_,p6_,p7_,q9_,q10_,cq,oT] at ht hs
     subst ht
     refine Qaw rfl rfl (v:=int .u16 (rdL r151 x199 0)) rfl rfl (fun _=>rfl) (cellsAt_of (fkI .u16) 0 (hs.row 8 rfl) had89_ gd88.1 gd88.2) (g_d rfl ?_)
     try dsimp only [Qah,Qai]
     refine hk _ _ ⟨O,?_,hs.cast ?_⟩<;>simp only [oT,lq,cq,Nat.reduceBEq,p5_,p6_,p7_,q9_,q10_]
    ·
     rintro D t w hD hp hcl ⟨O,ht,hs⟩ rest hk
     obtain ⟨p3_,p4_,p0_,p1_,p2_,_,_,p5_,p6_,p7_,p8_,_⟩:=hp
     have q10_:=nz hcl 10 0 hD
     simp only [hD,p0_,p1_,p2_,p3_,p4_,p5_,p6_,p7_,p8_,q10_,cq,oT] at ht hs
     subst ht
     refine QbJ (κ:=(K.int .u16)) (m:=1) rfl (hs.row 4 rfl) rfl (fun _=>rfl) gd90.1 gd90.2 had91_ rfl rfl rfl rfl rfl (g_d rfl ?_)
     try dsimp only [Qah,Qai]
     refine hk _ _ ⟨O,?_,hs.cast ?_⟩<;>simp only [oT,lq,cq,Nat.reduceBEq,p0_,p1_,p2_,p3_,p4_,p5_,p6_,p7_,p8_,q10_]
    ·
     rintro D t w hD hp hcl ⟨O,ht,hs⟩ rest hk
     obtain ⟨p9_,p8_,p0_,p1_,p2_,p3_,p4_,p5_,p6_,p7_,_,_⟩:=hp
     simp only [hD,p0_,p1_,p2_,p3_,p4_,p5_,p6_,p7_,p8_,p9_,cq,oT] at ht hs
     subst ht
     have hs:St _ [_,_,_,_,_,_,_,_,_] _:=hs.pull 4 rfl
     refine Qct (y:=rdL r151 x199 0) (fkI .u16) gd90.1 gd90.2 (hown_of had91_) hs rfl rfl rfl rfl rfl (fun _=>rfl) ?_
     intro w hs
     refine g_n rfl ?_
     try dsimp only [Qah,Qai]
     have hs:=hs.push 4 (by simp)
     refine hk _ _ ⟨O,?_,hs.cast ?_⟩<;>simp only [oT,lq,cq,Nat.reduceBEq,p0_,p1_,p2_,p3_,p4_,p5_,p6_,p7_,p8_,p9_]
    intro D t w hall hI
    obtain ⟨O,ht,hs⟩:=hI
    have p0_:=hall 0 (by decide)
    have p1_:=hall 1 (by decide)
    have p2_:=hall 2 (by decide)
    have p3_:=hall 3 (by decide)
    have p4_:=hall 4 (by decide)
    have p5_:=hall 5 (by decide)
    have p6_:=hall 6 (by decide)
    have p7_:=hall 7 (by decide)
    have p8_:=hall 8 (by decide)
    have p9_:=hall 9 (by decide)
    have p10_:=hall 10 (by decide)
    simp only [p0_,p1_,p2_,p3_,p4_,p5_,p6_,p7_,p8_,p9_,p10_,cq,oT] at ht hs
    subst ht
    refine Qan [0,1,2,3,4] rfl ?_
    refine Qab (v:=v197) rfl rfl rfl (g_d rfl ?_)
    refine Qab (v:=int .i64 r204) rfl rfl rfl (g_d rfl ?_)
    try dsimp only [Qah,Qai]
    refine Qcq (fkI .i64) (y:=r204) hs rfl rfl rfl rfl (fun _=>rfl) (zv:=(int .i64 0)) (fun _=>rfl) rfl (by decide) (by decide) rfl ?_
    intro v207 w hs
    refine g_d rfl ?_
    try dsimp only [Qah,Qai]
    have hs:St _ [_,_,_,_,_,_,_,_,_,_] _:=hs.pull 7 rfl
    obtain ⟨g,H⟩:=ite_get H
    refine Qcr (fkI .i64) (zv:=(int .i64 0)) (B:=8) hs (hs.row 1 rfl) rfl rfl rfl rfl rfl rfl rfl rfl rfl (by decide) rfl rfl (by decide) (by omega) ?_
    intro v209 w hs
    refine g_d rfl ?_
    refine Qab (v:=v209) rfl rfl rfl (g_d rfl ?_)
    try dsimp only [Qah,Qai]
    refine Qac ?_
    have hs:=hs.pull 9 rfl
    have hs:=hs.pull 9 rfl
    have hs:=hs.pull 2 rfl
    have hs:=hs.pull 8 rfl
    have hs:=hs.pull 5 rfl
    have hs:=hs.pull 8 rfl
    have hs:=hs.pull 8 rfl
    have hs:=hs.pull 9 rfl
    have hs:St _ [_,_,_,_,_,_,_,_] _:=St.take (Γ':=[_,_]) hs
    exact ha _ _ ⟨stL x192 r204 (i16w ((rdL x192 (rdL x145 x146 0) 0)+1)),stL x194 r204 (rdL x145 x146 0),stL x195 r204 (rdL r151 x199 0),v209,x198++([r204]),H,rfl,hs⟩
   intro hb
   rw [if_neg (b_dec_f hb)] at H
   refine g_d rfl (Qac (Qas rfl (QaK ?_)))
   have hs:=hs.pull 8 rfl
   have hs:=hs.pull 8 rfl
   have hs:=hs.pull 8 rfl
   have hs:=hs.pull 7 rfl
   have hs:=hs.pull 7 rfl
   have hs:=hs.pull 7 rfl
   have hs:=hs.pull 7 rfl
   have hs:=hs.pull 8 rfl
   have hs:St _ [_,_,_,_,_,_,_,_] _:=St.take (Γ':=[_]) hs
   exact ha _ _ ⟨x192,x194,x195,v197,x198,H,rfl,hs⟩
  intro hb
  rw [if_neg (b_dec_f hb)] at H
  refine g_d rfl (Qac (Qas rfl ?_))
  obtain rfl:=QsJ H
  subst Hx2_
  have hs:=hs.pull 5 rfl
  have hs:=hs.pull 4 rfl
  have hs:=hs.pull 4 rfl
  have hs:=hs.pull 4 rfl
  have hs:=hs.pull 4 rfl
  have hs:=hs.pull 5 rfl
  have hs:St _ [_,_,_,_,_,_] _:=St.take (Γ':=[_,_]) hs
  refine QbE rfl ?_
  exact ha2_ _ _ ⟨x192,x193,x194,x195,v197,x198,Hr2_,rfl,hs⟩
 intro hb
 rw [if_neg (b_dec_f hb)] at H
 refine g_d rfl (Qac (Qas rfl ?_))
 obtain rfl:=QsJ H
 subst Hx1_
 have hs:=hs.pull 3 rfl
 have hs:=hs.pull 3 rfl
 have hs:=hs.pull 3 rfl
 have hs:=hs.pull 3 rfl
 have hs:=hs.pull 4 rfl
 have hs:St _ [_,_,_,_,_] _:=St.take (Γ':=[_]) hs
 refine QbE rfl ?_
 exact ha1_ _ _ ⟨x139,x140,x141,x142,Hr1_,rfl,hs⟩
end Go.Proofs.YtblbfnngmeoipaaGreatDoorX
