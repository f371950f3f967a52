import Derived.Test.YtblbfnngmeoipaaGreatDoorP15
namespace Go.Proofs.YtblbfnngmeoipaaGreatDoorX
open Go Go.RowKit Go.Proofs
open Go.Value (int pointer bool agg slice string tuple)
set_option maxHeartbeats 40000000
set_option maxRecDepth 100000
set_option linter.unusedVariables false
set_option linter.unusedSimpArgs false
theorem Qar.seg1 {N : Nat} {a1 : (List Int)} {a3 : (List Int)} {v2 : Value} {v4 : Value} {r6 : Qaf} {r41 : ((List Int) × Int)} {r61 : (Qak × Int)} {b9 : Nat} {v42 : Value} {b62 : Nat} {v7 : Value} {w0 : World} {r : Bool} (htab : Lib.TabIs Tryz.prog w0 "internal/strconv.uint64pow10" .u64 Lib.pow10Tab) (hmax : CellI w0 0) (hsyn : CellE w0 1) (hrng : CellE w0 2) (hr0 : RdRow (K.int .u8) w0 v2 a1) (hr1 : RdRow (K.int .u8) w0 v4 a3) :
 ∀ t w,(fun t w=>Qar.j4 N r6 r41 r61=some r∧Fr t (fun O=>(O 0::O 1::O 2::O 3::O 4::pointer (some ⟨b9,0,none⟩)::O 6::O 7::O 8::O 9::O 10::O 11::O 12::O 13::O 14::O 15::v42::O 17::O 18::O 19::O 20::O 21::pointer (some ⟨b62,0,none⟩)::O 23::O 24::O 25::O 26::O 27::O 28::O 29::oT O 3 (oT O 4 (oT O 5 (oT O 6 (oT O 7 (oT O 8 (oT O 9 (oT O 10 (oT O 11 (oT O 12 (oT O 13 (oT O 14 (oT O 15 (oT O 16 (oT O 17 (oT O 18 (oT O 19 (oT O 20 (oT O 21 (oT O 22 (oT O 23 (oT O 24 (oT O 25 (oT O 26 (oT O 27 (oT O 28 (oT O 29 (O 300::O 301::O 302::O 303::O 304::O 305::O 306::[]))))))))))))))))))))))))))):List Value))∧St w0 [Cells b9 (([int .i8 r6.Qad,int .i8 r6.Qag,v7]:List Value)) 27,Row 46 (K.int .u16) v7 r6.Qal,Row 46 (K.int .u16) v42 r41.1,Cells b62 (Qaa r61.1) 48] w) t w→G Tryz.prog 3 (fun e w=>∃ v,e= .returned v∧Qar.post w0 r v w) [.code (Code.at_ (Tryz.f3.body.getD .skip) [1,1,1,1,1,1,1,1,1,1,1,1,1,1,1])] t w:=by
 rintro t w ⟨H,hf,hs⟩
 obtain ⟨O,rfl⟩:=hf.open
 try dsimp only [oT]
 unfold Qar.j4 at H
 refine Qaj (Qan [0,1,2,3,4,5] rfl ?_)
 refine Qab (v:=pointer (some ⟨b9,0,none⟩)) rfl rfl rfl (g_d rfl ?_)
 refine Qaw rfl rfl (v:=int .i8 r6.Qad) rfl rfl (fun _=>rfl) (cells_load (hs.cells 0 rfl) 0 1 rfl) (g_d rfl ?_)
 try dsimp only [Qah,Qai]
 refine Qab (v:=int .u64 (u64w r6.Qad)) rfl rfl rfl (g_d rfl ?_)
 obtain ⟨g1,H⟩:=ite_get H
 refine Qab (v:=int .u16 (shlI .u16 1 (u64w r6.Qad))) rfl rfl (Qcx rfl rfl rfl g1) (g_d rfl ?_)
 refine Qab (v:=int .u16 (u16w ((shlI .u16 1 (u64w r6.Qad)) - 1))) rfl rfl rfl (g_d rfl ?_)
 try dsimp only [Qah,Qai]
 refine Qab (v:=int .u16 (u16w ((shlI .u16 1 (u64w r6.Qad)) - 1))) rfl rfl rfl (g_d rfl (Qac (Qaj (Qan [0,1,2,3] rfl ?_))))
 refine Qab (v:=int .u16 (u16w ((shlI .u16 1 (u64w r6.Qad)) - 1))) rfl rfl rfl (g_d rfl ?_)
 try dsimp only [Qah,Qai]
 refine Qab (v:=agg (Qaa (⟨u16w ((shlI .u16 1 (u64w r6.Qad)) - 1),false⟩:Qak)).toArray) rfl rfl (Qbt (cs:=(Qaa (⟨u16w ((shlI .u16 1 (u64w r6.Qad)) - 1),false⟩:Qak))) (segs:=[[int .u16 0],[bool false]]) rfl rfl (fun _=>rfl) ⟨rfl,(fun _=>rfl),rfl,(fun _=>rfl),trivial⟩ (by simp only [List.map_cons,List.map_nil,List.forall_mem_cons,List.not_mem_nil,false_implies,implies_true,and_true];exact ⟨_,rfl,rfl⟩) (by first|rfl|(simp [ev,Qaa];done)|(simp [ev,Qaa];rfl))) ?_
 refine g_d rfl ?_
 refine QbI hs rfl rfl (z:=(agg #[int .u16 0,bool false])) (cs:=(Qaa Qa9)) rfl (fun _=>rfl) rfl ?_
 intro b66 w hs
 refine g_d rfl ?_
 try dsimp only [Qah,Qai]
 refine QaY (n:=2) hs (Qam.len _) rfl rfl (vs:=(Qaa (⟨u16w ((shlI .u16 1 (u64w r6.Qad)) - 1),false⟩:Qak))) rfl rfl rfl (fun _=>rfl) (Qam.len _) (Qam.one _) ?_
 intro w hs
 refine g_n rfl (Qac (Qaj (Qaj (Qan [0] rfl ?_))))
 refine Qab (v:=int .i64 0) rfl rfl rfl (g_d rfl (Qac ?_))
 obtain ⟨o1_,Ho,Hr1_⟩:=bind_get H
 refine QaR (J:=fun t w=>∃ x123:Qak,Qar.a5 N r61 x123=some r∧Fr t (fun O=>(oT O 0 (oT O 1 (O 20::O 21::pointer (some ⟨b62,0,none⟩)::O 23::O 24::pointer (some ⟨b66,0,none⟩)::O 26::O 27::O 28::O 29::oT O 3 (oT O 4 (oT O 5 (oT O 6 (oT O 7 (oT O 8 (oT O 9 (oT O 10 (oT O 11 (oT O 12 (oT O 13 (oT O 14 (oT O 15 (oT O 16 (oT O 17 (oT O 18 (oT O 19 (oT O 20 (oT O 21 (oT O 22 (oT O 23 (oT O 24 (oT O 25 (oT O 26 (oT O 27 (oT O 28 (oT O 29 (O 300::O 301::O 302::O 303::O 304::O 305::O 306::[]))))))))))))))))))))))))))))):List Value))∧St w0 [Cells b62 (Qaa r61.1) 48,Cells b66 (Qaa x123) 48] w) ?_ ?_
 ·exact Qar.seg0 htab hmax hsyn hrng hr0 hr1
 intro ha1_
 have hs:=hs.pull 0 rfl
 have hs:=hs.pull 4 rfl
 have hs:=hs.pull 4 rfl
 have hs:=hs.pull 3 rfl
 have hs:=hs.pull 4 rfl
 have hs:St _ [_,_,_,_,_] _:=St.take (Γ':=[]) hs
 refine Qba (I:=fun n_ t w=>∃ x95:Qak,∃ x96:Int,rounds (fun s=>Qar.b5 N r41 r6 s.1 s.2) n_ (x95,x96)=some o1_∧Fr t (fun O=>(O 0::O 1::O 2::O 3::O 4::pointer (some ⟨b9,0,none⟩)::O 6::O 7::O 8::O 9::O 10::O 11::O 12::O 13::O 14::O 15::v42::O 17::O 18::O 19::O 20::O 21::pointer (some ⟨b62,0,none⟩)::O 23::int .u16 (u16w ((shlI .u16 1 (u64w r6.Qad)) - 1))::pointer (some ⟨b66,0,none⟩)::int .i64 x96::O 27::O 28::O 29::oT O 3 (oT O 4 (oT O 5 (oT O 6 (oT O 7 (oT O 8 (oT O 9 (oT O 10 (oT O 11 (oT O 12 (oT O 13 (oT O 14 (oT O 15 (oT O 16 (oT O 17 (oT O 18 (oT O 19 (oT O 20 (oT O 21 (oT O 22 (oT O 23 (oT O 24 (oT O 25 (oT O 26 (oT O 27 (oT O 28 (oT O 29 (O 300::O 301::O 302::O 303::O 304::O 305::O 306::[]))))))))))))))))))))))))))):List Value))∧St w0 [Row 46 (K.int .u16) v7 r6.Qal,Cells b9 (([int .i8 r6.Qad,int .i8 r6.Qag,v7]:List Value)) 27,Row 46 (K.int .u16) v42 r41.1,Cells b62 (Qaa r61.1) 48,Cells b66 (Qaa x95) 48] w) N ⟨(⟨u16w ((shlI .u16 1 (u64w r6.Qad)) - 1),false⟩:Qak),0,Ho,rfl,hs⟩ ?_ ?_
 ·
  rintro _ _ ⟨x95,x96,h,_⟩
  exact rounds_zero h
 intro n_ ih1_
 rintro t w ⟨x95,x96,Ho,hf,hs⟩
 obtain ⟨O,rfl⟩:=hf.open
 try dsimp only [oT]
 obtain ⟨x428_,H,Hx1_⟩:=rounds_succ Ho
 have H:Qar.b5 N r41 r6 x95 x96=some x428_:=H
 unfold Qar.b5 at H
 refine Qaj (Qaj (Qan [0,1,2,3] rfl ?_))
 refine Qab (v:=int .i64 x96) rfl rfl rfl (g_d rfl ?_)
 refine Qab (v:=v42) rfl rfl rfl (g_d rfl ?_)
 refine QbC (hs.row 2 rfl) rfl rfl rfl rfl rfl (g_d rfl ?_)
 try dsimp only [Qah,Qai]
 refine QaI (B:=decide (x96< (r41.1.length:Int))) rfl rfl rfl ?_ ?_
 · as_aux_lemma =>
  intro hb
  rw [if_pos (b_dec_t hb)] at H
  refine g_d rfl ?_
  try dsimp only [Qah,Qai]
  refine Qac (Qaq rfl (QaK (Qaj ?_)))
  refine QbG (Qaj (Qan [0,1,2,3,4,5,6,7] rfl ?_))
  refine QaF rfl rfl (es:=(([int .i8 r6.Qad,int .i8 r6.Qag,v7]:List Value))) rfl rfl (fun _=>rfl) (n:=3) (fun _=>rfl) rfl (cells_all (hs.cells 1 rfl)) (g_d rfl ?_)
  refine QaF rfl rfl (es:=(Qaa x95)) rfl rfl (fun _=>rfl) (n:=2) (fun _=>rfl) (Qam.len _) (cells_all (hs.cells 4 rfl)) (g_d rfl ?_)
  try dsimp only [Qah,Qai]
  obtain ⟨r97,Hr97,H⟩:=bind_get H
  refine Qaz (args:=[agg (([int .i8 r6.Qad,int .i8 r6.Qag,v7]:List Value)).toArray,agg (Qaa x95).toArray]) rfl rfl (QaA rfl (callFunc_enter Tryz.func21 rfl rfl) rfl) (Qb1.calls (a1:=(⟨r6.Qad,r6.Qag,r6.Qal⟩:Qaf)) (a4:=x95) (hs.row 0 rfl) Hr97) ?_
  rintro _ w ⟨v98,rfl,hs2⟩
  have hs:St _ [_,_,_,_,_,_] _:=hs.call hs2
  refine g_d rfl ?_
  refine Qab (v:=tuple #[v98,int .i64 r97.2]) rfl rfl rfl (g_d rfl ?_)
  refine Qab (v:=v98) rfl rfl rfl (g_d rfl ?_)
  refine Qab (v:=int .i64 r97.2) rfl rfl rfl (g_d rfl ?_)
  refine Qab (v:=v98) rfl rfl rfl (g_d rfl ?_)
  try dsimp only [Qah,Qai]
  refine Qab (v:=int .i64 r97.2) rfl rfl rfl (g_d rfl (Qac (Qaj ?_)))
  obtain ⟨gd215,H⟩:=ite_get H
  obtain ⟨ad216_,ad216_N,ad216_C,had216_⟩:=sl_at (hs.row 3 rfl) gd215.1 gd215.2
  obtain ⟨r100,Hr100,H⟩:=bind_get H
  refine QaV ?_
  intro T hT
  refine QbZ (n:=13) rfl [0,1,2,3,4,5,6,7,8,9,10,11,12] [0,1,2,3,4,5,6,7,8,11,9,10,12] rfl rfl (Inv:=fun D t w=>∃ b101:Nat,∃ O:Nat→Value,t=(O 0::O 1::O 2::O 3::O 4::pointer (some ⟨b9,0,none⟩)::O 6::O 7::O 8::O 9::O 10::O 11::O 12::O 13::O 14::O 15::v42::O 17::O 18::O 19::O 20::O 21::pointer (some ⟨b62,0,none⟩)::O 23::int .u16 (u16w ((shlI .u16 1 (u64w r6.Qad)) - 1))::pointer (some ⟨b66,0,none⟩)::int .i64 x96::v98::int .i64 r97.2::cnd (D 10) (pointer (some ⟨b101,0,none⟩)) (O 29)::cnd (D 12) (int .i64 r100.2) (O 30)::O 31::O 32::O 33::O 34::O 35::O 36::O 37::O 38::O 39::oT O 4 (oT O 5 (oT O 6 (oT O 7 (oT O 8 (oT O 9 (oT O 10 (oT O 11 (oT O 12 (oT O 13 (oT O 14 (oT O 15 (oT O 16 (oT O 17 (oT O 18 (O 190::O 191::O 192::int .i64 x96::v42::int .i64 (r41.1.length:Int)::bool true::O 197::O 198::tuple #[v98,int .i64 r97.2]::agg (([int .i8 r6.Qad,int .i8 r6.Qag,v7]:List Value)).toArray::agg (Qaa x95).toArray::tuple #[v98,int .i64 r97.2]::v98::int .i64 r97.2::cnd (D 7) (tuple #[agg (Qaa r100.1).toArray,int .i64 r100.2]) (O 205)::cnd (D 0) (agg (([int .i8 r6.Qad,int .i8 r6.Qag,v7]:List Value)).toArray) (O 206)::cnd (D 1) (agg (Qaa x95).toArray) (O 207)::cnd (D 2) v42 (O 208)::cnd (D 3) (int .i64 x96) (O 209)::cnd (D 4) (pointer (some (ad216_.add (x96.toNat*1)))) (O 210)::cnd (D 5) (int .u16 (rdL r41.1 x96 0)) (O 211)::cnd (D 6) (tuple #[agg (Qaa r100.1).toArray,int .i64 r100.2]) (O 212)::cnd (D 8) (agg (Qaa r100.1).toArray) (O 213)::cnd (D 9) (int .i64 r100.2) (O 214)::O 215::O 216::O 217::O 218::O 219::oT O 22 (oT O 23 (oT O 24 (oT O 25 (oT O 26 (oT O 27 (oT O 28 (oT O 29 (O 300::O 301::O 302::O 303::O 304::O 305::O 306::[]))))))))))))))))))))))))∧St w0 [Asc (D 10) (Cells b101 (cnd (D 11) (Qaa r100.1) (Qaa Qa9)) 48),Row 46 (K.int .u16) v98 r97.1,Row 46 (K.int .u16) v7 r6.Qal,Cells b9 (([int .i8 r6.Qad,int .i8 r6.Qag,v7]:List Value)) 27,Row 46 (K.int .u16) v42 r41.1,Cells b62 (Qaa r61.1) 48,Cells b66 (Qaa x95) 48] w) ?_ ⟨⟨⟨⟨⟨⟨⟨⟨⟨⟨⟨⟨⟨trivial,?_⟩,?_⟩,?_⟩,?_⟩,?_⟩,?_⟩,?_⟩,?_⟩,?_⟩,?_⟩,?_⟩,?_⟩,?_⟩ ?_
  ·
   intro w hh hbw
   have hs:=hs.samew hh hbw
   have hs:=hs.emp
   exact ⟨0,fun i=>T.getD i undef,(by subst hT;rfl),hs⟩
  ·
   rintro D t w hD hp hcl ⟨b101,O,ht,hs⟩ rest hk
   have q6_:=nz hcl 6 0 hD
   have q7_:=nz hcl 7 0 q6_
   have q8_:=nz hcl 8 0 q7_
   have q9_:=nz hcl 9 0 q7_
   have q11_:=nz hcl 11 1 q8_
   have q12_:=nz hcl 12 0 q9_
   simp only [hD,q6_,q7_,q8_,q9_,q11_,q12_,cq,oT] at ht hs
   subst ht
   refine QaF rfl rfl (es:=(([int .i8 r6.Qad,int .i8 r6.Qag,v7]:List Value))) rfl rfl (fun _=>rfl) (n:=3) (fun _=>rfl) rfl (cells_all (hs.cells 3 rfl)) (g_d rfl ?_)
   try dsimp only [Qah,Qai]
   refine hk _ _ ⟨b101,O,?_,hs.cast ?_⟩<;>simp only [oT,lq,cq,Nat.reduceBEq,q6_,q7_,q8_,q9_,q11_,q12_]
  ·
   rintro D t w hD hp hcl ⟨b101,O,ht,hs⟩ rest hk
   have q6_:=nz hcl 6 1 hD
   have q7_:=nz hcl 7 0 q6_
   have q8_:=nz hcl 8 0 q7_
   have q9_:=nz hcl 9 0 q7_
   have q11_:=nz hcl 11 1 q8_
   have q12_:=nz hcl 12 0 q9_
   simp only [hD,q6_,q7_,q8_,q9_,q11_,q12_,cq,oT] at ht hs
   subst ht
   refine QaF rfl rfl (es:=(Qaa x95)) rfl rfl (fun _=>rfl) (n:=2) (fun _=>rfl) (Qam.len _) (cells_all (hs.cells 6 rfl)) (g_d rfl ?_)
   try dsimp only [Qah,Qai]
   refine hk _ _ ⟨b101,O,?_,hs.cast ?_⟩<;>simp only [oT,lq,cq,Nat.reduceBEq,q6_,q7_,q8_,q9_,q11_,q12_]
  ·
   rintro D t w hD hp hcl ⟨b101,O,ht,hs⟩ rest hk
   have q4_:=nz hcl 4 0 hD
   have q5_:=nz hcl 5 0 q4_
   have q6_:=nz hcl 6 2 q5_
   have q7_:=nz hcl 7 0 q6_
   have q8_:=nz hcl 8 0 q7_
   have q9_:=nz hcl 9 0 q7_
   have q11_:=nz hcl 11 1 q8_
   have q12_:=nz hcl 12 0 q9_
   simp only [hD,q4_,q5_,q6_,q7_,q8_,q9_,q11_,q12_,cq,oT] at ht hs
   subst ht
   refine Qab (v:=v42) rfl rfl rfl (g_d rfl ?_)
   try dsimp only [Qah,Qai]
   refine hk _ _ ⟨b101,O,?_,hs.cast ?_⟩<;>simp only [oT,lq,cq,Nat.reduceBEq,q4_,q5_,q6_,q7_,q8_,q9_,q11_,q12_]
  ·
   rintro D t w hD hp hcl ⟨b101,O,ht,hs⟩ rest hk
   have q4_:=nz hcl 4 1 hD
   have q5_:=nz hcl 5 0 q4_
   have q6_:=nz hcl 6 2 q5_
   have q7_:=nz hcl 7 0 q6_
   have q8_:=nz hcl 8 0 q7_
   have q9_:=nz hcl 9 0 q7_
   have q11_:=nz hcl 11 1 q8_
   have q12_:=nz hcl 12 0 q9_
   simp only [hD,q4_,q5_,q6_,q7_,q8_,q9_,q11_,q12_,cq,oT] at ht hs
   subst ht
   refine Qab (v:=int .i64 x96) rfl rfl rfl (g_d rfl ?_)
   try dsimp only [Qah,Qai]
   refine hk _ _ ⟨b101,O,?_,hs.cast ?_⟩<;>simp only [oT,lq,cq,Nat.reduceBEq,q4_,q5_,q6_,q7_,q8_,q9_,q11_,q12_]
  ·
   rintro D t w hD hp hcl ⟨b101,O,ht,hs⟩ rest hk
   obtain ⟨p2_,p3_,_⟩:=hp
   have q5_:=nz hcl 5 0 hD
   have q6_:=nz hcl 6 2 q5_
   have q7_:=nz hcl 7 0 q6_
   have q8_:=nz hcl 8 0 q7_
   have q9_:=nz hcl 9 0 q7_
   have q11_:=nz hcl 11 1 q8_
   have q12_:=nz hcl 12 0 q9_
   simp only [hD,p2_,p3_,q5_,q6_,q7_,q8_,q9_,q11_,q12_,cq,oT] at ht hs
   subst ht
   refine QbJ (κ:=(K.int .u16)) (m:=1) rfl (hs.row 4 rfl) rfl (fun _=>rfl) gd215.1 gd215.2 had216_ rfl rfl rfl rfl rfl (g_d rfl ?_)
   try dsimp only [Qah,Qai]
   refine hk _ _ ⟨b101,O,?_,hs.cast ?_⟩<;>simp only [oT,lq,cq,Nat.reduceBEq,p2_,p3_,q5_,q6_,q7_,q8_,q9_,q11_,q12_]
  ·
   rintro D t w hD hp hcl ⟨b101,O,ht,hs⟩ rest hk
   obtain ⟨p4_,_⟩:=hp
   obtain ⟨p2_,p3_,_⟩:=(hcl.get 4 (by decide)) p4_
   have q6_:=nz hcl 6 2 hD
   have q7_:=nz hcl 7 0 q6_
   have q8_:=nz hcl 8 0 q7_
   have q9_:=nz hcl 9 0 q7_
   have q11_:=nz hcl 11 1 q8_
   have q12_:=nz hcl 12 0 q9_
   simp only [hD,p2_,p3_,p4_,q6_,q7_,q8_,q9_,q11_,q12_,cq,oT] at ht hs
   subst ht
   refine Qaw rfl rfl (v:=int .u16 (rdL r41.1 x96 0)) rfl rfl (fun _=>rfl) (cellsAt_of (fkI .u16) 0 (hs.row 4 rfl) had216_ gd215.1 gd215.2) (g_d rfl ?_)
   try dsimp only [Qah,Qai]
   refine hk _ _ ⟨b101,O,?_,hs.cast ?_⟩<;>simp only [oT,lq,cq,Nat.reduceBEq,p2_,p3_,p4_,q6_,q7_,q8_,q9_,q11_,q12_]
  ·
   rintro D t w hD hp hcl ⟨b101,O,ht,hs⟩ rest hk
   obtain ⟨p0_,p1_,p5_,_⟩:=hp
   obtain ⟨p4_,_⟩:=(hcl.get 5 (by decide)) p5_
   obtain ⟨p2_,p3_,_⟩:=(hcl.get 4 (by decide)) p4_
   have q7_:=nz hcl 7 0 hD
   have q8_:=nz hcl 8 0 q7_
   have q9_:=nz hcl 9 0 q7_
   have q11_:=nz hcl 11 1 q8_
   have q12_:=nz hcl 12 0 q9_
   simp only [hD,p0_,p1_,p2_,p3_,p4_,p5_,q7_,q8_,q9_,q11_,q12_,cq,oT] at ht hs
   subst ht
   refine Qaz (args:=[agg (([int .i8 r6.Qad,int .i8 r6.Qag,v7]:List Value)).toArray,agg (Qaa x95).toArray,int .u16 (rdL r41.1 x96 0)]) rfl rfl (QaA rfl (callFunc_enter Tryz.func22 rfl rfl) rfl) (Qb0.calls (a1:=(⟨r6.Qad,r6.Qag,r6.Qal⟩:Qaf)) (a4:=x95) (a5:=rdL r41.1 x96 0) (hs.row 2 rfl) Hr100) ?_
   rintro _ w ⟨rfl,hs2⟩
   have hs:St _ [_,_,_,_,_,_,_] _:=hs.call hs2
   refine g_d rfl ?_
   try dsimp only [Qah,Qai]
   refine hk _ _ ⟨b101,O,?_,hs.cast ?_⟩<;>simp only [oT,lq,cq,Nat.reduceBEq,p0_,p1_,p2_,p3_,p4_,p5_,q7_,q8_,q9_,q11_,q12_]
  ·
   rintro D t w hD hp hcl ⟨b101,O,ht,hs⟩ rest hk
   obtain ⟨p6_,_⟩:=hp
   obtain ⟨p0_,p1_,p5_,_⟩:=(hcl.get 6 (by decide)) p6_
   obtain ⟨p4_,_⟩:=(hcl.get 5 (by decide)) p5_
   obtain ⟨p2_,p3_,_⟩:=(hcl.get 4 (by decide)) p4_
   have q8_:=nz hcl 8 0 hD
   have q9_:=nz hcl 9 0 hD
   have q11_:=nz hcl 11 1 q8_
   have q12_:=nz hcl 12 0 q9_
   simp only [hD,p0_,p1_,p2_,p3_,p4_,p5_,p6_,q8_,q9_,q11_,q12_,cq,oT] at ht hs
   subst ht
   refine Qab (v:=tuple #[agg (Qaa r100.1).toArray,int .i64 r100.2]) rfl rfl rfl (g_d rfl ?_)
   try dsimp only [Qah,Qai]
   refine hk _ _ ⟨b101,O,?_,hs.cast ?_⟩<;>simp only [oT,lq,cq,Nat.reduceBEq,p0_,p1_,p2_,p3_,p4_,p5_,p6_,q8_,q9_,q11_,q12_]
  ·
   rintro D t w hD hp hcl ⟨b101,O,ht,hs⟩ rest hk
   obtain ⟨p7_,_⟩:=hp
   obtain ⟨p6_,_⟩:=(hcl.get 7 (by decide)) p7_
   obtain ⟨p0_,p1_,p5_,_⟩:=(hcl.get 6 (by decide)) p6_
   obtain ⟨p4_,_⟩:=(hcl.get 5 (by decide)) p5_
   obtain ⟨p2_,p3_,_⟩:=(hcl.get 4 (by decide)) p4_
   have q11_:=nz hcl 11 1 hD
   have q12_:=nz hcl 12 1 q11_
   simp only [hD,p0_,p1_,p2_,p3_,p4_,p5_,p6_,p7_,q11_,q12_,cq,oT] at ht hs
   subst ht
   refine Qab (v:=agg (Qaa r100.1).toArray) rfl rfl rfl (g_d rfl ?_)
   try dsimp only [Qah,Qai]
   refine hk _ _ ⟨b101,O,?_,hs.cast ?_⟩<;>simp only [oT,lq,cq,Nat.reduceBEq,p0_,p1_,p2_,p3_,p4_,p5_,p6_,p7_,q11_,q12_]
  ·
   rintro D t w hD hp hcl ⟨b101,O,ht,hs⟩ rest hk
   obtain ⟨p7_,_⟩:=hp
   obtain ⟨p6_,_⟩:=(hcl.get 7 (by decide)) p7_
   obtain ⟨p0_,p1_,p5_,_⟩:=(hcl.get 6 (by decide)) p6_
   obtain ⟨p4_,_⟩:=(hcl.get 5 (by decide)) p5_
   obtain ⟨p2_,p3_,_⟩:=(hcl.get 4 (by decide)) p4_
   have q12_:=nz hcl 12 0 hD
   simp only [hD,p0_,p1_,p2_,p3_,p4_,p5_,p6_,p7_,q12_,cq,oT] at ht hs
   subst ht
   refine Qab (v:=int .i64 r100.2) rfl rfl rfl (g_d rfl ?_)
   try dsimp only [Qah,Qai]
   refine hk _ _ ⟨b101,O,?_,hs.cast ?_⟩<;>simp only [oT,lq,cq,Nat.reduceBEq,p0_,p1_,p2_,p3_,p4_,p5_,p6_,p7_,q12_]
  ·
   rintro D t w hD hp hcl ⟨b101,O,ht,hs⟩ rest hk
   have q11_:=nz hcl 11 0 hD
   have q12_:=nz hcl 12 1 q11_
   simp only [hD,q11_,q12_,cq,oT] at ht hs
   subst ht
   refine QbI hs rfl rfl (z:=(agg #[int .u16 0,bool false])) (cs:=(Qaa Qa9)) rfl (fun _=>rfl) rfl ?_
   intro b101 w hs
   refine g_d rfl ?_
   try dsimp only [Qah,Qai]
   have hs:=hs.fill 0 rfl
   refine hk _ _ ⟨b101,O,?_,hs.cast ?_⟩<;>simp only [oT,lq,cq,Nat.reduceBEq,q11_,q12_]
  ·
   rintro D t w hD hp hcl ⟨b101,O,ht,hs⟩ rest hk
   obtain ⟨p10_,p8_,p6_,p0_,p1_,p2_,p3_,p4_,p5_,_,p7_,_,_,_⟩:=hp
   have q12_:=nz hcl 12 1 hD
   simp only [hD,p0_,p1_,p2_,p3_,p4_,p5_,p6_,p7_,p8_,p10_,q12_,cq,oT] at ht hs
   subst ht
   refine QaY (n:=2) hs (Qam.len _) rfl rfl (vs:=(Qaa r100.1)) rfl rfl rfl (fun _=>rfl) (Qam.len _) (Qam.one _) ?_
   intro w hs
   refine g_n rfl ?_
   try dsimp only [Qah,Qai]
   have hs:=hs.push 0 (by simp)
   refine hk _ _ ⟨b101,O,?_,hs.cast ?_⟩<;>simp only [oT,lq,cq,Nat.reduceBEq,p0_,p1_,p2_,p3_,p4_,p5_,p6_,p7_,p8_,p10_,q12_]
  ·
   rintro D t w hD hp hcl ⟨b101,O,ht,hs⟩ rest hk
   obtain ⟨p9_,p11_,p0_,p1_,p2_,p3_,p4_,p5_,p6_,p7_,p8_,_,p10_,_,_⟩:=hp
   simp only [hD,p0_,p1_,p2_,p3_,p4_,p5_,p6_,p7_,p8_,p9_,p10_,p11_,cq,oT] at ht hs
   subst ht
   refine Qab (v:=int .i64 r100.2) rfl rfl rfl (g_d rfl ?_)
   try dsimp only [Qah,Qai]
   refine hk _ _ ⟨b101,O,?_,hs.cast ?_⟩<;>simp only [oT,lq,cq,Nat.reduceBEq,p0_,p1_,p2_,p3_,p4_,p5_,p6_,p7_,p8_,p9_,p10_,p11_]
  intro D t w hall hI
  obtain ⟨b101,O,ht,hs⟩:=hI
  have p0_:=hall 0 (by decide)
  have p1_:=hall 1 (by decide)
  have p2_:=hall 2 (by decide)
  have p3_:=hall 3 (by decide)
  have p4_:=hall 4 (by decide)
  have p5_:=hall 5 (by decide)
  have p6_:=hall 6 (by decide)
  have p7_:=hall 7 (by decide)
  have p8_:=hall 8 (by decide)
  have p9_:=hall 9 (by decide)
  have p10_:=hall 10 (by decide)
  have p11_:=hall 11 (by decide)
  have p12_:=hall 12 (by decide)
  simp only [p0_,p1_,p2_,p3_,p4_,p5_,p6_,p7_,p8_,p9_,p10_,p11_,p12_,cq,oT] at ht hs
  subst ht
  refine Qaj ?_
  obtain ⟨gd217,H⟩:=ite_get H
  obtain ⟨ad218_,ad218_N,ad218_C,had218_⟩:=sl_at (hs.row 4 rfl) gd217.1 gd217.2
  obtain ⟨r104,Hr104,H⟩:=bind_get H
  refine QaV ?_
  intro T hT
  refine QbZ (n:=13) rfl [0,1,2,3,4,5,6,7,8,9,10,11,12] [0,1,2,3,4,5,6,7,8,11,9,10,12] rfl rfl (Inv:=fun D t w=>∃ b105:Nat,∃ O:Nat→Value,t=(O 0::O 1::O 2::O 3::O 4::pointer (some ⟨b9,0,none⟩)::O 6::O 7::O 8::O 9::O 10::O 11::O 12::O 13::O 14::O 15::v42::O 17::O 18::O 19::O 20::O 21::pointer (some ⟨b62,0,none⟩)::O 23::int .u16 (u16w ((shlI .u16 1 (u64w r6.Qad)) - 1))::pointer (some ⟨b66,0,none⟩)::int .i64 x96::v98::int .i64 r97.2::pointer (some ⟨b101,0,none⟩)::int .i64 r100.2::cnd (D 10) (pointer (some ⟨b105,0,none⟩)) (O 31)::cnd (D 12) (int .i64 r104.2) (O 32)::O 33::O 34::O 35::O 36::O 37::O 38::O 39::oT O 4 (oT O 5 (oT O 6 (oT O 7 (oT O 8 (oT O 9 (oT O 10 (oT O 11 (oT O 12 (oT O 13 (oT O 14 (oT O 15 (oT O 16 (oT O 17 (oT O 18 (O 190::O 191::O 192::int .i64 x96::v42::int .i64 (r41.1.length:Int)::bool true::O 197::O 198::tuple #[v98,int .i64 r97.2]::agg (([int .i8 r6.Qad,int .i8 r6.Qag,v7]:List Value)).toArray::agg (Qaa x95).toArray::tuple #[v98,int .i64 r97.2]::v98::int .i64 r97.2::tuple #[agg (Qaa r100.1).toArray,int .i64 r100.2]::agg (([int .i8 r6.Qad,int .i8 r6.Qag,v7]:List Value)).toArray::agg (Qaa x95).toArray::v42::int .i64 x96::pointer (some (ad216_.add (x96.toNat*1)))::int .u16 (rdL r41.1 x96 0)::tuple #[agg (Qaa r100.1).toArray,int .i64 r100.2]::agg (Qaa r100.1).toArray::int .i64 r100.2::cnd (D 7) (tuple #[agg (Qaa r104.1).toArray,int .i64 r104.2]) (O 215)::cnd (D 0) (agg (([int .i8 r6.Qad,int .i8 r6.Qag,v7]:List Value)).toArray) (O 216)::cnd (D 1) (agg (Qaa x95).toArray) (O 217)::cnd (D 2) v42 (O 218)::cnd (D 3) (int .i64 x96) (O 219)::cnd (D 4) (pointer (some (ad218_.add (x96.toNat*1)))) (O 220)::cnd (D 5) (int .u16 (rdL r41.1 x96 0)) (O 221)::cnd (D 6) (tuple #[agg (Qaa r104.1).toArray,int .i64 r104.2]) (O 222)::cnd (D 8) (agg (Qaa r104.1).toArray) (O 223)::cnd (D 9) (int .i64 r104.2) (O 224)::O 225::O 226::O 227::O 228::O 229::oT O 23 (oT O 24 (oT O 25 (oT O 26 (oT O 27 (oT O 28 (oT O 29 (O 300::O 301::O 302::O 303::O 304::O 305::O 306::[])))))))))))))))))))))))∧St w0 [Asc (D 10) (Cells b105 (cnd (D 11) (Qaa r104.1) (Qaa Qa9)) 48),Cells b101 (Qaa r100.1) 48,Row 46 (K.int .u16) v98 r97.1,Row 46 (K.int .u16) v7 r6.Qal,Cells b9 (([int .i8 r6.Qad,int .i8 r6.Qag,v7]:List Value)) 27,Row 46 (K.int .u16) v42 r41.1,Cells b62 (Qaa r61.1) 48,Cells b66 (Qaa x95) 48] w) ?_ ⟨⟨⟨⟨⟨⟨⟨⟨⟨⟨⟨⟨⟨trivial,?_⟩,?_⟩,?_⟩,?_⟩,?_⟩,?_⟩,?_⟩,?_⟩,?_⟩,?_⟩,?_⟩,?_⟩,?_⟩ ?_
  ·
   intro w hh hbw
   have hs:=hs.samew hh hbw
   have hs:=hs.emp
   exact ⟨0,fun i=>T.getD i undef,(by subst hT;rfl),hs⟩
  ·
   rintro D t w hD hp hcl ⟨b105,O,ht,hs⟩ rest hk
   have q6_:=nz hcl 6 0 hD
   have q7_:=nz hcl 7 0 q6_
   have q8_:=nz hcl 8 0 q7_
   have q9_:=nz hcl 9 0 q7_
   have q11_:=nz hcl 11 1 q8_
   have q12_:=nz hcl 12 0 q9_
   simp only [hD,q6_,q7_,q8_,q9_,q11_,q12_,cq,oT] at ht hs
   subst ht
   refine QaF rfl rfl (es:=(([int .i8 r6.Qad,int .i8 r6.Qag,v7]:List Value))) rfl rfl (fun _=>rfl) (n:=3) (fun _=>rfl) rfl (cells_all (hs.cells 4 rfl)) (g_d rfl ?_)
   try dsimp only [Qah,Qai]
   refine hk _ _ ⟨b105,O,?_,hs.cast ?_⟩<;>simp only [oT,lq,cq,Nat.reduceBEq,q6_,q7_,q8_,q9_,q11_,q12_]
  ·
   rintro D t w hD hp hcl ⟨b105,O,ht,hs⟩ rest hk
   have q6_:=nz hcl 6 1 hD
   have q7_:=nz hcl 7 0 q6_
   have q8_:=nz hcl 8 0 q7_
   have q9_:=nz hcl 9 0 q7_
   have q11_:=nz hcl 11 1 q8_
   have q12_:=nz hcl 12 0 q9_
   simp only [hD,q6_,q7_,q8_,q9_,q11_,q12_,cq,oT] at ht hs
   subst ht
   refine QaF rfl rfl (es:=(Qaa x95)) rfl rfl (fun _=>rfl) (n:=2) (fun _=>rfl) (Qam.len _) (cells_all (hs.cells 7 rfl)) (g_d rfl ?_)
   try dsimp only [Qah,Qai]
   refine hk _ _ ⟨b105,O,?_,hs.cast ?_⟩<;>simp only [oT,lq,cq,Nat.reduceBEq,q6_,q7_,q8_,q9_,q11_,q12_]
  ·
   rintro D t w hD hp hcl ⟨b105,O,ht,hs⟩ rest hk
   have q4_:=nz hcl 4 0 hD
   have q5_:=nz hcl 5 0 q4_
   have q6_:=nz hcl 6 2 q5_
   have q7_:=nz hcl 7 0 q6_
   have q8_:=nz hcl 8 0 q7_
   have q9_:=nz hcl 9 0 q7_
   have q11_:=nz hcl 11 1 q8_
   have q12_:=nz hcl 12 0 q9_
   simp only [hD,q4_,q5_,q6_,q7_,q8_,q9_,q11_,q12_,cq,oT] at ht hs
   subst ht
   refine Qab (v:=v42) rfl rfl rfl (g_d rfl ?_)
   try dsimp only [Qah,Qai]
   refine hk _ _ ⟨b105,O,?_,hs.cast ?_⟩<;>simp only [oT,lq,cq,Nat.reduceBEq,q4_,q5_,q6_,q7_,q8_,q9_,q11_,q12_]
  ·
   rintro D t w hD hp hcl ⟨b105,O,ht,hs⟩ rest hk
   have q4_:=nz hcl 4 1 hD
   have q5_:=nz hcl 5 0 q4_
   have q6_:=nz hcl 6 2 q5_
   have q7_:=nz hcl 7 0 q6_
   have q8_:=nz hcl 8 0 q7_
   have q9_:=nz hcl 9 0 q7_
   have q11_:=nz hcl 11 1 q8_
   have q12_:=nz hcl 12 0 q9_
   simp only [hD,q4_,q5_,q6_,q7_,q8_,q9_,q11_,q12_,cq,oT] at ht hs
   subst ht
   refine Qab (v:=int .i64 x96) rfl rfl rfl (g_d rfl ?_)
   try dsimp only [Qah,Qai]
   refine hk _ _ ⟨b105,O,?_,hs.cast ?_⟩<;>simp only [oT,lq,cq,Nat.reduceBEq,q4_,q5_,q6_,q7_,q8_,q9_,q11_,q12_]
  ·
   rintro D t w hD hp hcl ⟨b105,O,ht,hs⟩ rest hk
   obtain ⟨p2_,p3_,_⟩:=hp
   have q5_:=nz hcl 5 0 hD
   have q6_:=nz hcl 6 2 q5_
   have q7_:=nz hcl 7 0 q6_
   have q8_:=nz hcl 8 0 q7_
   have q9_:=nz hcl 9 0 q7_
   have q11_:=nz hcl 11 1 q8_
   have q12_:=nz hcl 12 0 q9_
   simp only [hD,p2_,p3_,q5_,q6_,q7_,q8_,q9_,q11_,q12_,cq,oT] at ht hs
   subst ht
   refine QbJ (κ:=(K.int .u16)) (m:=1) rfl (hs.row 5 rfl) rfl (fun _=>rfl) gd217.1 gd217.2 had218_ rfl rfl rfl rfl rfl (g_d rfl ?_)
   try dsimp only [Qah,Qai]
   refine hk _ _ ⟨b105,O,?_,hs.cast ?_⟩<;>simp only [oT,lq,cq,Nat.reduceBEq,p2_,p3_,q5_,q6_,q7_,q8_,q9_,q11_,q12_]
  ·
   rintro D t w hD hp hcl ⟨b105,O,ht,hs⟩ rest hk
   obtain ⟨p4_,_⟩:=hp
   obtain ⟨p2_,p3_,_⟩:=(hcl.get 4 (by decide)) p4_
   have q6_:=nz hcl 6 2 hD
   have q7_:=nz hcl 7 0 q6_
   have q8_:=nz hcl 8 0 q7_
   have q9_:=nz hcl 9 0 q7_
   have q11_:=nz hcl 11 1 q8_
   have q12_:=nz hcl 12 0 q9_
   simp only [hD,p2_,p3_,p4_,q6_,q7_,q8_,q9_,q11_,q12_,cq,oT] at ht hs
   subst ht
   refine Qaw rfl rfl (v:=int .u16 (rdL r41.1 x96 0)) rfl rfl (fun _=>rfl) (cellsAt_of (fkI .u16) 0 (hs.row 5 rfl) had218_ gd217.1 gd217.2) (g_d rfl ?_)
   try dsimp only [Qah,Qai]
   refine hk _ _ ⟨b105,O,?_,hs.cast ?_⟩<;>simp only [oT,lq,cq,Nat.reduceBEq,p2_,p3_,p4_,q6_,q7_,q8_,q9_,q11_,q12_]
  ·
   rintro D t w hD hp hcl ⟨b105,O,ht,hs⟩ rest hk
   obtain ⟨p0_,p1_,p5_,_⟩:=hp
   obtain ⟨p4_,_⟩:=(hcl.get 5 (by decide)) p5_
   obtain ⟨p2_,p3_,_⟩:=(hcl.get 4 (by decide)) p4_
   have q7_:=nz hcl 7 0 hD
   have q8_:=nz hcl 8 0 q7_
   have q9_:=nz hcl 9 0 q7_
   have q11_:=nz hcl 11 1 q8_
   have q12_:=nz hcl 12 0 q9_
   simp only [hD,p0_,p1_,p2_,p3_,p4_,p5_,q7_,q8_,q9_,q11_,q12_,cq,oT] at ht hs
   subst ht
   refine Qaz (args:=[agg (([int .i8 r6.Qad,int .i8 r6.Qag,v7]:List Value)).toArray,agg (Qaa x95).toArray,int .u16 (rdL r41.1 x96 0)]) rfl rfl (QaA rfl (callFunc_enter Tryz.func23 rfl rfl) rfl) (Qb3.calls (a1:=(⟨r6.Qad,r6.Qag,r6.Qal⟩:Qaf)) (a4:=x95) (a5:=rdL r41.1 x96 0) (hs.row 3 rfl) Hr104) ?_
   rintro _ w ⟨rfl,hs2⟩
   have hs:St _ [_,_,_,_,_,_,_,_] _:=hs.call hs2
   refine g_d rfl ?_
   try dsimp only [Qah,Qai]
   refine hk _ _ ⟨b105,O,?_,hs.cast ?_⟩<;>simp only [oT,lq,cq,Nat.reduceBEq,p0_,p1_,p2_,p3_,p4_,p5_,q7_,q8_,q9_,q11_,q12_]
  ·
   rintro D t w hD hp hcl ⟨b105,O,ht,hs⟩ rest hk
   obtain ⟨p6_,_⟩:=hp
   obtain ⟨p0_,p1_,p5_,_⟩:=(hcl.get 6 (by decide)) p6_
   obtain ⟨p4_,_⟩:=(hcl.get 5 (by decide)) p5_
   obtain ⟨p2_,p3_,_⟩:=(hcl.get 4 (by decide)) p4_
   have q8_:=nz hcl 8 0 hD
   have q9_:=nz hcl 9 0 hD
   have q11_:=nz hcl 11 1 q8_
   have q12_:=nz hcl 12 0 q9_
   simp only [hD,p0_,p1_,p2_,p3_,p4_,p5_,p6_,q8_,q9_,q11_,q12_,cq,oT] at ht hs
   subst ht
   refine Qab (v:=tuple #[agg (Qaa r104.1).toArray,int .i64 r104.2]) rfl rfl rfl (g_d rfl ?_)
   try dsimp only [Qah,Qai]
   refine hk _ _ ⟨b105,O,?_,hs.cast ?_⟩<;>simp only [oT,lq,cq,Nat.reduceBEq,p0_,p1_,p2_,p3_,p4_,p5_,p6_,q8_,q9_,q11_,q12_]
  ·
   rintro D t w hD hp hcl ⟨b105,O,ht,hs⟩ rest hk
   obtain ⟨p7_,_⟩:=hp
   obtain ⟨p6_,_⟩:=(hcl.get 7 (by decide)) p7_
   obtain ⟨p0_,p1_,p5_,_⟩:=(hcl.get 6 (by decide)) p6_
   obtain ⟨p4_,_⟩:=(hcl.get 5 (by decide)) p5_
   obtain ⟨p2_,p3_,_⟩:=(hcl.get 4 (by decide)) p4_
   have q11_:=nz hcl 11 1 hD
   have q12_:=nz hcl 12 1 q11_
   simp only [hD,p0_,p1_,p2_,p3_,p4_,p5_,p6_,p7_,q11_,q12_,cq,oT] at ht hs
   subst ht
   refine Qab (v:=agg (Qaa r104.1).toArray) rfl rfl rfl (g_d rfl ?_)
   try dsimp only [Qah,Qai]
   refine hk _ _ ⟨b105,O,?_,hs.cast ?_⟩<;>simp only [oT,lq,cq,Nat.reduceBEq,p0_,p1_,p2_,p3_,p4_,p5_,p6_,p7_,q11_,q12_]
  ·
   rintro D t w hD hp hcl ⟨b105,O,ht,hs⟩ rest hk
   obtain ⟨p7_,_⟩:=hp
   obtain ⟨p6_,_⟩:=(hcl.get 7 (by decide)) p7_
   obtain ⟨p0_,p1_,p5_,_⟩:=(hcl.get 6 (by decide)) p6_
   obtain ⟨p4_,_⟩:=(hcl.get 5 (by decide)) p5_
   obtain ⟨p2_,p3_,_⟩:=(hcl.get 4 (by decide)) p4_
   have q12_:=nz hcl 12 0 hD
   simp only [hD,p0_,p1_,p2_,p3_,p4_,p5_,p6_,p7_,q12_,cq,oT] at ht hs
   subst ht
   refine Qab (v:=int .i64 r104.2) rfl rfl rfl (g_d rfl ?_)
   try dsimp only [Qah,Qai]
   refine hk _ _ ⟨b105,O,?_,hs.cast ?_⟩<;>simp only [oT,lq,cq,Nat.reduceBEq,p0_,p1_,p2_,p3_,p4_,p5_,p6_,p7_,q12_]
  ·
   rintro D t w hD hp hcl ⟨b105,O,ht,hs⟩ rest hk
   have q11_:=nz hcl 11 0 hD
   have q12_:=nz hcl 12 1 q11_
   simp only [hD,q11_,q12_,cq,oT] at ht hs
   subst ht
   refine QbI hs rfl rfl (z:=(agg #[int .u16 0,bool false])) (cs:=(Qaa Qa9)) rfl (fun _=>rfl) rfl ?_
   intro b105 w hs
   refine g_d rfl ?_
   try dsimp only [Qah,Qai]
   have hs:=hs.fill 0 rfl
   refine hk _ _ ⟨b105,O,?_,hs.cast ?_⟩<;>simp only [oT,lq,cq,Nat.reduceBEq,q11_,q12_]
  ·
   rintro D t w hD hp hcl ⟨b105,O,ht,hs⟩ rest hk
   obtain ⟨p10_,p8_,p6_,p0_,p1_,p2_,p3_,p4_,p5_,_,p7_,_,_,_⟩:=hp
   have q12_:=nz hcl 12 1 hD
   simp only [hD,p0_,p1_,p2_,p3_,p4_,p5_,p6_,p7_,p8_,p10_,q12_,cq,oT] at ht hs
   subst ht
   refine QaY (n:=2) hs (Qam.len _) rfl rfl (vs:=(Qaa r104.1)) rfl rfl rfl (fun _=>rfl) (Qam.len _) (Qam.one _) ?_
   intro w hs
   refine g_n rfl ?_
   try dsimp only [Qah,Qai]
   have hs:=hs.push 0 (by simp)
   refine hk _ _ ⟨b105,O,?_,hs.cast ?_⟩<;>simp only [oT,lq,cq,Nat.reduceBEq,p0_,p1_,p2_,p3_,p4_,p5_,p6_,p7_,p8_,p10_,q12_]
  ·
   rintro D t w hD hp hcl ⟨b105,O,ht,hs⟩ rest hk
   obtain ⟨p9_,p11_,p0_,p1_,p2_,p3_,p4_,p5_,p6_,p7_,p8_,_,p10_,_,_⟩:=hp
   simp only [hD,p0_,p1_,p2_,p3_,p4_,p5_,p6_,p7_,p8_,p9_,p10_,p11_,cq,oT] at ht hs
   subst ht
   refine Qab (v:=int .i64 r104.2) rfl rfl rfl (g_d rfl ?_)
   try dsimp only [Qah,Qai]
   refine hk _ _ ⟨b105,O,?_,hs.cast ?_⟩<;>simp only [oT,lq,cq,Nat.reduceBEq,p0_,p1_,p2_,p3_,p4_,p5_,p6_,p7_,p8_,p9_,p10_,p11_]
  as_aux_lemma =>
   intro D t w hall hI
   obtain ⟨b105,O,ht,hs⟩:=hI
   have p0_:=hall 0 (by decide)
   have p1_:=hall 1 (by decide)
   have p2_:=hall 2 (by decide)
   have p3_:=hall 3 (by decide)
   have p4_:=hall 4 (by decide)
   have p5_:=hall 5 (by decide)
   have p6_:=hall 6 (by decide)
   have p7_:=hall 7 (by decide)
   have p8_:=hall 8 (by decide)
   have p9_:=hall 9 (by decide)
   have p10_:=hall 10 (by decide)
   have p11_:=hall 11 (by decide)
   have p12_:=hall 12 (by decide)
   simp only [p0_,p1_,p2_,p3_,p4_,p5_,p6_,p7_,p8_,p9_,p10_,p11_,p12_,cq,oT] at ht hs
   subst ht
   refine Qaj (Qan [0] rfl ?_)
   refine Qab (v:=bool false) rfl rfl rfl (g_d rfl ?_)
   try dsimp only [Qah,Qai]
   refine Qac (Qaj (Qaj (Qan [0] rfl ?_)))
   refine Qab (v:=int .i64 0) rfl rfl rfl (g_d rfl (Qac ?_))
   obtain ⟨o2_,Ho,Hr2_⟩:=bind_get H
   refine QaR (J:=fun t w=>∃ x116:Bool,Qar.a7 N r104 r6 r97 r100 x96 r41 x116=some x428_∧Fr t (fun O=>(O 0::O 1::O 2::O 3::O 4::pointer (some ⟨b9,0,none⟩)::O 6::O 7::O 8::O 9::O 10::O 11::O 12::O 13::O 14::O 15::v42::O 17::O 18::O 19::O 20::O 21::pointer (some ⟨b62,0,none⟩)::O 23::int .u16 (u16w ((shlI .u16 1 (u64w r6.Qad)) - 1))::pointer (some ⟨b66,0,none⟩)::int .i64 x96::O 27::int .i64 r97.2::pointer (some ⟨b101,0,none⟩)::int .i64 r100.2::pointer (some ⟨b105,0,none⟩)::int .i64 r104.2::bool x116::O 34::O 35::O 36::O 37::O 38::O 39::oT O 4 (oT O 5 (oT O 6 (oT O 7 (oT O 8 (oT O 9 (oT O 10 (oT O 11 (oT O 12 (oT O 13 (oT O 14 (oT O 15 (oT O 16 (oT O 17 (oT O 18 (oT O 19 (oT O 20 (oT O 21 (oT O 22 (oT O 23 (oT O 24 (oT O 25 (oT O 26 (oT O 27 (oT O 28 (oT O 29 (O 300::O 301::O 302::O 303::O 304::O 305::O 306::[])))))))))))))))))))))))))):List Value))∧St w0 [Cells b9 (([int .i8 r6.Qad,int .i8 r6.Qag,v7]:List Value)) 27,Row 46 (K.int .u16) v7 r6.Qal,Row 46 (K.int .u16) v42 r41.1,Cells b62 (Qaa r61.1) 48,Cells b66 (Qaa x95) 48,Cells b101 (Qaa r100.1) 48,Cells b105 (Qaa r104.1) 48] w) ?_ ?_
   ·
    rintro t w ⟨x116,H,hf,hs⟩
    obtain ⟨O,rfl⟩:=hf.open
    try dsimp only [oT]
    unfold Qar.a7 at H
    refine Qaj (Qan [0,1,2] rfl ?_)
    refine Qab (v:=pointer (some ⟨b105,0,none⟩)) rfl rfl rfl (g_d rfl ?_)
    refine Qaw rfl rfl (v:=int .u16 r104.1.Qat) rfl rfl (fun _=>rfl) (cells_load (hs.cells 6 rfl) 0 1 rfl) (g_d rfl ?_)
    refine Qab (v:=int .u16 r104.1.Qat) rfl rfl rfl (g_d rfl ?_)
    try dsimp only [Qah,Qai]
    refine Qac (Qaj (Qaj ?_))
    refine Qcz (J:=(fun t w=>∃ x119:Int,Qar.j9 N r6 r97 x116 r100 r104 x96 r41 x119=some x428_∧Fr t (fun O=>(O 0::O 1::O 2::O 3::O 4::pointer (some ⟨b9,0,none⟩)::O 6::O 7::O 8::O 9::O 10::O 11::O 12::O 13::O 14::O 15::v42::O 17::O 18::O 19::O 20::O 21::pointer (some ⟨b62,0,none⟩)::O 23::int .u16 (u16w ((shlI .u16 1 (u64w r6.Qad)) - 1))::pointer (some ⟨b66,0,none⟩)::int .i64 x96::O 27::int .i64 r97.2::pointer (some ⟨b101,0,none⟩)::int .i64 r100.2::pointer (some ⟨b105,0,none⟩)::int .i64 r104.2::bool x116::O 34::int .u16 x119::O 36::O 37::O 38::O 39::oT O 4 (oT O 5 (oT O 6 (oT O 7 (oT O 8 (oT O 9 (oT O 10 (oT O 11 (oT O 12 (oT O 13 (oT O 14 (oT O 15 (oT O 16 (oT O 17 (oT O 18 (oT O 19 (oT O 20 (oT O 21 (oT O 22 (oT O 23 (oT O 24 (oT O 25 (oT O 26 (oT O 27 (oT O 28 (oT O 29 (O 300::O 301::O 302::O 303::O 304::O 305::O 306::[])))))))))))))))))))))))))):List Value))∧St w0 [Cells b9 (([int .i8 r6.Qad,int .i8 r6.Qag,v7]:List Value)) 27,Row 46 (K.int .u16) v7 r6.Qal,Row 46 (K.int .u16) v42 r41.1,Cells b62 (Qaa r61.1) 48,Cells b66 (Qaa x95) 48,Cells b101 (Qaa r100.1) 48,Cells b105 (Qaa r104.1) 48] w)) ?_ ?_
    · as_aux_lemma =>
     rintro t w ⟨x119,H,hf,hs⟩
     obtain ⟨O,rfl⟩:=hf.open
     try dsimp only [oT]
     unfold Qar.j9 at H
     refine Qaj (Qan [0,1,2,3,4,5,6,7] rfl ?_)
     refine QaF rfl rfl (es:=(([int .i8 r6.Qad,int .i8 r6.Qag,v7]:List Value))) rfl rfl (fun _=>rfl) (n:=3) (fun _=>rfl) rfl (cells_all (hs.cells 0 rfl)) (g_d rfl ?_)
     try dsimp only [Qah,Qai]
     refine Qab (v:=int .u16 x119) rfl rfl rfl (g_d rfl ?_)
     obtain ⟨r120,Hr120,H⟩:=bind_get H
     refine Qaz (args:=[agg (([int .i8 r6.Qad,int .i8 r6.Qag,v7]:List Value)).toArray,int .u16 x119]) rfl rfl (QaA rfl (callFunc_enter Tryz.func24 rfl rfl) rfl) (Qca.calls (a1:=(⟨r6.Qad,r6.Qag,r6.Qal⟩:Qaf)) (a4:=x119) (hs.row 1 rfl) Hr120) ?_
     rintro _ w ⟨rfl,hs2⟩
     have hs:St _ [_,_,_,_,_,_,_] _:=hs.call hs2
     refine g_d rfl ?_
     refine Qab (v:=tuple #[bool r120.1,int .i64 r120.2]) rfl rfl rfl (g_d rfl ?_)
     refine Qab (v:=bool r120.1) rfl rfl rfl (g_d rfl ?_)
     refine Qab (v:=int .i64 r120.2) rfl rfl rfl (g_d rfl ?_)
     refine Qab (v:=bool r120.1) rfl rfl rfl (g_d rfl ?_)
     try dsimp only [Qah,Qai]
     refine Qab (v:=int .i64 r120.2) rfl rfl rfl (g_d rfl (Qac (Qaj (Qaj ?_))))
     by_cases hb235_:r97.2=0
     · as_aux_lemma =>
      rw [if_pos hb235_] at H
      refine Qck (n:=45) rfl [0,1,2,3,4,5,6,7,8,9,10,11,12,13,14,15,16,17,18,19,20,21,22,23,24,25,26,27,28,29,30,31,32,33,34,35,36,37,38,39,40,41,42,43,44] [0,1,2,3,4,5,6,7,8,9,10,11,12,13,14,15,16,17,18,19,20,21,22,23,24,25,26,27,28,29,30,31,32,33,34,35,36,37,38,39,40,41,42,43,44] rfl rfl ?_
      intro rest w hh hbw hO
      have hs:=hs.samew hh hbw
      try dsimp only [Qah,Qai]
      obtain ⟨rest,rfl,hO236_⟩:=ord_one (m:=0) hO rfl 0 (m':=1) (by decide+kernel) rfl
      clear hO
      refine Qab (v:=int .i64 r97.2) rfl rfl rfl (g_d rfl ?_)
      obtain ⟨rest,rfl,hO237_⟩:=ord_one (m:=1) hO236_ rfl 1 (m':=3) (by decide+kernel) rfl
      clear hO236_
      refine Qab (v:=bool false) rfl rfl (run_bool (b:=r97.2 !=0) rfl (by first|exact decide_eq_true hb235_|exact decide_eq_false hb235_|simp [hb235_])) (g_d rfl ?_)
      obtain ⟨rest,rfl,hO238_⟩:=ord_one (m:=3) hO237_ rfl 2 (m':=7) (by decide+kernel) rfl
      clear hO237_
      refine Qab (v:=bool false) rfl rfl rfl (g_d rfl ?_)
      obtain ⟨rest,rfl,hO239_⟩:=ord_one (m:=7) hO238_ rfl 3 (m':=15) (by decide+kernel) rfl
      clear hO238_
      refine Qab (v:=bool x116) rfl rfl rfl (g_d rfl ?_)
      obtain ⟨rest,rfl,hO240_⟩:=ord_one (m:=15) hO239_ rfl 4 (m':=31) (by decide+kernel) rfl
      clear hO239_
      refine Qab (v:=bool (!x116)) rfl rfl rfl (g_d rfl ?_)
      try dsimp only [Qah,Qai]
      obtain ⟨rest,rfl,hO241_⟩:=ord_one (m:=31) hO240_ rfl 5 (m':=63) (by decide+kernel) rfl
      clear hO240_
      refine QaI (B:=!x116) rfl rfl rfl ?_ ?_
      · as_aux_lemma =>
       intro hb
       rw [if_neg (b_not_t hb)] at H
       refine g_d rfl ?_
       try dsimp only [Qah,Qai]
       obtain ⟨rest,rfl,hO242_⟩:=ord_one (m:=63) hO241_ rfl 6 (m':=127) (by decide+kernel) rfl
       clear hO241_
       refine Qab (v:=bool true) rfl rfl rfl (g_d rfl ?_)
       refine QaV ?_
       intro T hT
       refine Qbb (m0:=127) hO242_ rfl 511 [7,8] [0,1,3,7,15,31,63,127,127,511,1023,2047,4095,8191,16383,32767,65535,65535,262143,524287,1048575,2097151,4194303,8388607,16777215,33554431,67108863,134217727,268435455,536870911,536870911,2147483647,4294967295,8589934591,17179869183,34359738367,34359738367,137438953471,274877906943,549755813887,34359738367,1133871366143,3332894621695,8796093022207,17592186044415] (by decide+kernel) (fun D t w=>∃ O:Nat→Value,t=(O 0::O 1::O 2::O 3::O 4::pointer (some ⟨b9,0,none⟩)::O 6::O 7::O 8::O 9::O 10::O 11::O 12::O 13::O 14::O 15::v42::O 17::O 18::O 19::O 20::O 21::pointer (some ⟨b62,0,none⟩)::O 23::int .u16 (u16w ((shlI .u16 1 (u64w r6.Qad)) - 1))::pointer (some ⟨b66,0,none⟩)::int .i64 x96::O 27::int .i64 r97.2::pointer (some ⟨b101,0,none⟩)::int .i64 r100.2::pointer (some ⟨b105,0,none⟩)::int .i64 r104.2::bool x116::O 34::int .u16 x119::bool r120.1::int .i64 r120.2::O 38::O 39::oT O 4 (oT O 5 (oT O 6 (oT O 7 (oT O 8 (oT O 9 (oT O 10 (oT O 11 (oT O 12 (oT O 13 (oT O 14 (oT O 15 (oT O 16 (oT O 17 (oT O 18 (oT O 19 (oT O 20 (oT O 21 (oT O 22 (oT O 23 (oT O 24 (O 250::O 251::tuple #[bool r120.1,int .i64 r120.2]::agg (([int .i8 r6.Qad,int .i8 r6.Qag,v7]:List Value)).toArray::int .u16 x119::tuple #[bool r120.1,int .i64 r120.2]::bool r120.1::int .i64 r120.2::int .i64 r97.2::bool false::bool false::bool x116::bool (!x116)::bool true::bool true::cnd (D 7) undef (O 265)::cnd (D 8) undef (O 266)::O 267::O 268::O 269::oT O 27 (oT O 28 (oT O 29 (O 300::O 301::O 302::O 303::O 304::O 305::O 306::[])))))))))))))))))))))))))∧St w0 [Cells b9 (([int .i8 r6.Qad,int .i8 r6.Qag,v7]:List Value)) 27,Row 46 (K.int .u16) v7 r6.Qal,Row 46 (K.int .u16) v42 r41.1,Cells b62 (Qaa r61.1) 48,Cells b66 (Qaa x95) 48,Cells b101 (Qaa r100.1) 48,Cells b105 (Qaa r104.1) 48] w) ?_ ⟨?_,⟨?_,trivial⟩⟩ ?_
       ·exact ⟨fun i=>T.getD i undef,(by subst hT;rfl),hs⟩
       ·
        rintro D t w hD hp hcl ⟨O,ht,hs⟩ rest hk
        have hp:AllDone D [6]:=hp
        obtain ⟨p6_,_⟩:=hp
        simp only [hD,cq,oT] at ht hs
        subst ht
        refine Qae rfl rfl (g_d rfl ?_)
        try dsimp only [Qah,Qai]
        refine hk _ _ ⟨O,?_,hs.cast ?_⟩<;>simp only [oT,cq,Nat.reduceBEq]
       ·
        rintro D t w hD hp hcl ⟨O,ht,hs⟩ rest hk
        have hp:AllDone D [6]:=hp
        obtain ⟨p6_,_⟩:=hp
        simp only [hD,cq,oT] at ht hs
        subst ht
        refine Qae rfl rfl (g_d rfl ?_)
        try dsimp only [Qah,Qai]
        refine hk _ _ ⟨O,?_,hs.cast ?_⟩<;>simp only [oT,cq,Nat.reduceBEq]
       intro D t w rest hall hO243_ hI
       obtain ⟨O,ht,hs⟩:=hI
       have p7_:=hall 7 (by decide) rfl
       have p8_:=hall 8 (by decide) rfl
       simp only [p7_,p8_,cq,oT] at ht hs
       subst ht
       obtain ⟨rest,rfl,hO244_⟩:=ord_one (m:=511) hO243_ rfl 9 (m':=1023) (by decide+kernel) rfl
       clear hO243_
       refine Qae rfl rfl (g_d rfl ?_)
       obtain ⟨rest,rfl,hO245_⟩:=ord_one (m:=1023) hO244_ rfl 10 (m':=2047) (by decide+kernel) rfl
       clear hO244_
       refine Qab (v:=bool true) rfl rfl rfl (g_d rfl ?_)
       try dsimp only [Qah,Qai]
       obtain ⟨rest,rfl,hO246_⟩:=ord_one (m:=2047) hO245_ rfl 11 (m':=4095) (by decide+kernel) rfl
       clear hO245_
       refine Qab (v:=bool true) rfl rfl rfl (g_d rfl ?_)
       obtain ⟨rest,rfl,hO247_⟩:=ord_one (m:=4095) hO246_ rfl 12 (m':=8191) (by decide+kernel) rfl
       clear hO246_
       refine Qae rfl rfl (g_d rfl ?_)
       obtain ⟨rest,rfl,hO248_⟩:=ord_one (m:=8191) hO247_ rfl 13 (m':=16383) (by decide+kernel) rfl
       clear hO247_
       refine Qae rfl rfl (g_d rfl ?_)
       obtain ⟨rest,rfl,hO249_⟩:=ord_one (m:=16383) hO248_ rfl 14 (m':=32767) (by decide+kernel) rfl
       clear hO248_
       refine Qab (v:=bool true) rfl rfl rfl (g_d rfl ?_)
       try dsimp only [Qah,Qai]
       obtain ⟨rest,rfl,hO250_⟩:=ord_one (m:=32767) hO249_ rfl 15 (m':=65535) (by decide+kernel) rfl
       clear hO249_
       refine Qab (v:=bool true) rfl rfl rfl (g_d rfl ?_)
       refine QaV ?_
       intro T hT
       refine Qbb (m0:=65535) hO250_ rfl 262143 [16,17] [0,1,3,7,15,31,63,127,127,511,1023,2047,4095,8191,16383,32767,65535,65535,262143,524287,1048575,2097151,4194303,8388607,16777215,33554431,67108863,134217727,268435455,536870911,536870911,2147483647,4294967295,8589934591,17179869183,34359738367,34359738367,137438953471,274877906943,549755813887,34359738367,1133871366143,3332894621695,8796093022207,17592186044415] (by decide+kernel) (fun D t w=>∃ O:Nat→Value,t=(O 0::O 1::O 2::O 3::O 4::pointer (some ⟨b9,0,none⟩)::O 6::O 7::O 8::O 9::O 10::O 11::O 12::O 13::O 14::O 15::v42::O 17::O 18::O 19::O 20::O 21::pointer (some ⟨b62,0,none⟩)::O 23::int .u16 (u16w ((shlI .u16 1 (u64w r6.Qad)) - 1))::pointer (some ⟨b66,0,none⟩)::int .i64 x96::O 27::int .i64 r97.2::pointer (some ⟨b101,0,none⟩)::int .i64 r100.2::pointer (some ⟨b105,0,none⟩)::int .i64 r104.2::bool x116::O 34::int .u16 x119::bool r120.1::int .i64 r120.2::O 38::O 39::oT O 4 (oT O 5 (oT O 6 (oT O 7 (oT O 8 (oT O 9 (oT O 10 (oT O 11 (oT O 12 (oT O 13 (oT O 14 (oT O 15 (oT O 16 (oT O 17 (oT O 18 (oT O 19 (oT O 20 (oT O 21 (oT O 22 (oT O 23 (oT O 24 (O 250::O 251::tuple #[bool r120.1,int .i64 r120.2]::agg (([int .i8 r6.Qad,int .i8 r6.Qag,v7]:List Value)).toArray::int .u16 x119::tuple #[bool r120.1,int .i64 r120.2]::bool r120.1::int .i64 r120.2::int .i64 r97.2::bool false::bool false::bool x116::bool (!x116)::bool true::bool true::O 265::O 266::O 267::bool true::bool true::O 270::O 271::bool true::bool true::cnd (D 16) undef (O 274)::cnd (D 17) undef (O 275)::O 276::O 277::O 278::O 279::oT O 28 (oT O 29 (O 300::O 301::O 302::O 303::O 304::O 305::O 306::[]))))))))))))))))))))))))∧St w0 [Cells b9 (([int .i8 r6.Qad,int .i8 r6.Qag,v7]:List Value)) 27,Row 46 (K.int .u16) v7 r6.Qal,Row 46 (K.int .u16) v42 r41.1,Cells b62 (Qaa r61.1) 48,Cells b66 (Qaa x95) 48,Cells b101 (Qaa r100.1) 48,Cells b105 (Qaa r104.1) 48] w) ?_ ⟨?_,⟨?_,trivial⟩⟩ ?_
       ·exact ⟨fun i=>T.getD i undef,(by subst hT;rfl),hs⟩
       ·
        rintro D t w hD hp hcl ⟨O,ht,hs⟩ rest hk
        have hp:AllDone D [15]:=hp
        obtain ⟨p15_,_⟩:=hp
        simp only [hD,cq,oT] at ht hs
        subst ht
        refine Qae rfl rfl (g_d rfl ?_)
        try dsimp only [Qah,Qai]
        refine hk _ _ ⟨O,?_,hs.cast ?_⟩<;>simp only [oT,cq,Nat.reduceBEq]
       ·
        rintro D t w hD hp hcl ⟨O,ht,hs⟩ rest hk
        have hp:AllDone D [15]:=hp
        obtain ⟨p15_,_⟩:=hp
        simp only [hD,cq,oT] at ht hs
        subst ht
        refine Qae rfl rfl (g_d rfl ?_)
        try dsimp only [Qah,Qai]
        refine hk _ _ ⟨O,?_,hs.cast ?_⟩<;>simp only [oT,cq,Nat.reduceBEq]
       intro D t w rest hall hO251_ hI
       obtain ⟨O,ht,hs⟩:=hI
       have p16_:=hall 16 (by decide) rfl
       have p17_:=hall 17 (by decide) rfl
       simp only [p16_,p17_,cq,oT] at ht hs
       subst ht
       obtain ⟨rest,rfl,hO252_⟩:=ord_one (m:=262143) hO251_ rfl 18 (m':=524287) (by decide+kernel) rfl
       clear hO251_
       refine Qae rfl rfl (g_d rfl ?_)
       obtain ⟨rest,rfl,hO253_⟩:=ord_one (m:=524287) hO252_ rfl 19 (m':=1048575) (by decide+kernel) rfl
       clear hO252_
       refine Qab (v:=bool true) rfl rfl rfl (g_d rfl ?_)
       try dsimp only [Qah,Qai]
       obtain ⟨rest,rfl,hO254_⟩:=ord_one (m:=1048575) hO253_ rfl 20 (m':=2097151) (by decide+kernel) rfl
       clear hO253_
       refine Qab (v:=bool true) rfl rfl rfl (g_d rfl ?_)
       obtain ⟨rest,rfl,hO255_⟩:=ord_one (m:=2097151) hO254_ rfl 21 (m':=4194303) (by decide+kernel) rfl
       clear hO254_
       refine Qae rfl rfl (g_d rfl ?_)
       obtain ⟨rest,rfl,hO256_⟩:=ord_one (m:=4194303) hO255_ rfl 22 (m':=8388607) (by decide+kernel) rfl
       clear hO255_
       refine Qae rfl rfl (g_d rfl ?_)
       obtain ⟨rest,rfl,hO257_⟩:=ord_one (m:=8388607) hO256_ rfl 23 (m':=16777215) (by decide+kernel) rfl
       clear hO256_
       refine Qab (v:=bool true) rfl rfl rfl (g_d rfl ?_)
       try dsimp only [Qah,Qai]
       obtain ⟨rest,rfl,hO258_⟩:=ord_one (m:=16777215) hO257_ rfl 24 (m':=33554431) (by decide+kernel) rfl
       clear hO257_
       refine Qab (v:=bool true) rfl rfl rfl (g_d rfl ?_)
       obtain ⟨rest,rfl,hO259_⟩:=ord_one (m:=33554431) hO258_ rfl 25 (m':=67108863) (by decide+kernel) rfl
       clear hO258_
       refine Qae rfl rfl (g_d rfl ?_)
       obtain ⟨rest,rfl,hO260_⟩:=ord_one (m:=67108863) hO259_ rfl 26 (m':=134217727) (by decide+kernel) rfl
       clear hO259_
       refine Qae rfl rfl (g_d rfl ?_)
       obtain ⟨rest,rfl,hO261_⟩:=ord_one (m:=134217727) hO260_ rfl 27 (m':=268435455) (by decide+kernel) rfl
       clear hO260_
       refine Qab (v:=bool true) rfl rfl rfl (g_d rfl ?_)
       try dsimp only [Qah,Qai]
       obtain ⟨rest,rfl,hO262_⟩:=ord_one (m:=268435455) hO261_ rfl 28 (m':=536870911) (by decide+kernel) rfl
       clear hO261_
       refine Qab (v:=bool true) rfl rfl rfl (g_d rfl ?_)
       refine QaV ?_
       intro T hT
       refine Qbb (m0:=536870911) hO262_ rfl 2147483647 [29,30] [0,1,3,7,15,31,63,127,127,511,1023,2047,4095,8191,16383,32767,65535,65535,262143,524287,1048575,2097151,4194303,8388607,16777215,33554431,67108863,134217727,268435455,536870911,536870911,2147483647,4294967295,8589934591,17179869183,34359738367,34359738367,137438953471,274877906943,549755813887,34359738367,1133871366143,3332894621695,8796093022207,17592186044415] (by decide+kernel) (fun D t w=>∃ O:Nat→Value,t=(O 0::O 1::O 2::O 3::O 4::pointer (some ⟨b9,0,none⟩)::O 6::O 7::O 8::O 9::O 10::O 11::O 12::O 13::O 14::O 15::v42::O 17::O 18::O 19::O 20::O 21::pointer (some ⟨b62,0,none⟩)::O 23::int .u16 (u16w ((shlI .u16 1 (u64w r6.Qad)) - 1))::pointer (some ⟨b66,0,none⟩)::int .i64 x96::O 27::int .i64 r97.2::pointer (some ⟨b101,0,none⟩)::int .i64 r100.2::pointer (some ⟨b105,0,none⟩)::int .i64 r104.2::bool x116::O 34::int .u16 x119::bool r120.1::int .i64 r120.2::O 38::O 39::oT O 4 (oT O 5 (oT O 6 (oT O 7 (oT O 8 (oT O 9 (oT O 10 (oT O 11 (oT O 12 (oT O 13 (oT O 14 (oT O 15 (oT O 16 (oT O 17 (oT O 18 (oT O 19 (oT O 20 (oT O 21 (oT O 22 (oT O 23 (oT O 24 (O 250::O 251::tuple #[bool r120.1,int .i64 r120.2]::agg (([int .i8 r6.Qad,int .i8 r6.Qag,v7]:List Value)).toArray::int .u16 x119::tuple #[bool r120.1,int .i64 r120.2]::bool r120.1::int .i64 r120.2::int .i64 r97.2::bool false::bool false::bool x116::bool (!x116)::bool true::bool true::O 265::O 266::O 267::bool true::bool true::O 270::O 271::bool true::bool true::O 274::O 275::O 276::bool true::bool true::O 279::O 280::bool true::bool true::O 283::O 284::bool true::bool true::cnd (D 29) undef (O 287)::cnd (D 30) undef (O 288)::O 289::oT O 29 (O 300::O 301::O 302::O 303::O 304::O 305::O 306::[])))))))))))))))))))))))∧St w0 [Cells b9 (([int .i8 r6.Qad,int .i8 r6.Qag,v7]:List Value)) 27,Row 46 (K.int .u16) v7 r6.Qal,Row 46 (K.int .u16) v42 r41.1,Cells b62 (Qaa r61.1) 48,Cells b66 (Qaa x95) 48,Cells b101 (Qaa r100.1) 48,Cells b105 (Qaa r104.1) 48] w) ?_ ⟨?_,⟨?_,trivial⟩⟩ ?_
       ·exact ⟨fun i=>T.getD i undef,(by subst hT;rfl),hs⟩
       ·
        rintro D t w hD hp hcl ⟨O,ht,hs⟩ rest hk
        have hp:AllDone D [28]:=hp
        obtain ⟨p28_,_⟩:=hp
        simp only [hD,cq,oT] at ht hs
        subst ht
        refine Qae rfl rfl (g_d rfl ?_)
        try dsimp only [Qah,Qai]
        refine hk _ _ ⟨O,?_,hs.cast ?_⟩<;>simp only [oT,cq,Nat.reduceBEq]
       ·
        rintro D t w hD hp hcl ⟨O,ht,hs⟩ rest hk
        have hp:AllDone D [28]:=hp
        obtain ⟨p28_,_⟩:=hp
        simp only [hD,cq,oT] at ht hs
        subst ht
        refine Qae rfl rfl (g_d rfl ?_)
        try dsimp only [Qah,Qai]
        refine hk _ _ ⟨O,?_,hs.cast ?_⟩<;>simp only [oT,cq,Nat.reduceBEq]
       intro D t w rest hall hO263_ hI
       obtain ⟨O,ht,hs⟩:=hI
       have p29_:=hall 29 (by decide) rfl
       have p30_:=hall 30 (by decide) rfl
       simp only [p29_,p30_,cq,oT] at ht hs
       subst ht
       obtain ⟨rest,rfl,hO264_⟩:=ord_one (m:=2147483647) hO263_ rfl 31 (m':=4294967295) (by decide+kernel) rfl
       clear hO263_
       refine Qae rfl rfl (g_d rfl ?_)
       obtain ⟨rest,rfl,hO265_⟩:=ord_one (m:=4294967295) hO264_ rfl 32 (m':=8589934591) (by decide+kernel) rfl
       clear hO264_
       refine Qae rfl rfl (g_d rfl ?_)
       try dsimp only [Qah,Qai]
       obtain ⟨rest,rfl,hO266_⟩:=ord_one (m:=8589934591) hO265_ rfl 33 (m':=17179869183) (by decide+kernel) rfl
       clear hO265_
       refine Qab (v:=bool true) rfl rfl rfl (g_d rfl ?_)
       obtain ⟨rest,rfl,hO267_⟩:=ord_one (m:=17179869183) hO266_ rfl 34 (m':=34359738367) (by decide+kernel) rfl
       clear hO266_
       refine Qab (v:=bool true) rfl rfl rfl (g_d rfl ?_)
       refine QaV ?_
       intro T hT
       refine Qbb (m0:=34359738367) hO267_ rfl 8796093022207 [35,36,37,38,39,40,41,42] [0,1,3,7,15,31,63,127,127,511,1023,2047,4095,8191,16383,32767,65535,65535,262143,524287,1048575,2097151,4194303,8388607,16777215,33554431,67108863,134217727,268435455,536870911,536870911,2147483647,4294967295,8589934591,17179869183,34359738367,34359738367,137438953471,274877906943,549755813887,34359738367,1133871366143,3332894621695,8796093022207,17592186044415] (by decide+kernel) (fun D t w=>∃ O:Nat→Value,t=(O 0::O 1::O 2::O 3::O 4::pointer (some ⟨b9,0,none⟩)::O 6::O 7::O 8::O 9::O 10::O 11::O 12::O 13::O 14::O 15::v42::O 17::O 18::O 19::O 20::O 21::pointer (some ⟨b62,0,none⟩)::O 23::int .u16 (u16w ((shlI .u16 1 (u64w r6.Qad)) - 1))::pointer (some ⟨b66,0,none⟩)::int .i64 x96::O 27::int .i64 r97.2::pointer (some ⟨b101,0,none⟩)::int .i64 r100.2::pointer (some ⟨b105,0,none⟩)::int .i64 r104.2::bool x116::O 34::int .u16 x119::bool r120.1::int .i64 r120.2::O 38::O 39::oT O 4 (oT O 5 (oT O 6 (oT O 7 (oT O 8 (oT O 9 (oT O 10 (oT O 11 (oT O 12 (oT O 13 (oT O 14 (oT O 15 (oT O 16 (oT O 17 (oT O 18 (oT O 19 (oT O 20 (oT O 21 (oT O 22 (oT O 23 (oT O 24 (O 250::O 251::tuple #[bool r120.1,int .i64 r120.2]::agg (([int .i8 r6.Qad,int .i8 r6.Qag,v7]:List Value)).toArray::int .u16 x119::tuple #[bool r120.1,int .i64 r120.2]::bool r120.1::int .i64 r120.2::int .i64 r97.2::bool false::bool false::bool x116::bool (!x116)::bool true::bool true::O 265::O 266::O 267::bool true::bool true::O 270::O 271::bool true::bool true::O 274::O 275::O 276::bool true::bool true::O 279::O 280::bool true::bool true::O 283::O 284::bool true::bool true::O 287::O 288::O 289::O 290::bool true::bool true::cnd (D 35) undef (O 293)::cnd (D 36) undef (O 294)::cnd (D 37) undef (O 295)::cnd (D 38) undef (O 296)::cnd (D 39) undef (O 297)::cnd (D 40) undef (O 298)::cnd (D 41) undef (O 299)::cnd (D 42) undef (O 300)::O 301::O 302::O 303::O 304::O 305::O 306::[]))))))))))))))))))))))∧St w0 [Cells b9 (([int .i8 r6.Qad,int .i8 r6.Qag,v7]:List Value)) 27,Row 46 (K.int .u16) v7 r6.Qal,Row 46 (K.int .u16) v42 r41.1,Cells b62 (Qaa r61.1) 48,Cells b66 (Qaa x95) 48,Cells b101 (Qaa r100.1) 48,Cells b105 (Qaa r104.1) 48] w) ?_ ⟨?_,⟨?_,⟨?_,⟨?_,⟨?_,⟨?_,⟨?_,⟨?_,trivial⟩⟩⟩⟩⟩⟩⟩⟩ ?_
       ·exact ⟨fun i=>T.getD i undef,(by subst hT;rfl),hs⟩
       ·
        rintro D t w hD hp hcl ⟨O,ht,hs⟩ rest hk
        have hp:AllDone D [34]:=hp
        obtain ⟨p34_,_⟩:=hp
        have q37_:=ny hcl 37 0 hD
        have q38_:=ny hcl 38 0 q37_
        have q39_:=ny hcl 39 0 q38_
        simp only [hD,q37_,q38_,q39_,cq,oT] at ht hs
        subst ht
        refine Qae rfl rfl (g_d rfl ?_)
        try dsimp only [Qah,Qai]
        refine hk _ _ ⟨O,?_,hs.cast ?_⟩<;>simp only [oT,cq,Nat.reduceBEq,q37_,q38_,q39_]
       ·
        rintro D t w hD hp hcl ⟨O,ht,hs⟩ rest hk
        have hp:AllDone D [34]:=hp
        obtain ⟨p34_,_⟩:=hp
        have q37_:=ny hcl 37 1 hD
        have q38_:=ny hcl 38 0 q37_
        have q39_:=ny hcl 39 0 q38_
        simp only [hD,q37_,q38_,q39_,cq,oT] at ht hs
        subst ht
        refine Qae rfl rfl (g_d rfl ?_)
        try dsimp only [Qah,Qai]
        refine hk _ _ ⟨O,?_,hs.cast ?_⟩<;>simp only [oT,cq,Nat.reduceBEq,q37_,q38_,q39_]
       ·
        rintro D t w hD hp hcl ⟨O,ht,hs⟩ rest hk
        have hp:AllDone D [35,36,34]:=hp
        obtain ⟨p35_,p36_,p34_,_⟩:=hp
        have q38_:=ny hcl 38 0 hD
        have q39_:=ny hcl 39 0 q38_
        simp only [hD,p35_,p36_,q38_,q39_,cq,oT] at ht hs
        subst ht
        refine Qae rfl rfl (g_d rfl ?_)
        try dsimp only [Qah,Qai]
        refine hk _ _ ⟨O,?_,hs.cast ?_⟩<;>simp only [oT,cq,Nat.reduceBEq,p35_,p36_,q38_,q39_]
       ·
        rintro D t w hD hp hcl ⟨O,ht,hs⟩ rest hk
        have hp:AllDone D [37,34]:=hp
        obtain ⟨p37_,p34_,_⟩:=hp
        obtain ⟨p35_,p36_,_,_⟩:=(show D 37=true→AllDone D [35,36,34] from hcl 37 (by decide)) p37_
        have q39_:=ny hcl 39 0 hD
        simp only [hD,p35_,p36_,p37_,q39_,cq,oT] at ht hs
        subst ht
        refine Qae rfl rfl (g_d rfl ?_)
        try dsimp only [Qah,Qai]
        refine hk _ _ ⟨O,?_,hs.cast ?_⟩<;>simp only [oT,cq,Nat.reduceBEq,p35_,p36_,p37_,q39_]
       ·
        rintro D t w hD hp hcl ⟨O,ht,hs⟩ rest hk
        have hp:AllDone D [38,34,34]:=hp
        obtain ⟨p38_,p34_,_,_⟩:=hp
        obtain ⟨p37_,_,_⟩:=(show D 38=true→AllDone D [37,34] from hcl 38 (by decide)) p38_
        obtain ⟨p35_,p36_,_,_⟩:=(show D 37=true→AllDone D [35,36,34] from hcl 37 (by decide)) p37_
        simp only [hD,p35_,p36_,p37_,p38_,cq,oT] at ht hs
        subst ht
        refine Qae rfl rfl (g_d rfl ?_)
        try dsimp only [Qah,Qai]
        refine hk _ _ ⟨O,?_,hs.cast ?_⟩<;>simp only [oT,cq,Nat.reduceBEq,p35_,p36_,p37_,p38_]
       ·
        rintro D t w hD hp hcl ⟨O,ht,hs⟩ rest hk
        have hp:AllDone D [34]:=hp
        obtain ⟨p34_,_⟩:=hp
        have q41_:=ny hcl 41 0 hD
        have q42_:=ny hcl 42 0 q41_
        simp only [hD,q41_,q42_,cq,oT] at ht hs
        subst ht
        refine Qae rfl rfl (g_d rfl ?_)
        try dsimp only [Qah,Qai]
        refine hk _ _ ⟨O,?_,hs.cast ?_⟩<;>simp only [oT,cq,Nat.reduceBEq,q41_,q42_]
       ·
        rintro D t w hD hp hcl ⟨O,ht,hs⟩ rest hk
        have hp:AllDone D [40,34]:=hp
        obtain ⟨p40_,p34_,_⟩:=hp
        have q42_:=ny hcl 42 0 hD
        simp only [hD,p40_,q42_,cq,oT] at ht hs
        subst ht
        refine Qae rfl rfl (g_d rfl ?_)
        try dsimp only [Qah,Qai]
        refine hk _ _ ⟨O,?_,hs.cast ?_⟩<;>simp only [oT,cq,Nat.reduceBEq,p40_,q42_]
       ·
        rintro D t w hD hp hcl ⟨O,ht,hs⟩ rest hk
        have hp:AllDone D [41,34]:=hp
        obtain ⟨p41_,p34_,_⟩:=hp
        obtain ⟨p40_,_,_⟩:=(show D 41=true→AllDone D [40,34] from hcl 41 (by decide)) p41_
        simp only [hD,p40_,p41_,cq,oT] at ht hs
        subst ht
        refine Qae rfl rfl (g_d rfl ?_)
        try dsimp only [Qah,Qai]
        refine hk _ _ ⟨O,?_,hs.cast ?_⟩<;>simp only [oT,cq,Nat.reduceBEq,p40_,p41_]
       intro D t w rest hall hO268_ hI
       obtain ⟨O,ht,hs⟩:=hI
       have p35_:=hall 35 (by decide) rfl
       have p36_:=hall 36 (by decide) rfl
       have p37_:=hall 37 (by decide) rfl
       have p38_:=hall 38 (by decide) rfl
       have p39_:=hall 39 (by decide) rfl
       have p40_:=hall 40 (by decide) rfl
       have p41_:=hall 41 (by decide) rfl
       have p42_:=hall 42 (by decide) rfl
       simp only [p35_,p36_,p37_,p38_,p39_,p40_,p41_,p42_,cq,oT] at ht hs
       subst ht
       obtain ⟨rest,rfl,hO269_⟩:=ord_one (m:=8796093022207) hO268_ rfl 43 (m':=17592186044415) (by decide+kernel) rfl
       clear hO268_
       refine Qae rfl rfl (g_d rfl ?_)
       try dsimp only [Qah,Qai]
       obtain ⟨rest,rfl,hO270_⟩:=ord_one (m:=17592186044415) hO269_ rfl 44 (m':=35184372088831) (by decide+kernel) rfl
       clear hO269_
       refine Qab (v:=bool true) rfl rfl rfl (g_d rfl ?_)
       obtain rfl:=ord_end hO270_ rfl (by decide+kernel)
       refine Qac (Qaq rfl (Qaj (Qan [0] rfl ?_)))
       refine Qab (v:=bool false) rfl rfl rfl (g_d rfl ?_)
       try dsimp only [Qah,Qai]
       refine Qac ?_
       obtain rfl:=QsJ H
       subst Hx1_
       have H:=QsJ Hr1_
       subst H
       refine QaB Tryz.func3 (v:=bool false) (res1 rfl rfl) ?_
       have hs:St _ [] _:=St.take (Γ':=[_,_,_,_,_,_,_]) hs
       exact ⟨_,rfl,rfl,hs⟩
      intro hb
      rw [if_pos (b_not_f hb)] at H
      refine g_d rfl ?_
      obtain ⟨rest,rfl,hO271_⟩:=ord_one (m:=63) hO241_ rfl 6 (m':=127) (by decide+kernel) rfl
      clear hO241_
      refine Qab (v:=bool false) rfl rfl rfl (g_d rfl ?_)
      refine QaV ?_
      intro T hT
      refine Qbb (m0:=127) hO271_ rfl 511 [7,8] [0,1,3,7,15,31,63,127,127,511,1023,2047,4095,8191,16383,32767,65535,65535,262143,524287,1048575,2097151,4194303,8388607,16777215,33554431,67108863,134217727,268435455,536870911,536870911,2147483647,4294967295,8589934591,17179869183,34359738367,34359738367,137438953471,274877906943,549755813887,34359738367,1133871366143,3332894621695,8796093022207,17592186044415] (by decide+kernel) (fun D t w=>∃ O:Nat→Value,t=(O 0::O 1::O 2::O 3::O 4::pointer (some ⟨b9,0,none⟩)::O 6::O 7::O 8::O 9::O 10::O 11::O 12::O 13::O 14::O 15::v42::O 17::O 18::O 19::O 20::O 21::pointer (some ⟨b62,0,none⟩)::O 23::int .u16 (u16w ((shlI .u16 1 (u64w r6.Qad)) - 1))::pointer (some ⟨b66,0,none⟩)::int .i64 x96::O 27::int .i64 r97.2::pointer (some ⟨b101,0,none⟩)::int .i64 r100.2::pointer (some ⟨b105,0,none⟩)::int .i64 r104.2::bool x116::O 34::int .u16 x119::bool r120.1::int .i64 r120.2::O 38::O 39::oT O 4 (oT O 5 (oT O 6 (oT O 7 (oT O 8 (oT O 9 (oT O 10 (oT O 11 (oT O 12 (oT O 13 (oT O 14 (oT O 15 (oT O 16 (oT O 17 (oT O 18 (oT O 19 (oT O 20 (oT O 21 (oT O 22 (oT O 23 (oT O 24 (O 250::O 251::tuple #[bool r120.1,int .i64 r120.2]::agg (([int .i8 r6.Qad,int .i8 r6.Qag,v7]:List Value)).toArray::int .u16 x119::tuple #[bool r120.1,int .i64 r120.2]::bool r120.1::int .i64 r120.2::int .i64 r97.2::bool false::bool false::bool x116::bool (!x116)::bool false::bool false::cnd (D 7) (int .i64 r100.2) (O 265)::cnd (D 8) (int .i64 r104.2) (O 266)::O 267::O 268::O 269::oT O 27 (oT O 28 (oT O 29 (O 300::O 301::O 302::O 303::O 304::O 305::O 306::[])))))))))))))))))))))))))∧St w0 [Cells b9 (([int .i8 r6.Qad,int .i8 r6.Qag,v7]:List Value)) 27,Row 46 (K.int .u16) v7 r6.Qal,Row 46 (K.int .u16) v42 r41.1,Cells b62 (Qaa r61.1) 48,Cells b66 (Qaa x95) 48,Cells b101 (Qaa r100.1) 48,Cells b105 (Qaa r104.1) 48] w) ?_ ⟨?_,⟨?_,trivial⟩⟩ ?_
      ·exact ⟨fun i=>T.getD i undef,(by subst hT;rfl),hs⟩
      ·
       rintro D t w hD hp hcl ⟨O,ht,hs⟩ rest hk
       have hp:AllDone D [6]:=hp
       obtain ⟨p6_,_⟩:=hp
       simp only [hD,cq,oT] at ht hs
       subst ht
       refine Qab (v:=int .i64 r100.2) rfl rfl rfl (g_d rfl ?_)
       try dsimp only [Qah,Qai]
       refine hk _ _ ⟨O,?_,hs.cast ?_⟩<;>simp only [oT,lq,cq,Nat.reduceBEq]
      ·
       rintro D t w hD hp hcl ⟨O,ht,hs⟩ rest hk
       have hp:AllDone D [6]:=hp
       obtain ⟨p6_,_⟩:=hp
       simp only [hD,cq,oT] at ht hs
       subst ht
       refine Qab (v:=int .i64 r104.2) rfl rfl rfl (g_d rfl ?_)
       try dsimp only [Qah,Qai]
       refine hk _ _ ⟨O,?_,hs.cast ?_⟩<;>simp only [oT,lq,cq,Nat.reduceBEq]
      intro D t w rest hall hO272_ hI
      obtain ⟨O,ht,hs⟩:=hI
      have p7_:=hall 7 (by decide) rfl
      have p8_:=hall 8 (by decide) rfl
      simp only [p7_,p8_,cq,oT] at ht hs
      subst ht
      obtain ⟨rest,rfl,hO273_⟩:=ord_one (m:=511) hO272_ rfl 9 (m':=1023) (by decide+kernel) rfl
      clear hO272_
      refine Qab (v:=bool (r100.2 !=r104.2)) rfl rfl rfl (g_d rfl ?_)
      try dsimp only [Qah,Qai]
      obtain ⟨rest,rfl,hO274_⟩:=ord_one (m:=1023) hO273_ rfl 10 (m':=2047) (by decide+kernel) rfl
      clear hO273_
      refine QaI (B:=r100.2 !=r104.2) rfl rfl rfl ?_ ?_
      · as_aux_lemma =>
       intro hb
       rw [if_neg (b_bne_t hb)] at H
       refine g_d rfl ?_
       obtain ⟨rest,rfl,hO275_⟩:=ord_one (m:=2047) hO274_ rfl 11 (m':=4095) (by decide+kernel) rfl
       clear hO274_
       refine Qab (v:=bool true) rfl rfl rfl (g_d rfl ?_)
       obtain ⟨rest,rfl,hO276_⟩:=ord_one (m:=4095) hO275_ rfl 12 (m':=8191) (by decide+kernel) rfl
       clear hO275_
       refine Qae rfl rfl (g_d rfl ?_)
       obtain ⟨rest,rfl,hO277_⟩:=ord_one (m:=8191) hO276_ rfl 13 (m':=16383) (by decide+kernel) rfl
       clear hO276_
       refine Qae rfl rfl (g_d rfl ?_)
       try dsimp only [Qah,Qai]
       obtain ⟨rest,rfl,hO278_⟩:=ord_one (m:=16383) hO277_ rfl 14 (m':=32767) (by decide+kernel) rfl
       clear hO277_
       refine Qab (v:=bool true) rfl rfl rfl (g_d rfl ?_)
       obtain ⟨rest,rfl,hO279_⟩:=ord_one (m:=32767) hO278_ rfl 15 (m':=65535) (by decide+kernel) rfl
       clear hO278_
       refine Qab (v:=bool true) rfl rfl rfl (g_d rfl ?_)
       refine QaV ?_
       intro T hT
       refine Qbb (m0:=65535) hO279_ rfl 262143 [16,17] [0,1,3,7,15,31,63,127,127,511,1023,2047,4095,8191,16383,32767,65535,65535,262143,524287,1048575,2097151,4194303,8388607,16777215,33554431,67108863,134217727,268435455,536870911,536870911,2147483647,4294967295,8589934591,17179869183,34359738367,34359738367,137438953471,274877906943,549755813887,34359738367,1133871366143,3332894621695,8796093022207,17592186044415] (by decide+kernel) (fun D t w=>∃ O:Nat→Value,t=(O 0::O 1::O 2::O 3::O 4::pointer (some ⟨b9,0,none⟩)::O 6::O 7::O 8::O 9::O 10::O 11::O 12::O 13::O 14::O 15::v42::O 17::O 18::O 19::O 20::O 21::pointer (some ⟨b62,0,none⟩)::O 23::int .u16 (u16w ((shlI .u16 1 (u64w r6.Qad)) - 1))::pointer (some ⟨b66,0,none⟩)::int .i64 x96::O 27::int .i64 r97.2::pointer (some ⟨b101,0,none⟩)::int .i64 r100.2::pointer (some ⟨b105,0,none⟩)::int .i64 r104.2::bool x116::O 34::int .u16 x119::bool r120.1::int .i64 r120.2::O 38::O 39::oT O 4 (oT O 5 (oT O 6 (oT O 7 (oT O 8 (oT O 9 (oT O 10 (oT O 11 (oT O 12 (oT O 13 (oT O 14 (oT O 15 (oT O 16 (oT O 17 (oT O 18 (oT O 19 (oT O 20 (oT O 21 (oT O 22 (oT O 23 (oT O 24 (O 250::O 251::tuple #[bool r120.1,int .i64 r120.2]::agg (([int .i8 r6.Qad,int .i8 r6.Qag,v7]:List Value)).toArray::int .u16 x119::tuple #[bool r120.1,int .i64 r120.2]::bool r120.1::int .i64 r120.2::int .i64 r97.2::bool false::bool false::bool x116::bool (!x116)::bool false::bool false::int .i64 r100.2::int .i64 r104.2::bool (r100.2 !=r104.2)::bool true::bool true::O 270::O 271::bool true::bool true::cnd (D 16) undef (O 274)::cnd (D 17) undef (O 275)::O 276::O 277::O 278::O 279::oT O 28 (oT O 29 (O 300::O 301::O 302::O 303::O 304::O 305::O 306::[]))))))))))))))))))))))))∧St w0 [Cells b9 (([int .i8 r6.Qad,int .i8 r6.Qag,v7]:List Value)) 27,Row 46 (K.int .u16) v7 r6.Qal,Row 46 (K.int .u16) v42 r41.1,Cells b62 (Qaa r61.1) 48,Cells b66 (Qaa x95) 48,Cells b101 (Qaa r100.1) 48,Cells b105 (Qaa r104.1) 48] w) ?_ ⟨?_,⟨?_,trivial⟩⟩ ?_
       ·exact ⟨fun i=>T.getD i undef,(by subst hT;rfl),hs⟩
       ·
        rintro D t w hD hp hcl ⟨O,ht,hs⟩ rest hk
        have hp:AllDone D [15]:=hp
        obtain ⟨p15_,_⟩:=hp
        simp only [hD,cq,oT] at ht hs
        subst ht
        refine Qae rfl rfl (g_d rfl ?_)
        try dsimp only [Qah,Qai]
        refine hk _ _ ⟨O,?_,hs.cast ?_⟩<;>simp only [oT,cq,Nat.reduceBEq]
       ·
        rintro D t w hD hp hcl ⟨O,ht,hs⟩ rest hk
        have hp:AllDone D [15]:=hp
        obtain ⟨p15_,_⟩:=hp
        simp only [hD,cq,oT] at ht hs
        subst ht
        refine Qae rfl rfl (g_d rfl ?_)
        try dsimp only [Qah,Qai]
        refine hk _ _ ⟨O,?_,hs.cast ?_⟩<;>simp only [oT,cq,Nat.reduceBEq]
       intro D t w rest hall hO280_ hI
       obtain ⟨O,ht,hs⟩:=hI
       have p16_:=hall 16 (by decide) rfl
       have p17_:=hall 17 (by decide) rfl
       simp only [p16_,p17_,cq,oT] at ht hs
       subst ht
       obtain ⟨rest,rfl,hO281_⟩:=ord_one (m:=262143) hO280_ rfl 18 (m':=524287) (by decide+kernel) rfl
       clear hO280_
       refine Qae rfl rfl (g_d rfl ?_)
       try dsimp only [Qah,Qai]
       obtain ⟨rest,rfl,hO282_⟩:=ord_one (m:=524287) hO281_ rfl 19 (m':=1048575) (by decide+kernel) rfl
       clear hO281_
       refine Qab (v:=bool true) rfl rfl rfl (g_d rfl ?_)
       obtain ⟨rest,rfl,hO283_⟩:=ord_one (m:=1048575) hO282_ rfl 20 (m':=2097151) (by decide+kernel) rfl
       clear hO282_
       refine Qab (v:=bool true) rfl rfl rfl (g_d rfl ?_)
       obtain ⟨rest,rfl,hO284_⟩:=ord_one (m:=2097151) hO283_ rfl 21 (m':=4194303) (by decide+kernel) rfl
       clear hO283_
       refine Qae rfl rfl (g_d rfl ?_)
       obtain ⟨rest,rfl,hO285_⟩:=ord_one (m:=4194303) hO284_ rfl 22 (m':=8388607) (by decide+kernel) rfl
       clear hO284_
       refine Qae rfl rfl (g_d rfl ?_)
       try dsimp only [Qah,Qai]
       obtain ⟨rest,rfl,hO286_⟩:=ord_one (m:=8388607) hO285_ rfl 23 (m':=16777215) (by decide+kernel) rfl
       clear hO285_
       refine Qab (v:=bool true) rfl rfl rfl (g_d rfl ?_)
       obtain ⟨rest,rfl,hO287_⟩:=ord_one (m:=16777215) hO286_ rfl 24 (m':=33554431) (by decide+kernel) rfl
       clear hO286_
       refine Qab (v:=bool true) rfl rfl rfl (g_d rfl ?_)
       obtain ⟨rest,rfl,hO288_⟩:=ord_one (m:=33554431) hO287_ rfl 25 (m':=67108863) (by decide+kernel) rfl
       clear hO287_
       refine Qae rfl rfl (g_d rfl ?_)
       obtain ⟨rest,rfl,hO289_⟩:=ord_one (m:=67108863) hO288_ rfl 26 (m':=134217727) (by decide+kernel) rfl
       clear hO288_
       refine Qae rfl rfl (g_d rfl ?_)
       try dsimp only [Qah,Qai]
       obtain ⟨rest,rfl,hO290_⟩:=ord_one (m:=134217727) hO289_ rfl 27 (m':=268435455) (by decide+kernel) rfl
       clear hO289_
       refine Qab (v:=bool true) rfl rfl rfl (g_d rfl ?_)
       obtain ⟨rest,rfl,hO291_⟩:=ord_one (m:=268435455) hO290_ rfl 28 (m':=536870911) (by decide+kernel) rfl
       clear hO290_
       refine Qab (v:=bool true) rfl rfl rfl (g_d rfl ?_)
       refine QaV ?_
       intro T hT
       refine Qbb (m0:=536870911) hO291_ rfl 2147483647 [29,30] [0,1,3,7,15,31,63,127,127,511,1023,2047,4095,8191,16383,32767,65535,65535,262143,524287,1048575,2097151,4194303,8388607,16777215,33554431,67108863,134217727,268435455,536870911,536870911,2147483647,4294967295,8589934591,17179869183,34359738367,34359738367,137438953471,274877906943,549755813887,34359738367,1133871366143,3332894621695,8796093022207,17592186044415] (by decide+kernel) (fun D t w=>∃ O:Nat→Value,t=(O 0::O 1::O 2::O 3::O 4::pointer (some ⟨b9,0,none⟩)::O 6::O 7::O 8::O 9::O 10::O 11::O 12::O 13::O 14::O 15::v42::O 17::O 18::O 19::O 20::O 21::pointer (some ⟨b62,0,none⟩)::O 23::int .u16 (u16w ((shlI .u16 1 (u64w r6.Qad)) - 1))::pointer (some ⟨b66,0,none⟩)::int .i64 x96::O 27::int .i64 r97.2::pointer (some ⟨b101,0,none⟩)::int .i64 r100.2::pointer (some ⟨b105,0,none⟩)::int .i64 r104.2::bool x116::O 34::int .u16 x119::bool r120.1::int .i64 r120.2::O 38::O 39::oT O 4 (oT O 5 (oT O 6 (oT O 7 (oT O 8 (oT O 9 (oT O 10 (oT O 11 (oT O 12 (oT O 13 (oT O 14 (oT O 15 (oT O 16 (oT O 17 (oT O 18 (oT O 19 (oT O 20 (oT O 21 (oT O 22 (oT O 23 (oT O 24 (O 250::O 251::tuple #[bool r120.1,int .i64 r120.2]::agg (([int .i8 r6.Qad,int .i8 r6.Qag,v7]:List Value)).toArray::int .u16 x119::tuple #[bool r120.1,int .i64 r120.2]::bool r120.1::int .i64 r120.2::int .i64 r97.2::bool false::bool false::bool x116::bool (!x116)::bool false::bool false::int .i64 r100.2::int .i64 r104.2::bool (r100.2 !=r104.2)::bool true::bool true::O 270::O 271::bool true::bool true::O 274::O 275::O 276::bool true::bool true::O 279::O 280::bool true::bool true::O 283::O 284::bool true::bool true::cnd (D 29) undef (O 287)::cnd (D 30) undef (O 288)::O 289::oT O 29 (O 300::O 301::O 302::O 303::O 304::O 305::O 306::[])))))))))))))))))))))))∧St w0 [Cells b9 (([int .i8 r6.Qad,int .i8 r6.Qag,v7]:List Value)) 27,Row 46 (K.int .u16) v7 r6.Qal,Row 46 (K.int .u16) v42 r41.1,Cells b62 (Qaa r61.1) 48,Cells b66 (Qaa x95) 48,Cells b101 (Qaa r100.1) 48,Cells b105 (Qaa r104.1) 48] w) ?_ ⟨?_,⟨?_,trivial⟩⟩ ?_
       ·exact ⟨fun i=>T.getD i undef,(by subst hT;rfl),hs⟩
       ·
        rintro D t w hD hp hcl ⟨O,ht,hs⟩ rest hk
        have hp:AllDone D [28]:=hp
        obtain ⟨p28_,_⟩:=hp
        simp only [hD,cq,oT] at ht hs
        subst ht
        refine Qae rfl rfl (g_d rfl ?_)
        try dsimp only [Qah,Qai]
        refine hk _ _ ⟨O,?_,hs.cast ?_⟩<;>simp only [oT,cq,Nat.reduceBEq]
       ·
        rintro D t w hD hp hcl ⟨O,ht,hs⟩ rest hk
        have hp:AllDone D [28]:=hp
        obtain ⟨p28_,_⟩:=hp
        simp only [hD,cq,oT] at ht hs
        subst ht
        refine Qae rfl rfl (g_d rfl ?_)
        try dsimp only [Qah,Qai]
        refine hk _ _ ⟨O,?_,hs.cast ?_⟩<;>simp only [oT,cq,Nat.reduceBEq]
       intro D t w rest hall hO292_ hI
       obtain ⟨O,ht,hs⟩:=hI
       have p29_:=hall 29 (by decide) rfl
       have p30_:=hall 30 (by decide) rfl
       simp only [p29_,p30_,cq,oT] at ht hs
       subst ht
       obtain ⟨rest,rfl,hO293_⟩:=ord_one (m:=2147483647) hO292_ rfl 31 (m':=4294967295) (by decide+kernel) rfl
       clear hO292_
       refine Qae rfl rfl (g_d rfl ?_)
       try dsimp only [Qah,Qai]
       obtain ⟨rest,rfl,hO294_⟩:=ord_one (m:=4294967295) hO293_ rfl 32 (m':=8589934591) (by decide+kernel) rfl
       clear hO293_
       refine Qae rfl rfl (g_d rfl ?_)
       obtain ⟨rest,rfl,hO295_⟩:=ord_one (m:=8589934591) hO294_ rfl 33 (m':=17179869183) (by decide+kernel) rfl
       clear hO294_
       refine Qab (v:=bool true) rfl rfl rfl (g_d rfl ?_)
       try dsimp only [Qah,Qai]
       obtain ⟨rest,rfl,hO296_⟩:=ord_one (m:=17179869183) hO295_ rfl 34 (m':=34359738367) (by decide+kernel) rfl
       clear hO295_
       refine Qab (v:=bool true) rfl rfl rfl (g_d rfl ?_)
       refine QaV ?_
       intro T hT
       refine Qbb (m0:=34359738367) hO296_ rfl 8796093022207 [35,36,37,38,39,40,41,42] [0,1,3,7,15,31,63,127,127,511,1023,2047,4095,8191,16383,32767,65535,65535,262143,524287,1048575,2097151,4194303,8388607,16777215,33554431,67108863,134217727,268435455,536870911,536870911,2147483647,4294967295,8589934591,17179869183,34359738367,34359738367,137438953471,274877906943,549755813887,34359738367,1133871366143,3332894621695,8796093022207,17592186044415] (by decide+kernel) (fun D t w=>∃ O:Nat→Value,t=(O 0::O 1::O 2::O 3::O 4::pointer (some ⟨b9,0,none⟩)::O 6::O 7::O 8::O 9::O 10::O 11::O 12::O 13::O 14::O 15::v42::O 17::O 18::O 19::O 20::O 21::pointer (some ⟨b62,0,none⟩)::O 23::int .u16 (u16w ((shlI .u16 1 (u64w r6.Qad)) - 1))::pointer (some ⟨b66,0,none⟩)::int .i64 x96::O 27::int .i64 r97.2::pointer (some ⟨b101,0,none⟩)::int .i64 r100.2::pointer (some ⟨b105,0,none⟩)::int .i64 r104.2::bool x116::O 34::int .u16 x119::bool r120.1::int .i64 r120.2::O 38::O 39::oT O 4 (oT O 5 (oT O 6 (oT O 7 (oT O 8 (oT O 9 (oT O 10 (oT O 11 (oT O 12 (oT O 13 (oT O 14 (oT O 15 (oT O 16 (oT O 17 (oT O 18 (oT O 19 (oT O 20 (oT O 21 (oT O 22 (oT O 23 (oT O 24 (O 250::O 251::tuple #[bool r120.1,int .i64 r120.2]::agg (([int .i8 r6.Qad,int .i8 r6.Qag,v7]:List Value)).toArray::int .u16 x119::tuple #[bool r120.1,int .i64 r120.2]::bool r120.1::int .i64 r120.2::int .i64 r97.2::bool false::bool false::bool x116::bool (!x116)::bool false::bool false::int .i64 r100.2::int .i64 r104.2::bool (r100.2 !=r104.2)::bool true::bool true::O 270::O 271::bool true::bool true::O 274::O 275::O 276::bool true::bool true::O 279::O 280::bool true::bool true::O 283::O 284::bool true::bool true::O 287::O 288::O 289::O 290::bool true::bool true::cnd (D 35) undef (O 293)::cnd (D 36) undef (O 294)::cnd (D 37) undef (O 295)::cnd (D 38) undef (O 296)::cnd (D 39) undef (O 297)::cnd (D 40) undef (O 298)::cnd (D 41) undef (O 299)::cnd (D 42) undef (O 300)::O 301::O 302::O 303::O 304::O 305::O 306::[]))))))))))))))))))))))∧St w0 [Cells b9 (([int .i8 r6.Qad,int .i8 r6.Qag,v7]:List Value)) 27,Row 46 (K.int .u16) v7 r6.Qal,Row 46 (K.int .u16) v42 r41.1,Cells b62 (Qaa r61.1) 48,Cells b66 (Qaa x95) 48,Cells b101 (Qaa r100.1) 48,Cells b105 (Qaa r104.1) 48] w) ?_ ⟨?_,⟨?_,⟨?_,⟨?_,⟨?_,⟨?_,⟨?_,⟨?_,trivial⟩⟩⟩⟩⟩⟩⟩⟩ ?_
       ·exact ⟨fun i=>T.getD i undef,(by subst hT;rfl),hs⟩
       ·
        rintro D t w hD hp hcl ⟨O,ht,hs⟩ rest hk
        have hp:AllDone D [34]:=hp
        obtain ⟨p34_,_⟩:=hp
        have q37_:=ny hcl 37 0 hD
        have q38_:=ny hcl 38 0 q37_
        have q39_:=ny hcl 39 0 q38_
        simp only [hD,q37_,q38_,q39_,cq,oT] at ht hs
        subst ht
        refine Qae rfl rfl (g_d rfl ?_)
        try dsimp only [Qah,Qai]
        refine hk _ _ ⟨O,?_,hs.cast ?_⟩<;>simp only [oT,cq,Nat.reduceBEq,q37_,q38_,q39_]
       ·
        rintro D t w hD hp hcl ⟨O,ht,hs⟩ rest hk
        have hp:AllDone D [34]:=hp
        obtain ⟨p34_,_⟩:=hp
        have q37_:=ny hcl 37 1 hD
        have q38_:=ny hcl 38 0 q37_
        have q39_:=ny hcl 39 0 q38_
        simp only [hD,q37_,q38_,q39_,cq,oT] at ht hs
        subst ht
        refine Qae rfl rfl (g_d rfl ?_)
        try dsimp only [Qah,Qai]
        refine hk _ _ ⟨O,?_,hs.cast ?_⟩<;>simp only [oT,cq,Nat.reduceBEq,q37_,q38_,q39_]
       ·
        rintro D t w hD hp hcl ⟨O,ht,hs⟩ rest hk
        have hp:AllDone D [35,36,34]:=hp
        obtain ⟨p35_,p36_,p34_,_⟩:=hp
        have q38_:=ny hcl 38 0 hD
        have q39_:=ny hcl 39 0 q38_
        simp only [hD,p35_,p36_,q38_,q39_,cq,oT] at ht hs
        subst ht
        refine Qae rfl rfl (g_d rfl ?_)
        try dsimp only [Qah,Qai]
        refine hk _ _ ⟨O,?_,hs.cast ?_⟩<;>simp only [oT,cq,Nat.reduceBEq,p35_,p36_,q38_,q39_]
       ·
        rintro D t w hD hp hcl ⟨O,ht,hs⟩ rest hk
        have hp:AllDone D [37,34]:=hp
        obtain ⟨p37_,p34_,_⟩:=hp
        obtain ⟨p35_,p36_,_,_⟩:=(show D 37=true→AllDone D [35,36,34] from hcl 37 (by decide)) p37_
        have q39_:=ny hcl 39 0 hD
        simp only [hD,p35_,p36_,p37_,q39_,cq,oT] at ht hs
        subst ht
        refine Qae rfl rfl (g_d rfl ?_)
        try dsimp only [Qah,Qai]
        refine hk _ _ ⟨O,?_,hs.cast ?_⟩<;>simp only [oT,cq,Nat.reduceBEq,p35_,p36_,p37_,q39_]
       ·
        rintro D t w hD hp hcl ⟨O,ht,hs⟩ rest hk
        have hp:AllDone D [38,34,34]:=hp
        obtain ⟨p38_,p34_,_,_⟩:=hp
        obtain ⟨p37_,_,_⟩:=(show D 38=true→AllDone D [37,34] from hcl 38 (by decide)) p38_
        obtain ⟨p35_,p36_,_,_⟩:=(show D 37=true→AllDone D [35,36,34] from hcl 37 (by decide)) p37_
        simp only [hD,p35_,p36_,p37_,p38_,cq,oT] at ht hs
        subst ht
        refine Qae rfl rfl (g_d rfl ?_)
        try dsimp only [Qah,Qai]
        refine hk _ _ ⟨O,?_,hs.cast ?_⟩<;>simp only [oT,cq,Nat.reduceBEq,p35_,p36_,p37_,p38_]
       ·
        rintro D t w hD hp hcl ⟨O,ht,hs⟩ rest hk
        have hp:AllDone D [34]:=hp
        obtain ⟨p34_,_⟩:=hp
        have q41_:=ny hcl 41 0 hD
        have q42_:=ny hcl 42 0 q41_
        simp only [hD,q41_,q42_,cq,oT] at ht hs
        subst ht
        refine Qae rfl rfl (g_d rfl ?_)
        try dsimp only [Qah,Qai]
        refine hk _ _ ⟨O,?_,hs.cast ?_⟩<;>simp only [oT,cq,Nat.reduceBEq,q41_,q42_]
       ·
        rintro D t w hD hp hcl ⟨O,ht,hs⟩ rest hk
        have hp:AllDone D [40,34]:=hp
        obtain ⟨p40_,p34_,_⟩:=hp
        have q42_:=ny hcl 42 0 hD
        simp only [hD,p40_,q42_,cq,oT] at ht hs
        subst ht
        refine Qae rfl rfl (g_d rfl ?_)
        try dsimp only [Qah,Qai]
        refine hk _ _ ⟨O,?_,hs.cast ?_⟩<;>simp only [oT,cq,Nat.reduceBEq,p40_,q42_]
       ·
        rintro D t w hD hp hcl ⟨O,ht,hs⟩ rest hk
        have hp:AllDone D [41,34]:=hp
        obtain ⟨p41_,p34_,_⟩:=hp
        obtain ⟨p40_,_,_⟩:=(show D 41=true→AllDone D [40,34] from hcl 41 (by decide)) p41_
        simp only [hD,p40_,p41_,cq,oT] at ht hs
        subst ht
        refine Qae rfl rfl (g_d rfl ?_)
        try dsimp only [Qah,Qai]
        refine hk _ _ ⟨O,?_,hs.cast ?_⟩<;>simp only [oT,cq,Nat.reduceBEq,p40_,p41_]
       intro D t w rest hall hO297_ hI
       obtain ⟨O,ht,hs⟩:=hI
       have p35_:=hall 35 (by decide) rfl
       have p36_:=hall 36 (by decide) rfl
       have p37_:=hall 37 (by decide) rfl
       have p38_:=hall 38 (by decide) rfl
       have p39_:=hall 39 (by decide) rfl
       have p40_:=hall 40 (by decide) rfl
       have p41_:=hall 41 (by decide) rfl
       have p42_:=hall 42 (by decide) rfl
       simp only [p35_,p36_,p37_,p38_,p39_,p40_,p41_,p42_,cq,oT] at ht hs
       subst ht
       obtain ⟨rest,rfl,hO298_⟩:=ord_one (m:=8796093022207) hO297_ rfl 43 (m':=17592186044415) (by decide+kernel) rfl
       clear hO297_
       refine Qae rfl rfl (g_d rfl ?_)
       obtain ⟨rest,rfl,hO299_⟩:=ord_one (m:=17592186044415) hO298_ rfl 44 (m':=35184372088831) (by decide+kernel) rfl
       clear hO298_
       refine Qab (v:=bool true) rfl rfl rfl (g_d rfl ?_)
       try dsimp only [Qah,Qai]
       obtain rfl:=ord_end hO299_ rfl (by decide+kernel)
       refine Qac (Qaq rfl (Qaj (Qan [0] rfl ?_)))
       refine Qab (v:=bool false) rfl rfl rfl (g_d rfl (Qac ?_))
       obtain rfl:=QsJ H
       subst Hx1_
       have H:=QsJ Hr1_
       subst H
       refine QaB Tryz.func3 (v:=bool false) (res1 rfl rfl) ?_
       have hs:St _ [] _:=St.take (Γ':=[_,_,_,_,_,_,_]) hs
       exact ⟨_,rfl,rfl,hs⟩
      intro hb
      rw [if_pos (b_bne_f hb)] at H
      refine g_d rfl ?_
      obtain ⟨rest,rfl,hO300_⟩:=ord_one (m:=2047) hO274_ rfl 11 (m':=4095) (by decide+kernel) rfl
      clear hO274_
      refine Qab (v:=bool false) rfl rfl rfl (g_d rfl ?_)
      obtain ⟨rest,rfl,hO301_⟩:=ord_one (m:=4095) hO300_ rfl 12 (m':=8191) (by decide+kernel) rfl
      clear hO300_
      refine Qab (v:=int .i64 r100.2) rfl rfl rfl (g_d rfl ?_)
      obtain ⟨rest,rfl,hO302_⟩:=ord_one (m:=8191) hO301_ rfl 13 (m':=16383) (by decide+kernel) rfl
      clear hO301_
      refine Qab (v:=bool (r100.2 !=0)) rfl rfl rfl (g_d rfl ?_)
      try dsimp only [Qah,Qai]
      obtain ⟨rest,rfl,hO303_⟩:=ord_one (m:=16383) hO302_ rfl 14 (m':=32767) (by decide+kernel) rfl
      clear hO302_
      refine QaI (B:=r100.2 !=0) rfl rfl rfl ?_ ?_
      · as_aux_lemma =>
       intro hb
       rw [if_neg (b_bne_t hb)] at H
       refine g_d rfl ?_
       try dsimp only [Qah,Qai]
       obtain ⟨rest,rfl,hO304_⟩:=ord_one (m:=32767) hO303_ rfl 15 (m':=65535) (by decide+kernel) rfl
       clear hO303_
       refine Qab (v:=bool true) rfl rfl rfl (g_d rfl ?_)
       refine QaV ?_
       intro T hT
       refine Qbb (m0:=65535) hO304_ rfl 262143 [16,17] [0,1,3,7,15,31,63,127,127,511,1023,2047,4095,8191,16383,32767,65535,65535,262143,524287,1048575,2097151,4194303,8388607,16777215,33554431,67108863,134217727,268435455,536870911,536870911,2147483647,4294967295,8589934591,17179869183,34359738367,34359738367,137438953471,274877906943,549755813887,34359738367,1133871366143,3332894621695,8796093022207,17592186044415] (by decide+kernel) (fun D t w=>∃ O:Nat→Value,t=(O 0::O 1::O 2::O 3::O 4::pointer (some ⟨b9,0,none⟩)::O 6::O 7::O 8::O 9::O 10::O 11::O 12::O 13::O 14::O 15::v42::O 17::O 18::O 19::O 20::O 21::pointer (some ⟨b62,0,none⟩)::O 23::int .u16 (u16w ((shlI .u16 1 (u64w r6.Qad)) - 1))::pointer (some ⟨b66,0,none⟩)::int .i64 x96::O 27::int .i64 r97.2::pointer (some ⟨b101,0,none⟩)::int .i64 r100.2::pointer (some ⟨b105,0,none⟩)::int .i64 r104.2::bool x116::O 34::int .u16 x119::bool r120.1::int .i64 r120.2::O 38::O 39::oT O 4 (oT O 5 (oT O 6 (oT O 7 (oT O 8 (oT O 9 (oT O 10 (oT O 11 (oT O 12 (oT O 13 (oT O 14 (oT O 15 (oT O 16 (oT O 17 (oT O 18 (oT O 19 (oT O 20 (oT O 21 (oT O 22 (oT O 23 (oT O 24 (O 250::O 251::tuple #[bool r120.1,int .i64 r120.2]::agg (([int .i8 r6.Qad,int .i8 r6.Qag,v7]:List Value)).toArray::int .u16 x119::tuple #[bool r120.1,int .i64 r120.2]::bool r120.1::int .i64 r120.2::int .i64 r97.2::bool false::bool false::bool x116::bool (!x116)::bool false::bool false::int .i64 r100.2::int .i64 r104.2::bool (r100.2 !=r104.2)::bool false::bool false::int .i64 r100.2::bool (r100.2 !=0)::bool true::bool true::cnd (D 16) undef (O 274)::cnd (D 17) undef (O 275)::O 276::O 277::O 278::O 279::oT O 28 (oT O 29 (O 300::O 301::O 302::O 303::O 304::O 305::O 306::[]))))))))))))))))))))))))∧St w0 [Cells b9 (([int .i8 r6.Qad,int .i8 r6.Qag,v7]:List Value)) 27,Row 46 (K.int .u16) v7 r6.Qal,Row 46 (K.int .u16) v42 r41.1,Cells b62 (Qaa r61.1) 48,Cells b66 (Qaa x95) 48,Cells b101 (Qaa r100.1) 48,Cells b105 (Qaa r104.1) 48] w) ?_ ⟨?_,⟨?_,trivial⟩⟩ ?_
       ·exact ⟨fun i=>T.getD i undef,(by subst hT;rfl),hs⟩
       ·
        rintro D t w hD hp hcl ⟨O,ht,hs⟩ rest hk
        have hp:AllDone D [15]:=hp
        obtain ⟨p15_,_⟩:=hp
        simp only [hD,cq,oT] at ht hs
        subst ht
        refine Qae rfl rfl (g_d rfl ?_)
        try dsimp only [Qah,Qai]
        refine hk _ _ ⟨O,?_,hs.cast ?_⟩<;>simp only [oT,cq,Nat.reduceBEq]
       ·
        rintro D t w hD hp hcl ⟨O,ht,hs⟩ rest hk
        have hp:AllDone D [15]:=hp
        obtain ⟨p15_,_⟩:=hp
        simp only [hD,cq,oT] at ht hs
        subst ht
        refine Qae rfl rfl (g_d rfl ?_)
        try dsimp only [Qah,Qai]
        refine hk _ _ ⟨O,?_,hs.cast ?_⟩<;>simp only [oT,cq,Nat.reduceBEq]
       intro D t w rest hall hO305_ hI
       obtain ⟨O,ht,hs⟩:=hI
       have p16_:=hall 16 (by decide) rfl
       have p17_:=hall 17 (by decide) rfl
       simp only [p16_,p17_,cq,oT] at ht hs
       subst ht
       obtain ⟨rest,rfl,hO306_⟩:=ord_one (m:=262143) hO305_ rfl 18 (m':=524287) (by decide+kernel) rfl
       clear hO305_
       refine Qae rfl rfl (g_d rfl ?_)
       obtain ⟨rest,rfl,hO307_⟩:=ord_one (m:=524287) hO306_ rfl 19 (m':=1048575) (by decide+kernel) rfl
       clear hO306_
       refine Qab (v:=bool true) rfl rfl rfl (g_d rfl ?_)
       try dsimp only [Qah,Qai]
       obtain ⟨rest,rfl,hO308_⟩:=ord_one (m:=1048575) hO307_ rfl 20 (m':=2097151) (by decide+kernel) rfl
       clear hO307_
       refine Qab (v:=bool true) rfl rfl rfl (g_d rfl ?_)
       obtain ⟨rest,rfl,hO309_⟩:=ord_one (m:=2097151) hO308_ rfl 21 (m':=4194303) (by decide+kernel) rfl
       clear hO308_
       refine Qae rfl rfl (g_d rfl ?_)
       obtain ⟨rest,rfl,hO310_⟩:=ord_one (m:=4194303) hO309_ rfl 22 (m':=8388607) (by decide+kernel) rfl
       clear hO309_
       refine Qae rfl rfl (g_d rfl ?_)
       obtain ⟨rest,rfl,hO311_⟩:=ord_one (m:=8388607) hO310_ rfl 23 (m':=16777215) (by decide+kernel) rfl
       clear hO310_
       refine Qab (v:=bool true) rfl rfl rfl (g_d rfl ?_)
       try dsimp only [Qah,Qai]
       obtain ⟨rest,rfl,hO312_⟩:=ord_one (m:=16777215) hO311_ rfl 24 (m':=33554431) (by decide+kernel) rfl
       clear hO311_
       refine Qab (v:=bool true) rfl rfl rfl (g_d rfl ?_)
       obtain ⟨rest,rfl,hO313_⟩:=ord_one (m:=33554431) hO312_ rfl 25 (m':=67108863) (by decide+kernel) rfl
       clear hO312_
       refine Qae rfl rfl (g_d rfl ?_)
       obtain ⟨rest,rfl,hO314_⟩:=ord_one (m:=67108863) hO313_ rfl 26 (m':=134217727) (by decide+kernel) rfl
       clear hO313_
       refine Qae rfl rfl (g_d rfl ?_)
       obtain ⟨rest,rfl,hO315_⟩:=ord_one (m:=134217727) hO314_ rfl 27 (m':=268435455) (by decide+kernel) rfl
       clear hO314_
       refine Qab (v:=bool true) rfl rfl rfl (g_d rfl ?_)
       try dsimp only [Qah,Qai]
       obtain ⟨rest,rfl,hO316_⟩:=ord_one (m:=268435455) hO315_ rfl 28 (m':=536870911) (by decide+kernel) rfl
       clear hO315_
       refine Qab (v:=bool true) rfl rfl rfl (g_d rfl ?_)
       refine QaV ?_
       intro T hT
       refine Qbb (m0:=536870911) hO316_ rfl 2147483647 [29,30] [0,1,3,7,15,31,63,127,127,511,1023,2047,4095,8191,16383,32767,65535,65535,262143,524287,1048575,2097151,4194303,8388607,16777215,33554431,67108863,134217727,268435455,536870911,536870911,2147483647,4294967295,8589934591,17179869183,34359738367,34359738367,137438953471,274877906943,549755813887,34359738367,1133871366143,3332894621695,8796093022207,17592186044415] (by decide+kernel) (fun D t w=>∃ O:Nat→Value,t=(O 0::O 1::O 2::O 3::O 4::pointer (some ⟨b9,0,none⟩)::O 6::O 7::O 8::O 9::O 10::O 11::O 12::O 13::O 14::O 15::v42::O 17::O 18::O 19::O 20::O 21::pointer (some ⟨b62,0,none⟩)::O 23::int .u16 (u16w ((shlI .u16 1 (u64w r6.Qad)) - 1))::pointer (some ⟨b66,0,none⟩)::int .i64 x96::O 27::int .i64 r97.2::pointer (some ⟨b101,0,none⟩)::int .i64 r100.2::pointer (some ⟨b105,0,none⟩)::int .i64 r104.2::bool x116::O 34::int .u16 x119::bool r120.1::int .i64 r120.2::O 38::O 39::oT O 4 (oT O 5 (oT O 6 (oT O 7 (oT O 8 (oT O 9 (oT O 10 (oT O 11 (oT O 12 (oT O 13 (oT O 14 (oT O 15 (oT O 16 (oT O 17 (oT O 18 (oT O 19 (oT O 20 (oT O 21 (oT O 22 (oT O 23 (oT O 24 (O 250::O 251::tuple #[bool r120.1,int .i64 r120.2]::agg (([int .i8 r6.Qad,int .i8 r6.Qag,v7]:List Value)).toArray::int .u16 x119::tuple #[bool r120.1,int .i64 r120.2]::bool r120.1::int .i64 r120.2::int .i64 r97.2::bool false::bool false::bool x116::bool (!x116)::bool false::bool false::int .i64 r100.2::int .i64 r104.2::bool (r100.2 !=r104.2)::bool false::bool false::int .i64 r100.2::bool (r100.2 !=0)::bool true::bool true::O 274::O 275::O 276::bool true::bool true::O 279::O 280::bool true::bool true::O 283::O 284::bool true::bool true::cnd (D 29) undef (O 287)::cnd (D 30) undef (O 288)::O 289::oT O 29 (O 300::O 301::O 302::O 303::O 304::O 305::O 306::[])))))))))))))))))))))))∧St w0 [Cells b9 (([int .i8 r6.Qad,int .i8 r6.Qag,v7]:List Value)) 27,Row 46 (K.int .u16) v7 r6.Qal,Row 46 (K.int .u16) v42 r41.1,Cells b62 (Qaa r61.1) 48,Cells b66 (Qaa x95) 48,Cells b101 (Qaa r100.1) 48,Cells b105 (Qaa r104.1) 48] w) ?_ ⟨?_,⟨?_,trivial⟩⟩ ?_
       ·exact ⟨fun i=>T.getD i undef,(by subst hT;rfl),hs⟩
       ·
        rintro D t w hD hp hcl ⟨O,ht,hs⟩ rest hk
        have hp:AllDone D [28]:=hp
        obtain ⟨p28_,_⟩:=hp
        simp only [hD,cq,oT] at ht hs
        subst ht
        refine Qae rfl rfl (g_d rfl ?_)
        try dsimp only [Qah,Qai]
        refine hk _ _ ⟨O,?_,hs.cast ?_⟩<;>simp only [oT,cq,Nat.reduceBEq]
       ·
        rintro D t w hD hp hcl ⟨O,ht,hs⟩ rest hk
        have hp:AllDone D [28]:=hp
        obtain ⟨p28_,_⟩:=hp
        simp only [hD,cq,oT] at ht hs
        subst ht
        refine Qae rfl rfl (g_d rfl ?_)
        try dsimp only [Qah,Qai]
        refine hk _ _ ⟨O,?_,hs.cast ?_⟩<;>simp only [oT,cq,Nat.reduceBEq]
       intro D t w rest hall hO317_ hI
       obtain ⟨O,ht,hs⟩:=hI
       have p29_:=hall 29 (by decide) rfl
       have p30_:=hall 30 (by decide) rfl
       simp only [p29_,p30_,cq,oT] at ht hs
       subst ht
       obtain ⟨rest,rfl,hO318_⟩:=ord_one (m:=2147483647) hO317_ rfl 31 (m':=4294967295) (by decide+kernel) rfl
       clear hO317_
       refine Qae rfl rfl (g_d rfl ?_)
       obtain ⟨rest,rfl,hO319_⟩:=ord_one (m:=4294967295) hO318_ rfl 32 (m':=8589934591) (by decide+kernel) rfl
       clear hO318_
       refine Qae rfl rfl (g_d rfl ?_)
       try dsimp only [Qah,Qai]
       obtain ⟨rest,rfl,hO320_⟩:=ord_one (m:=8589934591) hO319_ rfl 33 (m':=17179869183) (by decide+kernel) rfl
       clear hO319_
       refine Qab (v:=bool true) rfl rfl rfl (g_d rfl ?_)
       obtain ⟨rest,rfl,hO321_⟩:=ord_one (m:=17179869183) hO320_ rfl 34 (m':=34359738367) (by decide+kernel) rfl
       clear hO320_
       refine Qab (v:=bool true) rfl rfl rfl (g_d rfl ?_)
       refine QaV ?_
       intro T hT
       refine Qbb (m0:=34359738367) hO321_ rfl 8796093022207 [35,36,37,38,39,40,41,42] [0,1,3,7,15,31,63,127,127,511,1023,2047,4095,8191,16383,32767,65535,65535,262143,524287,1048575,2097151,4194303,8388607,16777215,33554431,67108863,134217727,268435455,536870911,536870911,2147483647,4294967295,8589934591,17179869183,34359738367,34359738367,137438953471,274877906943,549755813887,34359738367,1133871366143,3332894621695,8796093022207,17592186044415] (by decide+kernel) (fun D t w=>∃ O:Nat→Value,t=(O 0::O 1::O 2::O 3::O 4::pointer (some ⟨b9,0,none⟩)::O 6::O 7::O 8::O 9::O 10::O 11::O 12::O 13::O 14::O 15::v42::O 17::O 18::O 19::O 20::O 21::pointer (some ⟨b62,0,none⟩)::O 23::int .u16 (u16w ((shlI .u16 1 (u64w r6.Qad)) - 1))::pointer (some ⟨b66,0,none⟩)::int .i64 x96::O 27::int .i64 r97.2::pointer (some ⟨b101,0,none⟩)::int .i64 r100.2::pointer (some ⟨b105,0,none⟩)::int .i64 r104.2::bool x116::O 34::int .u16 x119::bool r120.1::int .i64 r120.2::O 38::O 39::oT O 4 (oT O 5 (oT O 6 (oT O 7 (oT O 8 (oT O 9 (oT O 10 (oT O 11 (oT O 12 (oT O 13 (oT O 14 (oT O 15 (oT O 16 (oT O 17 (oT O 18 (oT O 19 (oT O 20 (oT O 21 (oT O 22 (oT O 23 (oT O 24 (O 250::O 251::tuple #[bool r120.1,int .i64 r120.2]::agg (([int .i8 r6.Qad,int .i8 r6.Qag,v7]:List Value)).toArray::int .u16 x119::tuple #[bool r120.1,int .i64 r120.2]::bool r120.1::int .i64 r120.2::int .i64 r97.2::bool false::bool false::bool x116::bool (!x116)::bool false::bool false::int .i64 r100.2::int .i64 r104.2::bool (r100.2 !=r104.2)::bool false::bool false::int .i64 r100.2::bool (r100.2 !=0)::bool true::bool true::O 274::O 275::O 276::bool true::bool true::O 279::O 280::bool true::bool true::O 283::O 284::bool true::bool true::O 287::O 288::O 289::O 290::bool true::bool true::cnd (D 35) undef (O 293)::cnd (D 36) undef (O 294)::cnd (D 37) undef (O 295)::cnd (D 38) undef (O 296)::cnd (D 39) undef (O 297)::cnd (D 40) undef (O 298)::cnd (D 41) undef (O 299)::cnd (D 42) undef (O 300)::O 301::O 302::O 303::O 304::O 305::O 306::[]))))))))))))))))))))))∧St w0 [Cells b9 (([int .i8 r6.Qad,int .i8 r6.Qag,v7]:List Value)) 27,Row 46 (K.int .u16) v7 r6.Qal,Row 46 (K.int .u16) v42 r41.1,Cells b62 (Qaa r61.1) 48,Cells b66 (Qaa x95) 48,Cells b101 (Qaa r100.1) 48,Cells b105 (Qaa r104.1) 48] w) ?_ ⟨?_,⟨?_,⟨?_,⟨?_,⟨?_,⟨?_,⟨?_,⟨?_,trivial⟩⟩⟩⟩⟩⟩⟩⟩ ?_
       ·exact ⟨fun i=>T.getD i undef,(by subst hT;rfl),hs⟩
       ·
        rintro D t w hD hp hcl ⟨O,ht,hs⟩ rest hk
        have hp:AllDone D [34]:=hp
        obtain ⟨p34_,_⟩:=hp
        have q37_:=ny hcl 37 0 hD
        have q38_:=ny hcl 38 0 q37_
        have q39_:=ny hcl 39 0 q38_
        simp only [hD,q37_,q38_,q39_,cq,oT] at ht hs
        subst ht
        refine Qae rfl rfl (g_d rfl ?_)
        try dsimp only [Qah,Qai]
        refine hk _ _ ⟨O,?_,hs.cast ?_⟩<;>simp only [oT,cq,Nat.reduceBEq,q37_,q38_,q39_]
       ·
        rintro D t w hD hp hcl ⟨O,ht,hs⟩ rest hk
        have hp:AllDone D [34]:=hp
        obtain ⟨p34_,_⟩:=hp
        have q37_:=ny hcl 37 1 hD
        have q38_:=ny hcl 38 0 q37_
        have q39_:=ny hcl 39 0 q38_
        simp only [hD,q37_,q38_,q39_,cq,oT] at ht hs
        subst ht
        refine Qae rfl rfl (g_d rfl ?_)
        try dsimp only [Qah,Qai]
        refine hk _ _ ⟨O,?_,hs.cast ?_⟩<;>simp only [oT,cq,Nat.reduceBEq,q37_,q38_,q39_]
       ·
        rintro D t w hD hp hcl ⟨O,ht,hs⟩ rest hk
        have hp:AllDone D [35,36,34]:=hp
        obtain ⟨p35_,p36_,p34_,_⟩:=hp
        have q38_:=ny hcl 38 0 hD
        have q39_:=ny hcl 39 0 q38_
        simp only [hD,p35_,p36_,q38_,q39_,cq,oT] at ht hs
        subst ht
        refine Qae rfl rfl (g_d rfl ?_)
        try dsimp only [Qah,Qai]
        refine hk _ _ ⟨O,?_,hs.cast ?_⟩<;>simp only [oT,cq,Nat.reduceBEq,p35_,p36_,q38_,q39_]
       ·
        rintro D t w hD hp hcl ⟨O,ht,hs⟩ rest hk
        have hp:AllDone D [37,34]:=hp
        obtain ⟨p37_,p34_,_⟩:=hp
        obtain ⟨p35_,p36_,_,_⟩:=(show D 37=true→AllDone D [35,36,34] from hcl 37 (by decide)) p37_
        have q39_:=ny hcl 39 0 hD
        simp only [hD,p35_,p36_,p37_,q39_,cq,oT] at ht hs
        subst ht
        refine Qae rfl rfl (g_d rfl ?_)
        try dsimp only [Qah,Qai]
        refine hk _ _ ⟨O,?_,hs.cast ?_⟩<;>simp only [oT,cq,Nat.reduceBEq,p35_,p36_,p37_,q39_]
       ·
        rintro D t w hD hp hcl ⟨O,ht,hs⟩ rest hk
        have hp:AllDone D [38,34,34]:=hp
        obtain ⟨p38_,p34_,_,_⟩:=hp
        obtain ⟨p37_,_,_⟩:=(show D 38=true→AllDone D [37,34] from hcl 38 (by decide)) p38_
        obtain ⟨p35_,p36_,_,_⟩:=(show D 37=true→AllDone D [35,36,34] from hcl 37 (by decide)) p37_
        simp only [hD,p35_,p36_,p37_,p38_,cq,oT] at ht hs
        subst ht
        refine Qae rfl rfl (g_d rfl ?_)
        try dsimp only [Qah,Qai]
        refine hk _ _ ⟨O,?_,hs.cast ?_⟩<;>simp only [oT,cq,Nat.reduceBEq,p35_,p36_,p37_,p38_]
       ·
        rintro D t w hD hp hcl ⟨O,ht,hs⟩ rest hk
        have hp:AllDone D [34]:=hp
        obtain ⟨p34_,_⟩:=hp
        have q41_:=ny hcl 41 0 hD
        have q42_:=ny hcl 42 0 q41_
        simp only [hD,q41_,q42_,cq,oT] at ht hs
        subst ht
        refine Qae rfl rfl (g_d rfl ?_)
        try dsimp only [Qah,Qai]
        refine hk _ _ ⟨O,?_,hs.cast ?_⟩<;>simp only [oT,cq,Nat.reduceBEq,q41_,q42_]
       ·
        rintro D t w hD hp hcl ⟨O,ht,hs⟩ rest hk
        have hp:AllDone D [40,34]:=hp
        obtain ⟨p40_,p34_,_⟩:=hp
        have q42_:=ny hcl 42 0 hD
        simp only [hD,p40_,q42_,cq,oT] at ht hs
        subst ht
        refine Qae rfl rfl (g_d rfl ?_)
        try dsimp only [Qah,Qai]
        refine hk _ _ ⟨O,?_,hs.cast ?_⟩<;>simp only [oT,cq,Nat.reduceBEq,p40_,q42_]
       ·
        rintro D t w hD hp hcl ⟨O,ht,hs⟩ rest hk
        have hp:AllDone D [41,34]:=hp
        obtain ⟨p41_,p34_,_⟩:=hp
        obtain ⟨p40_,_,_⟩:=(show D 41=true→AllDone D [40,34] from hcl 41 (by decide)) p41_
        simp only [hD,p40_,p41_,cq,oT] at ht hs
        subst ht
        refine Qae rfl rfl (g_d rfl ?_)
        try dsimp only [Qah,Qai]
        refine hk _ _ ⟨O,?_,hs.cast ?_⟩<;>simp only [oT,cq,Nat.reduceBEq,p40_,p41_]
       intro D t w rest hall hO322_ hI
       obtain ⟨O,ht,hs⟩:=hI
       have p35_:=hall 35 (by decide) rfl
       have p36_:=hall 36 (by decide) rfl
       have p37_:=hall 37 (by decide) rfl
       have p38_:=hall 38 (by decide) rfl
       have p39_:=hall 39 (by decide) rfl
       have p40_:=hall 40 (by decide) rfl
       have p41_:=hall 41 (by decide) rfl
       have p42_:=hall 42 (by decide) rfl
       simp only [p35_,p36_,p37_,p38_,p39_,p40_,p41_,p42_,cq,oT] at ht hs
       subst ht
       obtain ⟨rest,rfl,hO323_⟩:=ord_one (m:=8796093022207) hO322_ rfl 43 (m':=17592186044415) (by decide+kernel) rfl
       clear hO322_
       refine Qae rfl rfl (g_d rfl ?_)
       try dsimp only [Qah,Qai]
       obtain ⟨rest,rfl,hO324_⟩:=ord_one (m:=17592186044415) hO323_ rfl 44 (m':=35184372088831) (by decide+kernel) rfl
       clear hO323_
       refine Qab (v:=bool true) rfl rfl rfl (g_d rfl ?_)
       obtain rfl:=ord_end hO324_ rfl (by decide+kernel)
       refine Qac (Qaq rfl (Qaj (Qan [0] rfl ?_)))
       refine Qab (v:=bool false) rfl rfl rfl (g_d rfl ?_)
       try dsimp only [Qah,Qai]
       refine Qac ?_
       obtain rfl:=QsJ H
       subst Hx1_
       have H:=QsJ Hr1_
       subst H
       refine QaB Tryz.func3 (v:=bool false) (res1 rfl rfl) ?_
       have hs:St _ [] _:=St.take (Γ':=[_,_,_,_,_,_,_]) hs
       exact ⟨_,rfl,rfl,hs⟩
      intro hb
      rw [if_pos (b_bne_f hb)] at H
      refine g_d rfl ?_
      obtain ⟨rest,rfl,hO325_⟩:=ord_one (m:=32767) hO303_ rfl 15 (m':=65535) (by decide+kernel) rfl
      clear hO303_
      refine Qab (v:=bool false) rfl rfl rfl (g_d rfl ?_)
      refine QaV ?_
      intro T hT
      refine Qbb (m0:=65535) hO325_ rfl 262143 [16,17] [0,1,3,7,15,31,63,127,127,511,1023,2047,4095,8191,16383,32767,65535,65535,262143,524287,1048575,2097151,4194303,8388607,16777215,33554431,67108863,134217727,268435455,536870911,536870911,2147483647,4294967295,8589934591,17179869183,34359738367,34359738367,137438953471,274877906943,549755813887,34359738367,1133871366143,3332894621695,8796093022207,17592186044415] (by decide+kernel) (fun D t w=>∃ O:Nat→Value,t=(O 0::O 1::O 2::O 3::O 4::pointer (some ⟨b9,0,none⟩)::O 6::O 7::O 8::O 9::O 10::O 11::O 12::O 13::O 14::O 15::v42::O 17::O 18::O 19::O 20::O 21::pointer (some ⟨b62,0,none⟩)::O 23::int .u16 (u16w ((shlI .u16 1 (u64w r6.Qad)) - 1))::pointer (some ⟨b66,0,none⟩)::int .i64 x96::O 27::int .i64 r97.2::pointer (some ⟨b101,0,none⟩)::int .i64 r100.2::pointer (some ⟨b105,0,none⟩)::int .i64 r104.2::bool x116::O 34::int .u16 x119::bool r120.1::int .i64 r120.2::O 38::O 39::oT O 4 (oT O 5 (oT O 6 (oT O 7 (oT O 8 (oT O 9 (oT O 10 (oT O 11 (oT O 12 (oT O 13 (oT O 14 (oT O 15 (oT O 16 (oT O 17 (oT O 18 (oT O 19 (oT O 20 (oT O 21 (oT O 22 (oT O 23 (oT O 24 (O 250::O 251::tuple #[bool r120.1,int .i64 r120.2]::agg (([int .i8 r6.Qad,int .i8 r6.Qag,v7]:List Value)).toArray::int .u16 x119::tuple #[bool r120.1,int .i64 r120.2]::bool r120.1::int .i64 r120.2::int .i64 r97.2::bool false::bool false::bool x116::bool (!x116)::bool false::bool false::int .i64 r100.2::int .i64 r104.2::bool (r100.2 !=r104.2)::bool false::bool false::int .i64 r100.2::bool (r100.2 !=0)::bool false::bool false::cnd (D 16) (agg (Qaa r100.1).toArray) (O 274)::cnd (D 17) (agg (Qaa r104.1).toArray) (O 275)::O 276::O 277::O 278::O 279::oT O 28 (oT O 29 (O 300::O 301::O 302::O 303::O 304::O 305::O 306::[]))))))))))))))))))))))))∧St w0 [Cells b9 (([int .i8 r6.Qad,int .i8 r6.Qag,v7]:List Value)) 27,Row 46 (K.int .u16) v7 r6.Qal,Row 46 (K.int .u16) v42 r41.1,Cells b62 (Qaa r61.1) 48,Cells b66 (Qaa x95) 48,Cells b101 (Qaa r100.1) 48,Cells b105 (Qaa r104.1) 48] w) ?_ ⟨?_,⟨?_,trivial⟩⟩ ?_
      ·exact ⟨fun i=>T.getD i undef,(by subst hT;rfl),hs⟩
      ·
       rintro D t w hD hp hcl ⟨O,ht,hs⟩ rest hk
       have hp:AllDone D [15]:=hp
       obtain ⟨p15_,_⟩:=hp
       simp only [hD,cq,oT] at ht hs
       subst ht
       refine QaF rfl rfl (es:=(Qaa r100.1)) rfl rfl (fun _=>rfl) (n:=2) (fun _=>rfl) (Qam.len _) (cells_all (hs.cells 5 rfl)) (g_d rfl ?_)
       try dsimp only [Qah,Qai]
       refine hk _ _ ⟨O,?_,hs.cast ?_⟩<;>simp only [oT,lq,cq,Nat.reduceBEq]
      ·
       rintro D t w hD hp hcl ⟨O,ht,hs⟩ rest hk
       have hp:AllDone D [15]:=hp
       obtain ⟨p15_,_⟩:=hp
       simp only [hD,cq,oT] at ht hs
       subst ht
       refine QaF rfl rfl (es:=(Qaa r104.1)) rfl rfl (fun _=>rfl) (n:=2) (fun _=>rfl) (Qam.len _) (cells_all (hs.cells 6 rfl)) (g_d rfl ?_)
       try dsimp only [Qah,Qai]
       refine hk _ _ ⟨O,?_,hs.cast ?_⟩<;>simp only [oT,lq,cq,Nat.reduceBEq]
      intro D t w rest hall hO326_ hI
      obtain ⟨O,ht,hs⟩:=hI
      have p16_:=hall 16 (by decide) rfl
      have p17_:=hall 17 (by decide) rfl
      simp only [p16_,p17_,cq,oT] at ht hs
      subst ht
      obtain ⟨rest,rfl,hO327_⟩:=ord_one (m:=262143) hO326_ rfl 18 (m':=524287) (by decide+kernel) rfl
      clear hO326_
      refine Qab (v:=bool (!decide (r100.1=r104.1))) rfl rfl (Qdk rfl rfl rfl Qcu (Qco _ _ _)) (g_d rfl ?_)
      try dsimp only [Qah,Qai]
      obtain ⟨rest,rfl,hO328_⟩:=ord_one (m:=524287) hO327_ rfl 19 (m':=1048575) (by decide+kernel) rfl
      clear hO327_
      refine QaI (B:=!decide (r100.1=r104.1)) rfl rfl rfl ?_ ?_
      · as_aux_lemma =>
       intro hb
       rw [if_neg (b_ndec_t hb)] at H
       refine g_d rfl ?_
       obtain ⟨rest,rfl,hO329_⟩:=ord_one (m:=1048575) hO328_ rfl 20 (m':=2097151) (by decide+kernel) rfl
       clear hO328_
       refine Qab (v:=bool true) rfl rfl rfl (g_d rfl ?_)
       obtain ⟨rest,rfl,hO330_⟩:=ord_one (m:=2097151) hO329_ rfl 21 (m':=4194303) (by decide+kernel) rfl
       clear hO329_
       refine Qae rfl rfl (g_d rfl ?_)
       obtain ⟨rest,rfl,hO331_⟩:=ord_one (m:=4194303) hO330_ rfl 22 (m':=8388607) (by decide+kernel) rfl
       clear hO330_
       refine Qae rfl rfl (g_d rfl ?_)
       try dsimp only [Qah,Qai]
       obtain ⟨rest,rfl,hO332_⟩:=ord_one (m:=8388607) hO331_ rfl 23 (m':=16777215) (by decide+kernel) rfl
       clear hO331_
       refine Qab (v:=bool true) rfl rfl rfl (g_d rfl ?_)
       obtain ⟨rest,rfl,hO333_⟩:=ord_one (m:=16777215) hO332_ rfl 24 (m':=33554431) (by decide+kernel) rfl
       clear hO332_
       refine Qab (v:=bool true) rfl rfl rfl (g_d rfl ?_)
       obtain ⟨rest,rfl,hO334_⟩:=ord_one (m:=33554431) hO333_ rfl 25 (m':=67108863) (by decide+kernel) rfl
       clear hO333_
       refine Qae rfl rfl (g_d rfl ?_)
       obtain ⟨rest,rfl,hO335_⟩:=ord_one (m:=67108863) hO334_ rfl 26 (m':=134217727) (by decide+kernel) rfl
       clear hO334_
       refine Qae rfl rfl (g_d rfl ?_)
       try dsimp only [Qah,Qai]
       obtain ⟨rest,rfl,hO336_⟩:=ord_one (m:=134217727) hO335_ rfl 27 (m':=268435455) (by decide+kernel) rfl
       clear hO335_
       refine Qab (v:=bool true) rfl rfl rfl (g_d rfl ?_)
       obtain ⟨rest,rfl,hO337_⟩:=ord_one (m:=268435455) hO336_ rfl 28 (m':=536870911) (by decide+kernel) rfl
       clear hO336_
       refine Qab (v:=bool true) rfl rfl rfl (g_d rfl ?_)
       refine QaV ?_
       intro T hT
       refine Qbb (m0:=536870911) hO337_ rfl 2147483647 [29,30] [0,1,3,7,15,31,63,127,127,511,1023,2047,4095,8191,16383,32767,65535,65535,262143,524287,1048575,2097151,4194303,8388607,16777215,33554431,67108863,134217727,268435455,536870911,536870911,2147483647,4294967295,8589934591,17179869183,34359738367,34359738367,137438953471,274877906943,549755813887,34359738367,1133871366143,3332894621695,8796093022207,17592186044415] (by decide+kernel) (fun D t w=>∃ O:Nat→Value,t=(O 0::O 1::O 2::O 3::O 4::pointer (some ⟨b9,0,none⟩)::O 6::O 7::O 8::O 9::O 10::O 11::O 12::O 13::O 14::O 15::v42::O 17::O 18::O 19::O 20::O 21::pointer (some ⟨b62,0,none⟩)::O 23::int .u16 (u16w ((shlI .u16 1 (u64w r6.Qad)) - 1))::pointer (some ⟨b66,0,none⟩)::int .i64 x96::O 27::int .i64 r97.2::pointer (some ⟨b101,0,none⟩)::int .i64 r100.2::pointer (some ⟨b105,0,none⟩)::int .i64 r104.2::bool x116::O 34::int .u16 x119::bool r120.1::int .i64 r120.2::O 38::O 39::oT O 4 (oT O 5 (oT O 6 (oT O 7 (oT O 8 (oT O 9 (oT O 10 (oT O 11 (oT O 12 (oT O 13 (oT O 14 (oT O 15 (oT O 16 (oT O 17 (oT O 18 (oT O 19 (oT O 20 (oT O 21 (oT O 22 (oT O 23 (oT O 24 (O 250::O 251::tuple #[bool r120.1,int .i64 r120.2]::agg (([int .i8 r6.Qad,int .i8 r6.Qag,v7]:List Value)).toArray::int .u16 x119::tuple #[bool r120.1,int .i64 r120.2]::bool r120.1::int .i64 r120.2::int .i64 r97.2::bool false::bool false::bool x116::bool (!x116)::bool false::bool false::int .i64 r100.2::int .i64 r104.2::bool (r100.2 !=r104.2)::bool false::bool false::int .i64 r100.2::bool (r100.2 !=0)::bool false::bool false::agg (Qaa r100.1).toArray::agg (Qaa r104.1).toArray::bool (!decide (r100.1=r104.1))::bool true::bool true::O 279::O 280::bool true::bool true::O 283::O 284::bool true::bool true::cnd (D 29) undef (O 287)::cnd (D 30) undef (O 288)::O 289::oT O 29 (O 300::O 301::O 302::O 303::O 304::O 305::O 306::[])))))))))))))))))))))))∧St w0 [Cells b9 (([int .i8 r6.Qad,int .i8 r6.Qag,v7]:List Value)) 27,Row 46 (K.int .u16) v7 r6.Qal,Row 46 (K.int .u16) v42 r41.1,Cells b62 (Qaa r61.1) 48,Cells b66 (Qaa x95) 48,Cells b101 (Qaa r100.1) 48,Cells b105 (Qaa r104.1) 48] w) ?_ ⟨?_,⟨?_,trivial⟩⟩ ?_
       ·exact ⟨fun i=>T.getD i undef,(by subst hT;rfl),hs⟩
       ·
        rintro D t w hD hp hcl ⟨O,ht,hs⟩ rest hk
        have hp:AllDone D [28]:=hp
        obtain ⟨p28_,_⟩:=hp
        simp only [hD,cq,oT] at ht hs
        subst ht
        refine Qae rfl rfl (g_d rfl ?_)
        try dsimp only [Qah,Qai]
        refine hk _ _ ⟨O,?_,hs.cast ?_⟩<;>simp only [oT,cq,Nat.reduceBEq]
       ·
        rintro D t w hD hp hcl ⟨O,ht,hs⟩ rest hk
        have hp:AllDone D [28]:=hp
        obtain ⟨p28_,_⟩:=hp
        simp only [hD,cq,oT] at ht hs
        subst ht
        refine Qae rfl rfl (g_d rfl ?_)
        try dsimp only [Qah,Qai]
        refine hk _ _ ⟨O,?_,hs.cast ?_⟩<;>simp only [oT,cq,Nat.reduceBEq]
       intro D t w rest hall hO338_ hI
       obtain ⟨O,ht,hs⟩:=hI
       have p29_:=hall 29 (by decide) rfl
       have p30_:=hall 30 (by decide) rfl
       simp only [p29_,p30_,cq,oT] at ht hs
       subst ht
       obtain ⟨rest,rfl,hO339_⟩:=ord_one (m:=2147483647) hO338_ rfl 31 (m':=4294967295) (by decide+kernel) rfl
       clear hO338_
       refine Qae rfl rfl (g_d rfl ?_)
       try dsimp only [Qah,Qai]
       obtain ⟨rest,rfl,hO340_⟩:=ord_one (m:=4294967295) hO339_ rfl 32 (m':=8589934591) (by decide+kernel) rfl
       clear hO339_
       refine Qae rfl rfl (g_d rfl ?_)
       obtain ⟨rest,rfl,hO341_⟩:=ord_one (m:=8589934591) hO340_ rfl 33 (m':=17179869183) (by decide+kernel) rfl
       clear hO340_
       refine Qab (v:=bool true) rfl rfl rfl (g_d rfl ?_)
       try dsimp only [Qah,Qai]
       obtain ⟨rest,rfl,hO342_⟩:=ord_one (m:=17179869183) hO341_ rfl 34 (m':=34359738367) (by decide+kernel) rfl
       clear hO341_
       refine Qab (v:=bool true) rfl rfl rfl (g_d rfl ?_)
       refine QaV ?_
       intro T hT
       refine Qbb (m0:=34359738367) hO342_ rfl 8796093022207 [35,36,37,38,39,40,41,42] [0,1,3,7,15,31,63,127,127,511,1023,2047,4095,8191,16383,32767,65535,65535,262143,524287,1048575,2097151,4194303,8388607,16777215,33554431,67108863,134217727,268435455,536870911,536870911,2147483647,4294967295,8589934591,17179869183,34359738367,34359738367,137438953471,274877906943,549755813887,34359738367,1133871366143,3332894621695,8796093022207,17592186044415] (by decide+kernel) (fun D t w=>∃ O:Nat→Value,t=(O 0::O 1::O 2::O 3::O 4::pointer (some ⟨b9,0,none⟩)::O 6::O 7::O 8::O 9::O 10::O 11::O 12::O 13::O 14::O 15::v42::O 17::O 18::O 19::O 20::O 21::pointer (some ⟨b62,0,none⟩)::O 23::int .u16 (u16w ((shlI .u16 1 (u64w r6.Qad)) - 1))::pointer (some ⟨b66,0,none⟩)::int .i64 x96::O 27::int .i64 r97.2::pointer (some ⟨b101,0,none⟩)::int .i64 r100.2::pointer (some ⟨b105,0,none⟩)::int .i64 r104.2::bool x116::O 34::int .u16 x119::bool r120.1::int .i64 r120.2::O 38::O 39::oT O 4 (oT O 5 (oT O 6 (oT O 7 (oT O 8 (oT O 9 (oT O 10 (oT O 11 (oT O 12 (oT O 13 (oT O 14 (oT O 15 (oT O 16 (oT O 17 (oT O 18 (oT O 19 (oT O 20 (oT O 21 (oT O 22 (oT O 23 (oT O 24 (O 250::O 251::tuple #[bool r120.1,int .i64 r120.2]::agg (([int .i8 r6.Qad,int .i8 r6.Qag,v7]:List Value)).toArray::int .u16 x119::tuple #[bool r120.1,int .i64 r120.2]::bool r120.1::int .i64 r120.2::int .i64 r97.2::bool false::bool false::bool x116::bool (!x116)::bool false::bool false::int .i64 r100.2::int .i64 r104.2::bool (r100.2 !=r104.2)::bool false::bool false::int .i64 r100.2::bool (r100.2 !=0)::bool false::bool false::agg (Qaa r100.1).toArray::agg (Qaa r104.1).toArray::bool (!decide (r100.1=r104.1))::bool true::bool true::O 279::O 280::bool true::bool true::O 283::O 284::bool true::bool true::O 287::O 288::O 289::O 290::bool true::bool true::cnd (D 35) undef (O 293)::cnd (D 36) undef (O 294)::cnd (D 37) undef (O 295)::cnd (D 38) undef (O 296)::cnd (D 39) undef (O 297)::cnd (D 40) undef (O 298)::cnd (D 41) undef (O 299)::cnd (D 42) undef (O 300)::O 301::O 302::O 303::O 304::O 305::O 306::[]))))))))))))))))))))))∧St w0 [Cells b9 (([int .i8 r6.Qad,int .i8 r6.Qag,v7]:List Value)) 27,Row 46 (K.int .u16) v7 r6.Qal,Row 46 (K.int .u16) v42 r41.1,Cells b62 (Qaa r61.1) 48,Cells b66 (Qaa x95) 48,Cells b101 (Qaa r100.1) 48,Cells b105 (Qaa r104.1) 48] w) ?_ ⟨?_,⟨?_,⟨?_,⟨?_,⟨?_,⟨?_,⟨?_,⟨?_,trivial⟩⟩⟩⟩⟩⟩⟩⟩ ?_
       ·exact ⟨fun i=>T.getD i undef,(by subst hT;rfl),hs⟩
       ·
        rintro D t w hD hp hcl ⟨O,ht,hs⟩ rest hk
        have hp:AllDone D [34]:=hp
        obtain ⟨p34_,_⟩:=hp
        have q37_:=ny hcl 37 0 hD
        have q38_:=ny hcl 38 0 q37_
        have q39_:=ny hcl 39 0 q38_
        simp only [hD,q37_,q38_,q39_,cq,oT] at ht hs
        subst ht
        refine Qae rfl rfl (g_d rfl ?_)
        try dsimp only [Qah,Qai]
        refine hk _ _ ⟨O,?_,hs.cast ?_⟩<;>simp only [oT,cq,Nat.reduceBEq,q37_,q38_,q39_]
       ·
        rintro D t w hD hp hcl ⟨O,ht,hs⟩ rest hk
        have hp:AllDone D [34]:=hp
        obtain ⟨p34_,_⟩:=hp
        have q37_:=ny hcl 37 1 hD
        have q38_:=ny hcl 38 0 q37_
        have q39_:=ny hcl 39 0 q38_
        simp only [hD,q37_,q38_,q39_,cq,oT] at ht hs
        subst ht
        refine Qae rfl rfl (g_d rfl ?_)
        try dsimp only [Qah,Qai]
        refine hk _ _ ⟨O,?_,hs.cast ?_⟩<;>simp only [oT,cq,Nat.reduceBEq,q37_,q38_,q39_]
       ·
        rintro D t w hD hp hcl ⟨O,ht,hs⟩ rest hk
        have hp:AllDone D [35,36,34]:=hp
        obtain ⟨p35_,p36_,p34_,_⟩:=hp
        have q38_:=ny hcl 38 0 hD
        have q39_:=ny hcl 39 0 q38_
        simp only [hD,p35_,p36_,q38_,q39_,cq,oT] at ht hs
        subst ht
        refine Qae rfl rfl (g_d rfl ?_)
        try dsimp only [Qah,Qai]
        refine hk _ _ ⟨O,?_,hs.cast ?_⟩<;>simp only [oT,cq,Nat.reduceBEq,p35_,p36_,q38_,q39_]
       ·
        rintro D t w hD hp hcl ⟨O,ht,hs⟩ rest hk
        have hp:AllDone D [37,34]:=hp
        obtain ⟨p37_,p34_,_⟩:=hp
        obtain ⟨p35_,p36_,_,_⟩:=(show D 37=true→AllDone D [35,36,34] from hcl 37 (by decide)) p37_
        have q39_:=ny hcl 39 0 hD
        simp only [hD,p35_,p36_,p37_,q39_,cq,oT] at ht hs
        subst ht
        refine Qae rfl rfl (g_d rfl ?_)
        try dsimp only [Qah,Qai]
        refine hk _ _ ⟨O,?_,hs.cast ?_⟩<;>simp only [oT,cq,Nat.reduceBEq,p35_,p36_,p37_,q39_]
       ·
        rintro D t w hD hp hcl ⟨O,ht,hs⟩ rest hk
        have hp:AllDone D [38,34,34]:=hp
        obtain ⟨p38_,p34_,_,_⟩:=hp
        obtain ⟨p37_,_,_⟩:=(show D 38=true→AllDone D [37,34] from hcl 38 (by decide)) p38_
        obtain ⟨p35_,p36_,_,_⟩:=(show D 37=true→AllDone D [35,36,34] from hcl 37 (by decide)) p37_
        simp only [hD,p35_,p36_,p37_,p38_,cq,oT] at ht hs
        subst ht
        refine Qae rfl rfl (g_d rfl ?_)
        try dsimp only [Qah,Qai]
        refine hk _ _ ⟨O,?_,hs.cast ?_⟩<;>simp only [oT,cq,Nat.reduceBEq,p35_,p36_,p37_,p38_]
       ·
        rintro D t w hD hp hcl ⟨O,ht,hs⟩ rest hk
        have hp:AllDone D [34]:=hp
        obtain ⟨p34_,_⟩:=hp
        have q41_:=ny hcl 41 0 hD
        have q42_:=ny hcl 42 0 q41_
        simp only [hD,q41_,q42_,cq,oT] at ht hs
        subst ht
        refine Qae rfl rfl (g_d rfl ?_)
        try dsimp only [Qah,Qai]
        refine hk _ _ ⟨O,?_,hs.cast ?_⟩<;>simp only [oT,cq,Nat.reduceBEq,q41_,q42_]
       ·
        rintro D t w hD hp hcl ⟨O,ht,hs⟩ rest hk
        have hp:AllDone D [40,34]:=hp
        obtain ⟨p40_,p34_,_⟩:=hp
        have q42_:=ny hcl 42 0 hD
        simp only [hD,p40_,q42_,cq,oT] at ht hs
        subst ht
        refine Qae rfl rfl (g_d rfl ?_)
        try dsimp only [Qah,Qai]
        refine hk _ _ ⟨O,?_,hs.cast ?_⟩<;>simp only [oT,cq,Nat.reduceBEq,p40_,q42_]
       ·
        rintro D t w hD hp hcl ⟨O,ht,hs⟩ rest hk
        have hp:AllDone D [41,34]:=hp
        obtain ⟨p41_,p34_,_⟩:=hp
        obtain ⟨p40_,_,_⟩:=(show D 41=true→AllDone D [40,34] from hcl 41 (by decide)) p41_
        simp only [hD,p40_,p41_,cq,oT] at ht hs
        subst ht
        refine Qae rfl rfl (g_d rfl ?_)
        try dsimp only [Qah,Qai]
        refine hk _ _ ⟨O,?_,hs.cast ?_⟩<;>simp only [oT,cq,Nat.reduceBEq,p40_,p41_]
       intro D t w rest hall hO343_ hI
       obtain ⟨O,ht,hs⟩:=hI
       have p35_:=hall 35 (by decide) rfl
       have p36_:=hall 36 (by decide) rfl
       have p37_:=hall 37 (by decide) rfl
       have p38_:=hall 38 (by decide) rfl
       have p39_:=hall 39 (by decide) rfl
       have p40_:=hall 40 (by decide) rfl
       have p41_:=hall 41 (by decide) rfl
       have p42_:=hall 42 (by decide) rfl
       simp only [p35_,p36_,p37_,p38_,p39_,p40_,p41_,p42_,cq,oT] at ht hs
       subst ht
       obtain ⟨rest,rfl,hO344_⟩:=ord_one (m:=8796093022207) hO343_ rfl 43 (m':=17592186044415) (by decide+kernel) rfl
       clear hO343_
       refine Qae rfl rfl (g_d rfl ?_)
       obtain ⟨rest,rfl,hO345_⟩:=ord_one (m:=17592186044415) hO344_ rfl 44 (m':=35184372088831) (by decide+kernel) rfl
       clear hO344_
       refine Qab (v:=bool true) rfl rfl rfl (g_d rfl ?_)
       try dsimp only [Qah,Qai]
       obtain rfl:=ord_end hO345_ rfl (by decide+kernel)
       refine Qac (Qaq rfl (Qaj (Qan [0] rfl ?_)))
       refine Qab (v:=bool false) rfl rfl rfl (g_d rfl (Qac ?_))
       obtain rfl:=QsJ H
       subst Hx1_
       have H:=QsJ Hr1_
       subst H
       refine QaB Tryz.func3 (v:=bool false) (res1 rfl rfl) ?_
       have hs:St _ [] _:=St.take (Γ':=[_,_,_,_,_,_,_]) hs
       exact ⟨_,rfl,rfl,hs⟩
      intro hb
      rw [if_pos (b_ndec_f hb)] at H
      refine g_d rfl ?_
      obtain ⟨rest,rfl,hO346_⟩:=ord_one (m:=1048575) hO328_ rfl 20 (m':=2097151) (by decide+kernel) rfl
      clear hO328_
      refine Qab (v:=bool false) rfl rfl rfl (g_d rfl ?_)
      obtain ⟨rest,rfl,hO347_⟩:=ord_one (m:=2097151) hO346_ rfl 21 (m':=4194303) (by decide+kernel) rfl
      clear hO346_
      refine Qab (v:=int .i64 r120.2) rfl rfl rfl (g_d rfl ?_)
      obtain ⟨rest,rfl,hO348_⟩:=ord_one (m:=4194303) hO347_ rfl 22 (m':=8388607) (by decide+kernel) rfl
      clear hO347_
      refine Qab (v:=bool (r120.2 !=0)) rfl rfl rfl (g_d rfl ?_)
      try dsimp only [Qah,Qai]
      obtain ⟨rest,rfl,hO349_⟩:=ord_one (m:=8388607) hO348_ rfl 23 (m':=16777215) (by decide+kernel) rfl
      clear hO348_
      refine QaI (B:=r120.2 !=0) rfl rfl rfl ?_ ?_
      · as_aux_lemma =>
       intro hb
       rw [if_neg (b_bne_t hb)] at H
       refine g_d rfl ?_
       try dsimp only [Qah,Qai]
       obtain ⟨rest,rfl,hO350_⟩:=ord_one (m:=16777215) hO349_ rfl 24 (m':=33554431) (by decide+kernel) rfl
       clear hO349_
       refine Qab (v:=bool true) rfl rfl rfl (g_d rfl ?_)
       obtain ⟨rest,rfl,hO351_⟩:=ord_one (m:=33554431) hO350_ rfl 25 (m':=67108863) (by decide+kernel) rfl
       clear hO350_
       refine Qae rfl rfl (g_d rfl ?_)
       obtain ⟨rest,rfl,hO352_⟩:=ord_one (m:=67108863) hO351_ rfl 26 (m':=134217727) (by decide+kernel) rfl
       clear hO351_
       refine Qae rfl rfl (g_d rfl ?_)
       obtain ⟨rest,rfl,hO353_⟩:=ord_one (m:=134217727) hO352_ rfl 27 (m':=268435455) (by decide+kernel) rfl
       clear hO352_
       refine Qab (v:=bool true) rfl rfl rfl (g_d rfl ?_)
       try dsimp only [Qah,Qai]
       obtain ⟨rest,rfl,hO354_⟩:=ord_one (m:=268435455) hO353_ rfl 28 (m':=536870911) (by decide+kernel) rfl
       clear hO353_
       refine Qab (v:=bool true) rfl rfl rfl (g_d rfl ?_)
       refine QaV ?_
       intro T hT
       refine Qbb (m0:=536870911) hO354_ rfl 2147483647 [29,30] [0,1,3,7,15,31,63,127,127,511,1023,2047,4095,8191,16383,32767,65535,65535,262143,524287,1048575,2097151,4194303,8388607,16777215,33554431,67108863,134217727,268435455,536870911,536870911,2147483647,4294967295,8589934591,17179869183,34359738367,34359738367,137438953471,274877906943,549755813887,34359738367,1133871366143,3332894621695,8796093022207,17592186044415] (by decide+kernel) (fun D t w=>∃ O:Nat→Value,t=(O 0::O 1::O 2::O 3::O 4::pointer (some ⟨b9,0,none⟩)::O 6::O 7::O 8::O 9::O 10::O 11::O 12::O 13::O 14::O 15::v42::O 17::O 18::O 19::O 20::O 21::pointer (some ⟨b62,0,none⟩)::O 23::int .u16 (u16w ((shlI .u16 1 (u64w r6.Qad)) - 1))::pointer (some ⟨b66,0,none⟩)::int .i64 x96::O 27::int .i64 r97.2::pointer (some ⟨b101,0,none⟩)::int .i64 r100.2::pointer (some ⟨b105,0,none⟩)::int .i64 r104.2::bool x116::O 34::int .u16 x119::bool r120.1::int .i64 r120.2::O 38::O 39::oT O 4 (oT O 5 (oT O 6 (oT O 7 (oT O 8 (oT O 9 (oT O 10 (oT O 11 (oT O 12 (oT O 13 (oT O 14 (oT O 15 (oT O 16 (oT O 17 (oT O 18 (oT O 19 (oT O 20 (oT O 21 (oT O 22 (oT O 23 (oT O 24 (O 250::O 251::tuple #[bool r120.1,int .i64 r120.2]::agg (([int .i8 r6.Qad,int .i8 r6.Qag,v7]:List Value)).toArray::int .u16 x119::tuple #[bool r120.1,int .i64 r120.2]::bool r120.1::int .i64 r120.2::int .i64 r97.2::bool false::bool false::bool x116::bool (!x116)::bool false::bool false::int .i64 r100.2::int .i64 r104.2::bool (r100.2 !=r104.2)::bool false::bool false::int .i64 r100.2::bool (r100.2 !=0)::bool false::bool false::agg (Qaa r100.1).toArray::agg (Qaa r104.1).toArray::bool (!decide (r100.1=r104.1))::bool false::bool false::int .i64 r120.2::bool (r120.2 !=0)::bool true::bool true::O 283::O 284::bool true::bool true::cnd (D 29) undef (O 287)::cnd (D 30) undef (O 288)::O 289::oT O 29 (O 300::O 301::O 302::O 303::O 304::O 305::O 306::[])))))))))))))))))))))))∧St w0 [Cells b9 (([int .i8 r6.Qad,int .i8 r6.Qag,v7]:List Value)) 27,Row 46 (K.int .u16) v7 r6.Qal,Row 46 (K.int .u16) v42 r41.1,Cells b62 (Qaa r61.1) 48,Cells b66 (Qaa x95) 48,Cells b101 (Qaa r100.1) 48,Cells b105 (Qaa r104.1) 48] w) ?_ ⟨?_,⟨?_,trivial⟩⟩ ?_
       ·exact ⟨fun i=>T.getD i undef,(by subst hT;rfl),hs⟩
       ·
        rintro D t w hD hp hcl ⟨O,ht,hs⟩ rest hk
        have hp:AllDone D [28]:=hp
        obtain ⟨p28_,_⟩:=hp
        simp only [hD,cq,oT] at ht hs
        subst ht
        refine Qae rfl rfl (g_d rfl ?_)
        try dsimp only [Qah,Qai]
        refine hk _ _ ⟨O,?_,hs.cast ?_⟩<;>simp only [oT,cq,Nat.reduceBEq]
       ·
        rintro D t w hD hp hcl ⟨O,ht,hs⟩ rest hk
        have hp:AllDone D [28]:=hp
        obtain ⟨p28_,_⟩:=hp
        simp only [hD,cq,oT] at ht hs
        subst ht
        refine Qae rfl rfl (g_d rfl ?_)
        try dsimp only [Qah,Qai]
        refine hk _ _ ⟨O,?_,hs.cast ?_⟩<;>simp only [oT,cq,Nat.reduceBEq]
       intro D t w rest hall hO355_ hI
       obtain ⟨O,ht,hs⟩:=hI
       have p29_:=hall 29 (by decide) rfl
       have p30_:=hall 30 (by decide) rfl
       simp only [p29_,p30_,cq,oT] at ht hs
       subst ht
       obtain ⟨rest,rfl,hO356_⟩:=ord_one (m:=2147483647) hO355_ rfl 31 (m':=4294967295) (by decide+kernel) rfl
       clear hO355_
       refine Qae rfl rfl (g_d rfl ?_)
       obtain ⟨rest,rfl,hO357_⟩:=ord_one (m:=4294967295) hO356_ rfl 32 (m':=8589934591) (by decide+kernel) rfl
       clear hO356_
       refine Qae rfl rfl (g_d rfl ?_)
       try dsimp only [Qah,Qai]
       obtain ⟨rest,rfl,hO358_⟩:=ord_one (m:=8589934591) hO357_ rfl 33 (m':=17179869183) (by decide+kernel) rfl
       clear hO357_
       refine Qab (v:=bool true) rfl rfl rfl (g_d rfl ?_)
       obtain ⟨rest,rfl,hO359_⟩:=ord_one (m:=17179869183) hO358_ rfl 34 (m':=34359738367) (by decide+kernel) rfl
       clear hO358_
       refine Qab (v:=bool true) rfl rfl rfl (g_d rfl ?_)
       refine QaV ?_
       intro T hT
       refine Qbb (m0:=34359738367) hO359_ rfl 8796093022207 [35,36,37,38,39,40,41,42] [0,1,3,7,15,31,63,127,127,511,1023,2047,4095,8191,16383,32767,65535,65535,262143,524287,1048575,2097151,4194303,8388607,16777215,33554431,67108863,134217727,268435455,536870911,536870911,2147483647,4294967295,8589934591,17179869183,34359738367,34359738367,137438953471,274877906943,549755813887,34359738367,1133871366143,3332894621695,8796093022207,17592186044415] (by decide+kernel) (fun D t w=>∃ O:Nat→Value,t=(O 0::O 1::O 2::O 3::O 4::pointer (some ⟨b9,0,none⟩)::O 6::O 7::O 8::O 9::O 10::O 11::O 12::O 13::O 14::O 15::v42::O 17::O 18::O 19::O 20::O 21::pointer (some ⟨b62,0,none⟩)::O 23::int .u16 (u16w ((shlI .u16 1 (u64w r6.Qad)) - 1))::pointer (some ⟨b66,0,none⟩)::int .i64 x96::O 27::int .i64 r97.2::pointer (some ⟨b101,0,none⟩)::int .i64 r100.2::pointer (some ⟨b105,0,none⟩)::int .i64 r104.2::bool x116::O 34::int .u16 x119::bool r120.1::int .i64 r120.2::O 38::O 39::oT O 4 (oT O 5 (oT O 6 (oT O 7 (oT O 8 (oT O 9 (oT O 10 (oT O 11 (oT O 12 (oT O 13 (oT O 14 (oT O 15 (oT O 16 (oT O 17 (oT O 18 (oT O 19 (oT O 20 (oT O 21 (oT O 22 (oT O 23 (oT O 24 (O 250::O 251::tuple #[bool r120.1,int .i64 r120.2]::agg (([int .i8 r6.Qad,int .i8 r6.Qag,v7]:List Value)).toArray::int .u16 x119::tuple #[bool r120.1,int .i64 r120.2]::bool r120.1::int .i64 r120.2::int .i64 r97.2::bool false::bool false::bool x116::bool (!x116)::bool false::bool false::int .i64 r100.2::int .i64 r104.2::bool (r100.2 !=r104.2)::bool false::bool false::int .i64 r100.2::bool (r100.2 !=0)::bool false::bool false::agg (Qaa r100.1).toArray::agg (Qaa r104.1).toArray::bool (!decide (r100.1=r104.1))::bool false::bool false::int .i64 r120.2::bool (r120.2 !=0)::bool true::bool true::O 283::O 284::bool true::bool true::O 287::O 288::O 289::O 290::bool true::bool true::cnd (D 35) undef (O 293)::cnd (D 36) undef (O 294)::cnd (D 37) undef (O 295)::cnd (D 38) undef (O 296)::cnd (D 39) undef (O 297)::cnd (D 40) undef (O 298)::cnd (D 41) undef (O 299)::cnd (D 42) undef (O 300)::O 301::O 302::O 303::O 304::O 305::O 306::[]))))))))))))))))))))))∧St w0 [Cells b9 (([int .i8 r6.Qad,int .i8 r6.Qag,v7]:List Value)) 27,Row 46 (K.int .u16) v7 r6.Qal,Row 46 (K.int .u16) v42 r41.1,Cells b62 (Qaa r61.1) 48,Cells b66 (Qaa x95) 48,Cells b101 (Qaa r100.1) 48,Cells b105 (Qaa r104.1) 48] w) ?_ ⟨?_,⟨?_,⟨?_,⟨?_,⟨?_,⟨?_,⟨?_,⟨?_,trivial⟩⟩⟩⟩⟩⟩⟩⟩ ?_
       ·exact ⟨fun i=>T.getD i undef,(by subst hT;rfl),hs⟩
       ·
        rintro D t w hD hp hcl ⟨O,ht,hs⟩ rest hk
        have hp:AllDone D [34]:=hp
        obtain ⟨p34_,_⟩:=hp
        have q37_:=ny hcl 37 0 hD
        have q38_:=ny hcl 38 0 q37_
        have q39_:=ny hcl 39 0 q38_
        simp only [hD,q37_,q38_,q39_,cq,oT] at ht hs
        subst ht
        refine Qae rfl rfl (g_d rfl ?_)
        try dsimp only [Qah,Qai]
        refine hk _ _ ⟨O,?_,hs.cast ?_⟩<;>simp only [oT,cq,Nat.reduceBEq,q37_,q38_,q39_]
       ·
        rintro D t w hD hp hcl ⟨O,ht,hs⟩ rest hk
        have hp:AllDone D [34]:=hp
        obtain ⟨p34_,_⟩:=hp
        have q37_:=ny hcl 37 1 hD
        have q38_:=ny hcl 38 0 q37_
        have q39_:=ny hcl 39 0 q38_
        simp only [hD,q37_,q38_,q39_,cq,oT] at ht hs
        subst ht
        refine Qae rfl rfl (g_d rfl ?_)
        try dsimp only [Qah,Qai]
        refine hk _ _ ⟨O,?_,hs.cast ?_⟩<;>simp only [oT,cq,Nat.reduceBEq,q37_,q38_,q39_]
       ·
        rintro D t w hD hp hcl ⟨O,ht,hs⟩ rest hk
        have hp:AllDone D [35,36,34]:=hp
        obtain ⟨p35_,p36_,p34_,_⟩:=hp
        have q38_:=ny hcl 38 0 hD
        have q39_:=ny hcl 39 0 q38_
        simp only [hD,p35_,p36_,q38_,q39_,cq,oT] at ht hs
        subst ht
        refine Qae rfl rfl (g_d rfl ?_)
        try dsimp only [Qah,Qai]
        refine hk _ _ ⟨O,?_,hs.cast ?_⟩<;>simp only [oT,cq,Nat.reduceBEq,p35_,p36_,q38_,q39_]
       ·
        rintro D t w hD hp hcl ⟨O,ht,hs⟩ rest hk
        have hp:AllDone D [37,34]:=hp
        obtain ⟨p37_,p34_,_⟩:=hp
        obtain ⟨p35_,p36_,_,_⟩:=(show D 37=true→AllDone D [35,36,34] from hcl 37 (by decide)) p37_
        have q39_:=ny hcl 39 0 hD
        simp only [hD,p35_,p36_,p37_,q39_,cq,oT] at ht hs
        subst ht
        refine Qae rfl rfl (g_d rfl ?_)
        try dsimp only [Qah,Qai]
        refine hk _ _ ⟨O,?_,hs.cast ?_⟩<;>simp only [oT,cq,Nat.reduceBEq,p35_,p36_,p37_,q39_]
       ·
        rintro D t w hD hp hcl ⟨O,ht,hs⟩ rest hk
        have hp:AllDone D [38,34,34]:=hp
        obtain ⟨p38_,p34_,_,_⟩:=hp
        obtain ⟨p37_,_,_⟩:=(show D 38=true→AllDone D [37,34] from hcl 38 (by decide)) p38_
        obtain ⟨p35_,p36_,_,_⟩:=(show D 37=true→AllDone D [35,36,34] from hcl 37 (by decide)) p37_
        simp only [hD,p35_,p36_,p37_,p38_,cq,oT] at ht hs
        subst ht
        refine Qae rfl rfl (g_d rfl ?_)
        try dsimp only [Qah,Qai]
        refine hk _ _ ⟨O,?_,hs.cast ?_⟩<;>simp only [oT,cq,Nat.reduceBEq,p35_,p36_,p37_,p38_]
       ·
        rintro D t w hD hp hcl ⟨O,ht,hs⟩ rest hk
        have hp:AllDone D [34]:=hp
        obtain ⟨p34_,_⟩:=hp
        have q41_:=ny hcl 41 0 hD
        have q42_:=ny hcl 42 0 q41_
        simp only [hD,q41_,q42_,cq,oT] at ht hs
        subst ht
        refine Qae rfl rfl (g_d rfl ?_)
        try dsimp only [Qah,Qai]
        refine hk _ _ ⟨O,?_,hs.cast ?_⟩<;>simp only [oT,cq,Nat.reduceBEq,q41_,q42_]
       ·
        rintro D t w hD hp hcl ⟨O,ht,hs⟩ rest hk
        have hp:AllDone D [40,34]:=hp
        obtain ⟨p40_,p34_,_⟩:=hp
        have q42_:=ny hcl 42 0 hD
        simp only [hD,p40_,q42_,cq,oT] at ht hs
        subst ht
        refine Qae rfl rfl (g_d rfl ?_)
        try dsimp only [Qah,Qai]
        refine hk _ _ ⟨O,?_,hs.cast ?_⟩<;>simp only [oT,cq,Nat.reduceBEq,p40_,q42_]
       ·
        rintro D t w hD hp hcl ⟨O,ht,hs⟩ rest hk
        have hp:AllDone D [41,34]:=hp
        obtain ⟨p41_,p34_,_⟩:=hp
        obtain ⟨p40_,_,_⟩:=(show D 41=true→AllDone D [40,34] from hcl 41 (by decide)) p41_
        simp only [hD,p40_,p41_,cq,oT] at ht hs
        subst ht
        refine Qae rfl rfl (g_d rfl ?_)
        try dsimp only [Qah,Qai]
        refine hk _ _ ⟨O,?_,hs.cast ?_⟩<;>simp only [oT,cq,Nat.reduceBEq,p40_,p41_]
       intro D t w rest hall hO360_ hI
       obtain ⟨O,ht,hs⟩:=hI
       have p35_:=hall 35 (by decide) rfl
       have p36_:=hall 36 (by decide) rfl
       have p37_:=hall 37 (by decide) rfl
       have p38_:=hall 38 (by decide) rfl
       have p39_:=hall 39 (by decide) rfl
       have p40_:=hall 40 (by decide) rfl
       have p41_:=hall 41 (by decide) rfl
       have p42_:=hall 42 (by decide) rfl
       simp only [p35_,p36_,p37_,p38_,p39_,p40_,p41_,p42_,cq,oT] at ht hs
       subst ht
       obtain ⟨rest,rfl,hO361_⟩:=ord_one (m:=8796093022207) hO360_ rfl 43 (m':=17592186044415) (by decide+kernel) rfl
       clear hO360_
       refine Qae rfl rfl (g_d rfl ?_)
       try dsimp only [Qah,Qai]
       obtain ⟨rest,rfl,hO362_⟩:=ord_one (m:=17592186044415) hO361_ rfl 44 (m':=35184372088831) (by decide+kernel) rfl
       clear hO361_
       refine Qab (v:=bool true) rfl rfl rfl (g_d rfl ?_)
       obtain rfl:=ord_end hO362_ rfl (by decide+kernel)
       refine Qac (Qaq rfl (Qaj (Qan [0] rfl ?_)))
       refine Qab (v:=bool false) rfl rfl rfl (g_d rfl ?_)
       try dsimp only [Qah,Qai]
       refine Qac ?_
       obtain rfl:=QsJ H
       subst Hx1_
       have H:=QsJ Hr1_
       subst H
       refine QaB Tryz.func3 (v:=bool false) (res1 rfl rfl) ?_
       have hs:St _ [] _:=St.take (Γ':=[_,_,_,_,_,_,_]) hs
       exact ⟨_,rfl,rfl,hs⟩
      intro hb
      rw [if_pos (b_bne_f hb)] at H
      refine g_d rfl ?_
      obtain ⟨rest,rfl,hO363_⟩:=ord_one (m:=16777215) hO349_ rfl 24 (m':=33554431) (by decide+kernel) rfl
      clear hO349_
      refine Qab (v:=bool false) rfl rfl rfl (g_d rfl ?_)
      obtain ⟨rest,rfl,hO364_⟩:=ord_one (m:=33554431) hO363_ rfl 25 (m':=67108863) (by decide+kernel) rfl
      clear hO363_
      refine Qab (v:=bool r120.1) rfl rfl rfl (g_d rfl ?_)
      obtain ⟨rest,rfl,hO365_⟩:=ord_one (m:=67108863) hO364_ rfl 26 (m':=134217727) (by decide+kernel) rfl
      clear hO364_
      refine Qab (v:=bool (!r120.1)) rfl rfl rfl (g_d rfl ?_)
      try dsimp only [Qah,Qai]
      obtain ⟨rest,rfl,hO366_⟩:=ord_one (m:=134217727) hO365_ rfl 27 (m':=268435455) (by decide+kernel) rfl
      clear hO365_
      refine QaI (B:=!r120.1) rfl rfl rfl ?_ ?_
      · as_aux_lemma =>
       intro hb
       rw [if_neg (b_not_t hb)] at H
       refine g_d rfl ?_
       obtain ⟨rest,rfl,hO367_⟩:=ord_one (m:=268435455) hO366_ rfl 28 (m':=536870911) (by decide+kernel) rfl
       clear hO366_
       refine Qab (v:=bool true) rfl rfl rfl (g_d rfl ?_)
       refine QaV ?_
       intro T hT
       refine Qbb (m0:=536870911) hO367_ rfl 2147483647 [29,30] [0,1,3,7,15,31,63,127,127,511,1023,2047,4095,8191,16383,32767,65535,65535,262143,524287,1048575,2097151,4194303,8388607,16777215,33554431,67108863,134217727,268435455,536870911,536870911,2147483647,4294967295,8589934591,17179869183,34359738367,34359738367,137438953471,274877906943,549755813887,34359738367,1133871366143,3332894621695,8796093022207,17592186044415] (by decide+kernel) (fun D t w=>∃ O:Nat→Value,t=(O 0::O 1::O 2::O 3::O 4::pointer (some ⟨b9,0,none⟩)::O 6::O 7::O 8::O 9::O 10::O 11::O 12::O 13::O 14::O 15::v42::O 17::O 18::O 19::O 20::O 21::pointer (some ⟨b62,0,none⟩)::O 23::int .u16 (u16w ((shlI .u16 1 (u64w r6.Qad)) - 1))::pointer (some ⟨b66,0,none⟩)::int .i64 x96::O 27::int .i64 r97.2::pointer (some ⟨b101,0,none⟩)::int .i64 r100.2::pointer (some ⟨b105,0,none⟩)::int .i64 r104.2::bool x116::O 34::int .u16 x119::bool r120.1::int .i64 r120.2::O 38::O 39::oT O 4 (oT O 5 (oT O 6 (oT O 7 (oT O 8 (oT O 9 (oT O 10 (oT O 11 (oT O 12 (oT O 13 (oT O 14 (oT O 15 (oT O 16 (oT O 17 (oT O 18 (oT O 19 (oT O 20 (oT O 21 (oT O 22 (oT O 23 (oT O 24 (O 250::O 251::tuple #[bool r120.1,int .i64 r120.2]::agg (([int .i8 r6.Qad,int .i8 r6.Qag,v7]:List Value)).toArray::int .u16 x119::tuple #[bool r120.1,int .i64 r120.2]::bool r120.1::int .i64 r120.2::int .i64 r97.2::bool false::bool false::bool x116::bool (!x116)::bool false::bool false::int .i64 r100.2::int .i64 r104.2::bool (r100.2 !=r104.2)::bool false::bool false::int .i64 r100.2::bool (r100.2 !=0)::bool false::bool false::agg (Qaa r100.1).toArray::agg (Qaa r104.1).toArray::bool (!decide (r100.1=r104.1))::bool false::bool false::int .i64 r120.2::bool (r120.2 !=0)::bool false::bool false::bool r120.1::bool (!r120.1)::bool true::bool true::cnd (D 29) undef (O 287)::cnd (D 30) undef (O 288)::O 289::oT O 29 (O 300::O 301::O 302::O 303::O 304::O 305::O 306::[])))))))))))))))))))))))∧St w0 [Cells b9 (([int .i8 r6.Qad,int .i8 r6.Qag,v7]:List Value)) 27,Row 46 (K.int .u16) v7 r6.Qal,Row 46 (K.int .u16) v42 r41.1,Cells b62 (Qaa r61.1) 48,Cells b66 (Qaa x95) 48,Cells b101 (Qaa r100.1) 48,Cells b105 (Qaa r104.1) 48] w) ?_ ⟨?_,⟨?_,trivial⟩⟩ ?_
       ·exact ⟨fun i=>T.getD i undef,(by subst hT;rfl),hs⟩
       ·
        rintro D t w hD hp hcl ⟨O,ht,hs⟩ rest hk
        have hp:AllDone D [28]:=hp
        obtain ⟨p28_,_⟩:=hp
        simp only [hD,cq,oT] at ht hs
        subst ht
        refine Qae rfl rfl (g_d rfl ?_)
        try dsimp only [Qah,Qai]
        refine hk _ _ ⟨O,?_,hs.cast ?_⟩<;>simp only [oT,cq,Nat.reduceBEq]
       ·
        rintro D t w hD hp hcl ⟨O,ht,hs⟩ rest hk
        have hp:AllDone D [28]:=hp
        obtain ⟨p28_,_⟩:=hp
        simp only [hD,cq,oT] at ht hs
        subst ht
        refine Qae rfl rfl (g_d rfl ?_)
        try dsimp only [Qah,Qai]
        refine hk _ _ ⟨O,?_,hs.cast ?_⟩<;>simp only [oT,cq,Nat.reduceBEq]
       intro D t w rest hall hO368_ hI
       obtain ⟨O,ht,hs⟩:=hI
       have p29_:=hall 29 (by decide) rfl
       have p30_:=hall 30 (by decide) rfl
       simp only [p29_,p30_,cq,oT] at ht hs
       subst ht
       obtain ⟨rest,rfl,hO369_⟩:=ord_one (m:=2147483647) hO368_ rfl 31 (m':=4294967295) (by decide+kernel) rfl
       clear hO368_
       refine Qae rfl rfl (g_d rfl ?_)
       try dsimp only [Qah,Qai]
       obtain ⟨rest,rfl,hO370_⟩:=ord_one (m:=4294967295) hO369_ rfl 32 (m':=8589934591) (by decide+kernel) rfl
       clear hO369_
       refine Qae rfl rfl (g_d rfl ?_)
       obtain ⟨rest,rfl,hO371_⟩:=ord_one (m:=8589934591) hO370_ rfl 33 (m':=17179869183) (by decide+kernel) rfl
       clear hO370_
       refine Qab (v:=bool true) rfl rfl rfl (g_d rfl ?_)
       try dsimp only [Qah,Qai]
       obtain ⟨rest,rfl,hO372_⟩:=ord_one (m:=17179869183) hO371_ rfl 34 (m':=34359738367) (by decide+kernel) rfl
       clear hO371_
       refine Qab (v:=bool true) rfl rfl rfl (g_d rfl ?_)
       refine QaV ?_
       intro T hT
       refine Qbb (m0:=34359738367) hO372_ rfl 8796093022207 [35,36,37,38,39,40,41,42] [0,1,3,7,15,31,63,127,127,511,1023,2047,4095,8191,16383,32767,65535,65535,262143,524287,1048575,2097151,4194303,8388607,16777215,33554431,67108863,134217727,268435455,536870911,536870911,2147483647,4294967295,8589934591,17179869183,34359738367,34359738367,137438953471,274877906943,549755813887,34359738367,1133871366143,3332894621695,8796093022207,17592186044415] (by decide+kernel) (fun D t w=>∃ O:Nat→Value,t=(O 0::O 1::O 2::O 3::O 4::pointer (some ⟨b9,0,none⟩)::O 6::O 7::O 8::O 9::O 10::O 11::O 12::O 13::O 14::O 15::v42::O 17::O 18::O 19::O 20::O 21::pointer (some ⟨b62,0,none⟩)::O 23::int .u16 (u16w ((shlI .u16 1 (u64w r6.Qad)) - 1))::pointer (some ⟨b66,0,none⟩)::int .i64 x96::O 27::int .i64 r97.2::pointer (some ⟨b101,0,none⟩)::int .i64 r100.2::pointer (some ⟨b105,0,none⟩)::int .i64 r104.2::bool x116::O 34::int .u16 x119::bool r120.1::int .i64 r120.2::O 38::O 39::oT O 4 (oT O 5 (oT O 6 (oT O 7 (oT O 8 (oT O 9 (oT O 10 (oT O 11 (oT O 12 (oT O 13 (oT O 14 (oT O 15 (oT O 16 (oT O 17 (oT O 18 (oT O 19 (oT O 20 (oT O 21 (oT O 22 (oT O 23 (oT O 24 (O 250::O 251::tuple #[bool r120.1,int .i64 r120.2]::agg (([int .i8 r6.Qad,int .i8 r6.Qag,v7]:List Value)).toArray::int .u16 x119::tuple #[bool r120.1,int .i64 r120.2]::bool r120.1::int .i64 r120.2::int .i64 r97.2::bool false::bool false::bool x116::bool (!x116)::bool false::bool false::int .i64 r100.2::int .i64 r104.2::bool (r100.2 !=r104.2)::bool false::bool false::int .i64 r100.2::bool (r100.2 !=0)::bool false::bool false::agg (Qaa r100.1).toArray::agg (Qaa r104.1).toArray::bool (!decide (r100.1=r104.1))::bool false::bool false::int .i64 r120.2::bool (r120.2 !=0)::bool false::bool false::bool r120.1::bool (!r120.1)::bool true::bool true::O 287::O 288::O 289::O 290::bool true::bool true::cnd (D 35) undef (O 293)::cnd (D 36) undef (O 294)::cnd (D 37) undef (O 295)::cnd (D 38) undef (O 296)::cnd (D 39) undef (O 297)::cnd (D 40) undef (O 298)::cnd (D 41) undef (O 299)::cnd (D 42) undef (O 300)::O 301::O 302::O 303::O 304::O 305::O 306::[]))))))))))))))))))))))∧St w0 [Cells b9 (([int .i8 r6.Qad,int .i8 r6.Qag,v7]:List Value)) 27,Row 46 (K.int .u16) v7 r6.Qal,Row 46 (K.int .u16) v42 r41.1,Cells b62 (Qaa r61.1) 48,Cells b66 (Qaa x95) 48,Cells b101 (Qaa r100.1) 48,Cells b105 (Qaa r104.1) 48] w) ?_ ⟨?_,⟨?_,⟨?_,⟨?_,⟨?_,⟨?_,⟨?_,⟨?_,trivial⟩⟩⟩⟩⟩⟩⟩⟩ ?_
       ·exact ⟨fun i=>T.getD i undef,(by subst hT;rfl),hs⟩
       ·
        rintro D t w hD hp hcl ⟨O,ht,hs⟩ rest hk
        have hp:AllDone D [34]:=hp
        obtain ⟨p34_,_⟩:=hp
        have q37_:=ny hcl 37 0 hD
        have q38_:=ny hcl 38 0 q37_
        have q39_:=ny hcl 39 0 q38_
        simp only [hD,q37_,q38_,q39_,cq,oT] at ht hs
        subst ht
        refine Qae rfl rfl (g_d rfl ?_)
        try dsimp only [Qah,Qai]
        refine hk _ _ ⟨O,?_,hs.cast ?_⟩<;>simp only [oT,cq,Nat.reduceBEq,q37_,q38_,q39_]
       ·
        rintro D t w hD hp hcl ⟨O,ht,hs⟩ rest hk
        have hp:AllDone D [34]:=hp
        obtain ⟨p34_,_⟩:=hp
        have q37_:=ny hcl 37 1 hD
        have q38_:=ny hcl 38 0 q37_
        have q39_:=ny hcl 39 0 q38_
        simp only [hD,q37_,q38_,q39_,cq,oT] at ht hs
        subst ht
        refine Qae rfl rfl (g_d rfl ?_)
        try dsimp only [Qah,Qai]
        refine hk _ _ ⟨O,?_,hs.cast ?_⟩<;>simp only [oT,cq,Nat.reduceBEq,q37_,q38_,q39_]
       ·
        rintro D t w hD hp hcl ⟨O,ht,hs⟩ rest hk
        have hp:AllDone D [35,36,34]:=hp
        obtain ⟨p35_,p36_,p34_,_⟩:=hp
        have q38_:=ny hcl 38 0 hD
        have q39_:=ny hcl 39 0 q38_
        simp only [hD,p35_,p36_,q38_,q39_,cq,oT] at ht hs
        subst ht
        refine Qae rfl rfl (g_d rfl ?_)
        try dsimp only [Qah,Qai]
        refine hk _ _ ⟨O,?_,hs.cast ?_⟩<;>simp only [oT,cq,Nat.reduceBEq,p35_,p36_,q38_,q39_]
       ·
        rintro D t w hD hp hcl ⟨O,ht,hs⟩ rest hk
        have hp:AllDone D [37,34]:=hp
        obtain ⟨p37_,p34_,_⟩:=hp
        obtain ⟨p35_,p36_,_,_⟩:=(show D 37=true→AllDone D [35,36,34] from hcl 37 (by decide)) p37_
        have q39_:=ny hcl 39 0 hD
        simp only [hD,p35_,p36_,p37_,q39_,cq,oT] at ht hs
        subst ht
        refine Qae rfl rfl (g_d rfl ?_)
        try dsimp only [Qah,Qai]
        refine hk _ _ ⟨O,?_,hs.cast ?_⟩<;>simp only [oT,cq,Nat.reduceBEq,p35_,p36_,p37_,q39_]
       ·
        rintro D t w hD hp hcl ⟨O,ht,hs⟩ rest hk
        have hp:AllDone D [38,34,34]:=hp
        obtain ⟨p38_,p34_,_,_⟩:=hp
        obtain ⟨p37_,_,_⟩:=(show D 38=true→AllDone D [37,34] from hcl 38 (by decide)) p38_
        obtain ⟨p35_,p36_,_,_⟩:=(show D 37=true→AllDone D [35,36,34] from hcl 37 (by decide)) p37_
        simp only [hD,p35_,p36_,p37_,p38_,cq,oT] at ht hs
        subst ht
        refine Qae rfl rfl (g_d rfl ?_)
        try dsimp only [Qah,Qai]
        refine hk _ _ ⟨O,?_,hs.cast ?_⟩<;>simp only [oT,cq,Nat.reduceBEq,p35_,p36_,p37_,p38_]
       ·
        rintro D t w hD hp hcl ⟨O,ht,hs⟩ rest hk
        have hp:AllDone D [34]:=hp
        obtain ⟨p34_,_⟩:=hp
        have q41_:=ny hcl 41 0 hD
        have q42_:=ny hcl 42 0 q41_
        simp only [hD,q41_,q42_,cq,oT] at ht hs
        subst ht
        refine Qae rfl rfl (g_d rfl ?_)
        try dsimp only [Qah,Qai]
        refine hk _ _ ⟨O,?_,hs.cast ?_⟩<;>simp only [oT,cq,Nat.reduceBEq,q41_,q42_]
       ·
        rintro D t w hD hp hcl ⟨O,ht,hs⟩ rest hk
        have hp:AllDone D [40,34]:=hp
        obtain ⟨p40_,p34_,_⟩:=hp
        have q42_:=ny hcl 42 0 hD
        simp only [hD,p40_,q42_,cq,oT] at ht hs
        subst ht
        refine Qae rfl rfl (g_d rfl ?_)
        try dsimp only [Qah,Qai]
        refine hk _ _ ⟨O,?_,hs.cast ?_⟩<;>simp only [oT,cq,Nat.reduceBEq,p40_,q42_]
       ·
        rintro D t w hD hp hcl ⟨O,ht,hs⟩ rest hk
        have hp:AllDone D [41,34]:=hp
        obtain ⟨p41_,p34_,_⟩:=hp
        obtain ⟨p40_,_,_⟩:=(show D 41=true→AllDone D [40,34] from hcl 41 (by decide)) p41_
        simp only [hD,p40_,p41_,cq,oT] at ht hs
        subst ht
        refine Qae rfl rfl (g_d rfl ?_)
        try dsimp only [Qah,Qai]
        refine hk _ _ ⟨O,?_,hs.cast ?_⟩<;>simp only [oT,cq,Nat.reduceBEq,p40_,p41_]
       intro D t w rest hall hO373_ hI
       obtain ⟨O,ht,hs⟩:=hI
       have p35_:=hall 35 (by decide) rfl
       have p36_:=hall 36 (by decide) rfl
       have p37_:=hall 37 (by decide) rfl
       have p38_:=hall 38 (by decide) rfl
       have p39_:=hall 39 (by decide) rfl
       have p40_:=hall 40 (by decide) rfl
       have p41_:=hall 41 (by decide) rfl
       have p42_:=hall 42 (by decide) rfl
       simp only [p35_,p36_,p37_,p38_,p39_,p40_,p41_,p42_,cq,oT] at ht hs
       subst ht
       obtain ⟨rest,rfl,hO374_⟩:=ord_one (m:=8796093022207) hO373_ rfl 43 (m':=17592186044415) (by decide+kernel) rfl
       clear hO373_
       refine Qae rfl rfl (g_d rfl ?_)
       obtain ⟨rest,rfl,hO375_⟩:=ord_one (m:=17592186044415) hO374_ rfl 44 (m':=35184372088831) (by decide+kernel) rfl
       clear hO374_
       refine Qab (v:=bool true) rfl rfl rfl (g_d rfl ?_)
       try dsimp only [Qah,Qai]
       obtain rfl:=ord_end hO375_ rfl (by decide+kernel)
       refine Qac (Qaq rfl (Qaj (Qan [0] rfl ?_)))
       refine Qab (v:=bool false) rfl rfl rfl (g_d rfl (Qac ?_))
       obtain rfl:=QsJ H
       subst Hx1_
       have H:=QsJ Hr1_
       subst H
       refine QaB Tryz.func3 (v:=bool false) (res1 rfl rfl) ?_
       have hs:St _ [] _:=St.take (Γ':=[_,_,_,_,_,_,_]) hs
       exact ⟨_,rfl,rfl,hs⟩
      intro hb
      rw [if_pos (b_not_f hb)] at H
      refine g_d rfl ?_
      obtain ⟨rest,rfl,hO376_⟩:=ord_one (m:=268435455) hO366_ rfl 28 (m':=536870911) (by decide+kernel) rfl
      clear hO366_
      refine Qab (v:=bool false) rfl rfl rfl (g_d rfl ?_)
      refine QaV ?_
      intro T hT
      refine Qbb (m0:=536870911) hO376_ rfl 2147483647 [29,30] [0,1,3,7,15,31,63,127,127,511,1023,2047,4095,8191,16383,32767,65535,65535,262143,524287,1048575,2097151,4194303,8388607,16777215,33554431,67108863,134217727,268435455,536870911,536870911,2147483647,4294967295,8589934591,17179869183,34359738367,34359738367,137438953471,274877906943,549755813887,34359738367,1133871366143,3332894621695,8796093022207,17592186044415] (by decide+kernel) (fun D t w=>∃ O:Nat→Value,t=(O 0::O 1::O 2::O 3::O 4::pointer (some ⟨b9,0,none⟩)::O 6::O 7::O 8::O 9::O 10::O 11::O 12::O 13::O 14::O 15::v42::O 17::O 18::O 19::O 20::O 21::pointer (some ⟨b62,0,none⟩)::O 23::int .u16 (u16w ((shlI .u16 1 (u64w r6.Qad)) - 1))::pointer (some ⟨b66,0,none⟩)::int .i64 x96::O 27::int .i64 r97.2::pointer (some ⟨b101,0,none⟩)::int .i64 r100.2::pointer (some ⟨b105,0,none⟩)::int .i64 r104.2::bool x116::O 34::int .u16 x119::bool r120.1::int .i64 r120.2::O 38::O 39::oT O 4 (oT O 5 (oT O 6 (oT O 7 (oT O 8 (oT O 9 (oT O 10 (oT O 11 (oT O 12 (oT O 13 (oT O 14 (oT O 15 (oT O 16 (oT O 17 (oT O 18 (oT O 19 (oT O 20 (oT O 21 (oT O 22 (oT O 23 (oT O 24 (O 250::O 251::tuple #[bool r120.1,int .i64 r120.2]::agg (([int .i8 r6.Qad,int .i8 r6.Qag,v7]:List Value)).toArray::int .u16 x119::tuple #[bool r120.1,int .i64 r120.2]::bool r120.1::int .i64 r120.2::int .i64 r97.2::bool false::bool false::bool x116::bool (!x116)::bool false::bool false::int .i64 r100.2::int .i64 r104.2::bool (r100.2 !=r104.2)::bool false::bool false::int .i64 r100.2::bool (r100.2 !=0)::bool false::bool false::agg (Qaa r100.1).toArray::agg (Qaa r104.1).toArray::bool (!decide (r100.1=r104.1))::bool false::bool false::int .i64 r120.2::bool (r120.2 !=0)::bool false::bool false::bool r120.1::bool (!r120.1)::bool false::bool false::cnd (D 29) (agg (([int .i8 r6.Qad,int .i8 r6.Qag,v7]:List Value)).toArray) (O 287)::cnd (D 30) (agg (Qaa r104.1).toArray) (O 288)::O 289::oT O 29 (O 300::O 301::O 302::O 303::O 304::O 305::O 306::[])))))))))))))))))))))))∧St w0 [Cells b9 (([int .i8 r6.Qad,int .i8 r6.Qag,v7]:List Value)) 27,Row 46 (K.int .u16) v7 r6.Qal,Row 46 (K.int .u16) v42 r41.1,Cells b62 (Qaa r61.1) 48,Cells b66 (Qaa x95) 48,Cells b101 (Qaa r100.1) 48,Cells b105 (Qaa r104.1) 48] w) ?_ ⟨?_,⟨?_,trivial⟩⟩ ?_
      ·exact ⟨fun i=>T.getD i undef,(by subst hT;rfl),hs⟩
      ·
       rintro D t w hD hp hcl ⟨O,ht,hs⟩ rest hk
       have hp:AllDone D [28]:=hp
       obtain ⟨p28_,_⟩:=hp
       simp only [hD,cq,oT] at ht hs
       subst ht
       refine QaF rfl rfl (es:=(([int .i8 r6.Qad,int .i8 r6.Qag,v7]:List Value))) rfl rfl (fun _=>rfl) (n:=3) (fun _=>rfl) rfl (cells_all (hs.cells 0 rfl)) (g_d rfl ?_)
       try dsimp only [Qah,Qai]
       refine hk _ _ ⟨O,?_,hs.cast ?_⟩<;>simp only [oT,lq,cq,Nat.reduceBEq]
      ·
       rintro D t w hD hp hcl ⟨O,ht,hs⟩ rest hk
       have hp:AllDone D [28]:=hp
       obtain ⟨p28_,_⟩:=hp
       simp only [hD,cq,oT] at ht hs
       subst ht
       refine QaF rfl rfl (es:=(Qaa r104.1)) rfl rfl (fun _=>rfl) (n:=2) (fun _=>rfl) (Qam.len _) (cells_all (hs.cells 6 rfl)) (g_d rfl ?_)
       try dsimp only [Qah,Qai]
       refine hk _ _ ⟨O,?_,hs.cast ?_⟩<;>simp only [oT,lq,cq,Nat.reduceBEq]
      intro D t w rest hall hO377_ hI
      obtain ⟨O,ht,hs⟩:=hI
      have p29_:=hall 29 (by decide) rfl
      have p30_:=hall 30 (by decide) rfl
      simp only [p29_,p30_,cq,oT] at ht hs
      subst ht
      obtain ⟨rest,rfl,hO378_⟩:=ord_one (m:=2147483647) hO377_ rfl 31 (m':=4294967295) (by decide+kernel) rfl
      clear hO377_
      obtain ⟨r121,Hr121,H⟩:=bind_get H
      refine Qaz (args:=[agg (([int .i8 r6.Qad,int .i8 r6.Qag,v7]:List Value)).toArray,agg (Qaa r104.1).toArray]) rfl rfl (QaA rfl (callFunc_enter Tryz.func25 rfl rfl) rfl) (QbK.calls (a1:=(⟨r6.Qad,r6.Qag,r6.Qal⟩:Qaf)) (a4:=r104.1) (hs.row 1 rfl) Hr121) ?_
      rintro _ w ⟨rfl,hs2⟩
      have hs:St _ [_,_,_,_,_,_,_] _:=hs.call hs2
      refine g_d rfl ?_
      try dsimp only [Qah,Qai]
      obtain ⟨rest,rfl,hO379_⟩:=ord_one (m:=4294967295) hO378_ rfl 32 (m':=8589934591) (by decide+kernel) rfl
      clear hO378_
      refine Qab (v:=bool (!r121)) rfl rfl rfl (g_d rfl ?_)
      obtain ⟨rest,rfl,hO380_⟩:=ord_one (m:=8589934591) hO379_ rfl 33 (m':=17179869183) (by decide+kernel) rfl
      clear hO379_
      refine QaI (B:=!r121) rfl rfl rfl ?_ ?_
      · as_aux_lemma =>
       intro hb
       rw [if_neg (b_not_t hb)] at H
       refine g_d rfl ?_
       obtain ⟨rest,rfl,hO381_⟩:=ord_one (m:=17179869183) hO380_ rfl 34 (m':=34359738367) (by decide+kernel) rfl
       clear hO380_
       refine Qab (v:=bool true) rfl rfl rfl (g_d rfl ?_)
       refine QaV ?_
       intro T hT
       refine Qbb (m0:=34359738367) hO381_ rfl 8796093022207 [35,36,37,38,39,40,41,42] [0,1,3,7,15,31,63,127,127,511,1023,2047,4095,8191,16383,32767,65535,65535,262143,524287,1048575,2097151,4194303,8388607,16777215,33554431,67108863,134217727,268435455,536870911,536870911,2147483647,4294967295,8589934591,17179869183,34359738367,34359738367,137438953471,274877906943,549755813887,34359738367,1133871366143,3332894621695,8796093022207,17592186044415] (by decide+kernel) (fun D t w=>∃ O:Nat→Value,t=(O 0::O 1::O 2::O 3::O 4::pointer (some ⟨b9,0,none⟩)::O 6::O 7::O 8::O 9::O 10::O 11::O 12::O 13::O 14::O 15::v42::O 17::O 18::O 19::O 20::O 21::pointer (some ⟨b62,0,none⟩)::O 23::int .u16 (u16w ((shlI .u16 1 (u64w r6.Qad)) - 1))::pointer (some ⟨b66,0,none⟩)::int .i64 x96::O 27::int .i64 r97.2::pointer (some ⟨b101,0,none⟩)::int .i64 r100.2::pointer (some ⟨b105,0,none⟩)::int .i64 r104.2::bool x116::O 34::int .u16 x119::bool r120.1::int .i64 r120.2::O 38::O 39::oT O 4 (oT O 5 (oT O 6 (oT O 7 (oT O 8 (oT O 9 (oT O 10 (oT O 11 (oT O 12 (oT O 13 (oT O 14 (oT O 15 (oT O 16 (oT O 17 (oT O 18 (oT O 19 (oT O 20 (oT O 21 (oT O 22 (oT O 23 (oT O 24 (O 250::O 251::tuple #[bool r120.1,int .i64 r120.2]::agg (([int .i8 r6.Qad,int .i8 r6.Qag,v7]:List Value)).toArray::int .u16 x119::tuple #[bool r120.1,int .i64 r120.2]::bool r120.1::int .i64 r120.2::int .i64 r97.2::bool false::bool false::bool x116::bool (!x116)::bool false::bool false::int .i64 r100.2::int .i64 r104.2::bool (r100.2 !=r104.2)::bool false::bool false::int .i64 r100.2::bool (r100.2 !=0)::bool false::bool false::agg (Qaa r100.1).toArray::agg (Qaa r104.1).toArray::bool (!decide (r100.1=r104.1))::bool false::bool false::int .i64 r120.2::bool (r120.2 !=0)::bool false::bool false::bool r120.1::bool (!r120.1)::bool false::bool false::agg (([int .i8 r6.Qad,int .i8 r6.Qag,v7]:List Value)).toArray::agg (Qaa r104.1).toArray::bool r121::bool (!r121)::bool true::bool true::cnd (D 35) undef (O 293)::cnd (D 36) undef (O 294)::cnd (D 37) undef (O 295)::cnd (D 38) undef (O 296)::cnd (D 39) undef (O 297)::cnd (D 40) undef (O 298)::cnd (D 41) undef (O 299)::cnd (D 42) undef (O 300)::O 301::O 302::O 303::O 304::O 305::O 306::[]))))))))))))))))))))))∧St w0 [Cells b9 (([int .i8 r6.Qad,int .i8 r6.Qag,v7]:List Value)) 27,Row 46 (K.int .u16) v7 r6.Qal,Row 46 (K.int .u16) v42 r41.1,Cells b62 (Qaa r61.1) 48,Cells b66 (Qaa x95) 48,Cells b101 (Qaa r100.1) 48,Cells b105 (Qaa r104.1) 48] w) ?_ ⟨?_,⟨?_,⟨?_,⟨?_,⟨?_,⟨?_,⟨?_,⟨?_,trivial⟩⟩⟩⟩⟩⟩⟩⟩ ?_
       ·exact ⟨fun i=>T.getD i undef,(by subst hT;rfl),hs⟩
       ·
        rintro D t w hD hp hcl ⟨O,ht,hs⟩ rest hk
        have hp:AllDone D [34]:=hp
        obtain ⟨p34_,_⟩:=hp
        have q37_:=ny hcl 37 0 hD
        have q38_:=ny hcl 38 0 q37_
        have q39_:=ny hcl 39 0 q38_
        simp only [hD,q37_,q38_,q39_,cq,oT] at ht hs
        subst ht
        refine Qae rfl rfl (g_d rfl ?_)
        try dsimp only [Qah,Qai]
        refine hk _ _ ⟨O,?_,hs.cast ?_⟩<;>simp only [oT,cq,Nat.reduceBEq,q37_,q38_,q39_]
       ·
        rintro D t w hD hp hcl ⟨O,ht,hs⟩ rest hk
        have hp:AllDone D [34]:=hp
        obtain ⟨p34_,_⟩:=hp
        have q37_:=ny hcl 37 1 hD
        have q38_:=ny hcl 38 0 q37_
        have q39_:=ny hcl 39 0 q38_
        simp only [hD,q37_,q38_,q39_,cq,oT] at ht hs
        subst ht
        refine Qae rfl rfl (g_d rfl ?_)
        try dsimp only [Qah,Qai]
        refine hk _ _ ⟨O,?_,hs.cast ?_⟩<;>simp only [oT,cq,Nat.reduceBEq,q37_,q38_,q39_]
       ·
        rintro D t w hD hp hcl ⟨O,ht,hs⟩ rest hk
        have hp:AllDone D [35,36,34]:=hp
        obtain ⟨p35_,p36_,p34_,_⟩:=hp
        have q38_:=ny hcl 38 0 hD
        have q39_:=ny hcl 39 0 q38_
        simp only [hD,p35_,p36_,q38_,q39_,cq,oT] at ht hs
        subst ht
        refine Qae rfl rfl (g_d rfl ?_)
        try dsimp only [Qah,Qai]
        refine hk _ _ ⟨O,?_,hs.cast ?_⟩<;>simp only [oT,cq,Nat.reduceBEq,p35_,p36_,q38_,q39_]
       ·
        rintro D t w hD hp hcl ⟨O,ht,hs⟩ rest hk
        have hp:AllDone D [37,34]:=hp
        obtain ⟨p37_,p34_,_⟩:=hp
        obtain ⟨p35_,p36_,_,_⟩:=(show D 37=true→AllDone D [35,36,34] from hcl 37 (by decide)) p37_
        have q39_:=ny hcl 39 0 hD
        simp only [hD,p35_,p36_,p37_,q39_,cq,oT] at ht hs
        subst ht
        refine Qae rfl rfl (g_d rfl ?_)
        try dsimp only [Qah,Qai]
        refine hk _ _ ⟨O,?_,hs.cast ?_⟩<;>simp only [oT,cq,Nat.reduceBEq,p35_,p36_,p37_,q39_]
       ·
        rintro D t w hD hp hcl ⟨O,ht,hs⟩ rest hk
        have hp:AllDone D [38,34,34]:=hp
        obtain ⟨p38_,p34_,_,_⟩:=hp
        obtain ⟨p37_,_,_⟩:=(show D 38=true→AllDone D [37,34] from hcl 38 (by decide)) p38_
        obtain ⟨p35_,p36_,_,_⟩:=(show D 37=true→AllDone D [35,36,34] from hcl 37 (by decide)) p37_
        simp only [hD,p35_,p36_,p37_,p38_,cq,oT] at ht hs
        subst ht
        refine Qae rfl rfl (g_d rfl ?_)
        try dsimp only [Qah,Qai]
        refine hk _ _ ⟨O,?_,hs.cast ?_⟩<;>simp only [oT,cq,Nat.reduceBEq,p35_,p36_,p37_,p38_]
       ·
        rintro D t w hD hp hcl ⟨O,ht,hs⟩ rest hk
        have hp:AllDone D [34]:=hp
        obtain ⟨p34_,_⟩:=hp
        have q41_:=ny hcl 41 0 hD
        have q42_:=ny hcl 42 0 q41_
        simp only [hD,q41_,q42_,cq,oT] at ht hs
        subst ht
        refine Qae rfl rfl (g_d rfl ?_)
        try dsimp only [Qah,Qai]
        refine hk _ _ ⟨O,?_,hs.cast ?_⟩<;>simp only [oT,cq,Nat.reduceBEq,q41_,q42_]
       ·
        rintro D t w hD hp hcl ⟨O,ht,hs⟩ rest hk
        have hp:AllDone D [40,34]:=hp
        obtain ⟨p40_,p34_,_⟩:=hp
        have q42_:=ny hcl 42 0 hD
        simp only [hD,p40_,q42_,cq,oT] at ht hs
        subst ht
        refine Qae rfl rfl (g_d rfl ?_)
        try dsimp only [Qah,Qai]
        refine hk _ _ ⟨O,?_,hs.cast ?_⟩<;>simp only [oT,cq,Nat.reduceBEq,p40_,q42_]
       ·
        rintro D t w hD hp hcl ⟨O,ht,hs⟩ rest hk
        have hp:AllDone D [41,34]:=hp
        obtain ⟨p41_,p34_,_⟩:=hp
        obtain ⟨p40_,_,_⟩:=(show D 41=true→AllDone D [40,34] from hcl 41 (by decide)) p41_
        simp only [hD,p40_,p41_,cq,oT] at ht hs
        subst ht
        refine Qae rfl rfl (g_d rfl ?_)
        try dsimp only [Qah,Qai]
        refine hk _ _ ⟨O,?_,hs.cast ?_⟩<;>simp only [oT,cq,Nat.reduceBEq,p40_,p41_]
       intro D t w rest hall hO382_ hI
       obtain ⟨O,ht,hs⟩:=hI
       have p35_:=hall 35 (by decide) rfl
       have p36_:=hall 36 (by decide) rfl
       have p37_:=hall 37 (by decide) rfl
       have p38_:=hall 38 (by decide) rfl
       have p39_:=hall 39 (by decide) rfl
       have p40_:=hall 40 (by decide) rfl
       have p41_:=hall 41 (by decide) rfl
       have p42_:=hall 42 (by decide) rfl
       simp only [p35_,p36_,p37_,p38_,p39_,p40_,p41_,p42_,cq,oT] at ht hs
       subst ht
       obtain ⟨rest,rfl,hO383_⟩:=ord_one (m:=8796093022207) hO382_ rfl 43 (m':=17592186044415) (by decide+kernel) rfl
       clear hO382_
       refine Qae rfl rfl (g_d rfl ?_)
       try dsimp only [Qah,Qai]
       obtain ⟨rest,rfl,hO384_⟩:=ord_one (m:=17592186044415) hO383_ rfl 44 (m':=35184372088831) (by decide+kernel) rfl
       clear hO383_
       refine Qab (v:=bool true) rfl rfl rfl (g_d rfl ?_)
       obtain rfl:=ord_end hO384_ rfl (by decide+kernel)
       refine Qac (Qaq rfl (Qaj (Qan [0] rfl ?_)))
       refine Qab (v:=bool false) rfl rfl rfl (g_d rfl ?_)
       try dsimp only [Qah,Qai]
       refine Qac ?_
       obtain rfl:=QsJ H
       subst Hx1_
       have H:=QsJ Hr1_
       subst H
       refine QaB Tryz.func3 (v:=bool false) (res1 rfl rfl) ?_
       have hs:St _ [] _:=St.take (Γ':=[_,_,_,_,_,_,_]) hs
       exact ⟨_,rfl,rfl,hs⟩
      intro hb
      rw [if_pos (b_not_f hb)] at H
      refine g_d rfl ?_
      try dsimp only [Qah,Qai]
      obtain ⟨rest,rfl,hO385_⟩:=ord_one (m:=17179869183) hO380_ rfl 34 (m':=34359738367) (by decide+kernel) rfl
      clear hO380_
      refine Qab (v:=bool false) rfl rfl rfl (g_d rfl ?_)
      obtain ⟨gd387,H⟩:=ite_get H
      obtain ⟨ad388_,ad388_N,ad388_C,had388_⟩:=sl_at (hs.row 2 rfl) gd387.1 gd387.2
      obtain ⟨r122,Hr122,H⟩:=bind_get H
      refine QaV ?_
      intro T hT
      refine Qbb (m0:=34359738367) hO385_ rfl 8796093022207 [35,36,37,38,39,40,41,42] [0,1,3,7,15,31,63,127,127,511,1023,2047,4095,8191,16383,32767,65535,65535,262143,524287,1048575,2097151,4194303,8388607,16777215,33554431,67108863,134217727,268435455,536870911,536870911,2147483647,4294967295,8589934591,17179869183,34359738367,34359738367,137438953471,274877906943,549755813887,34359738367,1133871366143,3332894621695,8796093022207,17592186044415] (by decide+kernel) (fun D t w=>∃ O:Nat→Value,t=(O 0::O 1::O 2::O 3::O 4::pointer (some ⟨b9,0,none⟩)::O 6::O 7::O 8::O 9::O 10::O 11::O 12::O 13::O 14::O 15::v42::O 17::O 18::O 19::O 20::O 21::pointer (some ⟨b62,0,none⟩)::O 23::int .u16 (u16w ((shlI .u16 1 (u64w r6.Qad)) - 1))::pointer (some ⟨b66,0,none⟩)::int .i64 x96::O 27::int .i64 r97.2::pointer (some ⟨b101,0,none⟩)::int .i64 r100.2::pointer (some ⟨b105,0,none⟩)::int .i64 r104.2::bool x116::O 34::int .u16 x119::bool r120.1::int .i64 r120.2::O 38::O 39::oT O 4 (oT O 5 (oT O 6 (oT O 7 (oT O 8 (oT O 9 (oT O 10 (oT O 11 (oT O 12 (oT O 13 (oT O 14 (oT O 15 (oT O 16 (oT O 17 (oT O 18 (oT O 19 (oT O 20 (oT O 21 (oT O 22 (oT O 23 (oT O 24 (O 250::O 251::tuple #[bool r120.1,int .i64 r120.2]::agg (([int .i8 r6.Qad,int .i8 r6.Qag,v7]:List Value)).toArray::int .u16 x119::tuple #[bool r120.1,int .i64 r120.2]::bool r120.1::int .i64 r120.2::int .i64 r97.2::bool false::bool false::bool x116::bool (!x116)::bool false::bool false::int .i64 r100.2::int .i64 r104.2::bool (r100.2 !=r104.2)::bool false::bool false::int .i64 r100.2::bool (r100.2 !=0)::bool false::bool false::agg (Qaa r100.1).toArray::agg (Qaa r104.1).toArray::bool (!decide (r100.1=r104.1))::bool false::bool false::int .i64 r120.2::bool (r120.2 !=0)::bool false::bool false::bool r120.1::bool (!r120.1)::bool false::bool false::agg (([int .i8 r6.Qad,int .i8 r6.Qag,v7]:List Value)).toArray::agg (Qaa r104.1).toArray::bool r121::bool (!r121)::bool false::bool false::cnd (D 35) v42 (O 293)::cnd (D 36) (int .i64 x96) (O 294)::cnd (D 37) (pointer (some (ad388_.add (x96.toNat*1)))) (O 295)::cnd (D 38) (int .u16 (rdL r41.1 x96 0)) (O 296)::cnd (D 39) (int .i64 r122) (O 297)::cnd (D 40) (pointer (some ⟨b9,1,none⟩)) (O 298)::cnd (D 41) (int .i8 r6.Qag) (O 299)::cnd (D 42) (int .i64 (i64w r6.Qag)) (O 300)::O 301::O 302::O 303::O 304::O 305::O 306::[]))))))))))))))))))))))∧St w0 [Cells b9 (([int .i8 r6.Qad,int .i8 r6.Qag,v7]:List Value)) 27,Row 46 (K.int .u16) v7 r6.Qal,Row 46 (K.int .u16) v42 r41.1,Cells b62 (Qaa r61.1) 48,Cells b66 (Qaa x95) 48,Cells b101 (Qaa r100.1) 48,Cells b105 (Qaa r104.1) 48] w) ?_ ⟨?_,⟨?_,⟨?_,⟨?_,⟨?_,⟨?_,⟨?_,⟨?_,trivial⟩⟩⟩⟩⟩⟩⟩⟩ ?_
      ·exact ⟨fun i=>T.getD i undef,(by subst hT;rfl),hs⟩
      ·
       rintro D t w hD hp hcl ⟨O,ht,hs⟩ rest hk
       have hp:AllDone D [34]:=hp
       obtain ⟨p34_,_⟩:=hp
       have q37_:=ny hcl 37 0 hD
       have q38_:=ny hcl 38 0 q37_
       have q39_:=ny hcl 39 0 q38_
       simp only [hD,q37_,q38_,q39_,cq,oT] at ht hs
       subst ht
       refine Qab (v:=v42) rfl rfl rfl (g_d rfl ?_)
       try dsimp only [Qah,Qai]
       refine hk _ _ ⟨O,?_,hs.cast ?_⟩<;>simp only [oT,lq,cq,Nat.reduceBEq,q37_,q38_,q39_]
      ·
       rintro D t w hD hp hcl ⟨O,ht,hs⟩ rest hk
       have hp:AllDone D [34]:=hp
       obtain ⟨p34_,_⟩:=hp
       have q37_:=ny hcl 37 1 hD
       have q38_:=ny hcl 38 0 q37_
       have q39_:=ny hcl 39 0 q38_
       simp only [hD,q37_,q38_,q39_,cq,oT] at ht hs
       subst ht
       refine Qab (v:=int .i64 x96) rfl rfl rfl (g_d rfl ?_)
       try dsimp only [Qah,Qai]
       refine hk _ _ ⟨O,?_,hs.cast ?_⟩<;>simp only [oT,lq,cq,Nat.reduceBEq,q37_,q38_,q39_]
      ·
       rintro D t w hD hp hcl ⟨O,ht,hs⟩ rest hk
       have hp:AllDone D [35,36,34]:=hp
       obtain ⟨p35_,p36_,p34_,_⟩:=hp
       have q38_:=ny hcl 38 0 hD
       have q39_:=ny hcl 39 0 q38_
       simp only [hD,p35_,p36_,q38_,q39_,cq,oT] at ht hs
       subst ht
       refine QbJ (κ:=(K.int .u16)) (m:=1) rfl (hs.row 2 rfl) rfl (fun _=>rfl) gd387.1 gd387.2 had388_ rfl rfl rfl rfl rfl (g_d rfl ?_)
       try dsimp only [Qah,Qai]
       refine hk _ _ ⟨O,?_,hs.cast ?_⟩<;>simp only [oT,lq,cq,Nat.reduceBEq,p35_,p36_,q38_,q39_]
      ·
       rintro D t w hD hp hcl ⟨O,ht,hs⟩ rest hk
       have hp:AllDone D [37,34]:=hp
       obtain ⟨p37_,p34_,_⟩:=hp
       obtain ⟨p35_,p36_,_,_⟩:=(show D 37=true→AllDone D [35,36,34] from hcl 37 (by decide)) p37_
       have q39_:=ny hcl 39 0 hD
       simp only [hD,p35_,p36_,p37_,q39_,cq,oT] at ht hs
       subst ht
       refine Qaw rfl rfl (v:=int .u16 (rdL r41.1 x96 0)) rfl rfl (fun _=>rfl) (cellsAt_of (fkI .u16) 0 (hs.row 2 rfl) had388_ gd387.1 gd387.2) (g_d rfl ?_)
       try dsimp only [Qah,Qai]
       refine hk _ _ ⟨O,?_,hs.cast ?_⟩<;>simp only [oT,lq,cq,Nat.reduceBEq,p35_,p36_,p37_,q39_]
      ·
       rintro D t w hD hp hcl ⟨O,ht,hs⟩ rest hk
       have hp:AllDone D [38,34,34]:=hp
       obtain ⟨p38_,p34_,_,_⟩:=hp
       obtain ⟨p37_,_,_⟩:=(show D 38=true→AllDone D [37,34] from hcl 38 (by decide)) p38_
       obtain ⟨p35_,p36_,_,_⟩:=(show D 37=true→AllDone D [35,36,34] from hcl 37 (by decide)) p37_
       simp only [hD,p35_,p36_,p37_,p38_,cq,oT] at ht hs
       subst ht
       refine Qaz (args:=[int .u16 (rdL r41.1 x96 0)]) rfl rfl (QaA rfl (callFunc_enter Tryz.func26 rfl rfl) rfl) (Qcd.calls (a1:=rdL r41.1 x96 0) Hr122) ?_
       rintro _ w ⟨rfl,hs2⟩
       have hs:St _ [_,_,_,_,_,_,_] _:=hs.call hs2
       refine g_d rfl ?_
       try dsimp only [Qah,Qai]
       refine hk _ _ ⟨O,?_,hs.cast ?_⟩<;>simp only [oT,lq,cq,Nat.reduceBEq,p35_,p36_,p37_,p38_]
      ·
       rintro D t w hD hp hcl ⟨O,ht,hs⟩ rest hk
       have hp:AllDone D [34]:=hp
       obtain ⟨p34_,_⟩:=hp
       have q41_:=ny hcl 41 0 hD
       have q42_:=ny hcl 42 0 q41_
       simp only [hD,q41_,q42_,cq,oT] at ht hs
       subst ht
       refine Qab (v:=pointer (some ⟨b9,1,none⟩)) rfl rfl rfl (g_d rfl ?_)
       try dsimp only [Qah,Qai]
       refine hk _ _ ⟨O,?_,hs.cast ?_⟩<;>simp only [oT,lq,cq,Nat.reduceBEq,q41_,q42_]
      ·
       rintro D t w hD hp hcl ⟨O,ht,hs⟩ rest hk
       have hp:AllDone D [40,34]:=hp
       obtain ⟨p40_,p34_,_⟩:=hp
       have q42_:=ny hcl 42 0 hD
       simp only [hD,p40_,q42_,cq,oT] at ht hs
       subst ht
       refine Qaw rfl rfl (v:=int .i8 r6.Qag) rfl rfl (fun _=>rfl) (cells_load (hs.cells 0 rfl) 1 1 rfl) (g_d rfl ?_)
       try dsimp only [Qah,Qai]
       refine hk _ _ ⟨O,?_,hs.cast ?_⟩<;>simp only [oT,lq,cq,Nat.reduceBEq,p40_,q42_]
      ·
       rintro D t w hD hp hcl ⟨O,ht,hs⟩ rest hk
       have hp:AllDone D [41,34]:=hp
       obtain ⟨p41_,p34_,_⟩:=hp
       obtain ⟨p40_,_,_⟩:=(show D 41=true→AllDone D [40,34] from hcl 41 (by decide)) p41_
       simp only [hD,p40_,p41_,cq,oT] at ht hs
       subst ht
       refine Qab (v:=int .i64 (i64w r6.Qag)) rfl rfl rfl (g_d rfl ?_)
       try dsimp only [Qah,Qai]
       refine hk _ _ ⟨O,?_,hs.cast ?_⟩<;>simp only [oT,lq,cq,Nat.reduceBEq,p40_,p41_]
      intro D t w rest hall hO386_ hI
      obtain ⟨O,ht,hs⟩:=hI
      have p35_:=hall 35 (by decide) rfl
      have p36_:=hall 36 (by decide) rfl
      have p37_:=hall 37 (by decide) rfl
      have p38_:=hall 38 (by decide) rfl
      have p39_:=hall 39 (by decide) rfl
      have p40_:=hall 40 (by decide) rfl
      have p41_:=hall 41 (by decide) rfl
      have p42_:=hall 42 (by decide) rfl
      simp only [p35_,p36_,p37_,p38_,p39_,p40_,p41_,p42_,cq,oT] at ht hs
      subst ht
      obtain ⟨rest,rfl,hO389_⟩:=ord_one (m:=8796093022207) hO386_ rfl 43 (m':=17592186044415) (by decide+kernel) rfl
      clear hO386_
      refine QaI (B:=decide (r122>(i64w r6.Qag))) rfl rfl rfl ?_ ?_
      ·
       intro hb
       rw [if_pos (b_dec_t hb)] at H
       refine g_d rfl ?_
       try dsimp only [Qah,Qai]
       obtain ⟨rest,rfl,hO390_⟩:=ord_one (m:=17592186044415) hO389_ rfl 44 (m':=35184372088831) (by decide+kernel) rfl
       clear hO389_
       refine Qab (v:=bool true) rfl rfl rfl (g_d rfl ?_)
       obtain rfl:=ord_end hO390_ rfl (by decide+kernel)
       refine Qac (Qaq rfl (Qaj (Qan [0] rfl ?_)))
       refine Qab (v:=bool false) rfl rfl rfl (g_d rfl ?_)
       try dsimp only [Qah,Qai]
       refine Qac ?_
       obtain rfl:=QsJ H
       subst Hx1_
       have H:=QsJ Hr1_
       subst H
       refine QaB Tryz.func3 (v:=bool false) (res1 rfl rfl) ?_
       have hs:St _ [] _:=St.take (Γ':=[_,_,_,_,_,_,_]) hs
       exact ⟨_,rfl,rfl,hs⟩
      intro hb
      rw [if_neg (b_dec_f hb)] at H
      refine g_d rfl ?_
      obtain ⟨rest,rfl,hO391_⟩:=ord_one (m:=17592186044415) hO389_ rfl 44 (m':=35184372088831) (by decide+kernel) rfl
      clear hO389_
      refine Qab (v:=bool false) rfl rfl rfl (g_d rfl ?_)
      try dsimp only [Qah,Qai]
      obtain rfl:=ord_end hO391_ rfl (by decide+kernel)
      refine Qac (Qas rfl (QaK (Qan [0,1] rfl ?_)))
      refine QaF rfl rfl (es:=(Qaa r104.1)) rfl rfl (fun _=>rfl) (n:=2) (fun _=>rfl) (Qam.len _) (cells_all (hs.cells 6 rfl)) (g_d rfl ?_)
      have hs:St _ [_,_,_,_,_,_,_] _:=hs.pull 4 rfl
      refine QaY (n:=2) hs (Qam.len _) rfl rfl (vs:=(Qaa r104.1)) rfl rfl rfl (fun _=>rfl) (Qam.len _) (Qam.one _) ?_
      intro w hs
      refine g_n rfl (Qac ?_)
      refine Qa0 (Qan [0,1,2] rfl ?_)
      refine Qab (v:=int .i64 x96) rfl rfl rfl (g_d rfl ?_)
      refine Qab (v:=int .i64 (i64w (x96+1))) rfl rfl rfl (g_d rfl ?_)
      try dsimp only [Qah,Qai]
      refine Qab (v:=int .i64 (i64w (x96+1))) rfl rfl rfl (g_d rfl (Qac ?_))
      obtain rfl:=QsJ H
      have hs:=hs.pull 0 rfl
      have hs:=hs.pull 4 rfl
      have hs:=hs.pull 4 rfl
      have hs:=hs.pull 3 rfl
      have hs:=hs.pull 4 rfl
      have hs:St _ [_,_,_,_,_] _:=St.take (Γ':=[_,_]) hs
      exact ih1_ _ _ ⟨r104.1,i64w (x96+1),Hx1_,rfl,hs⟩
     rw [if_neg hb235_] at H
     refine Qck (n:=45) rfl [0,1,2,3,4,5,6,7,8,9,10,11,12,13,14,15,16,17,18,19,20,21,22,23,24,25,26,27,28,29,30,31,32,33,34,35,36,37,38,39,40,41,42,43,44] [0,1,2,3,4,5,6,7,8,9,10,11,12,13,14,15,16,17,18,19,20,21,22,23,24,25,26,27,28,29,30,31,32,33,34,35,36,37,38,39,40,41,42,43,44] rfl rfl ?_
     intro rest w hh hbw hO
     have hs:=hs.samew hh hbw
     try dsimp only [Qah,Qai]
     obtain ⟨rest,rfl,hO392_⟩:=ord_one (m:=0) hO rfl 0 (m':=1) (by decide+kernel) rfl
     clear hO
     refine Qab (v:=int .i64 r97.2) rfl rfl rfl (g_d rfl ?_)
     obtain ⟨rest,rfl,hO393_⟩:=ord_one (m:=1) hO392_ rfl 1 (m':=3) (by decide+kernel) rfl
     clear hO392_
     refine Qab (v:=bool true) rfl rfl (run_bool (b:=r97.2 !=0) rfl (by first|exact decide_eq_true hb235_|exact decide_eq_false hb235_|simp [hb235_])) (g_d rfl ?_)
     try dsimp only [Qah,Qai]
     obtain ⟨rest,rfl,hO394_⟩:=ord_one (m:=3) hO393_ rfl 2 (m':=7) (by decide+kernel) rfl
     clear hO393_
     refine Qab (v:=bool true) rfl rfl rfl (g_d rfl ?_)
     obtain ⟨rest,rfl,hO395_⟩:=ord_one (m:=7) hO394_ rfl 3 (m':=15) (by decide+kernel) rfl
     clear hO394_
     refine Qae rfl rfl (g_d rfl ?_)
     obtain ⟨rest,rfl,hO396_⟩:=ord_one (m:=15) hO395_ rfl 4 (m':=31) (by decide+kernel) rfl
     clear hO395_
     refine Qae rfl rfl (g_d rfl ?_)
     obtain ⟨rest,rfl,hO397_⟩:=ord_one (m:=31) hO396_ rfl 5 (m':=63) (by decide+kernel) rfl
     clear hO396_
     refine Qab (v:=bool true) rfl rfl rfl (g_d rfl ?_)
     try dsimp only [Qah,Qai]
     obtain ⟨rest,rfl,hO398_⟩:=ord_one (m:=63) hO397_ rfl 6 (m':=127) (by decide+kernel) rfl
     clear hO397_
     refine Qab (v:=bool true) rfl rfl rfl (g_d rfl ?_)
     refine QaV ?_
     intro T hT
     refine Qbb (m0:=127) hO398_ rfl 511 [7,8] [0,1,3,7,15,31,63,127,127,511,1023,2047,4095,8191,16383,32767,65535,65535,262143,524287,1048575,2097151,4194303,8388607,16777215,33554431,67108863,134217727,268435455,536870911,536870911,2147483647,4294967295,8589934591,17179869183,34359738367,34359738367,137438953471,274877906943,549755813887,34359738367,1133871366143,3332894621695,8796093022207,17592186044415] (by decide+kernel) (fun D t w=>∃ O:Nat→Value,t=(O 0::O 1::O 2::O 3::O 4::pointer (some ⟨b9,0,none⟩)::O 6::O 7::O 8::O 9::O 10::O 11::O 12::O 13::O 14::O 15::v42::O 17::O 18::O 19::O 20::O 21::pointer (some ⟨b62,0,none⟩)::O 23::int .u16 (u16w ((shlI .u16 1 (u64w r6.Qad)) - 1))::pointer (some ⟨b66,0,none⟩)::int .i64 x96::O 27::int .i64 r97.2::pointer (some ⟨b101,0,none⟩)::int .i64 r100.2::pointer (some ⟨b105,0,none⟩)::int .i64 r104.2::bool x116::O 34::int .u16 x119::bool r120.1::int .i64 r120.2::O 38::O 39::oT O 4 (oT O 5 (oT O 6 (oT O 7 (oT O 8 (oT O 9 (oT O 10 (oT O 11 (oT O 12 (oT O 13 (oT O 14 (oT O 15 (oT O 16 (oT O 17 (oT O 18 (oT O 19 (oT O 20 (oT O 21 (oT O 22 (oT O 23 (oT O 24 (O 250::O 251::tuple #[bool r120.1,int .i64 r120.2]::agg (([int .i8 r6.Qad,int .i8 r6.Qag,v7]:List Value)).toArray::int .u16 x119::tuple #[bool r120.1,int .i64 r120.2]::bool r120.1::int .i64 r120.2::int .i64 r97.2::bool true::bool true::O 261::O 262::bool true::bool true::cnd (D 7) undef (O 265)::cnd (D 8) undef (O 266)::O 267::O 268::O 269::oT O 27 (oT O 28 (oT O 29 (O 300::O 301::O 302::O 303::O 304::O 305::O 306::[])))))))))))))))))))))))))∧St w0 [Cells b9 (([int .i8 r6.Qad,int .i8 r6.Qag,v7]:List Value)) 27,Row 46 (K.int .u16) v7 r6.Qal,Row 46 (K.int .u16) v42 r41.1,Cells b62 (Qaa r61.1) 48,Cells b66 (Qaa x95) 48,Cells b101 (Qaa r100.1) 48,Cells b105 (Qaa r104.1) 48] w) ?_ ⟨?_,⟨?_,trivial⟩⟩ ?_
     ·exact ⟨fun i=>T.getD i undef,(by subst hT;rfl),hs⟩
     ·
      rintro D t w hD hp hcl ⟨O,ht,hs⟩ rest hk
      have hp:AllDone D [6]:=hp
      obtain ⟨p6_,_⟩:=hp
      simp only [hD,cq,oT] at ht hs
      subst ht
      refine Qae rfl rfl (g_d rfl ?_)
      try dsimp only [Qah,Qai]
      refine hk _ _ ⟨O,?_,hs.cast ?_⟩<;>simp only [oT,cq,Nat.reduceBEq]
     ·
      rintro D t w hD hp hcl ⟨O,ht,hs⟩ rest hk
      have hp:AllDone D [6]:=hp
      obtain ⟨p6_,_⟩:=hp
      simp only [hD,cq,oT] at ht hs
      subst ht
      refine Qae rfl rfl (g_d rfl ?_)
      try dsimp only [Qah,Qai]
      refine hk _ _ ⟨O,?_,hs.cast ?_⟩<;>simp only [oT,cq,Nat.reduceBEq]
     intro D t w rest hall hO399_ hI
     obtain ⟨O,ht,hs⟩:=hI
     have p7_:=hall 7 (by decide) rfl
     have p8_:=hall 8 (by decide) rfl
     simp only [p7_,p8_,cq,oT] at ht hs
     subst ht
     obtain ⟨rest,rfl,hO400_⟩:=ord_one (m:=511) hO399_ rfl 9 (m':=1023) (by decide+kernel) rfl
     clear hO399_
     refine Qae rfl rfl (g_d rfl ?_)
     obtain ⟨rest,rfl,hO401_⟩:=ord_one (m:=1023) hO400_ rfl 10 (m':=2047) (by decide+kernel) rfl
     clear hO400_
     refine Qab (v:=bool true) rfl rfl rfl (g_d rfl ?_)
     try dsimp only [Qah,Qai]
     obtain ⟨rest,rfl,hO402_⟩:=ord_one (m:=2047) hO401_ rfl 11 (m':=4095) (by decide+kernel) rfl
     clear hO401_
     refine Qab (v:=bool true) rfl rfl rfl (g_d rfl ?_)
     obtain ⟨rest,rfl,hO403_⟩:=ord_one (m:=4095) hO402_ rfl 12 (m':=8191) (by decide+kernel) rfl
     clear hO402_
     refine Qae rfl rfl (g_d rfl ?_)
     obtain ⟨rest,rfl,hO404_⟩:=ord_one (m:=8191) hO403_ rfl 13 (m':=16383) (by decide+kernel) rfl
     clear hO403_
     refine Qae rfl rfl (g_d rfl ?_)
     obtain ⟨rest,rfl,hO405_⟩:=ord_one (m:=16383) hO404_ rfl 14 (m':=32767) (by decide+kernel) rfl
     clear hO404_
     refine Qab (v:=bool true) rfl rfl rfl (g_d rfl ?_)
     try dsimp only [Qah,Qai]
     obtain ⟨rest,rfl,hO406_⟩:=ord_one (m:=32767) hO405_ rfl 15 (m':=65535) (by decide+kernel) rfl
     clear hO405_
     refine Qab (v:=bool true) rfl rfl rfl (g_d rfl ?_)
     refine QaV ?_
     intro T hT
     refine Qbb (m0:=65535) hO406_ rfl 262143 [16,17] [0,1,3,7,15,31,63,127,127,511,1023,2047,4095,8191,16383,32767,65535,65535,262143,524287,1048575,2097151,4194303,8388607,16777215,33554431,67108863,134217727,268435455,536870911,536870911,2147483647,4294967295,8589934591,17179869183,34359738367,34359738367,137438953471,274877906943,549755813887,34359738367,1133871366143,3332894621695,8796093022207,17592186044415] (by decide+kernel) (fun D t w=>∃ O:Nat→Value,t=(O 0::O 1::O 2::O 3::O 4::pointer (some ⟨b9,0,none⟩)::O 6::O 7::O 8::O 9::O 10::O 11::O 12::O 13::O 14::O 15::v42::O 17::O 18::O 19::O 20::O 21::pointer (some ⟨b62,0,none⟩)::O 23::int .u16 (u16w ((shlI .u16 1 (u64w r6.Qad)) - 1))::pointer (some ⟨b66,0,none⟩)::int .i64 x96::O 27::int .i64 r97.2::pointer (some ⟨b101,0,none⟩)::int .i64 r100.2::pointer (some ⟨b105,0,none⟩)::int .i64 r104.2::bool x116::O 34::int .u16 x119::bool r120.1::int .i64 r120.2::O 38::O 39::oT O 4 (oT O 5 (oT O 6 (oT O 7 (oT O 8 (oT O 9 (oT O 10 (oT O 11 (oT O 12 (oT O 13 (oT O 14 (oT O 15 (oT O 16 (oT O 17 (oT O 18 (oT O 19 (oT O 20 (oT O 21 (oT O 22 (oT O 23 (oT O 24 (O 250::O 251::tuple #[bool r120.1,int .i64 r120.2]::agg (([int .i8 r6.Qad,int .i8 r6.Qag,v7]:List Value)).toArray::int .u16 x119::tuple #[bool r120.1,int .i64 r120.2]::bool r120.1::int .i64 r120.2::int .i64 r97.2::bool true::bool true::O 261::O 262::bool true::bool true::O 265::O 266::O 267::bool true::bool true::O 270::O 271::bool true::bool true::cnd (D 16) undef (O 274)::cnd (D 17) undef (O 275)::O 276::O 277::O 278::O 279::oT O 28 (oT O 29 (O 300::O 301::O 302::O 303::O 304::O 305::O 306::[]))))))))))))))))))))))))∧St w0 [Cells b9 (([int .i8 r6.Qad,int .i8 r6.Qag,v7]:List Value)) 27,Row 46 (K.int .u16) v7 r6.Qal,Row 46 (K.int .u16) v42 r41.1,Cells b62 (Qaa r61.1) 48,Cells b66 (Qaa x95) 48,Cells b101 (Qaa r100.1) 48,Cells b105 (Qaa r104.1) 48] w) ?_ ⟨?_,⟨?_,trivial⟩⟩ ?_
     ·exact ⟨fun i=>T.getD i undef,(by subst hT;rfl),hs⟩
     ·
      rintro D t w hD hp hcl ⟨O,ht,hs⟩ rest hk
      have hp:AllDone D [15]:=hp
      obtain ⟨p15_,_⟩:=hp
      simp only [hD,cq,oT] at ht hs
      subst ht
      refine Qae rfl rfl (g_d rfl ?_)
      try dsimp only [Qah,Qai]
      refine hk _ _ ⟨O,?_,hs.cast ?_⟩<;>simp only [oT,cq,Nat.reduceBEq]
     ·
      rintro D t w hD hp hcl ⟨O,ht,hs⟩ rest hk
      have hp:AllDone D [15]:=hp
      obtain ⟨p15_,_⟩:=hp
      simp only [hD,cq,oT] at ht hs
      subst ht
      refine Qae rfl rfl (g_d rfl ?_)
      try dsimp only [Qah,Qai]
      refine hk _ _ ⟨O,?_,hs.cast ?_⟩<;>simp only [oT,cq,Nat.reduceBEq]
     intro D t w rest hall hO407_ hI
     obtain ⟨O,ht,hs⟩:=hI
     have p16_:=hall 16 (by decide) rfl
     have p17_:=hall 17 (by decide) rfl
     simp only [p16_,p17_,cq,oT] at ht hs
     subst ht
     obtain ⟨rest,rfl,hO408_⟩:=ord_one (m:=262143) hO407_ rfl 18 (m':=524287) (by decide+kernel) rfl
     clear hO407_
     refine Qae rfl rfl (g_d rfl ?_)
     obtain ⟨rest,rfl,hO409_⟩:=ord_one (m:=524287) hO408_ rfl 19 (m':=1048575) (by decide+kernel) rfl
     clear hO408_
     refine Qab (v:=bool true) rfl rfl rfl (g_d rfl ?_)
     try dsimp only [Qah,Qai]
     obtain ⟨rest,rfl,hO410_⟩:=ord_one (m:=1048575) hO409_ rfl 20 (m':=2097151) (by decide+kernel) rfl
     clear hO409_
     refine Qab (v:=bool true) rfl rfl rfl (g_d rfl ?_)
     obtain ⟨rest,rfl,hO411_⟩:=ord_one (m:=2097151) hO410_ rfl 21 (m':=4194303) (by decide+kernel) rfl
     clear hO410_
     refine Qae rfl rfl (g_d rfl ?_)
     obtain ⟨rest,rfl,hO412_⟩:=ord_one (m:=4194303) hO411_ rfl 22 (m':=8388607) (by decide+kernel) rfl
     clear hO411_
     refine Qae rfl rfl (g_d rfl ?_)
     obtain ⟨rest,rfl,hO413_⟩:=ord_one (m:=8388607) hO412_ rfl 23 (m':=16777215) (by decide+kernel) rfl
     clear hO412_
     refine Qab (v:=bool true) rfl rfl rfl (g_d rfl ?_)
     try dsimp only [Qah,Qai]
     obtain ⟨rest,rfl,hO414_⟩:=ord_one (m:=16777215) hO413_ rfl 24 (m':=33554431) (by decide+kernel) rfl
     clear hO413_
     refine Qab (v:=bool true) rfl rfl rfl (g_d rfl ?_)
     obtain ⟨rest,rfl,hO415_⟩:=ord_one (m:=33554431) hO414_ rfl 25 (m':=67108863) (by decide+kernel) rfl
     clear hO414_
     refine Qae rfl rfl (g_d rfl ?_)
     obtain ⟨rest,rfl,hO416_⟩:=ord_one (m:=67108863) hO415_ rfl 26 (m':=134217727) (by decide+kernel) rfl
     clear hO415_
     refine Qae rfl rfl (g_d rfl ?_)
     obtain ⟨rest,rfl,hO417_⟩:=ord_one (m:=134217727) hO416_ rfl 27 (m':=268435455) (by decide+kernel) rfl
     clear hO416_
     refine Qab (v:=bool true) rfl rfl rfl (g_d rfl ?_)
     try dsimp only [Qah,Qai]
     obtain ⟨rest,rfl,hO418_⟩:=ord_one (m:=268435455) hO417_ rfl 28 (m':=536870911) (by decide+kernel) rfl
     clear hO417_
     refine Qab (v:=bool true) rfl rfl rfl (g_d rfl ?_)
     refine QaV ?_
     intro T hT
     refine Qbb (m0:=536870911) hO418_ rfl 2147483647 [29,30] [0,1,3,7,15,31,63,127,127,511,1023,2047,4095,8191,16383,32767,65535,65535,262143,524287,1048575,2097151,4194303,8388607,16777215,33554431,67108863,134217727,268435455,536870911,536870911,2147483647,4294967295,8589934591,17179869183,34359738367,34359738367,137438953471,274877906943,549755813887,34359738367,1133871366143,3332894621695,8796093022207,17592186044415] (by decide+kernel) (fun D t w=>∃ O:Nat→Value,t=(O 0::O 1::O 2::O 3::O 4::pointer (some ⟨b9,0,none⟩)::O 6::O 7::O 8::O 9::O 10::O 11::O 12::O 13::O 14::O 15::v42::O 17::O 18::O 19::O 20::O 21::pointer (some ⟨b62,0,none⟩)::O 23::int .u16 (u16w ((shlI .u16 1 (u64w r6.Qad)) - 1))::pointer (some ⟨b66,0,none⟩)::int .i64 x96::O 27::int .i64 r97.2::pointer (some ⟨b101,0,none⟩)::int .i64 r100.2::pointer (some ⟨b105,0,none⟩)::int .i64 r104.2::bool x116::O 34::int .u16 x119::bool r120.1::int .i64 r120.2::O 38::O 39::oT O 4 (oT O 5 (oT O 6 (oT O 7 (oT O 8 (oT O 9 (oT O 10 (oT O 11 (oT O 12 (oT O 13 (oT O 14 (oT O 15 (oT O 16 (oT O 17 (oT O 18 (oT O 19 (oT O 20 (oT O 21 (oT O 22 (oT O 23 (oT O 24 (O 250::O 251::tuple #[bool r120.1,int .i64 r120.2]::agg (([int .i8 r6.Qad,int .i8 r6.Qag,v7]:List Value)).toArray::int .u16 x119::tuple #[bool r120.1,int .i64 r120.2]::bool r120.1::int .i64 r120.2::int .i64 r97.2::bool true::bool true::O 261::O 262::bool true::bool true::O 265::O 266::O 267::bool true::bool true::O 270::O 271::bool true::bool true::O 274::O 275::O 276::bool true::bool true::O 279::O 280::bool true::bool true::O 283::O 284::bool true::bool true::cnd (D 29) undef (O 287)::cnd (D 30) undef (O 288)::O 289::oT O 29 (O 300::O 301::O 302::O 303::O 304::O 305::O 306::[])))))))))))))))))))))))∧St w0 [Cells b9 (([int .i8 r6.Qad,int .i8 r6.Qag,v7]:List Value)) 27,Row 46 (K.int .u16) v7 r6.Qal,Row 46 (K.int .u16) v42 r41.1,Cells b62 (Qaa r61.1) 48,Cells b66 (Qaa x95) 48,Cells b101 (Qaa r100.1) 48,Cells b105 (Qaa r104.1) 48] w) ?_ ⟨?_,⟨?_,trivial⟩⟩ ?_
     ·exact ⟨fun i=>T.getD i undef,(by subst hT;rfl),hs⟩
     ·
      rintro D t w hD hp hcl ⟨O,ht,hs⟩ rest hk
      have hp:AllDone D [28]:=hp
      obtain ⟨p28_,_⟩:=hp
      simp only [hD,cq,oT] at ht hs
      subst ht
      refine Qae rfl rfl (g_d rfl ?_)
      try dsimp only [Qah,Qai]
      refine hk _ _ ⟨O,?_,hs.cast ?_⟩<;>simp only [oT,cq,Nat.reduceBEq]
     ·
      rintro D t w hD hp hcl ⟨O,ht,hs⟩ rest hk
      have hp:AllDone D [28]:=hp
      obtain ⟨p28_,_⟩:=hp
      simp only [hD,cq,oT] at ht hs
      subst ht
      refine Qae rfl rfl (g_d rfl ?_)
      try dsimp only [Qah,Qai]
      refine hk _ _ ⟨O,?_,hs.cast ?_⟩<;>simp only [oT,cq,Nat.reduceBEq]
     intro D t w rest hall hO419_ hI
     obtain ⟨O,ht,hs⟩:=hI
     have p29_:=hall 29 (by decide) rfl
     have p30_:=hall 30 (by decide) rfl
     simp only [p29_,p30_,cq,oT] at ht hs
     subst ht
     obtain ⟨rest,rfl,hO420_⟩:=ord_one (m:=2147483647) hO419_ rfl 31 (m':=4294967295) (by decide+kernel) rfl
     clear hO419_
     refine Qae rfl rfl (g_d rfl ?_)
     obtain ⟨rest,rfl,hO421_⟩:=ord_one (m:=4294967295) hO420_ rfl 32 (m':=8589934591) (by decide+kernel) rfl
     clear hO420_
     refine Qae rfl rfl (g_d rfl ?_)
     try dsimp only [Qah,Qai]
     obtain ⟨rest,rfl,hO422_⟩:=ord_one (m:=8589934591) hO421_ rfl 33 (m':=17179869183) (by decide+kernel) rfl
     clear hO421_
     refine Qab (v:=bool true) rfl rfl rfl (g_d rfl ?_)
     obtain ⟨rest,rfl,hO423_⟩:=ord_one (m:=17179869183) hO422_ rfl 34 (m':=34359738367) (by decide+kernel) rfl
     clear hO422_
     refine Qab (v:=bool true) rfl rfl rfl (g_d rfl ?_)
     refine QaV ?_
     intro T hT
     refine Qbb (m0:=34359738367) hO423_ rfl 8796093022207 [35,36,37,38,39,40,41,42] [0,1,3,7,15,31,63,127,127,511,1023,2047,4095,8191,16383,32767,65535,65535,262143,524287,1048575,2097151,4194303,8388607,16777215,33554431,67108863,134217727,268435455,536870911,536870911,2147483647,4294967295,8589934591,17179869183,34359738367,34359738367,137438953471,274877906943,549755813887,34359738367,1133871366143,3332894621695,8796093022207,17592186044415] (by decide+kernel) (fun D t w=>∃ O:Nat→Value,t=(O 0::O 1::O 2::O 3::O 4::pointer (some ⟨b9,0,none⟩)::O 6::O 7::O 8::O 9::O 10::O 11::O 12::O 13::O 14::O 15::v42::O 17::O 18::O 19::O 20::O 21::pointer (some ⟨b62,0,none⟩)::O 23::int .u16 (u16w ((shlI .u16 1 (u64w r6.Qad)) - 1))::pointer (some ⟨b66,0,none⟩)::int .i64 x96::O 27::int .i64 r97.2::pointer (some ⟨b101,0,none⟩)::int .i64 r100.2::pointer (some ⟨b105,0,none⟩)::int .i64 r104.2::bool x116::O 34::int .u16 x119::bool r120.1::int .i64 r120.2::O 38::O 39::oT O 4 (oT O 5 (oT O 6 (oT O 7 (oT O 8 (oT O 9 (oT O 10 (oT O 11 (oT O 12 (oT O 13 (oT O 14 (oT O 15 (oT O 16 (oT O 17 (oT O 18 (oT O 19 (oT O 20 (oT O 21 (oT O 22 (oT O 23 (oT O 24 (O 250::O 251::tuple #[bool r120.1,int .i64 r120.2]::agg (([int .i8 r6.Qad,int .i8 r6.Qag,v7]:List Value)).toArray::int .u16 x119::tuple #[bool r120.1,int .i64 r120.2]::bool r120.1::int .i64 r120.2::int .i64 r97.2::bool true::bool true::O 261::O 262::bool true::bool true::O 265::O 266::O 267::bool true::bool true::O 270::O 271::bool true::bool true::O 274::O 275::O 276::bool true::bool true::O 279::O 280::bool true::bool true::O 283::O 284::bool true::bool true::O 287::O 288::O 289::O 290::bool true::bool true::cnd (D 35) undef (O 293)::cnd (D 36) undef (O 294)::cnd (D 37) undef (O 295)::cnd (D 38) undef (O 296)::cnd (D 39) undef (O 297)::cnd (D 40) undef (O 298)::cnd (D 41) undef (O 299)::cnd (D 42) undef (O 300)::O 301::O 302::O 303::O 304::O 305::O 306::[]))))))))))))))))))))))∧St w0 [Cells b9 (([int .i8 r6.Qad,int .i8 r6.Qag,v7]:List Value)) 27,Row 46 (K.int .u16) v7 r6.Qal,Row 46 (K.int .u16) v42 r41.1,Cells b62 (Qaa r61.1) 48,Cells b66 (Qaa x95) 48,Cells b101 (Qaa r100.1) 48,Cells b105 (Qaa r104.1) 48] w) ?_ ⟨?_,⟨?_,⟨?_,⟨?_,⟨?_,⟨?_,⟨?_,⟨?_,trivial⟩⟩⟩⟩⟩⟩⟩⟩ ?_
     ·exact ⟨fun i=>T.getD i undef,(by subst hT;rfl),hs⟩
     ·
      rintro D t w hD hp hcl ⟨O,ht,hs⟩ rest hk
      have hp:AllDone D [34]:=hp
      obtain ⟨p34_,_⟩:=hp
      have q37_:=ny hcl 37 0 hD
      have q38_:=ny hcl 38 0 q37_
      have q39_:=ny hcl 39 0 q38_
      simp only [hD,q37_,q38_,q39_,cq,oT] at ht hs
      subst ht
      refine Qae rfl rfl (g_d rfl ?_)
      try dsimp only [Qah,Qai]
      refine hk _ _ ⟨O,?_,hs.cast ?_⟩<;>simp only [oT,cq,Nat.reduceBEq,q37_,q38_,q39_]
     ·
      rintro D t w hD hp hcl ⟨O,ht,hs⟩ rest hk
      have hp:AllDone D [34]:=hp
      obtain ⟨p34_,_⟩:=hp
      have q37_:=ny hcl 37 1 hD
      have q38_:=ny hcl 38 0 q37_
      have q39_:=ny hcl 39 0 q38_
      simp only [hD,q37_,q38_,q39_,cq,oT] at ht hs
      subst ht
      refine Qae rfl rfl (g_d rfl ?_)
      try dsimp only [Qah,Qai]
      refine hk _ _ ⟨O,?_,hs.cast ?_⟩<;>simp only [oT,cq,Nat.reduceBEq,q37_,q38_,q39_]
     ·
      rintro D t w hD hp hcl ⟨O,ht,hs⟩ rest hk
      have hp:AllDone D [35,36,34]:=hp
      obtain ⟨p35_,p36_,p34_,_⟩:=hp
      have q38_:=ny hcl 38 0 hD
      have q39_:=ny hcl 39 0 q38_
      simp only [hD,p35_,p36_,q38_,q39_,cq,oT] at ht hs
      subst ht
      refine Qae rfl rfl (g_d rfl ?_)
      try dsimp only [Qah,Qai]
      refine hk _ _ ⟨O,?_,hs.cast ?_⟩<;>simp only [oT,cq,Nat.reduceBEq,p35_,p36_,q38_,q39_]
     ·
      rintro D t w hD hp hcl ⟨O,ht,hs⟩ rest hk
      have hp:AllDone D [37,34]:=hp
      obtain ⟨p37_,p34_,_⟩:=hp
      obtain ⟨p35_,p36_,_,_⟩:=(show D 37=true→AllDone D [35,36,34] from hcl 37 (by decide)) p37_
      have q39_:=ny hcl 39 0 hD
      simp only [hD,p35_,p36_,p37_,q39_,cq,oT] at ht hs
      subst ht
      refine Qae rfl rfl (g_d rfl ?_)
      try dsimp only [Qah,Qai]
      refine hk _ _ ⟨O,?_,hs.cast ?_⟩<;>simp only [oT,cq,Nat.reduceBEq,p35_,p36_,p37_,q39_]
     ·
      rintro D t w hD hp hcl ⟨O,ht,hs⟩ rest hk
      have hp:AllDone D [38,34,34]:=hp
      obtain ⟨p38_,p34_,_,_⟩:=hp
      obtain ⟨p37_,_,_⟩:=(show D 38=true→AllDone D [37,34] from hcl 38 (by decide)) p38_
      obtain ⟨p35_,p36_,_,_⟩:=(show D 37=true→AllDone D [35,36,34] from hcl 37 (by decide)) p37_
      simp only [hD,p35_,p36_,p37_,p38_,cq,oT] at ht hs
      subst ht
      refine Qae rfl rfl (g_d rfl ?_)
      try dsimp only [Qah,Qai]
      refine hk _ _ ⟨O,?_,hs.cast ?_⟩<;>simp only [oT,cq,Nat.reduceBEq,p35_,p36_,p37_,p38_]
     ·
      rintro D t w hD hp hcl ⟨O,ht,hs⟩ rest hk
      have hp:AllDone D [34]:=hp
      obtain ⟨p34_,_⟩:=hp
      have q41_:=ny hcl 41 0 hD
      have q42_:=ny hcl 42 0 q41_
      simp only [hD,q41_,q42_,cq,oT] at ht hs
      subst ht
      refine Qae rfl rfl (g_d rfl ?_)
      try dsimp only [Qah,Qai]
      refine hk _ _ ⟨O,?_,hs.cast ?_⟩<;>simp only [oT,cq,Nat.reduceBEq,q41_,q42_]
     ·
      rintro D t w hD hp hcl ⟨O,ht,hs⟩ rest hk
      have hp:AllDone D [40,34]:=hp
      obtain ⟨p40_,p34_,_⟩:=hp
      have q42_:=ny hcl 42 0 hD
      simp only [hD,p40_,q42_,cq,oT] at ht hs
      subst ht
      refine Qae rfl rfl (g_d rfl ?_)
      try dsimp only [Qah,Qai]
      refine hk _ _ ⟨O,?_,hs.cast ?_⟩<;>simp only [oT,cq,Nat.reduceBEq,p40_,q42_]
     ·
      rintro D t w hD hp hcl ⟨O,ht,hs⟩ rest hk
      have hp:AllDone D [41,34]:=hp
      obtain ⟨p41_,p34_,_⟩:=hp
      obtain ⟨p40_,_,_⟩:=(show D 41=true→AllDone D [40,34] from hcl 41 (by decide)) p41_
      simp only [hD,p40_,p41_,cq,oT] at ht hs
      subst ht
      refine Qae rfl rfl (g_d rfl ?_)
      try dsimp only [Qah,Qai]
      refine hk _ _ ⟨O,?_,hs.cast ?_⟩<;>simp only [oT,cq,Nat.reduceBEq,p40_,p41_]
     intro D t w rest hall hO424_ hI
     obtain ⟨O,ht,hs⟩:=hI
     have p35_:=hall 35 (by decide) rfl
     have p36_:=hall 36 (by decide) rfl
     have p37_:=hall 37 (by decide) rfl
     have p38_:=hall 38 (by decide) rfl
     have p39_:=hall 39 (by decide) rfl
     have p40_:=hall 40 (by decide) rfl
     have p41_:=hall 41 (by decide) rfl
     have p42_:=hall 42 (by decide) rfl
     simp only [p35_,p36_,p37_,p38_,p39_,p40_,p41_,p42_,cq,oT] at ht hs
     subst ht
     obtain ⟨rest,rfl,hO425_⟩:=ord_one (m:=8796093022207) hO424_ rfl 43 (m':=17592186044415) (by decide+kernel) rfl
     clear hO424_
     refine Qae rfl rfl (g_d rfl ?_)
     try dsimp only [Qah,Qai]
     obtain ⟨rest,rfl,hO426_⟩:=ord_one (m:=17592186044415) hO425_ rfl 44 (m':=35184372088831) (by decide+kernel) rfl
     clear hO425_
     refine Qab (v:=bool true) rfl rfl rfl (g_d rfl ?_)
     obtain rfl:=ord_end hO426_ rfl (by decide+kernel)
     refine Qac (Qaq rfl (Qaj (Qan [0] rfl ?_)))
     refine Qab (v:=bool false) rfl rfl rfl (g_d rfl ?_)
     try dsimp only [Qah,Qai]
     refine Qac ?_
     obtain rfl:=QsJ H
     subst Hx1_
     have H:=QsJ Hr1_
     subst H
     refine QaB Tryz.func3 (v:=bool false) (res1 rfl rfl) ?_
     have hs:St _ [] _:=St.take (Γ':=[_,_,_,_,_,_,_]) hs
     exact ⟨_,rfl,rfl,hs⟩
    intro ha
    refine Qan [0,1,2] rfl ?_
    refine Qab (v:=pointer (some ⟨b105,1,none⟩)) rfl rfl rfl (g_d rfl ?_)
    by_cases hb234_:r104.1.Qbi=true
    ·
     rw [if_pos hb234_] at H
     refine Qaw rfl rfl (v:=bool true) rfl rfl (fun _=>rfl) (cells_load (hs.cells 6 rfl) 1 1 (Eq.trans (b:=[bool r104.1.Qbi]) rfl (congrArg (fun b=>[bool b]) hb234_))) (g_d rfl ?_)
     try dsimp only [Qah,Qai]
     refine Qab (v:=bool false) rfl rfl rfl (g_d rfl (Qac (Qas rfl (QaK ?_))))
     have hs:=hs.pull 6 rfl
     have hs:=hs.pull 6 rfl
     have hs:=hs.pull 6 rfl
     have hs:=hs.pull 6 rfl
     have hs:=hs.pull 6 rfl
     have hs:=hs.pull 6 rfl
     have hs:=hs.pull 6 rfl
     have hs:St _ [_,_,_,_,_,_,_] _:=St.take (Γ':=[]) hs
     exact ha _ _ ⟨r104.1.Qat,H,rfl,hs⟩
    rw [if_neg hb234_] at H
    refine Qaw rfl rfl (v:=bool false) rfl rfl (fun _=>rfl) (cells_load (hs.cells 6 rfl) 1 1 (Eq.trans (b:=[bool r104.1.Qbi]) rfl (congrArg (fun b=>[bool b]) (Bool.eq_false_iff.2 hb234_)))) (g_d rfl ?_)
    refine Qab (v:=bool true) rfl rfl rfl (g_d rfl ?_)
    try dsimp only [Qah,Qai]
    refine Qac (Qaq rfl (Qan [0,1,2,3,4] rfl ?_))
    refine Qab (v:=int .u16 (u16w ((shlI .u16 1 (u64w r6.Qad)) - 1))) rfl rfl rfl (g_d rfl ?_)
    refine Qab (v:=pointer (some ⟨b105,0,none⟩)) rfl rfl rfl (g_d rfl ?_)
    refine Qaw rfl rfl (v:=int .u16 r104.1.Qat) rfl rfl (fun _=>rfl) (cells_load (hs.cells 6 rfl) 0 1 rfl) (g_d rfl ?_)
    refine Qab (v:=int .u16 (bAndNot .u16 (u16w ((shlI .u16 1 (u64w r6.Qad)) - 1)) r104.1.Qat)) rfl rfl rfl (g_d rfl ?_)
    try dsimp only [Qah,Qai]
    refine Qab (v:=int .u16 (bAndNot .u16 (u16w ((shlI .u16 1 (u64w r6.Qad)) - 1)) r104.1.Qat)) rfl rfl rfl (g_d rfl (Qac ?_))
    have hs:=hs.pull 6 rfl
    have hs:=hs.pull 6 rfl
    have hs:=hs.pull 6 rfl
    have hs:=hs.pull 6 rfl
    have hs:=hs.pull 6 rfl
    have hs:=hs.pull 6 rfl
    have hs:=hs.pull 6 rfl
    have hs:St _ [_,_,_,_,_,_,_] _:=St.take (Γ':=[]) hs
    exact ha _ _ ⟨bAndNot .u16 (u16w ((shlI .u16 1 (u64w r6.Qad)) - 1)) r104.1.Qat,H,rfl,hs⟩
   intro ha2_
   have hs:=hs.pull 0 rfl
   have hs:=hs.pull 1 rfl
   have hs:=hs.pull 2 rfl
   have hs:=hs.pull 7 rfl
   have hs:=hs.pull 7 rfl
   have hs:=hs.pull 7 rfl
   have hs:=hs.pull 7 rfl
   have hs:=hs.pull 7 rfl
   have hs:St _ [_,_,_,_,_,_,_,_] _:=St.take (Γ':=[]) hs
   refine Qba (I:=fun n_ t w=>∃ x108:Bool,∃ x109:Int,rounds (fun s=>Qar.b7 N r97 x96 r41 s.1 s.2) n_ (x108,x109)=some o2_∧Fr t (fun O=>(O 0::O 1::O 2::O 3::O 4::pointer (some ⟨b9,0,none⟩)::O 6::O 7::O 8::O 9::O 10::O 11::O 12::O 13::O 14::O 15::v42::O 17::O 18::O 19::O 20::O 21::pointer (some ⟨b62,0,none⟩)::O 23::int .u16 (u16w ((shlI .u16 1 (u64w r6.Qad)) - 1))::pointer (some ⟨b66,0,none⟩)::int .i64 x96::v98::int .i64 r97.2::pointer (some ⟨b101,0,none⟩)::int .i64 r100.2::pointer (some ⟨b105,0,none⟩)::int .i64 r104.2::bool x108::int .i64 x109::O 35::O 36::O 37::O 38::O 39::oT O 4 (oT O 5 (oT O 6 (oT O 7 (oT O 8 (oT O 9 (oT O 10 (oT O 11 (oT O 12 (oT O 13 (oT O 14 (oT O 15 (oT O 16 (oT O 17 (oT O 18 (oT O 19 (oT O 20 (oT O 21 (oT O 22 (oT O 23 (oT O 24 (oT O 25 (oT O 26 (oT O 27 (oT O 28 (oT O 29 (O 300::O 301::O 302::O 303::O 304::O 305::O 306::[])))))))))))))))))))))))))):List Value))∧St w0 [Row 46 (K.int .u16) v7 r6.Qal,Cells b9 (([int .i8 r6.Qad,int .i8 r6.Qag,v7]:List Value)) 27,Row 46 (K.int .u16) v42 r41.1,Cells b62 (Qaa r61.1) 48,Cells b66 (Qaa x95) 48,Row 46 (K.int .u16) v98 r97.1,Cells b101 (Qaa r100.1) 48,Cells b105 (Qaa r104.1) 48] w) N ⟨false,0,Ho,rfl,hs⟩ ?_ ?_
   ·
    rintro _ _ ⟨x108,x109,h,_⟩
    exact rounds_zero h
   intro n_ ih2_
   rintro t w ⟨x108,x109,Ho,hf,hs⟩
   obtain ⟨O,rfl⟩:=hf.open
   try dsimp only [oT]
   obtain ⟨x427_,H,Hx2_⟩:=rounds_succ Ho
   have H:Qar.b7 N r97 x96 r41 x108 x109=some x427_:=H
   unfold Qar.b7 at H
   refine Qaj (Qaj (Qan [0,1,2,3] rfl ?_))
   refine Qab (v:=int .i64 x109) rfl rfl rfl (g_d rfl ?_)
   refine Qab (v:=v98) rfl rfl rfl (g_d rfl ?_)
   refine QbC (hs.row 5 rfl) rfl rfl rfl rfl rfl (g_d rfl ?_)
   try dsimp only [Qah,Qai]
   refine QaI (B:=decide (x109< (r97.1.length:Int))) rfl rfl rfl ?_ ?_
   · as_aux_lemma =>
    intro hb
    rw [if_pos (b_dec_t hb)] at H
    refine g_d rfl ?_
    try dsimp only [Qah,Qai]
    refine Qac (Qaq rfl (QaK (Qaj ?_)))
    refine QaR (J:=(fun t w=>∃ x113:Bool,Qar.j10 N x109 x113=some x427_∧Fr t (fun O=>(O 0::O 1::O 2::O 3::O 4::pointer (some ⟨b9,0,none⟩)::O 6::O 7::O 8::O 9::O 10::O 11::O 12::O 13::O 14::O 15::v42::O 17::O 18::O 19::O 20::O 21::pointer (some ⟨b62,0,none⟩)::O 23::int .u16 (u16w ((shlI .u16 1 (u64w r6.Qad)) - 1))::pointer (some ⟨b66,0,none⟩)::int .i64 x96::v98::int .i64 r97.2::pointer (some ⟨b101,0,none⟩)::int .i64 r100.2::pointer (some ⟨b105,0,none⟩)::int .i64 r104.2::bool x113::int .i64 x109::O 35::O 36::O 37::O 38::O 39::oT O 4 (oT O 5 (oT O 6 (oT O 7 (oT O 8 (oT O 9 (oT O 10 (oT O 11 (oT O 12 (oT O 13 (oT O 14 (oT O 15 (oT O 16 (oT O 17 (oT O 18 (oT O 19 (oT O 20 (oT O 21 (oT O 22 (oT O 23 (oT O 24 (oT O 25 (oT O 26 (oT O 27 (oT O 28 (oT O 29 (O 300::O 301::O 302::O 303::O 304::O 305::O 306::[])))))))))))))))))))))))))):List Value))∧St w0 [Cells b9 (([int .i8 r6.Qad,int .i8 r6.Qag,v7]:List Value)) 27,Row 46 (K.int .u16) v7 r6.Qal,Row 46 (K.int .u16) v42 r41.1,Cells b62 (Qaa r61.1) 48,Cells b66 (Qaa x95) 48,Row 46 (K.int .u16) v98 r97.1,Cells b101 (Qaa r100.1) 48,Cells b105 (Qaa r104.1) 48] w)) ?_ ?_
    ·
     rintro t w ⟨x113,H,hf,hs⟩
     obtain ⟨O,rfl⟩:=hf.open
     try dsimp only [oT]
     unfold Qar.j10 at H
     refine Qan [0,1,2] rfl ?_
     refine Qab (v:=int .i64 x109) rfl rfl rfl (g_d rfl ?_)
     refine Qab (v:=int .i64 (i64w (x109+1))) rfl rfl rfl (g_d rfl ?_)
     refine Qab (v:=int .i64 (i64w (x109+1))) rfl rfl rfl (g_d rfl ?_)
     try dsimp only [Qah,Qai]
     refine Qac ?_
     obtain rfl:=QsJ H
     have hs:=hs.pull 7 rfl
     have hs:=hs.pull 7 rfl
     have hs:=hs.pull 7 rfl
     have hs:=hs.pull 7 rfl
     have hs:=hs.pull 7 rfl
     have hs:=hs.pull 7 rfl
     have hs:=hs.pull 6 rfl
     have hs:=hs.pull 7 rfl
     have hs:St _ [_,_,_,_,_,_,_,_] _:=St.take (Γ':=[]) hs
     exact ih2_ _ _ ⟨x113,i64w (x109+1),Hx2_,rfl,hs⟩
    intro ha
    refine Qck (n:=13) rfl [0,1,2,3,4,5,6,7,8,9,10,11,12] [0,1,2,3,4,5,6,7,8,9,10,11,12] rfl rfl ?_
    intro rest w hh hbw hO
    have hs:=hs.samew hh hbw
    try dsimp only [Qah,Qai]
    obtain ⟨rest,rfl,hO219_⟩:=ord_one (m:=0) hO rfl 0 (m':=1) (by decide+kernel) rfl
    clear hO
    refine QaI (B:=x108) rfl rfl rfl ?_ ?_
    · as_aux_lemma =>
     intro hb
     rw [if_pos (b_var_t hb)] at H
     refine g_d rfl ?_
     obtain ⟨rest,rfl,hO220_⟩:=ord_one (m:=1) hO219_ rfl 1 (m':=3) (by decide+kernel) rfl
     clear hO219_
     refine Qab (v:=bool true) rfl rfl rfl (g_d rfl ?_)
     refine QaV ?_
     intro T hT
     refine Qbb (m0:=3) hO220_ rfl 1023 [2,3,4,5,6,7,8,9] [0,1,3,3,15,31,3,3,195,451,1023,2047,4095] (by decide+kernel) (fun D t w=>∃ O:Nat→Value,t=(O 0::O 1::O 2::O 3::O 4::pointer (some ⟨b9,0,none⟩)::O 6::O 7::O 8::O 9::O 10::O 11::O 12::O 13::O 14::O 15::v42::O 17::O 18::O 19::O 20::O 21::pointer (some ⟨b62,0,none⟩)::O 23::int .u16 (u16w ((shlI .u16 1 (u64w r6.Qad)) - 1))::pointer (some ⟨b66,0,none⟩)::int .i64 x96::v98::int .i64 r97.2::pointer (some ⟨b101,0,none⟩)::int .i64 r100.2::pointer (some ⟨b105,0,none⟩)::int .i64 r104.2::bool x108::int .i64 x109::O 35::O 36::O 37::O 38::O 39::oT O 4 (oT O 5 (oT O 6 (oT O 7 (oT O 8 (oT O 9 (oT O 10 (oT O 11 (oT O 12 (oT O 13 (oT O 14 (oT O 15 (oT O 16 (oT O 17 (oT O 18 (oT O 19 (oT O 20 (oT O 21 (O 220::O 221::O 222::O 223::O 224::int .i64 x109::v98::int .i64 (r97.1.length:Int)::bool true::O 229::O 230::bool true::bool true::cnd (D 2) undef (O 233)::cnd (D 3) undef (O 234)::cnd (D 4) undef (O 235)::cnd (D 5) undef (O 236)::cnd (D 6) undef (O 237)::cnd (D 7) undef (O 238)::cnd (D 8) undef (O 239)::cnd (D 9) undef (O 240)::O 241::O 242::O 243::O 244::O 245::O 246::O 247::O 248::O 249::oT O 25 (oT O 26 (oT O 27 (oT O 28 (oT O 29 (O 300::O 301::O 302::O 303::O 304::O 305::O 306::[]))))))))))))))))))))))))∧St w0 [Row 46 (K.int .u16) v7 r6.Qal,Cells b9 (([int .i8 r6.Qad,int .i8 r6.Qag,v7]:List Value)) 27,Row 46 (K.int .u16) v42 r41.1,Cells b62 (Qaa r61.1) 48,Cells b66 (Qaa x95) 48,Row 46 (K.int .u16) v98 r97.1,Cells b101 (Qaa r100.1) 48,Cells b105 (Qaa r104.1) 48] w) ?_ ⟨?_,⟨?_,⟨?_,⟨?_,⟨?_,⟨?_,⟨?_,⟨?_,trivial⟩⟩⟩⟩⟩⟩⟩⟩ ?_
     ·exact ⟨fun i=>T.getD i undef,(by subst hT;rfl),hs⟩
     ·
      rintro D t w hD hp hcl ⟨O,ht,hs⟩ rest hk
      have hp:AllDone D [1]:=hp
      obtain ⟨p1_,_⟩:=hp
      have q4_:=ny hcl 4 0 hD
      have q5_:=ny hcl 5 0 q4_
      simp only [hD,q4_,q5_,cq,oT] at ht hs
      subst ht
      refine Qae rfl rfl (g_d rfl ?_)
      try dsimp only [Qah,Qai]
      refine hk _ _ ⟨O,?_,hs.cast ?_⟩<;>simp only [oT,cq,Nat.reduceBEq,q4_,q5_]
     ·
      rintro D t w hD hp hcl ⟨O,ht,hs⟩ rest hk
      have hp:AllDone D [1]:=hp
      obtain ⟨p1_,_⟩:=hp
      have q4_:=ny hcl 4 1 hD
      have q5_:=ny hcl 5 0 q4_
      simp only [hD,q4_,q5_,cq,oT] at ht hs
      subst ht
      refine Qae rfl rfl (g_d rfl ?_)
      try dsimp only [Qah,Qai]
      refine hk _ _ ⟨O,?_,hs.cast ?_⟩<;>simp only [oT,cq,Nat.reduceBEq,q4_,q5_]
     ·
      rintro D t w hD hp hcl ⟨O,ht,hs⟩ rest hk
      have hp:AllDone D [2,3,1]:=hp
      obtain ⟨p2_,p3_,p1_,_⟩:=hp
      have q5_:=ny hcl 5 0 hD
      simp only [hD,p2_,p3_,q5_,cq,oT] at ht hs
      subst ht
      refine Qae rfl rfl (g_d rfl ?_)
      try dsimp only [Qah,Qai]
      refine hk _ _ ⟨O,?_,hs.cast ?_⟩<;>simp only [oT,cq,Nat.reduceBEq,p2_,p3_,q5_]
     ·
      rintro D t w hD hp hcl ⟨O,ht,hs⟩ rest hk
      have hp:AllDone D [4,1]:=hp
      obtain ⟨p4_,p1_,_⟩:=hp
      obtain ⟨p2_,p3_,_,_⟩:=(show D 4=true→AllDone D [2,3,1] from hcl 4 (by decide)) p4_
      simp only [hD,p2_,p3_,p4_,cq,oT] at ht hs
      subst ht
      refine Qae rfl rfl (g_d rfl ?_)
      try dsimp only [Qah,Qai]
      refine hk _ _ ⟨O,?_,hs.cast ?_⟩<;>simp only [oT,cq,Nat.reduceBEq,p2_,p3_,p4_]
     ·
      rintro D t w hD hp hcl ⟨O,ht,hs⟩ rest hk
      have hp:AllDone D [1]:=hp
      obtain ⟨p1_,_⟩:=hp
      have q8_:=ny hcl 8 0 hD
      have q9_:=ny hcl 9 0 q8_
      simp only [hD,q8_,q9_,cq,oT] at ht hs
      subst ht
      refine Qae rfl rfl (g_d rfl ?_)
      try dsimp only [Qah,Qai]
      refine hk _ _ ⟨O,?_,hs.cast ?_⟩<;>simp only [oT,cq,Nat.reduceBEq,q8_,q9_]
     ·
      rintro D t w hD hp hcl ⟨O,ht,hs⟩ rest hk
      have hp:AllDone D [1]:=hp
      obtain ⟨p1_,_⟩:=hp
      have q8_:=ny hcl 8 1 hD
      have q9_:=ny hcl 9 0 q8_
      simp only [hD,q8_,q9_,cq,oT] at ht hs
      subst ht
      refine Qae rfl rfl (g_d rfl ?_)
      try dsimp only [Qah,Qai]
      refine hk _ _ ⟨O,?_,hs.cast ?_⟩<;>simp only [oT,cq,Nat.reduceBEq,q8_,q9_]
     ·
      rintro D t w hD hp hcl ⟨O,ht,hs⟩ rest hk
      have hp:AllDone D [6,7,1]:=hp
      obtain ⟨p6_,p7_,p1_,_⟩:=hp
      have q9_:=ny hcl 9 0 hD
      simp only [hD,p6_,p7_,q9_,cq,oT] at ht hs
      subst ht
      refine Qae rfl rfl (g_d rfl ?_)
      try dsimp only [Qah,Qai]
      refine hk _ _ ⟨O,?_,hs.cast ?_⟩<;>simp only [oT,cq,Nat.reduceBEq,p6_,p7_,q9_]
     ·
      rintro D t w hD hp hcl ⟨O,ht,hs⟩ rest hk
      have hp:AllDone D [8,1]:=hp
      obtain ⟨p8_,p1_,_⟩:=hp
      obtain ⟨p6_,p7_,_,_⟩:=(show D 8=true→AllDone D [6,7,1] from hcl 8 (by decide)) p8_
      simp only [hD,p6_,p7_,p8_,cq,oT] at ht hs
      subst ht
      refine Qae rfl rfl (g_d rfl ?_)
      try dsimp only [Qah,Qai]
      refine hk _ _ ⟨O,?_,hs.cast ?_⟩<;>simp only [oT,cq,Nat.reduceBEq,p6_,p7_,p8_]
     intro D t w rest hall hO221_ hI
     obtain ⟨O,ht,hs⟩:=hI
     have p2_:=hall 2 (by decide) rfl
     have p3_:=hall 3 (by decide) rfl
     have p4_:=hall 4 (by decide) rfl
     have p5_:=hall 5 (by decide) rfl
     have p6_:=hall 6 (by decide) rfl
     have p7_:=hall 7 (by decide) rfl
     have p8_:=hall 8 (by decide) rfl
     have p9_:=hall 9 (by decide) rfl
     simp only [p2_,p3_,p4_,p5_,p6_,p7_,p8_,p9_,cq,oT] at ht hs
     subst ht
     obtain ⟨rest,rfl,hO222_⟩:=ord_one (m:=1023) hO221_ rfl 10 (m':=2047) (by decide+kernel) rfl
     clear hO221_
     refine Qae rfl rfl (g_d rfl ?_)
     try dsimp only [Qah,Qai]
     obtain ⟨rest,rfl,hO223_⟩:=ord_one (m:=2047) hO222_ rfl 11 (m':=4095) (by decide+kernel) rfl
     clear hO222_
     refine Qab (v:=bool true) rfl rfl rfl (g_d rfl ?_)
     obtain ⟨rest,rfl,hO224_⟩:=ord_one (m:=4095) hO223_ rfl 12 (m':=8191) (by decide+kernel) rfl
     clear hO223_
     refine Qab (v:=bool true) rfl rfl rfl (g_d rfl ?_)
     try dsimp only [Qah,Qai]
     obtain rfl:=ord_end hO224_ rfl (by decide+kernel)
     refine Qac ?_
     refine Qa0 ?_
     have hs:=hs.pull 7 rfl
     have hs:=hs.pull 7 rfl
     have hs:=hs.pull 7 rfl
     have hs:=hs.pull 7 rfl
     have hs:=hs.pull 7 rfl
     have hs:=hs.pull 7 rfl
     have hs:=hs.pull 6 rfl
     have hs:=hs.pull 7 rfl
     have hs:St _ [_,_,_,_,_,_,_,_] _:=St.take (Γ':=[]) hs
     exact ha _ _ ⟨true,H,rfl,hs⟩
    intro hb
    rw [if_neg (b_var_f hb)] at H
    refine g_d rfl ?_
    obtain ⟨rest,rfl,hO225_⟩:=ord_one (m:=1) hO219_ rfl 1 (m':=3) (by decide+kernel) rfl
    clear hO219_
    refine Qab (v:=bool false) rfl rfl rfl (g_d rfl ?_)
    obtain ⟨gd227,H⟩:=ite_get H
    obtain ⟨ad228_,ad228_N,ad228_C,had228_⟩:=sl_at (hs.row 5 rfl) gd227.1 gd227.2
    obtain ⟨gd229,H⟩:=ite_get H
    obtain ⟨ad230_,ad230_N,ad230_C,had230_⟩:=sl_at (hs.row 2 rfl) gd229.1 gd229.2
    refine QaV ?_
    intro T hT
    refine Qbb (m0:=3) hO225_ rfl 1023 [2,3,4,5,6,7,8,9] [0,1,3,3,15,31,3,3,195,451,1023,2047,4095] (by decide+kernel) (fun D t w=>∃ O:Nat→Value,t=(O 0::O 1::O 2::O 3::O 4::pointer (some ⟨b9,0,none⟩)::O 6::O 7::O 8::O 9::O 10::O 11::O 12::O 13::O 14::O 15::v42::O 17::O 18::O 19::O 20::O 21::pointer (some ⟨b62,0,none⟩)::O 23::int .u16 (u16w ((shlI .u16 1 (u64w r6.Qad)) - 1))::pointer (some ⟨b66,0,none⟩)::int .i64 x96::v98::int .i64 r97.2::pointer (some ⟨b101,0,none⟩)::int .i64 r100.2::pointer (some ⟨b105,0,none⟩)::int .i64 r104.2::bool x108::int .i64 x109::O 35::O 36::O 37::O 38::O 39::oT O 4 (oT O 5 (oT O 6 (oT O 7 (oT O 8 (oT O 9 (oT O 10 (oT O 11 (oT O 12 (oT O 13 (oT O 14 (oT O 15 (oT O 16 (oT O 17 (oT O 18 (oT O 19 (oT O 20 (oT O 21 (O 220::O 221::O 222::O 223::O 224::int .i64 x109::v98::int .i64 (r97.1.length:Int)::bool true::O 229::O 230::bool false::bool false::cnd (D 2) v98 (O 233)::cnd (D 3) (int .i64 x109) (O 234)::cnd (D 4) (pointer (some (ad228_.add (x109.toNat*1)))) (O 235)::cnd (D 5) (int .u16 (rdL r97.1 x109 0)) (O 236)::cnd (D 6) v42 (O 237)::cnd (D 7) (int .i64 x96) (O 238)::cnd (D 8) (pointer (some (ad230_.add (x96.toNat*1)))) (O 239)::cnd (D 9) (int .u16 (rdL r41.1 x96 0)) (O 240)::O 241::O 242::O 243::O 244::O 245::O 246::O 247::O 248::O 249::oT O 25 (oT O 26 (oT O 27 (oT O 28 (oT O 29 (O 300::O 301::O 302::O 303::O 304::O 305::O 306::[]))))))))))))))))))))))))∧St w0 [Row 46 (K.int .u16) v7 r6.Qal,Cells b9 (([int .i8 r6.Qad,int .i8 r6.Qag,v7]:List Value)) 27,Row 46 (K.int .u16) v42 r41.1,Cells b62 (Qaa r61.1) 48,Cells b66 (Qaa x95) 48,Row 46 (K.int .u16) v98 r97.1,Cells b101 (Qaa r100.1) 48,Cells b105 (Qaa r104.1) 48] w) ?_ ⟨?_,⟨?_,⟨?_,⟨?_,⟨?_,⟨?_,⟨?_,⟨?_,trivial⟩⟩⟩⟩⟩⟩⟩⟩ ?_
    ·exact ⟨fun i=>T.getD i undef,(by subst hT;rfl),hs⟩
    ·
     rintro D t w hD hp hcl ⟨O,ht,hs⟩ rest hk
     have hp:AllDone D [1]:=hp
     obtain ⟨p1_,_⟩:=hp
     have q4_:=ny hcl 4 0 hD
     have q5_:=ny hcl 5 0 q4_
     simp only [hD,q4_,q5_,cq,oT] at ht hs
     subst ht
     refine Qab (v:=v98) rfl rfl rfl (g_d rfl ?_)
     try dsimp only [Qah,Qai]
     refine hk _ _ ⟨O,?_,hs.cast ?_⟩<;>simp only [oT,lq,cq,Nat.reduceBEq,q4_,q5_]
    ·
     rintro D t w hD hp hcl ⟨O,ht,hs⟩ rest hk
     have hp:AllDone D [1]:=hp
     obtain ⟨p1_,_⟩:=hp
     have q4_:=ny hcl 4 1 hD
     have q5_:=ny hcl 5 0 q4_
     simp only [hD,q4_,q5_,cq,oT] at ht hs
     subst ht
     refine Qab (v:=int .i64 x109) rfl rfl rfl (g_d rfl ?_)
     try dsimp only [Qah,Qai]
     refine hk _ _ ⟨O,?_,hs.cast ?_⟩<;>simp only [oT,lq,cq,Nat.reduceBEq,q4_,q5_]
    ·
     rintro D t w hD hp hcl ⟨O,ht,hs⟩ rest hk
     have hp:AllDone D [2,3,1]:=hp
     obtain ⟨p2_,p3_,p1_,_⟩:=hp
     have q5_:=ny hcl 5 0 hD
     simp only [hD,p2_,p3_,q5_,cq,oT] at ht hs
     subst ht
     refine QbJ (κ:=(K.int .u16)) (m:=1) rfl (hs.row 5 rfl) rfl (fun _=>rfl) gd227.1 gd227.2 had228_ rfl rfl rfl rfl rfl (g_d rfl ?_)
     try dsimp only [Qah,Qai]
     refine hk _ _ ⟨O,?_,hs.cast ?_⟩<;>simp only [oT,lq,cq,Nat.reduceBEq,p2_,p3_,q5_]
    ·
     rintro D t w hD hp hcl ⟨O,ht,hs⟩ rest hk
     have hp:AllDone D [4,1]:=hp
     obtain ⟨p4_,p1_,_⟩:=hp
     obtain ⟨p2_,p3_,_,_⟩:=(show D 4=true→AllDone D [2,3,1] from hcl 4 (by decide)) p4_
     simp only [hD,p2_,p3_,p4_,cq,oT] at ht hs
     subst ht
     refine Qaw rfl rfl (v:=int .u16 (rdL r97.1 x109 0)) rfl rfl (fun _=>rfl) (cellsAt_of (fkI .u16) 0 (hs.row 5 rfl) had228_ gd227.1 gd227.2) (g_d rfl ?_)
     try dsimp only [Qah,Qai]
     refine hk _ _ ⟨O,?_,hs.cast ?_⟩<;>simp only [oT,lq,cq,Nat.reduceBEq,p2_,p3_,p4_]
    ·
     rintro D t w hD hp hcl ⟨O,ht,hs⟩ rest hk
     have hp:AllDone D [1]:=hp
     obtain ⟨p1_,_⟩:=hp
     have q8_:=ny hcl 8 0 hD
     have q9_:=ny hcl 9 0 q8_
     simp only [hD,q8_,q9_,cq,oT] at ht hs
     subst ht
     refine Qab (v:=v42) rfl rfl rfl (g_d rfl ?_)
     try dsimp only [Qah,Qai]
     refine hk _ _ ⟨O,?_,hs.cast ?_⟩<;>simp only [oT,lq,cq,Nat.reduceBEq,q8_,q9_]
    ·
     rintro D t w hD hp hcl ⟨O,ht,hs⟩ rest hk
     have hp:AllDone D [1]:=hp
     obtain ⟨p1_,_⟩:=hp
     have q8_:=ny hcl 8 1 hD
     have q9_:=ny hcl 9 0 q8_
     simp only [hD,q8_,q9_,cq,oT] at ht hs
     subst ht
     refine Qab (v:=int .i64 x96) rfl rfl rfl (g_d rfl ?_)
     try dsimp only [Qah,Qai]
     refine hk _ _ ⟨O,?_,hs.cast ?_⟩<;>simp only [oT,lq,cq,Nat.reduceBEq,q8_,q9_]
    ·
     rintro D t w hD hp hcl ⟨O,ht,hs⟩ rest hk
     have hp:AllDone D [6,7,1]:=hp
     obtain ⟨p6_,p7_,p1_,_⟩:=hp
     have q9_:=ny hcl 9 0 hD
     simp only [hD,p6_,p7_,q9_,cq,oT] at ht hs
     subst ht
     refine QbJ (κ:=(K.int .u16)) (m:=1) rfl (hs.row 2 rfl) rfl (fun _=>rfl) gd229.1 gd229.2 had230_ rfl rfl rfl rfl rfl (g_d rfl ?_)
     try dsimp only [Qah,Qai]
     refine hk _ _ ⟨O,?_,hs.cast ?_⟩<;>simp only [oT,lq,cq,Nat.reduceBEq,p6_,p7_,q9_]
    ·
     rintro D t w hD hp hcl ⟨O,ht,hs⟩ rest hk
     have hp:AllDone D [8,1]:=hp
     obtain ⟨p8_,p1_,_⟩:=hp
     obtain ⟨p6_,p7_,_,_⟩:=(show D 8=true→AllDone D [6,7,1] from hcl 8 (by decide)) p8_
     simp only [hD,p6_,p7_,p8_,cq,oT] at ht hs
     subst ht
     refine Qaw rfl rfl (v:=int .u16 (rdL r41.1 x96 0)) rfl rfl (fun _=>rfl) (cellsAt_of (fkI .u16) 0 (hs.row 2 rfl) had230_ gd229.1 gd229.2) (g_d rfl ?_)
     try dsimp only [Qah,Qai]
     refine hk _ _ ⟨O,?_,hs.cast ?_⟩<;>simp only [oT,lq,cq,Nat.reduceBEq,p6_,p7_,p8_]
    intro D t w rest hall hO226_ hI
    obtain ⟨O,ht,hs⟩:=hI
    have p2_:=hall 2 (by decide) rfl
    have p3_:=hall 3 (by decide) rfl
    have p4_:=hall 4 (by decide) rfl
    have p5_:=hall 5 (by decide) rfl
    have p6_:=hall 6 (by decide) rfl
    have p7_:=hall 7 (by decide) rfl
    have p8_:=hall 8 (by decide) rfl
    have p9_:=hall 9 (by decide) rfl
    simp only [p2_,p3_,p4_,p5_,p6_,p7_,p8_,p9_,cq,oT] at ht hs
    subst ht
    obtain ⟨rest,rfl,hO231_⟩:=ord_one (m:=1023) hO226_ rfl 10 (m':=2047) (by decide+kernel) rfl
    clear hO226_
    refine Qab (v:=bool ((rdL r97.1 x109 0)==(rdL r41.1 x96 0))) rfl rfl rfl (g_d rfl ?_)
    obtain ⟨rest,rfl,hO232_⟩:=ord_one (m:=2047) hO231_ rfl 11 (m':=4095) (by decide+kernel) rfl
    clear hO231_
    refine Qab (v:=bool ((rdL r97.1 x109 0)==(rdL r41.1 x96 0))) rfl rfl rfl (g_d rfl ?_)
    try dsimp only [Qah,Qai]
    obtain ⟨rest,rfl,hO233_⟩:=ord_one (m:=4095) hO232_ rfl 12 (m':=8191) (by decide+kernel) rfl
    clear hO232_
    refine Qab (v:=bool ((rdL r97.1 x109 0)==(rdL r41.1 x96 0))) rfl rfl rfl (g_d rfl ?_)
    obtain rfl:=ord_end hO233_ rfl (by decide+kernel)
    refine Qac ?_
    refine Qa0 ?_
    have hs:=hs.pull 7 rfl
    have hs:=hs.pull 7 rfl
    have hs:=hs.pull 7 rfl
    have hs:=hs.pull 7 rfl
    have hs:=hs.pull 7 rfl
    have hs:=hs.pull 7 rfl
    have hs:=hs.pull 6 rfl
    have hs:=hs.pull 7 rfl
    have hs:St _ [_,_,_,_,_,_,_,_] _:=St.take (Γ':=[]) hs
    exact ha _ _ ⟨(rdL r97.1 x109 0)==(rdL r41.1 x96 0),H,rfl,hs⟩
   intro hb
   rw [if_neg (b_dec_f hb)] at H
   refine g_d rfl (Qac (Qas rfl ?_))
   obtain rfl:=QsJ H
   subst Hx2_
   have hs:=hs.pull 7 rfl
   have hs:=hs.pull 7 rfl
   have hs:=hs.pull 6 rfl
   have hs:=hs.pull 6 rfl
   have hs:=hs.pull 6 rfl
   have hs:=hs.pull 5 rfl
   have hs:=hs.pull 6 rfl
   have hs:St _ [_,_,_,_,_,_,_] _:=St.take (Γ':=[_]) hs
   refine QbE rfl ?_
   exact ha2_ _ _ ⟨x108,Hr2_,rfl,hs⟩
 intro hb
 rw [if_neg (b_dec_f hb)] at H
 refine g_d rfl (Qac (Qas rfl ?_))
 obtain rfl:=QsJ H
 subst Hx1_
 have hs:=hs.pull 4 rfl
 have hs:=hs.pull 4 rfl
 have hs:St _ [_,_] _:=St.take (Γ':=[_,_,_]) hs
 refine QbE rfl ?_
 exact ha1_ _ _ ⟨x95,Hr1_,rfl,hs⟩
end Go.Proofs.YtblbfnngmeoipaaGreatDoorX
