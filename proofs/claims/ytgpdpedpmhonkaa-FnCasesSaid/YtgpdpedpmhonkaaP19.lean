import Derived.Test.YtgpdpedpmhonkaaProg
import Derived.Test.YtgpdpedpmhonkaaP3
import Derived.Test.YtgpdpedpmhonkaaP4
import Derived.Test.YtgpdpedpmhonkaaP10
import Derived.Test.YtgpdpedpmhonkaaP18
namespace Go.Proofs.YtgpdpedpmhonkaaX
open Go Go.RowKit Go.Proofs
open Go.Value (int pointer bool agg slice string tuple)
set_option maxHeartbeats 8000000
set_option maxRecDepth 100000
set_option linter.unusedVariables false
set_option linter.unusedSimpArgs false
theorem Qak.seg5 {N:Nat} {a1:(List Int)} {a3:(List Int)} {v2:Value} {v4:Value} {x34:(List Qai)} {r43:((Ar (List Qai) 3)×Int)} {r7:Qaq} {x14:(Ar Int 14)} {x37:(List Qai)} {x40:(List Qai)} {r18:((List Qai)×Int)} {b8:Nat} {b13:Nat} {v19:Value} {b32:Nat} {b50:Nat} {v33:Value} {v36:Value} {v39:Value} {v44:Value} {v45:Value} {v46:Value} {w0:World} {r:Bool} (hr0:RdRow (K.int .u8) w0 v2 a1) (hr1:RdRow (K.int .u8) w0 v4 a3):
 ∀ t w,(fun t w=>Qak.j3 N x34 r43 r7 x14 x37 x40 r18=some r∧Fr t (fun O=>(O 0::O 1::O 2::O 3::O 4::pointer (some ⟨b8,0,none⟩)::pointer (some ⟨b13,0,none⟩)::O 7::O 8::v19::O 10::pointer (some ⟨b32,0,none⟩)::O 12::pointer (some ⟨b50,0,none⟩)::O 14::O 15::O 16::O 17::O 18::O 19::oT O 2 (oT O 3 (oT O 4 (oT O 5 (oT O 6 (oT O 7 (oT O 8 (oT O 9 (oT O 10 (oT O 11 (oT O 12 (oT O 13 (oT O 14 (oT O 15 (oT O 16 (oT O 17 (oT O 18 (oT O 19 (oT O 20 (oT O 21 (oT O 22 (oT O 23 (oT O 24 (oT O 25 (oT O 26 (oT O 27 (oT O 28 (oT O 29 (O 300::O 301::O 302::O 303::[])))))))))))))))))))))))))))):List Value))∧St w0 [Cells b8 (Qae r7) 27,Cells b13 ((encA (encI .i8)) x14) 37,Row 53 Qah v19 r18.1,Cells b32 (([v33,v36,v39]:List Value)) 42,Row 53 Qah v33 x34,Row 53 Qah v36 x37,Row 53 Qah v39 x40,Cells b50 (([v44,v45,v46]:List Value)) 42,Row 53 Qah v44 (r43.1.get 0 []),Row 53 Qah v45 (r43.1.get 1 []),Row 53 Qah v46 (r43.1.get 2 [])] w) t w→G Try.prog 5 (fun e w=>∃ v,e= .returned v∧Qak.post w0 r v w) [.code (Code.at_ (Try.f5.body.getD .skip) [1,1,1,1,1,1,1,1,1,1])] t w:=by
 rintro t w ⟨H,hf,hs⟩
 obtain ⟨O,rfl⟩:=hf.open
 try dsimp only [oT]
 unfold Qak.j3 at H
 refine Qag (Qan [0] rfl ?_)
 refine Qab (v:=int .i64 0) rfl rfl rfl (g_d rfl (Qaa (Qag (Qan [0] rfl ?_))))
 refine Qab (v:=int .i64 0) rfl rfl rfl (g_d rfl ?_)
 try dsimp only [set0,setS]
 refine Qaa (Qag (Qag (Qan [0] rfl ?_)))
 refine Qab (v:=int .i64 0) rfl rfl rfl (g_d rfl (Qaa ?_))
 refine QcR (J:=(fun t w=>∃ x139:Int,∃ x140:Int,Qak.j4 N r18 r7 x14 x139 x140=some r∧Fr t (fun O=>(O 0::O 1::O 2::O 3::O 4::pointer (some ⟨b8,0,none⟩)::pointer (some ⟨b13,0,none⟩)::O 7::O 8::v19::O 10::O 11::O 12::O 13::O 14::O 15::O 16::int .i64 x139::int .i64 x140::O 19::oT O 2 (oT O 3 (oT O 4 (oT O 5 (oT O 6 (oT O 7 (oT O 8 (oT O 9 (oT O 10 (oT O 11 (oT O 12 (oT O 13 (oT O 14 (oT O 15 (oT O 16 (oT O 17 (oT O 18 (oT O 19 (oT O 20 (oT O 21 (oT O 22 (oT O 23 (oT O 24 (oT O 25 (oT O 26 (oT O 27 (oT O 28 (oT O 29 (O 300::O 301::O 302::O 303::[])))))))))))))))))))))))))))):List Value))∧St w0 [Cells b8 (Qae r7) 27,Cells b13 ((encA (encI .i8)) x14) 37,Row 53 Qah v19 r18.1] w)) ?_ ?_
 ·exact Qak.seg4 hr0 hr1
 intro ha
 obtain ⟨o1_,Ho,Hr1_⟩:=bind_get H
 refine Qa2 (J:=fun t w=>∃ x136:Int,∃ x137:Int,Qak.a14 N r18 r7 x14 x136 x137=some r∧Fr t (fun O=>(O 0::O 1::O 2::O 3::O 4::pointer (some ⟨b8,0,none⟩)::pointer (some ⟨b13,0,none⟩)::O 7::O 8::v19::O 10::O 11::O 12::O 13::O 14::O 15::O 16::int .i64 x136::int .i64 x137::O 19::oT O 2 (oT O 3 (oT O 4 (oT O 5 (oT O 6 (oT O 7 (oT O 8 (oT O 9 (oT O 10 (oT O 11 (oT O 12 (oT O 13 (oT O 14 (oT O 15 (oT O 16 (oT O 17 (oT O 18 (oT O 19 (oT O 20 (oT O 21 (oT O 22 (oT O 23 (oT O 24 (oT O 25 (oT O 26 (oT O 27 (oT O 28 (oT O 29 (O 300::O 301::O 302::O 303::[])))))))))))))))))))))))))))):List Value))∧St w0 [Cells b8 (Qae r7) 27,Cells b13 ((encA (encI .i8)) x14) 37,Row 53 Qah v19 r18.1] w) ?_ ?_
 ·
  rintro t w ⟨x136,x137,H,hf,hs⟩
  obtain ⟨O,rfl⟩:=hf.open
  try dsimp only [oT]
  unfold Qak.a14 at H
  have hs:=hs.pull 2 rfl
  have hs:=hs.pull 2 rfl
  have hs:=hs.pull 2 rfl
  have hs:St _ [_,_,_] _:=St.take (Γ':=[]) hs
  exact ha _ _ ⟨x136,x137,H,rfl,hs⟩
 intro ha1_
 have hs:=hs.pull 7 rfl
 have hs:=hs.pull 10 rfl
 have hs:=hs.pull 10 rfl
 have hs:=hs.pull 10 rfl
 have hs:=hs.pull 7 rfl
 have hs:=hs.pull 10 rfl
 have hs:=hs.pull 10 rfl
 have hs:=hs.pull 10 rfl
 have hs:=hs.pull 10 rfl
 have hs:=hs.pull 10 rfl
 have hs:=hs.pull 10 rfl
 have hs:St _ [_,_,_,_,_,_,_,_,_,_,_] _:=St.take (Γ':=[]) hs
 refine Qbk (I:=fun n_ t w=>∃ x78:Int,∃ x79:Int,∃ x80:Int,rounds (fun s=>Qak.b14 N x34 r43 r7 x14 x37 x40 s.1 s.2.1 s.2.2) n_ (x78,x79,x80)=some o1_∧Fr t (fun O=>(O 0::O 1::O 2::O 3::O 4::pointer (some ⟨b8,0,none⟩)::pointer (some ⟨b13,0,none⟩)::O 7::O 8::v19::O 10::pointer (some ⟨b32,0,none⟩)::O 12::pointer (some ⟨b50,0,none⟩)::O 14::O 15::O 16::int .i64 x78::int .i64 x79::int .i64 x80::oT O 2 (oT O 3 (oT O 4 (oT O 5 (oT O 6 (oT O 7 (oT O 8 (oT O 9 (oT O 10 (oT O 11 (oT O 12 (oT O 13 (oT O 14 (oT O 15 (oT O 16 (oT O 17 (oT O 18 (oT O 19 (oT O 20 (oT O 21 (oT O 22 (oT O 23 (oT O 24 (oT O 25 (oT O 26 (oT O 27 (oT O 28 (oT O 29 (O 300::O 301::O 302::O 303::[])))))))))))))))))))))))))))):List Value))∧St w0 [Cells b8 (Qae r7) 27,Cells b13 ((encA (encI .i8)) x14) 37,Row 53 Qah v19 r18.1,Row 53 Qah v33 x34,Row 53 Qah v36 x37,Row 53 Qah v39 x40,Cells b32 (([v33,v36,v39]:List Value)) 42,Row 53 Qah v44 (r43.1.get 0 []),Row 53 Qah v45 (r43.1.get 1 []),Row 53 Qah v46 (r43.1.get 2 []),Cells b50 (([v44,v45,v46]:List Value)) 42] w) N ⟨0,0,0,Ho,rfl,hs⟩ ?_ ?_
 ·
  rintro _ _ ⟨x78,x79,x80,h,_⟩
  exact rounds_zero h
 intro n_ ih1_
 rintro t w ⟨x78,x79,x80,Ho,hf,hs⟩
 obtain ⟨O,rfl⟩:=hf.open
 try dsimp only [oT]
 obtain ⟨x35_,H,Hx1_⟩:=rounds_succ Ho
 have H:Qak.b14 N x34 r43 r7 x14 x37 x40 x78 x79 x80=some x35_:=H
 unfold Qak.b14 at H
 refine Qag (Qag (Qan [0,1] rfl ?_))
 refine Qab (v:=int .i64 x80) rfl rfl rfl (g_d rfl ?_)
 refine QaR (B:=decide (x80< 3)) rfl rfl rfl ?_ ?_
 ·
  intro hb
  rw [if_pos (b_dec_t hb)] at H
  refine g_d rfl (Qaa (Qaw rfl (QaS (Qag ?_))))
  refine Qa2 (J:=(fun t w=>∃ x133:Int,∃ x134:Int,Qak.j16 N x80 x133 x134=some x35_∧Fr t (fun O=>(O 0::O 1::O 2::O 3::O 4::pointer (some ⟨b8,0,none⟩)::pointer (some ⟨b13,0,none⟩)::O 7::O 8::v19::O 10::pointer (some ⟨b32,0,none⟩)::O 12::pointer (some ⟨b50,0,none⟩)::O 14::O 15::O 16::int .i64 x133::int .i64 x134::int .i64 x80::oT O 2 (oT O 3 (oT O 4 (oT O 5 (oT O 6 (oT O 7 (oT O 8 (oT O 9 (oT O 10 (oT O 11 (oT O 12 (oT O 13 (oT O 14 (oT O 15 (oT O 16 (oT O 17 (oT O 18 (oT O 19 (oT O 20 (oT O 21 (oT O 22 (oT O 23 (oT O 24 (oT O 25 (oT O 26 (oT O 27 (oT O 28 (oT O 29 (O 300::O 301::O 302::O 303::[])))))))))))))))))))))))))))):List Value))∧St w0 [Cells b8 (Qae r7) 27,Cells b13 ((encA (encI .i8)) x14) 37,Row 53 Qah v19 r18.1,Cells b32 (([v33,v36,v39]:List Value)) 42,Row 53 Qah v33 x34,Row 53 Qah v36 x37,Row 53 Qah v39 x40,Cells b50 (([v44,v45,v46]:List Value)) 42,Row 53 Qah v44 (r43.1.get 0 []),Row 53 Qah v45 (r43.1.get 1 []),Row 53 Qah v46 (r43.1.get 2 [])] w)) ?_ ?_
  ·
   rintro t w ⟨x133,x134,H,hf,hs⟩
   obtain ⟨O,rfl⟩:=hf.open
   try dsimp only [oT]
   unfold Qak.j16 at H
   refine Qan [0,1,2] rfl ?_
   refine Qab (v:=int .i64 x80) rfl rfl rfl (g_d rfl ?_)
   refine Qab (v:=int .i64 (i64w (x80+1))) rfl rfl rfl (g_d rfl ?_)
   try dsimp only [set0,setS]
   refine Qab (v:=int .i64 (i64w (x80+1))) rfl rfl rfl (g_d rfl (Qaa ?_))
   obtain rfl:=QsJ H
   have hs:=hs.pull 7 rfl
   have hs:=hs.pull 10 rfl
   have hs:=hs.pull 10 rfl
   have hs:=hs.pull 10 rfl
   have hs:=hs.pull 7 rfl
   have hs:=hs.pull 10 rfl
   have hs:=hs.pull 10 rfl
   have hs:=hs.pull 10 rfl
   have hs:=hs.pull 10 rfl
   have hs:=hs.pull 10 rfl
   have hs:=hs.pull 10 rfl
   have hs:St _ [_,_,_,_,_,_,_,_,_,_,_] _:=St.take (Γ':=[]) hs
   exact ih1_ _ _ ⟨x133,x134,i64w (x80+1),Hx1_,rfl,hs⟩
  intro ha
  refine Qag (Qag ?_)
  refine QcB (J:=(fun t w=>Qak.j17 N x80 r43 r7 x14 x79 x78=some x35_∧Fr t (fun O=>(O 0::O 1::O 2::O 3::O 4::pointer (some ⟨b8,0,none⟩)::pointer (some ⟨b13,0,none⟩)::O 7::O 8::v19::O 10::pointer (some ⟨b32,0,none⟩)::O 12::pointer (some ⟨b50,0,none⟩)::O 14::O 15::O 16::int .i64 x78::int .i64 x79::int .i64 x80::oT O 2 (oT O 3 (oT O 4 (oT O 5 (oT O 6 (oT O 7 (oT O 8 (oT O 9 (oT O 10 (oT O 11 (oT O 12 (oT O 13 (oT O 14 (oT O 15 (oT O 16 (oT O 17 (oT O 18 (oT O 19 (oT O 20 (oT O 21 (oT O 22 (oT O 23 (oT O 24 (oT O 25 (oT O 26 (oT O 27 (oT O 28 (oT O 29 (O 300::O 301::O 302::O 303::[])))))))))))))))))))))))))))):List Value))∧St w0 [Cells b8 (Qae r7) 27,Cells b13 ((encA (encI .i8)) x14) 37,Row 53 Qah v19 r18.1,Cells b32 (([v33,v36,v39]:List Value)) 42,Row 53 Qah v33 x34,Row 53 Qah v36 x37,Row 53 Qah v39 x40,Cells b50 (([v44,v45,v46]:List Value)) 42,Row 53 Qah v44 (r43.1.get 0 []),Row 53 Qah v45 (r43.1.get 1 []),Row 53 Qah v46 (r43.1.get 2 [])] w)) ?_ ?_
  · as_aux_lemma =>
   rintro t w ⟨H,hf,hs⟩
   obtain ⟨O,rfl⟩:=hf.open
   try dsimp only [oT]
   unfold Qak.j17 at H
   refine Qag (Qag (Qan [0] rfl ?_))
   refine Qab (v:=int .i64 0) rfl rfl rfl (g_d rfl (Qaa ?_))
   obtain ⟨o2_,Ho,Hr2_⟩:=bind_get H
   refine Qa2 (J:=fun t w=>Qak.a18 N x80 x79 r43 x78=some x35_∧Fr t (fun O=>(O 0::O 1::O 2::O 3::O 4::pointer (some ⟨b8,0,none⟩)::pointer (some ⟨b13,0,none⟩)::O 7::O 8::v19::O 10::pointer (some ⟨b32,0,none⟩)::O 12::pointer (some ⟨b50,0,none⟩)::O 14::O 15::O 16::int .i64 x78::int .i64 x79::int .i64 x80::oT O 2 (oT O 3 (oT O 4 (oT O 5 (oT O 6 (oT O 7 (oT O 8 (oT O 9 (oT O 10 (oT O 11 (oT O 12 (oT O 13 (oT O 14 (oT O 15 (oT O 16 (oT O 17 (oT O 18 (oT O 19 (oT O 20 (oT O 21 (oT O 22 (oT O 23 (oT O 24 (oT O 25 (oT O 26 (oT O 27 (oT O 28 (oT O 29 (O 300::O 301::O 302::O 303::[])))))))))))))))))))))))))))):List Value))∧St w0 [Cells b8 (Qae r7) 27,Cells b13 ((encA (encI .i8)) x14) 37,Row 53 Qah v19 r18.1,Cells b32 (([v33,v36,v39]:List Value)) 42,Row 53 Qah v33 x34,Row 53 Qah v36 x37,Row 53 Qah v39 x40,Cells b50 (([v44,v45,v46]:List Value)) 42,Row 53 Qah v44 (r43.1.get 0 []),Row 53 Qah v45 (r43.1.get 1 []),Row 53 Qah v46 (r43.1.get 2 [])] w) ?_ ?_
   · as_aux_lemma =>
    rintro t w ⟨H,hf,hs⟩
    obtain ⟨O,rfl⟩:=hf.open
    try dsimp only [oT]
    unfold Qak.a18 at H
    refine Qag ?_
    refine QcR (J:=(fun t w=>∃ x125:Int,Qak.j20 N x80 x79 r43 x125=some x35_∧Fr t (fun O=>(O 0::O 1::O 2::O 3::O 4::pointer (some ⟨b8,0,none⟩)::pointer (some ⟨b13,0,none⟩)::O 7::O 8::v19::O 10::pointer (some ⟨b32,0,none⟩)::O 12::pointer (some ⟨b50,0,none⟩)::O 14::O 15::O 16::int .i64 x125::int .i64 x79::int .i64 x80::oT O 2 (oT O 3 (oT O 4 (oT O 5 (oT O 6 (oT O 7 (oT O 8 (oT O 9 (oT O 10 (oT O 11 (oT O 12 (oT O 13 (oT O 14 (oT O 15 (oT O 16 (oT O 17 (oT O 18 (oT O 19 (oT O 20 (oT O 21 (oT O 22 (oT O 23 (oT O 24 (oT O 25 (oT O 26 (oT O 27 (oT O 28 (oT O 29 (O 300::O 301::O 302::O 303::[])))))))))))))))))))))))))))):List Value))∧St w0 [Cells b8 (Qae r7) 27,Cells b13 ((encA (encI .i8)) x14) 37,Row 53 Qah v19 r18.1,Cells b32 (([v33,v36,v39]:List Value)) 42,Row 53 Qah v33 x34,Row 53 Qah v36 x37,Row 53 Qah v39 x40,Cells b50 (([v44,v45,v46]:List Value)) 42,Row 53 Qah v44 (r43.1.get 0 []),Row 53 Qah v45 (r43.1.get 1 []),Row 53 Qah v46 (r43.1.get 2 [])] w)) ?_ ?_
    · as_aux_lemma =>
     rintro t w ⟨x125,H,hf,hs⟩
     obtain ⟨O,rfl⟩:=hf.open
     try dsimp only [oT]
     unfold Qak.j20 at H
     by_cases hk31_:x80=0
     ·
      rw [if_pos hk31_] at H
      refine Qan [0,1,2,3,4,5,6] rfl ?_
      refine Qab (v:=int .i64 x79) rfl rfl rfl (g_d rfl ?_)
      refine Qab (v:=int .i64 x80) rfl rfl rfl (g_d rfl ?_)
      refine QbR (m:=1) 0 hk31_ (by decide) rfl (fun _=>rfl) rfl rfl rfl rfl rfl (g_d rfl ?_)
      refine Qaz rfl rfl (v:=v44) rfl rfl (fun _=>rfl) (cells_load (hs.cells 7 rfl) 0 1 rfl) (g_d rfl ?_)
      try dsimp only [set0,setS]
      refine Qb1 (hs.row 8 rfl) rfl rfl rfl rfl rfl (g_d rfl ?_)
      refine Qab (v:=int .i64 (mxI x79 ((r43.1.get 0 []).length:Int))) rfl rfl (Qc8 rfl rfl rfl) (g_d rfl ?_)
      try dsimp only [set0,setS]
      refine Qab (v:=int .i64 (mxI x79 ((r43.1.get 0 []).length:Int))) rfl rfl rfl (g_d rfl (Qaa ?_))
      refine Qa5 ?_
      have hs:=hs.pull 10 rfl
      have hs:=hs.pull 10 rfl
      have hs:=hs.pull 10 rfl
      have hs:=hs.pull 10 rfl
      have hs:=hs.pull 10 rfl
      have hs:=hs.pull 10 rfl
      have hs:=hs.pull 10 rfl
      have hs:=hs.pull 10 rfl
      have hs:=hs.pull 10 rfl
      have hs:=hs.pull 10 rfl
      have hs:=hs.pull 10 rfl
      have hs:St _ [_,_,_,_,_,_,_,_,_,_,_] _:=St.take (Γ':=[]) hs
      exact ha _ _ ⟨x125,mxI x79 ((r43.1.get 0 []).length:Int),H,rfl,hs⟩
     rw [if_neg hk31_] at H
     by_cases hk32_:x80=1
     ·
      rw [if_pos hk32_] at H
      refine Qan [0,1,2,3,4,5,6] rfl ?_
      refine Qab (v:=int .i64 x79) rfl rfl rfl (g_d rfl ?_)
      refine Qab (v:=int .i64 x80) rfl rfl rfl (g_d rfl ?_)
      refine QbR (m:=1) 1 hk32_ (by decide) rfl (fun _=>rfl) rfl rfl rfl rfl rfl (g_d rfl ?_)
      try dsimp only [set0,setS]
      refine Qaz rfl rfl (v:=v45) rfl rfl (fun _=>rfl) (cells_load (hs.cells 7 rfl) 1 1 rfl) (g_d rfl ?_)
      refine Qb1 (hs.row 9 rfl) rfl rfl rfl rfl rfl (g_d rfl ?_)
      try dsimp only [set0,setS]
      refine Qab (v:=int .i64 (mxI x79 ((r43.1.get 1 []).length:Int))) rfl rfl (Qc8 rfl rfl rfl) (g_d rfl ?_)
      refine Qab (v:=int .i64 (mxI x79 ((r43.1.get 1 []).length:Int))) rfl rfl rfl (g_d rfl ?_)
      try dsimp only [set0,setS]
      refine Qaa ?_
      refine Qa5 ?_
      have hs:=hs.pull 10 rfl
      have hs:=hs.pull 10 rfl
      have hs:=hs.pull 10 rfl
      have hs:=hs.pull 10 rfl
      have hs:=hs.pull 10 rfl
      have hs:=hs.pull 10 rfl
      have hs:=hs.pull 10 rfl
      have hs:=hs.pull 10 rfl
      have hs:=hs.pull 10 rfl
      have hs:=hs.pull 10 rfl
      have hs:=hs.pull 10 rfl
      have hs:St _ [_,_,_,_,_,_,_,_,_,_,_] _:=St.take (Γ':=[]) hs
      exact ha _ _ ⟨x125,mxI x79 ((r43.1.get 1 []).length:Int),H,rfl,hs⟩
     rw [if_neg hk32_] at H
     by_cases hk33_:x80=2
     ·
      rw [if_pos hk33_] at H
      refine Qan [0,1,2,3,4,5,6] rfl ?_
      refine Qab (v:=int .i64 x79) rfl rfl rfl (g_d rfl ?_)
      refine Qab (v:=int .i64 x80) rfl rfl rfl (g_d rfl ?_)
      refine QbR (m:=1) 2 hk33_ (by decide) rfl (fun _=>rfl) rfl rfl rfl rfl rfl (g_d rfl ?_)
      refine Qaz rfl rfl (v:=v46) rfl rfl (fun _=>rfl) (cells_load (hs.cells 7 rfl) 2 1 rfl) (g_d rfl ?_)
      try dsimp only [set0,setS]
      refine Qb1 (hs.row 10 rfl) rfl rfl rfl rfl rfl (g_d rfl ?_)
      refine Qab (v:=int .i64 (mxI x79 ((r43.1.get 2 []).length:Int))) rfl rfl (Qc8 rfl rfl rfl) (g_d rfl ?_)
      try dsimp only [set0,setS]
      refine Qab (v:=int .i64 (mxI x79 ((r43.1.get 2 []).length:Int))) rfl rfl rfl (g_d rfl (Qaa ?_))
      refine Qa5 ?_
      have hs:=hs.pull 10 rfl
      have hs:=hs.pull 10 rfl
      have hs:=hs.pull 10 rfl
      have hs:=hs.pull 10 rfl
      have hs:=hs.pull 10 rfl
      have hs:=hs.pull 10 rfl
      have hs:=hs.pull 10 rfl
      have hs:=hs.pull 10 rfl
      have hs:=hs.pull 10 rfl
      have hs:=hs.pull 10 rfl
      have hs:=hs.pull 10 rfl
      have hs:St _ [_,_,_,_,_,_,_,_,_,_,_] _:=St.take (Γ':=[]) hs
      exact ha _ _ ⟨x125,mxI x79 ((r43.1.get 2 []).length:Int),H,rfl,hs⟩
     rw [if_neg hk33_] at H
     cases H
    intro ha
    by_cases hk28_:x80=0
    ·
     rw [if_pos hk28_] at H
     refine Qan [0,1,2,3,4,5,6] rfl ?_
     refine Qab (v:=int .i64 x78) rfl rfl rfl (g_d rfl ?_)
     refine Qab (v:=int .i64 x80) rfl rfl rfl (g_d rfl ?_)
     refine QbR (m:=1) 0 hk28_ (by decide) rfl (fun _=>rfl) rfl rfl rfl rfl rfl (g_d rfl ?_)
     try dsimp only [set0,setS]
     refine Qaz rfl rfl (v:=v44) rfl rfl (fun _=>rfl) (cells_load (hs.cells 7 rfl) 0 1 rfl) (g_d rfl ?_)
     refine Qb1 (hs.row 8 rfl) rfl rfl rfl rfl rfl (g_d rfl ?_)
     try dsimp only [set0,setS]
     refine Qab (v:=int .i64 (i64w (x78+((r43.1.get 0 []).length:Int)))) rfl rfl rfl (g_d rfl ?_)
     refine Qab (v:=int .i64 (i64w (x78+((r43.1.get 0 []).length:Int)))) rfl rfl rfl (g_d rfl ?_)
     try dsimp only [set0,setS]
     refine Qaa ?_
     have hs:=hs.pull 10 rfl
     have hs:=hs.pull 10 rfl
     have hs:=hs.pull 10 rfl
     have hs:=hs.pull 10 rfl
     have hs:=hs.pull 10 rfl
     have hs:=hs.pull 10 rfl
     have hs:=hs.pull 10 rfl
     have hs:=hs.pull 10 rfl
     have hs:=hs.pull 10 rfl
     have hs:=hs.pull 10 rfl
     have hs:=hs.pull 10 rfl
     have hs:St _ [_,_,_,_,_,_,_,_,_,_,_] _:=St.take (Γ':=[]) hs
     exact ha _ _ ⟨i64w (x78+((r43.1.get 0 []).length:Int)),H,rfl,hs⟩
    rw [if_neg hk28_] at H
    by_cases hk29_:x80=1
    ·
     rw [if_pos hk29_] at H
     refine Qan [0,1,2,3,4,5,6] rfl ?_
     refine Qab (v:=int .i64 x78) rfl rfl rfl (g_d rfl ?_)
     refine Qab (v:=int .i64 x80) rfl rfl rfl (g_d rfl ?_)
     refine QbR (m:=1) 1 hk29_ (by decide) rfl (fun _=>rfl) rfl rfl rfl rfl rfl (g_d rfl ?_)
     refine Qaz rfl rfl (v:=v45) rfl rfl (fun _=>rfl) (cells_load (hs.cells 7 rfl) 1 1 rfl) (g_d rfl ?_)
     try dsimp only [set0,setS]
     refine Qb1 (hs.row 9 rfl) rfl rfl rfl rfl rfl (g_d rfl ?_)
     refine Qab (v:=int .i64 (i64w (x78+((r43.1.get 1 []).length:Int)))) rfl rfl rfl (g_d rfl ?_)
     try dsimp only [set0,setS]
     refine Qab (v:=int .i64 (i64w (x78+((r43.1.get 1 []).length:Int)))) rfl rfl rfl (g_d rfl (Qaa ?_))
     have hs:=hs.pull 10 rfl
     have hs:=hs.pull 10 rfl
     have hs:=hs.pull 10 rfl
     have hs:=hs.pull 10 rfl
     have hs:=hs.pull 10 rfl
     have hs:=hs.pull 10 rfl
     have hs:=hs.pull 10 rfl
     have hs:=hs.pull 10 rfl
     have hs:=hs.pull 10 rfl
     have hs:=hs.pull 10 rfl
     have hs:=hs.pull 10 rfl
     have hs:St _ [_,_,_,_,_,_,_,_,_,_,_] _:=St.take (Γ':=[]) hs
     exact ha _ _ ⟨i64w (x78+((r43.1.get 1 []).length:Int)),H,rfl,hs⟩
    rw [if_neg hk29_] at H
    by_cases hk30_:x80=2
    ·
     rw [if_pos hk30_] at H
     refine Qan [0,1,2,3,4,5,6] rfl ?_
     refine Qab (v:=int .i64 x78) rfl rfl rfl (g_d rfl ?_)
     refine Qab (v:=int .i64 x80) rfl rfl rfl (g_d rfl ?_)
     refine QbR (m:=1) 2 hk30_ (by decide) rfl (fun _=>rfl) rfl rfl rfl rfl rfl (g_d rfl ?_)
     try dsimp only [set0,setS]
     refine Qaz rfl rfl (v:=v46) rfl rfl (fun _=>rfl) (cells_load (hs.cells 7 rfl) 2 1 rfl) (g_d rfl ?_)
     refine Qb1 (hs.row 10 rfl) rfl rfl rfl rfl rfl (g_d rfl ?_)
     try dsimp only [set0,setS]
     refine Qab (v:=int .i64 (i64w (x78+((r43.1.get 2 []).length:Int)))) rfl rfl rfl (g_d rfl ?_)
     refine Qab (v:=int .i64 (i64w (x78+((r43.1.get 2 []).length:Int)))) rfl rfl rfl (g_d rfl ?_)
     try dsimp only [set0,setS]
     refine Qaa ?_
     have hs:=hs.pull 10 rfl
     have hs:=hs.pull 10 rfl
     have hs:=hs.pull 10 rfl
     have hs:=hs.pull 10 rfl
     have hs:=hs.pull 10 rfl
     have hs:=hs.pull 10 rfl
     have hs:=hs.pull 10 rfl
     have hs:=hs.pull 10 rfl
     have hs:=hs.pull 10 rfl
     have hs:=hs.pull 10 rfl
     have hs:=hs.pull 10 rfl
     have hs:St _ [_,_,_,_,_,_,_,_,_,_,_] _:=St.take (Γ':=[]) hs
     exact ha _ _ ⟨i64w (x78+((r43.1.get 2 []).length:Int)),H,rfl,hs⟩
    rw [if_neg hk30_] at H
    cases H
   intro ha2_
   have hs:=hs.pull 7 rfl
   have hs:=hs.pull 10 rfl
   have hs:=hs.pull 10 rfl
   have hs:=hs.pull 10 rfl
   have hs:=hs.pull 7 rfl
   have hs:=hs.pull 10 rfl
   have hs:=hs.pull 10 rfl
   have hs:=hs.pull 10 rfl
   have hs:=hs.pull 10 rfl
   have hs:=hs.pull 10 rfl
   have hs:=hs.pull 10 rfl
   have hs:St _ [_,_,_,_,_,_,_,_,_,_,_] _:=St.take (Γ':=[]) hs
   refine Qbk (I:=fun n_ t w=>∃ x91:Int,rounds (fun s=>Qak.b18 N x80 r43 r7 x14 s) n_ x91=some o2_∧Fr t (fun O=>(O 0::O 1::O 2::O 3::O 4::pointer (some ⟨b8,0,none⟩)::pointer (some ⟨b13,0,none⟩)::O 7::O 8::v19::O 10::pointer (some ⟨b32,0,none⟩)::O 12::pointer (some ⟨b50,0,none⟩)::O 14::O 15::O 16::int .i64 x78::int .i64 x79::int .i64 x80::int .i64 x91::O 21::O 22::O 23::O 24::O 25::O 26::O 27::O 28::O 29::oT O 3 (oT O 4 (oT O 5 (oT O 6 (oT O 7 (oT O 8 (oT O 9 (oT O 10 (oT O 11 (oT O 12 (oT O 13 (oT O 14 (oT O 15 (oT O 16 (oT O 17 (oT O 18 (oT O 19 (oT O 20 (oT O 21 (oT O 22 (oT O 23 (oT O 24 (oT O 25 (oT O 26 (oT O 27 (oT O 28 (oT O 29 (O 300::O 301::O 302::O 303::[]))))))))))))))))))))))))))):List Value))∧St w0 [Cells b8 (Qae r7) 27,Cells b13 ((encA (encI .i8)) x14) 37,Row 53 Qah v19 r18.1,Row 53 Qah v33 x34,Row 53 Qah v36 x37,Row 53 Qah v39 x40,Cells b32 (([v33,v36,v39]:List Value)) 42,Row 53 Qah v44 (r43.1.get 0 []),Row 53 Qah v45 (r43.1.get 1 []),Row 53 Qah v46 (r43.1.get 2 []),Cells b50 (([v44,v45,v46]:List Value)) 42] w) N ⟨0,Ho,rfl,hs⟩ ?_ ?_
   ·
    rintro _ _ ⟨x91,h,_⟩
    exact rounds_zero h
   intro n_ ih2_
   rintro t w ⟨x91,Ho,hf,hs⟩
   obtain ⟨O,rfl⟩:=hf.open
   try dsimp only [oT]
   obtain ⟨x34_,H,Hx2_⟩:=rounds_succ Ho
   have H:Qak.b18 N x80 r43 r7 x14 x91=some x34_:=H
   unfold Qak.b18 at H
   refine Qag (Qag ?_)
   refine QcB (J:=(fun t w=>Qak.j21 N x80 x91 r43 r7 x14=some x34_∧Fr t (fun O=>(O 0::O 1::O 2::O 3::O 4::pointer (some ⟨b8,0,none⟩)::pointer (some ⟨b13,0,none⟩)::O 7::O 8::v19::O 10::pointer (some ⟨b32,0,none⟩)::O 12::pointer (some ⟨b50,0,none⟩)::O 14::O 15::O 16::int .i64 x78::int .i64 x79::int .i64 x80::int .i64 x91::O 21::O 22::O 23::O 24::O 25::O 26::O 27::O 28::O 29::oT O 3 (oT O 4 (oT O 5 (oT O 6 (oT O 7 (oT O 8 (oT O 9 (oT O 10 (oT O 11 (oT O 12 (oT O 13 (oT O 14 (oT O 15 (oT O 16 (oT O 17 (oT O 18 (oT O 19 (oT O 20 (oT O 21 (oT O 22 (oT O 23 (oT O 24 (oT O 25 (oT O 26 (oT O 27 (oT O 28 (oT O 29 (O 300::O 301::O 302::O 303::[]))))))))))))))))))))))))))):List Value))∧St w0 [Cells b8 (Qae r7) 27,Cells b13 ((encA (encI .i8)) x14) 37,Row 53 Qah v19 r18.1,Cells b32 (([v33,v36,v39]:List Value)) 42,Row 53 Qah v33 x34,Row 53 Qah v36 x37,Row 53 Qah v39 x40,Cells b50 (([v44,v45,v46]:List Value)) 42,Row 53 Qah v44 (r43.1.get 0 []),Row 53 Qah v45 (r43.1.get 1 []),Row 53 Qah v46 (r43.1.get 2 [])] w)) ?_ ?_
   ·
    rintro t w ⟨H,hf,hs⟩
    obtain ⟨O,rfl⟩:=hf.open
    try dsimp only [oT]
    unfold Qak.j21 at H
    refine Qag ?_
    refine QbP (Qag ?_)
    refine QcR (J:=(fun t w=>∃ x109:Int,∃ x110:Int,Qak.j22 N x80 x91 x109 x110=some x34_∧Fr t (fun O=>(O 0::O 1::O 2::O 3::O 4::pointer (some ⟨b8,0,none⟩)::pointer (some ⟨b13,0,none⟩)::O 7::O 8::v19::O 10::pointer (some ⟨b32,0,none⟩)::O 12::pointer (some ⟨b50,0,none⟩)::O 14::O 15::O 16::int .i64 x78::int .i64 x79::int .i64 x80::int .i64 x91::int .i64 x109::int .i64 x110::O 23::O 24::O 25::O 26::O 27::O 28::O 29::oT O 3 (oT O 4 (oT O 5 (oT O 6 (oT O 7 (oT O 8 (oT O 9 (oT O 10 (oT O 11 (oT O 12 (oT O 13 (oT O 14 (oT O 15 (oT O 16 (oT O 17 (oT O 18 (oT O 19 (oT O 20 (oT O 21 (oT O 22 (oT O 23 (oT O 24 (oT O 25 (oT O 26 (oT O 27 (oT O 28 (oT O 29 (O 300::O 301::O 302::O 303::[]))))))))))))))))))))))))))):List Value))∧St w0 [Cells b8 (Qae r7) 27,Cells b13 ((encA (encI .i8)) x14) 37,Row 53 Qah v19 r18.1,Cells b32 (([v33,v36,v39]:List Value)) 42,Row 53 Qah v33 x34,Row 53 Qah v36 x37,Row 53 Qah v39 x40,Cells b50 (([v44,v45,v46]:List Value)) 42,Row 53 Qah v44 (r43.1.get 0 []),Row 53 Qah v45 (r43.1.get 1 []),Row 53 Qah v46 (r43.1.get 2 [])] w)) ?_ ?_
    · as_aux_lemma =>
     rintro t w ⟨x109,x110,H,hf,hs⟩
     obtain ⟨O,rfl⟩:=hf.open
     try dsimp only [oT]
     unfold Qak.j22 at H
     refine Qag (Qan [0,1,2,3,4,5,6,7] rfl ?_)
     refine Qab (v:=int .i64 x110) rfl rfl rfl (g_d rfl ?_)
     refine QaR (B:=x110 !=0) rfl rfl rfl ?_ ?_
     ·
      intro hb
      rw [if_neg (b_bne_t hb)] at H
      refine g_d rfl ?_
      try dsimp only [set0,setS]
      refine Qab (v:=bool true) rfl rfl rfl (g_d rfl (Qal rfl rfl (g_d rfl (Qal rfl rfl (g_d rfl (Qal rfl rfl (g_d rfl ?_)))))))
      refine Qal rfl rfl (g_d rfl ?_)
      try dsimp only [set0,setS]
      refine Qab (v:=bool true) rfl rfl rfl (g_d rfl (Qaa (Qaw rfl (Qag (Qan [0] rfl ?_)))))
      refine Qab (v:=bool false) rfl rfl rfl (g_d rfl ?_)
      try dsimp only [set0,setS]
      refine Qaa ?_
      obtain rfl:=QsJ H
      subst Hx2_
      have H:=QsJ Hr2_
      subst H
      subst Hx1_
      have H:=QsJ Hr1_
      subst H
      refine QaK Try.func5 (v:=bool false) (res1 rfl rfl) ?_
      have hs:St _ [] _:=St.take (Γ':=[_,_,_,_,_,_,_,_,_,_,_]) hs
      exact ⟨_,rfl,rfl,hs⟩
     intro hb
     rw [if_pos (b_bne_f hb)] at H
     refine g_d rfl ?_
     refine Qab (v:=bool false) rfl rfl rfl (g_d rfl ?_)
     refine Qab (v:=int .i64 x109) rfl rfl rfl (g_d rfl ?_)
     refine Qab (v:=int .i64 x80) rfl rfl rfl (g_d rfl ?_)
     refine Qab (v:=int .i64 (i64w (x80 - 1))) rfl rfl rfl (g_d rfl ?_)
     try dsimp only [set0,setS]
     refine QaR (B:=x109 !=(i64w (x80 - 1))) rfl rfl rfl ?_ ?_
     ·
      intro hb
      rw [if_neg (b_bne_t hb)] at H
      refine g_d rfl ?_
      refine Qab (v:=bool true) rfl rfl rfl (g_d rfl ?_)
      try dsimp only [set0,setS]
      refine Qaa (Qaw rfl (Qag (Qan [0] rfl ?_)))
      refine Qab (v:=bool false) rfl rfl rfl (g_d rfl (Qaa ?_))
      obtain rfl:=QsJ H
      subst Hx2_
      have H:=QsJ Hr2_
      subst H
      subst Hx1_
      have H:=QsJ Hr1_
      subst H
      refine QaK Try.func5 (v:=bool false) (res1 rfl rfl) ?_
      have hs:St _ [] _:=St.take (Γ':=[_,_,_,_,_,_,_,_,_,_,_]) hs
      exact ⟨_,rfl,rfl,hs⟩
     intro hb
     rw [if_pos (b_bne_f hb)] at H
     refine g_d rfl ?_
     refine Qab (v:=bool false) rfl rfl rfl (g_d rfl ?_)
     try dsimp only [set0,setS]
     refine Qaa (Qax rfl (QaS ?_))
     refine Qa5 (Qan [0,1,2] rfl ?_)
     refine Qab (v:=int .i64 x91) rfl rfl rfl (g_d rfl ?_)
     refine Qab (v:=int .i64 (i64w (x91+1))) rfl rfl rfl (g_d rfl ?_)
     refine Qab (v:=int .i64 (i64w (x91+1))) rfl rfl rfl (g_d rfl ?_)
     try dsimp only [set0,setS]
     refine Qaa ?_
     obtain rfl:=QsJ H
     have hs:=hs.pull 7 rfl
     have hs:=hs.pull 10 rfl
     have hs:=hs.pull 10 rfl
     have hs:=hs.pull 10 rfl
     have hs:=hs.pull 7 rfl
     have hs:=hs.pull 10 rfl
     have hs:=hs.pull 10 rfl
     have hs:=hs.pull 10 rfl
     have hs:=hs.pull 10 rfl
     have hs:=hs.pull 10 rfl
     have hs:=hs.pull 10 rfl
     have hs:St _ [_,_,_,_,_,_,_,_,_,_,_] _:=St.take (Γ':=[]) hs
     exact ih2_ _ _ ⟨i64w (x91+1),Hx2_,rfl,hs⟩
    intro ha
    by_cases hk19_:x80=0
    · as_aux_lemma =>
     rw [if_pos hk19_] at H
     obtain ⟨gd20,H⟩:=ite_get H
     obtain ⟨ad21_,ad21_N,ad21_C,had21_⟩:=sl_at (hs.row 8 rfl) gd20.1 gd20.2
     obtain ⟨r99,Hr99,H⟩:=bind_get H
     refine QbT ?_
     intro T hT
     refine Qcg (n:=14) rfl [0,1,2,3,4,5,6,7,8,9,10,11,12,13] [0,1,2,3,4,5,6,7,8,9,10,12,11,13] rfl rfl (Inv:=fun D t w=>∃ O:Nat→Value,t=(O 0::O 1::O 2::O 3::O 4::pointer (some ⟨b8,0,none⟩)::pointer (some ⟨b13,0,none⟩)::O 7::O 8::v19::O 10::pointer (some ⟨b32,0,none⟩)::O 12::pointer (some ⟨b50,0,none⟩)::O 14::O 15::O 16::int .i64 x78::int .i64 x79::int .i64 x80::int .i64 x91::cnd (D 12) (int .i64 r99.1) (O 21)::cnd (D 13) (int .i64 r99.2) (O 22)::O 23::O 24::O 25::O 26::O 27::O 28::O 29::oT O 3 (oT O 4 (oT O 5 (oT O 6 (oT O 7 (oT O 8 (oT O 9 (oT O 10 (oT O 11 (oT O 12 (oT O 13 (O 140::O 141::O 142::O 143::cnd (D 9) (tuple #[int .i64 r99.1,int .i64 r99.2]) (O 144)::cnd (D 0) (agg (Qae r7).toArray) (O 145)::cnd (D 1) (agg ((encA (encI .i8)) x14).toArray) (O 146)::cnd (D 2) (int .i64 x80) (O 147)::cnd (D 3) (pointer (some ⟨b50,0+0*1,none⟩)) (O 148)::cnd (D 4) v44 (O 149)::cnd (D 5) (int .i64 x91) (O 150)::cnd (D 6) (pointer (some (ad21_.add (x91.toNat*2)))) (O 151)::cnd (D 7) (agg (Qau (rdL (r43.1.get 0 []) x91 Qay)).toArray) (O 152)::cnd (D 8) (tuple #[int .i64 r99.1,int .i64 r99.2]) (O 153)::cnd (D 10) (int .i64 r99.1) (O 154)::cnd (D 11) (int .i64 r99.2) (O 155)::O 156::O 157::O 158::O 159::oT O 16 (oT O 17 (oT O 18 (oT O 19 (oT O 20 (oT O 21 (oT O 22 (oT O 23 (oT O 24 (oT O 25 (oT O 26 (oT O 27 (oT O 28 (oT O 29 (O 300::O 301::O 302::O 303::[]))))))))))))))))))))))))))∧St w0 [Cells b8 (Qae r7) 27,Cells b13 ((encA (encI .i8)) x14) 37,Row 53 Qah v19 r18.1,Cells b32 (([v33,v36,v39]:List Value)) 42,Row 53 Qah v33 x34,Row 53 Qah v36 x37,Row 53 Qah v39 x40,Cells b50 (([v44,v45,v46]:List Value)) 42,Row 53 Qah v44 (r43.1.get 0 []),Row 53 Qah v45 (r43.1.get 1 []),Row 53 Qah v46 (r43.1.get 2 [])] w) ?_ ⟨⟨⟨⟨⟨⟨⟨⟨⟨⟨⟨⟨⟨⟨trivial,?_⟩,?_⟩,?_⟩,?_⟩,?_⟩,?_⟩,?_⟩,?_⟩,?_⟩,?_⟩,?_⟩,?_⟩,?_⟩,?_⟩ ?_
     ·
      intro w hh hbw
      have hs:=hs.samew hh hbw
      exact ⟨fun i=>T.getD i undef,(by subst hT;rfl),hs⟩
     ·
      rintro D t w hD hp hcl ⟨O,ht,hs⟩ rest hk
      have q8_:=nz hcl 8 0 hD
      have q9_:=nz hcl 9 0 q8_
      have q10_:=nz hcl 10 0 q9_
      have q11_:=nz hcl 11 0 q9_
      have q12_:=nz hcl 12 0 q10_
      have q13_:=nz hcl 13 0 q11_
      simp only [hD,q8_,q9_,q10_,q11_,q12_,q13_,cq,oT] at ht hs
      subst ht
      refine QaG rfl rfl (es:=(Qae r7)) rfl rfl (fun _=>rfl) (n:=4) (fun _=>rfl) (QaJ.len _) (cells_all (hs.cells 0 rfl)) (g_d rfl ?_)
      try dsimp only [set0,setS]
      refine hk _ _ ⟨O,?_,hs.cast ?_⟩<;>simp only [oT,lq,cq,Nat.reduceBEq,q8_,q9_,q10_,q11_,q12_,q13_]
     ·
      rintro D t w hD hp hcl ⟨O,ht,hs⟩ rest hk
      have q8_:=nz hcl 8 1 hD
      have q9_:=nz hcl 9 0 q8_
      have q10_:=nz hcl 10 0 q9_
      have q11_:=nz hcl 11 0 q9_
      have q12_:=nz hcl 12 0 q10_
      have q13_:=nz hcl 13 0 q11_
      simp only [hD,q8_,q9_,q10_,q11_,q12_,q13_,cq,oT] at ht hs
      subst ht
      refine QaG rfl rfl (es:=((encA (encI .i8)) x14)) rfl rfl (fun _=>rfl) (n:=14) (fun _=>rfl) ((fkA (n:=14) (he:=(fkI .i8).len) (h1:=(fkI .i8).one)).len _) (cells_all (hs.cells 1 rfl)) (g_d rfl ?_)
      try dsimp only [set0,setS]
      refine hk _ _ ⟨O,?_,hs.cast ?_⟩<;>simp only [oT,lq,cq,Nat.reduceBEq,q8_,q9_,q10_,q11_,q12_,q13_]
     ·
      rintro D t w hD hp hcl ⟨O,ht,hs⟩ rest hk
      have q3_:=nz hcl 3 0 hD
      have q4_:=nz hcl 4 0 q3_
      have q6_:=nz hcl 6 0 q4_
      have q7_:=nz hcl 7 0 q6_
      have q8_:=nz hcl 8 2 q7_
      have q9_:=nz hcl 9 0 q8_
      have q10_:=nz hcl 10 0 q9_
      have q11_:=nz hcl 11 0 q9_
      have q12_:=nz hcl 12 0 q10_
      have q13_:=nz hcl 13 0 q11_
      simp only [hD,q3_,q4_,q6_,q7_,q8_,q9_,q10_,q11_,q12_,q13_,cq,oT] at ht hs
      subst ht
      refine Qab (v:=int .i64 x80) rfl rfl rfl (g_d rfl ?_)
      try dsimp only [set0,setS]
      refine hk _ _ ⟨O,?_,hs.cast ?_⟩<;>simp only [oT,lq,cq,Nat.reduceBEq,q3_,q4_,q6_,q7_,q8_,q9_,q10_,q11_,q12_,q13_]
     ·
      rintro D t w hD hp hcl ⟨O,ht,hs⟩ rest hk
      obtain ⟨p2_,_⟩:=hp
      have q4_:=nz hcl 4 0 hD
      have q6_:=nz hcl 6 0 q4_
      have q7_:=nz hcl 7 0 q6_
      have q8_:=nz hcl 8 2 q7_
      have q9_:=nz hcl 9 0 q8_
      have q10_:=nz hcl 10 0 q9_
      have q11_:=nz hcl 11 0 q9_
      have q12_:=nz hcl 12 0 q10_
      have q13_:=nz hcl 13 0 q11_
      simp only [hD,p2_,q4_,q6_,q7_,q8_,q9_,q10_,q11_,q12_,q13_,cq,oT] at ht hs
      subst ht
      refine QbR (m:=1) 0 hk19_ (by decide) rfl (fun _=>rfl) rfl rfl rfl rfl rfl (g_d rfl ?_)
      try dsimp only [set0,setS]
      refine hk _ _ ⟨O,?_,hs.cast ?_⟩<;>simp only [oT,lq,cq,Nat.reduceBEq,p2_,q4_,q6_,q7_,q8_,q9_,q10_,q11_,q12_,q13_]
     ·
      rintro D t w hD hp hcl ⟨O,ht,hs⟩ rest hk
      obtain ⟨p3_,_⟩:=hp
      obtain ⟨p2_,_⟩:=(hcl.get 3 (by decide)) p3_
      have q6_:=nz hcl 6 0 hD
      have q7_:=nz hcl 7 0 q6_
      have q8_:=nz hcl 8 2 q7_
      have q9_:=nz hcl 9 0 q8_
      have q10_:=nz hcl 10 0 q9_
      have q11_:=nz hcl 11 0 q9_
      have q12_:=nz hcl 12 0 q10_
      have q13_:=nz hcl 13 0 q11_
      simp only [hD,p2_,p3_,q6_,q7_,q8_,q9_,q10_,q11_,q12_,q13_,cq,oT] at ht hs
      subst ht
      refine Qaz rfl rfl (v:=v44) rfl rfl (fun _=>rfl) (cells_load (hs.cells 7 rfl) 0 1 rfl) (g_d rfl ?_)
      try dsimp only [set0,setS]
      refine hk _ _ ⟨O,?_,hs.cast ?_⟩<;>simp only [oT,lq,cq,Nat.reduceBEq,p2_,p3_,q6_,q7_,q8_,q9_,q10_,q11_,q12_,q13_]
     ·
      rintro D t w hD hp hcl ⟨O,ht,hs⟩ rest hk
      have q6_:=nz hcl 6 1 hD
      have q7_:=nz hcl 7 0 q6_
      have q8_:=nz hcl 8 2 q7_
      have q9_:=nz hcl 9 0 q8_
      have q10_:=nz hcl 10 0 q9_
      have q11_:=nz hcl 11 0 q9_
      have q12_:=nz hcl 12 0 q10_
      have q13_:=nz hcl 13 0 q11_
      simp only [hD,q6_,q7_,q8_,q9_,q10_,q11_,q12_,q13_,cq,oT] at ht hs
      subst ht
      refine Qab (v:=int .i64 x91) rfl rfl rfl (g_d rfl ?_)
      try dsimp only [set0,setS]
      refine hk _ _ ⟨O,?_,hs.cast ?_⟩<;>simp only [oT,lq,cq,Nat.reduceBEq,q6_,q7_,q8_,q9_,q10_,q11_,q12_,q13_]
     ·
      rintro D t w hD hp hcl ⟨O,ht,hs⟩ rest hk
      obtain ⟨p4_,p5_,_⟩:=hp
      obtain ⟨p3_,_⟩:=(hcl.get 4 (by decide)) p4_
      obtain ⟨p2_,_⟩:=(hcl.get 3 (by decide)) p3_
      have q7_:=nz hcl 7 0 hD
      have q8_:=nz hcl 8 2 q7_
      have q9_:=nz hcl 9 0 q8_
      have q10_:=nz hcl 10 0 q9_
      have q11_:=nz hcl 11 0 q9_
      have q12_:=nz hcl 12 0 q10_
      have q13_:=nz hcl 13 0 q11_
      simp only [hD,p2_,p3_,p4_,p5_,q7_,q8_,q9_,q10_,q11_,q12_,q13_,cq,oT] at ht hs
      subst ht
      refine QcI (κ:=Qah) (m:=2) rfl (hs.row 8 rfl) rfl (fun _=>rfl) gd20.1 gd20.2 had21_ rfl rfl rfl rfl rfl (g_d rfl ?_)
      try dsimp only [set0,setS]
      refine hk _ _ ⟨O,?_,hs.cast ?_⟩<;>simp only [oT,lq,cq,Nat.reduceBEq,p2_,p3_,p4_,p5_,q7_,q8_,q9_,q10_,q11_,q12_,q13_]
     ·
      rintro D t w hD hp hcl ⟨O,ht,hs⟩ rest hk
      obtain ⟨p6_,_⟩:=hp
      obtain ⟨p4_,p5_,_⟩:=(hcl.get 6 (by decide)) p6_
      obtain ⟨p3_,_⟩:=(hcl.get 4 (by decide)) p4_
      obtain ⟨p2_,_⟩:=(hcl.get 3 (by decide)) p3_
      have q8_:=nz hcl 8 2 hD
      have q9_:=nz hcl 9 0 q8_
      have q10_:=nz hcl 10 0 q9_
      have q11_:=nz hcl 11 0 q9_
      have q12_:=nz hcl 12 0 q10_
      have q13_:=nz hcl 13 0 q11_
      simp only [hD,p2_,p3_,p4_,p5_,p6_,q8_,q9_,q10_,q11_,q12_,q13_,cq,oT] at ht hs
      subst ht
      refine QaG rfl rfl (es:=(Qau (rdL (r43.1.get 0 []) x91 Qay))) rfl rfl (fun _=>rfl) (n:=2) (fun _=>rfl) (QaL.len _) (cellsAt_of QaL Qay (hs.row 8 rfl) had21_ gd20.1 gd20.2) (g_d rfl ?_)
      try dsimp only [set0,setS]
      refine hk _ _ ⟨O,?_,hs.cast ?_⟩<;>simp only [oT,lq,cq,Nat.reduceBEq,p2_,p3_,p4_,p5_,p6_,q8_,q9_,q10_,q11_,q12_,q13_]
     ·
      rintro D t w hD hp hcl ⟨O,ht,hs⟩ rest hk
      obtain ⟨p0_,p1_,p7_,_⟩:=hp
      obtain ⟨p6_,_⟩:=(hcl.get 7 (by decide)) p7_
      obtain ⟨p4_,p5_,_⟩:=(hcl.get 6 (by decide)) p6_
      obtain ⟨p3_,_⟩:=(hcl.get 4 (by decide)) p4_
      obtain ⟨p2_,_⟩:=(hcl.get 3 (by decide)) p3_
      have q9_:=nz hcl 9 0 hD
      have q10_:=nz hcl 10 0 q9_
      have q11_:=nz hcl 11 0 q9_
      have q12_:=nz hcl 12 0 q10_
      have q13_:=nz hcl 13 0 q11_
      simp only [hD,p0_,p1_,p2_,p3_,p4_,p5_,p6_,p7_,q9_,q10_,q11_,q12_,q13_,cq,oT] at ht hs
      subst ht
      refine QaP (args:=[agg (Qae r7).toArray,agg ((encA (encI .i8)) x14).toArray,agg (Qau (rdL (r43.1.get 0 []) x91 Qay)).toArray]) rfl rfl (QaT rfl (callFunc_enter Try.func23 rfl rfl) rfl) (Qb2.calls (a1:=r7) (a2:=x14) (a3:=rdL (r43.1.get 0 []) x91 Qay) Hr99) ?_
      rintro _ w ⟨rfl,hs2⟩
      have hs:St _ [_,_,_,_,_,_,_,_,_,_,_] _:=hs.call hs2
      refine g_d rfl ?_
      try dsimp only [set0,setS]
      refine hk _ _ ⟨O,?_,hs.cast ?_⟩<;>simp only [oT,lq,cq,Nat.reduceBEq,p0_,p1_,p2_,p3_,p4_,p5_,p6_,p7_,q9_,q10_,q11_,q12_,q13_]
     ·
      rintro D t w hD hp hcl ⟨O,ht,hs⟩ rest hk
      obtain ⟨p8_,_⟩:=hp
      obtain ⟨p0_,p1_,p7_,_⟩:=(hcl.get 8 (by decide)) p8_
      obtain ⟨p6_,_⟩:=(hcl.get 7 (by decide)) p7_
      obtain ⟨p4_,p5_,_⟩:=(hcl.get 6 (by decide)) p6_
      obtain ⟨p3_,_⟩:=(hcl.get 4 (by decide)) p4_
      obtain ⟨p2_,_⟩:=(hcl.get 3 (by decide)) p3_
      have q10_:=nz hcl 10 0 hD
      have q11_:=nz hcl 11 0 hD
      have q12_:=nz hcl 12 0 q10_
      have q13_:=nz hcl 13 0 q11_
      simp only [hD,p0_,p1_,p2_,p3_,p4_,p5_,p6_,p7_,p8_,q10_,q11_,q12_,q13_,cq,oT] at ht hs
      subst ht
      refine Qab (v:=tuple #[int .i64 r99.1,int .i64 r99.2]) rfl rfl rfl (g_d rfl ?_)
      try dsimp only [set0,setS]
      refine hk _ _ ⟨O,?_,hs.cast ?_⟩<;>simp only [oT,lq,cq,Nat.reduceBEq,p0_,p1_,p2_,p3_,p4_,p5_,p6_,p7_,p8_,q10_,q11_,q12_,q13_]
     ·
      rintro D t w hD hp hcl ⟨O,ht,hs⟩ rest hk
      obtain ⟨p9_,_⟩:=hp
      obtain ⟨p8_,_⟩:=(hcl.get 9 (by decide)) p9_
      obtain ⟨p0_,p1_,p7_,_⟩:=(hcl.get 8 (by decide)) p8_
      obtain ⟨p6_,_⟩:=(hcl.get 7 (by decide)) p7_
      obtain ⟨p4_,p5_,_⟩:=(hcl.get 6 (by decide)) p6_
      obtain ⟨p3_,_⟩:=(hcl.get 4 (by decide)) p4_
      obtain ⟨p2_,_⟩:=(hcl.get 3 (by decide)) p3_
      have q12_:=nz hcl 12 0 hD
      have q13_:=nz hcl 13 1 q12_
      simp only [hD,p0_,p1_,p2_,p3_,p4_,p5_,p6_,p7_,p8_,p9_,q12_,q13_,cq,oT] at ht hs
      subst ht
      refine Qab (v:=int .i64 r99.1) rfl rfl rfl (g_d rfl ?_)
      try dsimp only [set0,setS]
      refine hk _ _ ⟨O,?_,hs.cast ?_⟩<;>simp only [oT,lq,cq,Nat.reduceBEq,p0_,p1_,p2_,p3_,p4_,p5_,p6_,p7_,p8_,p9_,q12_,q13_]
     ·
      rintro D t w hD hp hcl ⟨O,ht,hs⟩ rest hk
      obtain ⟨p9_,_⟩:=hp
      obtain ⟨p8_,_⟩:=(hcl.get 9 (by decide)) p9_
      obtain ⟨p0_,p1_,p7_,_⟩:=(hcl.get 8 (by decide)) p8_
      obtain ⟨p6_,_⟩:=(hcl.get 7 (by decide)) p7_
      obtain ⟨p4_,p5_,_⟩:=(hcl.get 6 (by decide)) p6_
      obtain ⟨p3_,_⟩:=(hcl.get 4 (by decide)) p4_
      obtain ⟨p2_,_⟩:=(hcl.get 3 (by decide)) p3_
      have q13_:=nz hcl 13 0 hD
      simp only [hD,p0_,p1_,p2_,p3_,p4_,p5_,p6_,p7_,p8_,p9_,q13_,cq,oT] at ht hs
      subst ht
      refine Qab (v:=int .i64 r99.2) rfl rfl rfl (g_d rfl ?_)
      try dsimp only [set0,setS]
      refine hk _ _ ⟨O,?_,hs.cast ?_⟩<;>simp only [oT,lq,cq,Nat.reduceBEq,p0_,p1_,p2_,p3_,p4_,p5_,p6_,p7_,p8_,p9_,q13_]
     ·
      rintro D t w hD hp hcl ⟨O,ht,hs⟩ rest hk
      obtain ⟨p10_,p8_,p0_,p1_,p2_,p3_,p4_,p5_,p6_,p7_,_,p9_,_,_⟩:=hp
      have q13_:=nz hcl 13 1 hD
      simp only [hD,p0_,p1_,p2_,p3_,p4_,p5_,p6_,p7_,p8_,p9_,p10_,q13_,cq,oT] at ht hs
      subst ht
      refine Qab (v:=int .i64 r99.1) rfl rfl rfl (g_d rfl ?_)
      try dsimp only [set0,setS]
      refine hk _ _ ⟨O,?_,hs.cast ?_⟩<;>simp only [oT,lq,cq,Nat.reduceBEq,p0_,p1_,p2_,p3_,p4_,p5_,p6_,p7_,p8_,p9_,p10_,q13_]
     ·
      rintro D t w hD hp hcl ⟨O,ht,hs⟩ rest hk
      obtain ⟨p11_,p12_,p0_,p1_,p2_,p3_,p4_,p5_,p6_,p7_,p8_,p9_,p10_,_,_,_⟩:=hp
      simp only [hD,p0_,p1_,p2_,p3_,p4_,p5_,p6_,p7_,p8_,p9_,p10_,p11_,p12_,cq,oT] at ht hs
      subst ht
      refine Qab (v:=int .i64 r99.2) rfl rfl rfl (g_d rfl ?_)
      try dsimp only [set0,setS]
      refine hk _ _ ⟨O,?_,hs.cast ?_⟩<;>simp only [oT,lq,cq,Nat.reduceBEq,p0_,p1_,p2_,p3_,p4_,p5_,p6_,p7_,p8_,p9_,p10_,p11_,p12_]
     intro D t w hall hI
     obtain ⟨O,ht,hs⟩:=hI
     have p0_:=hall 0 (by decide)
     have p1_:=hall 1 (by decide)
     have p2_:=hall 2 (by decide)
     have p3_:=hall 3 (by decide)
     have p4_:=hall 4 (by decide)
     have p5_:=hall 5 (by decide)
     have p6_:=hall 6 (by decide)
     have p7_:=hall 7 (by decide)
     have p8_:=hall 8 (by decide)
     have p9_:=hall 9 (by decide)
     have p10_:=hall 10 (by decide)
     have p11_:=hall 11 (by decide)
     have p12_:=hall 12 (by decide)
     have p13_:=hall 13 (by decide)
     simp only [p0_,p1_,p2_,p3_,p4_,p5_,p6_,p7_,p8_,p9_,p10_,p11_,p12_,p13_,cq,oT] at ht hs
     subst ht
     have hs:=hs.pull 10 rfl
     have hs:=hs.pull 10 rfl
     have hs:=hs.pull 10 rfl
     have hs:=hs.pull 10 rfl
     have hs:=hs.pull 10 rfl
     have hs:=hs.pull 10 rfl
     have hs:=hs.pull 10 rfl
     have hs:=hs.pull 10 rfl
     have hs:=hs.pull 10 rfl
     have hs:=hs.pull 10 rfl
     have hs:=hs.pull 10 rfl
     have hs:St _ [_,_,_,_,_,_,_,_,_,_,_] _:=St.take (Γ':=[]) hs
     exact ha _ _ ⟨r99.1,r99.2,H,rfl,hs⟩
    rw [if_neg hk19_] at H
    by_cases hk22_:x80=1
    · as_aux_lemma =>
     rw [if_pos hk22_] at H
     obtain ⟨gd23,H⟩:=ite_get H
     obtain ⟨ad24_,ad24_N,ad24_C,had24_⟩:=sl_at (hs.row 9 rfl) gd23.1 gd23.2
     obtain ⟨r100,Hr100,H⟩:=bind_get H
     refine QbT ?_
     intro T hT
     refine Qcg (n:=14) rfl [0,1,2,3,4,5,6,7,8,9,10,11,12,13] [0,1,2,3,4,5,6,7,8,9,10,12,11,13] rfl rfl (Inv:=fun D t w=>∃ O:Nat→Value,t=(O 0::O 1::O 2::O 3::O 4::pointer (some ⟨b8,0,none⟩)::pointer (some ⟨b13,0,none⟩)::O 7::O 8::v19::O 10::pointer (some ⟨b32,0,none⟩)::O 12::pointer (some ⟨b50,0,none⟩)::O 14::O 15::O 16::int .i64 x78::int .i64 x79::int .i64 x80::int .i64 x91::cnd (D 12) (int .i64 r100.1) (O 21)::cnd (D 13) (int .i64 r100.2) (O 22)::O 23::O 24::O 25::O 26::O 27::O 28::O 29::oT O 3 (oT O 4 (oT O 5 (oT O 6 (oT O 7 (oT O 8 (oT O 9 (oT O 10 (oT O 11 (oT O 12 (oT O 13 (O 140::O 141::O 142::O 143::cnd (D 9) (tuple #[int .i64 r100.1,int .i64 r100.2]) (O 144)::cnd (D 0) (agg (Qae r7).toArray) (O 145)::cnd (D 1) (agg ((encA (encI .i8)) x14).toArray) (O 146)::cnd (D 2) (int .i64 x80) (O 147)::cnd (D 3) (pointer (some ⟨b50,0+1*1,none⟩)) (O 148)::cnd (D 4) v45 (O 149)::cnd (D 5) (int .i64 x91) (O 150)::cnd (D 6) (pointer (some (ad24_.add (x91.toNat*2)))) (O 151)::cnd (D 7) (agg (Qau (rdL (r43.1.get 1 []) x91 Qay)).toArray) (O 152)::cnd (D 8) (tuple #[int .i64 r100.1,int .i64 r100.2]) (O 153)::cnd (D 10) (int .i64 r100.1) (O 154)::cnd (D 11) (int .i64 r100.2) (O 155)::O 156::O 157::O 158::O 159::oT O 16 (oT O 17 (oT O 18 (oT O 19 (oT O 20 (oT O 21 (oT O 22 (oT O 23 (oT O 24 (oT O 25 (oT O 26 (oT O 27 (oT O 28 (oT O 29 (O 300::O 301::O 302::O 303::[]))))))))))))))))))))))))))∧St w0 [Cells b8 (Qae r7) 27,Cells b13 ((encA (encI .i8)) x14) 37,Row 53 Qah v19 r18.1,Cells b32 (([v33,v36,v39]:List Value)) 42,Row 53 Qah v33 x34,Row 53 Qah v36 x37,Row 53 Qah v39 x40,Cells b50 (([v44,v45,v46]:List Value)) 42,Row 53 Qah v44 (r43.1.get 0 []),Row 53 Qah v45 (r43.1.get 1 []),Row 53 Qah v46 (r43.1.get 2 [])] w) ?_ ⟨⟨⟨⟨⟨⟨⟨⟨⟨⟨⟨⟨⟨⟨trivial,?_⟩,?_⟩,?_⟩,?_⟩,?_⟩,?_⟩,?_⟩,?_⟩,?_⟩,?_⟩,?_⟩,?_⟩,?_⟩,?_⟩ ?_
     ·
      intro w hh hbw
      have hs:=hs.samew hh hbw
      exact ⟨fun i=>T.getD i undef,(by subst hT;rfl),hs⟩
     ·
      rintro D t w hD hp hcl ⟨O,ht,hs⟩ rest hk
      have q8_:=nz hcl 8 0 hD
      have q9_:=nz hcl 9 0 q8_
      have q10_:=nz hcl 10 0 q9_
      have q11_:=nz hcl 11 0 q9_
      have q12_:=nz hcl 12 0 q10_
      have q13_:=nz hcl 13 0 q11_
      simp only [hD,q8_,q9_,q10_,q11_,q12_,q13_,cq,oT] at ht hs
      subst ht
      refine QaG rfl rfl (es:=(Qae r7)) rfl rfl (fun _=>rfl) (n:=4) (fun _=>rfl) (QaJ.len _) (cells_all (hs.cells 0 rfl)) (g_d rfl ?_)
      try dsimp only [set0,setS]
      refine hk _ _ ⟨O,?_,hs.cast ?_⟩<;>simp only [oT,lq,cq,Nat.reduceBEq,q8_,q9_,q10_,q11_,q12_,q13_]
     ·
      rintro D t w hD hp hcl ⟨O,ht,hs⟩ rest hk
      have q8_:=nz hcl 8 1 hD
      have q9_:=nz hcl 9 0 q8_
      have q10_:=nz hcl 10 0 q9_
      have q11_:=nz hcl 11 0 q9_
      have q12_:=nz hcl 12 0 q10_
      have q13_:=nz hcl 13 0 q11_
      simp only [hD,q8_,q9_,q10_,q11_,q12_,q13_,cq,oT] at ht hs
      subst ht
      refine QaG rfl rfl (es:=((encA (encI .i8)) x14)) rfl rfl (fun _=>rfl) (n:=14) (fun _=>rfl) ((fkA (n:=14) (he:=(fkI .i8).len) (h1:=(fkI .i8).one)).len _) (cells_all (hs.cells 1 rfl)) (g_d rfl ?_)
      try dsimp only [set0,setS]
      refine hk _ _ ⟨O,?_,hs.cast ?_⟩<;>simp only [oT,lq,cq,Nat.reduceBEq,q8_,q9_,q10_,q11_,q12_,q13_]
     ·
      rintro D t w hD hp hcl ⟨O,ht,hs⟩ rest hk
      have q3_:=nz hcl 3 0 hD
      have q4_:=nz hcl 4 0 q3_
      have q6_:=nz hcl 6 0 q4_
      have q7_:=nz hcl 7 0 q6_
      have q8_:=nz hcl 8 2 q7_
      have q9_:=nz hcl 9 0 q8_
      have q10_:=nz hcl 10 0 q9_
      have q11_:=nz hcl 11 0 q9_
      have q12_:=nz hcl 12 0 q10_
      have q13_:=nz hcl 13 0 q11_
      simp only [hD,q3_,q4_,q6_,q7_,q8_,q9_,q10_,q11_,q12_,q13_,cq,oT] at ht hs
      subst ht
      refine Qab (v:=int .i64 x80) rfl rfl rfl (g_d rfl ?_)
      try dsimp only [set0,setS]
      refine hk _ _ ⟨O,?_,hs.cast ?_⟩<;>simp only [oT,lq,cq,Nat.reduceBEq,q3_,q4_,q6_,q7_,q8_,q9_,q10_,q11_,q12_,q13_]
     ·
      rintro D t w hD hp hcl ⟨O,ht,hs⟩ rest hk
      obtain ⟨p2_,_⟩:=hp
      have q4_:=nz hcl 4 0 hD
      have q6_:=nz hcl 6 0 q4_
      have q7_:=nz hcl 7 0 q6_
      have q8_:=nz hcl 8 2 q7_
      have q9_:=nz hcl 9 0 q8_
      have q10_:=nz hcl 10 0 q9_
      have q11_:=nz hcl 11 0 q9_
      have q12_:=nz hcl 12 0 q10_
      have q13_:=nz hcl 13 0 q11_
      simp only [hD,p2_,q4_,q6_,q7_,q8_,q9_,q10_,q11_,q12_,q13_,cq,oT] at ht hs
      subst ht
      refine QbR (m:=1) 1 hk22_ (by decide) rfl (fun _=>rfl) rfl rfl rfl rfl rfl (g_d rfl ?_)
      try dsimp only [set0,setS]
      refine hk _ _ ⟨O,?_,hs.cast ?_⟩<;>simp only [oT,lq,cq,Nat.reduceBEq,p2_,q4_,q6_,q7_,q8_,q9_,q10_,q11_,q12_,q13_]
     ·
      rintro D t w hD hp hcl ⟨O,ht,hs⟩ rest hk
      obtain ⟨p3_,_⟩:=hp
      obtain ⟨p2_,_⟩:=(hcl.get 3 (by decide)) p3_
      have q6_:=nz hcl 6 0 hD
      have q7_:=nz hcl 7 0 q6_
      have q8_:=nz hcl 8 2 q7_
      have q9_:=nz hcl 9 0 q8_
      have q10_:=nz hcl 10 0 q9_
      have q11_:=nz hcl 11 0 q9_
      have q12_:=nz hcl 12 0 q10_
      have q13_:=nz hcl 13 0 q11_
      simp only [hD,p2_,p3_,q6_,q7_,q8_,q9_,q10_,q11_,q12_,q13_,cq,oT] at ht hs
      subst ht
      refine Qaz rfl rfl (v:=v45) rfl rfl (fun _=>rfl) (cells_load (hs.cells 7 rfl) 1 1 rfl) (g_d rfl ?_)
      try dsimp only [set0,setS]
      refine hk _ _ ⟨O,?_,hs.cast ?_⟩<;>simp only [oT,lq,cq,Nat.reduceBEq,p2_,p3_,q6_,q7_,q8_,q9_,q10_,q11_,q12_,q13_]
     ·
      rintro D t w hD hp hcl ⟨O,ht,hs⟩ rest hk
      have q6_:=nz hcl 6 1 hD
      have q7_:=nz hcl 7 0 q6_
      have q8_:=nz hcl 8 2 q7_
      have q9_:=nz hcl 9 0 q8_
      have q10_:=nz hcl 10 0 q9_
      have q11_:=nz hcl 11 0 q9_
      have q12_:=nz hcl 12 0 q10_
      have q13_:=nz hcl 13 0 q11_
      simp only [hD,q6_,q7_,q8_,q9_,q10_,q11_,q12_,q13_,cq,oT] at ht hs
      subst ht
      refine Qab (v:=int .i64 x91) rfl rfl rfl (g_d rfl ?_)
      try dsimp only [set0,setS]
      refine hk _ _ ⟨O,?_,hs.cast ?_⟩<;>simp only [oT,lq,cq,Nat.reduceBEq,q6_,q7_,q8_,q9_,q10_,q11_,q12_,q13_]
     ·
      rintro D t w hD hp hcl ⟨O,ht,hs⟩ rest hk
      obtain ⟨p4_,p5_,_⟩:=hp
      obtain ⟨p3_,_⟩:=(hcl.get 4 (by decide)) p4_
      obtain ⟨p2_,_⟩:=(hcl.get 3 (by decide)) p3_
      have q7_:=nz hcl 7 0 hD
      have q8_:=nz hcl 8 2 q7_
      have q9_:=nz hcl 9 0 q8_
      have q10_:=nz hcl 10 0 q9_
      have q11_:=nz hcl 11 0 q9_
      have q12_:=nz hcl 12 0 q10_
      have q13_:=nz hcl 13 0 q11_
      simp only [hD,p2_,p3_,p4_,p5_,q7_,q8_,q9_,q10_,q11_,q12_,q13_,cq,oT] at ht hs
      subst ht
      refine QcI (κ:=Qah) (m:=2) rfl (hs.row 9 rfl) rfl (fun _=>rfl) gd23.1 gd23.2 had24_ rfl rfl rfl rfl rfl (g_d rfl ?_)
      try dsimp only [set0,setS]
      refine hk _ _ ⟨O,?_,hs.cast ?_⟩<;>simp only [oT,lq,cq,Nat.reduceBEq,p2_,p3_,p4_,p5_,q7_,q8_,q9_,q10_,q11_,q12_,q13_]
     ·
      rintro D t w hD hp hcl ⟨O,ht,hs⟩ rest hk
      obtain ⟨p6_,_⟩:=hp
      obtain ⟨p4_,p5_,_⟩:=(hcl.get 6 (by decide)) p6_
      obtain ⟨p3_,_⟩:=(hcl.get 4 (by decide)) p4_
      obtain ⟨p2_,_⟩:=(hcl.get 3 (by decide)) p3_
      have q8_:=nz hcl 8 2 hD
      have q9_:=nz hcl 9 0 q8_
      have q10_:=nz hcl 10 0 q9_
      have q11_:=nz hcl 11 0 q9_
      have q12_:=nz hcl 12 0 q10_
      have q13_:=nz hcl 13 0 q11_
      simp only [hD,p2_,p3_,p4_,p5_,p6_,q8_,q9_,q10_,q11_,q12_,q13_,cq,oT] at ht hs
      subst ht
      refine QaG rfl rfl (es:=(Qau (rdL (r43.1.get 1 []) x91 Qay))) rfl rfl (fun _=>rfl) (n:=2) (fun _=>rfl) (QaL.len _) (cellsAt_of QaL Qay (hs.row 9 rfl) had24_ gd23.1 gd23.2) (g_d rfl ?_)
      try dsimp only [set0,setS]
      refine hk _ _ ⟨O,?_,hs.cast ?_⟩<;>simp only [oT,lq,cq,Nat.reduceBEq,p2_,p3_,p4_,p5_,p6_,q8_,q9_,q10_,q11_,q12_,q13_]
     ·
      rintro D t w hD hp hcl ⟨O,ht,hs⟩ rest hk
      obtain ⟨p0_,p1_,p7_,_⟩:=hp
      obtain ⟨p6_,_⟩:=(hcl.get 7 (by decide)) p7_
      obtain ⟨p4_,p5_,_⟩:=(hcl.get 6 (by decide)) p6_
      obtain ⟨p3_,_⟩:=(hcl.get 4 (by decide)) p4_
      obtain ⟨p2_,_⟩:=(hcl.get 3 (by decide)) p3_
      have q9_:=nz hcl 9 0 hD
      have q10_:=nz hcl 10 0 q9_
      have q11_:=nz hcl 11 0 q9_
      have q12_:=nz hcl 12 0 q10_
      have q13_:=nz hcl 13 0 q11_
      simp only [hD,p0_,p1_,p2_,p3_,p4_,p5_,p6_,p7_,q9_,q10_,q11_,q12_,q13_,cq,oT] at ht hs
      subst ht
      refine QaP (args:=[agg (Qae r7).toArray,agg ((encA (encI .i8)) x14).toArray,agg (Qau (rdL (r43.1.get 1 []) x91 Qay)).toArray]) rfl rfl (QaT rfl (callFunc_enter Try.func23 rfl rfl) rfl) (Qb2.calls (a1:=r7) (a2:=x14) (a3:=rdL (r43.1.get 1 []) x91 Qay) Hr100) ?_
      rintro _ w ⟨rfl,hs2⟩
      have hs:St _ [_,_,_,_,_,_,_,_,_,_,_] _:=hs.call hs2
      refine g_d rfl ?_
      try dsimp only [set0,setS]
      refine hk _ _ ⟨O,?_,hs.cast ?_⟩<;>simp only [oT,lq,cq,Nat.reduceBEq,p0_,p1_,p2_,p3_,p4_,p5_,p6_,p7_,q9_,q10_,q11_,q12_,q13_]
     ·
      rintro D t w hD hp hcl ⟨O,ht,hs⟩ rest hk
      obtain ⟨p8_,_⟩:=hp
      obtain ⟨p0_,p1_,p7_,_⟩:=(hcl.get 8 (by decide)) p8_
      obtain ⟨p6_,_⟩:=(hcl.get 7 (by decide)) p7_
      obtain ⟨p4_,p5_,_⟩:=(hcl.get 6 (by decide)) p6_
      obtain ⟨p3_,_⟩:=(hcl.get 4 (by decide)) p4_
      obtain ⟨p2_,_⟩:=(hcl.get 3 (by decide)) p3_
      have q10_:=nz hcl 10 0 hD
      have q11_:=nz hcl 11 0 hD
      have q12_:=nz hcl 12 0 q10_
      have q13_:=nz hcl 13 0 q11_
      simp only [hD,p0_,p1_,p2_,p3_,p4_,p5_,p6_,p7_,p8_,q10_,q11_,q12_,q13_,cq,oT] at ht hs
      subst ht
      refine Qab (v:=tuple #[int .i64 r100.1,int .i64 r100.2]) rfl rfl rfl (g_d rfl ?_)
      try dsimp only [set0,setS]
      refine hk _ _ ⟨O,?_,hs.cast ?_⟩<;>simp only [oT,lq,cq,Nat.reduceBEq,p0_,p1_,p2_,p3_,p4_,p5_,p6_,p7_,p8_,q10_,q11_,q12_,q13_]
     ·
      rintro D t w hD hp hcl ⟨O,ht,hs⟩ rest hk
      obtain ⟨p9_,_⟩:=hp
      obtain ⟨p8_,_⟩:=(hcl.get 9 (by decide)) p9_
      obtain ⟨p0_,p1_,p7_,_⟩:=(hcl.get 8 (by decide)) p8_
      obtain ⟨p6_,_⟩:=(hcl.get 7 (by decide)) p7_
      obtain ⟨p4_,p5_,_⟩:=(hcl.get 6 (by decide)) p6_
      obtain ⟨p3_,_⟩:=(hcl.get 4 (by decide)) p4_
      obtain ⟨p2_,_⟩:=(hcl.get 3 (by decide)) p3_
      have q12_:=nz hcl 12 0 hD
      have q13_:=nz hcl 13 1 q12_
      simp only [hD,p0_,p1_,p2_,p3_,p4_,p5_,p6_,p7_,p8_,p9_,q12_,q13_,cq,oT] at ht hs
      subst ht
      refine Qab (v:=int .i64 r100.1) rfl rfl rfl (g_d rfl ?_)
      try dsimp only [set0,setS]
      refine hk _ _ ⟨O,?_,hs.cast ?_⟩<;>simp only [oT,lq,cq,Nat.reduceBEq,p0_,p1_,p2_,p3_,p4_,p5_,p6_,p7_,p8_,p9_,q12_,q13_]
     ·
      rintro D t w hD hp hcl ⟨O,ht,hs⟩ rest hk
      obtain ⟨p9_,_⟩:=hp
      obtain ⟨p8_,_⟩:=(hcl.get 9 (by decide)) p9_
      obtain ⟨p0_,p1_,p7_,_⟩:=(hcl.get 8 (by decide)) p8_
      obtain ⟨p6_,_⟩:=(hcl.get 7 (by decide)) p7_
      obtain ⟨p4_,p5_,_⟩:=(hcl.get 6 (by decide)) p6_
      obtain ⟨p3_,_⟩:=(hcl.get 4 (by decide)) p4_
      obtain ⟨p2_,_⟩:=(hcl.get 3 (by decide)) p3_
      have q13_:=nz hcl 13 0 hD
      simp only [hD,p0_,p1_,p2_,p3_,p4_,p5_,p6_,p7_,p8_,p9_,q13_,cq,oT] at ht hs
      subst ht
      refine Qab (v:=int .i64 r100.2) rfl rfl rfl (g_d rfl ?_)
      try dsimp only [set0,setS]
      refine hk _ _ ⟨O,?_,hs.cast ?_⟩<;>simp only [oT,lq,cq,Nat.reduceBEq,p0_,p1_,p2_,p3_,p4_,p5_,p6_,p7_,p8_,p9_,q13_]
     ·
      rintro D t w hD hp hcl ⟨O,ht,hs⟩ rest hk
      obtain ⟨p10_,p8_,p0_,p1_,p2_,p3_,p4_,p5_,p6_,p7_,_,p9_,_,_⟩:=hp
      have q13_:=nz hcl 13 1 hD
      simp only [hD,p0_,p1_,p2_,p3_,p4_,p5_,p6_,p7_,p8_,p9_,p10_,q13_,cq,oT] at ht hs
      subst ht
      refine Qab (v:=int .i64 r100.1) rfl rfl rfl (g_d rfl ?_)
      try dsimp only [set0,setS]
      refine hk _ _ ⟨O,?_,hs.cast ?_⟩<;>simp only [oT,lq,cq,Nat.reduceBEq,p0_,p1_,p2_,p3_,p4_,p5_,p6_,p7_,p8_,p9_,p10_,q13_]
     ·
      rintro D t w hD hp hcl ⟨O,ht,hs⟩ rest hk
      obtain ⟨p11_,p12_,p0_,p1_,p2_,p3_,p4_,p5_,p6_,p7_,p8_,p9_,p10_,_,_,_⟩:=hp
      simp only [hD,p0_,p1_,p2_,p3_,p4_,p5_,p6_,p7_,p8_,p9_,p10_,p11_,p12_,cq,oT] at ht hs
      subst ht
      refine Qab (v:=int .i64 r100.2) rfl rfl rfl (g_d rfl ?_)
      try dsimp only [set0,setS]
      refine hk _ _ ⟨O,?_,hs.cast ?_⟩<;>simp only [oT,lq,cq,Nat.reduceBEq,p0_,p1_,p2_,p3_,p4_,p5_,p6_,p7_,p8_,p9_,p10_,p11_,p12_]
     intro D t w hall hI
     obtain ⟨O,ht,hs⟩:=hI
     have p0_:=hall 0 (by decide)
     have p1_:=hall 1 (by decide)
     have p2_:=hall 2 (by decide)
     have p3_:=hall 3 (by decide)
     have p4_:=hall 4 (by decide)
     have p5_:=hall 5 (by decide)
     have p6_:=hall 6 (by decide)
     have p7_:=hall 7 (by decide)
     have p8_:=hall 8 (by decide)
     have p9_:=hall 9 (by decide)
     have p10_:=hall 10 (by decide)
     have p11_:=hall 11 (by decide)
     have p12_:=hall 12 (by decide)
     have p13_:=hall 13 (by decide)
     simp only [p0_,p1_,p2_,p3_,p4_,p5_,p6_,p7_,p8_,p9_,p10_,p11_,p12_,p13_,cq,oT] at ht hs
     subst ht
     have hs:=hs.pull 10 rfl
     have hs:=hs.pull 10 rfl
     have hs:=hs.pull 10 rfl
     have hs:=hs.pull 10 rfl
     have hs:=hs.pull 10 rfl
     have hs:=hs.pull 10 rfl
     have hs:=hs.pull 10 rfl
     have hs:=hs.pull 10 rfl
     have hs:=hs.pull 10 rfl
     have hs:=hs.pull 10 rfl
     have hs:=hs.pull 10 rfl
     have hs:St _ [_,_,_,_,_,_,_,_,_,_,_] _:=St.take (Γ':=[]) hs
     exact ha _ _ ⟨r100.1,r100.2,H,rfl,hs⟩
    rw [if_neg hk22_] at H
    by_cases hk25_:x80=2
    · as_aux_lemma =>
     rw [if_pos hk25_] at H
     obtain ⟨gd26,H⟩:=ite_get H
     obtain ⟨ad27_,ad27_N,ad27_C,had27_⟩:=sl_at (hs.row 10 rfl) gd26.1 gd26.2
     obtain ⟨r101,Hr101,H⟩:=bind_get H
     refine QbT ?_
     intro T hT
     refine Qcg (n:=14) rfl [0,1,2,3,4,5,6,7,8,9,10,11,12,13] [0,1,2,3,4,5,6,7,8,9,10,12,11,13] rfl rfl (Inv:=fun D t w=>∃ O:Nat→Value,t=(O 0::O 1::O 2::O 3::O 4::pointer (some ⟨b8,0,none⟩)::pointer (some ⟨b13,0,none⟩)::O 7::O 8::v19::O 10::pointer (some ⟨b32,0,none⟩)::O 12::pointer (some ⟨b50,0,none⟩)::O 14::O 15::O 16::int .i64 x78::int .i64 x79::int .i64 x80::int .i64 x91::cnd (D 12) (int .i64 r101.1) (O 21)::cnd (D 13) (int .i64 r101.2) (O 22)::O 23::O 24::O 25::O 26::O 27::O 28::O 29::oT O 3 (oT O 4 (oT O 5 (oT O 6 (oT O 7 (oT O 8 (oT O 9 (oT O 10 (oT O 11 (oT O 12 (oT O 13 (O 140::O 141::O 142::O 143::cnd (D 9) (tuple #[int .i64 r101.1,int .i64 r101.2]) (O 144)::cnd (D 0) (agg (Qae r7).toArray) (O 145)::cnd (D 1) (agg ((encA (encI .i8)) x14).toArray) (O 146)::cnd (D 2) (int .i64 x80) (O 147)::cnd (D 3) (pointer (some ⟨b50,0+2*1,none⟩)) (O 148)::cnd (D 4) v46 (O 149)::cnd (D 5) (int .i64 x91) (O 150)::cnd (D 6) (pointer (some (ad27_.add (x91.toNat*2)))) (O 151)::cnd (D 7) (agg (Qau (rdL (r43.1.get 2 []) x91 Qay)).toArray) (O 152)::cnd (D 8) (tuple #[int .i64 r101.1,int .i64 r101.2]) (O 153)::cnd (D 10) (int .i64 r101.1) (O 154)::cnd (D 11) (int .i64 r101.2) (O 155)::O 156::O 157::O 158::O 159::oT O 16 (oT O 17 (oT O 18 (oT O 19 (oT O 20 (oT O 21 (oT O 22 (oT O 23 (oT O 24 (oT O 25 (oT O 26 (oT O 27 (oT O 28 (oT O 29 (O 300::O 301::O 302::O 303::[]))))))))))))))))))))))))))∧St w0 [Cells b8 (Qae r7) 27,Cells b13 ((encA (encI .i8)) x14) 37,Row 53 Qah v19 r18.1,Cells b32 (([v33,v36,v39]:List Value)) 42,Row 53 Qah v33 x34,Row 53 Qah v36 x37,Row 53 Qah v39 x40,Cells b50 (([v44,v45,v46]:List Value)) 42,Row 53 Qah v44 (r43.1.get 0 []),Row 53 Qah v45 (r43.1.get 1 []),Row 53 Qah v46 (r43.1.get 2 [])] w) ?_ ⟨⟨⟨⟨⟨⟨⟨⟨⟨⟨⟨⟨⟨⟨trivial,?_⟩,?_⟩,?_⟩,?_⟩,?_⟩,?_⟩,?_⟩,?_⟩,?_⟩,?_⟩,?_⟩,?_⟩,?_⟩,?_⟩ ?_
     ·
      intro w hh hbw
      have hs:=hs.samew hh hbw
      exact ⟨fun i=>T.getD i undef,(by subst hT;rfl),hs⟩
     ·
      rintro D t w hD hp hcl ⟨O,ht,hs⟩ rest hk
      have q8_:=nz hcl 8 0 hD
      have q9_:=nz hcl 9 0 q8_
      have q10_:=nz hcl 10 0 q9_
      have q11_:=nz hcl 11 0 q9_
      have q12_:=nz hcl 12 0 q10_
      have q13_:=nz hcl 13 0 q11_
      simp only [hD,q8_,q9_,q10_,q11_,q12_,q13_,cq,oT] at ht hs
      subst ht
      refine QaG rfl rfl (es:=(Qae r7)) rfl rfl (fun _=>rfl) (n:=4) (fun _=>rfl) (QaJ.len _) (cells_all (hs.cells 0 rfl)) (g_d rfl ?_)
      try dsimp only [set0,setS]
      refine hk _ _ ⟨O,?_,hs.cast ?_⟩<;>simp only [oT,lq,cq,Nat.reduceBEq,q8_,q9_,q10_,q11_,q12_,q13_]
     ·
      rintro D t w hD hp hcl ⟨O,ht,hs⟩ rest hk
      have q8_:=nz hcl 8 1 hD
      have q9_:=nz hcl 9 0 q8_
      have q10_:=nz hcl 10 0 q9_
      have q11_:=nz hcl 11 0 q9_
      have q12_:=nz hcl 12 0 q10_
      have q13_:=nz hcl 13 0 q11_
      simp only [hD,q8_,q9_,q10_,q11_,q12_,q13_,cq,oT] at ht hs
      subst ht
      refine QaG rfl rfl (es:=((encA (encI .i8)) x14)) rfl rfl (fun _=>rfl) (n:=14) (fun _=>rfl) ((fkA (n:=14) (he:=(fkI .i8).len) (h1:=(fkI .i8).one)).len _) (cells_all (hs.cells 1 rfl)) (g_d rfl ?_)
      try dsimp only [set0,setS]
      refine hk _ _ ⟨O,?_,hs.cast ?_⟩<;>simp only [oT,lq,cq,Nat.reduceBEq,q8_,q9_,q10_,q11_,q12_,q13_]
     ·
      rintro D t w hD hp hcl ⟨O,ht,hs⟩ rest hk
      have q3_:=nz hcl 3 0 hD
      have q4_:=nz hcl 4 0 q3_
      have q6_:=nz hcl 6 0 q4_
      have q7_:=nz hcl 7 0 q6_
      have q8_:=nz hcl 8 2 q7_
      have q9_:=nz hcl 9 0 q8_
      have q10_:=nz hcl 10 0 q9_
      have q11_:=nz hcl 11 0 q9_
      have q12_:=nz hcl 12 0 q10_
      have q13_:=nz hcl 13 0 q11_
      simp only [hD,q3_,q4_,q6_,q7_,q8_,q9_,q10_,q11_,q12_,q13_,cq,oT] at ht hs
      subst ht
      refine Qab (v:=int .i64 x80) rfl rfl rfl (g_d rfl ?_)
      try dsimp only [set0,setS]
      refine hk _ _ ⟨O,?_,hs.cast ?_⟩<;>simp only [oT,lq,cq,Nat.reduceBEq,q3_,q4_,q6_,q7_,q8_,q9_,q10_,q11_,q12_,q13_]
     ·
      rintro D t w hD hp hcl ⟨O,ht,hs⟩ rest hk
      obtain ⟨p2_,_⟩:=hp
      have q4_:=nz hcl 4 0 hD
      have q6_:=nz hcl 6 0 q4_
      have q7_:=nz hcl 7 0 q6_
      have q8_:=nz hcl 8 2 q7_
      have q9_:=nz hcl 9 0 q8_
      have q10_:=nz hcl 10 0 q9_
      have q11_:=nz hcl 11 0 q9_
      have q12_:=nz hcl 12 0 q10_
      have q13_:=nz hcl 13 0 q11_
      simp only [hD,p2_,q4_,q6_,q7_,q8_,q9_,q10_,q11_,q12_,q13_,cq,oT] at ht hs
      subst ht
      refine QbR (m:=1) 2 hk25_ (by decide) rfl (fun _=>rfl) rfl rfl rfl rfl rfl (g_d rfl ?_)
      try dsimp only [set0,setS]
      refine hk _ _ ⟨O,?_,hs.cast ?_⟩<;>simp only [oT,lq,cq,Nat.reduceBEq,p2_,q4_,q6_,q7_,q8_,q9_,q10_,q11_,q12_,q13_]
     ·
      rintro D t w hD hp hcl ⟨O,ht,hs⟩ rest hk
      obtain ⟨p3_,_⟩:=hp
      obtain ⟨p2_,_⟩:=(hcl.get 3 (by decide)) p3_
      have q6_:=nz hcl 6 0 hD
      have q7_:=nz hcl 7 0 q6_
      have q8_:=nz hcl 8 2 q7_
      have q9_:=nz hcl 9 0 q8_
      have q10_:=nz hcl 10 0 q9_
      have q11_:=nz hcl 11 0 q9_
      have q12_:=nz hcl 12 0 q10_
      have q13_:=nz hcl 13 0 q11_
      simp only [hD,p2_,p3_,q6_,q7_,q8_,q9_,q10_,q11_,q12_,q13_,cq,oT] at ht hs
      subst ht
      refine Qaz rfl rfl (v:=v46) rfl rfl (fun _=>rfl) (cells_load (hs.cells 7 rfl) 2 1 rfl) (g_d rfl ?_)
      try dsimp only [set0,setS]
      refine hk _ _ ⟨O,?_,hs.cast ?_⟩<;>simp only [oT,lq,cq,Nat.reduceBEq,p2_,p3_,q6_,q7_,q8_,q9_,q10_,q11_,q12_,q13_]
     ·
      rintro D t w hD hp hcl ⟨O,ht,hs⟩ rest hk
      have q6_:=nz hcl 6 1 hD
      have q7_:=nz hcl 7 0 q6_
      have q8_:=nz hcl 8 2 q7_
      have q9_:=nz hcl 9 0 q8_
      have q10_:=nz hcl 10 0 q9_
      have q11_:=nz hcl 11 0 q9_
      have q12_:=nz hcl 12 0 q10_
      have q13_:=nz hcl 13 0 q11_
      simp only [hD,q6_,q7_,q8_,q9_,q10_,q11_,q12_,q13_,cq,oT] at ht hs
      subst ht
      refine Qab (v:=int .i64 x91) rfl rfl rfl (g_d rfl ?_)
      try dsimp only [set0,setS]
      refine hk _ _ ⟨O,?_,hs.cast ?_⟩<;>simp only [oT,lq,cq,Nat.reduceBEq,q6_,q7_,q8_,q9_,q10_,q11_,q12_,q13_]
     ·
      rintro D t w hD hp hcl ⟨O,ht,hs⟩ rest hk
      obtain ⟨p4_,p5_,_⟩:=hp
      obtain ⟨p3_,_⟩:=(hcl.get 4 (by decide)) p4_
      obtain ⟨p2_,_⟩:=(hcl.get 3 (by decide)) p3_
      have q7_:=nz hcl 7 0 hD
      have q8_:=nz hcl 8 2 q7_
      have q9_:=nz hcl 9 0 q8_
      have q10_:=nz hcl 10 0 q9_
      have q11_:=nz hcl 11 0 q9_
      have q12_:=nz hcl 12 0 q10_
      have q13_:=nz hcl 13 0 q11_
      simp only [hD,p2_,p3_,p4_,p5_,q7_,q8_,q9_,q10_,q11_,q12_,q13_,cq,oT] at ht hs
      subst ht
      refine QcI (κ:=Qah) (m:=2) rfl (hs.row 10 rfl) rfl (fun _=>rfl) gd26.1 gd26.2 had27_ rfl rfl rfl rfl rfl (g_d rfl ?_)
      try dsimp only [set0,setS]
      refine hk _ _ ⟨O,?_,hs.cast ?_⟩<;>simp only [oT,lq,cq,Nat.reduceBEq,p2_,p3_,p4_,p5_,q7_,q8_,q9_,q10_,q11_,q12_,q13_]
     ·
      rintro D t w hD hp hcl ⟨O,ht,hs⟩ rest hk
      obtain ⟨p6_,_⟩:=hp
      obtain ⟨p4_,p5_,_⟩:=(hcl.get 6 (by decide)) p6_
      obtain ⟨p3_,_⟩:=(hcl.get 4 (by decide)) p4_
      obtain ⟨p2_,_⟩:=(hcl.get 3 (by decide)) p3_
      have q8_:=nz hcl 8 2 hD
      have q9_:=nz hcl 9 0 q8_
      have q10_:=nz hcl 10 0 q9_
      have q11_:=nz hcl 11 0 q9_
      have q12_:=nz hcl 12 0 q10_
      have q13_:=nz hcl 13 0 q11_
      simp only [hD,p2_,p3_,p4_,p5_,p6_,q8_,q9_,q10_,q11_,q12_,q13_,cq,oT] at ht hs
      subst ht
      refine QaG rfl rfl (es:=(Qau (rdL (r43.1.get 2 []) x91 Qay))) rfl rfl (fun _=>rfl) (n:=2) (fun _=>rfl) (QaL.len _) (cellsAt_of QaL Qay (hs.row 10 rfl) had27_ gd26.1 gd26.2) (g_d rfl ?_)
      try dsimp only [set0,setS]
      refine hk _ _ ⟨O,?_,hs.cast ?_⟩<;>simp only [oT,lq,cq,Nat.reduceBEq,p2_,p3_,p4_,p5_,p6_,q8_,q9_,q10_,q11_,q12_,q13_]
     ·
      rintro D t w hD hp hcl ⟨O,ht,hs⟩ rest hk
      obtain ⟨p0_,p1_,p7_,_⟩:=hp
      obtain ⟨p6_,_⟩:=(hcl.get 7 (by decide)) p7_
      obtain ⟨p4_,p5_,_⟩:=(hcl.get 6 (by decide)) p6_
      obtain ⟨p3_,_⟩:=(hcl.get 4 (by decide)) p4_
      obtain ⟨p2_,_⟩:=(hcl.get 3 (by decide)) p3_
      have q9_:=nz hcl 9 0 hD
      have q10_:=nz hcl 10 0 q9_
      have q11_:=nz hcl 11 0 q9_
      have q12_:=nz hcl 12 0 q10_
      have q13_:=nz hcl 13 0 q11_
      simp only [hD,p0_,p1_,p2_,p3_,p4_,p5_,p6_,p7_,q9_,q10_,q11_,q12_,q13_,cq,oT] at ht hs
      subst ht
      refine QaP (args:=[agg (Qae r7).toArray,agg ((encA (encI .i8)) x14).toArray,agg (Qau (rdL (r43.1.get 2 []) x91 Qay)).toArray]) rfl rfl (QaT rfl (callFunc_enter Try.func23 rfl rfl) rfl) (Qb2.calls (a1:=r7) (a2:=x14) (a3:=rdL (r43.1.get 2 []) x91 Qay) Hr101) ?_
      rintro _ w ⟨rfl,hs2⟩
      have hs:St _ [_,_,_,_,_,_,_,_,_,_,_] _:=hs.call hs2
      refine g_d rfl ?_
      try dsimp only [set0,setS]
      refine hk _ _ ⟨O,?_,hs.cast ?_⟩<;>simp only [oT,lq,cq,Nat.reduceBEq,p0_,p1_,p2_,p3_,p4_,p5_,p6_,p7_,q9_,q10_,q11_,q12_,q13_]
     ·
      rintro D t w hD hp hcl ⟨O,ht,hs⟩ rest hk
      obtain ⟨p8_,_⟩:=hp
      obtain ⟨p0_,p1_,p7_,_⟩:=(hcl.get 8 (by decide)) p8_
      obtain ⟨p6_,_⟩:=(hcl.get 7 (by decide)) p7_
      obtain ⟨p4_,p5_,_⟩:=(hcl.get 6 (by decide)) p6_
      obtain ⟨p3_,_⟩:=(hcl.get 4 (by decide)) p4_
      obtain ⟨p2_,_⟩:=(hcl.get 3 (by decide)) p3_
      have q10_:=nz hcl 10 0 hD
      have q11_:=nz hcl 11 0 hD
      have q12_:=nz hcl 12 0 q10_
      have q13_:=nz hcl 13 0 q11_
      simp only [hD,p0_,p1_,p2_,p3_,p4_,p5_,p6_,p7_,p8_,q10_,q11_,q12_,q13_,cq,oT] at ht hs
      subst ht
      refine Qab (v:=tuple #[int .i64 r101.1,int .i64 r101.2]) rfl rfl rfl (g_d rfl ?_)
      try dsimp only [set0,setS]
      refine hk _ _ ⟨O,?_,hs.cast ?_⟩<;>simp only [oT,lq,cq,Nat.reduceBEq,p0_,p1_,p2_,p3_,p4_,p5_,p6_,p7_,p8_,q10_,q11_,q12_,q13_]
     ·
      rintro D t w hD hp hcl ⟨O,ht,hs⟩ rest hk
      obtain ⟨p9_,_⟩:=hp
      obtain ⟨p8_,_⟩:=(hcl.get 9 (by decide)) p9_
      obtain ⟨p0_,p1_,p7_,_⟩:=(hcl.get 8 (by decide)) p8_
      obtain ⟨p6_,_⟩:=(hcl.get 7 (by decide)) p7_
      obtain ⟨p4_,p5_,_⟩:=(hcl.get 6 (by decide)) p6_
      obtain ⟨p3_,_⟩:=(hcl.get 4 (by decide)) p4_
      obtain ⟨p2_,_⟩:=(hcl.get 3 (by decide)) p3_
      have q12_:=nz hcl 12 0 hD
      have q13_:=nz hcl 13 1 q12_
      simp only [hD,p0_,p1_,p2_,p3_,p4_,p5_,p6_,p7_,p8_,p9_,q12_,q13_,cq,oT] at ht hs
      subst ht
      refine Qab (v:=int .i64 r101.1) rfl rfl rfl (g_d rfl ?_)
      try dsimp only [set0,setS]
      refine hk _ _ ⟨O,?_,hs.cast ?_⟩<;>simp only [oT,lq,cq,Nat.reduceBEq,p0_,p1_,p2_,p3_,p4_,p5_,p6_,p7_,p8_,p9_,q12_,q13_]
     ·
      rintro D t w hD hp hcl ⟨O,ht,hs⟩ rest hk
      obtain ⟨p9_,_⟩:=hp
      obtain ⟨p8_,_⟩:=(hcl.get 9 (by decide)) p9_
      obtain ⟨p0_,p1_,p7_,_⟩:=(hcl.get 8 (by decide)) p8_
      obtain ⟨p6_,_⟩:=(hcl.get 7 (by decide)) p7_
      obtain ⟨p4_,p5_,_⟩:=(hcl.get 6 (by decide)) p6_
      obtain ⟨p3_,_⟩:=(hcl.get 4 (by decide)) p4_
      obtain ⟨p2_,_⟩:=(hcl.get 3 (by decide)) p3_
      have q13_:=nz hcl 13 0 hD
      simp only [hD,p0_,p1_,p2_,p3_,p4_,p5_,p6_,p7_,p8_,p9_,q13_,cq,oT] at ht hs
      subst ht
      refine Qab (v:=int .i64 r101.2) rfl rfl rfl (g_d rfl ?_)
      try dsimp only [set0,setS]
      refine hk _ _ ⟨O,?_,hs.cast ?_⟩<;>simp only [oT,lq,cq,Nat.reduceBEq,p0_,p1_,p2_,p3_,p4_,p5_,p6_,p7_,p8_,p9_,q13_]
     ·
      rintro D t w hD hp hcl ⟨O,ht,hs⟩ rest hk
      obtain ⟨p10_,p8_,p0_,p1_,p2_,p3_,p4_,p5_,p6_,p7_,_,p9_,_,_⟩:=hp
      have q13_:=nz hcl 13 1 hD
      simp only [hD,p0_,p1_,p2_,p3_,p4_,p5_,p6_,p7_,p8_,p9_,p10_,q13_,cq,oT] at ht hs
      subst ht
      refine Qab (v:=int .i64 r101.1) rfl rfl rfl (g_d rfl ?_)
      try dsimp only [set0,setS]
      refine hk _ _ ⟨O,?_,hs.cast ?_⟩<;>simp only [oT,lq,cq,Nat.reduceBEq,p0_,p1_,p2_,p3_,p4_,p5_,p6_,p7_,p8_,p9_,p10_,q13_]
     ·
      rintro D t w hD hp hcl ⟨O,ht,hs⟩ rest hk
      obtain ⟨p11_,p12_,p0_,p1_,p2_,p3_,p4_,p5_,p6_,p7_,p8_,p9_,p10_,_,_,_⟩:=hp
      simp only [hD,p0_,p1_,p2_,p3_,p4_,p5_,p6_,p7_,p8_,p9_,p10_,p11_,p12_,cq,oT] at ht hs
      subst ht
      refine Qab (v:=int .i64 r101.2) rfl rfl rfl (g_d rfl ?_)
      try dsimp only [set0,setS]
      refine hk _ _ ⟨O,?_,hs.cast ?_⟩<;>simp only [oT,lq,cq,Nat.reduceBEq,p0_,p1_,p2_,p3_,p4_,p5_,p6_,p7_,p8_,p9_,p10_,p11_,p12_]
     intro D t w hall hI
     obtain ⟨O,ht,hs⟩:=hI
     have p0_:=hall 0 (by decide)
     have p1_:=hall 1 (by decide)
     have p2_:=hall 2 (by decide)
     have p3_:=hall 3 (by decide)
     have p4_:=hall 4 (by decide)
     have p5_:=hall 5 (by decide)
     have p6_:=hall 6 (by decide)
     have p7_:=hall 7 (by decide)
     have p8_:=hall 8 (by decide)
     have p9_:=hall 9 (by decide)
     have p10_:=hall 10 (by decide)
     have p11_:=hall 11 (by decide)
     have p12_:=hall 12 (by decide)
     have p13_:=hall 13 (by decide)
     simp only [p0_,p1_,p2_,p3_,p4_,p5_,p6_,p7_,p8_,p9_,p10_,p11_,p12_,p13_,cq,oT] at ht hs
     subst ht
     have hs:=hs.pull 10 rfl
     have hs:=hs.pull 10 rfl
     have hs:=hs.pull 10 rfl
     have hs:=hs.pull 10 rfl
     have hs:=hs.pull 10 rfl
     have hs:=hs.pull 10 rfl
     have hs:=hs.pull 10 rfl
     have hs:=hs.pull 10 rfl
     have hs:=hs.pull 10 rfl
     have hs:=hs.pull 10 rfl
     have hs:=hs.pull 10 rfl
     have hs:St _ [_,_,_,_,_,_,_,_,_,_,_] _:=St.take (Γ':=[]) hs
     exact ha _ _ ⟨r101.1,r101.2,H,rfl,hs⟩
    rw [if_neg hk25_] at H
    cases H
   intro ha
   by_cases hk16_:x80=0
   ·
    rw [if_pos hk16_] at H
    refine Qan [0,1,2,3,4,5] rfl ?_
    refine Qab (v:=int .i64 x91) rfl rfl rfl (g_d rfl ?_)
    refine Qab (v:=int .i64 x80) rfl rfl rfl (g_d rfl ?_)
    refine QbR (m:=1) 0 hk16_ (by decide) rfl (fun _=>rfl) rfl rfl rfl rfl rfl (g_d rfl ?_)
    try dsimp only [set0,setS]
    refine Qaz rfl rfl (v:=v44) rfl rfl (fun _=>rfl) (cells_load (hs.cells 10 rfl) 0 1 rfl) (g_d rfl ?_)
    refine Qb1 (hs.row 7 rfl) rfl rfl rfl rfl rfl (g_d rfl ?_)
    try dsimp only [set0,setS]
    refine QaR (B:=decide (x91< ((r43.1.get 0 []).length:Int))) rfl rfl rfl ?_ ?_
    ·
     intro hb
     rw [if_pos (b_dec_t hb)] at H
     refine g_d rfl ?_
     try dsimp only [set0,setS]
     refine Qaa (Qaw rfl (QaS ?_))
     have hs:=hs.pull 9 rfl
     have hs:=hs.pull 9 rfl
     have hs:=hs.pull 9 rfl
     have hs:=hs.pull 10 rfl
     have hs:=hs.pull 9 rfl
     have hs:=hs.pull 9 rfl
     have hs:=hs.pull 9 rfl
     have hs:=hs.pull 10 rfl
     have hs:=hs.pull 10 rfl
     have hs:=hs.pull 10 rfl
     have hs:=hs.pull 10 rfl
     have hs:St _ [_,_,_,_,_,_,_,_,_,_,_] _:=St.take (Γ':=[]) hs
     exact ha _ _ ⟨H,rfl,hs⟩
    intro hb
    rw [if_neg (b_dec_f hb)] at H
    refine g_d rfl (Qaa (Qax rfl ?_))
    obtain rfl:=QsJ H
    subst Hx2_
    have hs:=hs.pull 9 rfl
    have hs:=hs.pull 9 rfl
    have hs:=hs.pull 9 rfl
    have hs:=hs.pull 10 rfl
    have hs:=hs.pull 9 rfl
    have hs:=hs.pull 9 rfl
    have hs:=hs.pull 9 rfl
    have hs:=hs.pull 10 rfl
    have hs:=hs.pull 10 rfl
    have hs:=hs.pull 10 rfl
    have hs:=hs.pull 10 rfl
    have hs:St _ [_,_,_,_,_,_,_,_,_,_,_] _:=St.take (Γ':=[]) hs
    refine QbG rfl ?_
    exact ha2_ _ _ ⟨Hr2_,rfl,hs⟩
   rw [if_neg hk16_] at H
   by_cases hk17_:x80=1
   ·
    rw [if_pos hk17_] at H
    refine Qan [0,1,2,3,4,5] rfl ?_
    refine Qab (v:=int .i64 x91) rfl rfl rfl (g_d rfl ?_)
    refine Qab (v:=int .i64 x80) rfl rfl rfl (g_d rfl ?_)
    refine QbR (m:=1) 1 hk17_ (by decide) rfl (fun _=>rfl) rfl rfl rfl rfl rfl (g_d rfl ?_)
    refine Qaz rfl rfl (v:=v45) rfl rfl (fun _=>rfl) (cells_load (hs.cells 10 rfl) 1 1 rfl) (g_d rfl ?_)
    try dsimp only [set0,setS]
    refine Qb1 (hs.row 8 rfl) rfl rfl rfl rfl rfl (g_d rfl ?_)
    refine QaR (B:=decide (x91< ((r43.1.get 1 []).length:Int))) rfl rfl rfl ?_ ?_
    ·
     intro hb
     rw [if_pos (b_dec_t hb)] at H
     refine g_d rfl (Qaa (Qaw rfl (QaS ?_)))
     have hs:=hs.pull 9 rfl
     have hs:=hs.pull 9 rfl
     have hs:=hs.pull 9 rfl
     have hs:=hs.pull 10 rfl
     have hs:=hs.pull 9 rfl
     have hs:=hs.pull 9 rfl
     have hs:=hs.pull 9 rfl
     have hs:=hs.pull 10 rfl
     have hs:=hs.pull 10 rfl
     have hs:=hs.pull 10 rfl
     have hs:=hs.pull 10 rfl
     have hs:St _ [_,_,_,_,_,_,_,_,_,_,_] _:=St.take (Γ':=[]) hs
     exact ha _ _ ⟨H,rfl,hs⟩
    intro hb
    rw [if_neg (b_dec_f hb)] at H
    refine g_d rfl ?_
    try dsimp only [set0,setS]
    refine Qaa (Qax rfl ?_)
    obtain rfl:=QsJ H
    subst Hx2_
    have hs:=hs.pull 9 rfl
    have hs:=hs.pull 9 rfl
    have hs:=hs.pull 9 rfl
    have hs:=hs.pull 10 rfl
    have hs:=hs.pull 9 rfl
    have hs:=hs.pull 9 rfl
    have hs:=hs.pull 9 rfl
    have hs:=hs.pull 10 rfl
    have hs:=hs.pull 10 rfl
    have hs:=hs.pull 10 rfl
    have hs:=hs.pull 10 rfl
    have hs:St _ [_,_,_,_,_,_,_,_,_,_,_] _:=St.take (Γ':=[]) hs
    refine QbG rfl ?_
    exact ha2_ _ _ ⟨Hr2_,rfl,hs⟩
   as_aux_lemma =>
    rw [if_neg hk17_] at H
    by_cases hk18_:x80=2
    ·
     rw [if_pos hk18_] at H
     refine Qan [0,1,2,3,4,5] rfl ?_
     refine Qab (v:=int .i64 x91) rfl rfl rfl (g_d rfl ?_)
     refine Qab (v:=int .i64 x80) rfl rfl rfl (g_d rfl ?_)
     refine QbR (m:=1) 2 hk18_ (by decide) rfl (fun _=>rfl) rfl rfl rfl rfl rfl (g_d rfl ?_)
     try dsimp only [set0,setS]
     refine Qaz rfl rfl (v:=v46) rfl rfl (fun _=>rfl) (cells_load (hs.cells 10 rfl) 2 1 rfl) (g_d rfl ?_)
     refine Qb1 (hs.row 9 rfl) rfl rfl rfl rfl rfl (g_d rfl ?_)
     try dsimp only [set0,setS]
     refine QaR (B:=decide (x91< ((r43.1.get 2 []).length:Int))) rfl rfl rfl ?_ ?_
     ·
      intro hb
      rw [if_pos (b_dec_t hb)] at H
      refine g_d rfl ?_
      try dsimp only [set0,setS]
      refine Qaa (Qaw rfl (QaS ?_))
      have hs:=hs.pull 9 rfl
      have hs:=hs.pull 9 rfl
      have hs:=hs.pull 9 rfl
      have hs:=hs.pull 10 rfl
      have hs:=hs.pull 9 rfl
      have hs:=hs.pull 9 rfl
      have hs:=hs.pull 9 rfl
      have hs:=hs.pull 10 rfl
      have hs:=hs.pull 10 rfl
      have hs:=hs.pull 10 rfl
      have hs:=hs.pull 10 rfl
      have hs:St _ [_,_,_,_,_,_,_,_,_,_,_] _:=St.take (Γ':=[]) hs
      exact ha _ _ ⟨H,rfl,hs⟩
     intro hb
     rw [if_neg (b_dec_f hb)] at H
     refine g_d rfl (Qaa (Qax rfl ?_))
     obtain rfl:=QsJ H
     subst Hx2_
     have hs:=hs.pull 9 rfl
     have hs:=hs.pull 9 rfl
     have hs:=hs.pull 9 rfl
     have hs:=hs.pull 10 rfl
     have hs:=hs.pull 9 rfl
     have hs:=hs.pull 9 rfl
     have hs:=hs.pull 9 rfl
     have hs:=hs.pull 10 rfl
     have hs:=hs.pull 10 rfl
     have hs:=hs.pull 10 rfl
     have hs:=hs.pull 10 rfl
     have hs:St _ [_,_,_,_,_,_,_,_,_,_,_] _:=St.take (Γ':=[]) hs
     refine QbG rfl ?_
     exact ha2_ _ _ ⟨Hr2_,rfl,hs⟩
    rw [if_neg hk18_] at H
    cases H
  intro ha
  by_cases hk1_:x80=0
  · as_aux_lemma =>
   rw [if_pos hk1_] at H
   refine QcQ (n:=8) rfl [0,1,2,3,4,5,6,7] [0,1,2,3,4,5,6,7] rfl rfl ?_
   intro rest w hh hbw hO
   have hs:=hs.samew hh hbw
   try dsimp only [set0,setS]
   refine QbT ?_
   intro T hT
   refine QcJ (m0:=0) hO rfl 63 [0,1,2,3,4,5] [0,1,3,0,8,24,63,127] (by decide+kernel) (fun D t w=>∃ O:Nat→Value,t=(O 0::O 1::O 2::O 3::O 4::pointer (some ⟨b8,0,none⟩)::pointer (some ⟨b13,0,none⟩)::O 7::O 8::v19::O 10::pointer (some ⟨b32,0,none⟩)::O 12::pointer (some ⟨b50,0,none⟩)::O 14::O 15::O 16::int .i64 x78::int .i64 x79::int .i64 x80::oT O 2 (oT O 3 (oT O 4 (oT O 5 (oT O 6 (oT O 7 (oT O 8 (oT O 9 (oT O 10 (oT O 11 (O 120::O 121::O 122::O 123::int .i64 x80::bool true::O 126::O 127::cnd (D 0) (int .i64 x80) (O 128)::cnd (D 1) (pointer (some ⟨b32,0+0*1,none⟩)) (O 129)::cnd (D 2) v33 (O 130)::cnd (D 3) (int .i64 x80) (O 131)::cnd (D 4) (pointer (some ⟨b50,0+0*1,none⟩)) (O 132)::cnd (D 5) v44 (O 133)::O 134::O 135::O 136::O 137::O 138::O 139::oT O 14 (oT O 15 (oT O 16 (oT O 17 (oT O 18 (oT O 19 (oT O 20 (oT O 21 (oT O 22 (oT O 23 (oT O 24 (oT O 25 (oT O 26 (oT O 27 (oT O 28 (oT O 29 (O 300::O 301::O 302::O 303::[])))))))))))))))))))))))))))∧St w0 [Cells b8 (Qae r7) 27,Cells b13 ((encA (encI .i8)) x14) 37,Row 53 Qah v19 r18.1,Row 53 Qah v33 x34,Row 53 Qah v36 x37,Row 53 Qah v39 x40,Cells b32 (([v33,v36,v39]:List Value)) 42,Row 53 Qah v44 (r43.1.get 0 []),Row 53 Qah v45 (r43.1.get 1 []),Row 53 Qah v46 (r43.1.get 2 []),Cells b50 (([v44,v45,v46]:List Value)) 42] w) ?_ ⟨?_,⟨?_,⟨?_,⟨?_,⟨?_,⟨?_,trivial⟩⟩⟩⟩⟩⟩ ?_
   ·exact ⟨fun i=>T.getD i undef,(by subst hT;rfl),hs⟩
   ·
    rintro D t w hD hp hcl ⟨O,ht,hs⟩ rest hk
    have hp:AllDone D []:=hp
    have q1_:=ny hcl 1 0 hD
    have q2_:=ny hcl 2 0 q1_
    simp only [hD,q1_,q2_,cq,oT] at ht hs
    subst ht
    refine Qab (v:=int .i64 x80) rfl rfl rfl (g_d rfl ?_)
    try dsimp only [set0,setS]
    refine hk _ _ ⟨O,?_,hs.cast ?_⟩<;>simp only [oT,lq,cq,Nat.reduceBEq,q1_,q2_]
   ·
    rintro D t w hD hp hcl ⟨O,ht,hs⟩ rest hk
    have hp:AllDone D [0]:=hp
    obtain ⟨p0_,_⟩:=hp
    have q2_:=ny hcl 2 0 hD
    simp only [hD,p0_,q2_,cq,oT] at ht hs
    subst ht
    refine QbR (m:=1) 0 hk1_ (by decide) rfl (fun _=>rfl) rfl rfl rfl rfl rfl (g_d rfl ?_)
    try dsimp only [set0,setS]
    refine hk _ _ ⟨O,?_,hs.cast ?_⟩<;>simp only [oT,lq,cq,Nat.reduceBEq,p0_,q2_]
   ·
    rintro D t w hD hp hcl ⟨O,ht,hs⟩ rest hk
    have hp:AllDone D [1]:=hp
    obtain ⟨p1_,_⟩:=hp
    obtain ⟨p0_,_⟩:=(show D 1=true→AllDone D [0] from hcl 1 (by decide)) p1_
    simp only [hD,p0_,p1_,cq,oT] at ht hs
    subst ht
    refine Qaz rfl rfl (v:=v33) rfl rfl (fun _=>rfl) (cells_load (hs.cells 6 rfl) 0 1 rfl) (g_d rfl ?_)
    try dsimp only [set0,setS]
    refine hk _ _ ⟨O,?_,hs.cast ?_⟩<;>simp only [oT,lq,cq,Nat.reduceBEq,p0_,p1_]
   ·
    rintro D t w hD hp hcl ⟨O,ht,hs⟩ rest hk
    have hp:AllDone D []:=hp
    have q4_:=ny hcl 4 0 hD
    have q5_:=ny hcl 5 0 q4_
    simp only [hD,q4_,q5_,cq,oT] at ht hs
    subst ht
    refine Qab (v:=int .i64 x80) rfl rfl rfl (g_d rfl ?_)
    try dsimp only [set0,setS]
    refine hk _ _ ⟨O,?_,hs.cast ?_⟩<;>simp only [oT,lq,cq,Nat.reduceBEq,q4_,q5_]
   ·
    rintro D t w hD hp hcl ⟨O,ht,hs⟩ rest hk
    have hp:AllDone D [3]:=hp
    obtain ⟨p3_,_⟩:=hp
    have q5_:=ny hcl 5 0 hD
    simp only [hD,p3_,q5_,cq,oT] at ht hs
    subst ht
    refine QbR (m:=1) 0 hk1_ (by decide) rfl (fun _=>rfl) rfl rfl rfl rfl rfl (g_d rfl ?_)
    try dsimp only [set0,setS]
    refine hk _ _ ⟨O,?_,hs.cast ?_⟩<;>simp only [oT,lq,cq,Nat.reduceBEq,p3_,q5_]
   ·
    rintro D t w hD hp hcl ⟨O,ht,hs⟩ rest hk
    have hp:AllDone D [4]:=hp
    obtain ⟨p4_,_⟩:=hp
    obtain ⟨p3_,_⟩:=(show D 4=true→AllDone D [3] from hcl 4 (by decide)) p4_
    simp only [hD,p3_,p4_,cq,oT] at ht hs
    subst ht
    refine Qaz rfl rfl (v:=v44) rfl rfl (fun _=>rfl) (cells_load (hs.cells 10 rfl) 0 1 rfl) (g_d rfl ?_)
    try dsimp only [set0,setS]
    refine hk _ _ ⟨O,?_,hs.cast ?_⟩<;>simp only [oT,lq,cq,Nat.reduceBEq,p3_,p4_]
   intro D t w rest hall hO2_ hI
   obtain ⟨O,ht,hs⟩:=hI
   have p0_:=hall 0 (by decide) rfl
   have p1_:=hall 1 (by decide) rfl
   have p2_:=hall 2 (by decide) rfl
   have p3_:=hall 3 (by decide) rfl
   have p4_:=hall 4 (by decide) rfl
   have p5_:=hall 5 (by decide) rfl
   simp only [p0_,p1_,p2_,p3_,p4_,p5_,cq,oT] at ht hs
   subst ht
   obtain ⟨rest,rfl,hO3_⟩:=ord_one (m:=63) hO2_ rfl 6 (m':=127) (by decide+kernel) rfl
   clear hO2_
   obtain ⟨r81,Hr81,H⟩:=bind_get H
   refine QaP (args:=[v33,v44]) rfl rfl (QaT rfl (callFunc_enter Try.func20 rfl rfl) rfl) (Qbo.calls (a1:=x34) (a3:=(r43.1.get 0 [])) (hs.row 3 rfl) (hs.row 7 rfl) Hr81) ?_
   rintro _ w ⟨rfl,hs2⟩
   have hs:St _ [_,_,_,_,_,_,_,_,_,_,_] _:=hs.call hs2
   cases r81 with
   |true=>
    rw [if_pos rfl] at H
    refine g_d rfl ?_
    obtain ⟨rest,rfl,hO4_⟩:=ord_one (m:=127) hO3_ rfl 7 (m':=255) (by decide+kernel) rfl
    clear hO3_
    refine Qab (v:=bool false) rfl rfl rfl (g_d rfl ?_)
    try dsimp only [set0,setS]
    obtain rfl:=ord_end hO4_ rfl (by decide+kernel)
    refine Qaa (Qax rfl (QaS ?_))
    have hs:=hs.pull 9 rfl
    have hs:=hs.pull 9 rfl
    have hs:=hs.pull 9 rfl
    have hs:=hs.pull 10 rfl
    have hs:=hs.pull 9 rfl
    have hs:=hs.pull 9 rfl
    have hs:=hs.pull 9 rfl
    have hs:=hs.pull 10 rfl
    have hs:=hs.pull 10 rfl
    have hs:=hs.pull 10 rfl
    have hs:=hs.pull 10 rfl
    have hs:St _ [_,_,_,_,_,_,_,_,_,_,_] _:=St.take (Γ':=[]) hs
    exact ha _ _ ⟨H,rfl,hs⟩
   |false=>
    rw [if_neg Bool.false_ne_true] at H
    refine g_d rfl ?_
    try dsimp only [set0,setS]
    obtain ⟨rest,rfl,hO5_⟩:=ord_one (m:=127) hO3_ rfl 7 (m':=255) (by decide+kernel) rfl
    clear hO3_
    refine Qab (v:=bool true) rfl rfl rfl (g_d rfl ?_)
    obtain rfl:=ord_end hO5_ rfl (by decide+kernel)
    refine Qaa (Qaw rfl (Qag (Qan [0] rfl ?_)))
    refine Qab (v:=bool false) rfl rfl rfl (g_d rfl ?_)
    try dsimp only [set0,setS]
    refine Qaa ?_
    obtain rfl:=QsJ H
    subst Hx1_
    have H:=QsJ Hr1_
    subst H
    refine QaK Try.func5 (v:=bool false) (res1 rfl rfl) ?_
    have hs:St _ [] _:=St.take (Γ':=[_,_,_,_,_,_,_,_,_,_,_]) hs
    exact ⟨_,rfl,rfl,hs⟩
  rw [if_neg hk1_] at H
  by_cases hk6_:x80=1
  · as_aux_lemma =>
   rw [if_pos hk6_] at H
   refine QcQ (n:=8) rfl [0,1,2,3,4,5,6,7] [0,1,2,3,4,5,6,7] rfl rfl ?_
   intro rest w hh hbw hO
   have hs:=hs.samew hh hbw
   try dsimp only [set0,setS]
   refine QbT ?_
   intro T hT
   refine QcJ (m0:=0) hO rfl 63 [0,1,2,3,4,5] [0,1,3,0,8,24,63,127] (by decide+kernel) (fun D t w=>∃ O:Nat→Value,t=(O 0::O 1::O 2::O 3::O 4::pointer (some ⟨b8,0,none⟩)::pointer (some ⟨b13,0,none⟩)::O 7::O 8::v19::O 10::pointer (some ⟨b32,0,none⟩)::O 12::pointer (some ⟨b50,0,none⟩)::O 14::O 15::O 16::int .i64 x78::int .i64 x79::int .i64 x80::oT O 2 (oT O 3 (oT O 4 (oT O 5 (oT O 6 (oT O 7 (oT O 8 (oT O 9 (oT O 10 (oT O 11 (O 120::O 121::O 122::O 123::int .i64 x80::bool true::O 126::O 127::cnd (D 0) (int .i64 x80) (O 128)::cnd (D 1) (pointer (some ⟨b32,0+1*1,none⟩)) (O 129)::cnd (D 2) v36 (O 130)::cnd (D 3) (int .i64 x80) (O 131)::cnd (D 4) (pointer (some ⟨b50,0+1*1,none⟩)) (O 132)::cnd (D 5) v45 (O 133)::O 134::O 135::O 136::O 137::O 138::O 139::oT O 14 (oT O 15 (oT O 16 (oT O 17 (oT O 18 (oT O 19 (oT O 20 (oT O 21 (oT O 22 (oT O 23 (oT O 24 (oT O 25 (oT O 26 (oT O 27 (oT O 28 (oT O 29 (O 300::O 301::O 302::O 303::[])))))))))))))))))))))))))))∧St w0 [Cells b8 (Qae r7) 27,Cells b13 ((encA (encI .i8)) x14) 37,Row 53 Qah v19 r18.1,Row 53 Qah v33 x34,Row 53 Qah v36 x37,Row 53 Qah v39 x40,Cells b32 (([v33,v36,v39]:List Value)) 42,Row 53 Qah v44 (r43.1.get 0 []),Row 53 Qah v45 (r43.1.get 1 []),Row 53 Qah v46 (r43.1.get 2 []),Cells b50 (([v44,v45,v46]:List Value)) 42] w) ?_ ⟨?_,⟨?_,⟨?_,⟨?_,⟨?_,⟨?_,trivial⟩⟩⟩⟩⟩⟩ ?_
   ·exact ⟨fun i=>T.getD i undef,(by subst hT;rfl),hs⟩
   ·
    rintro D t w hD hp hcl ⟨O,ht,hs⟩ rest hk
    have hp:AllDone D []:=hp
    have q1_:=ny hcl 1 0 hD
    have q2_:=ny hcl 2 0 q1_
    simp only [hD,q1_,q2_,cq,oT] at ht hs
    subst ht
    refine Qab (v:=int .i64 x80) rfl rfl rfl (g_d rfl ?_)
    try dsimp only [set0,setS]
    refine hk _ _ ⟨O,?_,hs.cast ?_⟩<;>simp only [oT,lq,cq,Nat.reduceBEq,q1_,q2_]
   ·
    rintro D t w hD hp hcl ⟨O,ht,hs⟩ rest hk
    have hp:AllDone D [0]:=hp
    obtain ⟨p0_,_⟩:=hp
    have q2_:=ny hcl 2 0 hD
    simp only [hD,p0_,q2_,cq,oT] at ht hs
    subst ht
    refine QbR (m:=1) 1 hk6_ (by decide) rfl (fun _=>rfl) rfl rfl rfl rfl rfl (g_d rfl ?_)
    try dsimp only [set0,setS]
    refine hk _ _ ⟨O,?_,hs.cast ?_⟩<;>simp only [oT,lq,cq,Nat.reduceBEq,p0_,q2_]
   ·
    rintro D t w hD hp hcl ⟨O,ht,hs⟩ rest hk
    have hp:AllDone D [1]:=hp
    obtain ⟨p1_,_⟩:=hp
    obtain ⟨p0_,_⟩:=(show D 1=true→AllDone D [0] from hcl 1 (by decide)) p1_
    simp only [hD,p0_,p1_,cq,oT] at ht hs
    subst ht
    refine Qaz rfl rfl (v:=v36) rfl rfl (fun _=>rfl) (cells_load (hs.cells 6 rfl) 1 1 rfl) (g_d rfl ?_)
    try dsimp only [set0,setS]
    refine hk _ _ ⟨O,?_,hs.cast ?_⟩<;>simp only [oT,lq,cq,Nat.reduceBEq,p0_,p1_]
   ·
    rintro D t w hD hp hcl ⟨O,ht,hs⟩ rest hk
    have hp:AllDone D []:=hp
    have q4_:=ny hcl 4 0 hD
    have q5_:=ny hcl 5 0 q4_
    simp only [hD,q4_,q5_,cq,oT] at ht hs
    subst ht
    refine Qab (v:=int .i64 x80) rfl rfl rfl (g_d rfl ?_)
    try dsimp only [set0,setS]
    refine hk _ _ ⟨O,?_,hs.cast ?_⟩<;>simp only [oT,lq,cq,Nat.reduceBEq,q4_,q5_]
   ·
    rintro D t w hD hp hcl ⟨O,ht,hs⟩ rest hk
    have hp:AllDone D [3]:=hp
    obtain ⟨p3_,_⟩:=hp
    have q5_:=ny hcl 5 0 hD
    simp only [hD,p3_,q5_,cq,oT] at ht hs
    subst ht
    refine QbR (m:=1) 1 hk6_ (by decide) rfl (fun _=>rfl) rfl rfl rfl rfl rfl (g_d rfl ?_)
    try dsimp only [set0,setS]
    refine hk _ _ ⟨O,?_,hs.cast ?_⟩<;>simp only [oT,lq,cq,Nat.reduceBEq,p3_,q5_]
   ·
    rintro D t w hD hp hcl ⟨O,ht,hs⟩ rest hk
    have hp:AllDone D [4]:=hp
    obtain ⟨p4_,_⟩:=hp
    obtain ⟨p3_,_⟩:=(show D 4=true→AllDone D [3] from hcl 4 (by decide)) p4_
    simp only [hD,p3_,p4_,cq,oT] at ht hs
    subst ht
    refine Qaz rfl rfl (v:=v45) rfl rfl (fun _=>rfl) (cells_load (hs.cells 10 rfl) 1 1 rfl) (g_d rfl ?_)
    try dsimp only [set0,setS]
    refine hk _ _ ⟨O,?_,hs.cast ?_⟩<;>simp only [oT,lq,cq,Nat.reduceBEq,p3_,p4_]
   intro D t w rest hall hO7_ hI
   obtain ⟨O,ht,hs⟩:=hI
   have p0_:=hall 0 (by decide) rfl
   have p1_:=hall 1 (by decide) rfl
   have p2_:=hall 2 (by decide) rfl
   have p3_:=hall 3 (by decide) rfl
   have p4_:=hall 4 (by decide) rfl
   have p5_:=hall 5 (by decide) rfl
   simp only [p0_,p1_,p2_,p3_,p4_,p5_,cq,oT] at ht hs
   subst ht
   obtain ⟨rest,rfl,hO8_⟩:=ord_one (m:=63) hO7_ rfl 6 (m':=127) (by decide+kernel) rfl
   clear hO7_
   obtain ⟨r82,Hr82,H⟩:=bind_get H
   refine QaP (args:=[v36,v45]) rfl rfl (QaT rfl (callFunc_enter Try.func20 rfl rfl) rfl) (Qbo.calls (a1:=x37) (a3:=(r43.1.get 1 [])) (hs.row 4 rfl) (hs.row 8 rfl) Hr82) ?_
   rintro _ w ⟨rfl,hs2⟩
   have hs:St _ [_,_,_,_,_,_,_,_,_,_,_] _:=hs.call hs2
   cases r82 with
   |true=>
    rw [if_pos rfl] at H
    refine g_d rfl ?_
    try dsimp only [set0,setS]
    obtain ⟨rest,rfl,hO9_⟩:=ord_one (m:=127) hO8_ rfl 7 (m':=255) (by decide+kernel) rfl
    clear hO8_
    refine Qab (v:=bool false) rfl rfl rfl (g_d rfl ?_)
    obtain rfl:=ord_end hO9_ rfl (by decide+kernel)
    refine Qaa (Qax rfl (QaS ?_))
    have hs:=hs.pull 9 rfl
    have hs:=hs.pull 9 rfl
    have hs:=hs.pull 9 rfl
    have hs:=hs.pull 10 rfl
    have hs:=hs.pull 9 rfl
    have hs:=hs.pull 9 rfl
    have hs:=hs.pull 9 rfl
    have hs:=hs.pull 10 rfl
    have hs:=hs.pull 10 rfl
    have hs:=hs.pull 10 rfl
    have hs:=hs.pull 10 rfl
    have hs:St _ [_,_,_,_,_,_,_,_,_,_,_] _:=St.take (Γ':=[]) hs
    exact ha _ _ ⟨H,rfl,hs⟩
   |false=>
    rw [if_neg Bool.false_ne_true] at H
    refine g_d rfl ?_
    obtain ⟨rest,rfl,hO10_⟩:=ord_one (m:=127) hO8_ rfl 7 (m':=255) (by decide+kernel) rfl
    clear hO8_
    refine Qab (v:=bool true) rfl rfl rfl (g_d rfl ?_)
    try dsimp only [set0,setS]
    obtain rfl:=ord_end hO10_ rfl (by decide+kernel)
    refine Qaa (Qaw rfl (Qag (Qan [0] rfl ?_)))
    refine Qab (v:=bool false) rfl rfl rfl (g_d rfl (Qaa ?_))
    obtain rfl:=QsJ H
    subst Hx1_
    have H:=QsJ Hr1_
    subst H
    refine QaK Try.func5 (v:=bool false) (res1 rfl rfl) ?_
    have hs:St _ [] _:=St.take (Γ':=[_,_,_,_,_,_,_,_,_,_,_]) hs
    exact ⟨_,rfl,rfl,hs⟩
  rw [if_neg hk6_] at H
  by_cases hk11_:x80=2
  · as_aux_lemma =>
   rw [if_pos hk11_] at H
   refine QcQ (n:=8) rfl [0,1,2,3,4,5,6,7] [0,1,2,3,4,5,6,7] rfl rfl ?_
   intro rest w hh hbw hO
   have hs:=hs.samew hh hbw
   try dsimp only [set0,setS]
   refine QbT ?_
   intro T hT
   refine QcJ (m0:=0) hO rfl 63 [0,1,2,3,4,5] [0,1,3,0,8,24,63,127] (by decide+kernel) (fun D t w=>∃ O:Nat→Value,t=(O 0::O 1::O 2::O 3::O 4::pointer (some ⟨b8,0,none⟩)::pointer (some ⟨b13,0,none⟩)::O 7::O 8::v19::O 10::pointer (some ⟨b32,0,none⟩)::O 12::pointer (some ⟨b50,0,none⟩)::O 14::O 15::O 16::int .i64 x78::int .i64 x79::int .i64 x80::oT O 2 (oT O 3 (oT O 4 (oT O 5 (oT O 6 (oT O 7 (oT O 8 (oT O 9 (oT O 10 (oT O 11 (O 120::O 121::O 122::O 123::int .i64 x80::bool true::O 126::O 127::cnd (D 0) (int .i64 x80) (O 128)::cnd (D 1) (pointer (some ⟨b32,0+2*1,none⟩)) (O 129)::cnd (D 2) v39 (O 130)::cnd (D 3) (int .i64 x80) (O 131)::cnd (D 4) (pointer (some ⟨b50,0+2*1,none⟩)) (O 132)::cnd (D 5) v46 (O 133)::O 134::O 135::O 136::O 137::O 138::O 139::oT O 14 (oT O 15 (oT O 16 (oT O 17 (oT O 18 (oT O 19 (oT O 20 (oT O 21 (oT O 22 (oT O 23 (oT O 24 (oT O 25 (oT O 26 (oT O 27 (oT O 28 (oT O 29 (O 300::O 301::O 302::O 303::[])))))))))))))))))))))))))))∧St w0 [Cells b8 (Qae r7) 27,Cells b13 ((encA (encI .i8)) x14) 37,Row 53 Qah v19 r18.1,Row 53 Qah v33 x34,Row 53 Qah v36 x37,Row 53 Qah v39 x40,Cells b32 (([v33,v36,v39]:List Value)) 42,Row 53 Qah v44 (r43.1.get 0 []),Row 53 Qah v45 (r43.1.get 1 []),Row 53 Qah v46 (r43.1.get 2 []),Cells b50 (([v44,v45,v46]:List Value)) 42] w) ?_ ⟨?_,⟨?_,⟨?_,⟨?_,⟨?_,⟨?_,trivial⟩⟩⟩⟩⟩⟩ ?_
   ·exact ⟨fun i=>T.getD i undef,(by subst hT;rfl),hs⟩
   ·
    rintro D t w hD hp hcl ⟨O,ht,hs⟩ rest hk
    have hp:AllDone D []:=hp
    have q1_:=ny hcl 1 0 hD
    have q2_:=ny hcl 2 0 q1_
    simp only [hD,q1_,q2_,cq,oT] at ht hs
    subst ht
    refine Qab (v:=int .i64 x80) rfl rfl rfl (g_d rfl ?_)
    try dsimp only [set0,setS]
    refine hk _ _ ⟨O,?_,hs.cast ?_⟩<;>simp only [oT,lq,cq,Nat.reduceBEq,q1_,q2_]
   ·
    rintro D t w hD hp hcl ⟨O,ht,hs⟩ rest hk
    have hp:AllDone D [0]:=hp
    obtain ⟨p0_,_⟩:=hp
    have q2_:=ny hcl 2 0 hD
    simp only [hD,p0_,q2_,cq,oT] at ht hs
    subst ht
    refine QbR (m:=1) 2 hk11_ (by decide) rfl (fun _=>rfl) rfl rfl rfl rfl rfl (g_d rfl ?_)
    try dsimp only [set0,setS]
    refine hk _ _ ⟨O,?_,hs.cast ?_⟩<;>simp only [oT,lq,cq,Nat.reduceBEq,p0_,q2_]
   ·
    rintro D t w hD hp hcl ⟨O,ht,hs⟩ rest hk
    have hp:AllDone D [1]:=hp
    obtain ⟨p1_,_⟩:=hp
    obtain ⟨p0_,_⟩:=(show D 1=true→AllDone D [0] from hcl 1 (by decide)) p1_
    simp only [hD,p0_,p1_,cq,oT] at ht hs
    subst ht
    refine Qaz rfl rfl (v:=v39) rfl rfl (fun _=>rfl) (cells_load (hs.cells 6 rfl) 2 1 rfl) (g_d rfl ?_)
    try dsimp only [set0,setS]
    refine hk _ _ ⟨O,?_,hs.cast ?_⟩<;>simp only [oT,lq,cq,Nat.reduceBEq,p0_,p1_]
   ·
    rintro D t w hD hp hcl ⟨O,ht,hs⟩ rest hk
    have hp:AllDone D []:=hp
    have q4_:=ny hcl 4 0 hD
    have q5_:=ny hcl 5 0 q4_
    simp only [hD,q4_,q5_,cq,oT] at ht hs
    subst ht
    refine Qab (v:=int .i64 x80) rfl rfl rfl (g_d rfl ?_)
    try dsimp only [set0,setS]
    refine hk _ _ ⟨O,?_,hs.cast ?_⟩<;>simp only [oT,lq,cq,Nat.reduceBEq,q4_,q5_]
   ·
    rintro D t w hD hp hcl ⟨O,ht,hs⟩ rest hk
    have hp:AllDone D [3]:=hp
    obtain ⟨p3_,_⟩:=hp
    have q5_:=ny hcl 5 0 hD
    simp only [hD,p3_,q5_,cq,oT] at ht hs
    subst ht
    refine QbR (m:=1) 2 hk11_ (by decide) rfl (fun _=>rfl) rfl rfl rfl rfl rfl (g_d rfl ?_)
    try dsimp only [set0,setS]
    refine hk _ _ ⟨O,?_,hs.cast ?_⟩<;>simp only [oT,lq,cq,Nat.reduceBEq,p3_,q5_]
   ·
    rintro D t w hD hp hcl ⟨O,ht,hs⟩ rest hk
    have hp:AllDone D [4]:=hp
    obtain ⟨p4_,_⟩:=hp
    obtain ⟨p3_,_⟩:=(show D 4=true→AllDone D [3] from hcl 4 (by decide)) p4_
    simp only [hD,p3_,p4_,cq,oT] at ht hs
    subst ht
    refine Qaz rfl rfl (v:=v46) rfl rfl (fun _=>rfl) (cells_load (hs.cells 10 rfl) 2 1 rfl) (g_d rfl ?_)
    try dsimp only [set0,setS]
    refine hk _ _ ⟨O,?_,hs.cast ?_⟩<;>simp only [oT,lq,cq,Nat.reduceBEq,p3_,p4_]
   intro D t w rest hall hO12_ hI
   obtain ⟨O,ht,hs⟩:=hI
   have p0_:=hall 0 (by decide) rfl
   have p1_:=hall 1 (by decide) rfl
   have p2_:=hall 2 (by decide) rfl
   have p3_:=hall 3 (by decide) rfl
   have p4_:=hall 4 (by decide) rfl
   have p5_:=hall 5 (by decide) rfl
   simp only [p0_,p1_,p2_,p3_,p4_,p5_,cq,oT] at ht hs
   subst ht
   obtain ⟨rest,rfl,hO13_⟩:=ord_one (m:=63) hO12_ rfl 6 (m':=127) (by decide+kernel) rfl
   clear hO12_
   obtain ⟨r83,Hr83,H⟩:=bind_get H
   refine QaP (args:=[v39,v46]) rfl rfl (QaT rfl (callFunc_enter Try.func20 rfl rfl) rfl) (Qbo.calls (a1:=x40) (a3:=(r43.1.get 2 [])) (hs.row 5 rfl) (hs.row 9 rfl) Hr83) ?_
   rintro _ w ⟨rfl,hs2⟩
   have hs:St _ [_,_,_,_,_,_,_,_,_,_,_] _:=hs.call hs2
   cases r83 with
   |true=>
    rw [if_pos rfl] at H
    refine g_d rfl ?_
    obtain ⟨rest,rfl,hO14_⟩:=ord_one (m:=127) hO13_ rfl 7 (m':=255) (by decide+kernel) rfl
    clear hO13_
    refine Qab (v:=bool false) rfl rfl rfl (g_d rfl ?_)
    try dsimp only [set0,setS]
    obtain rfl:=ord_end hO14_ rfl (by decide+kernel)
    refine Qaa (Qax rfl (QaS ?_))
    have hs:=hs.pull 9 rfl
    have hs:=hs.pull 9 rfl
    have hs:=hs.pull 9 rfl
    have hs:=hs.pull 10 rfl
    have hs:=hs.pull 9 rfl
    have hs:=hs.pull 9 rfl
    have hs:=hs.pull 9 rfl
    have hs:=hs.pull 10 rfl
    have hs:=hs.pull 10 rfl
    have hs:=hs.pull 10 rfl
    have hs:=hs.pull 10 rfl
    have hs:St _ [_,_,_,_,_,_,_,_,_,_,_] _:=St.take (Γ':=[]) hs
    exact ha _ _ ⟨H,rfl,hs⟩
   |false=>
    rw [if_neg Bool.false_ne_true] at H
    refine g_d rfl ?_
    try dsimp only [set0,setS]
    obtain ⟨rest,rfl,hO15_⟩:=ord_one (m:=127) hO13_ rfl 7 (m':=255) (by decide+kernel) rfl
    clear hO13_
    refine Qab (v:=bool true) rfl rfl rfl (g_d rfl ?_)
    obtain rfl:=ord_end hO15_ rfl (by decide+kernel)
    refine Qaa (Qaw rfl (Qag (Qan [0] rfl ?_)))
    refine Qab (v:=bool false) rfl rfl rfl (g_d rfl ?_)
    try dsimp only [set0,setS]
    refine Qaa ?_
    obtain rfl:=QsJ H
    subst Hx1_
    have H:=QsJ Hr1_
    subst H
    refine QaK Try.func5 (v:=bool false) (res1 rfl rfl) ?_
    have hs:St _ [] _:=St.take (Γ':=[_,_,_,_,_,_,_,_,_,_,_]) hs
    exact ⟨_,rfl,rfl,hs⟩
  rw [if_neg hk11_] at H
  cases H
 intro hb
 rw [if_neg (b_dec_f hb)] at H
 refine g_d rfl ?_
 try dsimp only [set0,setS]
 refine Qaa (Qax rfl ?_)
 obtain rfl:=QsJ H
 subst Hx1_
 have hs:=hs.pull 2 rfl
 have hs:=hs.pull 2 rfl
 have hs:=hs.pull 2 rfl
 have hs:St _ [_,_,_] _:=St.take (Γ':=[_,_,_,_,_,_,_,_]) hs
 refine QbG rfl ?_
 exact ha1_ _ _ ⟨x78,x79,Hr1_,rfl,hs⟩
end Go.Proofs.YtgpdpedpmhonkaaX
