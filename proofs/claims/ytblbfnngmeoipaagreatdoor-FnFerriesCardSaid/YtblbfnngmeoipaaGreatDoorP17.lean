import Derived.Test.YtblbfnngmeoipaaGreatDoorP16
namespace Go.Proofs.YtblbfnngmeoipaaGreatDoorX
open Go Go.RowKit Go.Proofs
open Go.Value (int pointer bool agg slice string tuple)
set_option maxHeartbeats 8000000
set_option maxRecDepth 100000
set_option linter.unusedVariables false
set_option linter.unusedSimpArgs false
theorem QaD.calls {N:Nat} {a1:Qaf} {b2:Nat} {v3:Value} {w0:World} {r:Qbs} (hr4:RdRow (K.int .u16) w0 v3 a1.Qal) (hp0:w0.heap[b2]?=some (.cells ((([int .i8 a1.Qad,int .i8 a1.Qag,v3]:List Value)):List Value).toArray 27 (0,0))) (H:QaD.f N a1=some r):
 Calls Tryz.prog 37 #[pointer (some ⟨b2,0,none⟩)] w0 fun e w=>∃ v,e= .returned v∧QaD.post w0 r v w:=by
 unfold QaD.f at H
 have hs:St w0 [] w0:=St.refl w0
 refine calls_of_g (n:=169) Tryz.func37 rfl rfl ?_
 show G _ _ _ _ (_::_::_::_::_::_::_::_::_::_::_::_::_::_::_::_::_::_::_::_::_::_::_::_::_::_::_::_::_::_::_::_::_::_::_::_::_::_::_::_::_::_::_::_::_::_::_::_::_::_::_::_::_::_::_::_::_::_::_::_::_::_::_::_::_::_::_::_::_::_::_::_::_::_::_::_::_::_::_::_::_::_::_::_::_::_::_::_::_::_::_::_::_::_::_::_::_::_::_::_::_::_::_::_::_::_::_::_::_::_::_::_::_::_::_::_::_::_::_::_::_::_::_::_::_::_::_::_::_::_::_::_::_::_::_::_::_::_::_::_::_::_::_::_::_::_::_::_::_::_::_::_::_::_::_::_::_::_::_::_::_::_::_::_::_::_::_::_::_::_::[]) _
 refine Qaj (Qan [0] rfl ?_)
 refine Qab (v:=pointer none) rfl rfl rfl (g_d rfl ?_)
 try dsimp only [Qah,Qai]
 refine Qac (Qaj (Qan [0,1,2,3,4,5] rfl ?_))
 refine Qab (v:=pointer (some ⟨b2,0,none⟩)) rfl rfl rfl (g_d rfl ?_)
 obtain ⟨r6,Hr6,H⟩:=bind_get H
 refine Qaz (args:=[pointer (some ⟨b2,0,none⟩)]) rfl rfl (QaA rfl (callFunc_enter Tryz.func74 rfl rfl) rfl) (Qbp.calls (a1:=(⟨a1.Qad,a1.Qag,a1.Qal⟩:Qaf)) (hs.rd hr4) (hs.box hp0) Hr6) ?_
 rintro _ w ⟨rfl,hs2⟩
 have hs:St _ [] _:=hs.call hs2
 refine g_d rfl ?_
 refine Qab (v:=int .i64 (i64w r6)) rfl rfl rfl (g_d rfl ?_)
 refine Qab (v:=int .i64 (i64w ((i64w r6)+1))) rfl rfl rfl (g_d rfl ?_)
 try dsimp only [Qah,Qai]
 refine Qab (v:=int .i64 (i64w (2*(i64w ((i64w r6)+1))))) rfl rfl rfl (g_d rfl ?_)
 refine Qab (v:=int .i64 (i64w (2*(i64w ((i64w r6)+1))))) rfl rfl rfl (g_d rfl ?_)
 try dsimp only [Qah,Qai]
 refine Qac (Qaj ?_)
 obtain ⟨gq1_,H⟩:=ite_get H
 obtain ⟨gq3_,H⟩:=ite_get H
 obtain ⟨gq5_,H⟩:=ite_get H
 obtain ⟨gq7_,H⟩:=ite_get H
 refine QaV ?_
 intro T hT
 refine QbZ (n:=11) rfl [0,1,2,3,4,5,6,7,8,9,10] [0,1,2,3,4,5,6,7,8,9,10] rfl rfl (Inv:=fun D t w=>∃ v7:Value,∃ v9:Value,∃ v11:Value,∃ v13:Value,∃ b15:Nat,∃ O:Nat→Value,t=(pointer (some ⟨b2,0,none⟩)::O 1::pointer none::int .i64 (i64w (2*(i64w ((i64w r6)+1))))::cnd (D 10) (pointer (some ⟨b15,0,none⟩)) (O 4)::O 5::O 6::O 7::O 8::O 9::O 10::O 11::O 12::O 13::O 14::O 15::pointer (some ⟨b2,0,none⟩)::int .u16 r6::int .i64 (i64w r6)::int .i64 (i64w ((i64w r6)+1))::int .i64 (i64w (2*(i64w ((i64w r6)+1))))::cnd (D 0) (int .i64 (i64w (2*(i64w ((i64w r6)+1))))) (O 21)::cnd (D 1) v7 (O 22)::cnd (D 2) (int .i64 (i64w (2*(i64w ((i64w r6)+1))))) (O 23)::cnd (D 3) v9 (O 24)::cnd (D 4) (int .i64 (i64w (2*(i64w ((i64w r6)+1))))) (O 25)::cnd (D 5) v11 (O 26)::cnd (D 6) (int .i64 (i64w (2*(i64w ((i64w r6)+1))))) (O 27)::cnd (D 7) v13 (O 28)::cnd (D 8) (agg (([v7,v9,v11,v13]:List Value)).toArray) (O 29)::cnd (D 9) (pointer (some ⟨b15,0,none⟩)) (O 30)::O 31::O 32::O 33::O 34::O 35::O 36::O 37::O 38::O 39::oT O 4 (oT O 5 (oT O 6 (oT O 7 (oT O 8 (oT O 9 (oT O 10 (oT O 11 (oT O 12 (oT O 13 (oT O 14 (oT O 15 (oT O 16 ([]))))))))))))))∧St w0 [Asc (D 1) (Row 86 (K.int .i16) v7 (List.replicate ((i64w (2*(i64w ((i64w r6)+1))))).toNat (0:Int))),Asc (D 3) (Row 2 (K.int .i64) v9 (List.replicate ((i64w (2*(i64w ((i64w r6)+1))))).toNat (0:Int))),Asc (D 5) (Row 2 (K.int .i64) v11 (List.replicate ((i64w (2*(i64w ((i64w r6)+1))))).toNat (0:Int))),Asc (D 7) (Row 46 (K.int .u16) v13 (List.replicate ((i64w (2*(i64w ((i64w r6)+1))))).toNat (0:Int))),Asc (D 9) (Cells b15 (([v7,v9,v11,v13]:List Value)) 74)] w) ?_ ⟨⟨⟨⟨⟨⟨⟨⟨⟨⟨⟨trivial,?_⟩,?_⟩,?_⟩,?_⟩,?_⟩,?_⟩,?_⟩,?_⟩,?_⟩,?_⟩,?_⟩ ?_
 ·
  intro w hh hbw
  have hs:=hs.samew hh hbw
  have hs:=hs.emp
  have hs:=hs.emp
  have hs:=hs.emp
  have hs:=hs.emp
  have hs:=hs.emp
  exact ⟨undef,undef,undef,undef,0,fun i=>T.getD i undef,(by subst hT;rfl),hs⟩
 ·
  rintro D t w hD hp hcl ⟨v7,v9,v11,v13,b15,O,ht,hs⟩ rest hk
  have q1_:=nz hcl 1 0 hD
  have q8_:=nz hcl 8 0 q1_
  have q9_:=nz hcl 9 0 q8_
  have q10_:=nz hcl 10 0 q9_
  simp only [hD,q1_,q8_,q9_,q10_,cq,oT] at ht hs
  subst ht
  refine Qab (v:=int .i64 (i64w (2*(i64w ((i64w r6)+1))))) rfl rfl rfl (g_d rfl ?_)
  try dsimp only [Qah,Qai]
  refine hk _ _ ⟨v7,v9,v11,v13,b15,O,?_,hs.cast ?_⟩<;>simp only [oT,lq,cq,Nat.reduceBEq,q1_,q8_,q9_,q10_]
 ·
  rintro D t w hD hp hcl ⟨v7,v9,v11,v13,b15,O,ht,hs⟩ rest hk
  obtain ⟨p0_,_,_⟩:=hp
  have q8_:=nz hcl 8 0 hD
  have q9_:=nz hcl 9 0 q8_
  have q10_:=nz hcl 10 0 q9_
  simp only [hD,p0_,q8_,q9_,q10_,cq,oT] at ht hs
  subst ht
  refine QcK (κ:=(K.int .i16)) (z:=0) (zc:=((encI .i16) 0)) (zv:=(int .i16 0)) (B:=2) hs rfl rfl rfl rfl rfl gq1_.1 rfl rfl rfl rfl rfl (fun _=>⟨rfl,rfl⟩) rfl (by decide) (by have:=gq1_.2;omega) ?_
  intro v7 w hs
  refine g_d rfl ?_
  try dsimp only [Qah,Qai]
  have hs:=hs.fill 0 rfl
  refine hk _ _ ⟨v7,v9,v11,v13,b15,O,?_,hs.cast ?_⟩<;>simp only [oT,lq,cq,Nat.reduceBEq,p0_,q8_,q9_,q10_]
 ·
  rintro D t w hD hp hcl ⟨v7,v9,v11,v13,b15,O,ht,hs⟩ rest hk
  have q3_:=nz hcl 3 0 hD
  have q8_:=nz hcl 8 1 q3_
  have q9_:=nz hcl 9 0 q8_
  have q10_:=nz hcl 10 0 q9_
  simp only [hD,q3_,q8_,q9_,q10_,cq,oT] at ht hs
  subst ht
  refine Qab (v:=int .i64 (i64w (2*(i64w ((i64w r6)+1))))) rfl rfl rfl (g_d rfl ?_)
  try dsimp only [Qah,Qai]
  refine hk _ _ ⟨v7,v9,v11,v13,b15,O,?_,hs.cast ?_⟩<;>simp only [oT,lq,cq,Nat.reduceBEq,q3_,q8_,q9_,q10_]
 ·
  rintro D t w hD hp hcl ⟨v7,v9,v11,v13,b15,O,ht,hs⟩ rest hk
  obtain ⟨p2_,_,_⟩:=hp
  have q8_:=nz hcl 8 1 hD
  have q9_:=nz hcl 9 0 q8_
  have q10_:=nz hcl 10 0 q9_
  simp only [hD,p2_,q8_,q9_,q10_,cq,oT] at ht hs
  subst ht
  refine QcK (κ:=(K.int .i64)) (z:=0) (zc:=((encI .i64) 0)) (zv:=(int .i64 0)) (B:=8) hs rfl rfl rfl rfl rfl gq3_.1 rfl rfl rfl rfl rfl (fun _=>⟨rfl,rfl⟩) rfl (by decide) (by have:=gq3_.2;omega) ?_
  intro v9 w hs
  refine g_d rfl ?_
  try dsimp only [Qah,Qai]
  have hs:=hs.fill 1 rfl
  refine hk _ _ ⟨v7,v9,v11,v13,b15,O,?_,hs.cast ?_⟩<;>simp only [oT,lq,cq,Nat.reduceBEq,p2_,q8_,q9_,q10_]
 ·
  rintro D t w hD hp hcl ⟨v7,v9,v11,v13,b15,O,ht,hs⟩ rest hk
  have q5_:=nz hcl 5 0 hD
  have q8_:=nz hcl 8 2 q5_
  have q9_:=nz hcl 9 0 q8_
  have q10_:=nz hcl 10 0 q9_
  simp only [hD,q5_,q8_,q9_,q10_,cq,oT] at ht hs
  subst ht
  refine Qab (v:=int .i64 (i64w (2*(i64w ((i64w r6)+1))))) rfl rfl rfl (g_d rfl ?_)
  try dsimp only [Qah,Qai]
  refine hk _ _ ⟨v7,v9,v11,v13,b15,O,?_,hs.cast ?_⟩<;>simp only [oT,lq,cq,Nat.reduceBEq,q5_,q8_,q9_,q10_]
 ·
  rintro D t w hD hp hcl ⟨v7,v9,v11,v13,b15,O,ht,hs⟩ rest hk
  obtain ⟨p4_,_,_⟩:=hp
  have q8_:=nz hcl 8 2 hD
  have q9_:=nz hcl 9 0 q8_
  have q10_:=nz hcl 10 0 q9_
  simp only [hD,p4_,q8_,q9_,q10_,cq,oT] at ht hs
  subst ht
  refine QcK (κ:=(K.int .i64)) (z:=0) (zc:=((encI .i64) 0)) (zv:=(int .i64 0)) (B:=8) hs rfl rfl rfl rfl rfl gq5_.1 rfl rfl rfl rfl rfl (fun _=>⟨rfl,rfl⟩) rfl (by decide) (by have:=gq5_.2;omega) ?_
  intro v11 w hs
  refine g_d rfl ?_
  try dsimp only [Qah,Qai]
  have hs:=hs.fill 2 rfl
  refine hk _ _ ⟨v7,v9,v11,v13,b15,O,?_,hs.cast ?_⟩<;>simp only [oT,lq,cq,Nat.reduceBEq,p4_,q8_,q9_,q10_]
 ·
  rintro D t w hD hp hcl ⟨v7,v9,v11,v13,b15,O,ht,hs⟩ rest hk
  have q7_:=nz hcl 7 0 hD
  have q8_:=nz hcl 8 3 q7_
  have q9_:=nz hcl 9 0 q8_
  have q10_:=nz hcl 10 0 q9_
  simp only [hD,q7_,q8_,q9_,q10_,cq,oT] at ht hs
  subst ht
  refine Qab (v:=int .i64 (i64w (2*(i64w ((i64w r6)+1))))) rfl rfl rfl (g_d rfl ?_)
  try dsimp only [Qah,Qai]
  refine hk _ _ ⟨v7,v9,v11,v13,b15,O,?_,hs.cast ?_⟩<;>simp only [oT,lq,cq,Nat.reduceBEq,q7_,q8_,q9_,q10_]
 ·
  rintro D t w hD hp hcl ⟨v7,v9,v11,v13,b15,O,ht,hs⟩ rest hk
  obtain ⟨p6_,_,_⟩:=hp
  have q8_:=nz hcl 8 3 hD
  have q9_:=nz hcl 9 0 q8_
  have q10_:=nz hcl 10 0 q9_
  simp only [hD,p6_,q8_,q9_,q10_,cq,oT] at ht hs
  subst ht
  refine QcK (κ:=(K.int .u16)) (z:=0) (zc:=((encI .u16) 0)) (zv:=(int .u16 0)) (B:=2) hs rfl rfl rfl rfl rfl gq7_.1 rfl rfl rfl rfl rfl (fun _=>⟨rfl,rfl⟩) rfl (by decide) (by have:=gq7_.2;omega) ?_
  intro v13 w hs
  refine g_d rfl ?_
  try dsimp only [Qah,Qai]
  have hs:=hs.fill 3 rfl
  refine hk _ _ ⟨v7,v9,v11,v13,b15,O,?_,hs.cast ?_⟩<;>simp only [oT,lq,cq,Nat.reduceBEq,p6_,q8_,q9_,q10_]
 ·
  rintro D t w hD hp hcl ⟨v7,v9,v11,v13,b15,O,ht,hs⟩ rest hk
  obtain ⟨p1_,p3_,p5_,p7_,_⟩:=hp
  obtain ⟨p6_,_,_⟩:=(hcl.get 7 (by decide)) p7_
  obtain ⟨p4_,_,_⟩:=(hcl.get 5 (by decide)) p5_
  obtain ⟨p2_,_,_⟩:=(hcl.get 3 (by decide)) p3_
  obtain ⟨p0_,_,_⟩:=(hcl.get 1 (by decide)) p1_
  have q9_:=nz hcl 9 0 hD
  have q10_:=nz hcl 10 0 q9_
  simp only [hD,p0_,p1_,p2_,p3_,p4_,p5_,p6_,p7_,q9_,q10_,cq,oT] at ht hs
  subst ht
  refine Qab (v:=agg (([v7,v9,v11,v13]:List Value)).toArray) rfl rfl (Qbt (cs:=(([v7,v9,v11,v13]:List Value))) (segs:=[[slice none 0 0],[slice none 0 0],[slice none 0 0],[slice none 0 0]]) rfl rfl (fun _=>rfl) ⟨rfl,(fun _=>rfl),rfl,(fun _=>rfl),rfl,(fun _=>rfl),rfl,(fun _=>rfl),trivial⟩ (by simp only [List.map_cons,List.map_nil,List.forall_mem_cons,List.not_mem_nil,false_implies,implies_true,and_true];exact ⟨⟨_,rfl,slSize (hs.row 0 rfl)⟩,⟨_,rfl,slSize (hs.row 1 rfl)⟩,⟨_,rfl,slSize (hs.row 2 rfl)⟩,⟨_,rfl,slSize (hs.row 3 rfl)⟩⟩) (by first|rfl|(simp [ev,encA,slCells (hs.row 0 rfl),slCells (hs.row 1 rfl),slCells (hs.row 2 rfl),slCells (hs.row 3 rfl)];done)|(simp [ev,encA,slCells (hs.row 0 rfl),slCells (hs.row 1 rfl),slCells (hs.row 2 rfl),slCells (hs.row 3 rfl)];rfl))) ?_
  refine g_d rfl ?_
  try dsimp only [Qah,Qai]
  refine hk _ _ ⟨v7,v9,v11,v13,b15,O,?_,hs.cast ?_⟩<;>simp only [oT,lq,cq,Nat.reduceBEq,p0_,p1_,p2_,p3_,p4_,p5_,p6_,p7_,q9_,q10_]
 ·
  rintro D t w hD hp hcl ⟨v7,v9,v11,v13,b15,O,ht,hs⟩ rest hk
  obtain ⟨p8_,_⟩:=hp
  obtain ⟨p1_,p3_,p5_,p7_,_⟩:=(hcl.get 8 (by decide)) p8_
  obtain ⟨p6_,_,_⟩:=(hcl.get 7 (by decide)) p7_
  obtain ⟨p4_,_,_⟩:=(hcl.get 5 (by decide)) p5_
  obtain ⟨p2_,_,_⟩:=(hcl.get 3 (by decide)) p3_
  obtain ⟨p0_,_,_⟩:=(hcl.get 1 (by decide)) p1_
  have q10_:=nz hcl 10 0 hD
  simp only [hD,p0_,p1_,p2_,p3_,p4_,p5_,p6_,p7_,p8_,q10_,cq,oT] at ht hs
  subst ht
  refine Qbw hs rfl rfl (cs:=(([v7,v9,v11,v13]:List Value))) rfl rfl ?_
  intro b15 w hs
  refine g_d rfl ?_
  try dsimp only [Qah,Qai]
  have hs:=hs.fill 4 rfl
  refine hk _ _ ⟨v7,v9,v11,v13,b15,O,?_,hs.cast ?_⟩<;>simp only [oT,lq,cq,Nat.reduceBEq,p0_,p1_,p2_,p3_,p4_,p5_,p6_,p7_,p8_,q10_]
 ·
  rintro D t w hD hp hcl ⟨v7,v9,v11,v13,b15,O,ht,hs⟩ rest hk
  obtain ⟨p9_,p0_,p1_,p2_,p3_,p4_,p5_,p6_,p7_,p8_,_,_⟩:=hp
  simp only [hD,p0_,p1_,p2_,p3_,p4_,p5_,p6_,p7_,p8_,p9_,cq,oT] at ht hs
  subst ht
  refine Qab (v:=pointer (some ⟨b15,0,none⟩)) rfl rfl rfl (g_d rfl ?_)
  try dsimp only [Qah,Qai]
  refine hk _ _ ⟨v7,v9,v11,v13,b15,O,?_,hs.cast ?_⟩<;>simp only [oT,lq,cq,Nat.reduceBEq,p0_,p1_,p2_,p3_,p4_,p5_,p6_,p7_,p8_,p9_]
 intro D t w hall hI
 obtain ⟨v7,v9,v11,v13,b15,O,ht,hs⟩:=hI
 have p0_:=hall 0 (by decide)
 have p1_:=hall 1 (by decide)
 have p2_:=hall 2 (by decide)
 have p3_:=hall 3 (by decide)
 have p4_:=hall 4 (by decide)
 have p5_:=hall 5 (by decide)
 have p6_:=hall 6 (by decide)
 have p7_:=hall 7 (by decide)
 have p8_:=hall 8 (by decide)
 have p9_:=hall 9 (by decide)
 have p10_:=hall 10 (by decide)
 simp only [p0_,p1_,p2_,p3_,p4_,p5_,p6_,p7_,p8_,p9_,p10_,cq,oT] at ht hs
 subst ht
 refine Qaj (Qaj (Qan [0] rfl ?_))
 refine Qab (v:=int .i64 0) rfl rfl rfl (g_d rfl (Qac ?_))
 obtain ⟨o1_,Ho,Hr1_⟩:=bind_get H
 refine QaR (J:=fun t w=>∃ x27:(List Int),QaD.a0 N a1 r6 x27=some r∧Fr t (fun O=>(pointer (some ⟨b2,0,none⟩)::O 1::O 2::O 3::pointer (some ⟨b15,0,none⟩)::O 5::O 6::O 7::O 8::O 9::oT O 1 (oT O 2 (oT O 3 (oT O 4 (oT O 5 (oT O 6 (oT O 7 (oT O 8 (oT O 9 (oT O 10 (oT O 11 (oT O 12 (oT O 13 (oT O 14 (oT O 15 (oT O 16 ([])))))))))))))))):List Value))∧St w0 [Cells b15 (([v7,v9,v11,v13]:List Value)) 74,Row 86 (K.int .i16) v7 x27,Row 2 (K.int .i64) v9 (List.replicate ((i64w (2*(i64w ((i64w r6)+1))))).toNat (0:Int)),Row 2 (K.int .i64) v11 (List.replicate ((i64w (2*(i64w ((i64w r6)+1))))).toNat (0:Int)),Row 46 (K.int .u16) v13 (List.replicate ((i64w (2*(i64w ((i64w r6)+1))))).toNat (0:Int))] w) ?_ ?_
 ·exact QaD.seg1 hr4 hp0
 intro ha1_
 have hs:=hs.pull 4 rfl
 have hs:=hs.pull 4 rfl
 have hs:=hs.pull 4 rfl
 have hs:=hs.pull 4 rfl
 have hs:=hs.pull 4 rfl
 have hs:St _ [_,_,_,_,_] _:=St.take (Γ':=[]) hs
 refine Qba (I:=fun n_ t w=>∃ x24:(List Int),∃ x25:Int,rounds (fun s=>QaD.b0 N r6 s.1 s.2) n_ (x24,x25)=some o1_∧Fr t (fun O=>(pointer (some ⟨b2,0,none⟩)::O 1::O 2::int .i64 (i64w (2*(i64w ((i64w r6)+1))))::pointer (some ⟨b15,0,none⟩)::int .i64 x25::O 6::O 7::O 8::O 9::oT O 1 (oT O 2 (oT O 3 (oT O 4 (oT O 5 (oT O 6 (oT O 7 (oT O 8 (oT O 9 (oT O 10 (oT O 11 (oT O 12 (oT O 13 (oT O 14 (oT O 15 (oT O 16 ([])))))))))))))))):List Value))∧St w0 [Row 86 (K.int .i16) v7 x24,Row 2 (K.int .i64) v9 (List.replicate ((i64w (2*(i64w ((i64w r6)+1))))).toNat (0:Int)),Row 2 (K.int .i64) v11 (List.replicate ((i64w (2*(i64w ((i64w r6)+1))))).toNat (0:Int)),Row 46 (K.int .u16) v13 (List.replicate ((i64w (2*(i64w ((i64w r6)+1))))).toNat (0:Int)),Cells b15 (([v7,v9,v11,v13]:List Value)) 74] w) N ⟨List.replicate ((i64w (2*(i64w ((i64w r6)+1))))).toNat (0:Int),0,Ho,rfl,hs⟩ ?_ ?_
 ·
  rintro _ _ ⟨x24,x25,h,_⟩
  exact rounds_zero h
 intro n_ ih1_
 rintro t w ⟨x24,x25,Ho,hf,hs⟩
 obtain ⟨O,rfl⟩:=hf.open
 try dsimp only [oT]
 obtain ⟨x106_,H,Hx1_⟩:=rounds_succ Ho
 have H:QaD.b0 N r6 x24 x25=some x106_:=H
 unfold QaD.b0 at H
 refine Qaj (Qaj (Qan [0,1,2] rfl ?_))
 refine Qab (v:=int .i64 x25) rfl rfl rfl (g_d rfl ?_)
 refine Qab (v:=int .i64 (i64w (2*(i64w ((i64w r6)+1))))) rfl rfl rfl (g_d rfl ?_)
 refine QaI (B:=decide (x25< (i64w (2*(i64w ((i64w r6)+1)))))) rfl rfl rfl ?_ ?_
 ·
  intro hb
  rw [if_pos (b_dec_t hb)] at H
  refine g_d rfl (Qac (Qaq rfl (QaK (Qaj ?_))))
  refine QbG (Qan [0,1,2,3,4,5,6] rfl ?_)
  refine Qab (v:=pointer (some ⟨b15,0,none⟩)) rfl rfl rfl (g_d rfl ?_)
  refine Qab (v:=pointer (some ⟨b15,0,none⟩)) rfl rfl rfl (g_d rfl ?_)
  refine Qab (v:=pointer (some ⟨b15,0,none⟩)) rfl rfl rfl (g_d rfl ?_)
  refine Qaw rfl rfl (v:=v7) rfl rfl (fun _=>rfl) (cells_load (hs.cells 4 rfl) 0 1 rfl) (g_d rfl ?_)
  try dsimp only [Qah,Qai]
  refine Qab (v:=int .i64 x25) rfl rfl rfl (g_d rfl ?_)
  obtain ⟨g2,H⟩:=ite_get H
  refine QbQ (fkI .i16) 0 (hs.row 0 rfl) rfl (fun _=>rfl) g2.1 g2.2 rfl rfl rfl rfl rfl ?_
  intro p26 hp26 lp26 op26
  refine g_d rfl ?_
  refine Qct (y:=(-1)) (fkI .i16) g2.1 g2.2 op26 hs rfl rfl rfl rfl rfl (fun _=>rfl) ?_
  intro w hs
  refine g_n rfl (Qac ?_)
  refine Qa0 (Qan [0,1,2] rfl ?_)
  refine Qab (v:=int .i64 x25) rfl rfl rfl (g_d rfl ?_)
  refine Qab (v:=int .i64 (i64w (x25+1))) rfl rfl rfl (g_d rfl ?_)
  try dsimp only [Qah,Qai]
  refine Qab (v:=int .i64 (i64w (x25+1))) rfl rfl rfl (g_d rfl (Qac ?_))
  obtain rfl:=QsJ H
  have hs:=hs.pull 4 rfl
  have hs:=hs.pull 4 rfl
  have hs:=hs.pull 4 rfl
  have hs:=hs.pull 4 rfl
  have hs:=hs.pull 4 rfl
  have hs:St _ [_,_,_,_,_] _:=St.take (Γ':=[]) hs
  exact ih1_ _ _ ⟨stL x24 x25 (-1),i64w (x25+1),Hx1_,rfl,hs⟩
 intro hb
 rw [if_neg (b_dec_f hb)] at H
 refine g_d rfl ?_
 try dsimp only [Qah,Qai]
 refine Qac (Qas rfl ?_)
 obtain rfl:=QsJ H
 subst Hx1_
 have hs:=hs.pull 3 rfl
 have hs:=hs.pull 3 rfl
 have hs:=hs.pull 3 rfl
 have hs:=hs.pull 3 rfl
 have hs:=hs.pull 4 rfl
 have hs:St _ [_,_,_,_,_] _:=St.take (Γ':=[]) hs
 refine QbE rfl ?_
 exact ha1_ _ _ ⟨x24,Hr1_,rfl,hs⟩
def QbN.post (w0:World) (r:((List Int)×Int)) (v:Value) (w:World):Prop:=∃ u1:Value,v=tuple #[u1,int .i64 r.2]∧St w0 [Row 86 (K.int .i16) u1 r.1] w
theorem QbN.calls {N:Nat} {a1:Qaf} {v2:Value} {w0:World} {r:((List Int)×Int)} (hr3:RdRow (K.int .u16) w0 v2 a1.Qal) (H:QbN.f N a1=some r):
 Calls Tryz.prog 9 #[agg (([int .i8 a1.Qad,int .i8 a1.Qag,v2]:List Value)).toArray] w0 fun e w=>∃ v,e= .returned v∧QbN.post w0 r v w:=by
 unfold QbN.f at H
 have hs:St w0 [] w0:=St.refl w0
 refine calls_of_g (n:=10) Tryz.func9 rfl rfl ?_
 show G _ _ _ _ [_,_,_,_,_,_,_,_,_,_,_] _
 refine Qaj (Qan [0,1,2] rfl ?_)
 refine Qbw hs rfl rfl (cs:=(([int .i8 a1.Qad,int .i8 a1.Qag,v2]:List Value))) rfl rfl ?_
 intro b4 w hs
 refine Qab (v:=slice none 0 0) rfl rfl rfl ?_
 refine Qab (v:=int .i64 0) rfl rfl rfl ?_
 show G _ _ _ _ [_,_,_,_,_,_,_,_,_,_,_] _
 refine Qac (Qaj (Qaj (Qan [0,1] rfl ?_)))
 obtain ⟨r6,Hr6,H⟩:=bind_get H
 refine Qaz (args:=[pointer (some ⟨b4,0,none⟩)]) rfl rfl (QaA rfl (callFunc_enter Tryz.func36 rfl rfl) rfl) (Qbr.calls (a1:=(⟨a1.Qad,a1.Qag,a1.Qal⟩:Qaf)) (hs.rd hr3) (hs.cells 0 rfl) Hr6) ?_
 rintro _ w ⟨rfl,hs2⟩
 have hs:St _ [_] _:=hs.call hs2
 cases r6 with
 |true=>
  rw [if_pos rfl] at H
  show G _ _ _ _ [_,_,_,_,_,_,_,_,_,_,_] _
  refine Qab (v:=bool false) rfl rfl rfl (Qac (Qas rfl (QaK (Qaj (Qan [0,1,2,3,4,5] rfl ?_)))))
  obtain ⟨r7,Hr7,H⟩:=bind_get H
  refine Qaz (args:=[pointer (some ⟨b4,0,none⟩)]) rfl rfl (QaA rfl (callFunc_enter Tryz.func37 rfl rfl) rfl) (QaD.calls (a1:=(⟨a1.Qad,a1.Qag,a1.Qal⟩:Qaf)) (hs.rd hr3) (hs.cells 0 rfl) Hr7) ?_
  rintro _ w ⟨b8,v9,v10,v11,v12,rfl,hs2⟩
  have hs:St _ [_,_,_,_,_,_] _:=hs.call hs2
  refine Qab (v:=pointer (some ⟨b8,0,none⟩)) rfl rfl rfl ?_
  show G _ _ _ _ [_,_,_,_,_,_,_,_,_,_,_] _
  refine Qab (v:=pointer (some ⟨b8,0,none⟩)) rfl rfl rfl ?_
  refine Qaw rfl rfl (v:=v9) rfl rfl (fun _=>rfl) (cells_load (hs.cells 0 rfl) 0 1 rfl) ?_
  refine Qab (v:=v9) rfl rfl rfl ?_
  show G _ _ _ _ [_,_,_,_,_,_,_,_,_,_,_] _
  refine Qab (v:=int .i64 0) rfl rfl rfl (Qac ?_)
  obtain rfl:=QsJ H
  refine QaB Tryz.func9 (v:=tuple #[v9,int .i64 0]) (resN (l:=Tryz.f9.results.toList) (vs:=[v9,int .i64 0]) rfl ⟨rfl,rfl,trivial⟩ (by simp)) ?_
  have hs:=hs.pull 1 rfl
  have hs:St _ [_] _:=St.take (Γ':=[_,_,_,_,_]) hs
  exact ⟨_,rfl,v9,rfl,hs⟩
 |false=>
  rw [if_neg Bool.false_ne_true] at H
  refine Qab (v:=bool true) rfl rfl rfl (Qac (Qaq rfl (Qaj (Qan [0,1,2] rfl ?_))))
  refine QcC (κ:=(K.int .i16)) hs rfl rfl rfl rfl (fun _=>rfl) ?_
  intro v18 w hs
  show G _ _ _ _ [_,_,_,_,_,_,_,_,_,_,_] _
  refine Qab (v:=v18) rfl rfl rfl ?_
  refine Qab (v:=int .i64 1) rfl rfl rfl (Qac ?_)
  obtain rfl:=QsJ H
  refine QaB Tryz.func9 (v:=tuple #[v18,int .i64 1]) (resN (l:=Tryz.f9.results.toList) (vs:=[v18,int .i64 1]) rfl ⟨rfl,rfl,trivial⟩ (by simp)) ?_
  have hs:=hs.pull 0 rfl
  have hs:St _ [_] _:=St.take (Γ':=[_]) hs
  exact ⟨_,rfl,v18,rfl,hs⟩
def QbS.post (w0:World) (r:Qak) (v:Value) (w:World):Prop:=v=agg (Qaa r).toArray∧St w0 [] w
theorem QbS.calls {N:Nat} {a1:Qaf} {a4:Int} {v2:Value} {w0:World} {r:Qak} (hr3:RdRow (K.int .u16) w0 v2 a1.Qal) (H:QbS.f N a1 a4=some r):
 Calls Tryz.prog 78 #[agg (([int .i8 a1.Qad,int .i8 a1.Qag,v2]:List Value)).toArray,int .i64 a4] w0 fun e w=>∃ v,e= .returned v∧QbS.post w0 r v w:=by
 unfold QbS.f at H
 have hs:St w0 [] w0:=St.refl w0
 refine calls_of_g (n:=14) Tryz.func78 rfl rfl ?_
 show G _ _ _ _ [_,_,_,_,_,_,_,_,_,_,_,_,_,_,_,_] _
 refine Qaj (Qan [0,1] rfl ?_)
 refine Qbw hs rfl rfl (cs:=(([int .i8 a1.Qad,int .i8 a1.Qag,v2]:List Value))) rfl rfl ?_
 intro b5 w hs
 refine QbI hs rfl rfl (z:=(agg #[int .u16 0,bool false])) (cs:=(Qaa Qa9)) rfl (fun _=>rfl) rfl ?_
 intro b7 w hs
 show G _ _ _ _ [_,_,_,_,_,_,_,_,_,_,_,_,_,_,_,_] _
 refine Qac (Qaj ?_)
 obtain ⟨r9,Hr9,H⟩:=bind_get H
 obtain ⟨gd1,H⟩:=ite_get H
 refine QaV ?_
 intro T hT
 refine QbZ (n:=12) rfl [0,1,2,3,4,5,6,7,8,9,10,11] [0,1,2,3,4,5,6,7,8,9,10,11] rfl rfl (Inv:=fun D t w=>∃ O:Nat→Value,t=[agg (([int .i8 a1.Qad,int .i8 a1.Qag,v2]:List Value)).toArray,int .i64 a4,pointer (some ⟨b5,0,none⟩),O 3,pointer (some ⟨b7,0,none⟩),cnd (D 0) (int .i64 a4) (O 5),cnd (D 1) (int .u16 (u16w a4)) (O 6),cnd (D 2) (agg (([int .i8 a1.Qad,int .i8 a1.Qag,v2]:List Value)).toArray) (O 7),cnd (D 3) (int .u16 r9) (O 8),cnd (D 4) (int .u16 (bAnd .u16 (u16w a4) r9)) (O 9),cnd (D 5) (int .i64 a4) (O 10),cnd (D 6) (pointer (some ⟨b5,0,none⟩)) (O 11),cnd (D 7) (int .i8 a1.Qad) (O 12),cnd (D 8) (int .i64 (shrI .i64 a4 a1.Qad)) (O 13),cnd (D 9) (bool ((shrI .i64 a4 a1.Qad)==1)) (O 14),cnd (D 10) (agg (Qaa (⟨bAnd .u16 (u16w a4) r9,(shrI .i64 a4 a1.Qad)==1⟩:Qak)).toArray) (O 15)]∧St w0 [Cells b7 (cnd (D 11) (Qaa (⟨bAnd .u16 (u16w a4) r9,(shrI .i64 a4 a1.Qad)==1⟩:Qak)) (Qaa Qa9)) 48,Cells b5 (([int .i8 a1.Qad,int .i8 a1.Qag,v2]:List Value)) 27] w) ?_ ⟨⟨⟨⟨⟨⟨⟨⟨⟨⟨⟨⟨trivial,?_⟩,?_⟩,?_⟩,?_⟩,?_⟩,?_⟩,?_⟩,?_⟩,?_⟩,?_⟩,?_⟩,?_⟩ ?_
 ·
  intro w hh hbw
  have hs:=hs.samew hh hbw
  exact ⟨fun i=>T.getD i undef,(by subst hT;rfl),hs⟩
 ·
  rintro D t w hD hp hcl ⟨O,ht,hs⟩ rest hk
  have q1_:=nz hcl 1 0 hD
  have q4_:=nz hcl 4 0 q1_
  have q10_:=nz hcl 10 0 q4_
  have q11_:=nz hcl 11 0 q10_
  simp only [hD,q1_,q4_,q10_,q11_,cq,oT] at ht hs
  subst ht
  refine Qab (v:=int .i64 a4) rfl rfl rfl ?_
  show G _ _ _ _ [_,_,_,_,_,_,_,_,_,_,_,_,_,_,_,_] _
  refine hk _ _ ⟨O,?_,hs.cast ?_⟩<;>simp only [oT,lq,cq,Nat.reduceBEq,q1_,q4_,q10_,q11_]
 ·
  rintro D t w hD hp hcl ⟨O,ht,hs⟩ rest hk
  obtain ⟨p0_,_⟩:=hp
  have q4_:=nz hcl 4 0 hD
  have q10_:=nz hcl 10 0 q4_
  have q11_:=nz hcl 11 0 q10_
  simp only [hD,p0_,q4_,q10_,q11_,cq,oT] at ht hs
  subst ht
  refine Qab (v:=int .u16 (u16w a4)) rfl rfl rfl ?_
  show G _ _ _ _ [_,_,_,_,_,_,_,_,_,_,_,_,_,_,_,_] _
  refine hk _ _ ⟨O,?_,hs.cast ?_⟩<;>simp only [oT,lq,cq,Nat.reduceBEq,p0_,q4_,q10_,q11_]
 ·
  rintro D t w hD hp hcl ⟨O,ht,hs⟩ rest hk
  have q3_:=nz hcl 3 0 hD
  have q4_:=nz hcl 4 1 q3_
  have q10_:=nz hcl 10 0 q4_
  have q11_:=nz hcl 11 0 q10_
  simp only [hD,q3_,q4_,q10_,q11_,cq,oT] at ht hs
  subst ht
  refine QaF rfl rfl (es:=(([int .i8 a1.Qad,int .i8 a1.Qag,v2]:List Value))) rfl rfl (fun _=>rfl) (n:=3) (fun _=>rfl) rfl (cells_all (hs.cells 1 rfl)) ?_
  show G _ _ _ _ [_,_,_,_,_,_,_,_,_,_,_,_,_,_,_,_] _
  refine hk _ _ ⟨O,?_,hs.cast ?_⟩<;>simp only [oT,lq,cq,Nat.reduceBEq,q3_,q4_,q10_,q11_]
 ·
  rintro D t w hD hp hcl ⟨O,ht,hs⟩ rest hk
  obtain ⟨p2_,_⟩:=hp
  have q4_:=nz hcl 4 1 hD
  have q10_:=nz hcl 10 0 q4_
  have q11_:=nz hcl 11 0 q10_
  simp only [hD,p2_,q4_,q10_,q11_,cq,oT] at ht hs
  subst ht
  refine Qaz (args:=[agg (([int .i8 a1.Qad,int .i8 a1.Qag,v2]:List Value)).toArray]) rfl rfl (QaA rfl (callFunc_enter Tryz.func44 rfl rfl) rfl) (QaZ.calls (a1:=(⟨a1.Qad,a1.Qag,a1.Qal⟩:Qaf)) (hs.rd hr3) Hr9) ?_
  rintro _ w ⟨rfl,hs2⟩
  have hs:St _ [_,_] _:=hs.call hs2
  show G _ _ _ _ [_,_,_,_,_,_,_,_,_,_,_,_,_,_,_,_] _
  refine hk _ _ ⟨O,?_,hs.cast ?_⟩<;>simp only [oT,lq,cq,Nat.reduceBEq,p2_,q4_,q10_,q11_]
 ·
  rintro D t w hD hp hcl ⟨O,ht,hs⟩ rest hk
  obtain ⟨p1_,p3_,_⟩:=hp
  obtain ⟨p2_,_⟩:=(hcl.get 3 (by decide)) p3_
  obtain ⟨p0_,_⟩:=(hcl.get 1 (by decide)) p1_
  have q10_:=nz hcl 10 0 hD
  have q11_:=nz hcl 11 0 q10_
  simp only [hD,p0_,p1_,p2_,p3_,q10_,q11_,cq,oT] at ht hs
  subst ht
  refine Qab (v:=int .u16 (bAnd .u16 (u16w a4) r9)) rfl rfl rfl ?_
  show G _ _ _ _ [_,_,_,_,_,_,_,_,_,_,_,_,_,_,_,_] _
  refine hk _ _ ⟨O,?_,hs.cast ?_⟩<;>simp only [oT,lq,cq,Nat.reduceBEq,p0_,p1_,p2_,p3_,q10_,q11_]
 ·
  rintro D t w hD hp hcl ⟨O,ht,hs⟩ rest hk
  have q8_:=nz hcl 8 0 hD
  have q9_:=nz hcl 9 0 q8_
  have q10_:=nz hcl 10 1 q9_
  have q11_:=nz hcl 11 0 q10_
  simp only [hD,q8_,q9_,q10_,q11_,cq,oT] at ht hs
  subst ht
  refine Qab (v:=int .i64 a4) rfl rfl rfl ?_
  show G _ _ _ _ [_,_,_,_,_,_,_,_,_,_,_,_,_,_,_,_] _
  refine hk _ _ ⟨O,?_,hs.cast ?_⟩<;>simp only [oT,lq,cq,Nat.reduceBEq,q8_,q9_,q10_,q11_]
 ·
  rintro D t w hD hp hcl ⟨O,ht,hs⟩ rest hk
  have q7_:=nz hcl 7 0 hD
  have q8_:=nz hcl 8 1 q7_
  have q9_:=nz hcl 9 0 q8_
  have q10_:=nz hcl 10 1 q9_
  have q11_:=nz hcl 11 0 q10_
  simp only [hD,q7_,q8_,q9_,q10_,q11_,cq,oT] at ht hs
  subst ht
  refine Qab (v:=pointer (some ⟨b5,0,none⟩)) rfl rfl rfl ?_
  show G _ _ _ _ [_,_,_,_,_,_,_,_,_,_,_,_,_,_,_,_] _
  refine hk _ _ ⟨O,?_,hs.cast ?_⟩<;>simp only [oT,lq,cq,Nat.reduceBEq,q7_,q8_,q9_,q10_,q11_]
 ·
  rintro D t w hD hp hcl ⟨O,ht,hs⟩ rest hk
  obtain ⟨p6_,_⟩:=hp
  have q8_:=nz hcl 8 1 hD
  have q9_:=nz hcl 9 0 q8_
  have q10_:=nz hcl 10 1 q9_
  have q11_:=nz hcl 11 0 q10_
  simp only [hD,p6_,q8_,q9_,q10_,q11_,cq,oT] at ht hs
  subst ht
  refine Qaw rfl rfl (v:=int .i8 a1.Qad) rfl rfl (fun _=>rfl) (cells_load (hs.cells 1 rfl) 0 1 rfl) ?_
  show G _ _ _ _ [_,_,_,_,_,_,_,_,_,_,_,_,_,_,_,_] _
  refine hk _ _ ⟨O,?_,hs.cast ?_⟩<;>simp only [oT,lq,cq,Nat.reduceBEq,p6_,q8_,q9_,q10_,q11_]
 ·
  rintro D t w hD hp hcl ⟨O,ht,hs⟩ rest hk
  obtain ⟨p5_,p7_,_⟩:=hp
  obtain ⟨p6_,_⟩:=(hcl.get 7 (by decide)) p7_
  have q9_:=nz hcl 9 0 hD
  have q10_:=nz hcl 10 1 q9_
  have q11_:=nz hcl 11 0 q10_
  simp only [hD,p5_,p6_,p7_,q9_,q10_,q11_,cq,oT] at ht hs
  subst ht
  refine Qab (v:=int .i64 (shrI .i64 a4 a1.Qad)) rfl rfl (Qda rfl rfl rfl gd1) ?_
  show G _ _ _ _ [_,_,_,_,_,_,_,_,_,_,_,_,_,_,_,_] _
  refine hk _ _ ⟨O,?_,hs.cast ?_⟩<;>simp only [oT,lq,cq,Nat.reduceBEq,p5_,p6_,p7_,q9_,q10_,q11_]
 ·
  rintro D t w hD hp hcl ⟨O,ht,hs⟩ rest hk
  obtain ⟨p8_,_⟩:=hp
  obtain ⟨p5_,p7_,_⟩:=(hcl.get 8 (by decide)) p8_
  obtain ⟨p6_,_⟩:=(hcl.get 7 (by decide)) p7_
  have q10_:=nz hcl 10 1 hD
  have q11_:=nz hcl 11 0 q10_
  simp only [hD,p5_,p6_,p7_,p8_,q10_,q11_,cq,oT] at ht hs
  subst ht
  refine Qab (v:=bool ((shrI .i64 a4 a1.Qad)==1)) rfl rfl rfl ?_
  show G _ _ _ _ [_,_,_,_,_,_,_,_,_,_,_,_,_,_,_,_] _
  refine hk _ _ ⟨O,?_,hs.cast ?_⟩<;>simp only [oT,lq,cq,Nat.reduceBEq,p5_,p6_,p7_,p8_,q10_,q11_]
 ·
  rintro D t w hD hp hcl ⟨O,ht,hs⟩ rest hk
  obtain ⟨p4_,p9_,_⟩:=hp
  obtain ⟨p8_,_⟩:=(hcl.get 9 (by decide)) p9_
  obtain ⟨p5_,p7_,_⟩:=(hcl.get 8 (by decide)) p8_
  obtain ⟨p6_,_⟩:=(hcl.get 7 (by decide)) p7_
  obtain ⟨p1_,p3_,_⟩:=(hcl.get 4 (by decide)) p4_
  obtain ⟨p2_,_⟩:=(hcl.get 3 (by decide)) p3_
  obtain ⟨p0_,_⟩:=(hcl.get 1 (by decide)) p1_
  have q11_:=nz hcl 11 0 hD
  simp only [hD,p0_,p1_,p2_,p3_,p4_,p5_,p6_,p7_,p8_,p9_,q11_,cq,oT] at ht hs
  subst ht
  refine Qab (v:=agg (Qaa (⟨bAnd .u16 (u16w a4) r9,(shrI .i64 a4 a1.Qad)==1⟩:Qak)).toArray) rfl rfl (Qbt (cs:=(Qaa (⟨bAnd .u16 (u16w a4) r9,(shrI .i64 a4 a1.Qad)==1⟩:Qak))) (segs:=[[int .u16 0],[bool false]]) rfl rfl (fun _=>rfl) ⟨rfl,(fun _=>rfl),rfl,(fun _=>rfl),trivial⟩ (by simp only [List.map_cons,List.map_nil,List.forall_mem_cons,List.not_mem_nil,false_implies,implies_true,and_true];exact ⟨⟨_,rfl,rfl⟩,⟨_,rfl,rfl⟩⟩) (by first|rfl|(simp [ev,Qaa];done)|(simp [ev,Qaa];rfl))) ?_
  show G _ _ _ _ [_,_,_,_,_,_,_,_,_,_,_,_,_,_,_,_] _
  refine hk _ _ ⟨O,?_,hs.cast ?_⟩<;>simp only [oT,lq,cq,Nat.reduceBEq,p0_,p1_,p2_,p3_,p4_,p5_,p6_,p7_,p8_,p9_,q11_]
 ·
  rintro D t w hD hp hcl ⟨O,ht,hs⟩ rest hk
  obtain ⟨p10_,p3_,p0_,p1_,p2_,_,p4_,p5_,p6_,p7_,p8_,p9_,_,_⟩:=hp
  simp only [hD,p0_,p1_,p2_,p3_,p4_,p5_,p6_,p7_,p8_,p9_,p10_,cq,oT] at ht hs
  subst ht
  refine QaY (n:=2) hs (Qam.len _) rfl rfl (vs:=(Qaa (⟨bAnd .u16 (u16w a4) r9,(shrI .i64 a4 a1.Qad)==1⟩:Qak))) rfl rfl rfl (fun _=>rfl) (Qam.len _) (Qam.one _) ?_
  intro w hs
  show G _ _ _ _ [_,_,_,_,_,_,_,_,_,_,_,_,_,_,_,_] _
  have hs:=hs.push 0 (by simp)
  refine hk _ _ ⟨O,?_,hs.cast ?_⟩<;>simp only [oT,lq,cq,Nat.reduceBEq,p0_,p1_,p2_,p3_,p4_,p5_,p6_,p7_,p8_,p9_,p10_]
 intro D t w hall hI
 obtain ⟨O,ht,hs⟩:=hI
 have p0_:=hall 0 (by decide)
 have p1_:=hall 1 (by decide)
 have p2_:=hall 2 (by decide)
 have p3_:=hall 3 (by decide)
 have p4_:=hall 4 (by decide)
 have p5_:=hall 5 (by decide)
 have p6_:=hall 6 (by decide)
 have p7_:=hall 7 (by decide)
 have p8_:=hall 8 (by decide)
 have p9_:=hall 9 (by decide)
 have p10_:=hall 10 (by decide)
 have p11_:=hall 11 (by decide)
 simp only [p0_,p1_,p2_,p3_,p4_,p5_,p6_,p7_,p8_,p9_,p10_,p11_,cq,oT] at ht hs
 subst ht
 obtain rfl:=QsJ H
 refine QaB Tryz.func78 (v:=agg (Qaa (⟨bAnd .u16 (u16w a4) r9,(shrI .i64 a4 a1.Qad)==1⟩:Qak)).toArray) (resC rfl ⟨⟨_,rfl,(run_loadVar_agg (es:=(Qaa (⟨bAnd .u16 (u16w a4) r9,(shrI .i64 a4 a1.Qad)==1⟩:Qak))) rfl (congrArg (Result.ok · _) (Qam.len _).symm) (cells_all (hs.cells 0 rfl)))⟩,trivial⟩) ?_
 have hs:St _ [] _:=St.take (Γ':=[_,_]) hs
 exact ⟨_,rfl,rfl,hs⟩
def QaG.post (w0:World) (r:Bool) (v:Value) (w:World):Prop:=v=bool r∧St w0 [] w
theorem QaG.calls {N:Nat} {a1:Qaf} {a4:(List Int)} {v2:Value} {v5:Value} {w0:World} {r:Bool} (hr3:RdRow (K.int .u16) w0 v2 a1.Qal) (hr1:RdRow (K.int .i16) w0 v5 a4) (H:QaG.f N a1 a4=some r):
 Calls Tryz.prog 38 #[agg (([int .i8 a1.Qad,int .i8 a1.Qag,v2]:List Value)).toArray,v5] w0 fun e w=>∃ v,e= .returned v∧QaG.post w0 r v w:=by
 unfold QaG.f at H
 have hs:St w0 [] w0:=St.refl w0
 refine calls_of_g (n:=66) Tryz.func38 rfl rfl ?_
 show G _ _ _ _ (_::_::_::_::_::_::_::_::_::_::_::_::_::_::_::_::_::_::_::_::_::_::_::_::_::_::_::_::_::_::_::_::_::_::_::_::_::_::_::_::_::_::_::_::_::_::_::_::_::_::_::_::_::_::_::_::_::_::_::_::_::_::_::_::_::_::_::_::[]) _
 refine Qaj (Qan [0,1] rfl ?_)
 refine Qbw hs rfl rfl (cs:=(([int .i8 a1.Qad,int .i8 a1.Qag,v2]:List Value))) rfl rfl ?_
 intro b6 w hs
 refine g_d rfl ?_
 try dsimp only [Qah,Qai]
 refine Qab (v:=bool false) rfl rfl rfl (g_d rfl (Qac (Qaj (Qaj ?_))))
 refine Qck (n:=9) rfl [0,1,2,3,4,5,6,7,8] [0,1,2,3,4,5,6,7,8] rfl rfl ?_
 intro rest w hh hbw hO
 have hs:=hs.samew hh hbw
 try dsimp only [Qah,Qai]
 obtain ⟨r8,Hr8,H⟩:=bind_get H
 obtain ⟨r9,Hr9,H⟩:=bind_get H
 refine QaV ?_
 intro T hT
 refine Qbb (m0:=0) hO rfl 63 [0,1,2,3,4,5] [0,0,0,4,12,30,63,127,255] (by decide+kernel) (fun D t w=>∃ O:Nat→Value,t=(agg (([int .i8 a1.Qad,int .i8 a1.Qag,v2]:List Value)).toArray::v5::pointer (some ⟨b6,0,none⟩)::O 3::bool false::O 5::O 6::O 7::O 8::O 9::O 10::cnd (D 0) v5 (O 11)::cnd (D 1) (agg (([int .i8 a1.Qad,int .i8 a1.Qag,v2]:List Value)).toArray) (O 12)::cnd (D 2) (agg (([int .i8 a1.Qad,int .i8 a1.Qag,v2]:List Value)).toArray) (O 13)::cnd (D 3) (int .u16 r8) (O 14)::cnd (D 4) (agg (Qaa (⟨r8,false⟩:Qak)).toArray) (O 15)::cnd (D 5) (int .i64 r9) (O 16)::O 17::O 18::O 19::oT O 2 (oT O 3 (oT O 4 (oT O 5 (O 60::O 61::O 62::O 63::O 64::O 65::O 66::O 67::[])))))∧St w0 [Cells b6 (([int .i8 a1.Qad,int .i8 a1.Qag,v2]:List Value)) 27] w) ?_ ⟨?_,⟨?_,⟨?_,⟨?_,⟨?_,⟨?_,trivial⟩⟩⟩⟩⟩⟩ ?_
 ·exact ⟨fun i=>T.getD i undef,(by subst hT;rfl),hs⟩
 ·
  rintro D t w hD hp hcl ⟨O,ht,hs⟩ rest hk
  have hp:AllDone D []:=hp
  simp only [hD,cq,oT] at ht hs
  subst ht
  refine Qab (v:=v5) rfl rfl rfl (g_d rfl ?_)
  try dsimp only [Qah,Qai]
  refine hk _ _ ⟨O,?_,hs.cast ?_⟩<;>simp only [oT,lq,cq,Nat.reduceBEq]
 ·
  rintro D t w hD hp hcl ⟨O,ht,hs⟩ rest hk
  have hp:AllDone D []:=hp
  have q5_:=ny hcl 5 0 hD
  simp only [hD,q5_,cq,oT] at ht hs
  subst ht
  refine QaF rfl rfl (es:=(([int .i8 a1.Qad,int .i8 a1.Qag,v2]:List Value))) rfl rfl (fun _=>rfl) (n:=3) (fun _=>rfl) rfl (cells_all (hs.cells 0 rfl)) (g_d rfl ?_)
  try dsimp only [Qah,Qai]
  refine hk _ _ ⟨O,?_,hs.cast ?_⟩<;>simp only [oT,lq,cq,Nat.reduceBEq,q5_]
 ·
  rintro D t w hD hp hcl ⟨O,ht,hs⟩ rest hk
  have hp:AllDone D []:=hp
  have q3_:=ny hcl 3 0 hD
  have q4_:=ny hcl 4 0 q3_
  have q5_:=ny hcl 5 1 q4_
  simp only [hD,q3_,q4_,q5_,cq,oT] at ht hs
  subst ht
  refine QaF rfl rfl (es:=(([int .i8 a1.Qad,int .i8 a1.Qag,v2]:List Value))) rfl rfl (fun _=>rfl) (n:=3) (fun _=>rfl) rfl (cells_all (hs.cells 0 rfl)) (g_d rfl ?_)
  try dsimp only [Qah,Qai]
  refine hk _ _ ⟨O,?_,hs.cast ?_⟩<;>simp only [oT,lq,cq,Nat.reduceBEq,q3_,q4_,q5_]
 ·
  rintro D t w hD hp hcl ⟨O,ht,hs⟩ rest hk
  have hp:AllDone D [2]:=hp
  obtain ⟨p2_,_⟩:=hp
  have q4_:=ny hcl 4 0 hD
  have q5_:=ny hcl 5 1 q4_
  simp only [hD,p2_,q4_,q5_,cq,oT] at ht hs
  subst ht
  refine Qaz (args:=[agg (([int .i8 a1.Qad,int .i8 a1.Qag,v2]:List Value)).toArray]) rfl rfl (QaA rfl (callFunc_enter Tryz.func44 rfl rfl) rfl) (QaZ.calls (a1:=(⟨a1.Qad,a1.Qag,a1.Qal⟩:Qaf)) (hs.rd hr3) Hr8) ?_
  rintro _ w ⟨rfl,hs2⟩
  have hs:St _ [_] _:=hs.call hs2
  refine g_d rfl ?_
  try dsimp only [Qah,Qai]
  refine hk _ _ ⟨O,?_,hs.cast ?_⟩<;>simp only [oT,lq,cq,Nat.reduceBEq,p2_,q4_,q5_]
 ·
  rintro D t w hD hp hcl ⟨O,ht,hs⟩ rest hk
  have hp:AllDone D [3]:=hp
  obtain ⟨p3_,_⟩:=hp
  obtain ⟨p2_,_⟩:=(show D 3=true→AllDone D [2] from hcl 3 (by decide)) p3_
  have q5_:=ny hcl 5 1 hD
  simp only [hD,p2_,p3_,q5_,cq,oT] at ht hs
  subst ht
  refine Qab (v:=agg (Qaa (⟨r8,false⟩:Qak)).toArray) rfl rfl (Qbt (cs:=(Qaa (⟨r8,false⟩:Qak))) (segs:=[[int .u16 0],[bool false]]) rfl rfl (fun _=>rfl) ⟨rfl,(fun _=>rfl),rfl,(fun _=>rfl),trivial⟩ (by simp only [List.map_cons,List.map_nil,List.forall_mem_cons,List.not_mem_nil,false_implies,implies_true,and_true];exact ⟨_,rfl,rfl⟩) (by first|rfl|(simp [ev,Qaa];done)|(simp [ev,Qaa];rfl))) ?_
  refine g_d rfl ?_
  try dsimp only [Qah,Qai]
  refine hk _ _ ⟨O,?_,hs.cast ?_⟩<;>simp only [oT,lq,cq,Nat.reduceBEq,p2_,p3_,q5_]
 ·
  rintro D t w hD hp hcl ⟨O,ht,hs⟩ rest hk
  have hp:AllDone D [1,4,3]:=hp
  obtain ⟨p1_,p4_,p3_,_⟩:=hp
  obtain ⟨p2_,_⟩:=(show D 3=true→AllDone D [2] from hcl 3 (by decide)) p3_
  simp only [hD,p1_,p2_,p3_,p4_,cq,oT] at ht hs
  subst ht
  refine Qaz (args:=[agg (([int .i8 a1.Qad,int .i8 a1.Qag,v2]:List Value)).toArray,agg (Qaa (⟨r8,false⟩:Qak)).toArray]) rfl rfl (QaA rfl (callFunc_enter Tryz.func47 rfl rfl) rfl) (Qbg.calls (a1:=(⟨a1.Qad,a1.Qag,a1.Qal⟩:Qaf)) (a4:=(⟨r8,false⟩:Qak)) (hs.rd hr3) Hr9) ?_
  rintro _ w ⟨rfl,hs2⟩
  have hs:St _ [_] _:=hs.call hs2
  refine g_d rfl ?_
  try dsimp only [Qah,Qai]
  refine hk _ _ ⟨O,?_,hs.cast ?_⟩<;>simp only [oT,lq,cq,Nat.reduceBEq,p1_,p2_,p3_,p4_]
 intro D t w rest hall hO1_ hI
 obtain ⟨O,ht,hs⟩:=hI
 have p0_:=hall 0 (by decide) rfl
 have p1_:=hall 1 (by decide) rfl
 have p2_:=hall 2 (by decide) rfl
 have p3_:=hall 3 (by decide) rfl
 have p4_:=hall 4 (by decide) rfl
 have p5_:=hall 5 (by decide) rfl
 simp only [p0_,p1_,p2_,p3_,p4_,p5_,cq,oT] at ht hs
 subst ht
 obtain ⟨rest,rfl,hO2_⟩:=ord_one (m:=63) hO1_ rfl 6 (m':=127) (by decide+kernel) rfl
 clear hO1_
 obtain ⟨g3,H⟩:=ite_get H
 refine QbQ (fkI .i16) 0 (hs.rd hr1) rfl (fun _=>rfl) g3.1 g3.2 rfl rfl rfl rfl rfl ?_
 intro p10 hp10 lp10 op10
 refine g_d rfl ?_
 try dsimp only [Qah,Qai]
 obtain ⟨rest,rfl,hO4_⟩:=ord_one (m:=127) hO2_ rfl 7 (m':=255) (by decide+kernel) rfl
 clear hO2_
 refine Qaw rfl rfl (v:=int .i16 (rdL a4 r9 0)) rfl rfl (fun _=>rfl) hp10 (g_d rfl ?_)
 obtain ⟨rest,rfl,hO5_⟩:=ord_one (m:=255) hO4_ rfl 8 (m':=511) (by decide+kernel) rfl
 clear hO4_
 refine QaI (B:=(rdL a4 r9 0) !=0) rfl rfl rfl ?_ ?_
 ·
  intro hb
  rw [if_neg (b_bne_t hb)] at H
  refine g_d rfl ?_
  try dsimp only [Qah,Qai]
  obtain rfl:=ord_end hO5_ rfl (by decide+kernel)
  refine Qac (Qaq rfl (Qaj (Qan [0] rfl ?_)))
  refine Qab (v:=bool false) rfl rfl rfl (g_d rfl (Qac ?_))
  obtain rfl:=QsJ H
  refine QaB Tryz.func38 (v:=bool false) (res1 rfl rfl) ?_
  have hs:St _ [] _:=St.take (Γ':=[_]) hs
  exact ⟨_,rfl,rfl,hs⟩
 intro hb
 rw [if_pos (b_bne_f hb)] at H
 refine g_d rfl ?_
 try dsimp only [Qah,Qai]
 obtain rfl:=ord_end hO5_ rfl (by decide+kernel)
 refine Qac (Qas rfl (QaK (Qaj (Qaj (Qan [0,1,2] rfl ?_)))))
 refine Qab (v:=v5) rfl rfl rfl (g_d rfl ?_)
 refine QbC (hs.rd hr1) rfl rfl rfl rfl rfl (g_d rfl ?_)
 refine Qab (v:=int .i64 0) rfl rfl rfl (g_d rfl (Qac ?_))
 obtain ⟨o1_,Ho,Hr1_⟩:=bind_get H
 refine QaR (J:=fun t w=>QaG.a0 N=some r∧Fr t (fun O=>(oT O 0 (oT O 1 (oT O 2 (oT O 3 (oT O 4 (oT O 5 (O 60::O 61::O 62::O 63::O 64::O 65::O 66::O 67::[])))))):List Value))∧St w0 [] w) ?_ ?_
 ·
  rintro t w ⟨H,hf,hs⟩
  obtain ⟨O,rfl⟩:=hf.open
  try dsimp only [oT]
  unfold QaG.a0 at H
  refine Qaj (Qan [0] rfl ?_)
  refine Qab (v:=bool true) rfl rfl rfl (g_d rfl (Qac ?_))
  obtain rfl:=QsJ H
  refine QaB Tryz.func38 (v:=bool true) (res1 rfl rfl) ?_
  have hs:St _ [] _:=St.take (Γ':=[]) hs
  exact ⟨_,rfl,rfl,hs⟩
 intro ha1_
 have hs:=hs.pull 0 rfl
 have hs:St _ [_] _:=St.take (Γ':=[]) hs
 refine Qba (I:=fun n_ t w=>∃ x11:Int,rounds (fun s=>QaG.b0 N a4 a1 s) n_ x11=some o1_∧Fr t (fun O=>(O 0::v5::pointer (some ⟨b6,0,none⟩)::O 3::O 4::O 5::O 6::O 7::O 8::O 9::oT O 1 (v5::int .i64 (a4.length:Int)::int .i64 x11::O 23::O 24::O 25::O 26::O 27::O 28::O 29::oT O 3 (oT O 4 (oT O 5 (O 60::O 61::O 62::O 63::O 64::O 65::O 66::O 67::[])))):List Value))∧St w0 [Cells b6 (([int .i8 a1.Qad,int .i8 a1.Qag,v2]:List Value)) 27] w) N ⟨0,Ho,rfl,hs⟩ ?_ ?_
 ·
  rintro _ _ ⟨x11,h,_⟩
  exact rounds_zero h
 intro n_ ih1_
 rintro t w ⟨x11,Ho,hf,hs⟩
 obtain ⟨O,rfl⟩:=hf.open
 try dsimp only [oT]
 obtain ⟨x11_,H,Hx1_⟩:=rounds_succ Ho
 have H:QaG.b0 N a4 a1 x11=some x11_:=H
 unfold QaG.b0 at H
 refine Qaj (Qan [0] rfl ?_)
 refine QaI (B:=decide (x11< (a4.length:Int))) rfl rfl rfl ?_ ?_
 ·
  intro hb
  rw [if_pos (b_dec_t hb)] at H
  refine g_d rfl (Qac (Qaj (Qaq rfl (QaK (Qaj ?_)))))
  refine QaR (J:=(fun t w=>QaG.j2 N x11=some x11_∧Fr t (fun O=>(O 0::v5::pointer (some ⟨b6,0,none⟩)::O 3::O 4::O 5::O 6::O 7::O 8::O 9::oT O 1 (v5::int .i64 (a4.length:Int)::int .i64 x11::O 23::O 24::O 25::O 26::O 27::O 28::O 29::oT O 3 (oT O 4 (oT O 5 (O 60::O 61::O 62::O 63::O 64::O 65::O 66::O 67::[])))):List Value))∧St w0 [Cells b6 (([int .i8 a1.Qad,int .i8 a1.Qag,v2]:List Value)) 27] w)) ?_ ?_
  ·
   rintro t w ⟨H,hf,hs⟩
   obtain ⟨O,rfl⟩:=hf.open
   try dsimp only [oT]
   unfold QaG.j2 at H
   refine Qan [0,1] rfl ?_
   refine Qab (v:=int .i64 (i64w (x11+1))) rfl rfl rfl (g_d rfl ?_)
   refine Qab (v:=int .i64 (i64w (x11+1))) rfl rfl rfl (g_d rfl (Qac ?_))
   obtain rfl:=QsJ H
   have hs:=hs.pull 0 rfl
   have hs:St _ [_] _:=St.take (Γ':=[]) hs
   exact ih1_ _ _ ⟨i64w (x11+1),Hx1_,rfl,hs⟩
  intro ha
  refine Qaj (Qan [0,1,2,3,4] rfl ?_)
  refine Qab (v:=int .i64 x11) rfl rfl rfl (g_d rfl ?_)
  obtain ⟨g6,H⟩:=ite_get H
  refine QbQ (fkI .i16) 0 (hs.rd hr1) rfl (fun _=>rfl) g6.1 g6.2 rfl rfl rfl rfl rfl ?_
  intro p12 hp12 lp12 op12
  refine g_d rfl ?_
  try dsimp only [Qah,Qai]
  refine Qaw rfl rfl (v:=int .i16 (rdL a4 x11 0)) rfl rfl (fun _=>rfl) hp12 (g_d rfl ?_)
  refine Qab (v:=int .i64 x11) rfl rfl rfl (g_d rfl ?_)
  try dsimp only [Qah,Qai]
  refine Qab (v:=int .i16 (rdL a4 x11 0)) rfl rfl rfl (g_d rfl (Qac (Qaj (Qaj (Qan [0,1] rfl ?_)))))
  refine Qab (v:=int .i16 (rdL a4 x11 0)) rfl rfl rfl (g_d rfl ?_)
  refine QaI (B:=decide ((rdL a4 x11 0)< (-1))) rfl rfl rfl ?_ ?_
  ·
   intro hb
   rw [if_pos (b_dec_t hb)] at H
   refine g_d rfl (Qac (Qaq rfl (Qaj (Qan [0] rfl ?_))))
   refine Qab (v:=bool false) rfl rfl rfl (g_d rfl ?_)
   try dsimp only [Qah,Qai]
   refine Qac ?_
   obtain rfl:=QsJ H
   subst Hx1_
   have H:=QsJ Hr1_
   subst H
   refine QaB Tryz.func38 (v:=bool false) (res1 rfl rfl) ?_
   have hs:St _ [] _:=St.take (Γ':=[_]) hs
   exact ⟨_,rfl,rfl,hs⟩
  intro hb
  rw [if_neg (b_dec_f hb)] at H
  refine g_d rfl ?_
  try dsimp only [Qah,Qai]
  refine Qac (Qas rfl (QaK (Qaj (Qan [0,1,2,3,4] rfl ?_))))
  refine QaF rfl rfl (es:=(([int .i8 a1.Qad,int .i8 a1.Qag,v2]:List Value))) rfl rfl (fun _=>rfl) (n:=3) (fun _=>rfl) rfl (cells_all (hs.cells 0 rfl)) (g_d rfl ?_)
  refine Qab (v:=int .i64 x11) rfl rfl rfl (g_d rfl ?_)
  obtain ⟨r13,Hr13,H⟩:=bind_get H
  refine Qaz (args:=[agg (([int .i8 a1.Qad,int .i8 a1.Qag,v2]:List Value)).toArray,int .i64 x11]) rfl rfl (QaA rfl (callFunc_enter Tryz.func78 rfl rfl) rfl) (QbS.calls (a1:=(⟨a1.Qad,a1.Qag,a1.Qal⟩:Qaf)) (a4:=x11) (hs.rd hr3) Hr13) ?_
  rintro _ w ⟨rfl,hs2⟩
  have hs:St _ [_] _:=hs.call hs2
  refine g_d rfl ?_
  try dsimp only [Qah,Qai]
  refine QbI hs rfl rfl (z:=(agg #[int .u16 0,bool false])) (cs:=(Qaa Qa9)) rfl (fun _=>rfl) rfl ?_
  intro b14 w hs
  refine g_d rfl ?_
  refine QaY (n:=2) hs (Qam.len _) rfl rfl (vs:=(Qaa r13)) rfl rfl rfl (fun _=>rfl) (Qam.len _) (Qam.one _) ?_
  intro w hs
  refine g_n rfl (Qac (Qaj (Qaj (Qan [0,1,2,3,4,5,6,7] rfl ?_))))
  refine Qab (v:=int .i16 (rdL a4 x11 0)) rfl rfl rfl (g_d rfl ?_)
  refine QaI (B:=(rdL a4 x11 0)==(-1)) rfl rfl rfl ?_ ?_
  ·
   intro hb
   rw [if_pos (b_beq_t hb)] at H
   refine g_d rfl ?_
   refine Qab (v:=bool true) rfl rfl rfl (g_d rfl (Qae rfl rfl (g_d rfl ?_)))
   try dsimp only [Qah,Qai]
   refine Qae rfl rfl (g_d rfl (Qae rfl rfl (g_d rfl ?_)))
   try dsimp only [Qah,Qai]
   refine Qae rfl rfl (g_d rfl ?_)
   refine Qab (v:=bool true) rfl rfl rfl (g_d rfl ?_)
   try dsimp only [Qah,Qai]
   refine Qac (Qaq rfl ?_)
   refine QbE rfl ?_
   have hs:=hs.pull 1 rfl
   have hs:St _ [_] _:=St.take (Γ':=[_]) hs
   exact ha _ _ ⟨H,rfl,hs⟩
  intro hb
  rw [if_neg (b_beq_f hb)] at H
  refine g_d rfl ?_
  try dsimp only [Qah,Qai]
  refine Qab (v:=bool false) rfl rfl rfl (g_d rfl ?_)
  refine QaF rfl rfl (es:=(([int .i8 a1.Qad,int .i8 a1.Qag,v2]:List Value))) rfl rfl (fun _=>rfl) (n:=3) (fun _=>rfl) rfl (cells_all (hs.cells 1 rfl)) (g_d rfl ?_)
  refine QaF rfl rfl (es:=(Qaa r13)) rfl rfl (fun _=>rfl) (n:=2) (fun _=>rfl) (Qam.len _) (cells_all (hs.cells 0 rfl)) (g_d rfl ?_)
  try dsimp only [Qah,Qai]
  obtain ⟨r16,Hr16,H⟩:=bind_get H
  refine Qaz (args:=[agg (([int .i8 a1.Qad,int .i8 a1.Qag,v2]:List Value)).toArray,agg (Qaa r13).toArray]) rfl rfl (QaA rfl (callFunc_enter Tryz.func60 rfl rfl) rfl) (Qbx.calls (a1:=(⟨a1.Qad,a1.Qag,a1.Qal⟩:Qaf)) (a4:=r13) (hs.rd hr3) Hr16) ?_
  rintro _ w ⟨rfl,hs2⟩
  have hs:St _ [_,_] _:=hs.call hs2
  cases r16 with
  |true=>
   rw [if_pos rfl] at H
   refine g_d rfl ?_
   try dsimp only [Qah,Qai]
   refine Qab (v:=bool false) rfl rfl rfl (g_d rfl ?_)
   refine Qab (v:=bool false) rfl rfl rfl (g_d rfl ?_)
   try dsimp only [Qah,Qai]
   refine Qac (Qas rfl (QaK (Qaj (Qan [0,1,2,3,4] rfl ?_))))
   refine QaF rfl rfl (es:=(([int .i8 a1.Qad,int .i8 a1.Qag,v2]:List Value))) rfl rfl (fun _=>rfl) (n:=3) (fun _=>rfl) rfl (cells_all (hs.cells 1 rfl)) (g_d rfl ?_)
   refine QaF rfl rfl (es:=(Qaa r13)) rfl rfl (fun _=>rfl) (n:=2) (fun _=>rfl) (Qam.len _) (cells_all (hs.cells 0 rfl)) (g_d rfl ?_)
   try dsimp only [Qah,Qai]
   obtain ⟨r17,Hr17,H⟩:=bind_get H
   refine Qaz (args:=[agg (([int .i8 a1.Qad,int .i8 a1.Qag,v2]:List Value)).toArray,agg (Qaa r13).toArray]) rfl rfl (QaA rfl (callFunc_enter Tryz.func45 rfl rfl) rfl) (QaN.calls (a1:=(⟨a1.Qad,a1.Qag,a1.Qal⟩:Qaf)) (a4:=r13) (hs.rd hr3) Hr17) ?_
   intro v18 w hs2
   have hs:St _ [_,_,_] _:=hs.call hs2
   refine g_d rfl ?_
   refine QbC (hs.row 0 rfl) rfl rfl rfl rfl rfl (g_d rfl ?_)
   try dsimp only [Qah,Qai]
   refine Qab (v:=int .i64 0) rfl rfl rfl (g_d rfl (Qac ?_))
   obtain ⟨o2_,Ho,Hr2_⟩:=bind_get H
   refine QaR (J:=fun t w=>QaG.a3 N x11=some x11_∧Fr t (fun O=>(O 0::v5::pointer (some ⟨b6,0,none⟩)::O 3::O 4::O 5::O 6::O 7::O 8::O 9::oT O 1 (v5::int .i64 (a4.length:Int)::int .i64 x11::O 23::O 24::O 25::O 26::O 27::O 28::O 29::O 30::O 31::O 32::O 33::O 34::agg (([int .i8 a1.Qad,int .i8 a1.Qag,v2]:List Value)).toArray::agg (Qaa r13).toArray::bool true::bool false::O 39::oT O 4 (oT O 5 (O 60::O 61::O 62::O 63::O 64::O 65::O 66::O 67::[]))):List Value))∧St w0 [Cells b6 (([int .i8 a1.Qad,int .i8 a1.Qag,v2]:List Value)) 27] w) ?_ ?_
   ·
    rintro t w ⟨H,hf,hs⟩
    obtain ⟨O,rfl⟩:=hf.open
    try dsimp only [oT]
    unfold QaG.a3 at H
    refine Qa0 ?_
    have hs:=hs.pull 0 rfl
    have hs:St _ [_] _:=St.take (Γ':=[]) hs
    exact ha _ _ ⟨H,rfl,hs⟩
   intro ha2_
   have hs:=hs.pull 0 rfl
   have hs:=hs.pull 1 rfl
   have hs:=hs.pull 2 rfl
   have hs:St _ [_,_,_] _:=St.take (Γ':=[]) hs
   refine Qba (I:=fun n_ t w=>∃ x20:Int,rounds (fun s=>QaG.b3 N r17 r13 a1 a4 x11 s) n_ x20=some o2_∧Fr t (fun O=>(O 0::v5::pointer (some ⟨b6,0,none⟩)::O 3::O 4::O 5::int .i16 (rdL a4 x11 0)::pointer (some ⟨b14,0,none⟩)::O 8::O 9::oT O 1 (v5::int .i64 (a4.length:Int)::int .i64 x11::O 23::O 24::O 25::O 26::O 27::O 28::O 29::O 30::O 31::O 32::O 33::O 34::agg (([int .i8 a1.Qad,int .i8 a1.Qag,v2]:List Value)).toArray::agg (Qaa r13).toArray::bool true::bool false::O 39::O 40::O 41::v18::int .i64 (r17.length:Int)::int .i64 x20::O 45::O 46::O 47::O 48::O 49::oT O 5 (O 60::O 61::O 62::O 63::O 64::O 65::O 66::O 67::[])):List Value))∧St w0 [Cells b6 (([int .i8 a1.Qad,int .i8 a1.Qag,v2]:List Value)) 27,Cells b14 (Qaa r13) 48,Row 46 (K.int .u16) v18 r17] w) N ⟨0,Ho,rfl,hs⟩ ?_ ?_
   ·
    rintro _ _ ⟨x20,h,_⟩
    exact rounds_zero h
   intro n_ ih2_
   rintro t w ⟨x20,Ho,hf,hs⟩
   obtain ⟨O,rfl⟩:=hf.open
   try dsimp only [oT]
   obtain ⟨x10_,H,Hx2_⟩:=rounds_succ Ho
   have H:QaG.b3 N r17 r13 a1 a4 x11 x20=some x10_:=H
   unfold QaG.b3 at H
   refine Qaj (Qan [0] rfl ?_)
   refine QaI (B:=decide (x20< (r17.length:Int))) rfl rfl rfl ?_ ?_
   ·
    intro hb
    rw [if_pos (b_dec_t hb)] at H
    refine g_d rfl ?_
    try dsimp only [Qah,Qai]
    refine Qac (Qaj (Qaq rfl (QaK (Qaj ?_))))
    refine QbG (Qaj (Qan [0,1,2] rfl ?_))
    obtain ⟨g7,H⟩:=ite_get H
    refine QbQ (fkI .u16) 0 (hs.row 2 rfl) rfl (fun _=>rfl) g7.1 g7.2 rfl rfl rfl rfl rfl ?_
    intro p21 hp21 lp21 op21
    refine g_d rfl ?_
    refine Qaw rfl rfl (v:=int .u16 (rdL r17 x20 0)) rfl rfl (fun _=>rfl) hp21 (g_d rfl ?_)
    try dsimp only [Qah,Qai]
    refine Qab (v:=int .u16 (rdL r17 x20 0)) rfl rfl rfl (g_d rfl (Qac (Qaj ?_)))
    obtain ⟨r22,Hr22,H⟩:=bind_get H
    obtain ⟨r23,Hr23,H⟩:=bind_get H
    obtain ⟨gd8,H⟩:=ite_get H
    obtain ⟨ad9_,ad9_N,ad9_C,had9_⟩:=sl_at (hs.rd hr1) gd8.1 gd8.2
    refine QaV ?_
    intro T hT
    refine QbZ (n:=9) rfl [0,1,2,3,4,5,6,7,8] [0,1,2,3,4,5,6,7,8] rfl rfl (Inv:=fun D t w=>∃ O:Nat→Value,t=(O 0::v5::pointer (some ⟨b6,0,none⟩)::O 3::O 4::O 5::int .i16 (rdL a4 x11 0)::pointer (some ⟨b14,0,none⟩)::O 8::int .u16 (rdL r17 x20 0)::cnd (D 8) (int .i16 (rdL a4 r23 0)) (O 10)::O 11::O 12::O 13::O 14::O 15::O 16::O 17::O 18::O 19::v5::int .i64 (a4.length:Int)::int .i64 x11::O 23::O 24::O 25::O 26::O 27::O 28::O 29::O 30::O 31::O 32::O 33::O 34::agg (([int .i8 a1.Qad,int .i8 a1.Qag,v2]:List Value)).toArray::agg (Qaa r13).toArray::bool true::bool false::O 39::O 40::O 41::v18::int .i64 (r17.length:Int)::int .i64 x20::bool true::pointer (some p21)::int .u16 (rdL r17 x20 0)::cnd (D 0) v5 (O 48)::cnd (D 1) (agg (([int .i8 a1.Qad,int .i8 a1.Qag,v2]:List Value)).toArray) (O 49)::cnd (D 2) (agg (Qaa r13).toArray) (O 50)::cnd (D 3) (int .u16 (rdL r17 x20 0)) (O 51)::cnd (D 4) (agg (Qaa r22).toArray) (O 52)::cnd (D 5) (int .i64 r23) (O 53)::cnd (D 6) (pointer (some (ad9_.add (r23.toNat*1)))) (O 54)::cnd (D 7) (int .i16 (rdL a4 r23 0)) (O 55)::O 56::O 57::O 58::O 59::O 60::O 61::O 62::O 63::O 64::O 65::O 66::O 67::[])∧St w0 [Cells b6 (([int .i8 a1.Qad,int .i8 a1.Qag,v2]:List Value)) 27,Cells b14 (Qaa r13) 48,Row 46 (K.int .u16) v18 r17] w) ?_ ⟨⟨⟨⟨⟨⟨⟨⟨⟨trivial,?_⟩,?_⟩,?_⟩,?_⟩,?_⟩,?_⟩,?_⟩,?_⟩,?_⟩ ?_
    ·
     intro w hh hbw
     have hs:=hs.samew hh hbw
     exact ⟨fun i=>T.getD i undef,(by subst hT;rfl),hs⟩
    ·
     rintro D t w hD hp hcl ⟨O,ht,hs⟩ rest hk
     have q6_:=nz hcl 6 0 hD
     have q7_:=nz hcl 7 0 q6_
     have q8_:=nz hcl 8 0 q7_
     simp only [hD,q6_,q7_,q8_,cq,oT] at ht hs
     subst ht
     refine Qab (v:=v5) rfl rfl rfl (g_d rfl ?_)
     try dsimp only [Qah,Qai]
     refine hk _ _ ⟨O,?_,hs.cast ?_⟩<;>simp only [oT,lq,cq,Nat.reduceBEq,q6_,q7_,q8_]
    ·
     rintro D t w hD hp hcl ⟨O,ht,hs⟩ rest hk
     have q5_:=nz hcl 5 0 hD
     have q6_:=nz hcl 6 1 q5_
     have q7_:=nz hcl 7 0 q6_
     have q8_:=nz hcl 8 0 q7_
     simp only [hD,q5_,q6_,q7_,q8_,cq,oT] at ht hs
     subst ht
     refine QaF rfl rfl (es:=(([int .i8 a1.Qad,int .i8 a1.Qag,v2]:List Value))) rfl rfl (fun _=>rfl) (n:=3) (fun _=>rfl) rfl (cells_all (hs.cells 0 rfl)) (g_d rfl ?_)
     try dsimp only [Qah,Qai]
     refine hk _ _ ⟨O,?_,hs.cast ?_⟩<;>simp only [oT,lq,cq,Nat.reduceBEq,q5_,q6_,q7_,q8_]
    ·
     rintro D t w hD hp hcl ⟨O,ht,hs⟩ rest hk
     have q4_:=nz hcl 4 0 hD
     have q5_:=nz hcl 5 1 q4_
     have q6_:=nz hcl 6 1 q5_
     have q7_:=nz hcl 7 0 q6_
     have q8_:=nz hcl 8 0 q7_
     simp only [hD,q4_,q5_,q6_,q7_,q8_,cq,oT] at ht hs
     subst ht
     refine QaF rfl rfl (es:=(Qaa r13)) rfl rfl (fun _=>rfl) (n:=2) (fun _=>rfl) (Qam.len _) (cells_all (hs.cells 1 rfl)) (g_d rfl ?_)
     try dsimp only [Qah,Qai]
     refine hk _ _ ⟨O,?_,hs.cast ?_⟩<;>simp only [oT,lq,cq,Nat.reduceBEq,q4_,q5_,q6_,q7_,q8_]
    ·
     rintro D t w hD hp hcl ⟨O,ht,hs⟩ rest hk
     have q4_:=nz hcl 4 1 hD
     have q5_:=nz hcl 5 1 q4_
     have q6_:=nz hcl 6 1 q5_
     have q7_:=nz hcl 7 0 q6_
     have q8_:=nz hcl 8 0 q7_
     simp only [hD,q4_,q5_,q6_,q7_,q8_,cq,oT] at ht hs
     subst ht
     refine Qab (v:=int .u16 (rdL r17 x20 0)) rfl rfl rfl (g_d rfl ?_)
     try dsimp only [Qah,Qai]
     refine hk _ _ ⟨O,?_,hs.cast ?_⟩<;>simp only [oT,lq,cq,Nat.reduceBEq,q4_,q5_,q6_,q7_,q8_]
    ·
     rintro D t w hD hp hcl ⟨O,ht,hs⟩ rest hk
     obtain ⟨p2_,p3_,_⟩:=hp
     have q5_:=nz hcl 5 1 hD
     have q6_:=nz hcl 6 1 q5_
     have q7_:=nz hcl 7 0 q6_
     have q8_:=nz hcl 8 0 q7_
     simp only [hD,p2_,p3_,q5_,q6_,q7_,q8_,cq,oT] at ht hs
     subst ht
     refine Qaz (args:=[agg (Qaa r13).toArray,int .u16 (rdL r17 x20 0)]) rfl rfl (QaA rfl (callFunc_enter Tryz.func46 rfl rfl) rfl) (Qbm.calls (a1:=r13) (a2:=rdL r17 x20 0) Hr22) ?_
     rintro _ w ⟨rfl,hs2⟩
     have hs:St _ [_,_,_] _:=hs.call hs2
     refine g_d rfl ?_
     try dsimp only [Qah,Qai]
     refine hk _ _ ⟨O,?_,hs.cast ?_⟩<;>simp only [oT,lq,cq,Nat.reduceBEq,p2_,p3_,q5_,q6_,q7_,q8_]
    ·
     rintro D t w hD hp hcl ⟨O,ht,hs⟩ rest hk
     obtain ⟨p1_,p4_,_,_⟩:=hp
     obtain ⟨p2_,p3_,_⟩:=(hcl.get 4 (by decide)) p4_
     have q6_:=nz hcl 6 1 hD
     have q7_:=nz hcl 7 0 q6_
     have q8_:=nz hcl 8 0 q7_
     simp only [hD,p1_,p2_,p3_,p4_,q6_,q7_,q8_,cq,oT] at ht hs
     subst ht
     refine Qaz (args:=[agg (([int .i8 a1.Qad,int .i8 a1.Qag,v2]:List Value)).toArray,agg (Qaa r22).toArray]) rfl rfl (QaA rfl (callFunc_enter Tryz.func47 rfl rfl) rfl) (Qbg.calls (a1:=(⟨a1.Qad,a1.Qag,a1.Qal⟩:Qaf)) (a4:=r22) (hs.rd hr3) Hr23) ?_
     rintro _ w ⟨rfl,hs2⟩
     have hs:St _ [_,_,_] _:=hs.call hs2
     refine g_d rfl ?_
     try dsimp only [Qah,Qai]
     refine hk _ _ ⟨O,?_,hs.cast ?_⟩<;>simp only [oT,lq,cq,Nat.reduceBEq,p1_,p2_,p3_,p4_,q6_,q7_,q8_]
    ·
     rintro D t w hD hp hcl ⟨O,ht,hs⟩ rest hk
     obtain ⟨p0_,p5_,_⟩:=hp
     obtain ⟨p1_,p4_,_,_⟩:=(hcl.get 5 (by decide)) p5_
     obtain ⟨p2_,p3_,_⟩:=(hcl.get 4 (by decide)) p4_
     have q7_:=nz hcl 7 0 hD
     have q8_:=nz hcl 8 0 q7_
     simp only [hD,p0_,p1_,p2_,p3_,p4_,p5_,q7_,q8_,cq,oT] at ht hs
     subst ht
     refine QbJ (κ:=(K.int .i16)) (m:=1) rfl (hs.rd hr1) rfl (fun _=>rfl) gd8.1 gd8.2 had9_ rfl rfl rfl rfl rfl (g_d rfl ?_)
     try dsimp only [Qah,Qai]
     refine hk _ _ ⟨O,?_,hs.cast ?_⟩<;>simp only [oT,lq,cq,Nat.reduceBEq,p0_,p1_,p2_,p3_,p4_,p5_,q7_,q8_]
    ·
     rintro D t w hD hp hcl ⟨O,ht,hs⟩ rest hk
     obtain ⟨p6_,_⟩:=hp
     obtain ⟨p0_,p5_,_⟩:=(hcl.get 6 (by decide)) p6_
     obtain ⟨p1_,p4_,_,_⟩:=(hcl.get 5 (by decide)) p5_
     obtain ⟨p2_,p3_,_⟩:=(hcl.get 4 (by decide)) p4_
     have q8_:=nz hcl 8 0 hD
     simp only [hD,p0_,p1_,p2_,p3_,p4_,p5_,p6_,q8_,cq,oT] at ht hs
     subst ht
     refine Qaw rfl rfl (v:=int .i16 (rdL a4 r23 0)) rfl rfl (fun _=>rfl) (cellsAt_of (fkI .i16) 0 (hs.rd hr1) had9_ gd8.1 gd8.2) (g_d rfl ?_)
     try dsimp only [Qah,Qai]
     refine hk _ _ ⟨O,?_,hs.cast ?_⟩<;>simp only [oT,lq,cq,Nat.reduceBEq,p0_,p1_,p2_,p3_,p4_,p5_,p6_,q8_]
    ·
     rintro D t w hD hp hcl ⟨O,ht,hs⟩ rest hk
     obtain ⟨p7_,p5_,p0_,p1_,p2_,p3_,p4_,_,p6_,_,_⟩:=hp
     simp only [hD,p0_,p1_,p2_,p3_,p4_,p5_,p6_,p7_,cq,oT] at ht hs
     subst ht
     refine Qab (v:=int .i16 (rdL a4 r23 0)) rfl rfl rfl (g_d rfl ?_)
     try dsimp only [Qah,Qai]
     refine hk _ _ ⟨O,?_,hs.cast ?_⟩<;>simp only [oT,lq,cq,Nat.reduceBEq,p0_,p1_,p2_,p3_,p4_,p5_,p6_,p7_]
    intro D t w hall hI
    obtain ⟨O,ht,hs⟩:=hI
    have p0_:=hall 0 (by decide)
    have p1_:=hall 1 (by decide)
    have p2_:=hall 2 (by decide)
    have p3_:=hall 3 (by decide)
    have p4_:=hall 4 (by decide)
    have p5_:=hall 5 (by decide)
    have p6_:=hall 6 (by decide)
    have p7_:=hall 7 (by decide)
    have p8_:=hall 8 (by decide)
    simp only [p0_,p1_,p2_,p3_,p4_,p5_,p6_,p7_,p8_,cq,oT] at ht hs
    subst ht
    refine Qaj (Qan [0,1,2,3,4,5,6,7,8,9] rfl ?_)
    refine Qab (v:=int .i16 (rdL a4 r23 0)) rfl rfl rfl (g_d rfl ?_)
    refine QaI (B:=(rdL a4 r23 0)==(-1)) rfl rfl rfl ?_ ?_
    ·
     intro hb
     rw [if_pos (b_beq_t hb)] at H
     refine g_d rfl ?_
     try dsimp only [Qah,Qai]
     refine Qab (v:=bool true) rfl rfl rfl (g_d rfl (Qae rfl rfl (g_d rfl (Qae rfl rfl (g_d rfl (Qae rfl rfl (g_d rfl ?_)))))))
     refine Qae rfl rfl (g_d rfl (Qae rfl rfl (g_d rfl (Qae rfl rfl (g_d rfl ?_)))))
     try dsimp only [Qah,Qai]
     refine Qab (v:=bool true) rfl rfl rfl (g_d rfl (Qac (Qaq rfl (Qaj (Qan [0] rfl ?_)))))
     refine Qab (v:=bool false) rfl rfl rfl (g_d rfl ?_)
     try dsimp only [Qah,Qai]
     refine Qac ?_
     obtain rfl:=QsJ H
     subst Hx2_
     have H:=QsJ Hr2_
     subst H
     subst Hx1_
     have H:=QsJ Hr1_
     subst H
     refine QaB Tryz.func38 (v:=bool false) (res1 rfl rfl) ?_
     have hs:St _ [] _:=St.take (Γ':=[_,_,_]) hs
     exact ⟨_,rfl,rfl,hs⟩
    intro hb
    rw [if_neg (b_beq_f hb)] at H
    refine g_d rfl ?_
    try dsimp only [Qah,Qai]
    refine Qab (v:=bool false) rfl rfl rfl (g_d rfl ?_)
    refine Qab (v:=int .i16 (rdL a4 r23 0)) rfl rfl rfl (g_d rfl ?_)
    refine Qab (v:=int .i64 (i64w (rdL a4 r23 0))) rfl rfl rfl (g_d rfl ?_)
    refine Qab (v:=int .i16 (rdL a4 x11 0)) rfl rfl rfl (g_d rfl ?_)
    refine Qab (v:=int .i64 (i64w (rdL a4 x11 0))) rfl rfl rfl (g_d rfl ?_)
    refine Qab (v:=int .i64 (i64w ((i64w (rdL a4 x11 0))+1))) rfl rfl rfl (g_d rfl ?_)
    refine QaI (B:=decide ((i64w (rdL a4 r23 0))>(i64w ((i64w (rdL a4 x11 0))+1)))) rfl rfl rfl ?_ ?_
    ·
     intro hb
     rw [if_pos (b_dec_t hb)] at H
     refine g_d rfl ?_
     refine Qab (v:=bool true) rfl rfl rfl (g_d rfl ?_)
     try dsimp only [Qah,Qai]
     refine Qac (Qaq rfl (Qaj (Qan [0] rfl ?_)))
     refine Qab (v:=bool false) rfl rfl rfl (g_d rfl (Qac ?_))
     obtain rfl:=QsJ H
     subst Hx2_
     have H:=QsJ Hr2_
     subst H
     subst Hx1_
     have H:=QsJ Hr1_
     subst H
     refine QaB Tryz.func38 (v:=bool false) (res1 rfl rfl) ?_
     have hs:St _ [] _:=St.take (Γ':=[_,_,_]) hs
     exact ⟨_,rfl,rfl,hs⟩
    intro hb
    rw [if_neg (b_dec_f hb)] at H
    refine g_d rfl ?_
    try dsimp only [Qah,Qai]
    refine Qab (v:=bool false) rfl rfl rfl (g_d rfl (Qac (Qas rfl (QaK ?_))))
    refine Qa0 (Qan [0,1] rfl ?_)
    refine Qab (v:=int .i64 (i64w (x20+1))) rfl rfl rfl (g_d rfl ?_)
    try dsimp only [Qah,Qai]
    refine Qab (v:=int .i64 (i64w (x20+1))) rfl rfl rfl (g_d rfl (Qac ?_))
    obtain rfl:=QsJ H
    have hs:=hs.pull 2 rfl
    have hs:=hs.pull 2 rfl
    have hs:=hs.pull 2 rfl
    have hs:St _ [_,_,_] _:=St.take (Γ':=[]) hs
    exact ih2_ _ _ ⟨i64w (x20+1),Hx2_,rfl,hs⟩
   intro hb
   rw [if_neg (b_dec_f hb)] at H
   refine g_d rfl (Qac (Qaj (Qas rfl ?_)))
   obtain rfl:=QsJ H
   subst Hx2_
   have hs:=hs.pull 0 rfl
   have hs:St _ [_] _:=St.take (Γ':=[_,_]) hs
   refine QbE rfl ?_
   exact ha2_ _ _ ⟨Hr2_,rfl,hs⟩
  |false=>
   rw [if_neg Bool.false_ne_true] at H
   refine g_d rfl ?_
   refine Qab (v:=bool true) rfl rfl rfl (g_d rfl ?_)
   try dsimp only [Qah,Qai]
   refine Qab (v:=bool true) rfl rfl rfl (g_d rfl (Qac (Qaq rfl ?_)))
   refine QbE rfl ?_
   have hs:=hs.pull 1 rfl
   have hs:St _ [_] _:=St.take (Γ':=[_]) hs
   exact ha _ _ ⟨H,rfl,hs⟩
 intro hb
 rw [if_neg (b_dec_f hb)] at H
 refine g_d rfl ?_
 try dsimp only [Qah,Qai]
 refine Qac (Qaj (Qas rfl ?_))
 obtain rfl:=QsJ H
 subst Hx1_
 have hs:St _ [] _:=St.take (Γ':=[_]) hs
 refine QbE rfl ?_
 exact ha1_ _ _ ⟨Hr1_,rfl,hs⟩
end Go.Proofs.YtblbfnngmeoipaaGreatDoorX
