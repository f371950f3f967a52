import Derived.Test.YtmpcchpnfhafoaaP6
namespace Go.Proofs.YtmpcchpnfhafoaaX
open Go Go.RowKit Go.Proofs
open Go.Value (int pointer bool agg slice string tuple)
set_option maxHeartbeats 8000000
set_option maxRecDepth 100000
set_option linter.unusedVariables false
set_option linter.unusedSimpArgs false
theorem Qas.calls {N:Nat} {a1:Qae} {b2:Nat} {v3:Value} {w0:World} {r:QaY} (hr4:RdRow (K.int .u16) w0 v3 a1.Qai) (hp0:w0.heap[b2]?=some (.cells ((([int .i8 a1.Qac,int .i8 a1.Qaf,v3]:List Value)):List Value).toArray 29 (0,0))) (H:Qas.f N a1=some r):
 Calls Try.prog 11 #[pointer (some ⟨b2,0,none⟩)] w0 fun e w=>∃ v,e= .returned v∧Qas.post w0 r v w:=by
 unfold Qas.f at H
 have hs:St w0 [] w0:=St.refl w0
 refine calls_of_g (n:=169) Try.func11 rfl rfl ?_
 show G _ _ _ _ (_::_::_::_::_::_::_::_::_::_::_::_::_::_::_::_::_::_::_::_::_::_::_::_::_::_::_::_::_::_::_::_::_::_::_::_::_::_::_::_::_::_::_::_::_::_::_::_::_::_::_::_::_::_::_::_::_::_::_::_::_::_::_::_::_::_::_::_::_::_::_::_::_::_::_::_::_::_::_::_::_::_::_::_::_::_::_::_::_::_::_::_::_::_::_::_::_::_::_::_::_::_::_::_::_::_::_::_::_::_::_::_::_::_::_::_::_::_::_::_::_::_::_::_::_::_::_::_::_::_::_::_::_::_::_::_::_::_::_::_::_::_::_::_::_::_::_::_::_::_::_::_::_::_::_::_::_::_::_::_::_::_::_::_::_::_::_::_::_::_::[]) _
 refine Qah (Qat [0] rfl ?_)
 refine Qab (v:=pointer none) rfl rfl rfl (g_d rfl ?_)
 try dsimp only [Qap,Qaq]
 refine Qad (Qah (Qat [0,1,2,3,4,5] rfl ?_))
 refine Qab (v:=pointer (some ⟨b2,0,none⟩)) rfl rfl rfl (g_d rfl ?_)
 obtain ⟨r6,Hr6,H⟩:=bind_get H
 refine QaG (args:=[pointer (some ⟨b2,0,none⟩)]) rfl rfl (QaH rfl (callFunc_enter Try.func23 rfl rfl) rfl) (QaV.calls (a1:=(⟨a1.Qac,a1.Qaf,a1.Qai⟩:Qae)) (hs.rd hr4) (hs.box hp0) Hr6) ?_
 rintro _ w ⟨rfl,hs2⟩
 have hs:St _ [] _:=hs.call hs2
 refine g_d rfl ?_
 refine Qab (v:=int .i64 (i64w r6)) rfl rfl rfl (g_d rfl ?_)
 refine Qab (v:=int .i64 (i64w ((i64w r6)+1))) rfl rfl rfl (g_d rfl ?_)
 try dsimp only [Qap,Qaq]
 refine Qab (v:=int .i64 (i64w (2*(i64w ((i64w r6)+1))))) rfl rfl rfl (g_d rfl ?_)
 refine Qab (v:=int .i64 (i64w (2*(i64w ((i64w r6)+1))))) rfl rfl rfl (g_d rfl ?_)
 try dsimp only [Qap,Qaq]
 refine Qad (Qah ?_)
 obtain ⟨gq1_,H⟩:=ite_get H
 obtain ⟨gq3_,H⟩:=ite_get H
 obtain ⟨gq5_,H⟩:=ite_get H
 obtain ⟨gq7_,H⟩:=ite_get H
 refine Qa6 ?_
 intro T hT
 refine QbF (n:=11) rfl [0,1,2,3,4,5,6,7,8,9,10] [0,1,2,3,4,5,6,7,8,9,10] rfl rfl (Inv:=fun D t w=>∃ v7:Value,∃ v9:Value,∃ v11:Value,∃ v13:Value,∃ b15:Nat,∃ O:Nat→Value,t=(pointer (some ⟨b2,0,none⟩)::O 1::pointer none::int .i64 (i64w (2*(i64w ((i64w r6)+1))))::cnd (D 10) (pointer (some ⟨b15,0,none⟩)) (O 4)::O 5::O 6::O 7::O 8::O 9::O 10::O 11::O 12::O 13::O 14::O 15::pointer (some ⟨b2,0,none⟩)::int .u16 r6::int .i64 (i64w r6)::int .i64 (i64w ((i64w r6)+1))::int .i64 (i64w (2*(i64w ((i64w r6)+1))))::cnd (D 0) (int .i64 (i64w (2*(i64w ((i64w r6)+1))))) (O 21)::cnd (D 1) v7 (O 22)::cnd (D 2) (int .i64 (i64w (2*(i64w ((i64w r6)+1))))) (O 23)::cnd (D 3) v9 (O 24)::cnd (D 4) (int .i64 (i64w (2*(i64w ((i64w r6)+1))))) (O 25)::cnd (D 5) v11 (O 26)::cnd (D 6) (int .i64 (i64w (2*(i64w ((i64w r6)+1))))) (O 27)::cnd (D 7) v13 (O 28)::cnd (D 8) (agg (([v7,v9,v11,v13]:List Value)).toArray) (O 29)::cnd (D 9) (pointer (some ⟨b15,0,none⟩)) (O 30)::O 31::O 32::O 33::O 34::O 35::O 36::O 37::O 38::O 39::oT O 4 (oT O 5 (oT O 6 (oT O 7 (oT O 8 (oT O 9 (oT O 10 (oT O 11 (oT O 12 (oT O 13 (oT O 14 (oT O 15 (oT O 16 ([]))))))))))))))∧St w0 [Asc (D 1) (Row 57 (K.int .i16) v7 (List.replicate ((i64w (2*(i64w ((i64w r6)+1))))).toNat (0:Int))),Asc (D 3) (Row 2 (K.int .i64) v9 (List.replicate ((i64w (2*(i64w ((i64w r6)+1))))).toNat (0:Int))),Asc (D 5) (Row 2 (K.int .i64) v11 (List.replicate ((i64w (2*(i64w ((i64w r6)+1))))).toNat (0:Int))),Asc (D 7) (Row 46 (K.int .u16) v13 (List.replicate ((i64w (2*(i64w ((i64w r6)+1))))).toNat (0:Int))),Asc (D 9) (Cells b15 (([v7,v9,v11,v13]:List Value)) 39)] w) ?_ ⟨⟨⟨⟨⟨⟨⟨⟨⟨⟨⟨trivial,?_⟩,?_⟩,?_⟩,?_⟩,?_⟩,?_⟩,?_⟩,?_⟩,?_⟩,?_⟩,?_⟩ ?_
 ·
  intro w hh hbw
  have hs:=hs.samew hh hbw
  have hs:=hs.emp
  have hs:=hs.emp
  have hs:=hs.emp
  have hs:=hs.emp
  have hs:=hs.emp
  exact ⟨undef,undef,undef,undef,0,fun i=>T.getD i undef,(by subst hT;rfl),hs⟩
 ·
  rintro D t w hD hp hcl ⟨v7,v9,v11,v13,b15,O,ht,hs⟩ rest hk
  have q1_:=nz hcl 1 0 hD
  have q8_:=nz hcl 8 0 q1_
  have q9_:=nz hcl 9 0 q8_
  have q10_:=nz hcl 10 0 q9_
  simp only [hD,q1_,q8_,q9_,q10_,cq,oT] at ht hs
  subst ht
  refine Qab (v:=int .i64 (i64w (2*(i64w ((i64w r6)+1))))) rfl rfl rfl (g_d rfl ?_)
  try dsimp only [Qap,Qaq]
  refine hk _ _ ⟨v7,v9,v11,v13,b15,O,?_,hs.cast ?_⟩<;>simp only [oT,lq,cq,Nat.reduceBEq,q1_,q8_,q9_,q10_]
 ·
  rintro D t w hD hp hcl ⟨v7,v9,v11,v13,b15,O,ht,hs⟩ rest hk
  obtain ⟨p0_,_,_⟩:=hp
  have q8_:=nz hcl 8 0 hD
  have q9_:=nz hcl 9 0 q8_
  have q10_:=nz hcl 10 0 q9_
  simp only [hD,p0_,q8_,q9_,q10_,cq,oT] at ht hs
  subst ht
  refine QbS (κ:=(K.int .i16)) (z:=0) (zc:=((encI .i16) 0)) (zv:=(int .i16 0)) (B:=2) hs rfl rfl rfl rfl rfl gq1_.1 rfl rfl rfl rfl rfl (fun _=>⟨rfl,rfl⟩) rfl (by decide) (by have:=gq1_.2;omega) ?_
  intro v7 w hs
  refine g_d rfl ?_
  try dsimp only [Qap,Qaq]
  have hs:=hs.fill 0 rfl
  refine hk _ _ ⟨v7,v9,v11,v13,b15,O,?_,hs.cast ?_⟩<;>simp only [oT,lq,cq,Nat.reduceBEq,p0_,q8_,q9_,q10_]
 ·
  rintro D t w hD hp hcl ⟨v7,v9,v11,v13,b15,O,ht,hs⟩ rest hk
  have q3_:=nz hcl 3 0 hD
  have q8_:=nz hcl 8 1 q3_
  have q9_:=nz hcl 9 0 q8_
  have q10_:=nz hcl 10 0 q9_
  simp only [hD,q3_,q8_,q9_,q10_,cq,oT] at ht hs
  subst ht
  refine Qab (v:=int .i64 (i64w (2*(i64w ((i64w r6)+1))))) rfl rfl rfl (g_d rfl ?_)
  try dsimp only [Qap,Qaq]
  refine hk _ _ ⟨v7,v9,v11,v13,b15,O,?_,hs.cast ?_⟩<;>simp only [oT,lq,cq,Nat.reduceBEq,q3_,q8_,q9_,q10_]
 ·
  rintro D t w hD hp hcl ⟨v7,v9,v11,v13,b15,O,ht,hs⟩ rest hk
  obtain ⟨p2_,_,_⟩:=hp
  have q8_:=nz hcl 8 1 hD
  have q9_:=nz hcl 9 0 q8_
  have q10_:=nz hcl 10 0 q9_
  simp only [hD,p2_,q8_,q9_,q10_,cq,oT] at ht hs
  subst ht
  refine QbS (κ:=(K.int .i64)) (z:=0) (zc:=((encI .i64) 0)) (zv:=(int .i64 0)) (B:=8) hs rfl rfl rfl rfl rfl gq3_.1 rfl rfl rfl rfl rfl (fun _=>⟨rfl,rfl⟩) rfl (by decide) (by have:=gq3_.2;omega) ?_
  intro v9 w hs
  refine g_d rfl ?_
  try dsimp only [Qap,Qaq]
  have hs:=hs.fill 1 rfl
  refine hk _ _ ⟨v7,v9,v11,v13,b15,O,?_,hs.cast ?_⟩<;>simp only [oT,lq,cq,Nat.reduceBEq,p2_,q8_,q9_,q10_]
 ·
  rintro D t w hD hp hcl ⟨v7,v9,v11,v13,b15,O,ht,hs⟩ rest hk
  have q5_:=nz hcl 5 0 hD
  have q8_:=nz hcl 8 2 q5_
  have q9_:=nz hcl 9 0 q8_
  have q10_:=nz hcl 10 0 q9_
  simp only [hD,q5_,q8_,q9_,q10_,cq,oT] at ht hs
  subst ht
  refine Qab (v:=int .i64 (i64w (2*(i64w ((i64w r6)+1))))) rfl rfl rfl (g_d rfl ?_)
  try dsimp only [Qap,Qaq]
  refine hk _ _ ⟨v7,v9,v11,v13,b15,O,?_,hs.cast ?_⟩<;>simp only [oT,lq,cq,Nat.reduceBEq,q5_,q8_,q9_,q10_]
 ·
  rintro D t w hD hp hcl ⟨v7,v9,v11,v13,b15,O,ht,hs⟩ rest hk
  obtain ⟨p4_,_,_⟩:=hp
  have q8_:=nz hcl 8 2 hD
  have q9_:=nz hcl 9 0 q8_
  have q10_:=nz hcl 10 0 q9_
  simp only [hD,p4_,q8_,q9_,q10_,cq,oT] at ht hs
  subst ht
  refine QbS (κ:=(K.int .i64)) (z:=0) (zc:=((encI .i64) 0)) (zv:=(int .i64 0)) (B:=8) hs rfl rfl rfl rfl rfl gq5_.1 rfl rfl rfl rfl rfl (fun _=>⟨rfl,rfl⟩) rfl (by decide) (by have:=gq5_.2;omega) ?_
  intro v11 w hs
  refine g_d rfl ?_
  try dsimp only [Qap,Qaq]
  have hs:=hs.fill 2 rfl
  refine hk _ _ ⟨v7,v9,v11,v13,b15,O,?_,hs.cast ?_⟩<;>simp only [oT,lq,cq,Nat.reduceBEq,p4_,q8_,q9_,q10_]
 ·
  rintro D t w hD hp hcl ⟨v7,v9,v11,v13,b15,O,ht,hs⟩ rest hk
  have q7_:=nz hcl 7 0 hD
  have q8_:=nz hcl 8 3 q7_
  have q9_:=nz hcl 9 0 q8_
  have q10_:=nz hcl 10 0 q9_
  simp only [hD,q7_,q8_,q9_,q10_,cq,oT] at ht hs
  subst ht
  refine Qab (v:=int .i64 (i64w (2*(i64w ((i64w r6)+1))))) rfl rfl rfl (g_d rfl ?_)
  try dsimp only [Qap,Qaq]
  refine hk _ _ ⟨v7,v9,v11,v13,b15,O,?_,hs.cast ?_⟩<;>simp only [oT,lq,cq,Nat.reduceBEq,q7_,q8_,q9_,q10_]
 ·
  rintro D t w hD hp hcl ⟨v7,v9,v11,v13,b15,O,ht,hs⟩ rest hk
  obtain ⟨p6_,_,_⟩:=hp
  have q8_:=nz hcl 8 3 hD
  have q9_:=nz hcl 9 0 q8_
  have q10_:=nz hcl 10 0 q9_
  simp only [hD,p6_,q8_,q9_,q10_,cq,oT] at ht hs
  subst ht
  refine QbS (κ:=(K.int .u16)) (z:=0) (zc:=((encI .u16) 0)) (zv:=(int .u16 0)) (B:=2) hs rfl rfl rfl rfl rfl gq7_.1 rfl rfl rfl rfl rfl (fun _=>⟨rfl,rfl⟩) rfl (by decide) (by have:=gq7_.2;omega) ?_
  intro v13 w hs
  refine g_d rfl ?_
  try dsimp only [Qap,Qaq]
  have hs:=hs.fill 3 rfl
  refine hk _ _ ⟨v7,v9,v11,v13,b15,O,?_,hs.cast ?_⟩<;>simp only [oT,lq,cq,Nat.reduceBEq,p6_,q8_,q9_,q10_]
 ·
  rintro D t w hD hp hcl ⟨v7,v9,v11,v13,b15,O,ht,hs⟩ rest hk
  obtain ⟨p1_,p3_,p5_,p7_,_⟩:=hp
  obtain ⟨p6_,_,_⟩:=(hcl.get 7 (by decide)) p7_
  obtain ⟨p4_,_,_⟩:=(hcl.get 5 (by decide)) p5_
  obtain ⟨p2_,_,_⟩:=(hcl.get 3 (by decide)) p3_
  obtain ⟨p0_,_,_⟩:=(hcl.get 1 (by decide)) p1_
  have q9_:=nz hcl 9 0 hD
  have q10_:=nz hcl 10 0 q9_
  simp only [hD,p0_,p1_,p2_,p3_,p4_,p5_,p6_,p7_,q9_,q10_,cq,oT] at ht hs
  subst ht
  refine Qab (v:=agg (([v7,v9,v11,v13]:List Value)).toArray) rfl rfl (QbD (cs:=(([v7,v9,v11,v13]:List Value))) (segs:=[[slice none 0 0],[slice none 0 0],[slice none 0 0],[slice none 0 0]]) rfl rfl (fun _=>rfl) ⟨rfl,(fun _=>rfl),rfl,(fun _=>rfl),rfl,(fun _=>rfl),rfl,(fun _=>rfl),trivial⟩ (by simp only [List.map_cons,List.map_nil,List.forall_mem_cons,List.not_mem_nil,false_implies,implies_true,and_true];exact ⟨⟨_,rfl,slSize (hs.row 0 rfl)⟩,⟨_,rfl,slSize (hs.row 1 rfl)⟩,⟨_,rfl,slSize (hs.row 2 rfl)⟩,⟨_,rfl,slSize (hs.row 3 rfl)⟩⟩) (by first|rfl|(simp [ev,encA,slCells (hs.row 0 rfl),slCells (hs.row 1 rfl),slCells (hs.row 2 rfl),slCells (hs.row 3 rfl)];done)|(simp [ev,encA,slCells (hs.row 0 rfl),slCells (hs.row 1 rfl),slCells (hs.row 2 rfl),slCells (hs.row 3 rfl)];rfl))) ?_
  refine g_d rfl ?_
  try dsimp only [Qap,Qaq]
  refine hk _ _ ⟨v7,v9,v11,v13,b15,O,?_,hs.cast ?_⟩<;>simp only [oT,lq,cq,Nat.reduceBEq,p0_,p1_,p2_,p3_,p4_,p5_,p6_,p7_,q9_,q10_]
 ·
  rintro D t w hD hp hcl ⟨v7,v9,v11,v13,b15,O,ht,hs⟩ rest hk
  obtain ⟨p8_,_⟩:=hp
  obtain ⟨p1_,p3_,p5_,p7_,_⟩:=(hcl.get 8 (by decide)) p8_
  obtain ⟨p6_,_,_⟩:=(hcl.get 7 (by decide)) p7_
  obtain ⟨p4_,_,_⟩:=(hcl.get 5 (by decide)) p5_
  obtain ⟨p2_,_,_⟩:=(hcl.get 3 (by decide)) p3_
  obtain ⟨p0_,_,_⟩:=(hcl.get 1 (by decide)) p1_
  have q10_:=nz hcl 10 0 hD
  simp only [hD,p0_,p1_,p2_,p3_,p4_,p5_,p6_,p7_,p8_,q10_,cq,oT] at ht hs
  subst ht
  refine Qbl hs rfl rfl (cs:=(([v7,v9,v11,v13]:List Value))) rfl rfl ?_
  intro b15 w hs
  refine g_d rfl ?_
  try dsimp only [Qap,Qaq]
  have hs:=hs.fill 4 rfl
  refine hk _ _ ⟨v7,v9,v11,v13,b15,O,?_,hs.cast ?_⟩<;>simp only [oT,lq,cq,Nat.reduceBEq,p0_,p1_,p2_,p3_,p4_,p5_,p6_,p7_,p8_,q10_]
 ·
  rintro D t w hD hp hcl ⟨v7,v9,v11,v13,b15,O,ht,hs⟩ rest hk
  obtain ⟨p9_,p0_,p1_,p2_,p3_,p4_,p5_,p6_,p7_,p8_,_,_⟩:=hp
  simp only [hD,p0_,p1_,p2_,p3_,p4_,p5_,p6_,p7_,p8_,p9_,cq,oT] at ht hs
  subst ht
  refine Qab (v:=pointer (some ⟨b15,0,none⟩)) rfl rfl rfl (g_d rfl ?_)
  try dsimp only [Qap,Qaq]
  refine hk _ _ ⟨v7,v9,v11,v13,b15,O,?_,hs.cast ?_⟩<;>simp only [oT,lq,cq,Nat.reduceBEq,p0_,p1_,p2_,p3_,p4_,p5_,p6_,p7_,p8_,p9_]
 intro D t w hall hI
 obtain ⟨v7,v9,v11,v13,b15,O,ht,hs⟩:=hI
 have p0_:=hall 0 (by decide)
 have p1_:=hall 1 (by decide)
 have p2_:=hall 2 (by decide)
 have p3_:=hall 3 (by decide)
 have p4_:=hall 4 (by decide)
 have p5_:=hall 5 (by decide)
 have p6_:=hall 6 (by decide)
 have p7_:=hall 7 (by decide)
 have p8_:=hall 8 (by decide)
 have p9_:=hall 9 (by decide)
 have p10_:=hall 10 (by decide)
 simp only [p0_,p1_,p2_,p3_,p4_,p5_,p6_,p7_,p8_,p9_,p10_,cq,oT] at ht hs
 subst ht
 refine Qah (Qah (Qat [0] rfl ?_))
 refine Qab (v:=int .i64 0) rfl rfl rfl (g_d rfl (Qad ?_))
 obtain ⟨o1_,Ho,Hr1_⟩:=bind_get H
 refine QaX (J:=fun t w=>∃ x27:(List Int),Qas.a0 N a1 r6 x27=some r∧Fr t (fun O=>(pointer (some ⟨b2,0,none⟩)::O 1::O 2::O 3::pointer (some ⟨b15,0,none⟩)::O 5::O 6::O 7::O 8::O 9::oT O 1 (oT O 2 (oT O 3 (oT O 4 (oT O 5 (oT O 6 (oT O 7 (oT O 8 (oT O 9 (oT O 10 (oT O 11 (oT O 12 (oT O 13 (oT O 14 (oT O 15 (oT O 16 ([])))))))))))))))):List Value))∧St w0 [Cells b15 (([v7,v9,v11,v13]:List Value)) 39,Row 57 (K.int .i16) v7 x27,Row 2 (K.int .i64) v9 (List.replicate ((i64w (2*(i64w ((i64w r6)+1))))).toNat (0:Int)),Row 2 (K.int .i64) v11 (List.replicate ((i64w (2*(i64w ((i64w r6)+1))))).toNat (0:Int)),Row 46 (K.int .u16) v13 (List.replicate ((i64w (2*(i64w ((i64w r6)+1))))).toNat (0:Int))] w) ?_ ?_
 ·exact Qas.seg1 hr4 hp0
 intro ha1_
 have hs:=hs.pull 4 rfl
 have hs:=hs.pull 4 rfl
 have hs:=hs.pull 4 rfl
 have hs:=hs.pull 4 rfl
 have hs:=hs.pull 4 rfl
 have hs:St _ [_,_,_,_,_] _:=St.take (Γ':=[]) hs
 refine Qa9 (I:=fun n_ t w=>∃ x24:(List Int),∃ x25:Int,rounds (fun s=>Qas.b0 N r6 s.1 s.2) n_ (x24,x25)=some o1_∧Fr t (fun O=>(pointer (some ⟨b2,0,none⟩)::O 1::O 2::int .i64 (i64w (2*(i64w ((i64w r6)+1))))::pointer (some ⟨b15,0,none⟩)::int .i64 x25::O 6::O 7::O 8::O 9::oT O 1 (oT O 2 (oT O 3 (oT O 4 (oT O 5 (oT O 6 (oT O 7 (oT O 8 (oT O 9 (oT O 10 (oT O 11 (oT O 12 (oT O 13 (oT O 14 (oT O 15 (oT O 16 ([])))))))))))))))):List Value))∧St w0 [Row 57 (K.int .i16) v7 x24,Row 2 (K.int .i64) v9 (List.replicate ((i64w (2*(i64w ((i64w r6)+1))))).toNat (0:Int)),Row 2 (K.int .i64) v11 (List.replicate ((i64w (2*(i64w ((i64w r6)+1))))).toNat (0:Int)),Row 46 (K.int .u16) v13 (List.replicate ((i64w (2*(i64w ((i64w r6)+1))))).toNat (0:Int)),Cells b15 (([v7,v9,v11,v13]:List Value)) 39] w) N ⟨List.replicate ((i64w (2*(i64w ((i64w r6)+1))))).toNat (0:Int),0,Ho,rfl,hs⟩ ?_ ?_
 ·
  rintro _ _ ⟨x24,x25,h,_⟩
  exact rounds_zero h
 intro n_ ih1_
 rintro t w ⟨x24,x25,Ho,hf,hs⟩
 obtain ⟨O,rfl⟩:=hf.open
 try dsimp only [oT]
 obtain ⟨x106_,H,Hx1_⟩:=rounds_succ Ho
 have H:Qas.b0 N r6 x24 x25=some x106_:=H
 unfold Qas.b0 at H
 refine Qah (Qah (Qat [0,1,2] rfl ?_))
 refine Qab (v:=int .i64 x25) rfl rfl rfl (g_d rfl ?_)
 refine Qab (v:=int .i64 (i64w (2*(i64w ((i64w r6)+1))))) rfl rfl rfl (g_d rfl ?_)
 refine QaQ (B:=decide (x25< (i64w (2*(i64w ((i64w r6)+1)))))) rfl rfl rfl ?_ ?_
 ·
  intro hb
  rw [if_pos (b_dec_t hb)] at H
  refine g_d rfl (Qad (Qav rfl (QaO (Qah ?_))))
  refine Qby (Qat [0,1,2,3,4,5,6] rfl ?_)
  refine Qab (v:=pointer (some ⟨b15,0,none⟩)) rfl rfl rfl (g_d rfl ?_)
  refine Qab (v:=pointer (some ⟨b15,0,none⟩)) rfl rfl rfl (g_d rfl ?_)
  refine Qab (v:=pointer (some ⟨b15,0,none⟩)) rfl rfl rfl (g_d rfl ?_)
  refine Qaz rfl rfl (v:=v7) rfl rfl (fun _=>rfl) (cells_load (hs.cells 4 rfl) 0 1 rfl) (g_d rfl ?_)
  try dsimp only [Qap,Qaq]
  refine Qab (v:=int .i64 x25) rfl rfl rfl (g_d rfl ?_)
  obtain ⟨g2,H⟩:=ite_get H
  refine QbH (fkI .i16) 0 (hs.row 0 rfl) rfl (fun _=>rfl) g2.1 g2.2 rfl rfl rfl rfl rfl ?_
  intro p26 hp26 lp26 op26
  refine g_d rfl ?_
  refine QbN (y:=(-1)) (fkI .i16) g2.1 g2.2 op26 hs rfl rfl rfl rfl rfl (fun _=>rfl) ?_
  intro w hs
  refine g_n rfl (Qad ?_)
  refine Qa2 (Qat [0,1,2] rfl ?_)
  refine Qab (v:=int .i64 x25) rfl rfl rfl (g_d rfl ?_)
  refine Qab (v:=int .i64 (i64w (x25+1))) rfl rfl rfl (g_d rfl ?_)
  try dsimp only [Qap,Qaq]
  refine Qab (v:=int .i64 (i64w (x25+1))) rfl rfl rfl (g_d rfl (Qad ?_))
  obtain rfl:=QsJ H
  have hs:=hs.pull 4 rfl
  have hs:=hs.pull 4 rfl
  have hs:=hs.pull 4 rfl
  have hs:=hs.pull 4 rfl
  have hs:=hs.pull 4 rfl
  have hs:St _ [_,_,_,_,_] _:=St.take (Γ':=[]) hs
  exact ih1_ _ _ ⟨stL x24 x25 (-1),i64w (x25+1),Hx1_,rfl,hs⟩
 intro hb
 rw [if_neg (b_dec_f hb)] at H
 refine g_d rfl ?_
 try dsimp only [Qap,Qaq]
 refine Qad (Qax rfl ?_)
 obtain rfl:=QsJ H
 subst Hx1_
 have hs:=hs.pull 3 rfl
 have hs:=hs.pull 3 rfl
 have hs:=hs.pull 3 rfl
 have hs:=hs.pull 3 rfl
 have hs:=hs.pull 4 rfl
 have hs:St _ [_,_,_,_,_] _:=St.take (Γ':=[]) hs
 refine Qbx rfl ?_
 exact ha1_ _ _ ⟨x24,Hr1_,rfl,hs⟩
def Qbv.post (w0:World) (r:Int) (v:Value) (w:World):Prop:=v=int .i64 r∧St w0 [] w
theorem Qbv.calls {N:Nat} {a1:Qae} {b2:Nat} {v3:Value} {w0:World} {r:Int} (hr4:RdRow (K.int .u16) w0 v3 a1.Qai) (hp0:w0.heap[b2]?=some (.cells ((([int .i8 a1.Qac,int .i8 a1.Qaf,v3]:List Value)):List Value).toArray 29 (0,0))) (H:Qbv.f N a1=some r):
 Calls Try.prog 12 #[pointer (some ⟨b2,0,none⟩)] w0 fun e w=>∃ v,e= .returned v∧Qbv.post w0 r v w:=by
 unfold Qbv.f at H
 have hs:St w0 [] w0:=St.refl w0
 refine calls_of_g (n:=6) Try.func12 rfl rfl ?_
 show G _ _ _ _ [_,_,_,_,_,_,_] _
 refine Qah (Qat [0] rfl ?_)
 refine Qab (v:=int .i64 0) rfl rfl rfl ?_
 show G _ _ _ _ [_,_,_,_,_,_,_] _
 refine Qad (Qah (Qat [0,1,2,3,4] rfl ?_))
 refine Qab (v:=pointer (some ⟨b2,0,none⟩)) rfl rfl rfl ?_
 obtain ⟨r6,Hr6,H⟩:=bind_get H
 refine QaG (args:=[pointer (some ⟨b2,0,none⟩)]) rfl rfl (QaH rfl (callFunc_enter Try.func23 rfl rfl) rfl) (QaV.calls (a1:=(⟨a1.Qac,a1.Qaf,a1.Qai⟩:Qae)) (hs.rd hr4) (hs.box hp0) Hr6) ?_
 rintro _ w ⟨rfl,hs2⟩
 have hs:St _ [] _:=hs.call hs2
 refine Qab (v:=int .i64 (i64w r6)) rfl rfl rfl ?_
 show G _ _ _ _ [_,_,_,_,_,_,_] _
 refine Qab (v:=int .i64 (i64w ((i64w r6)+1))) rfl rfl rfl ?_
 refine Qab (v:=int .i64 (i64w ((i64w r6)+1))) rfl rfl rfl (Qad ?_)
 obtain rfl:=QsJ H
 refine QaI Try.func12 (v:=int .i64 (i64w ((i64w r6)+1))) (res1 rfl rfl) ?_
 have hs:St _ [] _:=St.take (Γ':=[]) hs
 exact ⟨_,rfl,rfl,hs⟩
def Qbg.post (w0:World) (r:(Int×Int)) (v:Value) (w:World):Prop:=v=tuple #[int .i64 r.1,int .i64 r.2]∧St w0 [] w
theorem Qbg.calls {N:Nat} {a1:Qae} {v2:Value} {w0:World} {r:(Int×Int)} (hr3:RdRow (K.int .u16) w0 v2 a1.Qai) (H:Qbg.f N a1=some r):
 Calls Try.prog 5 #[agg (([int .i8 a1.Qac,int .i8 a1.Qaf,v2]:List Value)).toArray] w0 fun e w=>∃ v,e= .returned v∧Qbg.post w0 r v w:=by
 unfold Qbg.f at H
 have hs:St w0 [] w0:=St.refl w0
 refine calls_of_g (n:=16) Try.func5 rfl rfl ?_
 show G _ _ _ _ [_,_,_,_,_,_,_,_,_,_,_,_,_,_,_,_,_] _
 refine Qah (Qat [0,1,2] rfl ?_)
 refine Qbl hs rfl rfl (cs:=(([int .i8 a1.Qac,int .i8 a1.Qaf,v2]:List Value))) rfl rfl ?_
 intro b4 w hs
 show G _ _ _ _ [_,_,_,_,_,_,_,_,_,_,_,_,_,_,_,_,_] _
 refine Qab (v:=int .i64 0) rfl rfl rfl ?_
 refine Qab (v:=int .i64 0) rfl rfl rfl (Qad (Qah (Qah (Qat [0,1] rfl ?_))))
 obtain ⟨r6,Hr6,H⟩:=bind_get H
 refine QaG (args:=[pointer (some ⟨b4,0,none⟩)]) rfl rfl (QaH rfl (callFunc_enter Try.func10 rfl rfl) rfl) (Qa1.calls (a1:=(⟨a1.Qac,a1.Qaf,a1.Qai⟩:Qae)) (hs.rd hr3) (hs.cells 0 rfl) Hr6) ?_
 rintro _ w ⟨rfl,hs2⟩
 have hs:St _ [_] _:=hs.call hs2
 cases r6 with
 |true=>
  rw [if_pos rfl] at H
  show G _ _ _ _ [_,_,_,_,_,_,_,_,_,_,_,_,_,_,_,_,_] _
  refine Qab (v:=bool false) rfl rfl rfl (Qad (Qax rfl (QaO (Qah ?_))))
  refine QbO (n:=8) rfl [0,1,2,3,4,5,6,7] [0,1,2,3,4,5,6,7] rfl rfl ?_
  intro rest w hh hbw hO
  have hs:=hs.samew hh hbw
  show G _ _ _ _ [_,_,_,_,_,_,_,_,_,_,_,_,_,_,_,_,_] _
  obtain ⟨rest,rfl,hO1_⟩:=ord_one (m:=0) hO rfl 0 (m':=1) (by decide+kernel) rfl
  clear hO
  obtain ⟨r7,Hr7,H⟩:=bind_get H
  refine QaG (args:=[pointer (some ⟨b4,0,none⟩)]) rfl rfl (QaH rfl (callFunc_enter Try.func11 rfl rfl) rfl) (Qas.calls (a1:=(⟨a1.Qac,a1.Qaf,a1.Qai⟩:Qae)) (hs.rd hr3) (hs.cells 0 rfl) Hr7) ?_
  rintro _ w ⟨b8,v9,v10,v11,v12,rfl,hs2⟩
  have hs:St _ [_,_,_,_,_,_] _:=hs.call hs2
  obtain ⟨r18,Hr18,H⟩:=bind_get H
  refine Qa6 ?_
  intro T hT
  refine Qbw (m0:=1) hO1_ rfl 31 [1,2,3,4] [0,1,3,7,1,31,63,127] (by decide+kernel) (fun D t w=>∃ O:Nat→Value,t=[agg (([int .i8 a1.Qac,int .i8 a1.Qaf,v2]:List Value)).toArray,pointer (some ⟨b4,0,none⟩),int .i64 0,int .i64 0,O 4,bool true,bool false,pointer (some ⟨b8,0,none⟩),cnd (D 1) (pointer (some ⟨b8,0,none⟩)) (O 8),cnd (D 2) (pointer (some ⟨b8,1,none⟩)) (O 9),cnd (D 3) v10 (O 10),cnd (D 4) (int .i64 r18) (O 11),O 12,O 13,O 14,O 15,O 16]∧St w0 [Cells b8 (([v9,v10,v11,v12]:List Value)) 39,Row 57 (K.int .i16) v9 r7.Qce,Row 2 (K.int .i64) v10 r7.QbJ,Row 2 (K.int .i64) v11 r7.Qci,Row 46 (K.int .u16) v12 r7.Qct,Cells b4 (([int .i8 a1.Qac,int .i8 a1.Qaf,v2]:List Value)) 29] w) ?_ ⟨?_,⟨?_,⟨?_,⟨?_,trivial⟩⟩⟩⟩ ?_
  ·exact ⟨fun i=>T.getD i undef,(by subst hT;rfl),hs⟩
  ·
   rintro D t w hD hp hcl ⟨O,ht,hs⟩ rest hk
   have hp:AllDone D [0]:=hp
   obtain ⟨p0_,_⟩:=hp
   have q2_:=ny hcl 2 0 hD
   have q3_:=ny hcl 3 0 q2_
   simp only [hD,q2_,q3_,cq,oT] at ht hs
   subst ht
   refine Qab (v:=pointer (some ⟨b8,0,none⟩)) rfl rfl rfl ?_
   show G _ _ _ _ [_,_,_,_,_,_,_,_,_,_,_,_,_,_,_,_,_] _
   refine hk _ _ ⟨O,?_,hs.cast ?_⟩<;>simp only [oT,lq,cq,Nat.reduceBEq,q2_,q3_]
  ·
   rintro D t w hD hp hcl ⟨O,ht,hs⟩ rest hk
   have hp:AllDone D [1]:=hp
   obtain ⟨p1_,_⟩:=hp
   have q3_:=ny hcl 3 0 hD
   simp only [hD,p1_,q3_,cq,oT] at ht hs
   subst ht
   refine Qab (v:=pointer (some ⟨b8,1,none⟩)) rfl rfl rfl ?_
   show G _ _ _ _ [_,_,_,_,_,_,_,_,_,_,_,_,_,_,_,_,_] _
   refine hk _ _ ⟨O,?_,hs.cast ?_⟩<;>simp only [oT,lq,cq,Nat.reduceBEq,p1_,q3_]
  ·
   rintro D t w hD hp hcl ⟨O,ht,hs⟩ rest hk
   have hp:AllDone D [2]:=hp
   obtain ⟨p2_,_⟩:=hp
   obtain ⟨p1_,_⟩:=(show D 2=true→AllDone D [1] from hcl 2 (by decide)) p2_
   simp only [hD,p1_,p2_,cq,oT] at ht hs
   subst ht
   refine Qaz rfl rfl (v:=v10) rfl rfl (fun _=>rfl) (cells_load (hs.cells 0 rfl) 1 1 rfl) ?_
   show G _ _ _ _ [_,_,_,_,_,_,_,_,_,_,_,_,_,_,_,_,_] _
   refine hk _ _ ⟨O,?_,hs.cast ?_⟩<;>simp only [oT,lq,cq,Nat.reduceBEq,p1_,p2_]
  ·
   rintro D t w hD hp hcl ⟨O,ht,hs⟩ rest hk
   have hp:AllDone D [0]:=hp
   obtain ⟨p0_,_⟩:=hp
   simp only [hD,cq,oT] at ht hs
   subst ht
   refine QaG (args:=[pointer (some ⟨b4,0,none⟩)]) rfl rfl (QaH rfl (callFunc_enter Try.func12 rfl rfl) rfl) (Qbv.calls (a1:=(⟨a1.Qac,a1.Qaf,a1.Qai⟩:Qae)) (hs.rd hr3) (hs.cells 5 rfl) Hr18) ?_
   rintro _ w ⟨rfl,hs2⟩
   have hs:St _ [_,_,_,_,_,_] _:=hs.call hs2
   show G _ _ _ _ [_,_,_,_,_,_,_,_,_,_,_,_,_,_,_,_,_] _
   refine hk _ _ ⟨O,?_,hs.cast ?_⟩<;>simp only [oT,lq,cq,Nat.reduceBEq]
  intro D t w rest hall hO2_ hI
  obtain ⟨O,ht,hs⟩:=hI
  have p1_:=hall 1 (by decide) rfl
  have p2_:=hall 2 (by decide) rfl
  have p3_:=hall 3 (by decide) rfl
  have p4_:=hall 4 (by decide) rfl
  simp only [p1_,p2_,p3_,p4_,cq,oT] at ht hs
  subst ht
  obtain ⟨rest,rfl,hO3_⟩:=ord_one (m:=31) hO2_ rfl 5 (m':=63) (by decide+kernel) rfl
  clear hO2_
  obtain ⟨g4,H⟩:=ite_get H
  refine QbH (fkI .i64) 0 (hs.row 2 rfl) rfl (fun _=>rfl) g4.1 g4.2 rfl rfl rfl rfl rfl ?_
  intro p19 hp19 lp19 op19
  show G _ _ _ _ [_,_,_,_,_,_,_,_,_,_,_,_,_,_,_,_,_] _
  obtain ⟨rest,rfl,hO5_⟩:=ord_one (m:=63) hO3_ rfl 6 (m':=127) (by decide+kernel) rfl
  clear hO3_
  refine Qaz rfl rfl (v:=int .i64 (rdL r7.QbJ r18 0)) rfl rfl (fun _=>rfl) hp19 ?_
  obtain ⟨rest,rfl,hO6_⟩:=ord_one (m:=127) hO5_ rfl 7 (m':=255) (by decide+kernel) rfl
  clear hO5_
  refine Qab (v:=int .i64 (rdL r7.QbJ r18 0)) rfl rfl rfl ?_
  obtain rfl:=ord_end hO6_ rfl (by decide+kernel)
  refine Qad (Qah (Qah (Qat [0,1] rfl ?_)))
  refine Qab (v:=int .i64 (rdL r7.QbJ r18 0)) rfl rfl rfl ?_
  show G _ _ _ _ [_,_,_,_,_,_,_,_,_,_,_,_,_,_,_,_,_] _
  refine QaQ (B:=(rdL r7.QbJ r18 0)==0) rfl rfl rfl ?_ ?_
  ·
   intro hb
   rw [if_pos (b_beq_t hb)] at H
   refine Qad (Qav rfl (Qah (Qat [0,1] rfl ?_)))
   refine Qab (v:=int .i64 0) rfl rfl rfl ?_
   show G _ _ _ _ [_,_,_,_,_,_,_,_,_,_,_,_,_,_,_,_,_] _
   refine Qab (v:=int .i64 6) rfl rfl rfl (Qad ?_)
   obtain rfl:=QsJ H
   refine QaI Try.func5 (v:=tuple #[int .i64 0,int .i64 6]) (resN (l:=Try.f5.results.toList) (vs:=[int .i64 0,int .i64 6]) rfl ⟨rfl,rfl,trivial⟩ (by simp)) ?_
   have hs:St _ [] _:=St.take (Γ':=[_,_,_,_,_,_]) hs
   exact ⟨_,rfl,rfl,hs⟩
  intro hb
  rw [if_neg (b_beq_f hb)] at H
  refine Qad (Qax rfl (QaO (Qah (Qat [0,1,2] rfl ?_))))
  refine Qab (v:=int .i64 (rdL r7.QbJ r18 0)) rfl rfl rfl ?_
  refine Qab (v:=int .i64 (rdL r7.QbJ r18 0)) rfl rfl rfl ?_
  show G _ _ _ _ [_,_,_,_,_,_,_,_,_,_,_,_,_,_,_,_,_] _
  refine Qab (v:=int .i64 0) rfl rfl rfl (Qad ?_)
  obtain rfl:=QsJ H
  refine QaI Try.func5 (v:=tuple #[int .i64 (rdL r7.QbJ r18 0),int .i64 0]) (resN (l:=Try.f5.results.toList) (vs:=[int .i64 (rdL r7.QbJ r18 0),int .i64 0]) rfl ⟨rfl,rfl,trivial⟩ (by simp)) ?_
  have hs:St _ [] _:=St.take (Γ':=[_,_,_,_,_,_]) hs
  exact ⟨_,rfl,rfl,hs⟩
 |false=>
  rw [if_neg Bool.false_ne_true] at H
  show G _ _ _ _ [_,_,_,_,_,_,_,_,_,_,_,_,_,_,_,_,_] _
  refine Qab (v:=bool true) rfl rfl rfl (Qad (Qav rfl (Qah (Qat [0,1] rfl ?_))))
  refine Qab (v:=int .i64 0) rfl rfl rfl ?_
  refine Qab (v:=int .i64 1) rfl rfl rfl ?_
  show G _ _ _ _ [_,_,_,_,_,_,_,_,_,_,_,_,_,_,_,_,_] _
  refine Qad ?_
  obtain rfl:=QsJ H
  refine QaI Try.func5 (v:=tuple #[int .i64 0,int .i64 1]) (resN (l:=Try.f5.results.toList) (vs:=[int .i64 0,int .i64 1]) rfl ⟨rfl,rfl,trivial⟩ (by simp)) ?_
  have hs:St _ [] _:=St.take (Γ':=[_]) hs
  exact ⟨_,rfl,rfl,hs⟩
def Qbq.post (w0:World) (r:Bool) (v:Value) (w:World):Prop:=v=bool r∧St w0 [] w
theorem Qbq.calls {N:Nat} {a1:Int} {a2:Int} {a3:Int} {w0:World} {r:Bool} (H:Qbq.f N a1 a2 a3=some r):
 Calls Try.prog 29 #[int .i64 a1,int .i64 a2,int .i64 a3] w0 fun e w=>∃ v,e= .returned v∧Qbq.post w0 r v w:=by
 unfold Qbq.f at H
 have hs:St w0 [] w0:=St.refl w0
 refine calls_of_g (n:=12) Try.func29 rfl rfl ?_
 show G _ _ _ _ [_,_,_,_,_,_,_,_,_,_,_,_,_,_,_] _
 refine Qah (Qat [0] rfl ?_)
 refine Qab (v:=bool false) rfl rfl rfl (Qad (Qah (Qat [0,1,2,3,4,5,6,7,8] rfl ?_)))
 refine Qab (v:=int .i64 a2) rfl rfl rfl ?_
 show G _ _ _ _ [_,_,_,_,_,_,_,_,_,_,_,_,_,_,_] _
 refine Qab (v:=int .i64 a1) rfl rfl rfl ?_
 refine QaQ (B:=decide (a2≤a1)) rfl rfl rfl ?_ ?_
 ·
  intro hb
  rw [if_pos (b_dec_t hb)] at H
  show G _ _ _ _ [_,_,_,_,_,_,_,_,_,_,_,_,_,_,_] _
  refine Qab (v:=bool true) rfl rfl rfl ?_
  refine Qab (v:=int .i64 a1) rfl rfl rfl ?_
  refine Qab (v:=int .i64 a3) rfl rfl rfl ?_
  show G _ _ _ _ [_,_,_,_,_,_,_,_,_,_,_,_,_,_,_] _
  refine Qab (v:=bool (decide (a1≤a3))) rfl rfl rfl ?_
  refine Qab (v:=bool (decide (a1≤a3))) rfl rfl rfl ?_
  refine Qab (v:=bool (decide (a1≤a3))) rfl rfl rfl ?_
  show G _ _ _ _ [_,_,_,_,_,_,_,_,_,_,_,_,_,_,_] _
  refine Qad ?_
  obtain rfl:=QsJ H
  refine QaI Try.func29 (v:=bool (decide (a1≤a3))) (res1 rfl rfl) ?_
  have hs:St _ [] _:=St.take (Γ':=[]) hs
  exact ⟨_,rfl,rfl,hs⟩
 intro hb
 rw [if_neg (b_dec_f hb)] at H
 refine Qab (v:=bool false) rfl rfl rfl ?_
 show G _ _ _ _ [_,_,_,_,_,_,_,_,_,_,_,_,_,_,_] _
 refine QaD rfl rfl (QaD rfl rfl (QaD rfl rfl ?_))
 show G _ _ _ _ [_,_,_,_,_,_,_,_,_,_,_,_,_,_,_] _
 refine Qab (v:=bool false) rfl rfl rfl ?_
 refine Qab (v:=bool false) rfl rfl rfl (Qad ?_)
 obtain rfl:=QsJ H
 refine QaI Try.func29 (v:=bool false) (res1 rfl rfl) ?_
 have hs:St _ [] _:=St.take (Γ':=[]) hs
 exact ⟨_,rfl,rfl,hs⟩
def QaR.post (w0:World) (r:Int) (v:Value) (w:World):Prop:=v=int .u16 r∧St w0 [] w
theorem QaR.calls {N:Nat} {a1:Qae} {v2:Value} {w0:World} {r:Int} (hr3:RdRow (K.int .u16) w0 v2 a1.Qai) (H:QaR.f N a1=some r):
 Calls Try.prog 16 #[agg (([int .i8 a1.Qac,int .i8 a1.Qaf,v2]:List Value)).toArray] w0 fun e w=>∃ v,e= .returned v∧QaR.post w0 r v w:=by
 unfold QaR.f at H
 have hs:St w0 [] w0:=St.refl w0
 refine calls_of_g (n:=6) Try.func16 rfl rfl ?_
 show G _ _ _ _ [_,_,_,_,_,_,_] _
 refine Qah (Qat [0,1] rfl ?_)
 refine Qbl hs rfl rfl (cs:=(([int .i8 a1.Qac,int .i8 a1.Qaf,v2]:List Value))) rfl rfl ?_
 intro b4 w hs
 refine Qab (v:=int .u16 0) rfl rfl rfl (Qad (Qah (Qat [0,1,2,3,4] rfl ?_)))
 refine Qab (v:=pointer (some ⟨b4,0,none⟩)) rfl rfl rfl ?_
 show G _ _ _ _ [_,_,_,_,_,_,_] _
 refine Qaz rfl rfl (v:=int .i8 a1.Qac) rfl rfl (fun _=>rfl) (cells_load (hs.cells 0 rfl) 0 1 rfl) ?_
 obtain ⟨g1,H⟩:=ite_get H
 refine Qab (v:=int .u16 (shlI .u16 1 a1.Qac)) rfl rfl (Qb8 rfl rfl rfl g1) ?_
 refine Qab (v:=int .u16 (u16w ((shlI .u16 1 a1.Qac) - 1))) rfl rfl rfl ?_
 show G _ _ _ _ [_,_,_,_,_,_,_] _
 refine Qab (v:=int .u16 (u16w ((shlI .u16 1 a1.Qac) - 1))) rfl rfl rfl (Qad ?_)
 obtain rfl:=QsJ H
 refine QaI Try.func16 (v:=int .u16 (u16w ((shlI .u16 1 a1.Qac) - 1))) (res1 rfl rfl) ?_
 have hs:St _ [] _:=St.take (Γ':=[_]) hs
 exact ⟨_,rfl,rfl,hs⟩
def Qba.post (w0:World) (r:Bool) (v:Value) (w:World):Prop:=v=bool r∧St w0 [] w
theorem Qba.calls {N:Nat} {a1:Int} {a2:Int} {w0:World} {r:Bool} (H:Qba.f N a1 a2=some r):
 Calls Try.prog 32 #[int .u16 a1,int .u16 a2] w0 fun e w=>∃ v,e= .returned v∧Qba.post w0 r v w:=by
 unfold Qba.f at H
 have hs:St w0 [] w0:=St.refl w0
 refine calls_of_g (n:=7) Try.func32 rfl rfl ?_
 show G _ _ _ _ [_,_,_,_,_,_,_,_,_] _
 refine Qah (Qat [0] rfl ?_)
 refine Qab (v:=bool false) rfl rfl rfl ?_
 show G _ _ _ _ [_,_,_,_,_,_,_,_,_] _
 refine Qad (Qah (Qat [0,1,2,3,4] rfl ?_))
 refine Qab (v:=int .u16 a1) rfl rfl rfl ?_
 refine Qab (v:=int .u16 a2) rfl rfl rfl ?_
 refine Qab (v:=int .u16 (bAndNot .u16 a1 a2)) rfl rfl rfl ?_
 show G _ _ _ _ [_,_,_,_,_,_,_,_,_] _
 refine Qab (v:=bool ((bAndNot .u16 a1 a2)==0)) rfl rfl rfl ?_
 refine Qab (v:=bool ((bAndNot .u16 a1 a2)==0)) rfl rfl rfl (Qad ?_)
 obtain rfl:=QsJ H
 refine QaI Try.func32 (v:=bool ((bAndNot .u16 a1 a2)==0)) (res1 rfl rfl) ?_
 have hs:St _ [] _:=St.take (Γ':=[]) hs
 exact ⟨_,rfl,rfl,hs⟩
def Qa3.post (w0:World) (r:Int) (v:Value) (w:World):Prop:=v=int .i64 r∧St w0 [] w
theorem Qa3.calls {N:Nat} {a1:Int} {w0:World} {r:Int} (H:Qa3.f N a1=some r):
 Calls Try.prog 33 #[int .u16 a1] w0 fun e w=>∃ v,e= .returned v∧Qa3.post w0 r v w:=by
 unfold Qa3.f at H
 have hs:St w0 [] w0:=St.refl w0
 refine calls_of_g (n:=10) Try.func33 rfl rfl ?_
 show G _ _ _ _ [_,_,_,_,_,_,_,_,_,_,_] _
 refine Qah (Qat [0] rfl ?_)
 refine Qab (v:=int .i64 0) rfl rfl rfl (Qad (Qah ?_))
 obtain ⟨gd1,H⟩:=ite_get H
 obtain ⟨gd2,H⟩:=ite_get H
 refine Qa6 ?_
 intro T hT
 refine QbF (n:=9) rfl [0,1,2,3,4,5,6,7,8] [0,1,2,3,4,5,6,7,8] rfl rfl (Inv:=fun D t w=>∃ O:Nat→Value,t=[int .u16 a1,O 1,cnd (D 8) (int .i64 (i64w (u8w ((btS (⟨#[0,1,1,2,1,2,2,3,1,2,2,3,2,3,3,4,1,2,2,3,2,3,3,4,2,3,3,4,3,4,4,5,1,2,2,3,2,3,3,4,2,3,3,4,3,4,4,5,2,3,3,4,3,4,4,5,3,4,4,5,4,5,5,6,1,2,2,3,2,3,3,4,2,3,3,4,3,4,4,5,2,3,3,4,3,4,4,5,3,4,4,5,4,5,5,6,2,3,3,4,3,4,4,5,3,4,4,5,4,5,5,6,3,4,4,5,4,5,5,6,4,5,5,6,5,6,6,7,1,2,2,3,2,3,3,4,2,3,3,4,3,4,4,5,2,3,3,4,3,4,4,5,3,4,4,5,4,5,5,6,2,3,3,4,3,4,4,5,3,4,4,5,4,5,5,6,3,4,4,5,4,5,5,6,4,5,5,6,5,6,6,7,2,3,3,4,3,4,4,5,3,4,4,5,4,5,5,6,3,4,4,5,4,5,5,6,4,5,5,6,5,6,6,7,3,4,4,5,4,5,5,6,4,5,5,6,5,6,6,7,4,5,5,6,5,6,6,7,5,6,6,7,6,7,7,8]⟩:ByteArray) (shrI .u16 a1 8))+(btS (⟨#[0,1,1,2,1,2,2,3,1,2,2,3,2,3,3,4,1,2,2,3,2,3,3,4,2,3,3,4,3,4,4,5,1,2,2,3,2,3,3,4,2,3,3,4,3,4,4,5,2,3,3,4,3,4,4,5,3,4,4,5,4,5,5,6,1,2,2,3,2,3,3,4,2,3,3,4,3,4,4,5,2,3,3,4,3,4,4,5,3,4,4,5,4,5,5,6,2,3,3,4,3,4,4,5,3,4,4,5,4,5,5,6,3,4,4,5,4,5,5,6,4,5,5,6,5,6,6,7,1,2,2,3,2,3,3,4,2,3,3,4,3,4,4,5,2,3,3,4,3,4,4,5,3,4,4,5,4,5,5,6,2,3,3,4,3,4,4,5,3,4,4,5,4,5,5,6,3,4,4,5,4,5,5,6,4,5,5,6,5,6,6,7,2,3,3,4,3,4,4,5,3,4,4,5,4,5,5,6,3,4,4,5,4,5,5,6,4,5,5,6,5,6,6,7,3,4,4,5,4,5,5,6,4,5,5,6,5,6,6,7,4,5,5,6,5,6,6,7,5,6,6,7,6,7,7,8]⟩:ByteArray) (bAnd .u16 a1 255)))))) (int .i64 0),cnd (D 0) (int .u16 a1) (O 3),cnd (D 1) (int .u16 (shrI .u16 a1 8)) (O 4),cnd (D 2) (int .u8 (btS (⟨#[0,1,1,2,1,2,2,3,1,2,2,3,2,3,3,4,1,2,2,3,2,3,3,4,2,3,3,4,3,4,4,5,1,2,2,3,2,3,3,4,2,3,3,4,3,4,4,5,2,3,3,4,3,4,4,5,3,4,4,5,4,5,5,6,1,2,2,3,2,3,3,4,2,3,3,4,3,4,4,5,2,3,3,4,3,4,4,5,3,4,4,5,4,5,5,6,2,3,3,4,3,4,4,5,3,4,4,5,4,5,5,6,3,4,4,5,4,5,5,6,4,5,5,6,5,6,6,7,1,2,2,3,2,3,3,4,2,3,3,4,3,4,4,5,2,3,3,4,3,4,4,5,3,4,4,5,4,5,5,6,2,3,3,4,3,4,4,5,3,4,4,5,4,5,5,6,3,4,4,5,4,5,5,6,4,5,5,6,5,6,6,7,2,3,3,4,3,4,4,5,3,4,4,5,4,5,5,6,3,4,4,5,4,5,5,6,4,5,5,6,5,6,6,7,3,4,4,5,4,5,5,6,4,5,5,6,5,6,6,7,4,5,5,6,5,6,6,7,5,6,6,7,6,7,7,8]⟩:ByteArray) (shrI .u16 a1 8))) (O 5),cnd (D 3) (int .u16 a1) (O 6),cnd (D 4) (int .u16 (bAnd .u16 a1 255)) (O 7),cnd (D 5) (int .u8 (btS (⟨#[0,1,1,2,1,2,2,3,1,2,2,3,2,3,3,4,1,2,2,3,2,3,3,4,2,3,3,4,3,4,4,5,1,2,2,3,2,3,3,4,2,3,3,4,3,4,4,5,2,3,3,4,3,4,4,5,3,4,4,5,4,5,5,6,1,2,2,3,2,3,3,4,2,3,3,4,3,4,4,5,2,3,3,4,3,4,4,5,3,4,4,5,4,5,5,6,2,3,3,4,3,4,4,5,3,4,4,5,4,5,5,6,3,4,4,5,4,5,5,6,4,5,5,6,5,6,6,7,1,2,2,3,2,3,3,4,2,3,3,4,3,4,4,5,2,3,3,4,3,4,4,5,3,4,4,5,4,5,5,6,2,3,3,4,3,4,4,5,3,4,4,5,4,5,5,6,3,4,4,5,4,5,5,6,4,5,5,6,5,6,6,7,2,3,3,4,3,4,4,5,3,4,4,5,4,5,5,6,3,4,4,5,4,5,5,6,4,5,5,6,5,6,6,7,3,4,4,5,4,5,5,6,4,5,5,6,5,6,6,7,4,5,5,6,5,6,6,7,5,6,6,7,6,7,7,8]⟩:ByteArray) (bAnd .u16 a1 255))) (O 8),cnd (D 6) (int .u8 (u8w ((btS (⟨#[0,1,1,2,1,2,2,3,1,2,2,3,2,3,3,4,1,2,2,3,2,3,3,4,2,3,3,4,3,4,4,5,1,2,2,3,2,3,3,4,2,3,3,4,3,4,4,5,2,3,3,4,3,4,4,5,3,4,4,5,4,5,5,6,1,2,2,3,2,3,3,4,2,3,3,4,3,4,4,5,2,3,3,4,3,4,4,5,3,4,4,5,4,5,5,6,2,3,3,4,3,4,4,5,3,4,4,5,4,5,5,6,3,4,4,5,4,5,5,6,4,5,5,6,5,6,6,7,1,2,2,3,2,3,3,4,2,3,3,4,3,4,4,5,2,3,3,4,3,4,4,5,3,4,4,5,4,5,5,6,2,3,3,4,3,4,4,5,3,4,4,5,4,5,5,6,3,4,4,5,4,5,5,6,4,5,5,6,5,6,6,7,2,3,3,4,3,4,4,5,3,4,4,5,4,5,5,6,3,4,4,5,4,5,5,6,4,5,5,6,5,6,6,7,3,4,4,5,4,5,5,6,4,5,5,6,5,6,6,7,4,5,5,6,5,6,6,7,5,6,6,7,6,7,7,8]⟩:ByteArray) (shrI .u16 a1 8))+(btS (⟨#[0,1,1,2,1,2,2,3,1,2,2,3,2,3,3,4,1,2,2,3,2,3,3,4,2,3,3,4,3,4,4,5,1,2,2,3,2,3,3,4,2,3,3,4,3,4,4,5,2,3,3,4,3,4,4,5,3,4,4,5,4,5,5,6,1,2,2,3,2,3,3,4,2,3,3,4,3,4,4,5,2,3,3,4,3,4,4,5,3,4,4,5,4,5,5,6,2,3,3,4,3,4,4,5,3,4,4,5,4,5,5,6,3,4,4,5,4,5,5,6,4,5,5,6,5,6,6,7,1,2,2,3,2,3,3,4,2,3,3,4,3,4,4,5,2,3,3,4,3,4,4,5,3,4,4,5,4,5,5,6,2,3,3,4,3,4,4,5,3,4,4,5,4,5,5,6,3,4,4,5,4,5,5,6,4,5,5,6,5,6,6,7,2,3,3,4,3,4,4,5,3,4,4,5,4,5,5,6,3,4,4,5,4,5,5,6,4,5,5,6,5,6,6,7,3,4,4,5,4,5,5,6,4,5,5,6,5,6,6,7,4,5,5,6,5,6,6,7,5,6,6,7,6,7,7,8]⟩:ByteArray) (bAnd .u16 a1 255))))) (O 9),cnd (D 7) (int .i64 (i64w (u8w ((btS (⟨#[0,1,1,2,1,2,2,3,1,2,2,3,2,3,3,4,1,2,2,3,2,3,3,4,2,3,3,4,3,4,4,5,1,2,2,3,2,3,3,4,2,3,3,4,3,4,4,5,2,3,3,4,3,4,4,5,3,4,4,5,4,5,5,6,1,2,2,3,2,3,3,4,2,3,3,4,3,4,4,5,2,3,3,4,3,4,4,5,3,4,4,5,4,5,5,6,2,3,3,4,3,4,4,5,3,4,4,5,4,5,5,6,3,4,4,5,4,5,5,6,4,5,5,6,5,6,6,7,1,2,2,3,2,3,3,4,2,3,3,4,3,4,4,5,2,3,3,4,3,4,4,5,3,4,4,5,4,5,5,6,2,3,3,4,3,4,4,5,3,4,4,5,4,5,5,6,3,4,4,5,4,5,5,6,4,5,5,6,5,6,6,7,2,3,3,4,3,4,4,5,3,4,4,5,4,5,5,6,3,4,4,5,4,5,5,6,4,5,5,6,5,6,6,7,3,4,4,5,4,5,5,6,4,5,5,6,5,6,6,7,4,5,5,6,5,6,6,7,5,6,6,7,6,7,7,8]⟩:ByteArray) (shrI .u16 a1 8))+(btS (⟨#[0,1,1,2,1,2,2,3,1,2,2,3,2,3,3,4,1,2,2,3,2,3,3,4,2,3,3,4,3,4,4,5,1,2,2,3,2,3,3,4,2,3,3,4,3,4,4,5,2,3,3,4,3,4,4,5,3,4,4,5,4,5,5,6,1,2,2,3,2,3,3,4,2,3,3,4,3,4,4,5,2,3,3,4,3,4,4,5,3,4,4,5,4,5,5,6,2,3,3,4,3,4,4,5,3,4,4,5,4,5,5,6,3,4,4,5,4,5,5,6,4,5,5,6,5,6,6,7,1,2,2,3,2,3,3,4,2,3,3,4,3,4,4,5,2,3,3,4,3,4,4,5,3,4,4,5,4,5,5,6,2,3,3,4,3,4,4,5,3,4,4,5,4,5,5,6,3,4,4,5,4,5,5,6,4,5,5,6,5,6,6,7,2,3,3,4,3,4,4,5,3,4,4,5,4,5,5,6,3,4,4,5,4,5,5,6,4,5,5,6,5,6,6,7,3,4,4,5,4,5,5,6,4,5,5,6,5,6,6,7,4,5,5,6,5,6,6,7,5,6,6,7,6,7,7,8]⟩:ByteArray) (bAnd .u16 a1 255)))))) (O 10)]∧St w0 [] w) ?_ ⟨⟨⟨⟨⟨⟨⟨⟨⟨trivial,?_⟩,?_⟩,?_⟩,?_⟩,?_⟩,?_⟩,?_⟩,?_⟩,?_⟩ ?_
 ·
  intro w hh hbw
  have hs:=hs.samew hh hbw
  exact ⟨fun i=>T.getD i undef,(by subst hT;rfl),hs⟩
 ·
  rintro D t w hD hp hcl ⟨O,ht,hs⟩ rest hk
  have q1_:=nz hcl 1 0 hD
  have q2_:=nz hcl 2 0 q1_
  have q6_:=nz hcl 6 0 q2_
  have q7_:=nz hcl 7 0 q6_
  have q8_:=nz hcl 8 0 q7_
  simp only [hD,q1_,q2_,q6_,q7_,q8_,cq,oT] at ht hs
  subst ht
  refine Qab (v:=int .u16 a1) rfl rfl rfl ?_
  show G _ _ _ _ [_,_,_,_,_,_,_,_,_,_,_] _
  refine hk _ _ ⟨O,?_,hs.cast ?_⟩<;>simp only [oT,lq,cq,Nat.reduceBEq,q1_,q2_,q6_,q7_,q8_]
 ·
  rintro D t w hD hp hcl ⟨O,ht,hs⟩ rest hk
  obtain ⟨p0_,_⟩:=hp
  have q2_:=nz hcl 2 0 hD
  have q6_:=nz hcl 6 0 q2_
  have q7_:=nz hcl 7 0 q6_
  have q8_:=nz hcl 8 0 q7_
  simp only [hD,p0_,q2_,q6_,q7_,q8_,cq,oT] at ht hs
  subst ht
  refine Qab (v:=int .u16 (shrI .u16 a1 8)) rfl rfl rfl ?_
  show G _ _ _ _ [_,_,_,_,_,_,_,_,_,_,_] _
  refine hk _ _ ⟨O,?_,hs.cast ?_⟩<;>simp only [oT,lq,cq,Nat.reduceBEq,p0_,q2_,q6_,q7_,q8_]
 ·
  rintro D t w hD hp hcl ⟨O,ht,hs⟩ rest hk
  obtain ⟨p1_,_⟩:=hp
  obtain ⟨p0_,_⟩:=(hcl.get 1 (by decide)) p1_
  have q6_:=nz hcl 6 0 hD
  have q7_:=nz hcl 7 0 q6_
  have q8_:=nz hcl 8 0 q7_
  simp only [hD,p0_,p1_,q6_,q7_,q8_,cq,oT] at ht hs
  subst ht
  refine Qab (v:=int .u8 (btS (⟨#[0,1,1,2,1,2,2,3,1,2,2,3,2,3,3,4,1,2,2,3,2,3,3,4,2,3,3,4,3,4,4,5,1,2,2,3,2,3,3,4,2,3,3,4,3,4,4,5,2,3,3,4,3,4,4,5,3,4,4,5,4,5,5,6,1,2,2,3,2,3,3,4,2,3,3,4,3,4,4,5,2,3,3,4,3,4,4,5,3,4,4,5,4,5,5,6,2,3,3,4,3,4,4,5,3,4,4,5,4,5,5,6,3,4,4,5,4,5,5,6,4,5,5,6,5,6,6,7,1,2,2,3,2,3,3,4,2,3,3,4,3,4,4,5,2,3,3,4,3,4,4,5,3,4,4,5,4,5,5,6,2,3,3,4,3,4,4,5,3,4,4,5,4,5,5,6,3,4,4,5,4,5,5,6,4,5,5,6,5,6,6,7,2,3,3,4,3,4,4,5,3,4,4,5,4,5,5,6,3,4,4,5,4,5,5,6,4,5,5,6,5,6,6,7,3,4,4,5,4,5,5,6,4,5,5,6,5,6,6,7,4,5,5,6,5,6,6,7,5,6,6,7,6,7,7,8]⟩:ByteArray) (shrI .u16 a1 8))) rfl rfl (Qca rfl rfl rfl rfl gd1.1 gd1.2) ?_
  show G _ _ _ _ [_,_,_,_,_,_,_,_,_,_,_] _
  refine hk _ _ ⟨O,?_,hs.cast ?_⟩<;>simp only [oT,lq,cq,Nat.reduceBEq,p0_,p1_,q6_,q7_,q8_]
 ·
  rintro D t w hD hp hcl ⟨O,ht,hs⟩ rest hk
  have q4_:=nz hcl 4 0 hD
  have q5_:=nz hcl 5 0 q4_
  have q6_:=nz hcl 6 1 q5_
  have q7_:=nz hcl 7 0 q6_
  have q8_:=nz hcl 8 0 q7_
  simp only [hD,q4_,q5_,q6_,q7_,q8_,cq,oT] at ht hs
  subst ht
  refine Qab (v:=int .u16 a1) rfl rfl rfl ?_
  show G _ _ _ _ [_,_,_,_,_,_,_,_,_,_,_] _
  refine hk _ _ ⟨O,?_,hs.cast ?_⟩<;>simp only [oT,lq,cq,Nat.reduceBEq,q4_,q5_,q6_,q7_,q8_]
 ·
  rintro D t w hD hp hcl ⟨O,ht,hs⟩ rest hk
  obtain ⟨p3_,_⟩:=hp
  have q5_:=nz hcl 5 0 hD
  have q6_:=nz hcl 6 1 q5_
  have q7_:=nz hcl 7 0 q6_
  have q8_:=nz hcl 8 0 q7_
  simp only [hD,p3_,q5_,q6_,q7_,q8_,cq,oT] at ht hs
  subst ht
  refine Qab (v:=int .u16 (bAnd .u16 a1 255)) rfl rfl rfl ?_
  show G _ _ _ _ [_,_,_,_,_,_,_,_,_,_,_] _
  refine hk _ _ ⟨O,?_,hs.cast ?_⟩<;>simp only [oT,lq,cq,Nat.reduceBEq,p3_,q5_,q6_,q7_,q8_]
 ·
  rintro D t w hD hp hcl ⟨O,ht,hs⟩ rest hk
  obtain ⟨p4_,_⟩:=hp
  obtain ⟨p3_,_⟩:=(hcl.get 4 (by decide)) p4_
  have q6_:=nz hcl 6 1 hD
  have q7_:=nz hcl 7 0 q6_
  have q8_:=nz hcl 8 0 q7_
  simp only [hD,p3_,p4_,q6_,q7_,q8_,cq,oT] at ht hs
  subst ht
  refine Qab (v:=int .u8 (btS (⟨#[0,1,1,2,1,2,2,3,1,2,2,3,2,3,3,4,1,2,2,3,2,3,3,4,2,3,3,4,3,4,4,5,1,2,2,3,2,3,3,4,2,3,3,4,3,4,4,5,2,3,3,4,3,4,4,5,3,4,4,5,4,5,5,6,1,2,2,3,2,3,3,4,2,3,3,4,3,4,4,5,2,3,3,4,3,4,4,5,3,4,4,5,4,5,5,6,2,3,3,4,3,4,4,5,3,4,4,5,4,5,5,6,3,4,4,5,4,5,5,6,4,5,5,6,5,6,6,7,1,2,2,3,2,3,3,4,2,3,3,4,3,4,4,5,2,3,3,4,3,4,4,5,3,4,4,5,4,5,5,6,2,3,3,4,3,4,4,5,3,4,4,5,4,5,5,6,3,4,4,5,4,5,5,6,4,5,5,6,5,6,6,7,2,3,3,4,3,4,4,5,3,4,4,5,4,5,5,6,3,4,4,5,4,5,5,6,4,5,5,6,5,6,6,7,3,4,4,5,4,5,5,6,4,5,5,6,5,6,6,7,4,5,5,6,5,6,6,7,5,6,6,7,6,7,7,8]⟩:ByteArray) (bAnd .u16 a1 255))) rfl rfl (Qca rfl rfl rfl rfl gd2.1 gd2.2) ?_
  show G _ _ _ _ [_,_,_,_,_,_,_,_,_,_,_] _
  refine hk _ _ ⟨O,?_,hs.cast ?_⟩<;>simp only [oT,lq,cq,Nat.reduceBEq,p3_,p4_,q6_,q7_,q8_]
 ·
  rintro D t w hD hp hcl ⟨O,ht,hs⟩ rest hk
  obtain ⟨p2_,p5_,_⟩:=hp
  obtain ⟨p4_,_⟩:=(hcl.get 5 (by decide)) p5_
  obtain ⟨p3_,_⟩:=(hcl.get 4 (by decide)) p4_
  obtain ⟨p1_,_⟩:=(hcl.get 2 (by decide)) p2_
  obtain ⟨p0_,_⟩:=(hcl.get 1 (by decide)) p1_
  have q7_:=nz hcl 7 0 hD
  have q8_:=nz hcl 8 0 q7_
  simp only [hD,p0_,p1_,p2_,p3_,p4_,p5_,q7_,q8_,cq,oT] at ht hs
  subst ht
  refine Qab (v:=int .u8 (u8w ((btS (⟨#[0,1,1,2,1,2,2,3,1,2,2,3,2,3,3,4,1,2,2,3,2,3,3,4,2,3,3,4,3,4,4,5,1,2,2,3,2,3,3,4,2,3,3,4,3,4,4,5,2,3,3,4,3,4,4,5,3,4,4,5,4,5,5,6,1,2,2,3,2,3,3,4,2,3,3,4,3,4,4,5,2,3,3,4,3,4,4,5,3,4,4,5,4,5,5,6,2,3,3,4,3,4,4,5,3,4,4,5,4,5,5,6,3,4,4,5,4,5,5,6,4,5,5,6,5,6,6,7,1,2,2,3,2,3,3,4,2,3,3,4,3,4,4,5,2,3,3,4,3,4,4,5,3,4,4,5,4,5,5,6,2,3,3,4,3,4,4,5,3,4,4,5,4,5,5,6,3,4,4,5,4,5,5,6,4,5,5,6,5,6,6,7,2,3,3,4,3,4,4,5,3,4,4,5,4,5,5,6,3,4,4,5,4,5,5,6,4,5,5,6,5,6,6,7,3,4,4,5,4,5,5,6,4,5,5,6,5,6,6,7,4,5,5,6,5,6,6,7,5,6,6,7,6,7,7,8]⟩:ByteArray) (shrI .u16 a1 8))+(btS (⟨#[0,1,1,2,1,2,2,3,1,2,2,3,2,3,3,4,1,2,2,3,2,3,3,4,2,3,3,4,3,4,4,5,1,2,2,3,2,3,3,4,2,3,3,4,3,4,4,5,2,3,3,4,3,4,4,5,3,4,4,5,4,5,5,6,1,2,2,3,2,3,3,4,2,3,3,4,3,4,4,5,2,3,3,4,3,4,4,5,3,4,4,5,4,5,5,6,2,3,3,4,3,4,4,5,3,4,4,5,4,5,5,6,3,4,4,5,4,5,5,6,4,5,5,6,5,6,6,7,1,2,2,3,2,3,3,4,2,3,3,4,3,4,4,5,2,3,3,4,3,4,4,5,3,4,4,5,4,5,5,6,2,3,3,4,3,4,4,5,3,4,4,5,4,5,5,6,3,4,4,5,4,5,5,6,4,5,5,6,5,6,6,7,2,3,3,4,3,4,4,5,3,4,4,5,4,5,5,6,3,4,4,5,4,5,5,6,4,5,5,6,5,6,6,7,3,4,4,5,4,5,5,6,4,5,5,6,5,6,6,7,4,5,5,6,5,6,6,7,5,6,6,7,6,7,7,8]⟩:ByteArray) (bAnd .u16 a1 255))))) rfl rfl rfl ?_
  show G _ _ _ _ [_,_,_,_,_,_,_,_,_,_,_] _
  refine hk _ _ ⟨O,?_,hs.cast ?_⟩<;>simp only [oT,lq,cq,Nat.reduceBEq,p0_,p1_,p2_,p3_,p4_,p5_,q7_,q8_]
 ·
  rintro D t w hD hp hcl ⟨O,ht,hs⟩ rest hk
  obtain ⟨p6_,_⟩:=hp
  obtain ⟨p2_,p5_,_⟩:=(hcl.get 6 (by decide)) p6_
  obtain ⟨p4_,_⟩:=(hcl.get 5 (by decide)) p5_
  obtain ⟨p3_,_⟩:=(hcl.get 4 (by decide)) p4_
  obtain ⟨p1_,_⟩:=(hcl.get 2 (by decide)) p2_
  obtain ⟨p0_,_⟩:=(hcl.get 1 (by decide)) p1_
  have q8_:=nz hcl 8 0 hD
  simp only [hD,p0_,p1_,p2_,p3_,p4_,p5_,p6_,q8_,cq,oT] at ht hs
  subst ht
  refine Qab (v:=int .i64 (i64w (u8w ((btS (⟨#[0,1,1,2,1,2,2,3,1,2,2,3,2,3,3,4,1,2,2,3,2,3,3,4,2,3,3,4,3,4,4,5,1,2,2,3,2,3,3,4,2,3,3,4,3,4,4,5,2,3,3,4,3,4,4,5,3,4,4,5,4,5,5,6,1,2,2,3,2,3,3,4,2,3,3,4,3,4,4,5,2,3,3,4,3,4,4,5,3,4,4,5,4,5,5,6,2,3,3,4,3,4,4,5,3,4,4,5,4,5,5,6,3,4,4,5,4,5,5,6,4,5,5,6,5,6,6,7,1,2,2,3,2,3,3,4,2,3,3,4,3,4,4,5,2,3,3,4,3,4,4,5,3,4,4,5,4,5,5,6,2,3,3,4,3,4,4,5,3,4,4,5,4,5,5,6,3,4,4,5,4,5,5,6,4,5,5,6,5,6,6,7,2,3,3,4,3,4,4,5,3,4,4,5,4,5,5,6,3,4,4,5,4,5,5,6,4,5,5,6,5,6,6,7,3,4,4,5,4,5,5,6,4,5,5,6,5,6,6,7,4,5,5,6,5,6,6,7,5,6,6,7,6,7,7,8]⟩:ByteArray) (shrI .u16 a1 8))+(btS (⟨#[0,1,1,2,1,2,2,3,1,2,2,3,2,3,3,4,1,2,2,3,2,3,3,4,2,3,3,4,3,4,4,5,1,2,2,3,2,3,3,4,2,3,3,4,3,4,4,5,2,3,3,4,3,4,4,5,3,4,4,5,4,5,5,6,1,2,2,3,2,3,3,4,2,3,3,4,3,4,4,5,2,3,3,4,3,4,4,5,3,4,4,5,4,5,5,6,2,3,3,4,3,4,4,5,3,4,4,5,4,5,5,6,3,4,4,5,4,5,5,6,4,5,5,6,5,6,6,7,1,2,2,3,2,3,3,4,2,3,3,4,3,4,4,5,2,3,3,4,3,4,4,5,3,4,4,5,4,5,5,6,2,3,3,4,3,4,4,5,3,4,4,5,4,5,5,6,3,4,4,5,4,5,5,6,4,5,5,6,5,6,6,7,2,3,3,4,3,4,4,5,3,4,4,5,4,5,5,6,3,4,4,5,4,5,5,6,4,5,5,6,5,6,6,7,3,4,4,5,4,5,5,6,4,5,5,6,5,6,6,7,4,5,5,6,5,6,6,7,5,6,6,7,6,7,7,8]⟩:ByteArray) (bAnd .u16 a1 255)))))) rfl rfl rfl ?_
  show G _ _ _ _ [_,_,_,_,_,_,_,_,_,_,_] _
  refine hk _ _ ⟨O,?_,hs.cast ?_⟩<;>simp only [oT,lq,cq,Nat.reduceBEq,p0_,p1_,p2_,p3_,p4_,p5_,p6_,q8_]
 ·
  rintro D t w hD hp hcl ⟨O,ht,hs⟩ rest hk
  obtain ⟨p7_,p0_,p1_,p2_,p3_,p4_,p5_,p6_,_,_⟩:=hp
  simp only [hD,p0_,p1_,p2_,p3_,p4_,p5_,p6_,p7_,cq,oT] at ht hs
  subst ht
  refine Qab (v:=int .i64 (i64w (u8w ((btS (⟨#[0,1,1,2,1,2,2,3,1,2,2,3,2,3,3,4,1,2,2,3,2,3,3,4,2,3,3,4,3,4,4,5,1,2,2,3,2,3,3,4,2,3,3,4,3,4,4,5,2,3,3,4,3,4,4,5,3,4,4,5,4,5,5,6,1,2,2,3,2,3,3,4,2,3,3,4,3,4,4,5,2,3,3,4,3,4,4,5,3,4,4,5,4,5,5,6,2,3,3,4,3,4,4,5,3,4,4,5,4,5,5,6,3,4,4,5,4,5,5,6,4,5,5,6,5,6,6,7,1,2,2,3,2,3,3,4,2,3,3,4,3,4,4,5,2,3,3,4,3,4,4,5,3,4,4,5,4,5,5,6,2,3,3,4,3,4,4,5,3,4,4,5,4,5,5,6,3,4,4,5,4,5,5,6,4,5,5,6,5,6,6,7,2,3,3,4,3,4,4,5,3,4,4,5,4,5,5,6,3,4,4,5,4,5,5,6,4,5,5,6,5,6,6,7,3,4,4,5,4,5,5,6,4,5,5,6,5,6,6,7,4,5,5,6,5,6,6,7,5,6,6,7,6,7,7,8]⟩:ByteArray) (shrI .u16 a1 8))+(btS (⟨#[0,1,1,2,1,2,2,3,1,2,2,3,2,3,3,4,1,2,2,3,2,3,3,4,2,3,3,4,3,4,4,5,1,2,2,3,2,3,3,4,2,3,3,4,3,4,4,5,2,3,3,4,3,4,4,5,3,4,4,5,4,5,5,6,1,2,2,3,2,3,3,4,2,3,3,4,3,4,4,5,2,3,3,4,3,4,4,5,3,4,4,5,4,5,5,6,2,3,3,4,3,4,4,5,3,4,4,5,4,5,5,6,3,4,4,5,4,5,5,6,4,5,5,6,5,6,6,7,1,2,2,3,2,3,3,4,2,3,3,4,3,4,4,5,2,3,3,4,3,4,4,5,3,4,4,5,4,5,5,6,2,3,3,4,3,4,4,5,3,4,4,5,4,5,5,6,3,4,4,5,4,5,5,6,4,5,5,6,5,6,6,7,2,3,3,4,3,4,4,5,3,4,4,5,4,5,5,6,3,4,4,5,4,5,5,6,4,5,5,6,5,6,6,7,3,4,4,5,4,5,5,6,4,5,5,6,5,6,6,7,4,5,5,6,5,6,6,7,5,6,6,7,6,7,7,8]⟩:ByteArray) (bAnd .u16 a1 255)))))) rfl rfl rfl ?_
  show G _ _ _ _ [_,_,_,_,_,_,_,_,_,_,_] _
  refine hk _ _ ⟨O,?_,hs.cast ?_⟩<;>simp only [oT,lq,cq,Nat.reduceBEq,p0_,p1_,p2_,p3_,p4_,p5_,p6_,p7_]
 intro D t w hall hI
 obtain ⟨O,ht,hs⟩:=hI
 have p0_:=hall 0 (by decide)
 have p1_:=hall 1 (by decide)
 have p2_:=hall 2 (by decide)
 have p3_:=hall 3 (by decide)
 have p4_:=hall 4 (by decide)
 have p5_:=hall 5 (by decide)
 have p6_:=hall 6 (by decide)
 have p7_:=hall 7 (by decide)
 have p8_:=hall 8 (by decide)
 simp only [p0_,p1_,p2_,p3_,p4_,p5_,p6_,p7_,p8_,cq,oT] at ht hs
 subst ht
 obtain rfl:=QsJ H
 refine QaI Try.func33 (v:=int .i64 (i64w (u8w ((btS (⟨#[0,1,1,2,1,2,2,3,1,2,2,3,2,3,3,4,1,2,2,3,2,3,3,4,2,3,3,4,3,4,4,5,1,2,2,3,2,3,3,4,2,3,3,4,3,4,4,5,2,3,3,4,3,4,4,5,3,4,4,5,4,5,5,6,1,2,2,3,2,3,3,4,2,3,3,4,3,4,4,5,2,3,3,4,3,4,4,5,3,4,4,5,4,5,5,6,2,3,3,4,3,4,4,5,3,4,4,5,4,5,5,6,3,4,4,5,4,5,5,6,4,5,5,6,5,6,6,7,1,2,2,3,2,3,3,4,2,3,3,4,3,4,4,5,2,3,3,4,3,4,4,5,3,4,4,5,4,5,5,6,2,3,3,4,3,4,4,5,3,4,4,5,4,5,5,6,3,4,4,5,4,5,5,6,4,5,5,6,5,6,6,7,2,3,3,4,3,4,4,5,3,4,4,5,4,5,5,6,3,4,4,5,4,5,5,6,4,5,5,6,5,6,6,7,3,4,4,5,4,5,5,6,4,5,5,6,5,6,6,7,4,5,5,6,5,6,6,7,5,6,6,7,6,7,7,8]⟩:ByteArray) (shrI .u16 a1 8))+(btS (⟨#[0,1,1,2,1,2,2,3,1,2,2,3,2,3,3,4,1,2,2,3,2,3,3,4,2,3,3,4,3,4,4,5,1,2,2,3,2,3,3,4,2,3,3,4,3,4,4,5,2,3,3,4,3,4,4,5,3,4,4,5,4,5,5,6,1,2,2,3,2,3,3,4,2,3,3,4,3,4,4,5,2,3,3,4,3,4,4,5,3,4,4,5,4,5,5,6,2,3,3,4,3,4,4,5,3,4,4,5,4,5,5,6,3,4,4,5,4,5,5,6,4,5,5,6,5,6,6,7,1,2,2,3,2,3,3,4,2,3,3,4,3,4,4,5,2,3,3,4,3,4,4,5,3,4,4,5,4,5,5,6,2,3,3,4,3,4,4,5,3,4,4,5,4,5,5,6,3,4,4,5,4,5,5,6,4,5,5,6,5,6,6,7,2,3,3,4,3,4,4,5,3,4,4,5,4,5,5,6,3,4,4,5,4,5,5,6,4,5,5,6,5,6,6,7,3,4,4,5,4,5,5,6,4,5,5,6,5,6,6,7,4,5,5,6,5,6,6,7,5,6,6,7,6,7,7,8]⟩:ByteArray) (bAnd .u16 a1 255)))))) (res1 rfl rfl) ?_
 have hs:St _ [] _:=St.take (Γ':=[]) hs
 exact ⟨_,rfl,rfl,hs⟩
def Qbm.post (w0:World) (r:Bool) (v:Value) (w:World):Prop:=v=bool r∧St w0 [] w
theorem Qbm.calls {N:Nat} {a1:Int} {a2:Qae} {b3:Nat} {v4:Value} {w0:World} {r:Bool} (hr5:RdRow (K.int .u16) w0 v4 a2.Qai) (hp1000:w0.heap[b3]?=some (.cells ((([int .i8 a2.Qac,int .i8 a2.Qaf,v4]:List Value)):List Value).toArray 29 (0,0))) (H:Qbm.f N a1 a2=some r):
 Calls Try.prog 31 #[int .u16 a1,pointer (some ⟨b3,0,none⟩)] w0 fun e w=>∃ v,e= .returned v∧Qbm.post w0 r v w:=by
 unfold Qbm.f at H
 have hs:St w0 [] w0:=St.refl w0
 refine calls_of_g (n:=12) Try.func31 rfl rfl ?_
 show G _ _ _ _ [_,_,_,_,_,_,_,_,_,_,_,_,_,_] _
 refine Qah (Qat [0] rfl ?_)
 refine Qab (v:=bool false) rfl rfl rfl (Qad (Qah (Qat [0,1,2,3,4,5,6,7,8,9,10] rfl ?_)))
 refine Qab (v:=int .u16 a1) rfl rfl rfl ?_
 show G _ _ _ _ [_,_,_,_,_,_,_,_,_,_,_,_,_,_] _
 refine QaK rfl rfl (es:=(([int .i8 a2.Qac,int .i8 a2.Qaf,v4]:List Value))) rfl rfl (fun _=>rfl) (n:=3) (fun _=>rfl) rfl (cells_all (hs.box hp1000)) ?_
 obtain ⟨r7,Hr7,H⟩:=bind_get H
 refine QaG (args:=[agg (([int .i8 a2.Qac,int .i8 a2.Qaf,v4]:List Value)).toArray]) rfl rfl (QaH rfl (callFunc_enter Try.func16 rfl rfl) rfl) (QaR.calls (a1:=(⟨a2.Qac,a2.Qaf,a2.Qai⟩:Qae)) (hs.rd hr5) Hr7) ?_
 rintro _ w ⟨rfl,hs2⟩
 have hs:St _ [] _:=hs.call hs2
 obtain ⟨r8,Hr8,H⟩:=bind_get H
 refine QaG (args:=[int .u16 a1,int .u16 r7]) rfl rfl (QaH rfl (callFunc_enter Try.func32 rfl rfl) rfl) (Qba.calls (a1:=a1) (a2:=r7) Hr8) ?_
 rintro _ w ⟨rfl,hs2⟩
 have hs:St _ [] _:=hs.call hs2
 cases r8 with
 |true=>
  rw [if_pos rfl] at H
  refine Qab (v:=bool false) rfl rfl rfl ?_
  show G _ _ _ _ [_,_,_,_,_,_,_,_,_,_,_,_,_,_] _
  refine Qab (v:=bool false) rfl rfl rfl ?_
  refine Qab (v:=int .u16 a1) rfl rfl rfl ?_
  obtain ⟨r9,Hr9,H⟩:=bind_get H
  refine QaG (args:=[int .u16 a1]) rfl rfl (QaH rfl (callFunc_enter Try.func33 rfl rfl) rfl) (Qa3.calls (a1:=a1) Hr9) ?_
  rintro _ w ⟨rfl,hs2⟩
  have hs:St _ [] _:=hs.call hs2
  show G _ _ _ _ [_,_,_,_,_,_,_,_,_,_,_,_,_,_] _
  refine Qab (v:=bool (decide (r9< 2))) rfl rfl rfl ?_
  refine Qab (v:=bool (decide (r9< 2))) rfl rfl rfl ?_
  refine Qab (v:=bool (decide (r9< 2))) rfl rfl rfl ?_
  show G _ _ _ _ [_,_,_,_,_,_,_,_,_,_,_,_,_,_] _
  refine Qad ?_
  obtain rfl:=QsJ H
  refine QaI Try.func31 (v:=bool (decide (r9< 2))) (res1 rfl rfl) ?_
  have hs:St _ [] _:=St.take (Γ':=[]) hs
  exact ⟨_,rfl,rfl,hs⟩
 |false=>
  rw [if_neg Bool.false_ne_true] at H
  show G _ _ _ _ [_,_,_,_,_,_,_,_,_,_,_,_,_,_] _
  refine Qab (v:=bool true) rfl rfl rfl ?_
  refine Qab (v:=bool true) rfl rfl rfl (QaD rfl rfl ?_)
  show G _ _ _ _ [_,_,_,_,_,_,_,_,_,_,_,_,_,_] _
  refine QaD rfl rfl (QaD rfl rfl ?_)
  refine Qab (v:=bool true) rfl rfl rfl ?_
  show G _ _ _ _ [_,_,_,_,_,_,_,_,_,_,_,_,_,_] _
  refine Qab (v:=bool true) rfl rfl rfl (Qad ?_)
  obtain rfl:=QsJ H
  refine QaI Try.func31 (v:=bool true) (res1 rfl rfl) ?_
  have hs:St _ [] _:=St.take (Γ':=[]) hs
  exact ⟨_,rfl,rfl,hs⟩
def Qao.post (w0:World) (r:Int) (v:Value) (w:World):Prop:=v=int .i64 r∧St w0 [] w
theorem Qao.calls {N:Nat} {a1:(List Int)} {a3:Qae} {v2:Value} {b4:Nat} {v5:Value} {w0:World} {r:Int} (hr0:RdRow (K.int .u16) w0 v2 a1) (hr6:RdRow (K.int .u16) w0 v5 a3.Qai) (hp200:w0.heap[b4]?=some (.cells ((([int .i8 a3.Qac,int .i8 a3.Qaf,v5]:List Value)):List Value).toArray 29 (0,0))) (H:Qao.f N a1 a3=some r):
 Calls Try.prog 38 #[v2,Value.func (Fn.func 31) #[] #[pointer (some ⟨b4,0,none⟩)]] w0 fun e w=>∃ v,e= .returned v∧Qao.post w0 r v w:=by
 unfold Qao.f at H
 have hs:St w0 [] w0:=St.refl w0
 refine calls_of_g (n:=17) Try.func38 rfl rfl ?_
 show G _ _ _ _ [_,_,_,_,_,_,_,_,_,_,_,_,_,_,_,_,_,_,_] _
 refine Qah (Qat [0] rfl ?_)
 refine Qab (v:=int .i64 0) rfl rfl rfl (Qad (Qah (Qah (Qat [0,1,2] rfl ?_))))
 refine Qab (v:=v2) rfl rfl rfl ?_
 show G _ _ _ _ [_,_,_,_,_,_,_,_,_,_,_,_,_,_,_,_,_,_,_] _
 refine QbA (hs.rd hr0) rfl rfl rfl rfl rfl ?_
 refine Qab (v:=int .i64 0) rfl rfl rfl (Qad ?_)
 obtain ⟨o1_,Ho,Hr1_⟩:=bind_get H
 refine QaX (J:=fun t w=>Qao.a0 N=some r∧Fr t (fun O=>([O 0,O 1,O 2,O 3,O 4,O 5,O 6,O 7,O 8,O 9,O 10,O 11,O 12,O 13,O 14,O 15,O 16,O 17,O 18]:List Value))∧St w0 [] w) ?_ ?_
 ·
  rintro t w ⟨H,hf,hs⟩
  obtain ⟨O,rfl⟩:=hf.open
  show G _ _ _ _ [_,_,_,_,_,_,_,_,_,_,_,_,_,_,_,_,_,_,_] _
  unfold Qao.a0 at H
  refine Qah (Qat [0] rfl ?_)
  refine Qab (v:=int .i64 (-1)) rfl rfl rfl ?_
  show G _ _ _ _ [_,_,_,_,_,_,_,_,_,_,_,_,_,_,_,_,_,_,_] _
  refine Qad ?_
  obtain rfl:=QsJ H
  refine QaI Try.func38 (v:=int .i64 (-1)) (res1 rfl rfl) ?_
  have hs:St _ [] _:=St.take (Γ':=[]) hs
  exact ⟨_,rfl,rfl,hs⟩
 intro ha1_
 have hs:St _ [] _:=St.take (Γ':=[]) hs
 refine Qa9 (I:=fun n_ t w=>∃ x8:Int,rounds (fun s=>Qao.b0 N a1 a3 s) n_ x8=some o1_∧Fr t (fun O=>([v2,Value.func (Fn.func 31) #[] #[pointer (some ⟨b4,0,none⟩)],O 2,O 3,O 4,O 5,O 6,int .i64 (a1.length:Int),int .i64 x8,O 9,O 10,O 11,O 12,O 13,O 14,O 15,O 16,O 17,O 18]:List Value))∧St w0 [] w) N ⟨0,Ho,rfl,hs⟩ ?_ ?_
 ·
  rintro _ _ ⟨x8,h,_⟩
  exact rounds_zero h
 intro n_ ih1_
 rintro t w ⟨x8,Ho,hf,hs⟩
 obtain ⟨O,rfl⟩:=hf.open
 show G _ _ _ _ [_,_,_,_,_,_,_,_,_,_,_,_,_,_,_,_,_,_,_] _
 obtain ⟨x2_,H,Hx1_⟩:=rounds_succ Ho
 have H:Qao.b0 N a1 a3 x8=some x2_:=H
 unfold Qao.b0 at H
 refine Qah (Qat [0] rfl ?_)
 refine QaQ (B:=decide (x8< (a1.length:Int))) rfl rfl rfl ?_ ?_
 ·
  intro hb
  rw [if_pos (b_dec_t hb)] at H
  refine Qad (Qah (Qav rfl (QaO (Qah ?_))))
  refine Qby (Qah (Qat [0,1] rfl ?_))
  refine Qab (v:=int .i64 x8) rfl rfl rfl ?_
  refine Qab (v:=int .i64 x8) rfl rfl rfl ?_
  show G _ _ _ _ [_,_,_,_,_,_,_,_,_,_,_,_,_,_,_,_,_,_,_] _
  refine Qad (Qah (Qat [0,1,2,3,4,5] rfl ?_))
  refine Qab (v:=Value.func (Fn.func 31) #[] #[pointer (some ⟨b4,0,none⟩)]) rfl rfl rfl ?_
  refine Qab (v:=v2) rfl rfl rfl ?_
  refine Qab (v:=int .i64 x8) rfl rfl rfl ?_
  show G _ _ _ _ [_,_,_,_,_,_,_,_,_,_,_,_,_,_,_,_,_,_,_] _
  obtain ⟨g1,H⟩:=ite_get H
  refine QbH (fkI .u16) 0 (hs.rd hr0) rfl (fun _=>rfl) g1.1 g1.2 rfl rfl rfl rfl rfl ?_
  intro p9 hp9 lp9 op9
  refine Qaz rfl rfl (v:=int .u16 (rdL a1 x8 0)) rfl rfl (fun _=>rfl) hp9 ?_
  obtain ⟨r10,Hr10,H⟩:=bind_get H
  refine QaG (args:=[int .u16 (rdL a1 x8 0),pointer (some ⟨b4,0,none⟩)]) rfl rfl (Qcf rfl (callFunc_enter Try.func31 rfl rfl) rfl rfl) (Qbm.calls (a1:=rdL a1 x8 0) (a2:=(⟨a3.Qac,a3.Qaf,a3.Qai⟩:Qae)) (hs.rd hr6) (hs.box hp200) Hr10) ?_
  rintro _ w ⟨rfl,hs2⟩
  have hs:St _ [] _:=hs.call hs2
  cases r10 with
  |true=>
   rw [if_pos rfl] at H
   show G _ _ _ _ [_,_,_,_,_,_,_,_,_,_,_,_,_,_,_,_,_,_,_] _
   refine Qad (Qav rfl (Qah (Qat [0,1] rfl ?_)))
   refine Qab (v:=int .i64 x8) rfl rfl rfl ?_
   refine Qab (v:=int .i64 x8) rfl rfl rfl (Qad ?_)
   obtain rfl:=QsJ H
   subst Hx1_
   have H:=QsJ Hr1_
   subst H
   refine QaI Try.func38 (v:=int .i64 x8) (res1 rfl rfl) ?_
   have hs:St _ [] _:=St.take (Γ':=[]) hs
   exact ⟨_,rfl,rfl,hs⟩
  |false=>
   rw [if_neg Bool.false_ne_true] at H
   show G _ _ _ _ [_,_,_,_,_,_,_,_,_,_,_,_,_,_,_,_,_,_,_] _
   refine Qad (Qax rfl (QaO ?_))
   refine Qa2 (Qat [0,1] rfl ?_)
   refine Qab (v:=int .i64 (i64w (x8+1))) rfl rfl rfl ?_
   refine Qab (v:=int .i64 (i64w (x8+1))) rfl rfl rfl (Qad ?_)
   obtain rfl:=QsJ H
   have hs:St _ [] _:=St.take (Γ':=[]) hs
   exact ih1_ _ _ ⟨i64w (x8+1),Hx1_,rfl,hs⟩
 intro hb
 rw [if_neg (b_dec_f hb)] at H
 show G _ _ _ _ [_,_,_,_,_,_,_,_,_,_,_,_,_,_,_,_,_,_,_] _
 refine Qad (Qah (Qax rfl ?_))
 obtain rfl:=QsJ H
 subst Hx1_
 have hs:St _ [] _:=St.take (Γ':=[]) hs
 refine Qbx rfl ?_
 exact ha1_ _ _ ⟨Hr1_,rfl,hs⟩
def QaF.post (w0:World) (r:Bool) (v:Value) (w:World):Prop:=v=bool r∧St w0 [] w
theorem QaF.calls {N:Nat} {a1:(List Int)} {a3:Qae} {v2:Value} {b4:Nat} {v5:Value} {w0:World} {r:Bool} (hr0:RdRow (K.int .u16) w0 v2 a1) (hr6:RdRow (K.int .u16) w0 v5 a3.Qai) (hp200:w0.heap[b4]?=some (.cells ((([int .i8 a3.Qac,int .i8 a3.Qaf,v5]:List Value)):List Value).toArray 29 (0,0))) (H:QaF.f N a1 a3=some r):
 Calls Try.prog 30 #[v2,Value.func (Fn.func 31) #[] #[pointer (some ⟨b4,0,none⟩)]] w0 fun e w=>∃ v,e= .returned v∧QaF.post w0 r v w:=by
 unfold QaF.f at H
 have hs:St w0 [] w0:=St.refl w0
 refine calls_of_g (n:=7) Try.func30 rfl rfl ?_
 show G _ _ _ _ [_,_,_,_,_,_,_,_,_] _
 refine Qah (Qat [0] rfl ?_)
 refine Qab (v:=bool false) rfl rfl rfl ?_
 show G _ _ _ _ [_,_,_,_,_,_,_,_,_] _
 refine Qad (Qah (Qat [0,1,2,3,4] rfl ?_))
 refine Qab (v:=v2) rfl rfl rfl ?_
 refine Qab (v:=Value.func (Fn.func 31) #[] #[pointer (some ⟨b4,0,none⟩)]) rfl rfl rfl ?_
 obtain ⟨r8,Hr8,H⟩:=bind_get H
 refine QaG (args:=[v2,Value.func (Fn.func 31) #[] #[pointer (some ⟨b4,0,none⟩)]]) rfl rfl (QaH rfl (callFunc_enter Try.func38 rfl rfl) rfl) (Qao.calls (a1:=a1) (a3:=(⟨a3.Qac,a3.Qaf,a3.Qai⟩:Qae)) (hs.rd hr0) (hs.rd hr6) (hs.box hp200) Hr8) ?_
 rintro _ w ⟨rfl,hs2⟩
 have hs:St _ [] _:=hs.call hs2
 show G _ _ _ _ [_,_,_,_,_,_,_,_,_] _
 refine Qab (v:=bool (decide (r8≥0))) rfl rfl rfl ?_
 refine Qab (v:=bool (decide (r8≥0))) rfl rfl rfl (Qad ?_)
 obtain rfl:=QsJ H
 refine QaI Try.func30 (v:=bool (decide (r8≥0))) (res1 rfl rfl) ?_
 have hs:St _ [] _:=St.take (Γ':=[]) hs
 exact ⟨_,rfl,rfl,hs⟩
def Qbi.post (w0:World) (r:Bool) (v:Value) (w:World):Prop:=v=bool r∧St w0 [] w
theorem Qbi.calls {N:Nat} {a1:Qae} {v2:Value} {w0:World} {r:Bool} (hr3:RdRow (K.int .u16) w0 v2 a1.Qai) (H:Qbi.f N a1=some r):
 Calls Try.prog 14 #[agg (([int .i8 a1.Qac,int .i8 a1.Qaf,v2]:List Value)).toArray] w0 fun e w=>∃ v,e= .returned v∧Qbi.post w0 r v w:=by
 unfold Qbi.f at H
 have hs:St w0 [] w0:=St.refl w0
 refine calls_of_g (n:=28) Try.func14 rfl rfl ?_
 show G _ _ _ _ [_,_,_,_,_,_,_,_,_,_,_,_,_,_,_,_,_,_,_,_,_,_,_,_,_,_,_,_,_] _
 refine Qah (Qat [0,1] rfl ?_)
 refine Qbl hs rfl rfl (cs:=(([int .i8 a1.Qac,int .i8 a1.Qaf,v2]:List Value))) rfl rfl ?_
 intro b4 w hs
 show G _ _ _ _ [_,_,_,_,_,_,_,_,_,_,_,_,_,_,_,_,_,_,_,_,_,_,_,_,_,_,_,_,_] _
 refine Qab (v:=bool false) rfl rfl rfl (Qad (Qah (Qah (Qat [0,1,2,3,4,5,6,7,8,9,10,11,12,13,14,15,16,17,18,19,20] rfl ?_))))
 refine Qab (v:=pointer (some ⟨b4,0,none⟩)) rfl rfl rfl ?_
 refine Qaz rfl rfl (v:=int .i8 a1.Qac) rfl rfl (fun _=>rfl) (cells_load (hs.cells 0 rfl) 0 1 rfl) ?_
 refine Qab (v:=int .i64 (i64w a1.Qac)) rfl rfl rfl ?_
 obtain ⟨r6,Hr6,H⟩:=bind_get H
 refine QaG (args:=[int .i64 (i64w a1.Qac),int .i64 1,int .i64 8]) rfl rfl (QaH rfl (callFunc_enter Try.func29 rfl rfl) rfl) (Qbq.calls (a1:=i64w a1.Qac) (a2:=1) (a3:=8) Hr6) ?_
 rintro _ w ⟨rfl,hs2⟩
 have hs:St _ [_] _:=hs.call hs2
 cases r6 with
 |true=>
  rw [if_pos rfl] at H
  refine Qab (v:=bool false) rfl rfl rfl ?_
  refine Qab (v:=bool false) rfl rfl rfl ?_
  refine Qab (v:=pointer (some ⟨b4,1,none⟩)) rfl rfl rfl ?_
  refine Qaz rfl rfl (v:=int .i8 a1.Qaf) rfl rfl (fun _=>rfl) (cells_load (hs.cells 0 rfl) 1 1 rfl) ?_
  show G _ _ _ _ [_,_,_,_,_,_,_,_,_,_,_,_,_,_,_,_,_,_,_,_,_,_,_,_,_,_,_,_,_] _
  refine Qab (v:=int .i64 (i64w a1.Qaf)) rfl rfl rfl ?_
  refine Qab (v:=pointer (some ⟨b4,0,none⟩)) rfl rfl rfl ?_
  refine Qaz rfl rfl (v:=int .i8 a1.Qac) rfl rfl (fun _=>rfl) (cells_load (hs.cells 0 rfl) 0 1 rfl) ?_
  refine Qab (v:=int .i64 (i64w a1.Qac)) rfl rfl rfl ?_
  obtain ⟨r7,Hr7,H⟩:=bind_get H
  refine QaG (args:=[int .i64 (i64w a1.Qaf),int .i64 0,int .i64 (i64w a1.Qac)]) rfl rfl (QaH rfl (callFunc_enter Try.func29 rfl rfl) rfl) (Qbq.calls (a1:=i64w a1.Qaf) (a2:=0) (a3:=i64w a1.Qac) Hr7) ?_
  rintro _ w ⟨rfl,hs2⟩
  have hs:St _ [_] _:=hs.call hs2
  refine Qab (v:=bool (!r7)) rfl rfl rfl ?_
  show G _ _ _ _ [_,_,_,_,_,_,_,_,_,_,_,_,_,_,_,_,_,_,_,_,_,_,_,_,_,_,_,_,_] _
  refine QaQ (B:=!r7) rfl rfl rfl ?_ ?_
  ·
   intro hb
   rw [if_neg (b_not_t hb)] at H
   refine Qab (v:=bool true) rfl rfl rfl (QaD rfl rfl (QaD rfl rfl (QaD rfl rfl ?_)))
   show G _ _ _ _ [_,_,_,_,_,_,_,_,_,_,_,_,_,_,_,_,_,_,_,_,_,_,_,_,_,_,_,_,_] _
   refine QaD rfl rfl ?_
   refine Qab (v:=bool true) rfl rfl rfl (Qad (Qav rfl (Qah (Qat [0] rfl ?_))))
   refine Qab (v:=bool false) rfl rfl rfl ?_
   show G _ _ _ _ [_,_,_,_,_,_,_,_,_,_,_,_,_,_,_,_,_,_,_,_,_,_,_,_,_,_,_,_,_] _
   refine Qad ?_
   obtain rfl:=QsJ H
   refine QaI Try.func14 (v:=bool false) (res1 rfl rfl) ?_
   have hs:St _ [] _:=St.take (Γ':=[_]) hs
   exact ⟨_,rfl,rfl,hs⟩
  intro hb
  rw [if_pos (b_not_f hb)] at H
  refine Qab (v:=bool false) rfl rfl rfl ?_
  refine Qab (v:=pointer (some ⟨b4,2,none⟩)) rfl rfl rfl ?_
  refine Qaz rfl rfl (v:=v2) rfl rfl (fun _=>rfl) (cells_load (hs.cells 0 rfl) 2 1 rfl) ?_
  refine QbA (hs.rd hr3) rfl rfl rfl rfl rfl ?_
  show G _ _ _ _ [_,_,_,_,_,_,_,_,_,_,_,_,_,_,_,_,_,_,_,_,_,_,_,_,_,_,_,_,_] _
  refine QaQ (B:=decide ((a1.Qai.length:Int)>20)) rfl rfl rfl ?_ ?_
  ·
   intro hb
   rw [if_pos (b_dec_t hb)] at H
   refine Qab (v:=bool true) rfl rfl rfl (Qad (Qav rfl (Qah (Qat [0] rfl ?_))))
   refine Qab (v:=bool false) rfl rfl rfl ?_
   show G _ _ _ _ [_,_,_,_,_,_,_,_,_,_,_,_,_,_,_,_,_,_,_,_,_,_,_,_,_,_,_,_,_] _
   refine Qad ?_
   obtain rfl:=QsJ H
   refine QaI Try.func14 (v:=bool false) (res1 rfl rfl) ?_
   have hs:St _ [] _:=St.take (Γ':=[_]) hs
   exact ⟨_,rfl,rfl,hs⟩
  intro hb
  rw [if_neg (b_dec_f hb)] at H
  refine Qab (v:=bool false) rfl rfl rfl (Qad (Qax rfl (QaO (Qah (Qat [0,1,2,3,4,5] rfl ?_)))))
  refine Qab (v:=pointer (some ⟨b4,2,none⟩)) rfl rfl rfl ?_
  refine Qaz rfl rfl (v:=v2) rfl rfl (fun _=>rfl) (cells_load (hs.cells 0 rfl) 2 1 rfl) ?_
  show G _ _ _ _ [_,_,_,_,_,_,_,_,_,_,_,_,_,_,_,_,_,_,_,_,_,_,_,_,_,_,_,_,_] _
  refine Qab (v:=Value.func (Fn.func 31) #[] #[pointer (some ⟨b4,0,none⟩)]) rfl rfl (Qcb rfl rfl) ?_
  obtain ⟨r8,Hr8,H⟩:=bind_get H
  refine QaG (args:=[v2,Value.func (Fn.func 31) #[] #[pointer (some ⟨b4,0,none⟩)]]) rfl rfl (QaH rfl (callFunc_enter Try.func30 rfl rfl) rfl) (QaF.calls (a1:=a1.Qai) (a3:=(⟨a1.Qac,a1.Qaf,a1.Qai⟩:Qae)) (hs.rd hr3) (hs.rd hr3) (hs.cells 0 rfl) Hr8) ?_
  rintro _ w ⟨rfl,hs2⟩
  have hs:St _ [_] _:=hs.call hs2
  refine Qab (v:=bool (!r8)) rfl rfl rfl ?_
  show G _ _ _ _ [_,_,_,_,_,_,_,_,_,_,_,_,_,_,_,_,_,_,_,_,_,_,_,_,_,_,_,_,_] _
  refine Qab (v:=bool (!r8)) rfl rfl rfl (Qad ?_)
  obtain rfl:=QsJ H
  refine QaI Try.func14 (v:=bool (!r8)) (res1 rfl rfl) ?_
  have hs:St _ [] _:=St.take (Γ':=[_]) hs
  exact ⟨_,rfl,rfl,hs⟩
 |false=>
  rw [if_neg Bool.false_ne_true] at H
  show G _ _ _ _ [_,_,_,_,_,_,_,_,_,_,_,_,_,_,_,_,_,_,_,_,_,_,_,_,_,_,_,_,_] _
  refine Qab (v:=bool true) rfl rfl rfl ?_
  refine Qab (v:=bool true) rfl rfl rfl (QaD rfl rfl (QaD rfl rfl (QaD rfl rfl (QaD rfl rfl (QaD rfl rfl ?_)))))
  show G _ _ _ _ [_,_,_,_,_,_,_,_,_,_,_,_,_,_,_,_,_,_,_,_,_,_,_,_,_,_,_,_,_] _
  refine QaD rfl rfl (QaD rfl rfl (QaD rfl rfl ?_))
  refine Qab (v:=bool true) rfl rfl rfl ?_
  show G _ _ _ _ [_,_,_,_,_,_,_,_,_,_,_,_,_,_,_,_,_,_,_,_,_,_,_,_,_,_,_,_,_] _
  refine Qab (v:=bool true) rfl rfl rfl (QaD rfl rfl (QaD rfl rfl (QaD rfl rfl (QaD rfl rfl ?_))))
  show G _ _ _ _ [_,_,_,_,_,_,_,_,_,_,_,_,_,_,_,_,_,_,_,_,_,_,_,_,_,_,_,_,_] _
  refine Qab (v:=bool true) rfl rfl rfl (Qad (Qav rfl (Qah (Qat [0] rfl ?_))))
  refine Qab (v:=bool false) rfl rfl rfl (Qad ?_)
  obtain rfl:=QsJ H
  refine QaI Try.func14 (v:=bool false) (res1 rfl rfl) ?_
  have hs:St _ [] _:=St.take (Γ':=[_]) hs
  exact ⟨_,rfl,rfl,hs⟩
theorem Qb1 (a b:Qag) (w:World):(Op.equal 49 (.agg (Qaa a).toArray) (.agg (Qaa b).toArray)).run Try.prog w= .ok (decide (a=b)) w:=by
 have q:=equal_struct (w:=w) (xs:=(Qaa a).toArray) (ys:=(Qaa b).toArray) Try.underlying49 (by kernel_rfl) (eqFields_step (by decide) rfl rfl (equalIn_int (d:=9998) Try.underlying46) (eqFields_step (by decide) rfl rfl (equalIn_bool (d:=9998) Try.underlying4) eqFields_nil))
 rw [q]
 congr 1
 rw [Bool.eq_iff_iff,decide_eq_true_eq]
 cases a;cases b
 simp [Qag.mk.injEq]
theorem Qbj:KeyOk Try.prog 49 QaZ where
 desc:=⟨_,Try.underlying49, .inl fun _ _=>rfl⟩
 eq:=fun a b w=>Qb1 a b w
 check:=fun a b w=>check_struct2 (n:=9999) Try.underlying49 (by decide) (by decide) rfl rfl (check_int (n:=9998) Try.underlying46) (check_bool (n:=9998) Try.underlying4)
 same:=fun a=>by simp [QaZ,Qaa,Instr.sameBits]
end Go.Proofs.YtmpcchpnfhafoaaX
