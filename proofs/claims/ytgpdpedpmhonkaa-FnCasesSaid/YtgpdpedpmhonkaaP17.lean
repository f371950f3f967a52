import Derived.Test.YtgpdpedpmhonkaaProg
import Derived.Test.YtgpdpedpmhonkaaP3
import Derived.Test.YtgpdpedpmhonkaaP4
import Derived.Test.YtgpdpedpmhonkaaP5
import Derived.Test.YtgpdpedpmhonkaaP15
import Derived.Test.YtgpdpedpmhonkaaP16
namespace Go.Proofs.YtgpdpedpmhonkaaX
open Go Go.RowKit Go.Proofs
open Go.Value (int pointer bool agg slice string tuple)
set_option maxHeartbeats 8000000
set_option maxRecDepth 100000
set_option linter.unusedVariables false
set_option linter.unusedSimpArgs false
def Qat.post (wb:World) (Z:As) (v3:Value) (b2:Nat) (v3:Value) (r:((Ar Int 8)×Bool×(List Int)×Qap)) (v:Value) (w:World):Prop:=v=tuple #[agg ((encA (encI .i64)) r.1).toArray,bool r.2.1]∧St wb [Row 22 (K.int .i8) v3 r.2.2.1,Cells b2 (([int .i64 r.2.2.2.Qbu,v3]:List Value)) 99,Z] w
theorem Qat.calls {N:Nat} {self:Qap→Qar→Int→Option (Bool×(List Int)×Qap)} (ih:∀ (a1:Qap) (a6:Qar) (a7:Int) (b2:Nat) (v3:Value) (wb:World) (Z:As) (w0:World) (r:(Bool×(List Int)×Qap)) (hs:St wb [Row 22 (K.int .i8) v3 a1.QbY,Cells b2 (([int .i64 a1.Qbu,v3]:List Value)) 99,Z] w0),self a1 a6 a7=some r→Calls Try.prog 30 #[pointer (some ⟨b2,0,none⟩),agg (Qam a6).toArray,int .i64 a7] w0 fun e w=>∃ v,e= .returned v∧QaN.post wb Z v3 b2 v3 r v w) {a1:Qap} {a6:Qar} {a7:Int} {b2:Nat} {v3:Value} {wb:World} {Z:As} {w0:World} {r:((Ar Int 8)×Bool×(List Int)×Qap)} (hs:St wb [Row 22 (K.int .i8) v3 a1.QbY,Cells b2 (([int .i64 a1.Qbu,v3]:List Value)) 99,Z] w0) (H:Qat.f N self a1 a6 a7=some r):
 Calls Try.prog 58 #[pointer (some ⟨b2,0,none⟩),agg (Qam a6).toArray,int .i64 a7] w0 fun e w=>∃ v,e= .returned v∧Qat.post wb Z v3 b2 v3 r v w:=by
 unfold Qat.f at H
 refine calls_of_g (n:=136) Try.func58 rfl rfl ?_
 show G _ _ _ _ (_::_::_::_::_::_::_::_::_::_::_::_::_::_::_::_::_::_::_::_::_::_::_::_::_::_::_::_::_::_::_::_::_::_::_::_::_::_::_::_::_::_::_::_::_::_::_::_::_::_::_::_::_::_::_::_::_::_::_::_::_::_::_::_::_::_::_::_::_::_::_::_::_::_::_::_::_::_::_::_::_::_::_::_::_::_::_::_::_::_::_::_::_::_::_::_::_::_::_::_::_::_::_::_::_::_::_::_::_::_::_::_::_::_::_::_::_::_::_::_::_::_::_::_::_::_::_::_::_::_::_::_::_::_::_::_::_::_::_::[]) _
 refine Qag (Qan [0,1,2] rfl ?_)
 refine Qbw hs rfl rfl (cs:=(Qam a6)) rfl rfl ?_
 intro b8 w hs
 refine g_d rfl ?_
 try dsimp only [set0,setS]
 refine QbH hs rfl rfl (z:=(agg #[int .i64 0,int .i64 0,int .i64 0,int .i64 0,int .i64 0,int .i64 0,int .i64 0,int .i64 0])) (cs:=((encA (encI .i64)) (Ar.rep 8 0))) rfl (fun _=>rfl) rfl ?_
 intro b10 w hs
 refine g_d rfl ?_
 refine Qab (v:=bool false) rfl rfl rfl (g_d rfl ?_)
 try dsimp only [set0,setS]
 refine Qaa (Qag ?_)
 refine QbT ?_
 intro T hT
 refine Qcg (n:=14) rfl [0,1,2,3,4,5,6,7,8,9,10,11,12,13] [0,1,2,3,4,5,6,7,8,9,10,11,12,13] rfl rfl (Inv:=fun D t w=>∃ O:Nat→Value,t=(pointer (some ⟨b2,0,none⟩)::agg (Qam a6).toArray::int .i64 a7::O 3::pointer (some ⟨b8,0,none⟩)::O 5::pointer (some ⟨b10,0,none⟩)::bool false::cnd (D 13) (int .i64 (i64w ((i64w ((i64w (a1.Qbu - a6.Qa3)) - a6.QaY)) - a6.QaZ))) (O 8)::O 9::O 10::cnd (D 0) (pointer (some ⟨b2,0,none⟩)) (O 11)::cnd (D 1) (pointer (some ⟨b2,0,none⟩)) (O 12)::cnd (D 2) (pointer (some ⟨b2,0,none⟩)) (O 13)::cnd (D 3) (int .i64 a1.Qbu) (O 14)::cnd (D 4) (pointer (some ⟨b8,0,none⟩)) (O 15)::cnd (D 5) (int .i64 a6.Qa3) (O 16)::cnd (D 6) (int .i64 (i64w (a1.Qbu - a6.Qa3))) (O 17)::cnd (D 7) (pointer (some ⟨b8,1,none⟩)) (O 18)::cnd (D 8) (int .i64 a6.QaY) (O 19)::cnd (D 9) (int .i64 (i64w ((i64w (a1.Qbu - a6.Qa3)) - a6.QaY))) (O 20)::cnd (D 10) (pointer (some ⟨b8,2,none⟩)) (O 21)::cnd (D 11) (int .i64 a6.QaZ) (O 22)::cnd (D 12) (int .i64 (i64w ((i64w ((i64w (a1.Qbu - a6.Qa3)) - a6.QaY)) - a6.QaZ))) (O 23)::O 24::O 25::O 26::O 27::O 28::O 29::oT O 3 (oT O 4 (oT O 5 (oT O 6 (oT O 7 (oT O 8 (oT O 9 (oT O 10 (oT O 11 (oT O 12 (O 130::O 131::O 132::O 133::O 134::O 135::O 136::O 137::O 138::[])))))))))))∧St wb [Cells b10 ((encA (encI .i64)) (Ar.rep 8 0)) 103,Cells b8 (Qam a6) 62,Row 22 (K.int .i8) v3 a1.QbY,Cells b2 (([int .i64 a1.Qbu,v3]:List Value)) 99,Z] w) ?_ ⟨⟨⟨⟨⟨⟨⟨⟨⟨⟨⟨⟨⟨⟨trivial,?_⟩,?_⟩,?_⟩,?_⟩,?_⟩,?_⟩,?_⟩,?_⟩,?_⟩,?_⟩,?_⟩,?_⟩,?_⟩,?_⟩ ?_
 ·
  intro w hh hbw
  have hs:=hs.samew hh hbw
  exact ⟨fun i=>T.getD i undef,(by subst hT;rfl),hs⟩
 ·
  rintro D t w hD hp hcl ⟨O,ht,hs⟩ rest hk
  have q1_:=nz hcl 1 0 hD
  have q2_:=nz hcl 2 0 q1_
  have q3_:=nz hcl 3 0 q2_
  have q6_:=nz hcl 6 0 q3_
  have q9_:=nz hcl 9 0 q6_
  have q12_:=nz hcl 12 0 q9_
  have q13_:=nz hcl 13 0 q12_
  simp only [hD,q1_,q2_,q3_,q6_,q9_,q12_,q13_,cq,oT] at ht hs
  subst ht
  refine Qab (v:=pointer (some ⟨b2,0,none⟩)) rfl rfl rfl (g_d rfl ?_)
  try dsimp only [set0,setS]
  refine hk _ _ ⟨O,?_,hs.cast ?_⟩<;>simp only [oT,lq,cq,Nat.reduceBEq,q1_,q2_,q3_,q6_,q9_,q12_,q13_]
 ·
  rintro D t w hD hp hcl ⟨O,ht,hs⟩ rest hk
  obtain ⟨p0_,_⟩:=hp
  have q2_:=nz hcl 2 0 hD
  have q3_:=nz hcl 3 0 q2_
  have q6_:=nz hcl 6 0 q3_
  have q9_:=nz hcl 9 0 q6_
  have q12_:=nz hcl 12 0 q9_
  have q13_:=nz hcl 13 0 q12_
  simp only [hD,p0_,q2_,q3_,q6_,q9_,q12_,q13_,cq,oT] at ht hs
  subst ht
  refine Qab (v:=pointer (some ⟨b2,0,none⟩)) rfl rfl rfl (g_d rfl ?_)
  try dsimp only [set0,setS]
  refine hk _ _ ⟨O,?_,hs.cast ?_⟩<;>simp only [oT,lq,cq,Nat.reduceBEq,p0_,q2_,q3_,q6_,q9_,q12_,q13_]
 ·
  rintro D t w hD hp hcl ⟨O,ht,hs⟩ rest hk
  obtain ⟨p1_,_⟩:=hp
  obtain ⟨p0_,_⟩:=(hcl.get 1 (by decide)) p1_
  have q3_:=nz hcl 3 0 hD
  have q6_:=nz hcl 6 0 q3_
  have q9_:=nz hcl 9 0 q6_
  have q12_:=nz hcl 12 0 q9_
  have q13_:=nz hcl 13 0 q12_
  simp only [hD,p0_,p1_,q3_,q6_,q9_,q12_,q13_,cq,oT] at ht hs
  subst ht
  refine Qab (v:=pointer (some ⟨b2,0,none⟩)) rfl rfl rfl (g_d rfl ?_)
  try dsimp only [set0,setS]
  refine hk _ _ ⟨O,?_,hs.cast ?_⟩<;>simp only [oT,lq,cq,Nat.reduceBEq,p0_,p1_,q3_,q6_,q9_,q12_,q13_]
 ·
  rintro D t w hD hp hcl ⟨O,ht,hs⟩ rest hk
  obtain ⟨p2_,_⟩:=hp
  obtain ⟨p1_,_⟩:=(hcl.get 2 (by decide)) p2_
  obtain ⟨p0_,_⟩:=(hcl.get 1 (by decide)) p1_
  have q6_:=nz hcl 6 0 hD
  have q9_:=nz hcl 9 0 q6_
  have q12_:=nz hcl 12 0 q9_
  have q13_:=nz hcl 13 0 q12_
  simp only [hD,p0_,p1_,p2_,q6_,q9_,q12_,q13_,cq,oT] at ht hs
  subst ht
  refine Qaz rfl rfl (v:=int .i64 a1.Qbu) rfl rfl (fun _=>rfl) (cells_load (hs.cells 3 rfl) 0 1 rfl) (g_d rfl ?_)
  try dsimp only [set0,setS]
  refine hk _ _ ⟨O,?_,hs.cast ?_⟩<;>simp only [oT,lq,cq,Nat.reduceBEq,p0_,p1_,p2_,q6_,q9_,q12_,q13_]
 ·
  rintro D t w hD hp hcl ⟨O,ht,hs⟩ rest hk
  have q5_:=nz hcl 5 0 hD
  have q6_:=nz hcl 6 1 q5_
  have q9_:=nz hcl 9 0 q6_
  have q12_:=nz hcl 12 0 q9_
  have q13_:=nz hcl 13 0 q12_
  simp only [hD,q5_,q6_,q9_,q12_,q13_,cq,oT] at ht hs
  subst ht
  refine Qab (v:=pointer (some ⟨b8,0,none⟩)) rfl rfl rfl (g_d rfl ?_)
  try dsimp only [set0,setS]
  refine hk _ _ ⟨O,?_,hs.cast ?_⟩<;>simp only [oT,lq,cq,Nat.reduceBEq,q5_,q6_,q9_,q12_,q13_]
 ·
  rintro D t w hD hp hcl ⟨O,ht,hs⟩ rest hk
  obtain ⟨p4_,_⟩:=hp
  have q6_:=nz hcl 6 1 hD
  have q9_:=nz hcl 9 0 q6_
  have q12_:=nz hcl 12 0 q9_
  have q13_:=nz hcl 13 0 q12_
  simp only [hD,p4_,q6_,q9_,q12_,q13_,cq,oT] at ht hs
  subst ht
  refine Qaz rfl rfl (v:=int .i64 a6.Qa3) rfl rfl (fun _=>rfl) (cells_load (hs.cells 1 rfl) 0 1 rfl) (g_d rfl ?_)
  try dsimp only [set0,setS]
  refine hk _ _ ⟨O,?_,hs.cast ?_⟩<;>simp only [oT,lq,cq,Nat.reduceBEq,p4_,q6_,q9_,q12_,q13_]
 ·
  rintro D t w hD hp hcl ⟨O,ht,hs⟩ rest hk
  obtain ⟨p3_,p5_,_⟩:=hp
  obtain ⟨p4_,_⟩:=(hcl.get 5 (by decide)) p5_
  obtain ⟨p2_,_⟩:=(hcl.get 3 (by decide)) p3_
  obtain ⟨p1_,_⟩:=(hcl.get 2 (by decide)) p2_
  obtain ⟨p0_,_⟩:=(hcl.get 1 (by decide)) p1_
  have q9_:=nz hcl 9 0 hD
  have q12_:=nz hcl 12 0 q9_
  have q13_:=nz hcl 13 0 q12_
  simp only [hD,p0_,p1_,p2_,p3_,p4_,p5_,q9_,q12_,q13_,cq,oT] at ht hs
  subst ht
  refine Qab (v:=int .i64 (i64w (a1.Qbu - a6.Qa3))) rfl rfl rfl (g_d rfl ?_)
  try dsimp only [set0,setS]
  refine hk _ _ ⟨O,?_,hs.cast ?_⟩<;>simp only [oT,lq,cq,Nat.reduceBEq,p0_,p1_,p2_,p3_,p4_,p5_,q9_,q12_,q13_]
 ·
  rintro D t w hD hp hcl ⟨O,ht,hs⟩ rest hk
  have q8_:=nz hcl 8 0 hD
  have q9_:=nz hcl 9 1 q8_
  have q12_:=nz hcl 12 0 q9_
  have q13_:=nz hcl 13 0 q12_
  simp only [hD,q8_,q9_,q12_,q13_,cq,oT] at ht hs
  subst ht
  refine Qab (v:=pointer (some ⟨b8,1,none⟩)) rfl rfl rfl (g_d rfl ?_)
  try dsimp only [set0,setS]
  refine hk _ _ ⟨O,?_,hs.cast ?_⟩<;>simp only [oT,lq,cq,Nat.reduceBEq,q8_,q9_,q12_,q13_]
 ·
  rintro D t w hD hp hcl ⟨O,ht,hs⟩ rest hk
  obtain ⟨p7_,_⟩:=hp
  have q9_:=nz hcl 9 1 hD
  have q12_:=nz hcl 12 0 q9_
  have q13_:=nz hcl 13 0 q12_
  simp only [hD,p7_,q9_,q12_,q13_,cq,oT] at ht hs
  subst ht
  refine Qaz rfl rfl (v:=int .i64 a6.QaY) rfl rfl (fun _=>rfl) (cells_load (hs.cells 1 rfl) 1 1 rfl) (g_d rfl ?_)
  try dsimp only [set0,setS]
  refine hk _ _ ⟨O,?_,hs.cast ?_⟩<;>simp only [oT,lq,cq,Nat.reduceBEq,p7_,q9_,q12_,q13_]
 ·
  rintro D t w hD hp hcl ⟨O,ht,hs⟩ rest hk
  obtain ⟨p6_,p8_,_⟩:=hp
  obtain ⟨p7_,_⟩:=(hcl.get 8 (by decide)) p8_
  obtain ⟨p3_,p5_,_⟩:=(hcl.get 6 (by decide)) p6_
  obtain ⟨p4_,_⟩:=(hcl.get 5 (by decide)) p5_
  obtain ⟨p2_,_⟩:=(hcl.get 3 (by decide)) p3_
  obtain ⟨p1_,_⟩:=(hcl.get 2 (by decide)) p2_
  obtain ⟨p0_,_⟩:=(hcl.get 1 (by decide)) p1_
  have q12_:=nz hcl 12 0 hD
  have q13_:=nz hcl 13 0 q12_
  simp only [hD,p0_,p1_,p2_,p3_,p4_,p5_,p6_,p7_,p8_,q12_,q13_,cq,oT] at ht hs
  subst ht
  refine Qab (v:=int .i64 (i64w ((i64w (a1.Qbu - a6.Qa3)) - a6.QaY))) rfl rfl rfl (g_d rfl ?_)
  try dsimp only [set0,setS]
  refine hk _ _ ⟨O,?_,hs.cast ?_⟩<;>simp only [oT,lq,cq,Nat.reduceBEq,p0_,p1_,p2_,p3_,p4_,p5_,p6_,p7_,p8_,q12_,q13_]
 ·
  rintro D t w hD hp hcl ⟨O,ht,hs⟩ rest hk
  have q11_:=nz hcl 11 0 hD
  have q12_:=nz hcl 12 1 q11_
  have q13_:=nz hcl 13 0 q12_
  simp only [hD,q11_,q12_,q13_,cq,oT] at ht hs
  subst ht
  refine Qab (v:=pointer (some ⟨b8,2,none⟩)) rfl rfl rfl (g_d rfl ?_)
  try dsimp only [set0,setS]
  refine hk _ _ ⟨O,?_,hs.cast ?_⟩<;>simp only [oT,lq,cq,Nat.reduceBEq,q11_,q12_,q13_]
 ·
  rintro D t w hD hp hcl ⟨O,ht,hs⟩ rest hk
  obtain ⟨p10_,_⟩:=hp
  have q12_:=nz hcl 12 1 hD
  have q13_:=nz hcl 13 0 q12_
  simp only [hD,p10_,q12_,q13_,cq,oT] at ht hs
  subst ht
  refine Qaz rfl rfl (v:=int .i64 a6.QaZ) rfl rfl (fun _=>rfl) (cells_load (hs.cells 1 rfl) 2 1 rfl) (g_d rfl ?_)
  try dsimp only [set0,setS]
  refine hk _ _ ⟨O,?_,hs.cast ?_⟩<;>simp only [oT,lq,cq,Nat.reduceBEq,p10_,q12_,q13_]
 ·
  rintro D t w hD hp hcl ⟨O,ht,hs⟩ rest hk
  obtain ⟨p9_,p11_,_⟩:=hp
  obtain ⟨p10_,_⟩:=(hcl.get 11 (by decide)) p11_
  obtain ⟨p6_,p8_,_⟩:=(hcl.get 9 (by decide)) p9_
  obtain ⟨p7_,_⟩:=(hcl.get 8 (by decide)) p8_
  obtain ⟨p3_,p5_,_⟩:=(hcl.get 6 (by decide)) p6_
  obtain ⟨p4_,_⟩:=(hcl.get 5 (by decide)) p5_
  obtain ⟨p2_,_⟩:=(hcl.get 3 (by decide)) p3_
  obtain ⟨p1_,_⟩:=(hcl.get 2 (by decide)) p2_
  obtain ⟨p0_,_⟩:=(hcl.get 1 (by decide)) p1_
  have q13_:=nz hcl 13 0 hD
  simp only [hD,p0_,p1_,p2_,p3_,p4_,p5_,p6_,p7_,p8_,p9_,p10_,p11_,q13_,cq,oT] at ht hs
  subst ht
  refine Qab (v:=int .i64 (i64w ((i64w ((i64w (a1.Qbu - a6.Qa3)) - a6.QaY)) - a6.QaZ))) rfl rfl rfl (g_d rfl ?_)
  try dsimp only [set0,setS]
  refine hk _ _ ⟨O,?_,hs.cast ?_⟩<;>simp only [oT,lq,cq,Nat.reduceBEq,p0_,p1_,p2_,p3_,p4_,p5_,p6_,p7_,p8_,p9_,p10_,p11_,q13_]
 ·
  rintro D t w hD hp hcl ⟨O,ht,hs⟩ rest hk
  obtain ⟨p12_,p0_,p1_,p2_,p3_,p4_,p5_,p6_,p7_,p8_,p9_,p10_,p11_,_,_⟩:=hp
  simp only [hD,p0_,p1_,p2_,p3_,p4_,p5_,p6_,p7_,p8_,p9_,p10_,p11_,p12_,cq,oT] at ht hs
  subst ht
  refine Qab (v:=int .i64 (i64w ((i64w ((i64w (a1.Qbu - a6.Qa3)) - a6.QaY)) - a6.QaZ))) rfl rfl rfl (g_d rfl ?_)
  try dsimp only [set0,setS]
  refine hk _ _ ⟨O,?_,hs.cast ?_⟩<;>simp only [oT,lq,cq,Nat.reduceBEq,p0_,p1_,p2_,p3_,p4_,p5_,p6_,p7_,p8_,p9_,p10_,p11_,p12_]
 intro D t w hall hI
 obtain ⟨O,ht,hs⟩:=hI
 have p0_:=hall 0 (by decide)
 have p1_:=hall 1 (by decide)
 have p2_:=hall 2 (by decide)
 have p3_:=hall 3 (by decide)
 have p4_:=hall 4 (by decide)
 have p5_:=hall 5 (by decide)
 have p6_:=hall 6 (by decide)
 have p7_:=hall 7 (by decide)
 have p8_:=hall 8 (by decide)
 have p9_:=hall 9 (by decide)
 have p10_:=hall 10 (by decide)
 have p11_:=hall 11 (by decide)
 have p12_:=hall 12 (by decide)
 have p13_:=hall 13 (by decide)
 simp only [p0_,p1_,p2_,p3_,p4_,p5_,p6_,p7_,p8_,p9_,p10_,p11_,p12_,p13_,cq,oT] at ht hs
 subst ht
 refine Qag (Qan [0,1,2] rfl ?_)
 refine Qab (v:=agg ((encA (encI .i64)) (Ar.rep 8 0)).toArray) rfl rfl (Qcr rfl rfl) (g_d rfl ?_)
 refine QbH hs rfl rfl (z:=(agg #[int .i64 0,int .i64 0,int .i64 0,int .i64 0,int .i64 0,int .i64 0,int .i64 0,int .i64 0])) (cs:=((encA (encI .i64)) (Ar.rep 8 0))) rfl (fun _=>rfl) rfl ?_
 intro b12 w hs
 refine g_d rfl ?_
 try dsimp only [set0,setS]
 refine Qa9 (n:=8) hs ((fkA (n:=8) (he:=(fkI .i64).len) (h1:=(fkI .i64).one)).len _) rfl rfl (vs:=((encA (encI .i64)) (Ar.rep 8 0))) rfl rfl rfl (fun _=>rfl) ((fkA (n:=8) (he:=(fkI .i64).len) (h1:=(fkI .i64).one)).len _) ((fkA (n:=8) (he:=(fkI .i64).len) (h1:=(fkI .i64).one)).one _) ?_
 intro w hs
 refine g_n rfl (Qaa (Qag (Qag (Qan [0,1] rfl ?_))))
 obtain ⟨g1,H⟩:=ite_get H
 refine Qa1 (n:=0) (m:=1) rfl (fun _=>rfl) g1.1 g1.2 rfl rfl rfl rfl rfl (g_d rfl ?_)
 refine Qcl (y:=0) (fkI .i64).len (fkI .i64).one g1.1 g1.2 hs rfl rfl rfl rfl rfl (fun _=>rfl) ?_
 intro w hs
 refine g_n rfl (Qaa ?_)
 obtain ⟨o1_,Ho,Hr1_⟩:=bind_get H
 refine Qa2 (J:=fun t w=>∃ x899:(List Int),∃ x901:Int,Qat.a0 N self x899 x901=some r∧Fr t (fun O=>(O 0::O 1::O 2::O 3::O 4::O 5::pointer (some ⟨b10,0,none⟩)::O 7::O 8::O 9::oT O 1 (oT O 2 (oT O 3 (oT O 4 (oT O 5 (oT O 6 (oT O 7 (oT O 8 (oT O 9 (oT O 10 (oT O 11 (oT O 12 (O 130::O 131::O 132::O 133::O 134::O 135::O 136::O 137::O 138::[])))))))))))):List Value))∧St wb [Cells b10 ((encA (encI .i64)) (Ar.rep 8 0)) 103,Row 22 (K.int .i8) v3 x899,Cells b2 (([int .i64 x901,v3]:List Value)) 99,Z] w) ?_ ?_
 ·
  rintro t w ⟨x899,x901,H,hf,hs⟩
  obtain ⟨O,rfl⟩:=hf.open
  try dsimp only [oT]
  unfold Qat.a0 at H
  refine Qag (Qan [0,1,2] rfl ?_)
  refine Qab (v:=agg ((encA (encI .i64)) (Ar.rep 8 0)).toArray) rfl rfl (Qcr rfl rfl) (g_d rfl ?_)
  try dsimp only [set0,setS]
  refine Qa9 (n:=8) hs ((fkA (n:=8) (he:=(fkI .i64).len) (h1:=(fkI .i64).one)).len _) rfl rfl (vs:=((encA (encI .i64)) (Ar.rep 8 0))) rfl rfl rfl (fun _=>rfl) ((fkA (n:=8) (he:=(fkI .i64).len) (h1:=(fkI .i64).one)).len _) ((fkA (n:=8) (he:=(fkI .i64).len) (h1:=(fkI .i64).one)).one _) ?_
  intro w hs
  refine g_n rfl ?_
  refine Qab (v:=bool false) rfl rfl rfl (g_d rfl (Qaa ?_))
  obtain rfl:=QsJ H
  refine QaK Try.func58 (v:=tuple #[agg ((encA (encI .i64)) (Ar.rep 8 0)).toArray,bool false]) (resN (l:=Try.f58.results.toList) (vs:=[agg ((encA (encI .i64)) (Ar.rep 8 0)).toArray,bool false]) rfl ⟨⟨_,rfl,(run_loadVar_agg (es:=((encA (encI .i64)) (Ar.rep 8 0))) rfl (congrArg (Result.ok · _) ((fkA (n:=8) (he:=(fkI .i64).len) (h1:=(fkI .i64).one)).len _).symm) (cells_all (hs.cells 0 rfl)))⟩,rfl,trivial⟩ (by simp)) ?_
  have hs:=hs.pull 3 rfl
  have hs:=hs.pull 3 rfl
  have hs:=hs.pull 3 rfl
  have hs:St _ [_,_,_] _:=St.take (Γ':=[_]) hs
  exact ⟨_,rfl,rfl,hs⟩
 intro ha1_
 have hs:=hs.pull 5 rfl
 have hs:=hs.pull 1 rfl
 have hs:=hs.pull 2 rfl
 have hs:=hs.pull 3 rfl
 have hs:=hs.pull 5 rfl
 have hs:=hs.pull 5 rfl
 have hs:St _ [_,_,_,_,_,_] _:=St.take (Γ':=[]) hs
 refine Qbk (I:=fun n_ t w=>∃ x455:Int,∃ x456:(List Int),∃ x457:(Ar Int 8),rounds (fun s=>Qat.b0 N self a6 a1 a7 s.1 s.2.1 s.2.2) n_ (x455,x456,x457)=some o1_∧Fr t (fun O=>(pointer (some ⟨b2,0,none⟩)::O 1::int .i64 a7::O 3::pointer (some ⟨b8,0,none⟩)::O 5::pointer (some ⟨b10,0,none⟩)::O 7::int .i64 (i64w ((i64w ((i64w (a1.Qbu - a6.Qa3)) - a6.QaY)) - a6.QaZ))::pointer (some ⟨b12,0,none⟩)::oT O 1 (oT O 2 (oT O 3 (oT O 4 (oT O 5 (oT O 6 (oT O 7 (oT O 8 (oT O 9 (oT O 10 (oT O 11 (oT O 12 (O 130::O 131::O 132::O 133::O 134::O 135::O 136::O 137::O 138::[])))))))))))):List Value))∧St wb [Row 22 (K.int .i8) v3 x456,Cells b2 (([int .i64 x455,v3]:List Value)) 99,Cells b8 (Qam a6) 62,Cells b10 ((encA (encI .i64)) (Ar.rep 8 0)) 103,Cells b12 ((encA (encI .i64)) x457) 103,Z] w) N ⟨a1.Qbu,a1.QbY,(Ar.rep 8 0).set 0 0,Ho,rfl,hs⟩ ?_ ?_
 ·
  rintro _ _ ⟨x455,x456,x457,h,_⟩
  exact rounds_zero h
 intro n_ ih1_
 rintro t w ⟨x455,x456,x457,Ho,hf,hs⟩
 obtain ⟨O,rfl⟩:=hf.open
 try dsimp only [oT]
 obtain ⟨x1292_,H,Hx1_⟩:=rounds_succ Ho
 have H:Qat.b0 N self a6 a1 a7 x455 x456 x457=some x1292_:=H
 unfold Qat.b0 at H
 refine Qag (Qag (Qan [0,1,2,3,4] rfl ?_))
 obtain ⟨g647,H⟩:=ite_get H
 refine Qa1 (n:=0) (m:=1) rfl (fun _=>rfl) g647.1 g647.2 rfl rfl rfl rfl rfl (g_d rfl ?_)
 try dsimp only [set0,setS]
 refine Qaz rfl rfl (v:=int .i64 (x457.get 0 0)) rfl rfl (fun _=>rfl) (by rw [Nat.zero_add];exact cells_load (hs.cells 4 rfl) _ _ (encA_at (fkI .i64).len _ _ 0 g647.1 g647.2)) (g_d rfl ?_)
 refine Qab (v:=pointer (some ⟨b8,0,none⟩)) rfl rfl rfl (g_d rfl ?_)
 refine Qaz rfl rfl (v:=int .i64 a6.Qa3) rfl rfl (fun _=>rfl) (cells_load (hs.cells 2 rfl) 0 1 rfl) (g_d rfl ?_)
 try dsimp only [set0,setS]
 refine QaR (B:=decide ((x457.get 0 0)≤a6.Qa3)) rfl rfl rfl ?_ ?_
 ·
  intro hb
  rw [if_pos (b_dec_t hb)] at H
  refine g_d rfl ?_
  try dsimp only [set0,setS]
  refine Qaa (Qaw rfl (QaS (Qag ?_)))
  refine QbP (Qag (Qan [0,1] rfl ?_))
  obtain ⟨g648,H⟩:=ite_get H
  refine Qa1 (n:=1) (m:=1) rfl (fun _=>rfl) g648.1 g648.2 rfl rfl rfl rfl rfl (g_d rfl ?_)
  have hs:St _ [_,_,_,_,_,_] _:=hs.pull 4 rfl
  refine Qcl (y:=0) (fkI .i64).len (fkI .i64).one g648.1 g648.2 hs rfl rfl rfl rfl rfl (fun _=>rfl) ?_
  intro w hs
  refine g_n rfl (Qaa ?_)
  obtain ⟨o2_,Ho,Hr2_⟩:=bind_get H
  refine Qa2 (J:=fun t w=>∃ x895:Int,∃ x896:(List Int),∃ x898:(Ar Int 8),Qat.a2 N self x895 x896 x898=some x1292_∧Fr t (fun O=>(pointer (some ⟨b2,0,none⟩)::O 1::int .i64 a7::O 3::pointer (some ⟨b8,0,none⟩)::O 5::pointer (some ⟨b10,0,none⟩)::O 7::int .i64 (i64w ((i64w ((i64w (a1.Qbu - a6.Qa3)) - a6.QaY)) - a6.QaZ))::pointer (some ⟨b12,0,none⟩)::oT O 1 (oT O 2 (oT O 3 (oT O 4 (oT O 5 (oT O 6 (oT O 7 (oT O 8 (oT O 9 (oT O 10 (oT O 11 (oT O 12 (O 130::O 131::O 132::O 133::O 134::O 135::O 136::O 137::O 138::[])))))))))))):List Value))∧St wb [Cells b2 (([int .i64 x895,v3]:List Value)) 99,Row 22 (K.int .i8) v3 x896,Cells b8 (Qam a6) 62,Cells b10 ((encA (encI .i64)) (Ar.rep 8 0)) 103,Cells b12 ((encA (encI .i64)) x898) 103,Z] w) ?_ ?_
  ·
   rintro t w ⟨x895,x896,x898,H,hf,hs⟩
   obtain ⟨O,rfl⟩:=hf.open
   try dsimp only [oT]
   unfold Qat.a2 at H
   refine Qa5 (Qan [0,1,2,3,4] rfl ?_)
   obtain ⟨g1289,H⟩:=ite_get H
   refine Qa1 (n:=0) (m:=1) rfl (fun _=>rfl) g1289.1 g1289.2 rfl rfl rfl rfl rfl (g_d rfl ?_)
   try dsimp only [set0,setS]
   refine Qaz rfl rfl (v:=int .i64 (x898.get 0 0)) rfl rfl (fun _=>rfl) (by rw [Nat.zero_add];exact cells_load (hs.cells 4 rfl) _ _ (encA_at (fkI .i64).len _ _ 0 g1289.1 g1289.2)) (g_d rfl ?_)
   refine Qab (v:=int .i64 (i64w ((x898.get 0 0)+1))) rfl rfl rfl (g_d rfl ?_)
   try dsimp only [set0,setS]
   obtain ⟨g1290,H⟩:=ite_get H
   refine Qa1 (n:=0) (m:=1) rfl (fun _=>rfl) g1290.1 g1290.2 rfl rfl rfl rfl rfl (g_d rfl ?_)
   have hs:St _ [_,_,_,_,_,_] _:=hs.pull 4 rfl
   refine Qcl (y:=i64w ((x898.get 0 0)+1)) (fkI .i64).len (fkI .i64).one g1290.1 g1290.2 hs rfl rfl rfl rfl rfl (fun _=>rfl) ?_
   intro w hs
   refine g_n rfl (Qaa ?_)
   obtain rfl:=QsJ H
   have hs:=hs.pull 5 rfl
   have hs:=hs.pull 1 rfl
   have hs:=hs.pull 5 rfl
   have hs:=hs.pull 5 rfl
   have hs:=hs.pull 4 rfl
   have hs:=hs.pull 5 rfl
   have hs:St _ [_,_,_,_,_,_] _:=St.take (Γ':=[]) hs
   exact ih1_ _ _ ⟨x895,x896,x898.set 0 (i64w ((x898.get 0 0)+1)),Hx1_,rfl,hs⟩
  intro ha2_
  have hs:=hs.pull 5 rfl
  have hs:=hs.pull 1 rfl
  have hs:=hs.pull 5 rfl
  have hs:=hs.pull 5 rfl
  have hs:=hs.pull 5 rfl
  have hs:=hs.pull 5 rfl
  have hs:St _ [_,_,_,_,_,_] _:=St.take (Γ':=[]) hs
  refine Qbk (I:=fun n_ t w=>∃ x675:Int,∃ x676:(List Int),∃ x677:(Ar Int 8),rounds (fun s=>Qat.b2 N self a6 a1 a7 s.1 s.2.1 s.2.2) n_ (x675,x676,x677)=some o2_∧Fr t (fun O=>(pointer (some ⟨b2,0,none⟩)::O 1::int .i64 a7::O 3::pointer (some ⟨b8,0,none⟩)::O 5::pointer (some ⟨b10,0,none⟩)::O 7::int .i64 (i64w ((i64w ((i64w (a1.Qbu - a6.Qa3)) - a6.QaY)) - a6.QaZ))::pointer (some ⟨b12,0,none⟩)::oT O 1 (oT O 2 (oT O 3 (oT O 4 (oT O 5 (oT O 6 (oT O 7 (oT O 8 (oT O 9 (oT O 10 (oT O 11 (oT O 12 (O 130::O 131::O 132::O 133::O 134::O 135::O 136::O 137::O 138::[])))))))))))):List Value))∧St wb [Row 22 (K.int .i8) v3 x676,Cells b2 (([int .i64 x675,v3]:List Value)) 99,Cells b8 (Qam a6) 62,Cells b10 ((encA (encI .i64)) (Ar.rep 8 0)) 103,Cells b12 ((encA (encI .i64)) x677) 103,Z] w) N ⟨x455,x456,x457.set 1 0,Ho,rfl,hs⟩ ?_ ?_
  ·
   rintro _ _ ⟨x675,x676,x677,h,_⟩
   exact rounds_zero h
  intro n_ ih2_
  rintro t w ⟨x675,x676,x677,Ho,hf,hs⟩
  obtain ⟨O,rfl⟩:=hf.open
  try dsimp only [oT]
  obtain ⟨x1291_,H,Hx2_⟩:=rounds_succ Ho
  have H:Qat.b2 N self a6 a1 a7 x675 x676 x677=some x1291_:=H
  unfold Qat.b2 at H
  refine Qag (Qag (Qan [0,1,2,3,4,5,6,7] rfl ?_))
  obtain ⟨g969,H⟩:=ite_get H
  refine Qa1 (n:=0) (m:=1) rfl (fun _=>rfl) g969.1 g969.2 rfl rfl rfl rfl rfl (g_d rfl ?_)
  try dsimp only [set0,setS]
  refine Qaz rfl rfl (v:=int .i64 (x677.get 0 0)) rfl rfl (fun _=>rfl) (by rw [Nat.zero_add];exact cells_load (hs.cells 4 rfl) _ _ (encA_at (fkI .i64).len _ _ 0 g969.1 g969.2)) (g_d rfl ?_)
  obtain ⟨g970,H⟩:=ite_get H
  refine Qa1 (n:=1) (m:=1) rfl (fun _=>rfl) g970.1 g970.2 rfl rfl rfl rfl rfl (g_d rfl ?_)
  try dsimp only [set0,setS]
  refine Qaz rfl rfl (v:=int .i64 (x677.get 1 0)) rfl rfl (fun _=>rfl) (by rw [Nat.zero_add];exact cells_load (hs.cells 4 rfl) _ _ (encA_at (fkI .i64).len _ _ 0 g970.1 g970.2)) (g_d rfl ?_)
  refine Qab (v:=int .i64 (i64w ((x677.get 0 0)+(x677.get 1 0)))) rfl rfl rfl (g_d rfl ?_)
  try dsimp only [set0,setS]
  refine Qab (v:=pointer (some ⟨b8,0,none⟩)) rfl rfl rfl (g_d rfl ?_)
  refine Qaz rfl rfl (v:=int .i64 a6.Qa3) rfl rfl (fun _=>rfl) (cells_load (hs.cells 2 rfl) 0 1 rfl) (g_d rfl ?_)
  refine QaR (B:=decide ((i64w ((x677.get 0 0)+(x677.get 1 0)))≤a6.Qa3)) rfl rfl rfl ?_ ?_
  ·
   intro hb
   rw [if_pos (b_dec_t hb)] at H
   refine g_d rfl (Qaa (Qaw rfl (QaS (Qag ?_))))
   refine QbP (Qag (Qan [0,1] rfl ?_))
   obtain ⟨g971,H⟩:=ite_get H
   refine Qa1 (n:=2) (m:=1) rfl (fun _=>rfl) g971.1 g971.2 rfl rfl rfl rfl rfl (g_d rfl ?_)
   try dsimp only [set0,setS]
   have hs:St _ [_,_,_,_,_,_] _:=hs.pull 4 rfl
   refine Qcl (y:=0) (fkI .i64).len (fkI .i64).one g971.1 g971.2 hs rfl rfl rfl rfl rfl (fun _=>rfl) ?_
   intro w hs
   refine g_n rfl (Qaa ?_)
   obtain ⟨o3_,Ho,Hr3_⟩:=bind_get H
   refine Qa2 (J:=fun t w=>∃ x891:Int,∃ x892:(List Int),∃ x894:(Ar Int 8),Qat.a4 N self x891 x892 x894=some x1291_∧Fr t (fun O=>(pointer (some ⟨b2,0,none⟩)::O 1::int .i64 a7::O 3::pointer (some ⟨b8,0,none⟩)::O 5::pointer (some ⟨b10,0,none⟩)::O 7::int .i64 (i64w ((i64w ((i64w (a1.Qbu - a6.Qa3)) - a6.QaY)) - a6.QaZ))::pointer (some ⟨b12,0,none⟩)::oT O 1 (oT O 2 (oT O 3 (oT O 4 (oT O 5 (oT O 6 (oT O 7 (oT O 8 (oT O 9 (oT O 10 (oT O 11 (oT O 12 (O 130::O 131::O 132::O 133::O 134::O 135::O 136::O 137::O 138::[])))))))))))):List Value))∧St wb [Cells b2 (([int .i64 x891,v3]:List Value)) 99,Row 22 (K.int .i8) v3 x892,Cells b8 (Qam a6) 62,Cells b10 ((encA (encI .i64)) (Ar.rep 8 0)) 103,Cells b12 ((encA (encI .i64)) x894) 103,Z] w) ?_ ?_
   ·
    rintro t w ⟨x891,x892,x894,H,hf,hs⟩
    obtain ⟨O,rfl⟩:=hf.open
    try dsimp only [oT]
    unfold Qat.a4 at H
    refine Qa5 (Qan [0,1,2,3,4] rfl ?_)
    obtain ⟨g1286,H⟩:=ite_get H
    refine Qa1 (n:=1) (m:=1) rfl (fun _=>rfl) g1286.1 g1286.2 rfl rfl rfl rfl rfl (g_d rfl ?_)
    try dsimp only [set0,setS]
    refine Qaz rfl rfl (v:=int .i64 (x894.get 1 0)) rfl rfl (fun _=>rfl) (by rw [Nat.zero_add];exact cells_load (hs.cells 4 rfl) _ _ (encA_at (fkI .i64).len _ _ 0 g1286.1 g1286.2)) (g_d rfl ?_)
    refine Qab (v:=int .i64 (i64w ((x894.get 1 0)+1))) rfl rfl rfl (g_d rfl ?_)
    try dsimp only [set0,setS]
    obtain ⟨g1287,H⟩:=ite_get H
    refine Qa1 (n:=1) (m:=1) rfl (fun _=>rfl) g1287.1 g1287.2 rfl rfl rfl rfl rfl (g_d rfl ?_)
    have hs:St _ [_,_,_,_,_,_] _:=hs.pull 4 rfl
    refine Qcl (y:=i64w ((x894.get 1 0)+1)) (fkI .i64).len (fkI .i64).one g1287.1 g1287.2 hs rfl rfl rfl rfl rfl (fun _=>rfl) ?_
    intro w hs
    refine g_n rfl (Qaa ?_)
    obtain rfl:=QsJ H
    have hs:=hs.pull 5 rfl
    have hs:=hs.pull 1 rfl
    have hs:=hs.pull 5 rfl
    have hs:=hs.pull 5 rfl
    have hs:=hs.pull 4 rfl
    have hs:=hs.pull 5 rfl
    have hs:St _ [_,_,_,_,_,_] _:=St.take (Γ':=[]) hs
    exact ih2_ _ _ ⟨x891,x892,x894.set 1 (i64w ((x894.get 1 0)+1)),Hx2_,rfl,hs⟩
   intro ha3_
   have hs:=hs.pull 5 rfl
   have hs:=hs.pull 1 rfl
   have hs:=hs.pull 5 rfl
   have hs:=hs.pull 5 rfl
   have hs:=hs.pull 5 rfl
   have hs:=hs.pull 5 rfl
   have hs:St _ [_,_,_,_,_,_] _:=St.take (Γ':=[]) hs
   refine Qbk (I:=fun n_ t w=>∃ x783:Int,∃ x784:(List Int),∃ x785:(Ar Int 8),rounds (fun s=>Qat.b4 N self a6 a1 a7 s.1 s.2.1 s.2.2) n_ (x783,x784,x785)=some o3_∧Fr t (fun O=>(pointer (some ⟨b2,0,none⟩)::O 1::int .i64 a7::O 3::pointer (some ⟨b8,0,none⟩)::O 5::pointer (some ⟨b10,0,none⟩)::O 7::int .i64 (i64w ((i64w ((i64w (a1.Qbu - a6.Qa3)) - a6.QaY)) - a6.QaZ))::pointer (some ⟨b12,0,none⟩)::oT O 1 (oT O 2 (oT O 3 (oT O 4 (oT O 5 (oT O 6 (oT O 7 (oT O 8 (oT O 9 (oT O 10 (oT O 11 (oT O 12 (O 130::O 131::O 132::O 133::O 134::O 135::O 136::O 137::O 138::[])))))))))))):List Value))∧St wb [Row 22 (K.int .i8) v3 x784,Cells b2 (([int .i64 x783,v3]:List Value)) 99,Cells b8 (Qam a6) 62,Cells b10 ((encA (encI .i64)) (Ar.rep 8 0)) 103,Cells b12 ((encA (encI .i64)) x785) 103,Z] w) N ⟨x675,x676,x677.set 2 0,Ho,rfl,hs⟩ ?_ ?_
   ·
    rintro _ _ ⟨x783,x784,x785,h,_⟩
    exact rounds_zero h
   intro n_ ih3_
   rintro t w ⟨x783,x784,x785,Ho,hf,hs⟩
   obtain ⟨O,rfl⟩:=hf.open
   try dsimp only [oT]
   obtain ⟨x1288_,H,Hx3_⟩:=rounds_succ Ho
   have H:Qat.b4 N self a6 a1 a7 x783 x784 x785=some x1288_:=H
   unfold Qat.b4 at H
   refine Qag (Qag (Qan [0,1,2,3,4] rfl ?_))
   obtain ⟨g1129,H⟩:=ite_get H
   refine Qa1 (n:=2) (m:=1) rfl (fun _=>rfl) g1129.1 g1129.2 rfl rfl rfl rfl rfl (g_d rfl ?_)
   refine Qaz rfl rfl (v:=int .i64 (x785.get 2 0)) rfl rfl (fun _=>rfl) (by rw [Nat.zero_add];exact cells_load (hs.cells 4 rfl) _ _ (encA_at (fkI .i64).len _ _ 0 g1129.1 g1129.2)) (g_d rfl ?_)
   try dsimp only [set0,setS]
   refine Qab (v:=pointer (some ⟨b8,1,none⟩)) rfl rfl rfl (g_d rfl ?_)
   refine Qaz rfl rfl (v:=int .i64 a6.QaY) rfl rfl (fun _=>rfl) (cells_load (hs.cells 2 rfl) 1 1 rfl) (g_d rfl ?_)
   refine QaR (B:=decide ((x785.get 2 0)≤a6.QaY)) rfl rfl rfl ?_ ?_
   ·
    intro hb
    rw [if_pos (b_dec_t hb)] at H
    refine g_d rfl (Qaa (Qaw rfl (QaS (Qag ?_))))
    refine QbP (Qag (Qan [0,1] rfl ?_))
    obtain ⟨g1130,H⟩:=ite_get H
    refine Qa1 (n:=3) (m:=1) rfl (fun _=>rfl) g1130.1 g1130.2 rfl rfl rfl rfl rfl (g_d rfl ?_)
    try dsimp only [set0,setS]
    have hs:St _ [_,_,_,_,_,_] _:=hs.pull 4 rfl
    refine Qcl (y:=0) (fkI .i64).len (fkI .i64).one g1130.1 g1130.2 hs rfl rfl rfl rfl rfl (fun _=>rfl) ?_
    intro w hs
    refine g_n rfl (Qaa ?_)
    obtain ⟨o4_,Ho,Hr4_⟩:=bind_get H
    refine Qa2 (J:=fun t w=>∃ x887:Int,∃ x888:(List Int),∃ x890:(Ar Int 8),Qat.a6 N self x887 x888 x890=some x1288_∧Fr t (fun O=>(pointer (some ⟨b2,0,none⟩)::O 1::int .i64 a7::O 3::pointer (some ⟨b8,0,none⟩)::O 5::pointer (some ⟨b10,0,none⟩)::O 7::int .i64 (i64w ((i64w ((i64w (a1.Qbu - a6.Qa3)) - a6.QaY)) - a6.QaZ))::pointer (some ⟨b12,0,none⟩)::oT O 1 (oT O 2 (oT O 3 (oT O 4 (oT O 5 (oT O 6 (oT O 7 (oT O 8 (oT O 9 (oT O 10 (oT O 11 (oT O 12 (O 130::O 131::O 132::O 133::O 134::O 135::O 136::O 137::O 138::[])))))))))))):List Value))∧St wb [Cells b2 (([int .i64 x887,v3]:List Value)) 99,Row 22 (K.int .i8) v3 x888,Cells b8 (Qam a6) 62,Cells b10 ((encA (encI .i64)) (Ar.rep 8 0)) 103,Cells b12 ((encA (encI .i64)) x890) 103,Z] w) ?_ ?_
    ·
     rintro t w ⟨x887,x888,x890,H,hf,hs⟩
     obtain ⟨O,rfl⟩:=hf.open
     try dsimp only [oT]
     unfold Qat.a6 at H
     refine Qa5 (Qan [0,1,2,3,4] rfl ?_)
     obtain ⟨g1283,H⟩:=ite_get H
     refine Qa1 (n:=2) (m:=1) rfl (fun _=>rfl) g1283.1 g1283.2 rfl rfl rfl rfl rfl (g_d rfl ?_)
     try dsimp only [set0,setS]
     refine Qaz rfl rfl (v:=int .i64 (x890.get 2 0)) rfl rfl (fun _=>rfl) (by rw [Nat.zero_add];exact cells_load (hs.cells 4 rfl) _ _ (encA_at (fkI .i64).len _ _ 0 g1283.1 g1283.2)) (g_d rfl ?_)
     refine Qab (v:=int .i64 (i64w ((x890.get 2 0)+1))) rfl rfl rfl (g_d rfl ?_)
     try dsimp only [set0,setS]
     obtain ⟨g1284,H⟩:=ite_get H
     refine Qa1 (n:=2) (m:=1) rfl (fun _=>rfl) g1284.1 g1284.2 rfl rfl rfl rfl rfl (g_d rfl ?_)
     have hs:St _ [_,_,_,_,_,_] _:=hs.pull 4 rfl
     refine Qcl (y:=i64w ((x890.get 2 0)+1)) (fkI .i64).len (fkI .i64).one g1284.1 g1284.2 hs rfl rfl rfl rfl rfl (fun _=>rfl) ?_
     intro w hs
     refine g_n rfl (Qaa ?_)
     obtain rfl:=QsJ H
     have hs:=hs.pull 5 rfl
     have hs:=hs.pull 1 rfl
     have hs:=hs.pull 5 rfl
     have hs:=hs.pull 5 rfl
     have hs:=hs.pull 4 rfl
     have hs:=hs.pull 5 rfl
     have hs:St _ [_,_,_,_,_,_] _:=St.take (Γ':=[]) hs
     exact ih3_ _ _ ⟨x887,x888,x890.set 2 (i64w ((x890.get 2 0)+1)),Hx3_,rfl,hs⟩
    intro ha4_
    have hs:=hs.pull 5 rfl
    have hs:=hs.pull 1 rfl
    have hs:=hs.pull 5 rfl
    have hs:=hs.pull 5 rfl
    have hs:=hs.pull 5 rfl
    have hs:=hs.pull 5 rfl
    have hs:St _ [_,_,_,_,_,_] _:=St.take (Γ':=[]) hs
    refine Qbk (I:=fun n_ t w=>∃ x835:Int,∃ x836:(List Int),∃ x837:(Ar Int 8),rounds (fun s=>Qat.b6 N self a6 a1 a7 s.1 s.2.1 s.2.2) n_ (x835,x836,x837)=some o4_∧Fr t (fun O=>(pointer (some ⟨b2,0,none⟩)::O 1::int .i64 a7::O 3::pointer (some ⟨b8,0,none⟩)::O 5::pointer (some ⟨b10,0,none⟩)::O 7::int .i64 (i64w ((i64w ((i64w (a1.Qbu - a6.Qa3)) - a6.QaY)) - a6.QaZ))::pointer (some ⟨b12,0,none⟩)::oT O 1 (oT O 2 (oT O 3 (oT O 4 (oT O 5 (oT O 6 (oT O 7 (oT O 8 (oT O 9 (oT O 10 (oT O 11 (oT O 12 (O 130::O 131::O 132::O 133::O 134::O 135::O 136::O 137::O 138::[])))))))))))):List Value))∧St wb [Row 22 (K.int .i8) v3 x836,Cells b2 (([int .i64 x835,v3]:List Value)) 99,Cells b8 (Qam a6) 62,Cells b10 ((encA (encI .i64)) (Ar.rep 8 0)) 103,Cells b12 ((encA (encI .i64)) x837) 103,Z] w) N ⟨x783,x784,x785.set 3 0,Ho,rfl,hs⟩ ?_ ?_
    ·
     rintro _ _ ⟨x835,x836,x837,h,_⟩
     exact rounds_zero h
    intro n_ ih4_
    rintro t w ⟨x835,x836,x837,Ho,hf,hs⟩
    obtain ⟨O,rfl⟩:=hf.open
    try dsimp only [oT]
    obtain ⟨x1285_,H,Hx4_⟩:=rounds_succ Ho
    have H:Qat.b6 N self a6 a1 a7 x835 x836 x837=some x1285_:=H
    unfold Qat.b6 at H
    refine Qag (Qag (Qan [0,1,2,3,4,5,6,7] rfl ?_))
    obtain ⟨g1207,H⟩:=ite_get H
    refine Qa1 (n:=2) (m:=1) rfl (fun _=>rfl) g1207.1 g1207.2 rfl rfl rfl rfl rfl (g_d rfl ?_)
    refine Qaz rfl rfl (v:=int .i64 (x837.get 2 0)) rfl rfl (fun _=>rfl) (by rw [Nat.zero_add];exact cells_load (hs.cells 4 rfl) _ _ (encA_at (fkI .i64).len _ _ 0 g1207.1 g1207.2)) (g_d rfl ?_)
    try dsimp only [set0,setS]
    obtain ⟨g1208,H⟩:=ite_get H
    refine Qa1 (n:=3) (m:=1) rfl (fun _=>rfl) g1208.1 g1208.2 rfl rfl rfl rfl rfl (g_d rfl ?_)
    refine Qaz rfl rfl (v:=int .i64 (x837.get 3 0)) rfl rfl (fun _=>rfl) (by rw [Nat.zero_add];exact cells_load (hs.cells 4 rfl) _ _ (encA_at (fkI .i64).len _ _ 0 g1208.1 g1208.2)) (g_d rfl ?_)
    try dsimp only [set0,setS]
    refine Qab (v:=int .i64 (i64w ((x837.get 2 0)+(x837.get 3 0)))) rfl rfl rfl (g_d rfl ?_)
    refine Qab (v:=pointer (some ⟨b8,1,none⟩)) rfl rfl rfl (g_d rfl ?_)
    refine Qaz rfl rfl (v:=int .i64 a6.QaY) rfl rfl (fun _=>rfl) (cells_load (hs.cells 2 rfl) 1 1 rfl) (g_d rfl ?_)
    try dsimp only [set0,setS]
    refine QaR (B:=decide ((i64w ((x837.get 2 0)+(x837.get 3 0)))≤a6.QaY)) rfl rfl rfl ?_ ?_
    ·
     intro hb
     rw [if_pos (b_dec_t hb)] at H
     refine g_d rfl ?_
     try dsimp only [set0,setS]
     refine Qaa (Qaw rfl (QaS (Qag ?_)))
     refine QbP (Qag (Qan [0,1] rfl ?_))
     obtain ⟨g1209,H⟩:=ite_get H
     refine Qa1 (n:=4) (m:=1) rfl (fun _=>rfl) g1209.1 g1209.2 rfl rfl rfl rfl rfl (g_d rfl ?_)
     have hs:St _ [_,_,_,_,_,_] _:=hs.pull 4 rfl
     refine Qcl (y:=0) (fkI .i64).len (fkI .i64).one g1209.1 g1209.2 hs rfl rfl rfl rfl rfl (fun _=>rfl) ?_
     intro w hs
     refine g_n rfl (Qaa ?_)
     obtain ⟨o5_,Ho,Hr5_⟩:=bind_get H
     refine Qa2 (J:=fun t w=>∃ x883:Int,∃ x884:(List Int),∃ x886:(Ar Int 8),Qat.a8 N self x883 x884 x886=some x1285_∧Fr t (fun O=>(pointer (some ⟨b2,0,none⟩)::O 1::int .i64 a7::O 3::pointer (some ⟨b8,0,none⟩)::O 5::pointer (some ⟨b10,0,none⟩)::O 7::int .i64 (i64w ((i64w ((i64w (a1.Qbu - a6.Qa3)) - a6.QaY)) - a6.QaZ))::pointer (some ⟨b12,0,none⟩)::oT O 1 (oT O 2 (oT O 3 (oT O 4 (oT O 5 (oT O 6 (oT O 7 (oT O 8 (oT O 9 (oT O 10 (oT O 11 (oT O 12 (O 130::O 131::O 132::O 133::O 134::O 135::O 136::O 137::O 138::[])))))))))))):List Value))∧St wb [Cells b2 (([int .i64 x883,v3]:List Value)) 99,Row 22 (K.int .i8) v3 x884,Cells b8 (Qam a6) 62,Cells b10 ((encA (encI .i64)) (Ar.rep 8 0)) 103,Cells b12 ((encA (encI .i64)) x886) 103,Z] w) ?_ ?_
     ·
      rintro t w ⟨x883,x884,x886,H,hf,hs⟩
      obtain ⟨O,rfl⟩:=hf.open
      try dsimp only [oT]
      unfold Qat.a8 at H
      refine Qa5 (Qan [0,1,2,3,4] rfl ?_)
      obtain ⟨g1280,H⟩:=ite_get H
      refine Qa1 (n:=3) (m:=1) rfl (fun _=>rfl) g1280.1 g1280.2 rfl rfl rfl rfl rfl (g_d rfl ?_)
      try dsimp only [set0,setS]
      refine Qaz rfl rfl (v:=int .i64 (x886.get 3 0)) rfl rfl (fun _=>rfl) (by rw [Nat.zero_add];exact cells_load (hs.cells 4 rfl) _ _ (encA_at (fkI .i64).len _ _ 0 g1280.1 g1280.2)) (g_d rfl ?_)
      refine Qab (v:=int .i64 (i64w ((x886.get 3 0)+1))) rfl rfl rfl (g_d rfl ?_)
      try dsimp only [set0,setS]
      obtain ⟨g1281,H⟩:=ite_get H
      refine Qa1 (n:=3) (m:=1) rfl (fun _=>rfl) g1281.1 g1281.2 rfl rfl rfl rfl rfl (g_d rfl ?_)
      have hs:St _ [_,_,_,_,_,_] _:=hs.pull 4 rfl
      refine Qcl (y:=i64w ((x886.get 3 0)+1)) (fkI .i64).len (fkI .i64).one g1281.1 g1281.2 hs rfl rfl rfl rfl rfl (fun _=>rfl) ?_
      intro w hs
      refine g_n rfl (Qaa ?_)
      obtain rfl:=QsJ H
      have hs:=hs.pull 5 rfl
      have hs:=hs.pull 1 rfl
      have hs:=hs.pull 5 rfl
      have hs:=hs.pull 5 rfl
      have hs:=hs.pull 4 rfl
      have hs:=hs.pull 5 rfl
      have hs:St _ [_,_,_,_,_,_] _:=St.take (Γ':=[]) hs
      exact ih4_ _ _ ⟨x883,x884,x886.set 3 (i64w ((x886.get 3 0)+1)),Hx4_,rfl,hs⟩
     intro ha5_
     have hs:=hs.pull 5 rfl
     have hs:=hs.pull 1 rfl
     have hs:=hs.pull 5 rfl
     have hs:=hs.pull 5 rfl
     have hs:=hs.pull 5 rfl
     have hs:=hs.pull 5 rfl
     have hs:St _ [_,_,_,_,_,_] _:=St.take (Γ':=[]) hs
     refine Qbk (I:=fun n_ t w=>∃ x859:Int,∃ x860:(List Int),∃ x861:(Ar Int 8),rounds (fun s=>Qat.b8 N self a6 a1 a7 s.1 s.2.1 s.2.2) n_ (x859,x860,x861)=some o5_∧Fr t (fun O=>(pointer (some ⟨b2,0,none⟩)::O 1::int .i64 a7::O 3::pointer (some ⟨b8,0,none⟩)::O 5::pointer (some ⟨b10,0,none⟩)::O 7::int .i64 (i64w ((i64w ((i64w (a1.Qbu - a6.Qa3)) - a6.QaY)) - a6.QaZ))::pointer (some ⟨b12,0,none⟩)::oT O 1 (oT O 2 (oT O 3 (oT O 4 (oT O 5 (oT O 6 (oT O 7 (oT O 8 (oT O 9 (oT O 10 (oT O 11 (oT O 12 (O 130::O 131::O 132::O 133::O 134::O 135::O 136::O 137::O 138::[])))))))))))):List Value))∧St wb [Row 22 (K.int .i8) v3 x860,Cells b2 (([int .i64 x859,v3]:List Value)) 99,Cells b8 (Qam a6) 62,Cells b10 ((encA (encI .i64)) (Ar.rep 8 0)) 103,Cells b12 ((encA (encI .i64)) x861) 103,Z] w) N ⟨x835,x836,x837.set 4 0,Ho,rfl,hs⟩ ?_ ?_
     ·
      rintro _ _ ⟨x859,x860,x861,h,_⟩
      exact rounds_zero h
     intro n_ ih5_
     rintro t w ⟨x859,x860,x861,Ho,hf,hs⟩
     obtain ⟨O,rfl⟩:=hf.open
     try dsimp only [oT]
     obtain ⟨x1282_,H,Hx5_⟩:=rounds_succ Ho
     have H:Qat.b8 N self a6 a1 a7 x859 x860 x861=some x1282_:=H
     unfold Qat.b8 at H
     refine Qag (Qag (Qan [0,1,2,3,4] rfl ?_))
     obtain ⟨g1245,H⟩:=ite_get H
     refine Qa1 (n:=4) (m:=1) rfl (fun _=>rfl) g1245.1 g1245.2 rfl rfl rfl rfl rfl (g_d rfl ?_)
     try dsimp only [set0,setS]
     refine Qaz rfl rfl (v:=int .i64 (x861.get 4 0)) rfl rfl (fun _=>rfl) (by rw [Nat.zero_add];exact cells_load (hs.cells 4 rfl) _ _ (encA_at (fkI .i64).len _ _ 0 g1245.1 g1245.2)) (g_d rfl ?_)
     refine Qab (v:=pointer (some ⟨b8,2,none⟩)) rfl rfl rfl (g_d rfl ?_)
     refine Qaz rfl rfl (v:=int .i64 a6.QaZ) rfl rfl (fun _=>rfl) (cells_load (hs.cells 2 rfl) 2 1 rfl) (g_d rfl ?_)
     try dsimp only [set0,setS]
     refine QaR (B:=decide ((x861.get 4 0)≤a6.QaZ)) rfl rfl rfl ?_ ?_
     ·
      intro hb
      rw [if_pos (b_dec_t hb)] at H
      refine g_d rfl ?_
      try dsimp only [set0,setS]
      refine Qaa (Qaw rfl (QaS (Qag ?_)))
      refine QbP (Qag (Qan [0,1] rfl ?_))
      obtain ⟨g1246,H⟩:=ite_get H
      refine Qa1 (n:=5) (m:=1) rfl (fun _=>rfl) g1246.1 g1246.2 rfl rfl rfl rfl rfl (g_d rfl ?_)
      have hs:St _ [_,_,_,_,_,_] _:=hs.pull 4 rfl
      refine Qcl (y:=0) (fkI .i64).len (fkI .i64).one g1246.1 g1246.2 hs rfl rfl rfl rfl rfl (fun _=>rfl) ?_
      intro w hs
      refine g_n rfl (Qaa ?_)
      obtain ⟨o6_,Ho,Hr6_⟩:=bind_get H
      refine Qa2 (J:=fun t w=>∃ x879:Int,∃ x880:(List Int),∃ x882:(Ar Int 8),Qat.a10 N self x879 x880 x882=some x1282_∧Fr t (fun O=>(pointer (some ⟨b2,0,none⟩)::O 1::int .i64 a7::O 3::pointer (some ⟨b8,0,none⟩)::O 5::pointer (some ⟨b10,0,none⟩)::O 7::int .i64 (i64w ((i64w ((i64w (a1.Qbu - a6.Qa3)) - a6.QaY)) - a6.QaZ))::pointer (some ⟨b12,0,none⟩)::oT O 1 (oT O 2 (oT O 3 (oT O 4 (oT O 5 (oT O 6 (oT O 7 (oT O 8 (oT O 9 (oT O 10 (oT O 11 (oT O 12 (O 130::O 131::O 132::O 133::O 134::O 135::O 136::O 137::O 138::[])))))))))))):List Value))∧St wb [Cells b2 (([int .i64 x879,v3]:List Value)) 99,Row 22 (K.int .i8) v3 x880,Cells b8 (Qam a6) 62,Cells b10 ((encA (encI .i64)) (Ar.rep 8 0)) 103,Cells b12 ((encA (encI .i64)) x882) 103,Z] w) ?_ ?_
      ·
       rintro t w ⟨x879,x880,x882,H,hf,hs⟩
       obtain ⟨O,rfl⟩:=hf.open
       try dsimp only [oT]
       unfold Qat.a10 at H
       refine Qa5 (Qan [0,1,2,3,4] rfl ?_)
       obtain ⟨g1277,H⟩:=ite_get H
       refine Qa1 (n:=4) (m:=1) rfl (fun _=>rfl) g1277.1 g1277.2 rfl rfl rfl rfl rfl (g_d rfl ?_)
       try dsimp only [set0,setS]
       refine Qaz rfl rfl (v:=int .i64 (x882.get 4 0)) rfl rfl (fun _=>rfl) (by rw [Nat.zero_add];exact cells_load (hs.cells 4 rfl) _ _ (encA_at (fkI .i64).len _ _ 0 g1277.1 g1277.2)) (g_d rfl ?_)
       refine Qab (v:=int .i64 (i64w ((x882.get 4 0)+1))) rfl rfl rfl (g_d rfl ?_)
       try dsimp only [set0,setS]
       obtain ⟨g1278,H⟩:=ite_get H
       refine Qa1 (n:=4) (m:=1) rfl (fun _=>rfl) g1278.1 g1278.2 rfl rfl rfl rfl rfl (g_d rfl ?_)
       have hs:St _ [_,_,_,_,_,_] _:=hs.pull 4 rfl
       refine Qcl (y:=i64w ((x882.get 4 0)+1)) (fkI .i64).len (fkI .i64).one g1278.1 g1278.2 hs rfl rfl rfl rfl rfl (fun _=>rfl) ?_
       intro w hs
       refine g_n rfl (Qaa ?_)
       obtain rfl:=QsJ H
       have hs:=hs.pull 5 rfl
       have hs:=hs.pull 1 rfl
       have hs:=hs.pull 5 rfl
       have hs:=hs.pull 5 rfl
       have hs:=hs.pull 4 rfl
       have hs:=hs.pull 5 rfl
       have hs:St _ [_,_,_,_,_,_] _:=St.take (Γ':=[]) hs
       exact ih5_ _ _ ⟨x879,x880,x882.set 4 (i64w ((x882.get 4 0)+1)),Hx5_,rfl,hs⟩
      intro ha6_
      have hs:=hs.pull 5 rfl
      have hs:=hs.pull 1 rfl
      have hs:=hs.pull 5 rfl
      have hs:=hs.pull 5 rfl
      have hs:=hs.pull 5 rfl
      have hs:=hs.pull 5 rfl
      have hs:St _ [_,_,_,_,_,_] _:=St.take (Γ':=[]) hs
      refine Qbk (I:=fun n_ t w=>∃ x869:Int,∃ x870:(List Int),∃ x871:(Ar Int 8),rounds (fun s=>Qat.b10 N self a6 a1 a7 s.1 s.2.1 s.2.2) n_ (x869,x870,x871)=some o6_∧Fr t (fun O=>(pointer (some ⟨b2,0,none⟩)::O 1::int .i64 a7::O 3::pointer (some ⟨b8,0,none⟩)::O 5::pointer (some ⟨b10,0,none⟩)::O 7::int .i64 (i64w ((i64w ((i64w (a1.Qbu - a6.Qa3)) - a6.QaY)) - a6.QaZ))::pointer (some ⟨b12,0,none⟩)::oT O 1 (oT O 2 (oT O 3 (oT O 4 (oT O 5 (oT O 6 (oT O 7 (oT O 8 (oT O 9 (oT O 10 (oT O 11 (oT O 12 (O 130::O 131::O 132::O 133::O 134::O 135::O 136::O 137::O 138::[])))))))))))):List Value))∧St wb [Row 22 (K.int .i8) v3 x870,Cells b2 (([int .i64 x869,v3]:List Value)) 99,Cells b8 (Qam a6) 62,Cells b10 ((encA (encI .i64)) (Ar.rep 8 0)) 103,Cells b12 ((encA (encI .i64)) x871) 103,Z] w) N ⟨x859,x860,x861.set 5 0,Ho,rfl,hs⟩ ?_ ?_
      ·
       rintro _ _ ⟨x869,x870,x871,h,_⟩
       exact rounds_zero h
      intro n_ ih6_
      rintro t w ⟨x869,x870,x871,Ho,hf,hs⟩
      obtain ⟨O,rfl⟩:=hf.open
      try dsimp only [oT]
      obtain ⟨x1279_,H,Hx6_⟩:=rounds_succ Ho
      have H:Qat.b10 N self a6 a1 a7 x869 x870 x871=some x1279_:=H
      unfold Qat.b10 at H
      refine Qag (Qag (Qan [0,1,2,3,4,5,6,7] rfl ?_))
      obtain ⟨g1262,H⟩:=ite_get H
      refine Qa1 (n:=4) (m:=1) rfl (fun _=>rfl) g1262.1 g1262.2 rfl rfl rfl rfl rfl (g_d rfl ?_)
      try dsimp only [set0,setS]
      refine Qaz rfl rfl (v:=int .i64 (x871.get 4 0)) rfl rfl (fun _=>rfl) (by rw [Nat.zero_add];exact cells_load (hs.cells 4 rfl) _ _ (encA_at (fkI .i64).len _ _ 0 g1262.1 g1262.2)) (g_d rfl ?_)
      obtain ⟨g1263,H⟩:=ite_get H
      refine Qa1 (n:=5) (m:=1) rfl (fun _=>rfl) g1263.1 g1263.2 rfl rfl rfl rfl rfl (g_d rfl ?_)
      try dsimp only [set0,setS]
      refine Qaz rfl rfl (v:=int .i64 (x871.get 5 0)) rfl rfl (fun _=>rfl) (by rw [Nat.zero_add];exact cells_load (hs.cells 4 rfl) _ _ (encA_at (fkI .i64).len _ _ 0 g1263.1 g1263.2)) (g_d rfl ?_)
      refine Qab (v:=int .i64 (i64w ((x871.get 4 0)+(x871.get 5 0)))) rfl rfl rfl (g_d rfl ?_)
      try dsimp only [set0,setS]
      refine Qab (v:=pointer (some ⟨b8,2,none⟩)) rfl rfl rfl (g_d rfl ?_)
      refine Qaz rfl rfl (v:=int .i64 a6.QaZ) rfl rfl (fun _=>rfl) (cells_load (hs.cells 2 rfl) 2 1 rfl) (g_d rfl ?_)
      refine QaR (B:=decide ((i64w ((x871.get 4 0)+(x871.get 5 0)))≤a6.QaZ)) rfl rfl rfl ?_ ?_
      ·
       intro hb
       rw [if_pos (b_dec_t hb)] at H
       refine g_d rfl (Qaa (Qaw rfl (QaS (Qag ?_))))
       refine Qa2 (J:=(fun t w=>∃ x875:Int,∃ x876:(List Int),∃ x878:(Ar Int 8),Qat.j12 N self x875 x876 x878=some x1279_∧Fr t (fun O=>(pointer (some ⟨b2,0,none⟩)::O 1::int .i64 a7::O 3::pointer (some ⟨b8,0,none⟩)::O 5::pointer (some ⟨b10,0,none⟩)::O 7::int .i64 (i64w ((i64w ((i64w (a1.Qbu - a6.Qa3)) - a6.QaY)) - a6.QaZ))::pointer (some ⟨b12,0,none⟩)::oT O 1 (oT O 2 (oT O 3 (oT O 4 (oT O 5 (oT O 6 (oT O 7 (oT O 8 (oT O 9 (oT O 10 (oT O 11 (oT O 12 (O 130::O 131::O 132::O 133::O 134::O 135::O 136::O 137::O 138::[])))))))))))):List Value))∧St wb [Cells b2 (([int .i64 x875,v3]:List Value)) 99,Row 22 (K.int .i8) v3 x876,Cells b8 (Qam a6) 62,Cells b10 ((encA (encI .i64)) (Ar.rep 8 0)) 103,Cells b12 ((encA (encI .i64)) x878) 103,Z] w)) ?_ ?_
       ·
        rintro t w ⟨x875,x876,x878,H,hf,hs⟩
        obtain ⟨O,rfl⟩:=hf.open
        try dsimp only [oT]
        unfold Qat.j12 at H
        refine Qan [0,1,2,3,4] rfl ?_
        obtain ⟨g1275,H⟩:=ite_get H
        refine Qa1 (n:=5) (m:=1) rfl (fun _=>rfl) g1275.1 g1275.2 rfl rfl rfl rfl rfl (g_d rfl ?_)
        refine Qaz rfl rfl (v:=int .i64 (x878.get 5 0)) rfl rfl (fun _=>rfl) (by rw [Nat.zero_add];exact cells_load (hs.cells 4 rfl) _ _ (encA_at (fkI .i64).len _ _ 0 g1275.1 g1275.2)) (g_d rfl ?_)
        try dsimp only [set0,setS]
        refine Qab (v:=int .i64 (i64w ((x878.get 5 0)+1))) rfl rfl rfl (g_d rfl ?_)
        obtain ⟨g1276,H⟩:=ite_get H
        refine Qa1 (n:=5) (m:=1) rfl (fun _=>rfl) g1276.1 g1276.2 rfl rfl rfl rfl rfl (g_d rfl ?_)
        try dsimp only [set0,setS]
        have hs:St _ [_,_,_,_,_,_] _:=hs.pull 4 rfl
        refine Qcl (y:=i64w ((x878.get 5 0)+1)) (fkI .i64).len (fkI .i64).one g1276.1 g1276.2 hs rfl rfl rfl rfl rfl (fun _=>rfl) ?_
        intro w hs
        refine g_n rfl (Qaa ?_)
        obtain rfl:=QsJ H
        have hs:=hs.pull 5 rfl
        have hs:=hs.pull 1 rfl
        have hs:=hs.pull 5 rfl
        have hs:=hs.pull 5 rfl
        have hs:=hs.pull 4 rfl
        have hs:=hs.pull 5 rfl
        have hs:St _ [_,_,_,_,_,_] _:=St.take (Γ':=[]) hs
        exact ih6_ _ _ ⟨x875,x876,x878.set 5 (i64w ((x878.get 5 0)+1)),Hx6_,rfl,hs⟩
       intro ha
       refine Qag (Qan [0,1,2,3,4,5,6,7,8,9,10,11,12,13,14,15,16,17] rfl ?_)
       obtain ⟨g1264,H⟩:=ite_get H
       refine Qa1 (n:=0) (m:=1) rfl (fun _=>rfl) g1264.1 g1264.2 rfl rfl rfl rfl rfl (g_d rfl ?_)
       try dsimp only [set0,setS]
       refine Qaz rfl rfl (v:=int .i64 (x871.get 0 0)) rfl rfl (fun _=>rfl) (by rw [Nat.zero_add];exact cells_load (hs.cells 4 rfl) _ _ (encA_at (fkI .i64).len _ _ 0 g1264.1 g1264.2)) (g_d rfl ?_)
       obtain ⟨g1265,H⟩:=ite_get H
       refine Qa1 (n:=2) (m:=1) rfl (fun _=>rfl) g1265.1 g1265.2 rfl rfl rfl rfl rfl (g_d rfl ?_)
       try dsimp only [set0,setS]
       refine Qaz rfl rfl (v:=int .i64 (x871.get 2 0)) rfl rfl (fun _=>rfl) (by rw [Nat.zero_add];exact cells_load (hs.cells 4 rfl) _ _ (encA_at (fkI .i64).len _ _ 0 g1265.1 g1265.2)) (g_d rfl ?_)
       refine Qab (v:=int .i64 (i64w ((x871.get 0 0)+(x871.get 2 0)))) rfl rfl rfl (g_d rfl ?_)
       try dsimp only [set0,setS]
       obtain ⟨g1266,H⟩:=ite_get H
       refine Qa1 (n:=4) (m:=1) rfl (fun _=>rfl) g1266.1 g1266.2 rfl rfl rfl rfl rfl (g_d rfl ?_)
       refine Qaz rfl rfl (v:=int .i64 (x871.get 4 0)) rfl rfl (fun _=>rfl) (by rw [Nat.zero_add];exact cells_load (hs.cells 4 rfl) _ _ (encA_at (fkI .i64).len _ _ 0 g1266.1 g1266.2)) (g_d rfl ?_)
       try dsimp only [set0,setS]
       refine Qab (v:=int .i64 (i64w ((i64w ((x871.get 0 0)+(x871.get 2 0)))+(x871.get 4 0)))) rfl rfl rfl (g_d rfl ?_)
       obtain ⟨g1267,H⟩:=ite_get H
       refine Qa1 (n:=1) (m:=1) rfl (fun _=>rfl) g1267.1 g1267.2 rfl rfl rfl rfl rfl (g_d rfl ?_)
       try dsimp only [set0,setS]
       refine Qaz rfl rfl (v:=int .i64 (x871.get 1 0)) rfl rfl (fun _=>rfl) (by rw [Nat.zero_add];exact cells_load (hs.cells 4 rfl) _ _ (encA_at (fkI .i64).len _ _ 0 g1267.1 g1267.2)) (g_d rfl ?_)
       refine Qab (v:=int .i64 (i64w ((i64w ((i64w ((x871.get 0 0)+(x871.get 2 0)))+(x871.get 4 0))) - (x871.get 1 0)))) rfl rfl rfl (g_d rfl ?_)
       try dsimp only [set0,setS]
       obtain ⟨g1268,H⟩:=ite_get H
       refine Qa1 (n:=3) (m:=1) rfl (fun _=>rfl) g1268.1 g1268.2 rfl rfl rfl rfl rfl (g_d rfl ?_)
       refine Qaz rfl rfl (v:=int .i64 (x871.get 3 0)) rfl rfl (fun _=>rfl) (by rw [Nat.zero_add];exact cells_load (hs.cells 4 rfl) _ _ (encA_at (fkI .i64).len _ _ 0 g1268.1 g1268.2)) (g_d rfl ?_)
       try dsimp only [set0,setS]
       refine Qab (v:=int .i64 (i64w ((i64w ((i64w ((i64w ((x871.get 0 0)+(x871.get 2 0)))+(x871.get 4 0))) - (x871.get 1 0))) - (x871.get 3 0)))) rfl rfl rfl (g_d rfl ?_)
       obtain ⟨g1269,H⟩:=ite_get H
       refine Qa1 (n:=5) (m:=1) rfl (fun _=>rfl) g1269.1 g1269.2 rfl rfl rfl rfl rfl (g_d rfl ?_)
       try dsimp only [set0,setS]
       refine Qaz rfl rfl (v:=int .i64 (x871.get 5 0)) rfl rfl (fun _=>rfl) (by rw [Nat.zero_add];exact cells_load (hs.cells 4 rfl) _ _ (encA_at (fkI .i64).len _ _ 0 g1269.1 g1269.2)) (g_d rfl ?_)
       refine Qab (v:=int .i64 (i64w ((i64w ((i64w ((i64w ((i64w ((x871.get 0 0)+(x871.get 2 0)))+(x871.get 4 0))) - (x871.get 1 0))) - (x871.get 3 0))) - (x871.get 5 0)))) rfl rfl rfl (g_d rfl ?_)
       try dsimp only [set0,setS]
       refine Qab (v:=int .i64 (i64w ((i64w ((i64w ((i64w ((i64w ((x871.get 0 0)+(x871.get 2 0)))+(x871.get 4 0))) - (x871.get 1 0))) - (x871.get 3 0))) - (x871.get 5 0)))) rfl rfl rfl (g_d rfl (Qaa (Qag (Qan [0,1,2,3,4] rfl ?_))))
       refine Qab (v:=int .i64 (i64w ((i64w ((i64w ((i64w ((i64w ((x871.get 0 0)+(x871.get 2 0)))+(x871.get 4 0))) - (x871.get 1 0))) - (x871.get 3 0))) - (x871.get 5 0)))) rfl rfl rfl (g_d rfl ?_)
       refine Qab (v:=int .i64 (i64w (0 - (i64w ((i64w ((i64w ((i64w ((i64w ((x871.get 0 0)+(x871.get 2 0)))+(x871.get 4 0))) - (x871.get 1 0))) - (x871.get 3 0))) - (x871.get 5 0)))))) rfl rfl rfl (g_d rfl ?_)
       try dsimp only [set0,setS]
       obtain ⟨r872,Hr872,H⟩:=bind_get H
       refine QaP (args:=[int .i64 0,int .i64 (i64w (0 - (i64w ((i64w ((i64w ((i64w ((i64w ((x871.get 0 0)+(x871.get 2 0)))+(x871.get 4 0))) - (x871.get 1 0))) - (x871.get 3 0))) - (x871.get 5 0)))))]) rfl rfl (QaT rfl (callFunc_enter Try.func75 rfl rfl) rfl) (Qcu.calls (a1:=0) (a2:=i64w (0 - (i64w ((i64w ((i64w ((i64w ((i64w ((x871.get 0 0)+(x871.get 2 0)))+(x871.get 4 0))) - (x871.get 1 0))) - (x871.get 3 0))) - (x871.get 5 0))))) Hr872) ?_
       rintro _ w ⟨rfl,hs2⟩
       have hs:St _ [_,_,_,_,_,_] _:=hs.call hs2
       refine g_d rfl ?_
       obtain ⟨g1270,H⟩:=ite_get H
       refine Qa1 (n:=6) (m:=1) rfl (fun _=>rfl) g1270.1 g1270.2 rfl rfl rfl rfl rfl (g_d rfl ?_)
       try dsimp only [set0,setS]
       have hs:St _ [_,_,_,_,_,_] _:=hs.pull 4 rfl
       refine Qcl (y:=r872) (fkI .i64).len (fkI .i64).one g1270.1 g1270.2 hs rfl rfl rfl rfl rfl (fun _=>rfl) ?_
       intro w hs
       refine g_n rfl (Qaa (Qag (Qan [0,1,2,3] rfl ?_)))
       refine Qab (v:=int .i64 (i64w ((i64w ((i64w ((i64w ((i64w ((x871.get 0 0)+(x871.get 2 0)))+(x871.get 4 0))) - (x871.get 1 0))) - (x871.get 3 0))) - (x871.get 5 0)))) rfl rfl rfl (g_d rfl ?_)
       obtain ⟨r873,Hr873,H⟩:=bind_get H
       refine QaP (args:=[int .i64 0,int .i64 (i64w ((i64w ((i64w ((i64w ((i64w ((x871.get 0 0)+(x871.get 2 0)))+(x871.get 4 0))) - (x871.get 1 0))) - (x871.get 3 0))) - (x871.get 5 0)))]) rfl rfl (QaT rfl (callFunc_enter Try.func75 rfl rfl) rfl) (Qcu.calls (a1:=0) (a2:=i64w ((i64w ((i64w ((i64w ((i64w ((x871.get 0 0)+(x871.get 2 0)))+(x871.get 4 0))) - (x871.get 1 0))) - (x871.get 3 0))) - (x871.get 5 0))) Hr873) ?_
       rintro _ w ⟨rfl,hs2⟩
       have hs:St _ [_,_,_,_,_,_] _:=hs.call hs2
       refine g_d rfl ?_
       obtain ⟨g1271,H⟩:=ite_get H
       refine Qa1 (n:=7) (m:=1) rfl (fun _=>rfl) g1271.1 g1271.2 rfl rfl rfl rfl rfl (g_d rfl ?_)
       try dsimp only [set0,setS]
       refine Qcl (y:=r873) (fkI .i64).len (fkI .i64).one g1271.1 g1271.2 hs rfl rfl rfl rfl rfl (fun _=>rfl) ?_
       intro w hs
       refine g_n rfl (Qaa (Qag (Qag (Qan [0,1,2,3,4,5,6,7,8,9,10,11,12,13,14] rfl ?_))))
       obtain ⟨g1272,H⟩:=ite_get H
       refine Qa1 (n:=6) (m:=1) rfl (fun _=>rfl) g1272.1 g1272.2 rfl rfl rfl rfl rfl (g_d rfl ?_)
       refine Qaz rfl rfl (v:=int .i64 (((x871.set 6 r872).set 7 r873).get 6 0)) rfl rfl (fun _=>rfl) (by rw [Nat.zero_add];exact cells_load (hs.cells 0 rfl) _ _ (encA_at (fkI .i64).len _ _ 0 g1272.1 g1272.2)) (g_d rfl ?_)
       try dsimp only [set0,setS]
       refine Qab (v:=int .i64 (i64w ((i64w ((i64w (a1.Qbu - a6.Qa3)) - a6.QaY)) - a6.QaZ))) rfl rfl rfl (g_d rfl ?_)
       refine QaR (B:=decide ((((x871.set 6 r872).set 7 r873).get 6 0)>(i64w ((i64w ((i64w (a1.Qbu - a6.Qa3)) - a6.QaY)) - a6.QaZ)))) rfl rfl rfl ?_ ?_
       ·
        intro hb
        rw [if_pos (b_dec_t hb)] at H
        refine g_d rfl ?_
        try dsimp only [set0,setS]
        refine Qab (v:=bool true) rfl rfl rfl (g_d rfl (Qal rfl rfl (g_d rfl (Qal rfl rfl (g_d rfl ?_)))))
        try dsimp only [set0,setS]
        refine Qal rfl rfl (g_d rfl (Qal rfl rfl (g_d rfl ?_)))
        refine Qab (v:=bool true) rfl rfl rfl (g_d rfl ?_)
        try dsimp only [set0,setS]
        refine Qab (v:=bool true) rfl rfl rfl (g_d rfl (Qal rfl rfl (g_d rfl (Qal rfl rfl (g_d rfl ?_)))))
        try dsimp only [set0,setS]
        refine Qal rfl rfl (g_d rfl ?_)
        refine Qab (v:=bool true) rfl rfl rfl (g_d rfl ?_)
        try dsimp only [set0,setS]
        refine Qaa (Qaw rfl ?_)
        refine QbG rfl ?_
        have hs:=hs.pull 5 rfl
        have hs:=hs.pull 1 rfl
        have hs:=hs.pull 5 rfl
        have hs:=hs.pull 5 rfl
        have hs:=hs.pull 4 rfl
        have hs:=hs.pull 5 rfl
        have hs:St _ [_,_,_,_,_,_] _:=St.take (Γ':=[]) hs
        exact ha _ _ ⟨x869,x870,(x871.set 6 r872).set 7 r873,H,rfl,hs⟩
       intro hb
       rw [if_neg (b_dec_f hb)] at H
       refine g_d rfl ?_
       refine Qab (v:=bool false) rfl rfl rfl (g_d rfl ?_)
       obtain ⟨g1273,H⟩:=ite_get H
       refine Qa1 (n:=7) (m:=1) rfl (fun _=>rfl) g1273.1 g1273.2 rfl rfl rfl rfl rfl (g_d rfl ?_)
       try dsimp only [set0,setS]
       refine Qaz rfl rfl (v:=int .i64 (((x871.set 6 r872).set 7 r873).get 7 0)) rfl rfl (fun _=>rfl) (by rw [Nat.zero_add];exact cells_load (hs.cells 0 rfl) _ _ (encA_at (fkI .i64).len _ _ 0 g1273.1 g1273.2)) (g_d rfl ?_)
       refine Qab (v:=int .i64 (i64w ((i64w ((i64w (a1.Qbu - a6.Qa3)) - a6.QaY)) - a6.QaZ))) rfl rfl rfl (g_d rfl ?_)
       refine Qab (v:=bool (decide ((((x871.set 6 r872).set 7 r873).get 7 0)>(i64w ((i64w ((i64w (a1.Qbu - a6.Qa3)) - a6.QaY)) - a6.QaZ))))) rfl rfl rfl (g_d rfl ?_)
       try dsimp only [set0,setS]
       refine QaR (B:=decide ((((x871.set 6 r872).set 7 r873).get 7 0)>(i64w ((i64w ((i64w (a1.Qbu - a6.Qa3)) - a6.QaY)) - a6.QaZ)))) rfl rfl rfl ?_ ?_
       ·
        intro hb
        rw [if_pos (b_dec_t hb)] at H
        refine g_d rfl ?_
        refine Qab (v:=bool true) rfl rfl rfl (g_d rfl (Qal rfl rfl (g_d rfl ?_)))
        try dsimp only [set0,setS]
        refine Qal rfl rfl (g_d rfl (Qal rfl rfl (g_d rfl ?_)))
        try dsimp only [set0,setS]
        refine Qab (v:=bool true) rfl rfl rfl (g_d rfl (Qaa (Qaw rfl ?_)))
        refine QbG rfl ?_
        have hs:=hs.pull 5 rfl
        have hs:=hs.pull 1 rfl
        have hs:=hs.pull 5 rfl
        have hs:=hs.pull 5 rfl
        have hs:=hs.pull 4 rfl
        have hs:=hs.pull 5 rfl
        have hs:St _ [_,_,_,_,_,_] _:=St.take (Γ':=[]) hs
        exact ha _ _ ⟨x869,x870,(x871.set 6 r872).set 7 r873,H,rfl,hs⟩
       intro hb
       rw [if_neg (b_dec_f hb)] at H
       refine g_d rfl ?_
       refine Qab (v:=bool false) rfl rfl rfl (g_d rfl ?_)
       refine QaG rfl rfl (es:=((encA (encI .i64)) ((x871.set 6 r872).set 7 r873))) rfl rfl (fun _=>rfl) (n:=8) (fun _=>rfl) ((fkA (n:=8) (he:=(fkI .i64).len) (h1:=(fkI .i64).one)).len _) (cells_all (hs.cells 0 rfl)) (g_d rfl ?_)
       try dsimp only [set0,setS]
       refine Qab (v:=agg ((encA (encI .i64)) (Ar.rep 8 0)).toArray) rfl rfl (Qcr rfl rfl) (g_d rfl ?_)
       refine QaR (B:=decide (((x871.set 6 r872).set 7 r873)=(Ar.rep 8 0))) rfl rfl (Qdu rfl rfl rfl Qdm (Qdt _ _ _)) ?_ ?_
       ·
        intro hb
        rw [if_pos (b_dec_t hb)] at H
        refine g_d rfl ?_
        refine Qab (v:=bool true) rfl rfl rfl (g_d rfl ?_)
        try dsimp only [set0,setS]
        refine Qaa (Qaw rfl ?_)
        refine QbG rfl ?_
        have hs:=hs.pull 5 rfl
        have hs:=hs.pull 1 rfl
        have hs:=hs.pull 5 rfl
        have hs:=hs.pull 5 rfl
        have hs:=hs.pull 4 rfl
        have hs:=hs.pull 5 rfl
        have hs:St _ [_,_,_,_,_,_] _:=St.take (Γ':=[]) hs
        exact ha _ _ ⟨x869,x870,(x871.set 6 r872).set 7 r873,H,rfl,hs⟩
       intro hb
       rw [if_neg (b_dec_f hb)] at H
       refine g_d rfl ?_
       try dsimp only [set0,setS]
       refine Qab (v:=bool false) rfl rfl rfl (g_d rfl (Qaa (Qax rfl (QaS (Qag (Qan [0,1,2,3] rfl ?_))))))
       refine Qab (v:=pointer (some ⟨b2,0,none⟩)) rfl rfl rfl (g_d rfl ?_)
       refine QaG rfl rfl (es:=(Qam a6)) rfl rfl (fun _=>rfl) (n:=4) (fun _=>rfl) (Qa4.len _) (cells_all (hs.cells 3 rfl)) (g_d rfl ?_)
       try dsimp only [set0,setS]
       refine Qab (v:=int .i64 a7) rfl rfl rfl (g_d rfl ?_)
       obtain ⟨r874,Hr874,H⟩:=bind_get H
       have hs:=hs.pull 0 rfl
       have hs:=hs.pull 2 rfl
       have hs:St _ [_,_,_,_,_,_] _:=hs.pull 2 rfl
       have hs:=hs.pack 3
       refine QaP (args:=[pointer (some ⟨b2,0,none⟩),agg (Qam a6).toArray,pointer (some ⟨b12,0,none⟩),int .i64 a7]) rfl rfl (QaT rfl (callFunc_enter Try.func76 rfl rfl) rfl) (Qa6.calls ih (a1:=(⟨x869,x870⟩:Qap)) (a6:=a6) (a7:=(x871.set 6 r872).set 7 r873) (a10:=a7) hs Hr874) ?_
       rintro _ w ⟨rfl,hs⟩
       have hs:=St.unpack (Γ:=[_,_,_]) hs
       have hs:St _ [_,_,_,_,_,_] _:=hs
       generalize hb1274_:r874.1=b_ at H ⊢
       cases b_ with
       |true=>
        rw [if_pos rfl] at H
        refine g_d rfl ?_
        try dsimp only [set0,setS]
        refine Qaa (Qaw rfl (Qag (Qan [0,1,2] rfl ?_)))
        refine QaG rfl rfl (es:=((encA (encI .i64)) r874.2.2.2)) rfl rfl (fun _=>rfl) (n:=8) (fun _=>rfl) ((fkA (n:=8) (he:=(fkI .i64).len) (h1:=(fkI .i64).one)).len _) (cells_all (hs.cells 2 rfl)) (g_d rfl ?_)
        have hs:St _ [_,_,_,_,_,_] _:=hs.pull 4 rfl
        refine Qa9 (n:=8) hs ((fkA (n:=8) (he:=(fkI .i64).len) (h1:=(fkI .i64).one)).len _) rfl rfl (vs:=((encA (encI .i64)) r874.2.2.2)) rfl rfl rfl (fun _=>rfl) ((fkA (n:=8) (he:=(fkI .i64).len) (h1:=(fkI .i64).one)).len _) ((fkA (n:=8) (he:=(fkI .i64).len) (h1:=(fkI .i64).one)).one _) ?_
        intro w hs
        refine g_n rfl ?_
        refine Qab (v:=bool true) rfl rfl rfl (g_d rfl ?_)
        try dsimp only [set0,setS]
        refine Qaa ?_
        obtain rfl:=QsJ H
        subst Hx6_
        have H:=QsJ Hr6_
        subst H
        subst Hx5_
        have H:=QsJ Hr5_
        subst H
        subst Hx4_
        have H:=QsJ Hr4_
        subst H
        subst Hx3_
        have H:=QsJ Hr3_
        subst H
        subst Hx2_
        have H:=QsJ Hr2_
        subst H
        subst Hx1_
        have H:=QsJ Hr1_
        subst H
        refine QaK Try.func58 (v:=tuple #[agg ((encA (encI .i64)) r874.2.2.2).toArray,bool true]) (resN (l:=Try.f58.results.toList) (vs:=[agg ((encA (encI .i64)) r874.2.2.2).toArray,bool true]) rfl ⟨⟨_,rfl,(run_loadVar_agg (es:=((encA (encI .i64)) r874.2.2.2)) rfl (congrArg (Result.ok · _) ((fkA (n:=8) (he:=(fkI .i64).len) (h1:=(fkI .i64).one)).len _).symm) (cells_all (hs.cells 0 rfl)))⟩,rfl,trivial⟩ (by simp)) ?_
        have hs:=hs.pull 5 rfl
        have hs:=hs.pull 3 rfl
        have hs:=hs.pull 3 rfl
        have hs:St _ [_,_,_] _:=St.take (Γ':=[_,_,_]) hs
        exact ⟨_,rfl,rfl,hs⟩
       |false=>
        rw [if_neg Bool.false_ne_true] at H
        refine g_d rfl (Qaa (Qax rfl (QaS ?_)))
        refine Qa5 ?_
        have hs:=hs.pull 5 rfl
        have hs:=hs.pull 3 rfl
        have hs:=hs.pull 5 rfl
        have hs:=hs.pull 5 rfl
        have hs:=hs.pull 4 rfl
        have hs:=hs.pull 5 rfl
        have hs:St _ [_,_,_,_,_,_] _:=St.take (Γ':=[]) hs
        exact ha _ _ ⟨r874.2.2.1.Qbu,r874.2.1,r874.2.2.2,H,rfl,hs⟩
      intro hb
      rw [if_neg (b_dec_f hb)] at H
      refine g_d rfl ?_
      try dsimp only [set0,setS]
      refine Qaa (Qax rfl ?_)
      obtain rfl:=QsJ H
      subst Hx6_
      have hs:=hs.pull 5 rfl
      have hs:=hs.pull 5 rfl
      have hs:=hs.pull 5 rfl
      have hs:=hs.pull 5 rfl
      have hs:=hs.pull 4 rfl
      have hs:=hs.pull 5 rfl
      have hs:St _ [_,_,_,_,_,_] _:=St.take (Γ':=[]) hs
      refine QbG rfl ?_
      exact ha6_ _ _ ⟨x869,x870,x871,Hr6_,rfl,hs⟩
     intro hb
     rw [if_neg (b_dec_f hb)] at H
     refine g_d rfl (Qaa (Qax rfl ?_))
     obtain rfl:=QsJ H
     subst Hx5_
     have hs:=hs.pull 5 rfl
     have hs:=hs.pull 5 rfl
     have hs:=hs.pull 5 rfl
     have hs:=hs.pull 5 rfl
     have hs:=hs.pull 4 rfl
     have hs:=hs.pull 5 rfl
     have hs:St _ [_,_,_,_,_,_] _:=St.take (Γ':=[]) hs
     refine QbG rfl ?_
     exact ha5_ _ _ ⟨x859,x860,x861,Hr5_,rfl,hs⟩
    intro hb
    rw [if_neg (b_dec_f hb)] at H
    refine g_d rfl (Qaa (Qax rfl ?_))
    obtain rfl:=QsJ H
    subst Hx4_
    have hs:=hs.pull 5 rfl
    have hs:=hs.pull 5 rfl
    have hs:=hs.pull 5 rfl
    have hs:=hs.pull 5 rfl
    have hs:=hs.pull 4 rfl
    have hs:=hs.pull 5 rfl
    have hs:St _ [_,_,_,_,_,_] _:=St.take (Γ':=[]) hs
    refine QbG rfl ?_
    exact ha4_ _ _ ⟨x835,x836,x837,Hr4_,rfl,hs⟩
   intro hb
   rw [if_neg (b_dec_f hb)] at H
   refine g_d rfl ?_
   try dsimp only [set0,setS]
   refine Qaa (Qax rfl ?_)
   obtain rfl:=QsJ H
   subst Hx3_
   have hs:=hs.pull 5 rfl
   have hs:=hs.pull 5 rfl
   have hs:=hs.pull 5 rfl
   have hs:=hs.pull 5 rfl
   have hs:=hs.pull 4 rfl
   have hs:=hs.pull 5 rfl
   have hs:St _ [_,_,_,_,_,_] _:=St.take (Γ':=[]) hs
   refine QbG rfl ?_
   exact ha3_ _ _ ⟨x783,x784,x785,Hr3_,rfl,hs⟩
  intro hb
  rw [if_neg (b_dec_f hb)] at H
  refine g_d rfl ?_
  try dsimp only [set0,setS]
  refine Qaa (Qax rfl ?_)
  obtain rfl:=QsJ H
  subst Hx2_
  have hs:=hs.pull 5 rfl
  have hs:=hs.pull 5 rfl
  have hs:=hs.pull 5 rfl
  have hs:=hs.pull 5 rfl
  have hs:=hs.pull 4 rfl
  have hs:=hs.pull 5 rfl
  have hs:St _ [_,_,_,_,_,_] _:=St.take (Γ':=[]) hs
  refine QbG rfl ?_
  exact ha2_ _ _ ⟨x675,x676,x677,Hr2_,rfl,hs⟩
 intro hb
 rw [if_neg (b_dec_f hb)] at H
 refine g_d rfl (Qaa (Qax rfl ?_))
 obtain rfl:=QsJ H
 subst Hx1_
 have hs:=hs.pull 5 rfl
 have hs:=hs.pull 2 rfl
 have hs:=hs.pull 2 rfl
 have hs:=hs.pull 4 rfl
 have hs:St _ [_,_,_,_] _:=St.take (Γ':=[_,_]) hs
 refine QbG rfl ?_
 exact ha1_ _ _ ⟨x456,x455,Hr1_,rfl,hs⟩
end Go.Proofs.YtgpdpedpmhonkaaX
