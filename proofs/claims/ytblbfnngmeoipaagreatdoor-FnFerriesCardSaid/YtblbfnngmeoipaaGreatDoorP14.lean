import Derived.Test.YtblbfnngmeoipaaGreatDoorP4
import Derived.Test.YtblbfnngmeoipaaGreatDoorP5
namespace Go.Proofs.YtblbfnngmeoipaaGreatDoorX
open Go Go.RowKit Go.Proofs
open Go.Value (int pointer bool agg slice string tuple)
set_option maxHeartbeats 8000000
set_option maxRecDepth 100000
set_option linter.unusedVariables false
set_option linter.unusedSimpArgs false
def Qbv.post (w0:World) (r:Bool) (v:Value) (w:World):Prop:=v=bool r∧St w0 [] w
theorem Qbv.calls {N:Nat} {a1:Qaf} {a6:Qaf} {b2:Nat} {v3:Value} {b7:Nat} {v8:Value} {w0:World} {r:Bool} (hr4:RdRow (K.int .u16) w0 v3 a1.Qal) (hp0:w0.heap[b2]?=some (.cells ((([int .i8 a1.Qad,int .i8 a1.Qag,v3]:List Value)):List Value).toArray 27 (0,0))) (hr9:RdRow (K.int .u16) w0 v8 a6.Qal) (hp1:w0.heap[b7]?=some (.cells ((([int .i8 a6.Qad,int .i8 a6.Qag,v8]:List Value)):List Value).toArray 27 (0,0))) (H:Qbv.f N a1 a6=some r):
 Calls Tryz.prog 49 #[pointer (some ⟨b2,0,none⟩),pointer (some ⟨b7,0,none⟩)] w0 fun e w=>∃ v,e= .returned v∧Qbv.post w0 r v w:=by
 unfold Qbv.f at H
 have hs:St w0 [] w0:=St.refl w0
 refine calls_of_g (n:=61) Tryz.func49 rfl rfl ?_
 show G _ _ _ _ (_::_::_::_::_::_::_::_::_::_::_::_::_::_::_::_::_::_::_::_::_::_::_::_::_::_::_::_::_::_::_::_::_::_::_::_::_::_::_::_::_::_::_::_::_::_::_::_::_::_::_::_::_::_::_::_::_::_::_::_::_::_::_::[]) _
 refine Qaj (Qan [0] rfl ?_)
 refine Qab (v:=bool false) rfl rfl rfl (g_d rfl ?_)
 try dsimp only [Qah,Qai]
 refine Qac (Qaj (Qaj ?_))
 refine Qck (n:=33) rfl [0,1,2,3,4,5,6,7,8,9,10,11,12,13,14,15,16,17,18,19,20,21,22,23,24,25,26,27,28,29,30,31,32] [0,1,2,3,4,5,6,7,8,9,10,11,12,13,14,15,16,17,18,19,20,21,22,23,24,25,26,27,28,29,30,31,32] rfl rfl ?_
 intro rest w hh hbw hO
 have hs:=hs.samew hh hbw
 try dsimp only [Qah,Qai]
 refine QaV ?_
 intro T hT
 refine Qbb (m0:=0) hO rfl 255 [0,1,2,3,4,5,6,7] [0,1,3,7,0,16,48,112,255,511,1023,2047,4095,8191,1023,17407,50175,115711,262143,524287,1048575,2097151,4194303,8388607,16777215,33554431,2097151,69206015,203423743,471859199,1008730111,2147483647,4294967295] (by decide+kernel) (fun D t w=>∃ O:Nat→Value,t=(pointer (some ⟨b2,0,none⟩)::pointer (some ⟨b7,0,none⟩)::O 2::O 3::bool false::O 5::cnd (D 0) (pointer (some ⟨b2,0,none⟩)) (O 6)::cnd (D 1) (pointer (some ⟨b2,0,none⟩)) (O 7)::cnd (D 2) (pointer (some ⟨b2,0,none⟩)) (O 8)::cnd (D 3) (int .i8 a1.Qad) (O 9)::cnd (D 4) (pointer (some ⟨b7,0,none⟩)) (O 10)::cnd (D 5) (pointer (some ⟨b7,0,none⟩)) (O 11)::cnd (D 6) (pointer (some ⟨b7,0,none⟩)) (O 12)::cnd (D 7) (int .i8 a6.Qad) (O 13)::O 14::O 15::O 16::O 17::O 18::O 19::oT O 2 (oT O 3 (oT O 4 (oT O 5 (O 60::O 61::O 62::[])))))∧St w0 [] w) ?_ ⟨?_,⟨?_,⟨?_,⟨?_,⟨?_,⟨?_,⟨?_,⟨?_,trivial⟩⟩⟩⟩⟩⟩⟩⟩ ?_
 ·exact ⟨fun i=>T.getD i undef,(by subst hT;rfl),hs⟩
 ·
  rintro D t w hD hp hcl ⟨O,ht,hs⟩ rest hk
  have hp:AllDone D []:=hp
  have q1_:=ny hcl 1 0 hD
  have q2_:=ny hcl 2 0 q1_
  have q3_:=ny hcl 3 0 q2_
  simp only [hD,q1_,q2_,q3_,cq,oT] at ht hs
  subst ht
  refine Qab (v:=pointer (some ⟨b2,0,none⟩)) rfl rfl rfl (g_d rfl ?_)
  try dsimp only [Qah,Qai]
  refine hk _ _ ⟨O,?_,hs.cast ?_⟩<;>simp only [oT,lq,cq,Nat.reduceBEq,q1_,q2_,q3_]
 ·
  rintro D t w hD hp hcl ⟨O,ht,hs⟩ rest hk
  have hp:AllDone D [0]:=hp
  obtain ⟨p0_,_⟩:=hp
  have q2_:=ny hcl 2 0 hD
  have q3_:=ny hcl 3 0 q2_
  simp only [hD,p0_,q2_,q3_,cq,oT] at ht hs
  subst ht
  refine Qab (v:=pointer (some ⟨b2,0,none⟩)) rfl rfl rfl (g_d rfl ?_)
  try dsimp only [Qah,Qai]
  refine hk _ _ ⟨O,?_,hs.cast ?_⟩<;>simp only [oT,lq,cq,Nat.reduceBEq,p0_,q2_,q3_]
 ·
  rintro D t w hD hp hcl ⟨O,ht,hs⟩ rest hk
  have hp:AllDone D [1]:=hp
  obtain ⟨p1_,_⟩:=hp
  obtain ⟨p0_,_⟩:=(show D 1=true→AllDone D [0] from hcl 1 (by decide)) p1_
  have q3_:=ny hcl 3 0 hD
  simp only [hD,p0_,p1_,q3_,cq,oT] at ht hs
  subst ht
  refine Qab (v:=pointer (some ⟨b2,0,none⟩)) rfl rfl rfl (g_d rfl ?_)
  try dsimp only [Qah,Qai]
  refine hk _ _ ⟨O,?_,hs.cast ?_⟩<;>simp only [oT,lq,cq,Nat.reduceBEq,p0_,p1_,q3_]
 ·
  rintro D t w hD hp hcl ⟨O,ht,hs⟩ rest hk
  have hp:AllDone D [2]:=hp
  obtain ⟨p2_,_⟩:=hp
  obtain ⟨p1_,_⟩:=(show D 2=true→AllDone D [1] from hcl 2 (by decide)) p2_
  obtain ⟨p0_,_⟩:=(show D 1=true→AllDone D [0] from hcl 1 (by decide)) p1_
  simp only [hD,p0_,p1_,p2_,cq,oT] at ht hs
  subst ht
  refine Qaw rfl rfl (v:=int .i8 a1.Qad) rfl rfl (fun _=>rfl) (cells_load (hs.box hp0) 0 1 rfl) (g_d rfl ?_)
  try dsimp only [Qah,Qai]
  refine hk _ _ ⟨O,?_,hs.cast ?_⟩<;>simp only [oT,lq,cq,Nat.reduceBEq,p0_,p1_,p2_]
 ·
  rintro D t w hD hp hcl ⟨O,ht,hs⟩ rest hk
  have hp:AllDone D []:=hp
  have q5_:=ny hcl 5 0 hD
  have q6_:=ny hcl 6 0 q5_
  have q7_:=ny hcl 7 0 q6_
  simp only [hD,q5_,q6_,q7_,cq,oT] at ht hs
  subst ht
  refine Qab (v:=pointer (some ⟨b7,0,none⟩)) rfl rfl rfl (g_d rfl ?_)
  try dsimp only [Qah,Qai]
  refine hk _ _ ⟨O,?_,hs.cast ?_⟩<;>simp only [oT,lq,cq,Nat.reduceBEq,q5_,q6_,q7_]
 ·
  rintro D t w hD hp hcl ⟨O,ht,hs⟩ rest hk
  have hp:AllDone D [4]:=hp
  obtain ⟨p4_,_⟩:=hp
  have q6_:=ny hcl 6 0 hD
  have q7_:=ny hcl 7 0 q6_
  simp only [hD,p4_,q6_,q7_,cq,oT] at ht hs
  subst ht
  refine Qab (v:=pointer (some ⟨b7,0,none⟩)) rfl rfl rfl (g_d rfl ?_)
  try dsimp only [Qah,Qai]
  refine hk _ _ ⟨O,?_,hs.cast ?_⟩<;>simp only [oT,lq,cq,Nat.reduceBEq,p4_,q6_,q7_]
 ·
  rintro D t w hD hp hcl ⟨O,ht,hs⟩ rest hk
  have hp:AllDone D [5]:=hp
  obtain ⟨p5_,_⟩:=hp
  obtain ⟨p4_,_⟩:=(show D 5=true→AllDone D [4] from hcl 5 (by decide)) p5_
  have q7_:=ny hcl 7 0 hD
  simp only [hD,p4_,p5_,q7_,cq,oT] at ht hs
  subst ht
  refine Qab (v:=pointer (some ⟨b7,0,none⟩)) rfl rfl rfl (g_d rfl ?_)
  try dsimp only [Qah,Qai]
  refine hk _ _ ⟨O,?_,hs.cast ?_⟩<;>simp only [oT,lq,cq,Nat.reduceBEq,p4_,p5_,q7_]
 ·
  rintro D t w hD hp hcl ⟨O,ht,hs⟩ rest hk
  have hp:AllDone D [6]:=hp
  obtain ⟨p6_,_⟩:=hp
  obtain ⟨p5_,_⟩:=(show D 6=true→AllDone D [5] from hcl 6 (by decide)) p6_
  obtain ⟨p4_,_⟩:=(show D 5=true→AllDone D [4] from hcl 5 (by decide)) p5_
  simp only [hD,p4_,p5_,p6_,cq,oT] at ht hs
  subst ht
  refine Qaw rfl rfl (v:=int .i8 a6.Qad) rfl rfl (fun _=>rfl) (cells_load (hs.box hp1) 0 1 rfl) (g_d rfl ?_)
  try dsimp only [Qah,Qai]
  refine hk _ _ ⟨O,?_,hs.cast ?_⟩<;>simp only [oT,lq,cq,Nat.reduceBEq,p4_,p5_,p6_]
 intro D t w rest hall hO1_ hI
 obtain ⟨O,ht,hs⟩:=hI
 have p0_:=hall 0 (by decide) rfl
 have p1_:=hall 1 (by decide) rfl
 have p2_:=hall 2 (by decide) rfl
 have p3_:=hall 3 (by decide) rfl
 have p4_:=hall 4 (by decide) rfl
 have p5_:=hall 5 (by decide) rfl
 have p6_:=hall 6 (by decide) rfl
 have p7_:=hall 7 (by decide) rfl
 simp only [p0_,p1_,p2_,p3_,p4_,p5_,p6_,p7_,cq,oT] at ht hs
 subst ht
 obtain ⟨rest,rfl,hO2_⟩:=ord_one (m:=255) hO1_ rfl 8 (m':=511) (by decide+kernel) rfl
 clear hO1_
 refine QaI (B:=a1.Qad !=a6.Qad) rfl rfl rfl ?_ ?_
 ·
  intro hb
  rw [if_neg (b_bne_t hb)] at H
  refine g_d rfl ?_
  try dsimp only [Qah,Qai]
  obtain ⟨rest,rfl,hO3_⟩:=ord_one (m:=511) hO2_ rfl 9 (m':=1023) (by decide+kernel) rfl
  clear hO2_
  refine Qab (v:=bool true) rfl rfl rfl (g_d rfl ?_)
  refine QaV ?_
  intro T hT
  refine Qbb (m0:=1023) hO3_ rfl 262143 [10,11,12,13,14,15,16,17] [0,1,3,7,0,16,48,112,255,511,1023,2047,4095,8191,1023,17407,50175,115711,262143,524287,1048575,2097151,4194303,8388607,16777215,33554431,2097151,69206015,203423743,471859199,1008730111,2147483647,4294967295] (by decide+kernel) (fun D t w=>∃ O:Nat→Value,t=(pointer (some ⟨b2,0,none⟩)::pointer (some ⟨b7,0,none⟩)::O 2::O 3::bool false::O 5::pointer (some ⟨b2,0,none⟩)::pointer (some ⟨b2,0,none⟩)::pointer (some ⟨b2,0,none⟩)::int .i8 a1.Qad::pointer (some ⟨b7,0,none⟩)::pointer (some ⟨b7,0,none⟩)::pointer (some ⟨b7,0,none⟩)::int .i8 a6.Qad::bool true::bool true::cnd (D 10) undef (O 16)::cnd (D 11) undef (O 17)::cnd (D 12) undef (O 18)::cnd (D 13) undef (O 19)::cnd (D 14) undef (O 20)::cnd (D 15) undef (O 21)::cnd (D 16) undef (O 22)::cnd (D 17) undef (O 23)::O 24::O 25::O 26::O 27::O 28::O 29::oT O 3 (oT O 4 (oT O 5 (O 60::O 61::O 62::[]))))∧St w0 [] w) ?_ ⟨?_,⟨?_,⟨?_,⟨?_,⟨?_,⟨?_,⟨?_,⟨?_,trivial⟩⟩⟩⟩⟩⟩⟩⟩ ?_
  ·exact ⟨fun i=>T.getD i undef,(by subst hT;rfl),hs⟩
  ·
   rintro D t w hD hp hcl ⟨O,ht,hs⟩ rest hk
   have hp:AllDone D [9]:=hp
   obtain ⟨p9_,_⟩:=hp
   have q11_:=ny hcl 11 0 hD
   have q12_:=ny hcl 12 0 q11_
   have q13_:=ny hcl 13 0 q12_
   simp only [hD,q11_,q12_,q13_,cq,oT] at ht hs
   subst ht
   refine Qae rfl rfl (g_d rfl ?_)
   try dsimp only [Qah,Qai]
   refine hk _ _ ⟨O,?_,hs.cast ?_⟩<;>simp only [oT,cq,Nat.reduceBEq,q11_,q12_,q13_]
  ·
   rintro D t w hD hp hcl ⟨O,ht,hs⟩ rest hk
   have hp:AllDone D [10,9]:=hp
   obtain ⟨p10_,p9_,_⟩:=hp
   have q12_:=ny hcl 12 0 hD
   have q13_:=ny hcl 13 0 q12_
   simp only [hD,p10_,q12_,q13_,cq,oT] at ht hs
   subst ht
   refine Qae rfl rfl (g_d rfl ?_)
   try dsimp only [Qah,Qai]
   refine hk _ _ ⟨O,?_,hs.cast ?_⟩<;>simp only [oT,cq,Nat.reduceBEq,p10_,q12_,q13_]
  ·
   rintro D t w hD hp hcl ⟨O,ht,hs⟩ rest hk
   have hp:AllDone D [11,9]:=hp
   obtain ⟨p11_,p9_,_⟩:=hp
   obtain ⟨p10_,_,_⟩:=(show D 11=true→AllDone D [10,9] from hcl 11 (by decide)) p11_
   have q13_:=ny hcl 13 0 hD
   simp only [hD,p10_,p11_,q13_,cq,oT] at ht hs
   subst ht
   refine Qae rfl rfl (g_d rfl ?_)
   try dsimp only [Qah,Qai]
   refine hk _ _ ⟨O,?_,hs.cast ?_⟩<;>simp only [oT,cq,Nat.reduceBEq,p10_,p11_,q13_]
  ·
   rintro D t w hD hp hcl ⟨O,ht,hs⟩ rest hk
   have hp:AllDone D [12,9]:=hp
   obtain ⟨p12_,p9_,_⟩:=hp
   obtain ⟨p11_,_,_⟩:=(show D 12=true→AllDone D [11,9] from hcl 12 (by decide)) p12_
   obtain ⟨p10_,_,_⟩:=(show D 11=true→AllDone D [10,9] from hcl 11 (by decide)) p11_
   simp only [hD,p10_,p11_,p12_,cq,oT] at ht hs
   subst ht
   refine Qae rfl rfl (g_d rfl ?_)
   try dsimp only [Qah,Qai]
   refine hk _ _ ⟨O,?_,hs.cast ?_⟩<;>simp only [oT,cq,Nat.reduceBEq,p10_,p11_,p12_]
  ·
   rintro D t w hD hp hcl ⟨O,ht,hs⟩ rest hk
   have hp:AllDone D [9]:=hp
   obtain ⟨p9_,_⟩:=hp
   have q15_:=ny hcl 15 0 hD
   have q16_:=ny hcl 16 0 q15_
   have q17_:=ny hcl 17 0 q16_
   simp only [hD,q15_,q16_,q17_,cq,oT] at ht hs
   subst ht
   refine Qae rfl rfl (g_d rfl ?_)
   try dsimp only [Qah,Qai]
   refine hk _ _ ⟨O,?_,hs.cast ?_⟩<;>simp only [oT,cq,Nat.reduceBEq,q15_,q16_,q17_]
  ·
   rintro D t w hD hp hcl ⟨O,ht,hs⟩ rest hk
   have hp:AllDone D [14,9]:=hp
   obtain ⟨p14_,p9_,_⟩:=hp
   have q16_:=ny hcl 16 0 hD
   have q17_:=ny hcl 17 0 q16_
   simp only [hD,p14_,q16_,q17_,cq,oT] at ht hs
   subst ht
   refine Qae rfl rfl (g_d rfl ?_)
   try dsimp only [Qah,Qai]
   refine hk _ _ ⟨O,?_,hs.cast ?_⟩<;>simp only [oT,cq,Nat.reduceBEq,p14_,q16_,q17_]
  ·
   rintro D t w hD hp hcl ⟨O,ht,hs⟩ rest hk
   have hp:AllDone D [15,9]:=hp
   obtain ⟨p15_,p9_,_⟩:=hp
   obtain ⟨p14_,_,_⟩:=(show D 15=true→AllDone D [14,9] from hcl 15 (by decide)) p15_
   have q17_:=ny hcl 17 0 hD
   simp only [hD,p14_,p15_,q17_,cq,oT] at ht hs
   subst ht
   refine Qae rfl rfl (g_d rfl ?_)
   try dsimp only [Qah,Qai]
   refine hk _ _ ⟨O,?_,hs.cast ?_⟩<;>simp only [oT,cq,Nat.reduceBEq,p14_,p15_,q17_]
  ·
   rintro D t w hD hp hcl ⟨O,ht,hs⟩ rest hk
   have hp:AllDone D [16,9]:=hp
   obtain ⟨p16_,p9_,_⟩:=hp
   obtain ⟨p15_,_,_⟩:=(show D 16=true→AllDone D [15,9] from hcl 16 (by decide)) p16_
   obtain ⟨p14_,_,_⟩:=(show D 15=true→AllDone D [14,9] from hcl 15 (by decide)) p15_
   simp only [hD,p14_,p15_,p16_,cq,oT] at ht hs
   subst ht
   refine Qae rfl rfl (g_d rfl ?_)
   try dsimp only [Qah,Qai]
   refine hk _ _ ⟨O,?_,hs.cast ?_⟩<;>simp only [oT,cq,Nat.reduceBEq,p14_,p15_,p16_]
  intro D t w rest hall hO4_ hI
  obtain ⟨O,ht,hs⟩:=hI
  have p10_:=hall 10 (by decide) rfl
  have p11_:=hall 11 (by decide) rfl
  have p12_:=hall 12 (by decide) rfl
  have p13_:=hall 13 (by decide) rfl
  have p14_:=hall 14 (by decide) rfl
  have p15_:=hall 15 (by decide) rfl
  have p16_:=hall 16 (by decide) rfl
  have p17_:=hall 17 (by decide) rfl
  simp only [p10_,p11_,p12_,p13_,p14_,p15_,p16_,p17_,cq,oT] at ht hs
  subst ht
  obtain ⟨rest,rfl,hO5_⟩:=ord_one (m:=262143) hO4_ rfl 18 (m':=524287) (by decide+kernel) rfl
  clear hO4_
  refine Qae rfl rfl (g_d rfl ?_)
  obtain ⟨rest,rfl,hO6_⟩:=ord_one (m:=524287) hO5_ rfl 19 (m':=1048575) (by decide+kernel) rfl
  clear hO5_
  refine Qab (v:=bool true) rfl rfl rfl (g_d rfl ?_)
  try dsimp only [Qah,Qai]
  obtain ⟨rest,rfl,hO7_⟩:=ord_one (m:=1048575) hO6_ rfl 20 (m':=2097151) (by decide+kernel) rfl
  clear hO6_
  refine Qab (v:=bool true) rfl rfl rfl (g_d rfl ?_)
  refine QaV ?_
  intro T hT
  refine Qbb (m0:=2097151) hO7_ rfl 2147483647 [21,22,23,24,25,26,27,28,29,30] [0,1,3,7,0,16,48,112,255,511,1023,2047,4095,8191,1023,17407,50175,115711,262143,524287,1048575,2097151,4194303,8388607,16777215,33554431,2097151,69206015,203423743,471859199,1008730111,2147483647,4294967295] (by decide+kernel) (fun D t w=>∃ O:Nat→Value,t=(pointer (some ⟨b2,0,none⟩)::pointer (some ⟨b7,0,none⟩)::O 2::O 3::bool false::O 5::pointer (some ⟨b2,0,none⟩)::pointer (some ⟨b2,0,none⟩)::pointer (some ⟨b2,0,none⟩)::int .i8 a1.Qad::pointer (some ⟨b7,0,none⟩)::pointer (some ⟨b7,0,none⟩)::pointer (some ⟨b7,0,none⟩)::int .i8 a6.Qad::bool true::bool true::O 16::O 17::O 18::O 19::O 20::O 21::O 22::O 23::O 24::bool true::bool true::cnd (D 21) undef (O 27)::cnd (D 22) undef (O 28)::cnd (D 23) undef (O 29)::cnd (D 24) undef (O 30)::cnd (D 25) undef (O 31)::cnd (D 26) undef (O 32)::cnd (D 27) undef (O 33)::cnd (D 28) undef (O 34)::cnd (D 29) undef (O 35)::cnd (D 30) undef (O 36)::O 37::O 38::O 39::oT O 4 (oT O 5 (O 60::O 61::O 62::[])))∧St w0 [] w) ?_ ⟨?_,⟨?_,⟨?_,⟨?_,⟨?_,⟨?_,⟨?_,⟨?_,⟨?_,⟨?_,trivial⟩⟩⟩⟩⟩⟩⟩⟩⟩⟩ ?_
  ·exact ⟨fun i=>T.getD i undef,(by subst hT;rfl),hs⟩
  ·
   rintro D t w hD hp hcl ⟨O,ht,hs⟩ rest hk
   have hp:AllDone D [20]:=hp
   obtain ⟨p20_,_⟩:=hp
   have q22_:=ny hcl 22 0 hD
   have q23_:=ny hcl 23 0 q22_
   have q24_:=ny hcl 24 0 q23_
   have q25_:=ny hcl 25 0 q24_
   simp only [hD,q22_,q23_,q24_,q25_,cq,oT] at ht hs
   subst ht
   refine Qae rfl rfl (g_d rfl ?_)
   try dsimp only [Qah,Qai]
   refine hk _ _ ⟨O,?_,hs.cast ?_⟩<;>simp only [oT,cq,Nat.reduceBEq,q22_,q23_,q24_,q25_]
  ·
   rintro D t w hD hp hcl ⟨O,ht,hs⟩ rest hk
   have hp:AllDone D [21,20]:=hp
   obtain ⟨p21_,p20_,_⟩:=hp
   have q23_:=ny hcl 23 0 hD
   have q24_:=ny hcl 24 0 q23_
   have q25_:=ny hcl 25 0 q24_
   simp only [hD,p21_,q23_,q24_,q25_,cq,oT] at ht hs
   subst ht
   refine Qae rfl rfl (g_d rfl ?_)
   try dsimp only [Qah,Qai]
   refine hk _ _ ⟨O,?_,hs.cast ?_⟩<;>simp only [oT,cq,Nat.reduceBEq,p21_,q23_,q24_,q25_]
  ·
   rintro D t w hD hp hcl ⟨O,ht,hs⟩ rest hk
   have hp:AllDone D [22,20]:=hp
   obtain ⟨p22_,p20_,_⟩:=hp
   obtain ⟨p21_,_,_⟩:=(show D 22=true→AllDone D [21,20] from hcl 22 (by decide)) p22_
   have q24_:=ny hcl 24 0 hD
   have q25_:=ny hcl 25 0 q24_
   simp only [hD,p21_,p22_,q24_,q25_,cq,oT] at ht hs
   subst ht
   refine Qae rfl rfl (g_d rfl ?_)
   try dsimp only [Qah,Qai]
   refine hk _ _ ⟨O,?_,hs.cast ?_⟩<;>simp only [oT,cq,Nat.reduceBEq,p21_,p22_,q24_,q25_]
  ·
   rintro D t w hD hp hcl ⟨O,ht,hs⟩ rest hk
   have hp:AllDone D [23,20]:=hp
   obtain ⟨p23_,p20_,_⟩:=hp
   obtain ⟨p22_,_,_⟩:=(show D 23=true→AllDone D [22,20] from hcl 23 (by decide)) p23_
   obtain ⟨p21_,_,_⟩:=(show D 22=true→AllDone D [21,20] from hcl 22 (by decide)) p22_
   have q25_:=ny hcl 25 0 hD
   simp only [hD,p21_,p22_,p23_,q25_,cq,oT] at ht hs
   subst ht
   refine Qae rfl rfl (g_d rfl ?_)
   try dsimp only [Qah,Qai]
   refine hk _ _ ⟨O,?_,hs.cast ?_⟩<;>simp only [oT,cq,Nat.reduceBEq,p21_,p22_,p23_,q25_]
  ·
   rintro D t w hD hp hcl ⟨O,ht,hs⟩ rest hk
   have hp:AllDone D [24,20]:=hp
   obtain ⟨p24_,p20_,_⟩:=hp
   obtain ⟨p23_,_,_⟩:=(show D 24=true→AllDone D [23,20] from hcl 24 (by decide)) p24_
   obtain ⟨p22_,_,_⟩:=(show D 23=true→AllDone D [22,20] from hcl 23 (by decide)) p23_
   obtain ⟨p21_,_,_⟩:=(show D 22=true→AllDone D [21,20] from hcl 22 (by decide)) p22_
   simp only [hD,p21_,p22_,p23_,p24_,cq,oT] at ht hs
   subst ht
   refine Qae rfl rfl (g_d rfl ?_)
   try dsimp only [Qah,Qai]
   refine hk _ _ ⟨O,?_,hs.cast ?_⟩<;>simp only [oT,cq,Nat.reduceBEq,p21_,p22_,p23_,p24_]
  ·
   rintro D t w hD hp hcl ⟨O,ht,hs⟩ rest hk
   have hp:AllDone D [20]:=hp
   obtain ⟨p20_,_⟩:=hp
   have q27_:=ny hcl 27 0 hD
   have q28_:=ny hcl 28 0 q27_
   have q29_:=ny hcl 29 0 q28_
   have q30_:=ny hcl 30 0 q29_
   simp only [hD,q27_,q28_,q29_,q30_,cq,oT] at ht hs
   subst ht
   refine Qae rfl rfl (g_d rfl ?_)
   try dsimp only [Qah,Qai]
   refine hk _ _ ⟨O,?_,hs.cast ?_⟩<;>simp only [oT,cq,Nat.reduceBEq,q27_,q28_,q29_,q30_]
  ·
   rintro D t w hD hp hcl ⟨O,ht,hs⟩ rest hk
   have hp:AllDone D [26,20]:=hp
   obtain ⟨p26_,p20_,_⟩:=hp
   have q28_:=ny hcl 28 0 hD
   have q29_:=ny hcl 29 0 q28_
   have q30_:=ny hcl 30 0 q29_
   simp only [hD,p26_,q28_,q29_,q30_,cq,oT] at ht hs
   subst ht
   refine Qae rfl rfl (g_d rfl ?_)
   try dsimp only [Qah,Qai]
   refine hk _ _ ⟨O,?_,hs.cast ?_⟩<;>simp only [oT,cq,Nat.reduceBEq,p26_,q28_,q29_,q30_]
  ·
   rintro D t w hD hp hcl ⟨O,ht,hs⟩ rest hk
   have hp:AllDone D [27,20]:=hp
   obtain ⟨p27_,p20_,_⟩:=hp
   obtain ⟨p26_,_,_⟩:=(show D 27=true→AllDone D [26,20] from hcl 27 (by decide)) p27_
   have q29_:=ny hcl 29 0 hD
   have q30_:=ny hcl 30 0 q29_
   simp only [hD,p26_,p27_,q29_,q30_,cq,oT] at ht hs
   subst ht
   refine Qae rfl rfl (g_d rfl ?_)
   try dsimp only [Qah,Qai]
   refine hk _ _ ⟨O,?_,hs.cast ?_⟩<;>simp only [oT,cq,Nat.reduceBEq,p26_,p27_,q29_,q30_]
  ·
   rintro D t w hD hp hcl ⟨O,ht,hs⟩ rest hk
   have hp:AllDone D [28,20]:=hp
   obtain ⟨p28_,p20_,_⟩:=hp
   obtain ⟨p27_,_,_⟩:=(show D 28=true→AllDone D [27,20] from hcl 28 (by decide)) p28_
   obtain ⟨p26_,_,_⟩:=(show D 27=true→AllDone D [26,20] from hcl 27 (by decide)) p27_
   have q30_:=ny hcl 30 0 hD
   simp only [hD,p26_,p27_,p28_,q30_,cq,oT] at ht hs
   subst ht
   refine Qae rfl rfl (g_d rfl ?_)
   try dsimp only [Qah,Qai]
   refine hk _ _ ⟨O,?_,hs.cast ?_⟩<;>simp only [oT,cq,Nat.reduceBEq,p26_,p27_,p28_,q30_]
  ·
   rintro D t w hD hp hcl ⟨O,ht,hs⟩ rest hk
   have hp:AllDone D [29,20]:=hp
   obtain ⟨p29_,p20_,_⟩:=hp
   obtain ⟨p28_,_,_⟩:=(show D 29=true→AllDone D [28,20] from hcl 29 (by decide)) p29_
   obtain ⟨p27_,_,_⟩:=(show D 28=true→AllDone D [27,20] from hcl 28 (by decide)) p28_
   obtain ⟨p26_,_,_⟩:=(show D 27=true→AllDone D [26,20] from hcl 27 (by decide)) p27_
   simp only [hD,p26_,p27_,p28_,p29_,cq,oT] at ht hs
   subst ht
   refine Qae rfl rfl (g_d rfl ?_)
   try dsimp only [Qah,Qai]
   refine hk _ _ ⟨O,?_,hs.cast ?_⟩<;>simp only [oT,cq,Nat.reduceBEq,p26_,p27_,p28_,p29_]
  intro D t w rest hall hO8_ hI
  obtain ⟨O,ht,hs⟩:=hI
  have p21_:=hall 21 (by decide) rfl
  have p22_:=hall 22 (by decide) rfl
  have p23_:=hall 23 (by decide) rfl
  have p24_:=hall 24 (by decide) rfl
  have p25_:=hall 25 (by decide) rfl
  have p26_:=hall 26 (by decide) rfl
  have p27_:=hall 27 (by decide) rfl
  have p28_:=hall 28 (by decide) rfl
  have p29_:=hall 29 (by decide) rfl
  have p30_:=hall 30 (by decide) rfl
  simp only [p21_,p22_,p23_,p24_,p25_,p26_,p27_,p28_,p29_,p30_,cq,oT] at ht hs
  subst ht
  obtain ⟨rest,rfl,hO9_⟩:=ord_one (m:=2147483647) hO8_ rfl 31 (m':=4294967295) (by decide+kernel) rfl
  clear hO8_
  refine Qae rfl rfl (g_d rfl ?_)
  obtain ⟨rest,rfl,hO10_⟩:=ord_one (m:=4294967295) hO9_ rfl 32 (m':=8589934591) (by decide+kernel) rfl
  clear hO9_
  refine Qab (v:=bool true) rfl rfl rfl (g_d rfl ?_)
  try dsimp only [Qah,Qai]
  obtain rfl:=ord_end hO10_ rfl (by decide+kernel)
  refine Qac (Qaq rfl (Qaj (Qan [0] rfl ?_)))
  refine Qab (v:=bool false) rfl rfl rfl (g_d rfl (Qac ?_))
  obtain rfl:=QsJ H
  refine QaB Tryz.func49 (v:=bool false) (res1 rfl rfl) ?_
  have hs:St _ [] _:=St.take (Γ':=[]) hs
  exact ⟨_,rfl,rfl,hs⟩
 intro hb
 rw [if_pos (b_bne_f hb)] at H
 refine g_d rfl ?_
 obtain ⟨rest,rfl,hO11_⟩:=ord_one (m:=511) hO2_ rfl 9 (m':=1023) (by decide+kernel) rfl
 clear hO2_
 refine Qab (v:=bool false) rfl rfl rfl (g_d rfl ?_)
 refine QaV ?_
 intro T hT
 refine Qbb (m0:=1023) hO11_ rfl 262143 [10,11,12,13,14,15,16,17] [0,1,3,7,0,16,48,112,255,511,1023,2047,4095,8191,1023,17407,50175,115711,262143,524287,1048575,2097151,4194303,8388607,16777215,33554431,2097151,69206015,203423743,471859199,1008730111,2147483647,4294967295] (by decide+kernel) (fun D t w=>∃ O:Nat→Value,t=(pointer (some ⟨b2,0,none⟩)::pointer (some ⟨b7,0,none⟩)::O 2::O 3::bool false::O 5::pointer (some ⟨b2,0,none⟩)::pointer (some ⟨b2,0,none⟩)::pointer (some ⟨b2,0,none⟩)::int .i8 a1.Qad::pointer (some ⟨b7,0,none⟩)::pointer (some ⟨b7,0,none⟩)::pointer (some ⟨b7,0,none⟩)::int .i8 a6.Qad::bool false::bool false::cnd (D 10) (pointer (some ⟨b2,0,none⟩)) (O 16)::cnd (D 11) (pointer (some ⟨b2,0,none⟩)) (O 17)::cnd (D 12) (pointer (some ⟨b2,1,none⟩)) (O 18)::cnd (D 13) (int .i8 a1.Qag) (O 19)::cnd (D 14) (pointer (some ⟨b7,0,none⟩)) (O 20)::cnd (D 15) (pointer (some ⟨b7,0,none⟩)) (O 21)::cnd (D 16) (pointer (some ⟨b7,1,none⟩)) (O 22)::cnd (D 17) (int .i8 a6.Qag) (O 23)::O 24::O 25::O 26::O 27::O 28::O 29::oT O 3 (oT O 4 (oT O 5 (O 60::O 61::O 62::[]))))∧St w0 [] w) ?_ ⟨?_,⟨?_,⟨?_,⟨?_,⟨?_,⟨?_,⟨?_,⟨?_,trivial⟩⟩⟩⟩⟩⟩⟩⟩ ?_
 ·exact ⟨fun i=>T.getD i undef,(by subst hT;rfl),hs⟩
 ·
  rintro D t w hD hp hcl ⟨O,ht,hs⟩ rest hk
  have hp:AllDone D [9]:=hp
  obtain ⟨p9_,_⟩:=hp
  have q11_:=ny hcl 11 0 hD
  have q12_:=ny hcl 12 0 q11_
  have q13_:=ny hcl 13 0 q12_
  simp only [hD,q11_,q12_,q13_,cq,oT] at ht hs
  subst ht
  refine Qab (v:=pointer (some ⟨b2,0,none⟩)) rfl rfl rfl (g_d rfl ?_)
  try dsimp only [Qah,Qai]
  refine hk _ _ ⟨O,?_,hs.cast ?_⟩<;>simp only [oT,lq,cq,Nat.reduceBEq,q11_,q12_,q13_]
 ·
  rintro D t w hD hp hcl ⟨O,ht,hs⟩ rest hk
  have hp:AllDone D [10,9]:=hp
  obtain ⟨p10_,p9_,_⟩:=hp
  have q12_:=ny hcl 12 0 hD
  have q13_:=ny hcl 13 0 q12_
  simp only [hD,p10_,q12_,q13_,cq,oT] at ht hs
  subst ht
  refine Qab (v:=pointer (some ⟨b2,0,none⟩)) rfl rfl rfl (g_d rfl ?_)
  try dsimp only [Qah,Qai]
  refine hk _ _ ⟨O,?_,hs.cast ?_⟩<;>simp only [oT,lq,cq,Nat.reduceBEq,p10_,q12_,q13_]
 ·
  rintro D t w hD hp hcl ⟨O,ht,hs⟩ rest hk
  have hp:AllDone D [11,9]:=hp
  obtain ⟨p11_,p9_,_⟩:=hp
  obtain ⟨p10_,_,_⟩:=(show D 11=true→AllDone D [10,9] from hcl 11 (by decide)) p11_
  have q13_:=ny hcl 13 0 hD
  simp only [hD,p10_,p11_,q13_,cq,oT] at ht hs
  subst ht
  refine Qab (v:=pointer (some ⟨b2,1,none⟩)) rfl rfl rfl (g_d rfl ?_)
  try dsimp only [Qah,Qai]
  refine hk _ _ ⟨O,?_,hs.cast ?_⟩<;>simp only [oT,lq,cq,Nat.reduceBEq,p10_,p11_,q13_]
 ·
  rintro D t w hD hp hcl ⟨O,ht,hs⟩ rest hk
  have hp:AllDone D [12,9]:=hp
  obtain ⟨p12_,p9_,_⟩:=hp
  obtain ⟨p11_,_,_⟩:=(show D 12=true→AllDone D [11,9] from hcl 12 (by decide)) p12_
  obtain ⟨p10_,_,_⟩:=(show D 11=true→AllDone D [10,9] from hcl 11 (by decide)) p11_
  simp only [hD,p10_,p11_,p12_,cq,oT] at ht hs
  subst ht
  refine Qaw rfl rfl (v:=int .i8 a1.Qag) rfl rfl (fun _=>rfl) (cells_load (hs.box hp0) 1 1 rfl) (g_d rfl ?_)
  try dsimp only [Qah,Qai]
  refine hk _ _ ⟨O,?_,hs.cast ?_⟩<;>simp only [oT,lq,cq,Nat.reduceBEq,p10_,p11_,p12_]
 ·
  rintro D t w hD hp hcl ⟨O,ht,hs⟩ rest hk
  have hp:AllDone D [9]:=hp
  obtain ⟨p9_,_⟩:=hp
  have q15_:=ny hcl 15 0 hD
  have q16_:=ny hcl 16 0 q15_
  have q17_:=ny hcl 17 0 q16_
  simp only [hD,q15_,q16_,q17_,cq,oT] at ht hs
  subst ht
  refine Qab (v:=pointer (some ⟨b7,0,none⟩)) rfl rfl rfl (g_d rfl ?_)
  try dsimp only [Qah,Qai]
  refine hk _ _ ⟨O,?_,hs.cast ?_⟩<;>simp only [oT,lq,cq,Nat.reduceBEq,q15_,q16_,q17_]
 ·
  rintro D t w hD hp hcl ⟨O,ht,hs⟩ rest hk
  have hp:AllDone D [14,9]:=hp
  obtain ⟨p14_,p9_,_⟩:=hp
  have q16_:=ny hcl 16 0 hD
  have q17_:=ny hcl 17 0 q16_
  simp only [hD,p14_,q16_,q17_,cq,oT] at ht hs
  subst ht
  refine Qab (v:=pointer (some ⟨b7,0,none⟩)) rfl rfl rfl (g_d rfl ?_)
  try dsimp only [Qah,Qai]
  refine hk _ _ ⟨O,?_,hs.cast ?_⟩<;>simp only [oT,lq,cq,Nat.reduceBEq,p14_,q16_,q17_]
 ·
  rintro D t w hD hp hcl ⟨O,ht,hs⟩ rest hk
  have hp:AllDone D [15,9]:=hp
  obtain ⟨p15_,p9_,_⟩:=hp
  obtain ⟨p14_,_,_⟩:=(show D 15=true→AllDone D [14,9] from hcl 15 (by decide)) p15_
  have q17_:=ny hcl 17 0 hD
  simp only [hD,p14_,p15_,q17_,cq,oT] at ht hs
  subst ht
  refine Qab (v:=pointer (some ⟨b7,1,none⟩)) rfl rfl rfl (g_d rfl ?_)
  try dsimp only [Qah,Qai]
  refine hk _ _ ⟨O,?_,hs.cast ?_⟩<;>simp only [oT,lq,cq,Nat.reduceBEq,p14_,p15_,q17_]
 ·
  rintro D t w hD hp hcl ⟨O,ht,hs⟩ rest hk
  have hp:AllDone D [16,9]:=hp
  obtain ⟨p16_,p9_,_⟩:=hp
  obtain ⟨p15_,_,_⟩:=(show D 16=true→AllDone D [15,9] from hcl 16 (by decide)) p16_
  obtain ⟨p14_,_,_⟩:=(show D 15=true→AllDone D [14,9] from hcl 15 (by decide)) p15_
  simp only [hD,p14_,p15_,p16_,cq,oT] at ht hs
  subst ht
  refine Qaw rfl rfl (v:=int .i8 a6.Qag) rfl rfl (fun _=>rfl) (cells_load (hs.box hp1) 1 1 rfl) (g_d rfl ?_)
  try dsimp only [Qah,Qai]
  refine hk _ _ ⟨O,?_,hs.cast ?_⟩<;>simp only [oT,lq,cq,Nat.reduceBEq,p14_,p15_,p16_]
 intro D t w rest hall hO12_ hI
 obtain ⟨O,ht,hs⟩:=hI
 have p10_:=hall 10 (by decide) rfl
 have p11_:=hall 11 (by decide) rfl
 have p12_:=hall 12 (by decide) rfl
 have p13_:=hall 13 (by decide) rfl
 have p14_:=hall 14 (by decide) rfl
 have p15_:=hall 15 (by decide) rfl
 have p16_:=hall 16 (by decide) rfl
 have p17_:=hall 17 (by decide) rfl
 simp only [p10_,p11_,p12_,p13_,p14_,p15_,p16_,p17_,cq,oT] at ht hs
 subst ht
 obtain ⟨rest,rfl,hO13_⟩:=ord_one (m:=262143) hO12_ rfl 18 (m':=524287) (by decide+kernel) rfl
 clear hO12_
 refine Qab (v:=bool (a1.Qag !=a6.Qag)) rfl rfl rfl (g_d rfl ?_)
 try dsimp only [Qah,Qai]
 obtain ⟨rest,rfl,hO14_⟩:=ord_one (m:=524287) hO13_ rfl 19 (m':=1048575) (by decide+kernel) rfl
 clear hO13_
 refine QaI (B:=a1.Qag !=a6.Qag) rfl rfl rfl ?_ ?_
 ·
  intro hb
  rw [if_neg (b_bne_t hb)] at H
  refine g_d rfl ?_
  try dsimp only [Qah,Qai]
  obtain ⟨rest,rfl,hO15_⟩:=ord_one (m:=1048575) hO14_ rfl 20 (m':=2097151) (by decide+kernel) rfl
  clear hO14_
  refine Qab (v:=bool true) rfl rfl rfl (g_d rfl ?_)
  refine QaV ?_
  intro T hT
  refine Qbb (m0:=2097151) hO15_ rfl 2147483647 [21,22,23,24,25,26,27,28,29,30] [0,1,3,7,0,16,48,112,255,511,1023,2047,4095,8191,1023,17407,50175,115711,262143,524287,1048575,2097151,4194303,8388607,16777215,33554431,2097151,69206015,203423743,471859199,1008730111,2147483647,4294967295] (by decide+kernel) (fun D t w=>∃ O:Nat→Value,t=(pointer (some ⟨b2,0,none⟩)::pointer (some ⟨b7,0,none⟩)::O 2::O 3::bool false::O 5::pointer (some ⟨b2,0,none⟩)::pointer (some ⟨b2,0,none⟩)::pointer (some ⟨b2,0,none⟩)::int .i8 a1.Qad::pointer (some ⟨b7,0,none⟩)::pointer (some ⟨b7,0,none⟩)::pointer (some ⟨b7,0,none⟩)::int .i8 a6.Qad::bool false::bool false::pointer (some ⟨b2,0,none⟩)::pointer (some ⟨b2,0,none⟩)::pointer (some ⟨b2,1,none⟩)::int .i8 a1.Qag::pointer (some ⟨b7,0,none⟩)::pointer (some ⟨b7,0,none⟩)::pointer (some ⟨b7,1,none⟩)::int .i8 a6.Qag::bool (a1.Qag !=a6.Qag)::bool true::bool true::cnd (D 21) undef (O 27)::cnd (D 22) undef (O 28)::cnd (D 23) undef (O 29)::cnd (D 24) undef (O 30)::cnd (D 25) undef (O 31)::cnd (D 26) undef (O 32)::cnd (D 27) undef (O 33)::cnd (D 28) undef (O 34)::cnd (D 29) undef (O 35)::cnd (D 30) undef (O 36)::O 37::O 38::O 39::oT O 4 (oT O 5 (O 60::O 61::O 62::[])))∧St w0 [] w) ?_ ⟨?_,⟨?_,⟨?_,⟨?_,⟨?_,⟨?_,⟨?_,⟨?_,⟨?_,⟨?_,trivial⟩⟩⟩⟩⟩⟩⟩⟩⟩⟩ ?_
  ·exact ⟨fun i=>T.getD i undef,(by subst hT;rfl),hs⟩
  ·
   rintro D t w hD hp hcl ⟨O,ht,hs⟩ rest hk
   have hp:AllDone D [20]:=hp
   obtain ⟨p20_,_⟩:=hp
   have q22_:=ny hcl 22 0 hD
   have q23_:=ny hcl 23 0 q22_
   have q24_:=ny hcl 24 0 q23_
   have q25_:=ny hcl 25 0 q24_
   simp only [hD,q22_,q23_,q24_,q25_,cq,oT] at ht hs
   subst ht
   refine Qae rfl rfl (g_d rfl ?_)
   try dsimp only [Qah,Qai]
   refine hk _ _ ⟨O,?_,hs.cast ?_⟩<;>simp only [oT,cq,Nat.reduceBEq,q22_,q23_,q24_,q25_]
  ·
   rintro D t w hD hp hcl ⟨O,ht,hs⟩ rest hk
   have hp:AllDone D [21,20]:=hp
   obtain ⟨p21_,p20_,_⟩:=hp
   have q23_:=ny hcl 23 0 hD
   have q24_:=ny hcl 24 0 q23_
   have q25_:=ny hcl 25 0 q24_
   simp only [hD,p21_,q23_,q24_,q25_,cq,oT] at ht hs
   subst ht
   refine Qae rfl rfl (g_d rfl ?_)
   try dsimp only [Qah,Qai]
   refine hk _ _ ⟨O,?_,hs.cast ?_⟩<;>simp only [oT,cq,Nat.reduceBEq,p21_,q23_,q24_,q25_]
  ·
   rintro D t w hD hp hcl ⟨O,ht,hs⟩ rest hk
   have hp:AllDone D [22,20]:=hp
   obtain ⟨p22_,p20_,_⟩:=hp
   obtain ⟨p21_,_,_⟩:=(show D 22=true→AllDone D [21,20] from hcl 22 (by decide)) p22_
   have q24_:=ny hcl 24 0 hD
   have q25_:=ny hcl 25 0 q24_
   simp only [hD,p21_,p22_,q24_,q25_,cq,oT] at ht hs
   subst ht
   refine Qae rfl rfl (g_d rfl ?_)
   try dsimp only [Qah,Qai]
   refine hk _ _ ⟨O,?_,hs.cast ?_⟩<;>simp only [oT,cq,Nat.reduceBEq,p21_,p22_,q24_,q25_]
  ·
   rintro D t w hD hp hcl ⟨O,ht,hs⟩ rest hk
   have hp:AllDone D [23,20]:=hp
   obtain ⟨p23_,p20_,_⟩:=hp
   obtain ⟨p22_,_,_⟩:=(show D 23=true→AllDone D [22,20] from hcl 23 (by decide)) p23_
   obtain ⟨p21_,_,_⟩:=(show D 22=true→AllDone D [21,20] from hcl 22 (by decide)) p22_
   have q25_:=ny hcl 25 0 hD
   simp only [hD,p21_,p22_,p23_,q25_,cq,oT] at ht hs
   subst ht
   refine Qae rfl rfl (g_d rfl ?_)
   try dsimp only [Qah,Qai]
   refine hk _ _ ⟨O,?_,hs.cast ?_⟩<;>simp only [oT,cq,Nat.reduceBEq,p21_,p22_,p23_,q25_]
  ·
   rintro D t w hD hp hcl ⟨O,ht,hs⟩ rest hk
   have hp:AllDone D [24,20]:=hp
   obtain ⟨p24_,p20_,_⟩:=hp
   obtain ⟨p23_,_,_⟩:=(show D 24=true→AllDone D [23,20] from hcl 24 (by decide)) p24_
   obtain ⟨p22_,_,_⟩:=(show D 23=true→AllDone D [22,20] from hcl 23 (by decide)) p23_
   obtain ⟨p21_,_,_⟩:=(show D 22=true→AllDone D [21,20] from hcl 22 (by decide)) p22_
   simp only [hD,p21_,p22_,p23_,p24_,cq,oT] at ht hs
   subst ht
   refine Qae rfl rfl (g_d rfl ?_)
   try dsimp only [Qah,Qai]
   refine hk _ _ ⟨O,?_,hs.cast ?_⟩<;>simp only [oT,cq,Nat.reduceBEq,p21_,p22_,p23_,p24_]
  ·
   rintro D t w hD hp hcl ⟨O,ht,hs⟩ rest hk
   have hp:AllDone D [20]:=hp
   obtain ⟨p20_,_⟩:=hp
   have q27_:=ny hcl 27 0 hD
   have q28_:=ny hcl 28 0 q27_
   have q29_:=ny hcl 29 0 q28_
   have q30_:=ny hcl 30 0 q29_
   simp only [hD,q27_,q28_,q29_,q30_,cq,oT] at ht hs
   subst ht
   refine Qae rfl rfl (g_d rfl ?_)
   try dsimp only [Qah,Qai]
   refine hk _ _ ⟨O,?_,hs.cast ?_⟩<;>simp only [oT,cq,Nat.reduceBEq,q27_,q28_,q29_,q30_]
  ·
   rintro D t w hD hp hcl ⟨O,ht,hs⟩ rest hk
   have hp:AllDone D [26,20]:=hp
   obtain ⟨p26_,p20_,_⟩:=hp
   have q28_:=ny hcl 28 0 hD
   have q29_:=ny hcl 29 0 q28_
   have q30_:=ny hcl 30 0 q29_
   simp only [hD,p26_,q28_,q29_,q30_,cq,oT] at ht hs
   subst ht
   refine Qae rfl rfl (g_d rfl ?_)
   try dsimp only [Qah,Qai]
   refine hk _ _ ⟨O,?_,hs.cast ?_⟩<;>simp only [oT,cq,Nat.reduceBEq,p26_,q28_,q29_,q30_]
  ·
   rintro D t w hD hp hcl ⟨O,ht,hs⟩ rest hk
   have hp:AllDone D [27,20]:=hp
   obtain ⟨p27_,p20_,_⟩:=hp
   obtain ⟨p26_,_,_⟩:=(show D 27=true→AllDone D [26,20] from hcl 27 (by decide)) p27_
   have q29_:=ny hcl 29 0 hD
   have q30_:=ny hcl 30 0 q29_
   simp only [hD,p26_,p27_,q29_,q30_,cq,oT] at ht hs
   subst ht
   refine Qae rfl rfl (g_d rfl ?_)
   try dsimp only [Qah,Qai]
   refine hk _ _ ⟨O,?_,hs.cast ?_⟩<;>simp only [oT,cq,Nat.reduceBEq,p26_,p27_,q29_,q30_]
  ·
   rintro D t w hD hp hcl ⟨O,ht,hs⟩ rest hk
   have hp:AllDone D [28,20]:=hp
   obtain ⟨p28_,p20_,_⟩:=hp
   obtain ⟨p27_,_,_⟩:=(show D 28=true→AllDone D [27,20] from hcl 28 (by decide)) p28_
   obtain ⟨p26_,_,_⟩:=(show D 27=true→AllDone D [26,20] from hcl 27 (by decide)) p27_
   have q30_:=ny hcl 30 0 hD
   simp only [hD,p26_,p27_,p28_,q30_,cq,oT] at ht hs
   subst ht
   refine Qae rfl rfl (g_d rfl ?_)
   try dsimp only [Qah,Qai]
   refine hk _ _ ⟨O,?_,hs.cast ?_⟩<;>simp only [oT,cq,Nat.reduceBEq,p26_,p27_,p28_,q30_]
  ·
   rintro D t w hD hp hcl ⟨O,ht,hs⟩ rest hk
   have hp:AllDone D [29,20]:=hp
   obtain ⟨p29_,p20_,_⟩:=hp
   obtain ⟨p28_,_,_⟩:=(show D 29=true→AllDone D [28,20] from hcl 29 (by decide)) p29_
   obtain ⟨p27_,_,_⟩:=(show D 28=true→AllDone D [27,20] from hcl 28 (by decide)) p28_
   obtain ⟨p26_,_,_⟩:=(show D 27=true→AllDone D [26,20] from hcl 27 (by decide)) p27_
   simp only [hD,p26_,p27_,p28_,p29_,cq,oT] at ht hs
   subst ht
   refine Qae rfl rfl (g_d rfl ?_)
   try dsimp only [Qah,Qai]
   refine hk _ _ ⟨O,?_,hs.cast ?_⟩<;>simp only [oT,cq,Nat.reduceBEq,p26_,p27_,p28_,p29_]
  intro D t w rest hall hO16_ hI
  obtain ⟨O,ht,hs⟩:=hI
  have p21_:=hall 21 (by decide) rfl
  have p22_:=hall 22 (by decide) rfl
  have p23_:=hall 23 (by decide) rfl
  have p24_:=hall 24 (by decide) rfl
  have p25_:=hall 25 (by decide) rfl
  have p26_:=hall 26 (by decide) rfl
  have p27_:=hall 27 (by decide) rfl
  have p28_:=hall 28 (by decide) rfl
  have p29_:=hall 29 (by decide) rfl
  have p30_:=hall 30 (by decide) rfl
  simp only [p21_,p22_,p23_,p24_,p25_,p26_,p27_,p28_,p29_,p30_,cq,oT] at ht hs
  subst ht
  obtain ⟨rest,rfl,hO17_⟩:=ord_one (m:=2147483647) hO16_ rfl 31 (m':=4294967295) (by decide+kernel) rfl
  clear hO16_
  refine Qae rfl rfl (g_d rfl ?_)
  obtain ⟨rest,rfl,hO18_⟩:=ord_one (m:=4294967295) hO17_ rfl 32 (m':=8589934591) (by decide+kernel) rfl
  clear hO17_
  refine Qab (v:=bool true) rfl rfl rfl (g_d rfl ?_)
  try dsimp only [Qah,Qai]
  obtain rfl:=ord_end hO18_ rfl (by decide+kernel)
  refine Qac (Qaq rfl (Qaj (Qan [0] rfl ?_)))
  refine Qab (v:=bool false) rfl rfl rfl (g_d rfl (Qac ?_))
  obtain rfl:=QsJ H
  refine QaB Tryz.func49 (v:=bool false) (res1 rfl rfl) ?_
  have hs:St _ [] _:=St.take (Γ':=[]) hs
  exact ⟨_,rfl,rfl,hs⟩
 intro hb
 rw [if_pos (b_bne_f hb)] at H
 refine g_d rfl ?_
 obtain ⟨rest,rfl,hO19_⟩:=ord_one (m:=1048575) hO14_ rfl 20 (m':=2097151) (by decide+kernel) rfl
 clear hO14_
 refine Qab (v:=bool false) rfl rfl rfl (g_d rfl ?_)
 refine QaV ?_
 intro T hT
 refine Qbb (m0:=2097151) hO19_ rfl 2147483647 [21,22,23,24,25,26,27,28,29,30] [0,1,3,7,0,16,48,112,255,511,1023,2047,4095,8191,1023,17407,50175,115711,262143,524287,1048575,2097151,4194303,8388607,16777215,33554431,2097151,69206015,203423743,471859199,1008730111,2147483647,4294967295] (by decide+kernel) (fun D t w=>∃ O:Nat→Value,t=(pointer (some ⟨b2,0,none⟩)::pointer (some ⟨b7,0,none⟩)::O 2::O 3::bool false::O 5::pointer (some ⟨b2,0,none⟩)::pointer (some ⟨b2,0,none⟩)::pointer (some ⟨b2,0,none⟩)::int .i8 a1.Qad::pointer (some ⟨b7,0,none⟩)::pointer (some ⟨b7,0,none⟩)::pointer (some ⟨b7,0,none⟩)::int .i8 a6.Qad::bool false::bool false::pointer (some ⟨b2,0,none⟩)::pointer (some ⟨b2,0,none⟩)::pointer (some ⟨b2,1,none⟩)::int .i8 a1.Qag::pointer (some ⟨b7,0,none⟩)::pointer (some ⟨b7,0,none⟩)::pointer (some ⟨b7,1,none⟩)::int .i8 a6.Qag::bool (a1.Qag !=a6.Qag)::bool false::bool false::cnd (D 21) (pointer (some ⟨b2,0,none⟩)) (O 27)::cnd (D 22) (pointer (some ⟨b2,0,none⟩)) (O 28)::cnd (D 23) (pointer (some ⟨b2,2,none⟩)) (O 29)::cnd (D 24) v3 (O 30)::cnd (D 25) (int .i64 (a1.Qal.length:Int)) (O 31)::cnd (D 26) (pointer (some ⟨b7,0,none⟩)) (O 32)::cnd (D 27) (pointer (some ⟨b7,0,none⟩)) (O 33)::cnd (D 28) (pointer (some ⟨b7,2,none⟩)) (O 34)::cnd (D 29) v8 (O 35)::cnd (D 30) (int .i64 (a6.Qal.length:Int)) (O 36)::O 37::O 38::O 39::oT O 4 (oT O 5 (O 60::O 61::O 62::[])))∧St w0 [] w) ?_ ⟨?_,⟨?_,⟨?_,⟨?_,⟨?_,⟨?_,⟨?_,⟨?_,⟨?_,⟨?_,trivial⟩⟩⟩⟩⟩⟩⟩⟩⟩⟩ ?_
 ·exact ⟨fun i=>T.getD i undef,(by subst hT;rfl),hs⟩
 ·
  rintro D t w hD hp hcl ⟨O,ht,hs⟩ rest hk
  have hp:AllDone D [20]:=hp
  obtain ⟨p20_,_⟩:=hp
  have q22_:=ny hcl 22 0 hD
  have q23_:=ny hcl 23 0 q22_
  have q24_:=ny hcl 24 0 q23_
  have q25_:=ny hcl 25 0 q24_
  simp only [hD,q22_,q23_,q24_,q25_,cq,oT] at ht hs
  subst ht
  refine Qab (v:=pointer (some ⟨b2,0,none⟩)) rfl rfl rfl (g_d rfl ?_)
  try dsimp only [Qah,Qai]
  refine hk _ _ ⟨O,?_,hs.cast ?_⟩<;>simp only [oT,lq,cq,Nat.reduceBEq,q22_,q23_,q24_,q25_]
 ·
  rintro D t w hD hp hcl ⟨O,ht,hs⟩ rest hk
  have hp:AllDone D [21,20]:=hp
  obtain ⟨p21_,p20_,_⟩:=hp
  have q23_:=ny hcl 23 0 hD
  have q24_:=ny hcl 24 0 q23_
  have q25_:=ny hcl 25 0 q24_
  simp only [hD,p21_,q23_,q24_,q25_,cq,oT] at ht hs
  subst ht
  refine Qab (v:=pointer (some ⟨b2,0,none⟩)) rfl rfl rfl (g_d rfl ?_)
  try dsimp only [Qah,Qai]
  refine hk _ _ ⟨O,?_,hs.cast ?_⟩<;>simp only [oT,lq,cq,Nat.reduceBEq,p21_,q23_,q24_,q25_]
 ·
  rintro D t w hD hp hcl ⟨O,ht,hs⟩ rest hk
  have hp:AllDone D [22,20]:=hp
  obtain ⟨p22_,p20_,_⟩:=hp
  obtain ⟨p21_,_,_⟩:=(show D 22=true→AllDone D [21,20] from hcl 22 (by decide)) p22_
  have q24_:=ny hcl 24 0 hD
  have q25_:=ny hcl 25 0 q24_
  simp only [hD,p21_,p22_,q24_,q25_,cq,oT] at ht hs
  subst ht
  refine Qab (v:=pointer (some ⟨b2,2,none⟩)) rfl rfl rfl (g_d rfl ?_)
  try dsimp only [Qah,Qai]
  refine hk _ _ ⟨O,?_,hs.cast ?_⟩<;>simp only [oT,lq,cq,Nat.reduceBEq,p21_,p22_,q24_,q25_]
 ·
  rintro D t w hD hp hcl ⟨O,ht,hs⟩ rest hk
  have hp:AllDone D [23,20]:=hp
  obtain ⟨p23_,p20_,_⟩:=hp
  obtain ⟨p22_,_,_⟩:=(show D 23=true→AllDone D [22,20] from hcl 23 (by decide)) p23_
  obtain ⟨p21_,_,_⟩:=(show D 22=true→AllDone D [21,20] from hcl 22 (by decide)) p22_
  have q25_:=ny hcl 25 0 hD
  simp only [hD,p21_,p22_,p23_,q25_,cq,oT] at ht hs
  subst ht
  refine Qaw rfl rfl (v:=v3) rfl rfl (fun _=>rfl) (cells_load (hs.box hp0) 2 1 rfl) (g_d rfl ?_)
  try dsimp only [Qah,Qai]
  refine hk _ _ ⟨O,?_,hs.cast ?_⟩<;>simp only [oT,lq,cq,Nat.reduceBEq,p21_,p22_,p23_,q25_]
 ·
  rintro D t w hD hp hcl ⟨O,ht,hs⟩ rest hk
  have hp:AllDone D [24,20]:=hp
  obtain ⟨p24_,p20_,_⟩:=hp
  obtain ⟨p23_,_,_⟩:=(show D 24=true→AllDone D [23,20] from hcl 24 (by decide)) p24_
  obtain ⟨p22_,_,_⟩:=(show D 23=true→AllDone D [22,20] from hcl 23 (by decide)) p23_
  obtain ⟨p21_,_,_⟩:=(show D 22=true→AllDone D [21,20] from hcl 22 (by decide)) p22_
  simp only [hD,p21_,p22_,p23_,p24_,cq,oT] at ht hs
  subst ht
  refine QbC (hs.rd hr4) rfl rfl rfl rfl rfl (g_d rfl ?_)
  try dsimp only [Qah,Qai]
  refine hk _ _ ⟨O,?_,hs.cast ?_⟩<;>simp only [oT,lq,cq,Nat.reduceBEq,p21_,p22_,p23_,p24_]
 ·
  rintro D t w hD hp hcl ⟨O,ht,hs⟩ rest hk
  have hp:AllDone D [20]:=hp
  obtain ⟨p20_,_⟩:=hp
  have q27_:=ny hcl 27 0 hD
  have q28_:=ny hcl 28 0 q27_
  have q29_:=ny hcl 29 0 q28_
  have q30_:=ny hcl 30 0 q29_
  simp only [hD,q27_,q28_,q29_,q30_,cq,oT] at ht hs
  subst ht
  refine Qab (v:=pointer (some ⟨b7,0,none⟩)) rfl rfl rfl (g_d rfl ?_)
  try dsimp only [Qah,Qai]
  refine hk _ _ ⟨O,?_,hs.cast ?_⟩<;>simp only [oT,lq,cq,Nat.reduceBEq,q27_,q28_,q29_,q30_]
 ·
  rintro D t w hD hp hcl ⟨O,ht,hs⟩ rest hk
  have hp:AllDone D [26,20]:=hp
  obtain ⟨p26_,p20_,_⟩:=hp
  have q28_:=ny hcl 28 0 hD
  have q29_:=ny hcl 29 0 q28_
  have q30_:=ny hcl 30 0 q29_
  simp only [hD,p26_,q28_,q29_,q30_,cq,oT] at ht hs
  subst ht
  refine Qab (v:=pointer (some ⟨b7,0,none⟩)) rfl rfl rfl (g_d rfl ?_)
  try dsimp only [Qah,Qai]
  refine hk _ _ ⟨O,?_,hs.cast ?_⟩<;>simp only [oT,lq,cq,Nat.reduceBEq,p26_,q28_,q29_,q30_]
 ·
  rintro D t w hD hp hcl ⟨O,ht,hs⟩ rest hk
  have hp:AllDone D [27,20]:=hp
  obtain ⟨p27_,p20_,_⟩:=hp
  obtain ⟨p26_,_,_⟩:=(show D 27=true→AllDone D [26,20] from hcl 27 (by decide)) p27_
  have q29_:=ny hcl 29 0 hD
  have q30_:=ny hcl 30 0 q29_
  simp only [hD,p26_,p27_,q29_,q30_,cq,oT] at ht hs
  subst ht
  refine Qab (v:=pointer (some ⟨b7,2,none⟩)) rfl rfl rfl (g_d rfl ?_)
  try dsimp only [Qah,Qai]
  refine hk _ _ ⟨O,?_,hs.cast ?_⟩<;>simp only [oT,lq,cq,Nat.reduceBEq,p26_,p27_,q29_,q30_]
 ·
  rintro D t w hD hp hcl ⟨O,ht,hs⟩ rest hk
  have hp:AllDone D [28,20]:=hp
  obtain ⟨p28_,p20_,_⟩:=hp
  obtain ⟨p27_,_,_⟩:=(show D 28=true→AllDone D [27,20] from hcl 28 (by decide)) p28_
  obtain ⟨p26_,_,_⟩:=(show D 27=true→AllDone D [26,20] from hcl 27 (by decide)) p27_
  have q30_:=ny hcl 30 0 hD
  simp only [hD,p26_,p27_,p28_,q30_,cq,oT] at ht hs
  subst ht
  refine Qaw rfl rfl (v:=v8) rfl rfl (fun _=>rfl) (cells_load (hs.box hp1) 2 1 rfl) (g_d rfl ?_)
  try dsimp only [Qah,Qai]
  refine hk _ _ ⟨O,?_,hs.cast ?_⟩<;>simp only [oT,lq,cq,Nat.reduceBEq,p26_,p27_,p28_,q30_]
 ·
  rintro D t w hD hp hcl ⟨O,ht,hs⟩ rest hk
  have hp:AllDone D [29,20]:=hp
  obtain ⟨p29_,p20_,_⟩:=hp
  obtain ⟨p28_,_,_⟩:=(show D 29=true→AllDone D [28,20] from hcl 29 (by decide)) p29_
  obtain ⟨p27_,_,_⟩:=(show D 28=true→AllDone D [27,20] from hcl 28 (by decide)) p28_
  obtain ⟨p26_,_,_⟩:=(show D 27=true→AllDone D [26,20] from hcl 27 (by decide)) p27_
  simp only [hD,p26_,p27_,p28_,p29_,cq,oT] at ht hs
  subst ht
  refine QbC (hs.rd hr9) rfl rfl rfl rfl rfl (g_d rfl ?_)
  try dsimp only [Qah,Qai]
  refine hk _ _ ⟨O,?_,hs.cast ?_⟩<;>simp only [oT,lq,cq,Nat.reduceBEq,p26_,p27_,p28_,p29_]
 intro D t w rest hall hO20_ hI
 obtain ⟨O,ht,hs⟩:=hI
 have p21_:=hall 21 (by decide) rfl
 have p22_:=hall 22 (by decide) rfl
 have p23_:=hall 23 (by decide) rfl
 have p24_:=hall 24 (by decide) rfl
 have p25_:=hall 25 (by decide) rfl
 have p26_:=hall 26 (by decide) rfl
 have p27_:=hall 27 (by decide) rfl
 have p28_:=hall 28 (by decide) rfl
 have p29_:=hall 29 (by decide) rfl
 have p30_:=hall 30 (by decide) rfl
 simp only [p21_,p22_,p23_,p24_,p25_,p26_,p27_,p28_,p29_,p30_,cq,oT] at ht hs
 subst ht
 obtain ⟨rest,rfl,hO21_⟩:=ord_one (m:=2147483647) hO20_ rfl 31 (m':=4294967295) (by decide+kernel) rfl
 clear hO20_
 refine QaI (B:=(a1.Qal.length:Int) !=(a6.Qal.length:Int)) rfl rfl rfl ?_ ?_
 ·
  intro hb
  rw [if_neg (b_bne_t hb)] at H
  refine g_d rfl ?_
  obtain ⟨rest,rfl,hO22_⟩:=ord_one (m:=4294967295) hO21_ rfl 32 (m':=8589934591) (by decide+kernel) rfl
  clear hO21_
  refine Qab (v:=bool true) rfl rfl rfl (g_d rfl ?_)
  try dsimp only [Qah,Qai]
  obtain rfl:=ord_end hO22_ rfl (by decide+kernel)
  refine Qac (Qaq rfl (Qaj (Qan [0] rfl ?_)))
  refine Qab (v:=bool false) rfl rfl rfl (g_d rfl (Qac ?_))
  obtain rfl:=QsJ H
  refine QaB Tryz.func49 (v:=bool false) (res1 rfl rfl) ?_
  have hs:St _ [] _:=St.take (Γ':=[]) hs
  exact ⟨_,rfl,rfl,hs⟩
 intro hb
 rw [if_pos (b_bne_f hb)] at H
 refine g_d rfl ?_
 try dsimp only [Qah,Qai]
 obtain ⟨rest,rfl,hO23_⟩:=ord_one (m:=4294967295) hO21_ rfl 32 (m':=8589934591) (by decide+kernel) rfl
 clear hO21_
 refine Qab (v:=bool false) rfl rfl rfl (g_d rfl ?_)
 obtain rfl:=ord_end hO23_ rfl (by decide+kernel)
 refine Qac (Qas rfl (QaK (Qaj (Qaj (Qan [0] rfl ?_)))))
 refine Qab (v:=int .i64 0) rfl rfl rfl (g_d rfl ?_)
 try dsimp only [Qah,Qai]
 refine Qac ?_
 obtain ⟨o1_,Ho,Hr1_⟩:=bind_get H
 refine QaR (J:=fun t w=>Qbv.a0 N=some r∧Fr t (fun O=>(oT O 0 (oT O 1 (oT O 2 (oT O 3 (oT O 4 (oT O 5 (O 60::O 61::O 62::[])))))):List Value))∧St w0 [] w) ?_ ?_
 ·
  rintro t w ⟨H,hf,hs⟩
  obtain ⟨O,rfl⟩:=hf.open
  try dsimp only [oT]
  unfold Qbv.a0 at H
  refine Qaj (Qan [0] rfl ?_)
  refine Qab (v:=bool true) rfl rfl rfl (g_d rfl ?_)
  try dsimp only [Qah,Qai]
  refine Qac ?_
  obtain rfl:=QsJ H
  refine QaB Tryz.func49 (v:=bool true) (res1 rfl rfl) ?_
  have hs:St _ [] _:=St.take (Γ':=[]) hs
  exact ⟨_,rfl,rfl,hs⟩
 intro ha1_
 have hs:St _ [] _:=St.take (Γ':=[]) hs
 refine Qba (I:=fun n_ t w=>∃ x11:Int,rounds (fun s=>Qbv.b0 N a1 a6 s) n_ x11=some o1_∧Fr t (fun O=>(pointer (some ⟨b2,0,none⟩)::pointer (some ⟨b7,0,none⟩)::O 2::O 3::O 4::int .i64 x11::O 6::O 7::O 8::O 9::oT O 1 (oT O 2 (oT O 3 (oT O 4 (oT O 5 (O 60::O 61::O 62::[]))))):List Value))∧St w0 [] w) N ⟨0,Ho,rfl,hs⟩ ?_ ?_
 ·
  rintro _ _ ⟨x11,h,_⟩
  exact rounds_zero h
 intro n_ ih1_
 rintro t w ⟨x11,Ho,hf,hs⟩
 obtain ⟨O,rfl⟩:=hf.open
 try dsimp only [oT]
 obtain ⟨x30_,H,Hx1_⟩:=rounds_succ Ho
 have H:Qbv.b0 N a1 a6 x11=some x30_:=H
 unfold Qbv.b0 at H
 refine Qaj (Qaj (Qan [0,1,2,3,4,5,6] rfl ?_))
 refine Qab (v:=int .i64 x11) rfl rfl rfl (g_d rfl ?_)
 refine Qab (v:=pointer (some ⟨b2,0,none⟩)) rfl rfl rfl (g_d rfl ?_)
 refine Qab (v:=pointer (some ⟨b2,0,none⟩)) rfl rfl rfl (g_d rfl ?_)
 refine Qab (v:=pointer (some ⟨b2,2,none⟩)) rfl rfl rfl (g_d rfl ?_)
 refine Qaw rfl rfl (v:=v3) rfl rfl (fun _=>rfl) (cells_load (hs.box hp0) 2 1 rfl) (g_d rfl ?_)
 refine QbC (hs.rd hr4) rfl rfl rfl rfl rfl (g_d rfl ?_)
 try dsimp only [Qah,Qai]
 refine QaI (B:=decide (x11< (a1.Qal.length:Int))) rfl rfl rfl ?_ ?_
 ·
  intro hb
  rw [if_pos (b_dec_t hb)] at H
  refine g_d rfl ?_
  try dsimp only [Qah,Qai]
  refine Qac (Qaq rfl (QaK (Qaj ?_)))
  refine QbG (Qaj ?_)
  refine Qck (n:=15) rfl [0,1,2,3,4,5,6,7,8,9,10,11,12,13,14] [0,1,2,3,4,5,6,7,8,9,10,11,12,13,14] rfl rfl ?_
  intro rest w hh hbw hO
  have hs:=hs.samew hh hbw
  try dsimp only [Qah,Qai]
  obtain ⟨gd25,H⟩:=ite_get H
  obtain ⟨ad26_,ad26_N,ad26_C,had26_⟩:=sl_at (hs.rd hr4) gd25.1 gd25.2
  obtain ⟨gd27,H⟩:=ite_get H
  obtain ⟨ad28_,ad28_N,ad28_C,had28_⟩:=sl_at (hs.rd hr9) gd27.1 gd27.2
  refine QaV ?_
  intro T hT
  refine Qbb (m0:=0) hO rfl 16383 [0,1,2,3,4,5,6,7,8,9,10,11,12,13] [0,1,3,7,0,31,63,0,128,384,896,0,3968,8064,16383] (by decide+kernel) (fun D t w=>∃ O:Nat→Value,t=(pointer (some ⟨b2,0,none⟩)::pointer (some ⟨b7,0,none⟩)::O 2::O 3::O 4::int .i64 x11::O 6::O 7::O 8::O 9::oT O 1 (oT O 2 (O 30::O 31::O 32::O 33::O 34::O 35::O 36::O 37::O 38::int .i64 x11::pointer (some ⟨b2,0,none⟩)::pointer (some ⟨b2,0,none⟩)::pointer (some ⟨b2,2,none⟩)::v3::int .i64 (a1.Qal.length:Int)::bool true::O 46::O 47::cnd (D 0) (pointer (some ⟨b2,0,none⟩)) (O 48)::cnd (D 1) (pointer (some ⟨b2,0,none⟩)) (O 49)::cnd (D 2) (pointer (some ⟨b2,2,none⟩)) (O 50)::cnd (D 3) v3 (O 51)::cnd (D 4) (int .i64 x11) (O 52)::cnd (D 5) (pointer (some (ad26_.add (x11.toNat*1)))) (O 53)::cnd (D 6) (int .u16 (rdL a1.Qal x11 0)) (O 54)::cnd (D 7) (pointer (some ⟨b7,0,none⟩)) (O 55)::cnd (D 8) (pointer (some ⟨b7,0,none⟩)) (O 56)::cnd (D 9) (pointer (some ⟨b7,2,none⟩)) (O 57)::cnd (D 10) v8 (O 58)::cnd (D 11) (int .i64 x11) (O 59)::cnd (D 12) (pointer (some (ad28_.add (x11.toNat*1)))) (O 60)::cnd (D 13) (int .u16 (rdL a6.Qal x11 0)) (O 61)::O 62::[])))∧St w0 [] w) ?_ ⟨?_,⟨?_,⟨?_,⟨?_,⟨?_,⟨?_,⟨?_,⟨?_,⟨?_,⟨?_,⟨?_,⟨?_,⟨?_,⟨?_,trivial⟩⟩⟩⟩⟩⟩⟩⟩⟩⟩⟩⟩⟩⟩ ?_
  ·exact ⟨fun i=>T.getD i undef,(by subst hT;rfl),hs⟩
  ·
   rintro D t w hD hp hcl ⟨O,ht,hs⟩ rest hk
   have hp:AllDone D []:=hp
   have q1_:=ny hcl 1 0 hD
   have q2_:=ny hcl 2 0 q1_
   have q3_:=ny hcl 3 0 q2_
   have q5_:=ny hcl 5 0 q3_
   have q6_:=ny hcl 6 0 q5_
   simp only [hD,q1_,q2_,q3_,q5_,q6_,cq,oT] at ht hs
   subst ht
   refine Qab (v:=pointer (some ⟨b2,0,none⟩)) rfl rfl rfl (g_d rfl ?_)
   try dsimp only [Qah,Qai]
   refine hk _ _ ⟨O,?_,hs.cast ?_⟩<;>simp only [oT,lq,cq,Nat.reduceBEq,q1_,q2_,q3_,q5_,q6_]
  ·
   rintro D t w hD hp hcl ⟨O,ht,hs⟩ rest hk
   have hp:AllDone D [0]:=hp
   obtain ⟨p0_,_⟩:=hp
   have q2_:=ny hcl 2 0 hD
   have q3_:=ny hcl 3 0 q2_
   have q5_:=ny hcl 5 0 q3_
   have q6_:=ny hcl 6 0 q5_
   simp only [hD,p0_,q2_,q3_,q5_,q6_,cq,oT] at ht hs
   subst ht
   refine Qab (v:=pointer (some ⟨b2,0,none⟩)) rfl rfl rfl (g_d rfl ?_)
   try dsimp only [Qah,Qai]
   refine hk _ _ ⟨O,?_,hs.cast ?_⟩<;>simp only [oT,lq,cq,Nat.reduceBEq,p0_,q2_,q3_,q5_,q6_]
  ·
   rintro D t w hD hp hcl ⟨O,ht,hs⟩ rest hk
   have hp:AllDone D [1]:=hp
   obtain ⟨p1_,_⟩:=hp
   obtain ⟨p0_,_⟩:=(show D 1=true→AllDone D [0] from hcl 1 (by decide)) p1_
   have q3_:=ny hcl 3 0 hD
   have q5_:=ny hcl 5 0 q3_
   have q6_:=ny hcl 6 0 q5_
   simp only [hD,p0_,p1_,q3_,q5_,q6_,cq,oT] at ht hs
   subst ht
   refine Qab (v:=pointer (some ⟨b2,2,none⟩)) rfl rfl rfl (g_d rfl ?_)
   try dsimp only [Qah,Qai]
   refine hk _ _ ⟨O,?_,hs.cast ?_⟩<;>simp only [oT,lq,cq,Nat.reduceBEq,p0_,p1_,q3_,q5_,q6_]
  ·
   rintro D t w hD hp hcl ⟨O,ht,hs⟩ rest hk
   have hp:AllDone D [2]:=hp
   obtain ⟨p2_,_⟩:=hp
   obtain ⟨p1_,_⟩:=(show D 2=true→AllDone D [1] from hcl 2 (by decide)) p2_
   obtain ⟨p0_,_⟩:=(show D 1=true→AllDone D [0] from hcl 1 (by decide)) p1_
   have q5_:=ny hcl 5 0 hD
   have q6_:=ny hcl 6 0 q5_
   simp only [hD,p0_,p1_,p2_,q5_,q6_,cq,oT] at ht hs
   subst ht
   refine Qaw rfl rfl (v:=v3) rfl rfl (fun _=>rfl) (cells_load (hs.box hp0) 2 1 rfl) (g_d rfl ?_)
   try dsimp only [Qah,Qai]
   refine hk _ _ ⟨O,?_,hs.cast ?_⟩<;>simp only [oT,lq,cq,Nat.reduceBEq,p0_,p1_,p2_,q5_,q6_]
  ·
   rintro D t w hD hp hcl ⟨O,ht,hs⟩ rest hk
   have hp:AllDone D []:=hp
   have q5_:=ny hcl 5 1 hD
   have q6_:=ny hcl 6 0 q5_
   simp only [hD,q5_,q6_,cq,oT] at ht hs
   subst ht
   refine Qab (v:=int .i64 x11) rfl rfl rfl (g_d rfl ?_)
   try dsimp only [Qah,Qai]
   refine hk _ _ ⟨O,?_,hs.cast ?_⟩<;>simp only [oT,lq,cq,Nat.reduceBEq,q5_,q6_]
  ·
   rintro D t w hD hp hcl ⟨O,ht,hs⟩ rest hk
   have hp:AllDone D [3,4]:=hp
   obtain ⟨p3_,p4_,_⟩:=hp
   obtain ⟨p2_,_⟩:=(show D 3=true→AllDone D [2] from hcl 3 (by decide)) p3_
   obtain ⟨p1_,_⟩:=(show D 2=true→AllDone D [1] from hcl 2 (by decide)) p2_
   obtain ⟨p0_,_⟩:=(show D 1=true→AllDone D [0] from hcl 1 (by decide)) p1_
   have q6_:=ny hcl 6 0 hD
   simp only [hD,p0_,p1_,p2_,p3_,p4_,q6_,cq,oT] at ht hs
   subst ht
   refine QbJ (κ:=(K.int .u16)) (m:=1) rfl (hs.rd hr4) rfl (fun _=>rfl) gd25.1 gd25.2 had26_ rfl rfl rfl rfl rfl (g_d rfl ?_)
   try dsimp only [Qah,Qai]
   refine hk _ _ ⟨O,?_,hs.cast ?_⟩<;>simp only [oT,lq,cq,Nat.reduceBEq,p0_,p1_,p2_,p3_,p4_,q6_]
  ·
   rintro D t w hD hp hcl ⟨O,ht,hs⟩ rest hk
   have hp:AllDone D [5]:=hp
   obtain ⟨p5_,_⟩:=hp
   obtain ⟨p3_,p4_,_⟩:=(show D 5=true→AllDone D [3,4] from hcl 5 (by decide)) p5_
   obtain ⟨p2_,_⟩:=(show D 3=true→AllDone D [2] from hcl 3 (by decide)) p3_
   obtain ⟨p1_,_⟩:=(show D 2=true→AllDone D [1] from hcl 2 (by decide)) p2_
   obtain ⟨p0_,_⟩:=(show D 1=true→AllDone D [0] from hcl 1 (by decide)) p1_
   simp only [hD,p0_,p1_,p2_,p3_,p4_,p5_,cq,oT] at ht hs
   subst ht
   refine Qaw rfl rfl (v:=int .u16 (rdL a1.Qal x11 0)) rfl rfl (fun _=>rfl) (cellsAt_of (fkI .u16) 0 (hs.rd hr4) had26_ gd25.1 gd25.2) (g_d rfl ?_)
   try dsimp only [Qah,Qai]
   refine hk _ _ ⟨O,?_,hs.cast ?_⟩<;>simp only [oT,lq,cq,Nat.reduceBEq,p0_,p1_,p2_,p3_,p4_,p5_]
  ·
   rintro D t w hD hp hcl ⟨O,ht,hs⟩ rest hk
   have hp:AllDone D []:=hp
   have q8_:=ny hcl 8 0 hD
   have q9_:=ny hcl 9 0 q8_
   have q10_:=ny hcl 10 0 q9_
   have q12_:=ny hcl 12 0 q10_
   have q13_:=ny hcl 13 0 q12_
   simp only [hD,q8_,q9_,q10_,q12_,q13_,cq,oT] at ht hs
   subst ht
   refine Qab (v:=pointer (some ⟨b7,0,none⟩)) rfl rfl rfl (g_d rfl ?_)
   try dsimp only [Qah,Qai]
   refine hk _ _ ⟨O,?_,hs.cast ?_⟩<;>simp only [oT,lq,cq,Nat.reduceBEq,q8_,q9_,q10_,q12_,q13_]
  ·
   rintro D t w hD hp hcl ⟨O,ht,hs⟩ rest hk
   have hp:AllDone D [7]:=hp
   obtain ⟨p7_,_⟩:=hp
   have q9_:=ny hcl 9 0 hD
   have q10_:=ny hcl 10 0 q9_
   have q12_:=ny hcl 12 0 q10_
   have q13_:=ny hcl 13 0 q12_
   simp only [hD,p7_,q9_,q10_,q12_,q13_,cq,oT] at ht hs
   subst ht
   refine Qab (v:=pointer (some ⟨b7,0,none⟩)) rfl rfl rfl (g_d rfl ?_)
   try dsimp only [Qah,Qai]
   refine hk _ _ ⟨O,?_,hs.cast ?_⟩<;>simp only [oT,lq,cq,Nat.reduceBEq,p7_,q9_,q10_,q12_,q13_]
  ·
   rintro D t w hD hp hcl ⟨O,ht,hs⟩ rest hk
   have hp:AllDone D [8]:=hp
   obtain ⟨p8_,_⟩:=hp
   obtain ⟨p7_,_⟩:=(show D 8=true→AllDone D [7] from hcl 8 (by decide)) p8_
   have q10_:=ny hcl 10 0 hD
   have q12_:=ny hcl 12 0 q10_
   have q13_:=ny hcl 13 0 q12_
   simp only [hD,p7_,p8_,q10_,q12_,q13_,cq,oT] at ht hs
   subst ht
   refine Qab (v:=pointer (some ⟨b7,2,none⟩)) rfl rfl rfl (g_d rfl ?_)
   try dsimp only [Qah,Qai]
   refine hk _ _ ⟨O,?_,hs.cast ?_⟩<;>simp only [oT,lq,cq,Nat.reduceBEq,p7_,p8_,q10_,q12_,q13_]
  ·
   rintro D t w hD hp hcl ⟨O,ht,hs⟩ rest hk
   have hp:AllDone D [9]:=hp
   obtain ⟨p9_,_⟩:=hp
   obtain ⟨p8_,_⟩:=(show D 9=true→AllDone D [8] from hcl 9 (by decide)) p9_
   obtain ⟨p7_,_⟩:=(show D 8=true→AllDone D [7] from hcl 8 (by decide)) p8_
   have q12_:=ny hcl 12 0 hD
   have q13_:=ny hcl 13 0 q12_
   simp only [hD,p7_,p8_,p9_,q12_,q13_,cq,oT] at ht hs
   subst ht
   refine Qaw rfl rfl (v:=v8) rfl rfl (fun _=>rfl) (cells_load (hs.box hp1) 2 1 rfl) (g_d rfl ?_)
   try dsimp only [Qah,Qai]
   refine hk _ _ ⟨O,?_,hs.cast ?_⟩<;>simp only [oT,lq,cq,Nat.reduceBEq,p7_,p8_,p9_,q12_,q13_]
  ·
   rintro D t w hD hp hcl ⟨O,ht,hs⟩ rest hk
   have hp:AllDone D []:=hp
   have q12_:=ny hcl 12 1 hD
   have q13_:=ny hcl 13 0 q12_
   simp only [hD,q12_,q13_,cq,oT] at ht hs
   subst ht
   refine Qab (v:=int .i64 x11) rfl rfl rfl (g_d rfl ?_)
   try dsimp only [Qah,Qai]
   refine hk _ _ ⟨O,?_,hs.cast ?_⟩<;>simp only [oT,lq,cq,Nat.reduceBEq,q12_,q13_]
  ·
   rintro D t w hD hp hcl ⟨O,ht,hs⟩ rest hk
   have hp:AllDone D [10,11]:=hp
   obtain ⟨p10_,p11_,_⟩:=hp
   obtain ⟨p9_,_⟩:=(show D 10=true→AllDone D [9] from hcl 10 (by decide)) p10_
   obtain ⟨p8_,_⟩:=(show D 9=true→AllDone D [8] from hcl 9 (by decide)) p9_
   obtain ⟨p7_,_⟩:=(show D 8=true→AllDone D [7] from hcl 8 (by decide)) p8_
   have q13_:=ny hcl 13 0 hD
   simp only [hD,p7_,p8_,p9_,p10_,p11_,q13_,cq,oT] at ht hs
   subst ht
   refine QbJ (κ:=(K.int .u16)) (m:=1) rfl (hs.rd hr9) rfl (fun _=>rfl) gd27.1 gd27.2 had28_ rfl rfl rfl rfl rfl (g_d rfl ?_)
   try dsimp only [Qah,Qai]
   refine hk _ _ ⟨O,?_,hs.cast ?_⟩<;>simp only [oT,lq,cq,Nat.reduceBEq,p7_,p8_,p9_,p10_,p11_,q13_]
  ·
   rintro D t w hD hp hcl ⟨O,ht,hs⟩ rest hk
   have hp:AllDone D [12]:=hp
   obtain ⟨p12_,_⟩:=hp
   obtain ⟨p10_,p11_,_⟩:=(show D 12=true→AllDone D [10,11] from hcl 12 (by decide)) p12_
   obtain ⟨p9_,_⟩:=(show D 10=true→AllDone D [9] from hcl 10 (by decide)) p10_
   obtain ⟨p8_,_⟩:=(show D 9=true→AllDone D [8] from hcl 9 (by decide)) p9_
   obtain ⟨p7_,_⟩:=(show D 8=true→AllDone D [7] from hcl 8 (by decide)) p8_
   simp only [hD,p7_,p8_,p9_,p10_,p11_,p12_,cq,oT] at ht hs
   subst ht
   refine Qaw rfl rfl (v:=int .u16 (rdL a6.Qal x11 0)) rfl rfl (fun _=>rfl) (cellsAt_of (fkI .u16) 0 (hs.rd hr9) had28_ gd27.1 gd27.2) (g_d rfl ?_)
   try dsimp only [Qah,Qai]
   refine hk _ _ ⟨O,?_,hs.cast ?_⟩<;>simp only [oT,lq,cq,Nat.reduceBEq,p7_,p8_,p9_,p10_,p11_,p12_]
  intro D t w rest hall hO24_ hI
  obtain ⟨O,ht,hs⟩:=hI
  have p0_:=hall 0 (by decide) rfl
  have p1_:=hall 1 (by decide) rfl
  have p2_:=hall 2 (by decide) rfl
  have p3_:=hall 3 (by decide) rfl
  have p4_:=hall 4 (by decide) rfl
  have p5_:=hall 5 (by decide) rfl
  have p6_:=hall 6 (by decide) rfl
  have p7_:=hall 7 (by decide) rfl
  have p8_:=hall 8 (by decide) rfl
  have p9_:=hall 9 (by decide) rfl
  have p10_:=hall 10 (by decide) rfl
  have p11_:=hall 11 (by decide) rfl
  have p12_:=hall 12 (by decide) rfl
  have p13_:=hall 13 (by decide) rfl
  simp only [p0_,p1_,p2_,p3_,p4_,p5_,p6_,p7_,p8_,p9_,p10_,p11_,p12_,p13_,cq,oT] at ht hs
  subst ht
  obtain ⟨rest,rfl,hO29_⟩:=ord_one (m:=16383) hO24_ rfl 14 (m':=32767) (by decide+kernel) rfl
  clear hO24_
  refine QaI (B:=(rdL a1.Qal x11 0) !=(rdL a6.Qal x11 0)) rfl rfl rfl ?_ ?_
  ·
   intro hb
   rw [if_neg (b_bne_t hb)] at H
   refine g_d rfl ?_
   try dsimp only [Qah,Qai]
   obtain rfl:=ord_end hO29_ rfl (by decide+kernel)
   refine Qac (Qaq rfl (Qaj (Qan [0] rfl ?_)))
   refine Qab (v:=bool false) rfl rfl rfl (g_d rfl (Qac ?_))
   obtain rfl:=QsJ H
   subst Hx1_
   have H:=QsJ Hr1_
   subst H
   refine QaB Tryz.func49 (v:=bool false) (res1 rfl rfl) ?_
   have hs:St _ [] _:=St.take (Γ':=[]) hs
   exact ⟨_,rfl,rfl,hs⟩
  intro hb
  rw [if_pos (b_bne_f hb)] at H
  refine g_d rfl ?_
  obtain rfl:=ord_end hO29_ rfl (by decide+kernel)
  refine Qac (Qas rfl (QaK ?_))
  refine Qa0 (Qan [0,1,2] rfl ?_)
  refine Qab (v:=int .i64 x11) rfl rfl rfl (g_d rfl ?_)
  refine Qab (v:=int .i64 (i64w (x11+1))) rfl rfl rfl (g_d rfl ?_)
  try dsimp only [Qah,Qai]
  refine Qab (v:=int .i64 (i64w (x11+1))) rfl rfl rfl (g_d rfl (Qac ?_))
  obtain rfl:=QsJ H
  have hs:St _ [] _:=St.take (Γ':=[]) hs
  exact ih1_ _ _ ⟨i64w (x11+1),Hx1_,rfl,hs⟩
 intro hb
 rw [if_neg (b_dec_f hb)] at H
 refine g_d rfl (Qac (Qas rfl ?_))
 obtain rfl:=QsJ H
 subst Hx1_
 have hs:St _ [] _:=St.take (Γ':=[]) hs
 refine QbE rfl ?_
 exact ha1_ _ _ ⟨Hr1_,rfl,hs⟩
end Go.Proofs.YtblbfnngmeoipaaGreatDoorX
