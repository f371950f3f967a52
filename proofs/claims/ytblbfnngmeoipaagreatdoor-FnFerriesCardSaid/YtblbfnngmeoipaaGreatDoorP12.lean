import Derived.Test.YtblbfnngmeoipaaGreatDoorP11
namespace Go.Proofs.YtblbfnngmeoipaaGreatDoorX
open Go Go.RowKit Go.Proofs
open Go.Value (int pointer bool agg slice string tuple)
set_option maxHeartbeats 8000000
set_option maxRecDepth 100000
set_option linter.unusedVariables false
set_option linter.unusedSimpArgs false
def Qbr.post (w0:World) (r:Bool) (v:Value) (w:World):Prop:=v=bool r∧St w0 [] w
theorem Qbr.calls {N:Nat} {a1:Qaf} {b2:Nat} {v3:Value} {w0:World} {r:Bool} (hr4:RdRow (K.int .u16) w0 v3 a1.Qal) (hp0:w0.heap[b2]?=some (.cells ((([int .i8 a1.Qad,int .i8 a1.Qag,v3]:List Value)):List Value).toArray 27 (0,0))) (H:Qbr.f N a1=some r):
 Calls Tryz.prog 36 #[pointer (some ⟨b2,0,none⟩)] w0 fun e w=>∃ v,e= .returned v∧Qbr.post w0 r v w:=by
 unfold Qbr.f at H
 have hs:St w0 [] w0:=St.refl w0
 refine calls_of_g (n:=63) Tryz.func36 rfl rfl ?_
 show G _ _ _ _ (_::_::_::_::_::_::_::_::_::_::_::_::_::_::_::_::_::_::_::_::_::_::_::_::_::_::_::_::_::_::_::_::_::_::_::_::_::_::_::_::_::_::_::_::_::_::_::_::_::_::_::_::_::_::_::_::_::_::_::_::_::_::_::_::[]) _
 refine Qaj (Qan [0] rfl ?_)
 refine Qab (v:=bool false) rfl rfl rfl (g_d rfl ?_)
 try dsimp only [Qah,Qai]
 refine Qac (Qaj (Qaj ?_))
 refine Qck (n:=29) rfl [0,1,2,3,4,5,6,7,8,9,10,11,12,13,14,15,16,17,18,19,20,21,22,23,24,25,26,27,28] [0,1,2,3,4,5,6,7,8,9,10,11,12,13,14,15,16,17,18,19,20,21,22,23,24,25,26,27,28] rfl rfl ?_
 intro rest w hh hbw hO
 have hs:=hs.samew hh hbw
 try dsimp only [Qah,Qai]
 obtain ⟨rest,rfl,hO1_⟩:=ord_one (m:=0) hO rfl 0 (m':=1) (by decide+kernel) rfl
 clear hO
 refine Qab (v:=pointer (some ⟨b2,0,none⟩)) rfl rfl rfl (g_d rfl ?_)
 obtain ⟨rest,rfl,hO2_⟩:=ord_one (m:=1) hO1_ rfl 1 (m':=3) (by decide+kernel) rfl
 clear hO1_
 refine Qab (v:=pointer (some ⟨b2,0,none⟩)) rfl rfl rfl (g_d rfl ?_)
 obtain ⟨rest,rfl,hO3_⟩:=ord_one (m:=3) hO2_ rfl 2 (m':=7) (by decide+kernel) rfl
 clear hO2_
 refine Qab (v:=pointer (some ⟨b2,0,none⟩)) rfl rfl rfl (g_d rfl ?_)
 obtain ⟨rest,rfl,hO4_⟩:=ord_one (m:=7) hO3_ rfl 3 (m':=15) (by decide+kernel) rfl
 clear hO3_
 refine Qaw rfl rfl (v:=int .i8 a1.Qad) rfl rfl (fun _=>rfl) (cells_load (hs.box hp0) 0 1 rfl) (g_d rfl ?_)
 obtain ⟨rest,rfl,hO5_⟩:=ord_one (m:=15) hO4_ rfl 4 (m':=31) (by decide+kernel) rfl
 clear hO4_
 refine Qab (v:=int .i64 (i64w a1.Qad)) rfl rfl rfl (g_d rfl ?_)
 obtain ⟨rest,rfl,hO6_⟩:=ord_one (m:=31) hO5_ rfl 5 (m':=63) (by decide+kernel) rfl
 clear hO5_
 obtain ⟨r6,Hr6,H⟩:=bind_get H
 refine Qaz (args:=[int .i64 (i64w a1.Qad),int .i64 1,int .i64 8]) rfl rfl (QaA rfl (callFunc_enter Tryz.func73 rfl rfl) rfl) (Qch.calls (a1:=i64w a1.Qad) (a2:=1) (a3:=8) Hr6) ?_
 rintro _ w ⟨rfl,hs2⟩
 have hs:St _ [] _:=hs.call hs2
 cases r6 with
 |true=>
  rw [if_pos rfl] at H
  refine g_d rfl ?_
  obtain ⟨rest,rfl,hO7_⟩:=ord_one (m:=63) hO6_ rfl 6 (m':=127) (by decide+kernel) rfl
  clear hO6_
  refine Qab (v:=bool false) rfl rfl rfl (g_d rfl ?_)
  try dsimp only [Qah,Qai]
  obtain ⟨rest,rfl,hO8_⟩:=ord_one (m:=127) hO7_ rfl 7 (m':=255) (by decide+kernel) rfl
  clear hO7_
  refine Qab (v:=bool false) rfl rfl rfl (g_d rfl ?_)
  refine QaV ?_
  intro T hT
  refine Qbb (m0:=255) hO8_ rfl 262143 [8,9,10,11,12,13,14,15,16,17] [0,1,3,7,15,31,63,127,255,511,1023,2047,4095,255,8447,24831,57599,123135,262143,524287,1048575,2097151,4194303,8388607,16777215,33554431,67108863,134217727,268435455] (by decide+kernel) (fun D t w=>∃ O:Nat→Value,t=(pointer (some ⟨b2,0,none⟩)::O 1::bool false::O 3::pointer (some ⟨b2,0,none⟩)::pointer (some ⟨b2,0,none⟩)::pointer (some ⟨b2,0,none⟩)::int .i8 a1.Qad::int .i64 (i64w a1.Qad)::bool true::bool false::bool false::cnd (D 8) (pointer (some ⟨b2,0,none⟩)) (O 12)::cnd (D 9) (pointer (some ⟨b2,0,none⟩)) (O 13)::cnd (D 10) (pointer (some ⟨b2,1,none⟩)) (O 14)::cnd (D 11) (int .i8 a1.Qag) (O 15)::cnd (D 12) (int .i64 (i64w a1.Qag)) (O 16)::cnd (D 13) (pointer (some ⟨b2,0,none⟩)) (O 17)::cnd (D 14) (pointer (some ⟨b2,0,none⟩)) (O 18)::cnd (D 15) (pointer (some ⟨b2,0,none⟩)) (O 19)::cnd (D 16) (int .i8 a1.Qad) (O 20)::cnd (D 17) (int .i64 (i64w a1.Qad)) (O 21)::O 22::O 23::O 24::O 25::O 26::O 27::O 28::O 29::oT O 3 (oT O 4 (oT O 5 (O 60::O 61::O 62::O 63::[]))))∧St w0 [] w) ?_ ⟨?_,⟨?_,⟨?_,⟨?_,⟨?_,⟨?_,⟨?_,⟨?_,⟨?_,⟨?_,trivial⟩⟩⟩⟩⟩⟩⟩⟩⟩⟩ ?_
  ·exact ⟨fun i=>T.getD i undef,(by subst hT;rfl),hs⟩
  ·
   rintro D t w hD hp hcl ⟨O,ht,hs⟩ rest hk
   have hp:AllDone D [7]:=hp
   obtain ⟨p7_,_⟩:=hp
   have q9_:=ny hcl 9 0 hD
   have q10_:=ny hcl 10 0 q9_
   have q11_:=ny hcl 11 0 q10_
   have q12_:=ny hcl 12 0 q11_
   simp only [hD,q9_,q10_,q11_,q12_,cq,oT] at ht hs
   subst ht
   refine Qab (v:=pointer (some ⟨b2,0,none⟩)) rfl rfl rfl (g_d rfl ?_)
   try dsimp only [Qah,Qai]
   refine hk _ _ ⟨O,?_,hs.cast ?_⟩<;>simp only [oT,lq,cq,Nat.reduceBEq,q9_,q10_,q11_,q12_]
  ·
   rintro D t w hD hp hcl ⟨O,ht,hs⟩ rest hk
   have hp:AllDone D [8,7]:=hp
   obtain ⟨p8_,p7_,_⟩:=hp
   have q10_:=ny hcl 10 0 hD
   have q11_:=ny hcl 11 0 q10_
   have q12_:=ny hcl 12 0 q11_
   simp only [hD,p8_,q10_,q11_,q12_,cq,oT] at ht hs
   subst ht
   refine Qab (v:=pointer (some ⟨b2,0,none⟩)) rfl rfl rfl (g_d rfl ?_)
   try dsimp only [Qah,Qai]
   refine hk _ _ ⟨O,?_,hs.cast ?_⟩<;>simp only [oT,lq,cq,Nat.reduceBEq,p8_,q10_,q11_,q12_]
  ·
   rintro D t w hD hp hcl ⟨O,ht,hs⟩ rest hk
   have hp:AllDone D [9,7]:=hp
   obtain ⟨p9_,p7_,_⟩:=hp
   obtain ⟨p8_,_,_⟩:=(show D 9=true→AllDone D [8,7] from hcl 9 (by decide)) p9_
   have q11_:=ny hcl 11 0 hD
   have q12_:=ny hcl 12 0 q11_
   simp only [hD,p8_,p9_,q11_,q12_,cq,oT] at ht hs
   subst ht
   refine Qab (v:=pointer (some ⟨b2,1,none⟩)) rfl rfl rfl (g_d rfl ?_)
   try dsimp only [Qah,Qai]
   refine hk _ _ ⟨O,?_,hs.cast ?_⟩<;>simp only [oT,lq,cq,Nat.reduceBEq,p8_,p9_,q11_,q12_]
  ·
   rintro D t w hD hp hcl ⟨O,ht,hs⟩ rest hk
   have hp:AllDone D [10,7]:=hp
   obtain ⟨p10_,p7_,_⟩:=hp
   obtain ⟨p9_,_,_⟩:=(show D 10=true→AllDone D [9,7] from hcl 10 (by decide)) p10_
   obtain ⟨p8_,_,_⟩:=(show D 9=true→AllDone D [8,7] from hcl 9 (by decide)) p9_
   have q12_:=ny hcl 12 0 hD
   simp only [hD,p8_,p9_,p10_,q12_,cq,oT] at ht hs
   subst ht
   refine Qaw rfl rfl (v:=int .i8 a1.Qag) rfl rfl (fun _=>rfl) (cells_load (hs.box hp0) 1 1 rfl) (g_d rfl ?_)
   try dsimp only [Qah,Qai]
   refine hk _ _ ⟨O,?_,hs.cast ?_⟩<;>simp only [oT,lq,cq,Nat.reduceBEq,p8_,p9_,p10_,q12_]
  ·
   rintro D t w hD hp hcl ⟨O,ht,hs⟩ rest hk
   have hp:AllDone D [11,7]:=hp
   obtain ⟨p11_,p7_,_⟩:=hp
   obtain ⟨p10_,_,_⟩:=(show D 11=true→AllDone D [10,7] from hcl 11 (by decide)) p11_
   obtain ⟨p9_,_,_⟩:=(show D 10=true→AllDone D [9,7] from hcl 10 (by decide)) p10_
   obtain ⟨p8_,_,_⟩:=(show D 9=true→AllDone D [8,7] from hcl 9 (by decide)) p9_
   simp only [hD,p8_,p9_,p10_,p11_,cq,oT] at ht hs
   subst ht
   refine Qab (v:=int .i64 (i64w a1.Qag)) rfl rfl rfl (g_d rfl ?_)
   try dsimp only [Qah,Qai]
   refine hk _ _ ⟨O,?_,hs.cast ?_⟩<;>simp only [oT,lq,cq,Nat.reduceBEq,p8_,p9_,p10_,p11_]
  ·
   rintro D t w hD hp hcl ⟨O,ht,hs⟩ rest hk
   have hp:AllDone D [7]:=hp
   obtain ⟨p7_,_⟩:=hp
   have q14_:=ny hcl 14 0 hD
   have q15_:=ny hcl 15 0 q14_
   have q16_:=ny hcl 16 0 q15_
   have q17_:=ny hcl 17 0 q16_
   simp only [hD,q14_,q15_,q16_,q17_,cq,oT] at ht hs
   subst ht
   refine Qab (v:=pointer (some ⟨b2,0,none⟩)) rfl rfl rfl (g_d rfl ?_)
   try dsimp only [Qah,Qai]
   refine hk _ _ ⟨O,?_,hs.cast ?_⟩<;>simp only [oT,lq,cq,Nat.reduceBEq,q14_,q15_,q16_,q17_]
  ·
   rintro D t w hD hp hcl ⟨O,ht,hs⟩ rest hk
   have hp:AllDone D [13,7]:=hp
   obtain ⟨p13_,p7_,_⟩:=hp
   have q15_:=ny hcl 15 0 hD
   have q16_:=ny hcl 16 0 q15_
   have q17_:=ny hcl 17 0 q16_
   simp only [hD,p13_,q15_,q16_,q17_,cq,oT] at ht hs
   subst ht
   refine Qab (v:=pointer (some ⟨b2,0,none⟩)) rfl rfl rfl (g_d rfl ?_)
   try dsimp only [Qah,Qai]
   refine hk _ _ ⟨O,?_,hs.cast ?_⟩<;>simp only [oT,lq,cq,Nat.reduceBEq,p13_,q15_,q16_,q17_]
  ·
   rintro D t w hD hp hcl ⟨O,ht,hs⟩ rest hk
   have hp:AllDone D [14,7]:=hp
   obtain ⟨p14_,p7_,_⟩:=hp
   obtain ⟨p13_,_,_⟩:=(show D 14=true→AllDone D [13,7] from hcl 14 (by decide)) p14_
   have q16_:=ny hcl 16 0 hD
   have q17_:=ny hcl 17 0 q16_
   simp only [hD,p13_,p14_,q16_,q17_,cq,oT] at ht hs
   subst ht
   refine Qab (v:=pointer (some ⟨b2,0,none⟩)) rfl rfl rfl (g_d rfl ?_)
   try dsimp only [Qah,Qai]
   refine hk _ _ ⟨O,?_,hs.cast ?_⟩<;>simp only [oT,lq,cq,Nat.reduceBEq,p13_,p14_,q16_,q17_]
  ·
   rintro D t w hD hp hcl ⟨O,ht,hs⟩ rest hk
   have hp:AllDone D [15,7]:=hp
   obtain ⟨p15_,p7_,_⟩:=hp
   obtain ⟨p14_,_,_⟩:=(show D 15=true→AllDone D [14,7] from hcl 15 (by decide)) p15_
   obtain ⟨p13_,_,_⟩:=(show D 14=true→AllDone D [13,7] from hcl 14 (by decide)) p14_
   have q17_:=ny hcl 17 0 hD
   simp only [hD,p13_,p14_,p15_,q17_,cq,oT] at ht hs
   subst ht
   refine Qaw rfl rfl (v:=int .i8 a1.Qad) rfl rfl (fun _=>rfl) (cells_load (hs.box hp0) 0 1 rfl) (g_d rfl ?_)
   try dsimp only [Qah,Qai]
   refine hk _ _ ⟨O,?_,hs.cast ?_⟩<;>simp only [oT,lq,cq,Nat.reduceBEq,p13_,p14_,p15_,q17_]
  ·
   rintro D t w hD hp hcl ⟨O,ht,hs⟩ rest hk
   have hp:AllDone D [16,7]:=hp
   obtain ⟨p16_,p7_,_⟩:=hp
   obtain ⟨p15_,_,_⟩:=(show D 16=true→AllDone D [15,7] from hcl 16 (by decide)) p16_
   obtain ⟨p14_,_,_⟩:=(show D 15=true→AllDone D [14,7] from hcl 15 (by decide)) p15_
   obtain ⟨p13_,_,_⟩:=(show D 14=true→AllDone D [13,7] from hcl 14 (by decide)) p14_
   simp only [hD,p13_,p14_,p15_,p16_,cq,oT] at ht hs
   subst ht
   refine Qab (v:=int .i64 (i64w a1.Qad)) rfl rfl rfl (g_d rfl ?_)
   try dsimp only [Qah,Qai]
   refine hk _ _ ⟨O,?_,hs.cast ?_⟩<;>simp only [oT,lq,cq,Nat.reduceBEq,p13_,p14_,p15_,p16_]
  intro D t w rest hall hO9_ hI
  obtain ⟨O,ht,hs⟩:=hI
  have p8_:=hall 8 (by decide) rfl
  have p9_:=hall 9 (by decide) rfl
  have p10_:=hall 10 (by decide) rfl
  have p11_:=hall 11 (by decide) rfl
  have p12_:=hall 12 (by decide) rfl
  have p13_:=hall 13 (by decide) rfl
  have p14_:=hall 14 (by decide) rfl
  have p15_:=hall 15 (by decide) rfl
  have p16_:=hall 16 (by decide) rfl
  have p17_:=hall 17 (by decide) rfl
  simp only [p8_,p9_,p10_,p11_,p12_,p13_,p14_,p15_,p16_,p17_,cq,oT] at ht hs
  subst ht
  obtain ⟨rest,rfl,hO10_⟩:=ord_one (m:=262143) hO9_ rfl 18 (m':=524287) (by decide+kernel) rfl
  clear hO9_
  obtain ⟨r7,Hr7,H⟩:=bind_get H
  refine Qaz (args:=[int .i64 (i64w a1.Qag),int .i64 0,int .i64 (i64w a1.Qad)]) rfl rfl (QaA rfl (callFunc_enter Tryz.func73 rfl rfl) rfl) (Qch.calls (a1:=i64w a1.Qag) (a2:=0) (a3:=i64w a1.Qad) Hr7) ?_
  rintro _ w ⟨rfl,hs2⟩
  have hs:St _ [] _:=hs.call hs2
  refine g_d rfl ?_
  obtain ⟨rest,rfl,hO11_⟩:=ord_one (m:=524287) hO10_ rfl 19 (m':=1048575) (by decide+kernel) rfl
  clear hO10_
  refine Qab (v:=bool (!r7)) rfl rfl rfl (g_d rfl ?_)
  try dsimp only [Qah,Qai]
  obtain ⟨rest,rfl,hO12_⟩:=ord_one (m:=1048575) hO11_ rfl 20 (m':=2097151) (by decide+kernel) rfl
  clear hO11_
  refine QaI (B:=!r7) rfl rfl rfl ?_ ?_
  ·
   intro hb
   rw [if_neg (b_not_t hb)] at H
   refine g_d rfl ?_
   obtain ⟨rest,rfl,hO13_⟩:=ord_one (m:=2097151) hO12_ rfl 21 (m':=4194303) (by decide+kernel) rfl
   clear hO12_
   refine Qab (v:=bool true) rfl rfl rfl (g_d rfl ?_)
   obtain ⟨rest,rfl,hO14_⟩:=ord_one (m:=4194303) hO13_ rfl 22 (m':=8388607) (by decide+kernel) rfl
   clear hO13_
   refine Qae rfl rfl (g_d rfl ?_)
   obtain ⟨rest,rfl,hO15_⟩:=ord_one (m:=8388607) hO14_ rfl 23 (m':=16777215) (by decide+kernel) rfl
   clear hO14_
   refine Qae rfl rfl (g_d rfl ?_)
   obtain ⟨rest,rfl,hO16_⟩:=ord_one (m:=16777215) hO15_ rfl 24 (m':=33554431) (by decide+kernel) rfl
   clear hO15_
   refine Qae rfl rfl (g_d rfl ?_)
   obtain ⟨rest,rfl,hO17_⟩:=ord_one (m:=33554431) hO16_ rfl 25 (m':=67108863) (by decide+kernel) rfl
   clear hO16_
   refine Qae rfl rfl (g_d rfl ?_)
   try dsimp only [Qah,Qai]
   obtain ⟨rest,rfl,hO18_⟩:=ord_one (m:=67108863) hO17_ rfl 26 (m':=134217727) (by decide+kernel) rfl
   clear hO17_
   refine Qae rfl rfl (g_d rfl ?_)
   obtain ⟨rest,rfl,hO19_⟩:=ord_one (m:=134217727) hO18_ rfl 27 (m':=268435455) (by decide+kernel) rfl
   clear hO18_
   refine Qae rfl rfl (g_d rfl ?_)
   try dsimp only [Qah,Qai]
   obtain ⟨rest,rfl,hO20_⟩:=ord_one (m:=268435455) hO19_ rfl 28 (m':=536870911) (by decide+kernel) rfl
   clear hO19_
   refine Qab (v:=bool true) rfl rfl rfl (g_d rfl ?_)
   obtain rfl:=ord_end hO20_ rfl (by decide+kernel)
   refine Qac (Qaq rfl (Qaj (Qan [0] rfl ?_)))
   refine Qab (v:=bool false) rfl rfl rfl (g_d rfl ?_)
   try dsimp only [Qah,Qai]
   refine Qac ?_
   obtain rfl:=QsJ H
   refine QaB Tryz.func36 (v:=bool false) (res1 rfl rfl) ?_
   have hs:St _ [] _:=St.take (Γ':=[]) hs
   exact ⟨_,rfl,rfl,hs⟩
  intro hb
  rw [if_pos (b_not_f hb)] at H
  refine g_d rfl ?_
  obtain ⟨rest,rfl,hO21_⟩:=ord_one (m:=2097151) hO12_ rfl 21 (m':=4194303) (by decide+kernel) rfl
  clear hO12_
  refine Qab (v:=bool false) rfl rfl rfl (g_d rfl ?_)
  obtain ⟨rest,rfl,hO22_⟩:=ord_one (m:=4194303) hO21_ rfl 22 (m':=8388607) (by decide+kernel) rfl
  clear hO21_
  refine Qab (v:=pointer (some ⟨b2,0,none⟩)) rfl rfl rfl (g_d rfl ?_)
  obtain ⟨rest,rfl,hO23_⟩:=ord_one (m:=8388607) hO22_ rfl 23 (m':=16777215) (by decide+kernel) rfl
  clear hO22_
  refine Qab (v:=pointer (some ⟨b2,0,none⟩)) rfl rfl rfl (g_d rfl ?_)
  obtain ⟨rest,rfl,hO24_⟩:=ord_one (m:=16777215) hO23_ rfl 24 (m':=33554431) (by decide+kernel) rfl
  clear hO23_
  refine Qab (v:=pointer (some ⟨b2,2,none⟩)) rfl rfl rfl (g_d rfl ?_)
  obtain ⟨rest,rfl,hO25_⟩:=ord_one (m:=33554431) hO24_ rfl 25 (m':=67108863) (by decide+kernel) rfl
  clear hO24_
  refine Qaw rfl rfl (v:=v3) rfl rfl (fun _=>rfl) (cells_load (hs.box hp0) 2 1 rfl) (g_d rfl ?_)
  try dsimp only [Qah,Qai]
  obtain ⟨rest,rfl,hO26_⟩:=ord_one (m:=67108863) hO25_ rfl 26 (m':=134217727) (by decide+kernel) rfl
  clear hO25_
  refine QbC (hs.rd hr4) rfl rfl rfl rfl rfl (g_d rfl ?_)
  obtain ⟨rest,rfl,hO27_⟩:=ord_one (m:=134217727) hO26_ rfl 27 (m':=268435455) (by decide+kernel) rfl
  clear hO26_
  refine QaI (B:=decide ((a1.Qal.length:Int)>20)) rfl rfl rfl ?_ ?_
  ·
   intro hb
   rw [if_pos (b_dec_t hb)] at H
   refine g_d rfl ?_
   try dsimp only [Qah,Qai]
   obtain ⟨rest,rfl,hO28_⟩:=ord_one (m:=268435455) hO27_ rfl 28 (m':=536870911) (by decide+kernel) rfl
   clear hO27_
   refine Qab (v:=bool true) rfl rfl rfl (g_d rfl ?_)
   obtain rfl:=ord_end hO28_ rfl (by decide+kernel)
   refine Qac (Qaq rfl (Qaj (Qan [0] rfl ?_)))
   refine Qab (v:=bool false) rfl rfl rfl (g_d rfl ?_)
   try dsimp only [Qah,Qai]
   refine Qac ?_
   obtain rfl:=QsJ H
   refine QaB Tryz.func36 (v:=bool false) (res1 rfl rfl) ?_
   have hs:St _ [] _:=St.take (Γ':=[]) hs
   exact ⟨_,rfl,rfl,hs⟩
  intro hb
  rw [if_neg (b_dec_f hb)] at H
  refine g_d rfl ?_
  try dsimp only [Qah,Qai]
  obtain ⟨rest,rfl,hO29_⟩:=ord_one (m:=268435455) hO27_ rfl 28 (m':=536870911) (by decide+kernel) rfl
  clear hO27_
  refine Qab (v:=bool false) rfl rfl rfl (g_d rfl ?_)
  obtain rfl:=ord_end hO29_ rfl (by decide+kernel)
  refine Qac (Qas rfl (QaK (Qaj (Qaj (Qan [0] rfl ?_)))))
  refine Qab (v:=int .i64 0) rfl rfl rfl (g_d rfl ?_)
  try dsimp only [Qah,Qai]
  refine Qac ?_
  obtain ⟨o1_,Ho,Hr1_⟩:=bind_get H
  refine QaR (J:=fun t w=>Qbr.a0 N=some r∧Fr t (fun O=>(oT O 0 (oT O 1 (oT O 2 (oT O 3 (oT O 4 (oT O 5 (O 60::O 61::O 62::O 63::[])))))):List Value))∧St w0 [] w) ?_ ?_
  ·
   rintro t w ⟨H,hf,hs⟩
   obtain ⟨O,rfl⟩:=hf.open
   try dsimp only [oT]
   unfold Qbr.a0 at H
   refine Qaj (Qan [0] rfl ?_)
   refine Qab (v:=bool true) rfl rfl rfl (g_d rfl ?_)
   try dsimp only [Qah,Qai]
   refine Qac ?_
   obtain rfl:=QsJ H
   refine QaB Tryz.func36 (v:=bool true) (res1 rfl rfl) ?_
   have hs:St _ [] _:=St.take (Γ':=[]) hs
   exact ⟨_,rfl,rfl,hs⟩
  intro ha1_
  have hs:St _ [] _:=St.take (Γ':=[]) hs
  refine Qba (I:=fun n_ t w=>∃ x8:Int,rounds (fun s=>Qbr.b0 N a1 s) n_ x8=some o1_∧Fr t (fun O=>(pointer (some ⟨b2,0,none⟩)::O 1::O 2::int .i64 x8::O 4::O 5::O 6::O 7::O 8::O 9::oT O 1 (oT O 2 (oT O 3 (oT O 4 (oT O 5 (O 60::O 61::O 62::O 63::[]))))):List Value))∧St w0 [] w) N ⟨0,Ho,rfl,hs⟩ ?_ ?_
  ·
   rintro _ _ ⟨x8,h,_⟩
   exact rounds_zero h
  intro n_ ih1_
  rintro t w ⟨x8,Ho,hf,hs⟩
  obtain ⟨O,rfl⟩:=hf.open
  try dsimp only [oT]
  obtain ⟨x51_,H,Hx1_⟩:=rounds_succ Ho
  have H:Qbr.b0 N a1 x8=some x51_:=H
  unfold Qbr.b0 at H
  refine Qaj (Qaj (Qan [0,1,2,3,4,5,6] rfl ?_))
  refine Qab (v:=int .i64 x8) rfl rfl rfl (g_d rfl ?_)
  refine Qab (v:=pointer (some ⟨b2,0,none⟩)) rfl rfl rfl (g_d rfl ?_)
  refine Qab (v:=pointer (some ⟨b2,0,none⟩)) rfl rfl rfl (g_d rfl ?_)
  refine Qab (v:=pointer (some ⟨b2,2,none⟩)) rfl rfl rfl (g_d rfl ?_)
  refine Qaw rfl rfl (v:=v3) rfl rfl (fun _=>rfl) (cells_load (hs.box hp0) 2 1 rfl) (g_d rfl ?_)
  refine QbC (hs.rd hr4) rfl rfl rfl rfl rfl (g_d rfl ?_)
  try dsimp only [Qah,Qai]
  refine QaI (B:=decide (x8< (a1.Qal.length:Int))) rfl rfl rfl ?_ ?_
  ·
   intro hb
   rw [if_pos (b_dec_t hb)] at H
   refine g_d rfl ?_
   try dsimp only [Qah,Qai]
   refine Qac (Qaq rfl (QaK (Qaj ?_)))
   refine QbG (Qaj ?_)
   refine Qck (n:=22) rfl [0,1,2,3,4,5,6,7,8,9,10,11,12,13,14,15,16,17,18,19,20,21] [0,1,2,3,4,5,6,7,8,9,10,11,12,13,14,15,16,17,18,19,20,21] rfl rfl ?_
   intro rest w hh hbw hO
   have hs:=hs.samew hh hbw
   try dsimp only [Qah,Qai]
   obtain ⟨gd31,H⟩:=ite_get H
   obtain ⟨ad32_,ad32_N,ad32_C,had32_⟩:=sl_at (hs.rd hr4) gd31.1 gd31.2
   obtain ⟨r9,Hr9,H⟩:=bind_get H
   refine QaV ?_
   intro T hT
   refine Qbb (m0:=0) hO rfl 511 [0,1,2,3,4,5,6,7,8] [0,1,3,7,0,31,63,0,128,511,1023,2047,4095,8191,16383,32767,4095,131071,262143,524287,1048575,2097151] (by decide+kernel) (fun D t w=>∃ O:Nat→Value,t=(pointer (some ⟨b2,0,none⟩)::O 1::O 2::int .i64 x8::O 4::O 5::O 6::O 7::O 8::O 9::oT O 1 (oT O 2 (O 30::O 31::O 32::int .i64 x8::pointer (some ⟨b2,0,none⟩)::pointer (some ⟨b2,0,none⟩)::pointer (some ⟨b2,2,none⟩)::v3::int .i64 (a1.Qal.length:Int)::bool true::O 40::O 41::cnd (D 0) (pointer (some ⟨b2,0,none⟩)) (O 42)::cnd (D 1) (pointer (some ⟨b2,0,none⟩)) (O 43)::cnd (D 2) (pointer (some ⟨b2,2,none⟩)) (O 44)::cnd (D 3) v3 (O 45)::cnd (D 4) (int .i64 x8) (O 46)::cnd (D 5) (pointer (some (ad32_.add (x8.toNat*1)))) (O 47)::cnd (D 6) (int .u16 (rdL a1.Qal x8 0)) (O 48)::cnd (D 7) (pointer (some ⟨b2,0,none⟩)) (O 49)::cnd (D 8) (int .u16 r9) (O 50)::O 51::O 52::O 53::O 54::O 55::O 56::O 57::O 58::O 59::O 60::O 61::O 62::O 63::[])))∧St w0 [] w) ?_ ⟨?_,⟨?_,⟨?_,⟨?_,⟨?_,⟨?_,⟨?_,⟨?_,⟨?_,trivial⟩⟩⟩⟩⟩⟩⟩⟩⟩ ?_
   ·exact ⟨fun i=>T.getD i undef,(by subst hT;rfl),hs⟩
   ·
    rintro D t w hD hp hcl ⟨O,ht,hs⟩ rest hk
    have hp:AllDone D []:=hp
    have q1_:=ny hcl 1 0 hD
    have q2_:=ny hcl 2 0 q1_
    have q3_:=ny hcl 3 0 q2_
    have q5_:=ny hcl 5 0 q3_
    have q6_:=ny hcl 6 0 q5_
    simp only [hD,q1_,q2_,q3_,q5_,q6_,cq,oT] at ht hs
    subst ht
    refine Qab (v:=pointer (some ⟨b2,0,none⟩)) rfl rfl rfl (g_d rfl ?_)
    try dsimp only [Qah,Qai]
    refine hk _ _ ⟨O,?_,hs.cast ?_⟩<;>simp only [oT,lq,cq,Nat.reduceBEq,q1_,q2_,q3_,q5_,q6_]
   ·
    rintro D t w hD hp hcl ⟨O,ht,hs⟩ rest hk
    have hp:AllDone D [0]:=hp
    obtain ⟨p0_,_⟩:=hp
    have q2_:=ny hcl 2 0 hD
    have q3_:=ny hcl 3 0 q2_
    have q5_:=ny hcl 5 0 q3_
    have q6_:=ny hcl 6 0 q5_
    simp only [hD,p0_,q2_,q3_,q5_,q6_,cq,oT] at ht hs
    subst ht
    refine Qab (v:=pointer (some ⟨b2,0,none⟩)) rfl rfl rfl (g_d rfl ?_)
    try dsimp only [Qah,Qai]
    refine hk _ _ ⟨O,?_,hs.cast ?_⟩<;>simp only [oT,lq,cq,Nat.reduceBEq,p0_,q2_,q3_,q5_,q6_]
   ·
    rintro D t w hD hp hcl ⟨O,ht,hs⟩ rest hk
    have hp:AllDone D [1]:=hp
    obtain ⟨p1_,_⟩:=hp
    obtain ⟨p0_,_⟩:=(show D 1=true→AllDone D [0] from hcl 1 (by decide)) p1_
    have q3_:=ny hcl 3 0 hD
    have q5_:=ny hcl 5 0 q3_
    have q6_:=ny hcl 6 0 q5_
    simp only [hD,p0_,p1_,q3_,q5_,q6_,cq,oT] at ht hs
    subst ht
    refine Qab (v:=pointer (some ⟨b2,2,none⟩)) rfl rfl rfl (g_d rfl ?_)
    try dsimp only [Qah,Qai]
    refine hk _ _ ⟨O,?_,hs.cast ?_⟩<;>simp only [oT,lq,cq,Nat.reduceBEq,p0_,p1_,q3_,q5_,q6_]
   ·
    rintro D t w hD hp hcl ⟨O,ht,hs⟩ rest hk
    have hp:AllDone D [2]:=hp
    obtain ⟨p2_,_⟩:=hp
    obtain ⟨p1_,_⟩:=(show D 2=true→AllDone D [1] from hcl 2 (by decide)) p2_
    obtain ⟨p0_,_⟩:=(show D 1=true→AllDone D [0] from hcl 1 (by decide)) p1_
    have q5_:=ny hcl 5 0 hD
    have q6_:=ny hcl 6 0 q5_
    simp only [hD,p0_,p1_,p2_,q5_,q6_,cq,oT] at ht hs
    subst ht
    refine Qaw rfl rfl (v:=v3) rfl rfl (fun _=>rfl) (cells_load (hs.box hp0) 2 1 rfl) (g_d rfl ?_)
    try dsimp only [Qah,Qai]
    refine hk _ _ ⟨O,?_,hs.cast ?_⟩<;>simp only [oT,lq,cq,Nat.reduceBEq,p0_,p1_,p2_,q5_,q6_]
   ·
    rintro D t w hD hp hcl ⟨O,ht,hs⟩ rest hk
    have hp:AllDone D []:=hp
    have q5_:=ny hcl 5 1 hD
    have q6_:=ny hcl 6 0 q5_
    simp only [hD,q5_,q6_,cq,oT] at ht hs
    subst ht
    refine Qab (v:=int .i64 x8) rfl rfl rfl (g_d rfl ?_)
    try dsimp only [Qah,Qai]
    refine hk _ _ ⟨O,?_,hs.cast ?_⟩<;>simp only [oT,lq,cq,Nat.reduceBEq,q5_,q6_]
   ·
    rintro D t w hD hp hcl ⟨O,ht,hs⟩ rest hk
    have hp:AllDone D [3,4]:=hp
    obtain ⟨p3_,p4_,_⟩:=hp
    obtain ⟨p2_,_⟩:=(show D 3=true→AllDone D [2] from hcl 3 (by decide)) p3_
    obtain ⟨p1_,_⟩:=(show D 2=true→AllDone D [1] from hcl 2 (by decide)) p2_
    obtain ⟨p0_,_⟩:=(show D 1=true→AllDone D [0] from hcl 1 (by decide)) p1_
    have q6_:=ny hcl 6 0 hD
    simp only [hD,p0_,p1_,p2_,p3_,p4_,q6_,cq,oT] at ht hs
    subst ht
    refine QbJ (κ:=(K.int .u16)) (m:=1) rfl (hs.rd hr4) rfl (fun _=>rfl) gd31.1 gd31.2 had32_ rfl rfl rfl rfl rfl (g_d rfl ?_)
    try dsimp only [Qah,Qai]
    refine hk _ _ ⟨O,?_,hs.cast ?_⟩<;>simp only [oT,lq,cq,Nat.reduceBEq,p0_,p1_,p2_,p3_,p4_,q6_]
   ·
    rintro D t w hD hp hcl ⟨O,ht,hs⟩ rest hk
    have hp:AllDone D [5]:=hp
    obtain ⟨p5_,_⟩:=hp
    obtain ⟨p3_,p4_,_⟩:=(show D 5=true→AllDone D [3,4] from hcl 5 (by decide)) p5_
    obtain ⟨p2_,_⟩:=(show D 3=true→AllDone D [2] from hcl 3 (by decide)) p3_
    obtain ⟨p1_,_⟩:=(show D 2=true→AllDone D [1] from hcl 2 (by decide)) p2_
    obtain ⟨p0_,_⟩:=(show D 1=true→AllDone D [0] from hcl 1 (by decide)) p1_
    simp only [hD,p0_,p1_,p2_,p3_,p4_,p5_,cq,oT] at ht hs
    subst ht
    refine Qaw rfl rfl (v:=int .u16 (rdL a1.Qal x8 0)) rfl rfl (fun _=>rfl) (cellsAt_of (fkI .u16) 0 (hs.rd hr4) had32_ gd31.1 gd31.2) (g_d rfl ?_)
    try dsimp only [Qah,Qai]
    refine hk _ _ ⟨O,?_,hs.cast ?_⟩<;>simp only [oT,lq,cq,Nat.reduceBEq,p0_,p1_,p2_,p3_,p4_,p5_]
   ·
    rintro D t w hD hp hcl ⟨O,ht,hs⟩ rest hk
    have hp:AllDone D []:=hp
    have q8_:=ny hcl 8 0 hD
    simp only [hD,q8_,cq,oT] at ht hs
    subst ht
    refine Qab (v:=pointer (some ⟨b2,0,none⟩)) rfl rfl rfl (g_d rfl ?_)
    try dsimp only [Qah,Qai]
    refine hk _ _ ⟨O,?_,hs.cast ?_⟩<;>simp only [oT,lq,cq,Nat.reduceBEq,q8_]
   ·
    rintro D t w hD hp hcl ⟨O,ht,hs⟩ rest hk
    have hp:AllDone D [7]:=hp
    obtain ⟨p7_,_⟩:=hp
    simp only [hD,p7_,cq,oT] at ht hs
    subst ht
    refine Qaz (args:=[pointer (some ⟨b2,0,none⟩)]) rfl rfl (QaA rfl (callFunc_enter Tryz.func74 rfl rfl) rfl) (Qbp.calls (a1:=(⟨a1.Qad,a1.Qag,a1.Qal⟩:Qaf)) (hs.rd hr4) (hs.box hp0) Hr9) ?_
    rintro _ w ⟨rfl,hs2⟩
    have hs:St _ [] _:=hs.call hs2
    refine g_d rfl ?_
    try dsimp only [Qah,Qai]
    refine hk _ _ ⟨O,?_,hs.cast ?_⟩<;>simp only [oT,lq,cq,Nat.reduceBEq,p7_]
   intro D t w rest hall hO30_ hI
   obtain ⟨O,ht,hs⟩:=hI
   have p0_:=hall 0 (by decide) rfl
   have p1_:=hall 1 (by decide) rfl
   have p2_:=hall 2 (by decide) rfl
   have p3_:=hall 3 (by decide) rfl
   have p4_:=hall 4 (by decide) rfl
   have p5_:=hall 5 (by decide) rfl
   have p6_:=hall 6 (by decide) rfl
   have p7_:=hall 7 (by decide) rfl
   have p8_:=hall 8 (by decide) rfl
   simp only [p0_,p1_,p2_,p3_,p4_,p5_,p6_,p7_,p8_,cq,oT] at ht hs
   subst ht
   obtain ⟨rest,rfl,hO33_⟩:=ord_one (m:=511) hO30_ rfl 9 (m':=1023) (by decide+kernel) rfl
   clear hO30_
   refine Qab (v:=int .u16 (bAndNot .u16 (rdL a1.Qal x8 0) r9)) rfl rfl rfl (g_d rfl ?_)
   obtain ⟨rest,rfl,hO34_⟩:=ord_one (m:=1023) hO33_ rfl 10 (m':=2047) (by decide+kernel) rfl
   clear hO33_
   refine QaI (B:=(bAndNot .u16 (rdL a1.Qal x8 0) r9) !=0) rfl rfl rfl ?_ ?_
   ·
    intro hb
    rw [if_neg (b_bne_t hb)] at H
    refine g_d rfl ?_
    obtain ⟨rest,rfl,hO35_⟩:=ord_one (m:=2047) hO34_ rfl 11 (m':=4095) (by decide+kernel) rfl
    clear hO34_
    refine Qab (v:=bool true) rfl rfl rfl (g_d rfl ?_)
    refine QaV ?_
    intro T hT
    refine Qbb (m0:=4095) hO35_ rfl 131071 [12,13,14,15,16] [0,1,3,7,0,31,63,0,128,511,1023,2047,4095,8191,16383,32767,4095,131071,262143,524287,1048575,2097151] (by decide+kernel) (fun D t w=>∃ O:Nat→Value,t=(pointer (some ⟨b2,0,none⟩)::O 1::O 2::int .i64 x8::O 4::O 5::O 6::O 7::O 8::O 9::oT O 1 (oT O 2 (O 30::O 31::O 32::int .i64 x8::pointer (some ⟨b2,0,none⟩)::pointer (some ⟨b2,0,none⟩)::pointer (some ⟨b2,2,none⟩)::v3::int .i64 (a1.Qal.length:Int)::bool true::O 40::O 41::pointer (some ⟨b2,0,none⟩)::pointer (some ⟨b2,0,none⟩)::pointer (some ⟨b2,2,none⟩)::v3::int .i64 x8::pointer (some (ad32_.add (x8.toNat*1)))::int .u16 (rdL a1.Qal x8 0)::pointer (some ⟨b2,0,none⟩)::int .u16 r9::int .u16 (bAndNot .u16 (rdL a1.Qal x8 0) r9)::bool true::bool true::cnd (D 12) undef (O 54)::cnd (D 13) undef (O 55)::cnd (D 14) undef (O 56)::cnd (D 15) undef (O 57)::cnd (D 16) undef (O 58)::O 59::O 60::O 61::O 62::O 63::[])))∧St w0 [] w) ?_ ⟨?_,⟨?_,⟨?_,⟨?_,⟨?_,trivial⟩⟩⟩⟩⟩ ?_
    ·exact ⟨fun i=>T.getD i undef,(by subst hT;rfl),hs⟩
    ·
     rintro D t w hD hp hcl ⟨O,ht,hs⟩ rest hk
     have hp:AllDone D [11]:=hp
     obtain ⟨p11_,_⟩:=hp
     have q13_:=ny hcl 13 0 hD
     have q14_:=ny hcl 14 0 q13_
     have q15_:=ny hcl 15 0 q14_
     simp only [hD,q13_,q14_,q15_,cq,oT] at ht hs
     subst ht
     refine Qae rfl rfl (g_d rfl ?_)
     try dsimp only [Qah,Qai]
     refine hk _ _ ⟨O,?_,hs.cast ?_⟩<;>simp only [oT,cq,Nat.reduceBEq,q13_,q14_,q15_]
    ·
     rintro D t w hD hp hcl ⟨O,ht,hs⟩ rest hk
     have hp:AllDone D [12,11]:=hp
     obtain ⟨p12_,p11_,_⟩:=hp
     have q14_:=ny hcl 14 0 hD
     have q15_:=ny hcl 15 0 q14_
     simp only [hD,p12_,q14_,q15_,cq,oT] at ht hs
     subst ht
     refine Qae rfl rfl (g_d rfl ?_)
     try dsimp only [Qah,Qai]
     refine hk _ _ ⟨O,?_,hs.cast ?_⟩<;>simp only [oT,cq,Nat.reduceBEq,p12_,q14_,q15_]
    ·
     rintro D t w hD hp hcl ⟨O,ht,hs⟩ rest hk
     have hp:AllDone D [13,11]:=hp
     obtain ⟨p13_,p11_,_⟩:=hp
     obtain ⟨p12_,_,_⟩:=(show D 13=true→AllDone D [12,11] from hcl 13 (by decide)) p13_
     have q15_:=ny hcl 15 0 hD
     simp only [hD,p12_,p13_,q15_,cq,oT] at ht hs
     subst ht
     refine Qae rfl rfl (g_d rfl ?_)
     try dsimp only [Qah,Qai]
     refine hk _ _ ⟨O,?_,hs.cast ?_⟩<;>simp only [oT,cq,Nat.reduceBEq,p12_,p13_,q15_]
    ·
     rintro D t w hD hp hcl ⟨O,ht,hs⟩ rest hk
     have hp:AllDone D [14,11]:=hp
     obtain ⟨p14_,p11_,_⟩:=hp
     obtain ⟨p13_,_,_⟩:=(show D 14=true→AllDone D [13,11] from hcl 14 (by decide)) p14_
     obtain ⟨p12_,_,_⟩:=(show D 13=true→AllDone D [12,11] from hcl 13 (by decide)) p13_
     simp only [hD,p12_,p13_,p14_,cq,oT] at ht hs
     subst ht
     refine Qae rfl rfl (g_d rfl ?_)
     try dsimp only [Qah,Qai]
     refine hk _ _ ⟨O,?_,hs.cast ?_⟩<;>simp only [oT,cq,Nat.reduceBEq,p12_,p13_,p14_]
    ·
     rintro D t w hD hp hcl ⟨O,ht,hs⟩ rest hk
     have hp:AllDone D [11]:=hp
     obtain ⟨p11_,_⟩:=hp
     simp only [hD,cq,oT] at ht hs
     subst ht
     refine Qae rfl rfl (g_d rfl ?_)
     try dsimp only [Qah,Qai]
     refine hk _ _ ⟨O,?_,hs.cast ?_⟩<;>simp only [oT,cq,Nat.reduceBEq]
    intro D t w rest hall hO36_ hI
    obtain ⟨O,ht,hs⟩:=hI
    have p12_:=hall 12 (by decide) rfl
    have p13_:=hall 13 (by decide) rfl
    have p14_:=hall 14 (by decide) rfl
    have p15_:=hall 15 (by decide) rfl
    have p16_:=hall 16 (by decide) rfl
    simp only [p12_,p13_,p14_,p15_,p16_,cq,oT] at ht hs
    subst ht
    obtain ⟨rest,rfl,hO37_⟩:=ord_one (m:=131071) hO36_ rfl 17 (m':=262143) (by decide+kernel) rfl
    clear hO36_
    refine Qae rfl rfl (g_d rfl ?_)
    try dsimp only [Qah,Qai]
    obtain ⟨rest,rfl,hO38_⟩:=ord_one (m:=262143) hO37_ rfl 18 (m':=524287) (by decide+kernel) rfl
    clear hO37_
    refine Qae rfl rfl (g_d rfl ?_)
    obtain ⟨rest,rfl,hO39_⟩:=ord_one (m:=524287) hO38_ rfl 19 (m':=1048575) (by decide+kernel) rfl
    clear hO38_
    refine Qae rfl rfl (g_d rfl ?_)
    try dsimp only [Qah,Qai]
    obtain ⟨rest,rfl,hO40_⟩:=ord_one (m:=1048575) hO39_ rfl 20 (m':=2097151) (by decide+kernel) rfl
    clear hO39_
    refine Qae rfl rfl (g_d rfl ?_)
    obtain ⟨rest,rfl,hO41_⟩:=ord_one (m:=2097151) hO40_ rfl 21 (m':=4194303) (by decide+kernel) rfl
    clear hO40_
    refine Qab (v:=bool true) rfl rfl rfl (g_d rfl ?_)
    try dsimp only [Qah,Qai]
    obtain rfl:=ord_end hO41_ rfl (by decide+kernel)
    refine Qac (Qaq rfl (Qaj (Qan [0] rfl ?_)))
    refine Qab (v:=bool false) rfl rfl rfl (g_d rfl (Qac ?_))
    obtain rfl:=QsJ H
    subst Hx1_
    have H:=QsJ Hr1_
    subst H
    refine QaB Tryz.func36 (v:=bool false) (res1 rfl rfl) ?_
    have hs:St _ [] _:=St.take (Γ':=[]) hs
    exact ⟨_,rfl,rfl,hs⟩
   intro hb
   rw [if_pos (b_bne_f hb)] at H
   refine g_d rfl ?_
   try dsimp only [Qah,Qai]
   obtain ⟨rest,rfl,hO42_⟩:=ord_one (m:=2047) hO34_ rfl 11 (m':=4095) (by decide+kernel) rfl
   clear hO34_
   refine Qab (v:=bool false) rfl rfl rfl (g_d rfl ?_)
   refine QaV ?_
   intro T hT
   refine Qbb (m0:=4095) hO42_ rfl 131071 [12,13,14,15,16] [0,1,3,7,0,31,63,0,128,511,1023,2047,4095,8191,16383,32767,4095,131071,262143,524287,1048575,2097151] (by decide+kernel) (fun D t w=>∃ O:Nat→Value,t=(pointer (some ⟨b2,0,none⟩)::O 1::O 2::int .i64 x8::O 4::O 5::O 6::O 7::O 8::O 9::oT O 1 (oT O 2 (O 30::O 31::O 32::int .i64 x8::pointer (some ⟨b2,0,none⟩)::pointer (some ⟨b2,0,none⟩)::pointer (some ⟨b2,2,none⟩)::v3::int .i64 (a1.Qal.length:Int)::bool true::O 40::O 41::pointer (some ⟨b2,0,none⟩)::pointer (some ⟨b2,0,none⟩)::pointer (some ⟨b2,2,none⟩)::v3::int .i64 x8::pointer (some (ad32_.add (x8.toNat*1)))::int .u16 (rdL a1.Qal x8 0)::pointer (some ⟨b2,0,none⟩)::int .u16 r9::int .u16 (bAndNot .u16 (rdL a1.Qal x8 0) r9)::bool false::bool false::cnd (D 12) (pointer (some ⟨b2,0,none⟩)) (O 54)::cnd (D 13) (pointer (some ⟨b2,0,none⟩)) (O 55)::cnd (D 14) (pointer (some ⟨b2,2,none⟩)) (O 56)::cnd (D 15) v3 (O 57)::cnd (D 16) (int .i64 x8) (O 58)::O 59::O 60::O 61::O 62::O 63::[])))∧St w0 [] w) ?_ ⟨?_,⟨?_,⟨?_,⟨?_,⟨?_,trivial⟩⟩⟩⟩⟩ ?_
   ·exact ⟨fun i=>T.getD i undef,(by subst hT;rfl),hs⟩
   ·
    rintro D t w hD hp hcl ⟨O,ht,hs⟩ rest hk
    have hp:AllDone D [11]:=hp
    obtain ⟨p11_,_⟩:=hp
    have q13_:=ny hcl 13 0 hD
    have q14_:=ny hcl 14 0 q13_
    have q15_:=ny hcl 15 0 q14_
    simp only [hD,q13_,q14_,q15_,cq,oT] at ht hs
    subst ht
    refine Qab (v:=pointer (some ⟨b2,0,none⟩)) rfl rfl rfl (g_d rfl ?_)
    try dsimp only [Qah,Qai]
    refine hk _ _ ⟨O,?_,hs.cast ?_⟩<;>simp only [oT,lq,cq,Nat.reduceBEq,q13_,q14_,q15_]
   ·
    rintro D t w hD hp hcl ⟨O,ht,hs⟩ rest hk
    have hp:AllDone D [12,11]:=hp
    obtain ⟨p12_,p11_,_⟩:=hp
    have q14_:=ny hcl 14 0 hD
    have q15_:=ny hcl 15 0 q14_
    simp only [hD,p12_,q14_,q15_,cq,oT] at ht hs
    subst ht
    refine Qab (v:=pointer (some ⟨b2,0,none⟩)) rfl rfl rfl (g_d rfl ?_)
    try dsimp only [Qah,Qai]
    refine hk _ _ ⟨O,?_,hs.cast ?_⟩<;>simp only [oT,lq,cq,Nat.reduceBEq,p12_,q14_,q15_]
   ·
    rintro D t w hD hp hcl ⟨O,ht,hs⟩ rest hk
    have hp:AllDone D [13,11]:=hp
    obtain ⟨p13_,p11_,_⟩:=hp
    obtain ⟨p12_,_,_⟩:=(show D 13=true→AllDone D [12,11] from hcl 13 (by decide)) p13_
    have q15_:=ny hcl 15 0 hD
    simp only [hD,p12_,p13_,q15_,cq,oT] at ht hs
    subst ht
    refine Qab (v:=pointer (some ⟨b2,2,none⟩)) rfl rfl rfl (g_d rfl ?_)
    try dsimp only [Qah,Qai]
    refine hk _ _ ⟨O,?_,hs.cast ?_⟩<;>simp only [oT,lq,cq,Nat.reduceBEq,p12_,p13_,q15_]
   ·
    rintro D t w hD hp hcl ⟨O,ht,hs⟩ rest hk
    have hp:AllDone D [14,11]:=hp
    obtain ⟨p14_,p11_,_⟩:=hp
    obtain ⟨p13_,_,_⟩:=(show D 14=true→AllDone D [13,11] from hcl 14 (by decide)) p14_
    obtain ⟨p12_,_,_⟩:=(show D 13=true→AllDone D [12,11] from hcl 13 (by decide)) p13_
    simp only [hD,p12_,p13_,p14_,cq,oT] at ht hs
    subst ht
    refine Qaw rfl rfl (v:=v3) rfl rfl (fun _=>rfl) (cells_load (hs.box hp0) 2 1 rfl) (g_d rfl ?_)
    try dsimp only [Qah,Qai]
    refine hk _ _ ⟨O,?_,hs.cast ?_⟩<;>simp only [oT,lq,cq,Nat.reduceBEq,p12_,p13_,p14_]
   ·
    rintro D t w hD hp hcl ⟨O,ht,hs⟩ rest hk
    have hp:AllDone D [11]:=hp
    obtain ⟨p11_,_⟩:=hp
    simp only [hD,cq,oT] at ht hs
    subst ht
    refine Qab (v:=int .i64 x8) rfl rfl rfl (g_d rfl ?_)
    try dsimp only [Qah,Qai]
    refine hk _ _ ⟨O,?_,hs.cast ?_⟩<;>simp only [oT,lq,cq,Nat.reduceBEq]
   intro D t w rest hall hO43_ hI
   obtain ⟨O,ht,hs⟩:=hI
   have p12_:=hall 12 (by decide) rfl
   have p13_:=hall 13 (by decide) rfl
   have p14_:=hall 14 (by decide) rfl
   have p15_:=hall 15 (by decide) rfl
   have p16_:=hall 16 (by decide) rfl
   simp only [p12_,p13_,p14_,p15_,p16_,cq,oT] at ht hs
   subst ht
   obtain ⟨rest,rfl,hO44_⟩:=ord_one (m:=131071) hO43_ rfl 17 (m':=262143) (by decide+kernel) rfl
   clear hO43_
   obtain ⟨g45,H⟩:=ite_get H
   refine QbQ (fkI .u16) 0 (hs.rd hr4) rfl (fun _=>rfl) g45.1 g45.2 rfl rfl rfl rfl rfl ?_
   intro p10 hp10 lp10 op10
   refine g_d rfl ?_
   obtain ⟨rest,rfl,hO46_⟩:=ord_one (m:=262143) hO44_ rfl 18 (m':=524287) (by decide+kernel) rfl
   clear hO44_
   refine Qaw rfl rfl (v:=int .u16 (rdL a1.Qal x8 0)) rfl rfl (fun _=>rfl) hp10 (g_d rfl ?_)
   try dsimp only [Qah,Qai]
   obtain ⟨rest,rfl,hO47_⟩:=ord_one (m:=524287) hO46_ rfl 19 (m':=1048575) (by decide+kernel) rfl
   clear hO46_
   obtain ⟨r11,Hr11,H⟩:=bind_get H
   refine Qaz (args:=[int .u16 (rdL a1.Qal x8 0)]) rfl rfl (QaA rfl (callFunc_enter Tryz.func61 rfl rfl) rfl) (Qbk.calls (a1:=rdL a1.Qal x8 0) Hr11) ?_
   rintro _ w ⟨rfl,hs2⟩
   have hs:St _ [] _:=hs.call hs2
   refine g_d rfl ?_
   obtain ⟨rest,rfl,hO48_⟩:=ord_one (m:=1048575) hO47_ rfl 20 (m':=2097151) (by decide+kernel) rfl
   clear hO47_
   refine QaI (B:=decide (r11< 2)) rfl rfl rfl ?_ ?_
   ·
    intro hb
    rw [if_pos (b_dec_t hb)] at H
    refine g_d rfl ?_
    try dsimp only [Qah,Qai]
    obtain ⟨rest,rfl,hO49_⟩:=ord_one (m:=2097151) hO48_ rfl 21 (m':=4194303) (by decide+kernel) rfl
    clear hO48_
    refine Qab (v:=bool true) rfl rfl rfl (g_d rfl ?_)
    obtain rfl:=ord_end hO49_ rfl (by decide+kernel)
    refine Qac (Qaq rfl (Qaj (Qan [0] rfl ?_)))
    refine Qab (v:=bool false) rfl rfl rfl (g_d rfl ?_)
    try dsimp only [Qah,Qai]
    refine Qac ?_
    obtain rfl:=QsJ H
    subst Hx1_
    have H:=QsJ Hr1_
    subst H
    refine QaB Tryz.func36 (v:=bool false) (res1 rfl rfl) ?_
    have hs:St _ [] _:=St.take (Γ':=[]) hs
    exact ⟨_,rfl,rfl,hs⟩
   intro hb
   rw [if_neg (b_dec_f hb)] at H
   refine g_d rfl ?_
   try dsimp only [Qah,Qai]
   obtain ⟨rest,rfl,hO50_⟩:=ord_one (m:=2097151) hO48_ rfl 21 (m':=4194303) (by decide+kernel) rfl
   clear hO48_
   refine Qab (v:=bool false) rfl rfl rfl (g_d rfl ?_)
   obtain rfl:=ord_end hO50_ rfl (by decide+kernel)
   refine Qac (Qas rfl (QaK ?_))
   refine Qa0 (Qan [0,1,2] rfl ?_)
   refine Qab (v:=int .i64 x8) rfl rfl rfl (g_d rfl ?_)
   refine Qab (v:=int .i64 (i64w (x8+1))) rfl rfl rfl (g_d rfl ?_)
   try dsimp only [Qah,Qai]
   refine Qab (v:=int .i64 (i64w (x8+1))) rfl rfl rfl (g_d rfl (Qac ?_))
   obtain rfl:=QsJ H
   have hs:St _ [] _:=St.take (Γ':=[]) hs
   exact ih1_ _ _ ⟨i64w (x8+1),Hx1_,rfl,hs⟩
  intro hb
  rw [if_neg (b_dec_f hb)] at H
  refine g_d rfl (Qac (Qas rfl ?_))
  obtain rfl:=QsJ H
  subst Hx1_
  have hs:St _ [] _:=St.take (Γ':=[]) hs
  refine QbE rfl ?_
  exact ha1_ _ _ ⟨Hr1_,rfl,hs⟩
 |false=>
  rw [if_neg Bool.false_ne_true] at H
  refine g_d rfl ?_
  try dsimp only [Qah,Qai]
  obtain ⟨rest,rfl,hO52_⟩:=ord_one (m:=63) hO6_ rfl 6 (m':=127) (by decide+kernel) rfl
  clear hO6_
  refine Qab (v:=bool true) rfl rfl rfl (g_d rfl ?_)
  obtain ⟨rest,rfl,hO53_⟩:=ord_one (m:=127) hO52_ rfl 7 (m':=255) (by decide+kernel) rfl
  clear hO52_
  refine Qab (v:=bool true) rfl rfl rfl (g_d rfl ?_)
  refine QaV ?_
  intro T hT
  refine Qbb (m0:=255) hO53_ rfl 262143 [8,9,10,11,12,13,14,15,16,17] [0,1,3,7,15,31,63,127,255,511,1023,2047,4095,255,8447,24831,57599,123135,262143,524287,1048575,2097151,4194303,8388607,16777215,33554431,67108863,134217727,268435455] (by decide+kernel) (fun D t w=>∃ O:Nat→Value,t=(pointer (some ⟨b2,0,none⟩)::O 1::bool false::O 3::pointer (some ⟨b2,0,none⟩)::pointer (some ⟨b2,0,none⟩)::pointer (some ⟨b2,0,none⟩)::int .i8 a1.Qad::int .i64 (i64w a1.Qad)::bool false::bool true::bool true::cnd (D 8) undef (O 12)::cnd (D 9) undef (O 13)::cnd (D 10) undef (O 14)::cnd (D 11) undef (O 15)::cnd (D 12) undef (O 16)::cnd (D 13) undef (O 17)::cnd (D 14) undef (O 18)::cnd (D 15) undef (O 19)::cnd (D 16) undef (O 20)::cnd (D 17) undef (O 21)::O 22::O 23::O 24::O 25::O 26::O 27::O 28::O 29::oT O 3 (oT O 4 (oT O 5 (O 60::O 61::O 62::O 63::[]))))∧St w0 [] w) ?_ ⟨?_,⟨?_,⟨?_,⟨?_,⟨?_,⟨?_,⟨?_,⟨?_,⟨?_,⟨?_,trivial⟩⟩⟩⟩⟩⟩⟩⟩⟩⟩ ?_
  ·exact ⟨fun i=>T.getD i undef,(by subst hT;rfl),hs⟩
  ·
   rintro D t w hD hp hcl ⟨O,ht,hs⟩ rest hk
   have hp:AllDone D [7]:=hp
   obtain ⟨p7_,_⟩:=hp
   have q9_:=ny hcl 9 0 hD
   have q10_:=ny hcl 10 0 q9_
   have q11_:=ny hcl 11 0 q10_
   have q12_:=ny hcl 12 0 q11_
   simp only [hD,q9_,q10_,q11_,q12_,cq,oT] at ht hs
   subst ht
   refine Qae rfl rfl (g_d rfl ?_)
   try dsimp only [Qah,Qai]
   refine hk _ _ ⟨O,?_,hs.cast ?_⟩<;>simp only [oT,cq,Nat.reduceBEq,q9_,q10_,q11_,q12_]
  ·
   rintro D t w hD hp hcl ⟨O,ht,hs⟩ rest hk
   have hp:AllDone D [8,7]:=hp
   obtain ⟨p8_,p7_,_⟩:=hp
   have q10_:=ny hcl 10 0 hD
   have q11_:=ny hcl 11 0 q10_
   have q12_:=ny hcl 12 0 q11_
   simp only [hD,p8_,q10_,q11_,q12_,cq,oT] at ht hs
   subst ht
   refine Qae rfl rfl (g_d rfl ?_)
   try dsimp only [Qah,Qai]
   refine hk _ _ ⟨O,?_,hs.cast ?_⟩<;>simp only [oT,cq,Nat.reduceBEq,p8_,q10_,q11_,q12_]
  ·
   rintro D t w hD hp hcl ⟨O,ht,hs⟩ rest hk
   have hp:AllDone D [9,7]:=hp
   obtain ⟨p9_,p7_,_⟩:=hp
   obtain ⟨p8_,_,_⟩:=(show D 9=true→AllDone D [8,7] from hcl 9 (by decide)) p9_
   have q11_:=ny hcl 11 0 hD
   have q12_:=ny hcl 12 0 q11_
   simp only [hD,p8_,p9_,q11_,q12_,cq,oT] at ht hs
   subst ht
   refine Qae rfl rfl (g_d rfl ?_)
   try dsimp only [Qah,Qai]
   refine hk _ _ ⟨O,?_,hs.cast ?_⟩<;>simp only [oT,cq,Nat.reduceBEq,p8_,p9_,q11_,q12_]
  ·
   rintro D t w hD hp hcl ⟨O,ht,hs⟩ rest hk
   have hp:AllDone D [10,7]:=hp
   obtain ⟨p10_,p7_,_⟩:=hp
   obtain ⟨p9_,_,_⟩:=(show D 10=true→AllDone D [9,7] from hcl 10 (by decide)) p10_
   obtain ⟨p8_,_,_⟩:=(show D 9=true→AllDone D [8,7] from hcl 9 (by decide)) p9_
   have q12_:=ny hcl 12 0 hD
   simp only [hD,p8_,p9_,p10_,q12_,cq,oT] at ht hs
   subst ht
   refine Qae rfl rfl (g_d rfl ?_)
   try dsimp only [Qah,Qai]
   refine hk _ _ ⟨O,?_,hs.cast ?_⟩<;>simp only [oT,cq,Nat.reduceBEq,p8_,p9_,p10_,q12_]
  ·
   rintro D t w hD hp hcl ⟨O,ht,hs⟩ rest hk
   have hp:AllDone D [11,7]:=hp
   obtain ⟨p11_,p7_,_⟩:=hp
   obtain ⟨p10_,_,_⟩:=(show D 11=true→AllDone D [10,7] from hcl 11 (by decide)) p11_
   obtain ⟨p9_,_,_⟩:=(show D 10=true→AllDone D [9,7] from hcl 10 (by decide)) p10_
   obtain ⟨p8_,_,_⟩:=(show D 9=true→AllDone D [8,7] from hcl 9 (by decide)) p9_
   simp only [hD,p8_,p9_,p10_,p11_,cq,oT] at ht hs
   subst ht
   refine Qae rfl rfl (g_d rfl ?_)
   try dsimp only [Qah,Qai]
   refine hk _ _ ⟨O,?_,hs.cast ?_⟩<;>simp only [oT,cq,Nat.reduceBEq,p8_,p9_,p10_,p11_]
  ·
   rintro D t w hD hp hcl ⟨O,ht,hs⟩ rest hk
   have hp:AllDone D [7]:=hp
   obtain ⟨p7_,_⟩:=hp
   have q14_:=ny hcl 14 0 hD
   have q15_:=ny hcl 15 0 q14_
   have q16_:=ny hcl 16 0 q15_
   have q17_:=ny hcl 17 0 q16_
   simp only [hD,q14_,q15_,q16_,q17_,cq,oT] at ht hs
   subst ht
   refine Qae rfl rfl (g_d rfl ?_)
   try dsimp only [Qah,Qai]
   refine hk _ _ ⟨O,?_,hs.cast ?_⟩<;>simp only [oT,cq,Nat.reduceBEq,q14_,q15_,q16_,q17_]
  ·
   rintro D t w hD hp hcl ⟨O,ht,hs⟩ rest hk
   have hp:AllDone D [13,7]:=hp
   obtain ⟨p13_,p7_,_⟩:=hp
   have q15_:=ny hcl 15 0 hD
   have q16_:=ny hcl 16 0 q15_
   have q17_:=ny hcl 17 0 q16_
   simp only [hD,p13_,q15_,q16_,q17_,cq,oT] at ht hs
   subst ht
   refine Qae rfl rfl (g_d rfl ?_)
   try dsimp only [Qah,Qai]
   refine hk _ _ ⟨O,?_,hs.cast ?_⟩<;>simp only [oT,cq,Nat.reduceBEq,p13_,q15_,q16_,q17_]
  ·
   rintro D t w hD hp hcl ⟨O,ht,hs⟩ rest hk
   have hp:AllDone D [14,7]:=hp
   obtain ⟨p14_,p7_,_⟩:=hp
   obtain ⟨p13_,_,_⟩:=(show D 14=true→AllDone D [13,7] from hcl 14 (by decide)) p14_
   have q16_:=ny hcl 16 0 hD
   have q17_:=ny hcl 17 0 q16_
   simp only [hD,p13_,p14_,q16_,q17_,cq,oT] at ht hs
   subst ht
   refine Qae rfl rfl (g_d rfl ?_)
   try dsimp only [Qah,Qai]
   refine hk _ _ ⟨O,?_,hs.cast ?_⟩<;>simp only [oT,cq,Nat.reduceBEq,p13_,p14_,q16_,q17_]
  ·
   rintro D t w hD hp hcl ⟨O,ht,hs⟩ rest hk
   have hp:AllDone D [15,7]:=hp
   obtain ⟨p15_,p7_,_⟩:=hp
   obtain ⟨p14_,_,_⟩:=(show D 15=true→AllDone D [14,7] from hcl 15 (by decide)) p15_
   obtain ⟨p13_,_,_⟩:=(show D 14=true→AllDone D [13,7] from hcl 14 (by decide)) p14_
   have q17_:=ny hcl 17 0 hD
   simp only [hD,p13_,p14_,p15_,q17_,cq,oT] at ht hs
   subst ht
   refine Qae rfl rfl (g_d rfl ?_)
   try dsimp only [Qah,Qai]
   refine hk _ _ ⟨O,?_,hs.cast ?_⟩<;>simp only [oT,cq,Nat.reduceBEq,p13_,p14_,p15_,q17_]
  ·
   rintro D t w hD hp hcl ⟨O,ht,hs⟩ rest hk
   have hp:AllDone D [16,7]:=hp
   obtain ⟨p16_,p7_,_⟩:=hp
   obtain ⟨p15_,_,_⟩:=(show D 16=true→AllDone D [15,7] from hcl 16 (by decide)) p16_
   obtain ⟨p14_,_,_⟩:=(show D 15=true→AllDone D [14,7] from hcl 15 (by decide)) p15_
   obtain ⟨p13_,_,_⟩:=(show D 14=true→AllDone D [13,7] from hcl 14 (by decide)) p14_
   simp only [hD,p13_,p14_,p15_,p16_,cq,oT] at ht hs
   subst ht
   refine Qae rfl rfl (g_d rfl ?_)
   try dsimp only [Qah,Qai]
   refine hk _ _ ⟨O,?_,hs.cast ?_⟩<;>simp only [oT,cq,Nat.reduceBEq,p13_,p14_,p15_,p16_]
  intro D t w rest hall hO54_ hI
  obtain ⟨O,ht,hs⟩:=hI
  have p8_:=hall 8 (by decide) rfl
  have p9_:=hall 9 (by decide) rfl
  have p10_:=hall 10 (by decide) rfl
  have p11_:=hall 11 (by decide) rfl
  have p12_:=hall 12 (by decide) rfl
  have p13_:=hall 13 (by decide) rfl
  have p14_:=hall 14 (by decide) rfl
  have p15_:=hall 15 (by decide) rfl
  have p16_:=hall 16 (by decide) rfl
  have p17_:=hall 17 (by decide) rfl
  simp only [p8_,p9_,p10_,p11_,p12_,p13_,p14_,p15_,p16_,p17_,cq,oT] at ht hs
  subst ht
  obtain ⟨rest,rfl,hO55_⟩:=ord_one (m:=262143) hO54_ rfl 18 (m':=524287) (by decide+kernel) rfl
  clear hO54_
  refine Qae rfl rfl (g_d rfl ?_)
  try dsimp only [Qah,Qai]
  obtain ⟨rest,rfl,hO56_⟩:=ord_one (m:=524287) hO55_ rfl 19 (m':=1048575) (by decide+kernel) rfl
  clear hO55_
  refine Qae rfl rfl (g_d rfl ?_)
  obtain ⟨rest,rfl,hO57_⟩:=ord_one (m:=1048575) hO56_ rfl 20 (m':=2097151) (by decide+kernel) rfl
  clear hO56_
  refine Qab (v:=bool true) rfl rfl rfl (g_d rfl ?_)
  try dsimp only [Qah,Qai]
  obtain ⟨rest,rfl,hO58_⟩:=ord_one (m:=2097151) hO57_ rfl 21 (m':=4194303) (by decide+kernel) rfl
  clear hO57_
  refine Qab (v:=bool true) rfl rfl rfl (g_d rfl ?_)
  obtain ⟨rest,rfl,hO59_⟩:=ord_one (m:=4194303) hO58_ rfl 22 (m':=8388607) (by decide+kernel) rfl
  clear hO58_
  refine Qae rfl rfl (g_d rfl ?_)
  obtain ⟨rest,rfl,hO60_⟩:=ord_one (m:=8388607) hO59_ rfl 23 (m':=16777215) (by decide+kernel) rfl
  clear hO59_
  refine Qae rfl rfl (g_d rfl ?_)
  obtain ⟨rest,rfl,hO61_⟩:=ord_one (m:=16777215) hO60_ rfl 24 (m':=33554431) (by decide+kernel) rfl
  clear hO60_
  refine Qae rfl rfl (g_d rfl ?_)
  obtain ⟨rest,rfl,hO62_⟩:=ord_one (m:=33554431) hO61_ rfl 25 (m':=67108863) (by decide+kernel) rfl
  clear hO61_
  refine Qae rfl rfl (g_d rfl ?_)
  obtain ⟨rest,rfl,hO63_⟩:=ord_one (m:=67108863) hO62_ rfl 26 (m':=134217727) (by decide+kernel) rfl
  clear hO62_
  refine Qae rfl rfl (g_d rfl ?_)
  try dsimp only [Qah,Qai]
  obtain ⟨rest,rfl,hO64_⟩:=ord_one (m:=134217727) hO63_ rfl 27 (m':=268435455) (by decide+kernel) rfl
  clear hO63_
  refine Qae rfl rfl (g_d rfl ?_)
  obtain ⟨rest,rfl,hO65_⟩:=ord_one (m:=268435455) hO64_ rfl 28 (m':=536870911) (by decide+kernel) rfl
  clear hO64_
  refine Qab (v:=bool true) rfl rfl rfl (g_d rfl ?_)
  try dsimp only [Qah,Qai]
  obtain rfl:=ord_end hO65_ rfl (by decide+kernel)
  refine Qac (Qaq rfl (Qaj (Qan [0] rfl ?_)))
  refine Qab (v:=bool false) rfl rfl rfl (g_d rfl (Qac ?_))
  obtain rfl:=QsJ H
  refine QaB Tryz.func36 (v:=bool false) (res1 rfl rfl) ?_
  have hs:St _ [] _:=St.take (Γ':=[]) hs
  exact ⟨_,rfl,rfl,hs⟩
def Qci.post (w0:World) (r:Qak) (v:Value) (w:World):Prop:=v=agg (Qaa r).toArray∧St w0 [] w
theorem Qci.calls {N:Nat} {a1:Qaf} {a6:Int} {b2:Nat} {v3:Value} {w0:World} {r:Qak} (hr4:RdRow (K.int .u16) w0 v3 a1.Qal) (hp0:w0.heap[b2]?=some (.cells ((([int .i8 a1.Qad,int .i8 a1.Qag,v3]:List Value)):List Value).toArray 27 (0,0))) (H:Qci.f N a1 a6=some r):
 Calls Tryz.prog 75 #[pointer (some ⟨b2,0,none⟩),int .i64 a6] w0 fun e w=>∃ v,e= .returned v∧Qci.post w0 r v w:=by
 unfold Qci.f at H
 have hs:St w0 [] w0:=St.refl w0
 refine calls_of_g (n:=16) Tryz.func75 rfl rfl ?_
 show G _ _ _ _ [_,_,_,_,_,_,_,_,_,_,_,_,_,_,_,_,_,_] _
 refine Qaj (Qan [0] rfl ?_)
 refine QbI hs rfl rfl (z:=(agg #[int .u16 0,bool false])) (cs:=(Qaa Qa9)) rfl (fun _=>rfl) rfl ?_
 intro b7 w hs
 refine Qac (Qaj (Qan [0,1,2,3,4] rfl ?_))
 refine Qab (v:=pointer (some ⟨b2,0,none⟩)) rfl rfl rfl ?_
 show G _ _ _ _ [_,_,_,_,_,_,_,_,_,_,_,_,_,_,_,_,_,_] _
 obtain ⟨r9,Hr9,H⟩:=bind_get H
 refine Qaz (args:=[pointer (some ⟨b2,0,none⟩)]) rfl rfl (QaA rfl (callFunc_enter Tryz.func74 rfl rfl) rfl) (Qbp.calls (a1:=(⟨a1.Qad,a1.Qag,a1.Qal⟩:Qaf)) (hs.rd hr4) (hs.box hp0) Hr9) ?_
 rintro _ w ⟨rfl,hs2⟩
 have hs:St _ [_] _:=hs.call hs2
 refine Qab (v:=int .i64 (i64w r9)) rfl rfl rfl ?_
 refine Qab (v:=int .i64 (i64w ((i64w r9)+1))) rfl rfl rfl ?_
 show G _ _ _ _ [_,_,_,_,_,_,_,_,_,_,_,_,_,_,_,_,_,_] _
 refine Qab (v:=int .i64 (i64w ((i64w r9)+1))) rfl rfl rfl (Qac (Qaj (Qan [0,1,2,3,4,5,6,7,8] rfl ?_)))
 refine Qab (v:=int .i64 a6) rfl rfl rfl ?_
 refine Qab (v:=int .i64 (i64w ((i64w r9)+1))) rfl rfl rfl ?_
 show G _ _ _ _ [_,_,_,_,_,_,_,_,_,_,_,_,_,_,_,_,_,_] _
 obtain ⟨g1,H⟩:=ite_get H
 refine Qab (v:=int .i64 (a6.tmod (i64w ((i64w r9)+1)))) rfl rfl (QcE rfl rfl rfl g1) ?_
 refine Qab (v:=int .u16 (u16w (a6.tmod (i64w ((i64w r9)+1))))) rfl rfl rfl ?_
 refine Qab (v:=int .i64 a6) rfl rfl rfl ?_
 show G _ _ _ _ [_,_,_,_,_,_,_,_,_,_,_,_,_,_,_,_,_,_] _
 refine Qab (v:=int .i64 (i64w ((i64w r9)+1))) rfl rfl rfl ?_
 refine Qab (v:=bool (decide (a6≥(i64w ((i64w r9)+1))))) rfl rfl rfl ?_
 show G _ _ _ _ [_,_,_,_,_,_,_,_,_,_,_,_,_,_,_,_,_,_] _
 refine Qab (v:=agg (Qaa (⟨u16w (a6.tmod (i64w ((i64w r9)+1))),decide (a6≥(i64w ((i64w r9)+1)))⟩:Qak)).toArray) rfl rfl (Qbt (cs:=(Qaa (⟨u16w (a6.tmod (i64w ((i64w r9)+1))),decide (a6≥(i64w ((i64w r9)+1)))⟩:Qak))) (segs:=[[int .u16 0],[bool false]]) rfl rfl (fun _=>rfl) ⟨rfl,(fun _=>rfl),rfl,(fun _=>rfl),trivial⟩ (by simp only [List.map_cons,List.map_nil,List.forall_mem_cons,List.not_mem_nil,false_implies,implies_true,and_true];exact ⟨⟨_,rfl,rfl⟩,⟨_,rfl,rfl⟩⟩) (by first|rfl|(simp [ev,Qaa];done)|(simp [ev,Qaa];rfl))) ?_
 show G _ _ _ _ [_,_,_,_,_,_,_,_,_,_,_,_,_,_,_,_,_,_] _
 refine QaY (n:=2) hs (Qam.len _) rfl rfl (vs:=(Qaa (⟨u16w (a6.tmod (i64w ((i64w r9)+1))),decide (a6≥(i64w ((i64w r9)+1)))⟩:Qak))) rfl rfl rfl (fun _=>rfl) (Qam.len _) (Qam.one _) ?_
 intro w hs
 refine Qac ?_
 obtain rfl:=QsJ H
 refine QaB Tryz.func75 (v:=agg (Qaa (⟨u16w (a6.tmod (i64w ((i64w r9)+1))),decide (a6≥(i64w ((i64w r9)+1)))⟩:Qak)).toArray) (resC rfl ⟨⟨_,rfl,(run_loadVar_agg (es:=(Qaa (⟨u16w (a6.tmod (i64w ((i64w r9)+1))),decide (a6≥(i64w ((i64w r9)+1)))⟩:Qak))) rfl (congrArg (Result.ok · _) (Qam.len _).symm) (cells_all (hs.cells 0 rfl)))⟩,trivial⟩) ?_
 have hs:St _ [] _:=St.take (Γ':=[_]) hs
 exact ⟨_,rfl,rfl,hs⟩
def Qcf.post (w0:World) (r:Int) (v:Value) (w:World):Prop:=v=int .u16 r∧St w0 [] w
theorem Qcf.calls {N:Nat} {a1:Qaf} {a6:Qak} {b2:Nat} {v3:Value} {w0:World} {r:Int} (hr4:RdRow (K.int .u16) w0 v3 a1.Qal) (hp0:w0.heap[b2]?=some (.cells ((([int .i8 a1.Qad,int .i8 a1.Qag,v3]:List Value)):List Value).toArray 27 (0,0))) (H:Qcf.f N a1 a6=some r):
 Calls Tryz.prog 83 #[pointer (some ⟨b2,0,none⟩),agg (Qaa a6).toArray] w0 fun e w=>∃ v,e= .returned v∧Qcf.post w0 r v w:=by
 unfold Qcf.f at H
 have hs:St w0 [] w0:=St.refl w0
 refine calls_of_g (n:=12) Tryz.func83 rfl rfl ?_
 show G _ _ _ _ [_,_,_,_,_,_,_,_,_,_,_,_,_,_] _
 refine Qaj (Qan [0,1] rfl ?_)
 refine Qbw hs rfl rfl (cs:=(Qaa a6)) rfl rfl ?_
 intro b7 w hs
 refine Qab (v:=int .u16 0) rfl rfl rfl ?_
 show G _ _ _ _ [_,_,_,_,_,_,_,_,_,_,_,_,_,_] _
 refine Qac (Qaj (Qaj (Qan [0,1] rfl ?_)))
 refine Qab (v:=pointer (some ⟨b7,1,none⟩)) rfl rfl rfl ?_
 by_cases hb1_:a6.Qbi=true
 ·
  rw [if_pos hb1_] at H
  refine Qaw rfl rfl (v:=bool true) rfl rfl (fun _=>rfl) (cells_load (hs.cells 0 rfl) 1 1 (Eq.trans (b:=[bool a6.Qbi]) rfl (congrArg (fun b=>[bool b]) hb1_))) ?_
  show G _ _ _ _ [_,_,_,_,_,_,_,_,_,_,_,_,_,_] _
  refine Qac (Qaq rfl (Qaj ?_))
  obtain ⟨r9,Hr9,H⟩:=bind_get H
  refine QaV ?_
  intro T hT
  refine QbZ (n:=6) rfl [0,1,2,3,4,5] [0,1,2,3,4,5] rfl rfl (Inv:=fun D t w=>∃ O:Nat→Value,t=[pointer (some ⟨b2,0,none⟩),agg (Qaa a6).toArray,O 2,pointer (some ⟨b7,0,none⟩),cnd (D 5) (int .u16 (bAndNot .u16 r9 a6.Qat)) (int .u16 0),pointer (some ⟨b7,1,none⟩),bool true,cnd (D 0) (pointer (some ⟨b2,0,none⟩)) (O 7),cnd (D 1) (int .u16 r9) (O 8),cnd (D 2) (pointer (some ⟨b7,0,none⟩)) (O 9),cnd (D 3) (int .u16 a6.Qat) (O 10),cnd (D 4) (int .u16 (bAndNot .u16 r9 a6.Qat)) (O 11),O 12,O 13]∧St w0 [Cells b7 (Qaa a6) 48] w) ?_ ⟨⟨⟨⟨⟨⟨trivial,?_⟩,?_⟩,?_⟩,?_⟩,?_⟩,?_⟩ ?_
  ·
   intro w hh hbw
   have hs:=hs.samew hh hbw
   exact ⟨fun i=>T.getD i undef,(by subst hT;rfl),hs⟩
  ·
   rintro D t w hD hp hcl ⟨O,ht,hs⟩ rest hk
   have q1_:=nz hcl 1 0 hD
   have q4_:=nz hcl 4 0 q1_
   have q5_:=nz hcl 5 0 q4_
   simp only [hD,q1_,q4_,q5_,cq,oT] at ht hs
   subst ht
   refine Qab (v:=pointer (some ⟨b2,0,none⟩)) rfl rfl rfl ?_
   show G _ _ _ _ [_,_,_,_,_,_,_,_,_,_,_,_,_,_] _
   refine hk _ _ ⟨O,?_,hs.cast ?_⟩<;>simp only [oT,lq,cq,Nat.reduceBEq,q1_,q4_,q5_]
  ·
   rintro D t w hD hp hcl ⟨O,ht,hs⟩ rest hk
   obtain ⟨p0_,_⟩:=hp
   have q4_:=nz hcl 4 0 hD
   have q5_:=nz hcl 5 0 q4_
   simp only [hD,p0_,q4_,q5_,cq,oT] at ht hs
   subst ht
   refine Qaz (args:=[pointer (some ⟨b2,0,none⟩)]) rfl rfl (QaA rfl (callFunc_enter Tryz.func74 rfl rfl) rfl) (Qbp.calls (a1:=(⟨a1.Qad,a1.Qag,a1.Qal⟩:Qaf)) (hs.rd hr4) (hs.box hp0) Hr9) ?_
   rintro _ w ⟨rfl,hs2⟩
   have hs:St _ [_] _:=hs.call hs2
   show G _ _ _ _ [_,_,_,_,_,_,_,_,_,_,_,_,_,_] _
   refine hk _ _ ⟨O,?_,hs.cast ?_⟩<;>simp only [oT,lq,cq,Nat.reduceBEq,p0_,q4_,q5_]
  ·
   rintro D t w hD hp hcl ⟨O,ht,hs⟩ rest hk
   have q3_:=nz hcl 3 0 hD
   have q4_:=nz hcl 4 1 q3_
   have q5_:=nz hcl 5 0 q4_
   simp only [hD,q3_,q4_,q5_,cq,oT] at ht hs
   subst ht
   refine Qab (v:=pointer (some ⟨b7,0,none⟩)) rfl rfl rfl ?_
   show G _ _ _ _ [_,_,_,_,_,_,_,_,_,_,_,_,_,_] _
   refine hk _ _ ⟨O,?_,hs.cast ?_⟩<;>simp only [oT,lq,cq,Nat.reduceBEq,q3_,q4_,q5_]
  ·
   rintro D t w hD hp hcl ⟨O,ht,hs⟩ rest hk
   obtain ⟨p2_,_⟩:=hp
   have q4_:=nz hcl 4 1 hD
   have q5_:=nz hcl 5 0 q4_
   simp only [hD,p2_,q4_,q5_,cq,oT] at ht hs
   subst ht
   refine Qaw rfl rfl (v:=int .u16 a6.Qat) rfl rfl (fun _=>rfl) (cells_load (hs.cells 0 rfl) 0 1 rfl) ?_
   show G _ _ _ _ [_,_,_,_,_,_,_,_,_,_,_,_,_,_] _
   refine hk _ _ ⟨O,?_,hs.cast ?_⟩<;>simp only [oT,lq,cq,Nat.reduceBEq,p2_,q4_,q5_]
  ·
   rintro D t w hD hp hcl ⟨O,ht,hs⟩ rest hk
   obtain ⟨p1_,p3_,_⟩:=hp
   obtain ⟨p2_,_⟩:=(hcl.get 3 (by decide)) p3_
   obtain ⟨p0_,_⟩:=(hcl.get 1 (by decide)) p1_
   have q5_:=nz hcl 5 0 hD
   simp only [hD,p0_,p1_,p2_,p3_,q5_,cq,oT] at ht hs
   subst ht
   refine Qab (v:=int .u16 (bAndNot .u16 r9 a6.Qat)) rfl rfl rfl ?_
   show G _ _ _ _ [_,_,_,_,_,_,_,_,_,_,_,_,_,_] _
   refine hk _ _ ⟨O,?_,hs.cast ?_⟩<;>simp only [oT,lq,cq,Nat.reduceBEq,p0_,p1_,p2_,p3_,q5_]
  ·
   rintro D t w hD hp hcl ⟨O,ht,hs⟩ rest hk
   obtain ⟨p4_,p1_,p0_,_,p2_,p3_,_,_⟩:=hp
   simp only [hD,p0_,p1_,p2_,p3_,p4_,cq,oT] at ht hs
   subst ht
   refine Qab (v:=int .u16 (bAndNot .u16 r9 a6.Qat)) rfl rfl rfl ?_
   show G _ _ _ _ [_,_,_,_,_,_,_,_,_,_,_,_,_,_] _
   refine hk _ _ ⟨O,?_,hs.cast ?_⟩<;>simp only [oT,lq,cq,Nat.reduceBEq,p0_,p1_,p2_,p3_,p4_]
  intro D t w hall hI
  obtain ⟨O,ht,hs⟩:=hI
  have p0_:=hall 0 (by decide)
  have p1_:=hall 1 (by decide)
  have p2_:=hall 2 (by decide)
  have p3_:=hall 3 (by decide)
  have p4_:=hall 4 (by decide)
  have p5_:=hall 5 (by decide)
  simp only [p0_,p1_,p2_,p3_,p4_,p5_,cq,oT] at ht hs
  subst ht
  obtain rfl:=QsJ H
  refine QaB Tryz.func83 (v:=int .u16 (bAndNot .u16 r9 a6.Qat)) (res1 rfl rfl) ?_
  have hs:St _ [] _:=St.take (Γ':=[_]) hs
  exact ⟨_,rfl,rfl,hs⟩
 rw [if_neg hb1_] at H
 refine Qaw rfl rfl (v:=bool false) rfl rfl (fun _=>rfl) (cells_load (hs.cells 0 rfl) 1 1 (Eq.trans (b:=[bool a6.Qbi]) rfl (congrArg (fun b=>[bool b]) (Bool.eq_false_iff.2 hb1_)))) (Qac (Qas rfl (QaK (Qaj (Qan [0,1,2] rfl ?_)))))
 refine Qab (v:=pointer (some ⟨b7,0,none⟩)) rfl rfl rfl ?_
 show G _ _ _ _ [_,_,_,_,_,_,_,_,_,_,_,_,_,_] _
 refine Qaw rfl rfl (v:=int .u16 a6.Qat) rfl rfl (fun _=>rfl) (cells_load (hs.cells 0 rfl) 0 1 rfl) ?_
 refine Qab (v:=int .u16 a6.Qat) rfl rfl rfl (Qac ?_)
 obtain rfl:=QsJ H
 refine QaB Tryz.func83 (v:=int .u16 a6.Qat) (res1 rfl rfl) ?_
 have hs:St _ [] _:=St.take (Γ':=[_]) hs
 exact ⟨_,rfl,rfl,hs⟩
def Qbo.post (w0:World) (r:Bool) (v:Value) (w:World):Prop:=v=bool r∧St w0 [] w
theorem Qbo.calls {N:Nat} {a1:Qaf} {a6:Int} {b2:Nat} {v3:Value} {w0:World} {r:Bool} (hr4:RdRow (K.int .u16) w0 v3 a1.Qal) (hp0:w0.heap[b2]?=some (.cells ((([int .i8 a1.Qad,int .i8 a1.Qag,v3]:List Value)):List Value).toArray 27 (0,0))) (H:Qbo.f N a1 a6=some r):
 Calls Tryz.prog 82 #[pointer (some ⟨b2,0,none⟩),int .u16 a6] w0 fun e w=>∃ v,e= .returned v∧Qbo.post w0 r v w:=by
 unfold Qbo.f at H
 have hs:St w0 [] w0:=St.refl w0
 refine calls_of_g (n:=23) Tryz.func82 rfl rfl ?_
 show G _ _ _ _ [_,_,_,_,_,_,_,_,_,_,_,_,_,_,_,_,_,_,_,_,_,_,_,_,_] _
 refine Qaj (Qan [0] rfl ?_)
 refine Qab (v:=bool false) rfl rfl rfl ?_
 show G _ _ _ _ [_,_,_,_,_,_,_,_,_,_,_,_,_,_,_,_,_,_,_,_,_,_,_,_,_] _
 refine Qac (Qaj (Qaj (Qan [0] rfl ?_)))
 refine Qab (v:=int .i64 0) rfl rfl rfl (Qac ?_)
 obtain ⟨o1_,Ho,Hr1_⟩:=bind_get H
 refine QaR (J:=fun t w=>Qbo.a0 N=some r∧Fr t (fun O=>([O 0,O 1,O 2,O 3,O 4,O 5,O 6,O 7,O 8,O 9,O 10,O 11,O 12,O 13,O 14,O 15,O 16,O 17,O 18,O 19,O 20,O 21,O 22,O 23,O 24]:List Value))∧St w0 [] w) ?_ ?_
 ·
  rintro t w ⟨H,hf,hs⟩
  obtain ⟨O,rfl⟩:=hf.open
  show G _ _ _ _ [_,_,_,_,_,_,_,_,_,_,_,_,_,_,_,_,_,_,_,_,_,_,_,_,_] _
  unfold Qbo.a0 at H
  refine Qaj (Qan [0] rfl ?_)
  refine Qab (v:=bool true) rfl rfl rfl (Qac ?_)
  obtain rfl:=QsJ H
  refine QaB Tryz.func82 (v:=bool true) (res1 rfl rfl) ?_
  have hs:St _ [] _:=St.take (Γ':=[]) hs
  exact ⟨_,rfl,rfl,hs⟩
 intro ha1_
 have hs:St _ [] _:=St.take (Γ':=[]) hs
 refine Qba (I:=fun n_ t w=>∃ x7:Int,rounds (fun s=>Qbo.b0 N a1 a6 s) n_ x7=some o1_∧Fr t (fun O=>([pointer (some ⟨b2,0,none⟩),int .u16 a6,O 2,O 3,O 4,int .i64 x7,O 6,O 7,O 8,O 9,O 10,O 11,O 12,O 13,O 14,O 15,O 16,O 17,O 18,O 19,O 20,O 21,O 22,O 23,O 24]:List Value))∧St w0 [] w) N ⟨0,Ho,rfl,hs⟩ ?_ ?_
 ·
  rintro _ _ ⟨x7,h,_⟩
  exact rounds_zero h
 intro n_ ih1_
 rintro t w ⟨x7,Ho,hf,hs⟩
 obtain ⟨O,rfl⟩:=hf.open
 show G _ _ _ _ [_,_,_,_,_,_,_,_,_,_,_,_,_,_,_,_,_,_,_,_,_,_,_,_,_] _
 obtain ⟨x2_,H,Hx1_⟩:=rounds_succ Ho
 have H:Qbo.b0 N a1 a6 x7=some x2_:=H
 unfold Qbo.b0 at H
 refine Qaj (Qaj (Qan [0,1,2,3,4,5,6] rfl ?_))
 refine Qab (v:=int .i64 x7) rfl rfl rfl ?_
 refine Qab (v:=pointer (some ⟨b2,0,none⟩)) rfl rfl rfl ?_
 show G _ _ _ _ [_,_,_,_,_,_,_,_,_,_,_,_,_,_,_,_,_,_,_,_,_,_,_,_,_] _
 refine Qab (v:=pointer (some ⟨b2,0,none⟩)) rfl rfl rfl ?_
 refine Qab (v:=pointer (some ⟨b2,2,none⟩)) rfl rfl rfl ?_
 refine Qaw rfl rfl (v:=v3) rfl rfl (fun _=>rfl) (cells_load (hs.box hp0) 2 1 rfl) ?_
 show G _ _ _ _ [_,_,_,_,_,_,_,_,_,_,_,_,_,_,_,_,_,_,_,_,_,_,_,_,_] _
 refine QbC (hs.rd hr4) rfl rfl rfl rfl rfl ?_
 refine QaI (B:=decide (x7< (a1.Qal.length:Int))) rfl rfl rfl ?_ ?_
 ·
  intro hb
  rw [if_pos (b_dec_t hb)] at H
  show G _ _ _ _ [_,_,_,_,_,_,_,_,_,_,_,_,_,_,_,_,_,_,_,_,_,_,_,_,_] _
  refine Qac (Qaq rfl (QaK (Qaj ?_)))
  refine QbG (Qaj (Qan [0,1,2,3,4,5,6,7,8,9] rfl ?_))
  refine Qab (v:=pointer (some ⟨b2,0,none⟩)) rfl rfl rfl ?_
  refine Qab (v:=pointer (some ⟨b2,0,none⟩)) rfl rfl rfl ?_
  refine Qab (v:=pointer (some ⟨b2,2,none⟩)) rfl rfl rfl ?_
  show G _ _ _ _ [_,_,_,_,_,_,_,_,_,_,_,_,_,_,_,_,_,_,_,_,_,_,_,_,_] _
  refine Qaw rfl rfl (v:=v3) rfl rfl (fun _=>rfl) (cells_load (hs.box hp0) 2 1 rfl) ?_
  refine Qab (v:=int .i64 x7) rfl rfl rfl ?_
  obtain ⟨g1,H⟩:=ite_get H
  refine QbQ (fkI .u16) 0 (hs.rd hr4) rfl (fun _=>rfl) g1.1 g1.2 rfl rfl rfl rfl rfl ?_
  intro p8 hp8 lp8 op8
  show G _ _ _ _ [_,_,_,_,_,_,_,_,_,_,_,_,_,_,_,_,_,_,_,_,_,_,_,_,_] _
  refine Qaw rfl rfl (v:=int .u16 (rdL a1.Qal x7 0)) rfl rfl (fun _=>rfl) hp8 ?_
  refine Qab (v:=int .u16 a6) rfl rfl rfl ?_
  refine Qab (v:=int .u16 (bAndNot .u16 (rdL a1.Qal x7 0) a6)) rfl rfl rfl ?_
  show G _ _ _ _ [_,_,_,_,_,_,_,_,_,_,_,_,_,_,_,_,_,_,_,_,_,_,_,_,_] _
  refine QaI (B:=(bAndNot .u16 (rdL a1.Qal x7 0) a6)==0) rfl rfl rfl ?_ ?_
  ·
   intro hb
   rw [if_pos (b_beq_t hb)] at H
   refine Qac (Qaq rfl (Qaj (Qan [0] rfl ?_)))
   refine Qab (v:=bool false) rfl rfl rfl ?_
   show G _ _ _ _ [_,_,_,_,_,_,_,_,_,_,_,_,_,_,_,_,_,_,_,_,_,_,_,_,_] _
   refine Qac ?_
   obtain rfl:=QsJ H
   subst Hx1_
   have H:=QsJ Hr1_
   subst H
   refine QaB Tryz.func82 (v:=bool false) (res1 rfl rfl) ?_
   have hs:St _ [] _:=St.take (Γ':=[]) hs
   exact ⟨_,rfl,rfl,hs⟩
  intro hb
  rw [if_neg (b_beq_f hb)] at H
  refine Qac (Qas rfl (QaK ?_))
  refine Qa0 (Qan [0,1,2] rfl ?_)
  refine Qab (v:=int .i64 x7) rfl rfl rfl ?_
  refine Qab (v:=int .i64 (i64w (x7+1))) rfl rfl rfl ?_
  show G _ _ _ _ [_,_,_,_,_,_,_,_,_,_,_,_,_,_,_,_,_,_,_,_,_,_,_,_,_] _
  refine Qab (v:=int .i64 (i64w (x7+1))) rfl rfl rfl (Qac ?_)
  obtain rfl:=QsJ H
  have hs:St _ [] _:=St.take (Γ':=[]) hs
  exact ih1_ _ _ ⟨i64w (x7+1),Hx1_,rfl,hs⟩
 intro hb
 rw [if_neg (b_dec_f hb)] at H
 refine Qac (Qas rfl ?_)
 obtain rfl:=QsJ H
 subst Hx1_
 have hs:St _ [] _:=St.take (Γ':=[]) hs
 refine QbE rfl ?_
 exact ha1_ _ _ ⟨Hr1_,rfl,hs⟩
end Go.Proofs.YtblbfnngmeoipaaGreatDoorX
