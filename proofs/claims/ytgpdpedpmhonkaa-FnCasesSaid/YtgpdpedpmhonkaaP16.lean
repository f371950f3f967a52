import Derived.Test.YtgpdpedpmhonkaaProg
import Derived.Test.YtgpdpedpmhonkaaP3
import Derived.Test.YtgpdpedpmhonkaaP4
namespace Go.Proofs.YtgpdpedpmhonkaaX
open Go Go.RowKit Go.Proofs
open Go.Value (int pointer bool agg slice string tuple)
set_option maxHeartbeats 8000000
set_option maxRecDepth 100000
set_option linter.unusedVariables false
set_option linter.unusedSimpArgs false
def QbN.post (w0:World) (r:Qar) (v:Value) (w:World):Prop:=v=agg (Qam r).toArray∧St w0 [] w
theorem QbN.calls {N:Nat} {a1:Qar} {a2:(Ar Int 8)} {a5:Int} {b3:Nat} {w0:World} {r:Qar} (hp1:w0.heap[b3]?=some (.cells (((encA (encI .i64)) a2):List Value).toArray 103 (0,0))) (H:QbN.f N a1 a2 a5=some r):
 Calls Try.prog 84 #[agg (Qam a1).toArray,pointer (some ⟨b3,0,none⟩),int .i64 a5] w0 fun e w=>∃ v,e= .returned v∧QbN.post w0 r v w:=by
 unfold QbN.f at H
 have hs:St w0 [] w0:=St.refl w0
 refine calls_of_g (n:=86) Try.func84 rfl rfl ?_
 show G _ _ _ _ (_::_::_::_::_::_::_::_::_::_::_::_::_::_::_::_::_::_::_::_::_::_::_::_::_::_::_::_::_::_::_::_::_::_::_::_::_::_::_::_::_::_::_::_::_::_::_::_::_::_::_::_::_::_::_::_::_::_::_::_::_::_::_::_::_::_::_::_::_::_::_::_::_::_::_::_::_::_::_::_::_::_::_::_::_::_::_::_::_::[]) _
 refine Qag (Qan [0,1] rfl ?_)
 refine Qbw hs rfl rfl (cs:=(Qam a1)) rfl rfl ?_
 intro b6 w hs
 refine g_d rfl ?_
 try dsimp only [set0,setS]
 refine QbH hs rfl rfl (z:=(agg #[int .i64 0,int .i64 0,int .i64 0,int .i64 0])) (cs:=(Qam QbW)) rfl (fun _=>rfl) rfl ?_
 intro b8 w hs
 refine g_d rfl (Qaa (Qag (Qag (Qan [0] rfl ?_))))
 refine Qab (v:=int .i64 a5) rfl rfl rfl (g_d rfl (Qaa ?_))
 refine QbP (Qag (Qan [0,1] rfl ?_))
 refine QaR (B:=a5==(-1)) rfl rfl rfl ?_ ?_
 ·
  intro hb
  rw [if_pos (b_beq_t hb)] at H
  refine g_d rfl ?_
  try dsimp only [set0,setS]
  refine Qab (v:=bool true) rfl rfl rfl (g_d rfl (Qaa (Qaw rfl (Qag ?_))))
  obtain ⟨gd1,H⟩:=ite_get H
  obtain ⟨gd2,H⟩:=ite_get H
  obtain ⟨gd3,H⟩:=ite_get H
  obtain ⟨gd4,H⟩:=ite_get H
  refine QbT ?_
  intro T hT
  refine Qcg (n:=20) rfl [0,1,2,3,4,5,6,7,8,9,10,11,12,13,14,15,16,17,18,19] [0,1,2,3,4,5,6,7,8,9,10,11,12,13,14,15,16,17,18,19] rfl rfl (Inv:=fun D t w=>∃ O:Nat→Value,t=(agg (Qam a1).toArray::pointer (some ⟨b3,0,none⟩)::int .i64 a5::pointer (some ⟨b6,0,none⟩)::O 4::O 5::pointer (some ⟨b8,0,none⟩)::int .i64 a5::bool true::bool true::cnd (D 0) (pointer (some ⟨b3,0,none⟩)) (O 10)::cnd (D 1) (pointer (some ⟨b3,0,none⟩)) (O 11)::cnd (D 2) (pointer (some ⟨b3,0+(0:Int).toNat*1,none⟩)) (O 12)::cnd (D 3) (int .i64 (a2.get 0 0)) (O 13)::cnd (D 4) (pointer (some ⟨b3,0,none⟩)) (O 14)::cnd (D 5) (pointer (some ⟨b3,0,none⟩)) (O 15)::cnd (D 6) (pointer (some ⟨b3,0+(2:Int).toNat*1,none⟩)) (O 16)::cnd (D 7) (int .i64 (a2.get 2 0)) (O 17)::cnd (D 8) (int .i64 (i64w ((a2.get 0 0)+(a2.get 2 0)))) (O 18)::cnd (D 9) (pointer (some ⟨b3,0,none⟩)) (O 19)::cnd (D 10) (pointer (some ⟨b3,0,none⟩)) (O 20)::cnd (D 11) (pointer (some ⟨b3,0+(1:Int).toNat*1,none⟩)) (O 21)::cnd (D 12) (int .i64 (a2.get 1 0)) (O 22)::cnd (D 13) (pointer (some ⟨b3,0,none⟩)) (O 23)::cnd (D 14) (pointer (some ⟨b3,0,none⟩)) (O 24)::cnd (D 15) (pointer (some ⟨b3,0+(5:Int).toNat*1,none⟩)) (O 25)::cnd (D 16) (int .i64 (a2.get 5 0)) (O 26)::cnd (D 17) (int .i64 (i64w ((a2.get 1 0)+(a2.get 5 0)))) (O 27)::cnd (D 18) (agg (Qam (⟨0,i64w ((a2.get 0 0)+(a2.get 2 0)),i64w ((a2.get 1 0)+(a2.get 5 0)),0⟩:Qar)).toArray) (O 28)::O 29::oT O 3 (oT O 4 (oT O 5 (oT O 6 (oT O 7 (O 80::O 81::O 82::O 83::O 84::O 85::O 86::O 87::O 88::[]))))))∧St w0 [Cells b8 (cnd (D 19) (Qam (⟨0,i64w ((a2.get 0 0)+(a2.get 2 0)),i64w ((a2.get 1 0)+(a2.get 5 0)),0⟩:Qar)) (Qam QbW)) 62,Cells b6 (Qam a1) 62] w) ?_ ⟨⟨⟨⟨⟨⟨⟨⟨⟨⟨⟨⟨⟨⟨⟨⟨⟨⟨⟨⟨trivial,?_⟩,?_⟩,?_⟩,?_⟩,?_⟩,?_⟩,?_⟩,?_⟩,?_⟩,?_⟩,?_⟩,?_⟩,?_⟩,?_⟩,?_⟩,?_⟩,?_⟩,?_⟩,?_⟩,?_⟩ ?_
  ·
   intro w hh hbw
   have hs:=hs.samew hh hbw
   exact ⟨fun i=>T.getD i undef,(by subst hT;rfl),hs⟩
  ·
   rintro D t w hD hp hcl ⟨O,ht,hs⟩ rest hk
   have q1_:=nz hcl 1 0 hD
   have q2_:=nz hcl 2 0 q1_
   have q3_:=nz hcl 3 0 q2_
   have q8_:=nz hcl 8 0 q3_
   have q18_:=nz hcl 18 0 q8_
   have q19_:=nz hcl 19 0 q18_
   simp only [hD,q1_,q2_,q3_,q8_,q18_,q19_,cq,oT] at ht hs
   subst ht
   refine Qab (v:=pointer (some ⟨b3,0,none⟩)) rfl rfl rfl (g_d rfl ?_)
   try dsimp only [set0,setS]
   refine hk _ _ ⟨O,?_,hs.cast ?_⟩<;>simp only [oT,lq,cq,Nat.reduceBEq,q1_,q2_,q3_,q8_,q18_,q19_]
  ·
   rintro D t w hD hp hcl ⟨O,ht,hs⟩ rest hk
   obtain ⟨p0_,_⟩:=hp
   have q2_:=nz hcl 2 0 hD
   have q3_:=nz hcl 3 0 q2_
   have q8_:=nz hcl 8 0 q3_
   have q18_:=nz hcl 18 0 q8_
   have q19_:=nz hcl 19 0 q18_
   simp only [hD,p0_,q2_,q3_,q8_,q18_,q19_,cq,oT] at ht hs
   subst ht
   refine Qab (v:=pointer (some ⟨b3,0,none⟩)) rfl rfl rfl (g_d rfl ?_)
   try dsimp only [set0,setS]
   refine hk _ _ ⟨O,?_,hs.cast ?_⟩<;>simp only [oT,lq,cq,Nat.reduceBEq,p0_,q2_,q3_,q8_,q18_,q19_]
  ·
   rintro D t w hD hp hcl ⟨O,ht,hs⟩ rest hk
   obtain ⟨p1_,_⟩:=hp
   obtain ⟨p0_,_⟩:=(hcl.get 1 (by decide)) p1_
   have q3_:=nz hcl 3 0 hD
   have q8_:=nz hcl 8 0 q3_
   have q18_:=nz hcl 18 0 q8_
   have q19_:=nz hcl 19 0 q18_
   simp only [hD,p0_,p1_,q3_,q8_,q18_,q19_,cq,oT] at ht hs
   subst ht
   refine Qa1 (n:=0) (m:=1) rfl (fun _=>rfl) gd1.1 gd1.2 rfl rfl rfl rfl rfl (g_d rfl ?_)
   try dsimp only [set0,setS]
   refine hk _ _ ⟨O,?_,hs.cast ?_⟩<;>simp only [oT,lq,cq,Nat.reduceBEq,p0_,p1_,q3_,q8_,q18_,q19_]
  ·
   rintro D t w hD hp hcl ⟨O,ht,hs⟩ rest hk
   obtain ⟨p2_,_⟩:=hp
   obtain ⟨p1_,_⟩:=(hcl.get 2 (by decide)) p2_
   obtain ⟨p0_,_⟩:=(hcl.get 1 (by decide)) p1_
   have q8_:=nz hcl 8 0 hD
   have q18_:=nz hcl 18 0 q8_
   have q19_:=nz hcl 19 0 q18_
   simp only [hD,p0_,p1_,p2_,q8_,q18_,q19_,cq,oT] at ht hs
   subst ht
   refine Qaz rfl rfl (v:=int .i64 (a2.get 0 0)) rfl rfl (fun _=>rfl) (by rw [Nat.zero_add];exact cells_load (hs.box hp1) _ _ (encA_at (fkI .i64).len _ _ 0 gd1.1 gd1.2)) (g_d rfl ?_)
   try dsimp only [set0,setS]
   refine hk _ _ ⟨O,?_,hs.cast ?_⟩<;>simp only [oT,lq,cq,Nat.reduceBEq,p0_,p1_,p2_,q8_,q18_,q19_]
  ·
   rintro D t w hD hp hcl ⟨O,ht,hs⟩ rest hk
   have q5_:=nz hcl 5 0 hD
   have q6_:=nz hcl 6 0 q5_
   have q7_:=nz hcl 7 0 q6_
   have q8_:=nz hcl 8 1 q7_
   have q18_:=nz hcl 18 0 q8_
   have q19_:=nz hcl 19 0 q18_
   simp only [hD,q5_,q6_,q7_,q8_,q18_,q19_,cq,oT] at ht hs
   subst ht
   refine Qab (v:=pointer (some ⟨b3,0,none⟩)) rfl rfl rfl (g_d rfl ?_)
   try dsimp only [set0,setS]
   refine hk _ _ ⟨O,?_,hs.cast ?_⟩<;>simp only [oT,lq,cq,Nat.reduceBEq,q5_,q6_,q7_,q8_,q18_,q19_]
  ·
   rintro D t w hD hp hcl ⟨O,ht,hs⟩ rest hk
   obtain ⟨p4_,_⟩:=hp
   have q6_:=nz hcl 6 0 hD
   have q7_:=nz hcl 7 0 q6_
   have q8_:=nz hcl 8 1 q7_
   have q18_:=nz hcl 18 0 q8_
   have q19_:=nz hcl 19 0 q18_
   simp only [hD,p4_,q6_,q7_,q8_,q18_,q19_,cq,oT] at ht hs
   subst ht
   refine Qab (v:=pointer (some ⟨b3,0,none⟩)) rfl rfl rfl (g_d rfl ?_)
   try dsimp only [set0,setS]
   refine hk _ _ ⟨O,?_,hs.cast ?_⟩<;>simp only [oT,lq,cq,Nat.reduceBEq,p4_,q6_,q7_,q8_,q18_,q19_]
  ·
   rintro D t w hD hp hcl ⟨O,ht,hs⟩ rest hk
   obtain ⟨p5_,_⟩:=hp
   obtain ⟨p4_,_⟩:=(hcl.get 5 (by decide)) p5_
   have q7_:=nz hcl 7 0 hD
   have q8_:=nz hcl 8 1 q7_
   have q18_:=nz hcl 18 0 q8_
   have q19_:=nz hcl 19 0 q18_
   simp only [hD,p4_,p5_,q7_,q8_,q18_,q19_,cq,oT] at ht hs
   subst ht
   refine Qa1 (n:=2) (m:=1) rfl (fun _=>rfl) gd2.1 gd2.2 rfl rfl rfl rfl rfl (g_d rfl ?_)
   try dsimp only [set0,setS]
   refine hk _ _ ⟨O,?_,hs.cast ?_⟩<;>simp only [oT,lq,cq,Nat.reduceBEq,p4_,p5_,q7_,q8_,q18_,q19_]
  ·
   rintro D t w hD hp hcl ⟨O,ht,hs⟩ rest hk
   obtain ⟨p6_,_⟩:=hp
   obtain ⟨p5_,_⟩:=(hcl.get 6 (by decide)) p6_
   obtain ⟨p4_,_⟩:=(hcl.get 5 (by decide)) p5_
   have q8_:=nz hcl 8 1 hD
   have q18_:=nz hcl 18 0 q8_
   have q19_:=nz hcl 19 0 q18_
   simp only [hD,p4_,p5_,p6_,q8_,q18_,q19_,cq,oT] at ht hs
   subst ht
   refine Qaz rfl rfl (v:=int .i64 (a2.get 2 0)) rfl rfl (fun _=>rfl) (by rw [Nat.zero_add];exact cells_load (hs.box hp1) _ _ (encA_at (fkI .i64).len _ _ 0 gd2.1 gd2.2)) (g_d rfl ?_)
   try dsimp only [set0,setS]
   refine hk _ _ ⟨O,?_,hs.cast ?_⟩<;>simp only [oT,lq,cq,Nat.reduceBEq,p4_,p5_,p6_,q8_,q18_,q19_]
  ·
   rintro D t w hD hp hcl ⟨O,ht,hs⟩ rest hk
   obtain ⟨p3_,p7_,_⟩:=hp
   obtain ⟨p6_,_⟩:=(hcl.get 7 (by decide)) p7_
   obtain ⟨p5_,_⟩:=(hcl.get 6 (by decide)) p6_
   obtain ⟨p4_,_⟩:=(hcl.get 5 (by decide)) p5_
   obtain ⟨p2_,_⟩:=(hcl.get 3 (by decide)) p3_
   obtain ⟨p1_,_⟩:=(hcl.get 2 (by decide)) p2_
   obtain ⟨p0_,_⟩:=(hcl.get 1 (by decide)) p1_
   have q18_:=nz hcl 18 0 hD
   have q19_:=nz hcl 19 0 q18_
   simp only [hD,p0_,p1_,p2_,p3_,p4_,p5_,p6_,p7_,q18_,q19_,cq,oT] at ht hs
   subst ht
   refine Qab (v:=int .i64 (i64w ((a2.get 0 0)+(a2.get 2 0)))) rfl rfl rfl (g_d rfl ?_)
   try dsimp only [set0,setS]
   refine hk _ _ ⟨O,?_,hs.cast ?_⟩<;>simp only [oT,lq,cq,Nat.reduceBEq,p0_,p1_,p2_,p3_,p4_,p5_,p6_,p7_,q18_,q19_]
  ·
   rintro D t w hD hp hcl ⟨O,ht,hs⟩ rest hk
   have q10_:=nz hcl 10 0 hD
   have q11_:=nz hcl 11 0 q10_
   have q12_:=nz hcl 12 0 q11_
   have q17_:=nz hcl 17 0 q12_
   have q18_:=nz hcl 18 1 q17_
   have q19_:=nz hcl 19 0 q18_
   simp only [hD,q10_,q11_,q12_,q17_,q18_,q19_,cq,oT] at ht hs
   subst ht
   refine Qab (v:=pointer (some ⟨b3,0,none⟩)) rfl rfl rfl (g_d rfl ?_)
   try dsimp only [set0,setS]
   refine hk _ _ ⟨O,?_,hs.cast ?_⟩<;>simp only [oT,lq,cq,Nat.reduceBEq,q10_,q11_,q12_,q17_,q18_,q19_]
  ·
   rintro D t w hD hp hcl ⟨O,ht,hs⟩ rest hk
   obtain ⟨p9_,_⟩:=hp
   have q11_:=nz hcl 11 0 hD
   have q12_:=nz hcl 12 0 q11_
   have q17_:=nz hcl 17 0 q12_
   have q18_:=nz hcl 18 1 q17_
   have q19_:=nz hcl 19 0 q18_
   simp only [hD,p9_,q11_,q12_,q17_,q18_,q19_,cq,oT] at ht hs
   subst ht
   refine Qab (v:=pointer (some ⟨b3,0,none⟩)) rfl rfl rfl (g_d rfl ?_)
   try dsimp only [set0,setS]
   refine hk _ _ ⟨O,?_,hs.cast ?_⟩<;>simp only [oT,lq,cq,Nat.reduceBEq,p9_,q11_,q12_,q17_,q18_,q19_]
  ·
   rintro D t w hD hp hcl ⟨O,ht,hs⟩ rest hk
   obtain ⟨p10_,_⟩:=hp
   obtain ⟨p9_,_⟩:=(hcl.get 10 (by decide)) p10_
   have q12_:=nz hcl 12 0 hD
   have q17_:=nz hcl 17 0 q12_
   have q18_:=nz hcl 18 1 q17_
   have q19_:=nz hcl 19 0 q18_
   simp only [hD,p9_,p10_,q12_,q17_,q18_,q19_,cq,oT] at ht hs
   subst ht
   refine Qa1 (n:=1) (m:=1) rfl (fun _=>rfl) gd3.1 gd3.2 rfl rfl rfl rfl rfl (g_d rfl ?_)
   try dsimp only [set0,setS]
   refine hk _ _ ⟨O,?_,hs.cast ?_⟩<;>simp only [oT,lq,cq,Nat.reduceBEq,p9_,p10_,q12_,q17_,q18_,q19_]
  ·
   rintro D t w hD hp hcl ⟨O,ht,hs⟩ rest hk
   obtain ⟨p11_,_⟩:=hp
   obtain ⟨p10_,_⟩:=(hcl.get 11 (by decide)) p11_
   obtain ⟨p9_,_⟩:=(hcl.get 10 (by decide)) p10_
   have q17_:=nz hcl 17 0 hD
   have q18_:=nz hcl 18 1 q17_
   have q19_:=nz hcl 19 0 q18_
   simp only [hD,p9_,p10_,p11_,q17_,q18_,q19_,cq,oT] at ht hs
   subst ht
   refine Qaz rfl rfl (v:=int .i64 (a2.get 1 0)) rfl rfl (fun _=>rfl) (by rw [Nat.zero_add];exact cells_load (hs.box hp1) _ _ (encA_at (fkI .i64).len _ _ 0 gd3.1 gd3.2)) (g_d rfl ?_)
   try dsimp only [set0,setS]
   refine hk _ _ ⟨O,?_,hs.cast ?_⟩<;>simp only [oT,lq,cq,Nat.reduceBEq,p9_,p10_,p11_,q17_,q18_,q19_]
  ·
   rintro D t w hD hp hcl ⟨O,ht,hs⟩ rest hk
   have q14_:=nz hcl 14 0 hD
   have q15_:=nz hcl 15 0 q14_
   have q16_:=nz hcl 16 0 q15_
   have q17_:=nz hcl 17 1 q16_
   have q18_:=nz hcl 18 1 q17_
   have q19_:=nz hcl 19 0 q18_
   simp only [hD,q14_,q15_,q16_,q17_,q18_,q19_,cq,oT] at ht hs
   subst ht
   refine Qab (v:=pointer (some ⟨b3,0,none⟩)) rfl rfl rfl (g_d rfl ?_)
   try dsimp only [set0,setS]
   refine hk _ _ ⟨O,?_,hs.cast ?_⟩<;>simp only [oT,lq,cq,Nat.reduceBEq,q14_,q15_,q16_,q17_,q18_,q19_]
  ·
   rintro D t w hD hp hcl ⟨O,ht,hs⟩ rest hk
   obtain ⟨p13_,_⟩:=hp
   have q15_:=nz hcl 15 0 hD
   have q16_:=nz hcl 16 0 q15_
   have q17_:=nz hcl 17 1 q16_
   have q18_:=nz hcl 18 1 q17_
   have q19_:=nz hcl 19 0 q18_
   simp only [hD,p13_,q15_,q16_,q17_,q18_,q19_,cq,oT] at ht hs
   subst ht
   refine Qab (v:=pointer (some ⟨b3,0,none⟩)) rfl rfl rfl (g_d rfl ?_)
   try dsimp only [set0,setS]
   refine hk _ _ ⟨O,?_,hs.cast ?_⟩<;>simp only [oT,lq,cq,Nat.reduceBEq,p13_,q15_,q16_,q17_,q18_,q19_]
  ·
   rintro D t w hD hp hcl ⟨O,ht,hs⟩ rest hk
   obtain ⟨p14_,_⟩:=hp
   obtain ⟨p13_,_⟩:=(hcl.get 14 (by decide)) p14_
   have q16_:=nz hcl 16 0 hD
   have q17_:=nz hcl 17 1 q16_
   have q18_:=nz hcl 18 1 q17_
   have q19_:=nz hcl 19 0 q18_
   simp only [hD,p13_,p14_,q16_,q17_,q18_,q19_,cq,oT] at ht hs
   subst ht
   refine Qa1 (n:=5) (m:=1) rfl (fun _=>rfl) gd4.1 gd4.2 rfl rfl rfl rfl rfl (g_d rfl ?_)
   try dsimp only [set0,setS]
   refine hk _ _ ⟨O,?_,hs.cast ?_⟩<;>simp only [oT,lq,cq,Nat.reduceBEq,p13_,p14_,q16_,q17_,q18_,q19_]
  ·
   rintro D t w hD hp hcl ⟨O,ht,hs⟩ rest hk
   obtain ⟨p15_,_⟩:=hp
   obtain ⟨p14_,_⟩:=(hcl.get 15 (by decide)) p15_
   obtain ⟨p13_,_⟩:=(hcl.get 14 (by decide)) p14_
   have q17_:=nz hcl 17 1 hD
   have q18_:=nz hcl 18 1 q17_
   have q19_:=nz hcl 19 0 q18_
   simp only [hD,p13_,p14_,p15_,q17_,q18_,q19_,cq,oT] at ht hs
   subst ht
   refine Qaz rfl rfl (v:=int .i64 (a2.get 5 0)) rfl rfl (fun _=>rfl) (by rw [Nat.zero_add];exact cells_load (hs.box hp1) _ _ (encA_at (fkI .i64).len _ _ 0 gd4.1 gd4.2)) (g_d rfl ?_)
   try dsimp only [set0,setS]
   refine hk _ _ ⟨O,?_,hs.cast ?_⟩<;>simp only [oT,lq,cq,Nat.reduceBEq,p13_,p14_,p15_,q17_,q18_,q19_]
  ·
   rintro D t w hD hp hcl ⟨O,ht,hs⟩ rest hk
   obtain ⟨p12_,p16_,_⟩:=hp
   obtain ⟨p15_,_⟩:=(hcl.get 16 (by decide)) p16_
   obtain ⟨p14_,_⟩:=(hcl.get 15 (by decide)) p15_
   obtain ⟨p13_,_⟩:=(hcl.get 14 (by decide)) p14_
   obtain ⟨p11_,_⟩:=(hcl.get 12 (by decide)) p12_
   obtain ⟨p10_,_⟩:=(hcl.get 11 (by decide)) p11_
   obtain ⟨p9_,_⟩:=(hcl.get 10 (by decide)) p10_
   have q18_:=nz hcl 18 1 hD
   have q19_:=nz hcl 19 0 q18_
   simp only [hD,p9_,p10_,p11_,p12_,p13_,p14_,p15_,p16_,q18_,q19_,cq,oT] at ht hs
   subst ht
   refine Qab (v:=int .i64 (i64w ((a2.get 1 0)+(a2.get 5 0)))) rfl rfl rfl (g_d rfl ?_)
   try dsimp only [set0,setS]
   refine hk _ _ ⟨O,?_,hs.cast ?_⟩<;>simp only [oT,lq,cq,Nat.reduceBEq,p9_,p10_,p11_,p12_,p13_,p14_,p15_,p16_,q18_,q19_]
  ·
   rintro D t w hD hp hcl ⟨O,ht,hs⟩ rest hk
   obtain ⟨p8_,p17_,_⟩:=hp
   obtain ⟨p12_,p16_,_⟩:=(hcl.get 17 (by decide)) p17_
   obtain ⟨p15_,_⟩:=(hcl.get 16 (by decide)) p16_
   obtain ⟨p14_,_⟩:=(hcl.get 15 (by decide)) p15_
   obtain ⟨p13_,_⟩:=(hcl.get 14 (by decide)) p14_
   obtain ⟨p11_,_⟩:=(hcl.get 12 (by decide)) p12_
   obtain ⟨p10_,_⟩:=(hcl.get 11 (by decide)) p11_
   obtain ⟨p9_,_⟩:=(hcl.get 10 (by decide)) p10_
   obtain ⟨p3_,p7_,_⟩:=(hcl.get 8 (by decide)) p8_
   obtain ⟨p6_,_⟩:=(hcl.get 7 (by decide)) p7_
   obtain ⟨p5_,_⟩:=(hcl.get 6 (by decide)) p6_
   obtain ⟨p4_,_⟩:=(hcl.get 5 (by decide)) p5_
   obtain ⟨p2_,_⟩:=(hcl.get 3 (by decide)) p3_
   obtain ⟨p1_,_⟩:=(hcl.get 2 (by decide)) p2_
   obtain ⟨p0_,_⟩:=(hcl.get 1 (by decide)) p1_
   have q19_:=nz hcl 19 0 hD
   simp only [hD,p0_,p1_,p2_,p3_,p4_,p5_,p6_,p7_,p8_,p9_,p10_,p11_,p12_,p13_,p14_,p15_,p16_,p17_,q19_,cq,oT] at ht hs
   subst ht
   refine Qab (v:=agg (Qam (⟨0,i64w ((a2.get 0 0)+(a2.get 2 0)),i64w ((a2.get 1 0)+(a2.get 5 0)),0⟩:Qar)).toArray) rfl rfl (Qcn (cs:=(Qam (⟨0,i64w ((a2.get 0 0)+(a2.get 2 0)),i64w ((a2.get 1 0)+(a2.get 5 0)),0⟩:Qar))) (segs:=[[int .i64 0],[int .i64 0],[int .i64 0],[int .i64 0]]) rfl rfl (fun _=>rfl) ⟨rfl,(fun _=>rfl),rfl,(fun _=>rfl),rfl,(fun _=>rfl),rfl,(fun _=>rfl),trivial⟩ (by simp only [List.map_cons,List.map_nil,List.forall_mem_cons,List.not_mem_nil,false_implies,implies_true,and_true];exact ⟨⟨_,rfl,rfl⟩,⟨_,rfl,rfl⟩⟩) (by first|rfl|(simp [ev,Qam];done)|(simp [ev,Qam];rfl))) ?_
   refine g_d rfl ?_
   try dsimp only [set0,setS]
   refine hk _ _ ⟨O,?_,hs.cast ?_⟩<;>simp only [oT,lq,cq,Nat.reduceBEq,p0_,p1_,p2_,p3_,p4_,p5_,p6_,p7_,p8_,p9_,p10_,p11_,p12_,p13_,p14_,p15_,p16_,p17_,q19_]
  ·
   rintro D t w hD hp hcl ⟨O,ht,hs⟩ rest hk
   obtain ⟨p18_,p0_,p1_,p2_,p3_,p4_,p5_,p6_,p7_,p8_,p9_,p10_,p11_,p12_,p13_,p14_,p15_,p16_,p17_,_,_⟩:=hp
   simp only [hD,p0_,p1_,p2_,p3_,p4_,p5_,p6_,p7_,p8_,p9_,p10_,p11_,p12_,p13_,p14_,p15_,p16_,p17_,p18_,cq,oT] at ht hs
   subst ht
   refine Qa9 (n:=4) hs (Qa4.len _) rfl rfl (vs:=(Qam (⟨0,i64w ((a2.get 0 0)+(a2.get 2 0)),i64w ((a2.get 1 0)+(a2.get 5 0)),0⟩:Qar))) rfl rfl rfl (fun _=>rfl) (Qa4.len _) (Qa4.one _) ?_
   intro w hs
   refine g_n rfl ?_
   try dsimp only [set0,setS]
   have hs:=hs.push 0 (by simp)
   refine hk _ _ ⟨O,?_,hs.cast ?_⟩<;>simp only [oT,lq,cq,Nat.reduceBEq,p0_,p1_,p2_,p3_,p4_,p5_,p6_,p7_,p8_,p9_,p10_,p11_,p12_,p13_,p14_,p15_,p16_,p17_,p18_]
  intro D t w hall hI
  obtain ⟨O,ht,hs⟩:=hI
  have p0_:=hall 0 (by decide)
  have p1_:=hall 1 (by decide)
  have p2_:=hall 2 (by decide)
  have p3_:=hall 3 (by decide)
  have p4_:=hall 4 (by decide)
  have p5_:=hall 5 (by decide)
  have p6_:=hall 6 (by decide)
  have p7_:=hall 7 (by decide)
  have p8_:=hall 8 (by decide)
  have p9_:=hall 9 (by decide)
  have p10_:=hall 10 (by decide)
  have p11_:=hall 11 (by decide)
  have p12_:=hall 12 (by decide)
  have p13_:=hall 13 (by decide)
  have p14_:=hall 14 (by decide)
  have p15_:=hall 15 (by decide)
  have p16_:=hall 16 (by decide)
  have p17_:=hall 17 (by decide)
  have p18_:=hall 18 (by decide)
  have p19_:=hall 19 (by decide)
  simp only [p0_,p1_,p2_,p3_,p4_,p5_,p6_,p7_,p8_,p9_,p10_,p11_,p12_,p13_,p14_,p15_,p16_,p17_,p18_,p19_,cq,oT] at ht hs
  subst ht
  obtain rfl:=QsJ H
  refine QaK Try.func84 (v:=agg (Qam (⟨0,i64w ((a2.get 0 0)+(a2.get 2 0)),i64w ((a2.get 1 0)+(a2.get 5 0)),0⟩:Qar)).toArray) (resC rfl ⟨⟨_,rfl,(run_loadVar_agg (es:=(Qam (⟨0,i64w ((a2.get 0 0)+(a2.get 2 0)),i64w ((a2.get 1 0)+(a2.get 5 0)),0⟩:Qar))) rfl (congrArg (Result.ok · _) (Qa4.len _).symm) (cells_all (hs.cells 0 rfl)))⟩,trivial⟩) ?_
  have hs:St _ [] _:=St.take (Γ':=[_,_]) hs
  exact ⟨_,rfl,rfl,hs⟩
 intro hb
 rw [if_neg (b_beq_f hb)] at H
 refine g_d rfl ?_
 try dsimp only [set0,setS]
 refine Qab (v:=bool false) rfl rfl rfl (g_d rfl (Qaa (Qax rfl (Qag (Qan [0,1] rfl ?_)))))
 refine QaR (B:=a5==1) rfl rfl rfl ?_ ?_
 ·
  intro hb
  rw [if_pos (b_beq_t hb)] at H
  refine g_d rfl ?_
  try dsimp only [set0,setS]
  refine Qab (v:=bool true) rfl rfl rfl (g_d rfl (Qaa (Qaw rfl (Qag ?_))))
  obtain ⟨gd5,H⟩:=ite_get H
  obtain ⟨gd6,H⟩:=ite_get H
  obtain ⟨gd7,H⟩:=ite_get H
  obtain ⟨gd8,H⟩:=ite_get H
  refine QbT ?_
  intro T hT
  refine Qcg (n:=20) rfl [0,1,2,3,4,5,6,7,8,9,10,11,12,13,14,15,16,17,18,19] [0,1,2,3,4,5,6,7,8,9,10,11,12,13,14,15,16,17,18,19] rfl rfl (Inv:=fun D t w=>∃ O:Nat→Value,t=(agg (Qam a1).toArray::pointer (some ⟨b3,0,none⟩)::int .i64 a5::pointer (some ⟨b6,0,none⟩)::O 4::O 5::pointer (some ⟨b8,0,none⟩)::int .i64 a5::bool false::bool false::oT O 1 (O 20::O 21::O 22::O 23::O 24::O 25::O 26::O 27::O 28::bool true::bool true::cnd (D 0) (pointer (some ⟨b3,0,none⟩)) (O 31)::cnd (D 1) (pointer (some ⟨b3,0,none⟩)) (O 32)::cnd (D 2) (pointer (some ⟨b3,0+(1:Int).toNat*1,none⟩)) (O 33)::cnd (D 3) (int .i64 (a2.get 1 0)) (O 34)::cnd (D 4) (pointer (some ⟨b3,0,none⟩)) (O 35)::cnd (D 5) (pointer (some ⟨b3,0,none⟩)) (O 36)::cnd (D 6) (pointer (some ⟨b3,0+(3:Int).toNat*1,none⟩)) (O 37)::cnd (D 7) (int .i64 (a2.get 3 0)) (O 38)::cnd (D 8) (int .i64 (i64w ((a2.get 1 0)+(a2.get 3 0)))) (O 39)::cnd (D 9) (pointer (some ⟨b3,0,none⟩)) (O 40)::cnd (D 10) (pointer (some ⟨b3,0,none⟩)) (O 41)::cnd (D 11) (pointer (some ⟨b3,0+(0:Int).toNat*1,none⟩)) (O 42)::cnd (D 12) (int .i64 (a2.get 0 0)) (O 43)::cnd (D 13) (pointer (some ⟨b3,0,none⟩)) (O 44)::cnd (D 14) (pointer (some ⟨b3,0,none⟩)) (O 45)::cnd (D 15) (pointer (some ⟨b3,0+(4:Int).toNat*1,none⟩)) (O 46)::cnd (D 16) (int .i64 (a2.get 4 0)) (O 47)::cnd (D 17) (int .i64 (i64w ((a2.get 0 0)+(a2.get 4 0)))) (O 48)::cnd (D 18) (agg (Qam (⟨0,i64w ((a2.get 1 0)+(a2.get 3 0)),i64w ((a2.get 0 0)+(a2.get 4 0)),0⟩:Qar)).toArray) (O 49)::oT O 5 (oT O 6 (oT O 7 (O 80::O 81::O 82::O 83::O 84::O 85::O 86::O 87::O 88::[])))))∧St w0 [Cells b8 (cnd (D 19) (Qam (⟨0,i64w ((a2.get 1 0)+(a2.get 3 0)),i64w ((a2.get 0 0)+(a2.get 4 0)),0⟩:Qar)) (Qam QbW)) 62,Cells b6 (Qam a1) 62] w) ?_ ⟨⟨⟨⟨⟨⟨⟨⟨⟨⟨⟨⟨⟨⟨⟨⟨⟨⟨⟨⟨trivial,?_⟩,?_⟩,?_⟩,?_⟩,?_⟩,?_⟩,?_⟩,?_⟩,?_⟩,?_⟩,?_⟩,?_⟩,?_⟩,?_⟩,?_⟩,?_⟩,?_⟩,?_⟩,?_⟩,?_⟩ ?_
  ·
   intro w hh hbw
   have hs:=hs.samew hh hbw
   exact ⟨fun i=>T.getD i undef,(by subst hT;rfl),hs⟩
  ·
   rintro D t w hD hp hcl ⟨O,ht,hs⟩ rest hk
   have q1_:=nz hcl 1 0 hD
   have q2_:=nz hcl 2 0 q1_
   have q3_:=nz hcl 3 0 q2_
   have q8_:=nz hcl 8 0 q3_
   have q18_:=nz hcl 18 0 q8_
   have q19_:=nz hcl 19 0 q18_
   simp only [hD,q1_,q2_,q3_,q8_,q18_,q19_,cq,oT] at ht hs
   subst ht
   refine Qab (v:=pointer (some ⟨b3,0,none⟩)) rfl rfl rfl (g_d rfl ?_)
   try dsimp only [set0,setS]
   refine hk _ _ ⟨O,?_,hs.cast ?_⟩<;>simp only [oT,lq,cq,Nat.reduceBEq,q1_,q2_,q3_,q8_,q18_,q19_]
  ·
   rintro D t w hD hp hcl ⟨O,ht,hs⟩ rest hk
   obtain ⟨p0_,_⟩:=hp
   have q2_:=nz hcl 2 0 hD
   have q3_:=nz hcl 3 0 q2_
   have q8_:=nz hcl 8 0 q3_
   have q18_:=nz hcl 18 0 q8_
   have q19_:=nz hcl 19 0 q18_
   simp only [hD,p0_,q2_,q3_,q8_,q18_,q19_,cq,oT] at ht hs
   subst ht
   refine Qab (v:=pointer (some ⟨b3,0,none⟩)) rfl rfl rfl (g_d rfl ?_)
   try dsimp only [set0,setS]
   refine hk _ _ ⟨O,?_,hs.cast ?_⟩<;>simp only [oT,lq,cq,Nat.reduceBEq,p0_,q2_,q3_,q8_,q18_,q19_]
  ·
   rintro D t w hD hp hcl ⟨O,ht,hs⟩ rest hk
   obtain ⟨p1_,_⟩:=hp
   obtain ⟨p0_,_⟩:=(hcl.get 1 (by decide)) p1_
   have q3_:=nz hcl 3 0 hD
   have q8_:=nz hcl 8 0 q3_
   have q18_:=nz hcl 18 0 q8_
   have q19_:=nz hcl 19 0 q18_
   simp only [hD,p0_,p1_,q3_,q8_,q18_,q19_,cq,oT] at ht hs
   subst ht
   refine Qa1 (n:=1) (m:=1) rfl (fun _=>rfl) gd5.1 gd5.2 rfl rfl rfl rfl rfl (g_d rfl ?_)
   try dsimp only [set0,setS]
   refine hk _ _ ⟨O,?_,hs.cast ?_⟩<;>simp only [oT,lq,cq,Nat.reduceBEq,p0_,p1_,q3_,q8_,q18_,q19_]
  ·
   rintro D t w hD hp hcl ⟨O,ht,hs⟩ rest hk
   obtain ⟨p2_,_⟩:=hp
   obtain ⟨p1_,_⟩:=(hcl.get 2 (by decide)) p2_
   obtain ⟨p0_,_⟩:=(hcl.get 1 (by decide)) p1_
   have q8_:=nz hcl 8 0 hD
   have q18_:=nz hcl 18 0 q8_
   have q19_:=nz hcl 19 0 q18_
   simp only [hD,p0_,p1_,p2_,q8_,q18_,q19_,cq,oT] at ht hs
   subst ht
   refine Qaz rfl rfl (v:=int .i64 (a2.get 1 0)) rfl rfl (fun _=>rfl) (by rw [Nat.zero_add];exact cells_load (hs.box hp1) _ _ (encA_at (fkI .i64).len _ _ 0 gd5.1 gd5.2)) (g_d rfl ?_)
   try dsimp only [set0,setS]
   refine hk _ _ ⟨O,?_,hs.cast ?_⟩<;>simp only [oT,lq,cq,Nat.reduceBEq,p0_,p1_,p2_,q8_,q18_,q19_]
  ·
   rintro D t w hD hp hcl ⟨O,ht,hs⟩ rest hk
   have q5_:=nz hcl 5 0 hD
   have q6_:=nz hcl 6 0 q5_
   have q7_:=nz hcl 7 0 q6_
   have q8_:=nz hcl 8 1 q7_
   have q18_:=nz hcl 18 0 q8_
   have q19_:=nz hcl 19 0 q18_
   simp only [hD,q5_,q6_,q7_,q8_,q18_,q19_,cq,oT] at ht hs
   subst ht
   refine Qab (v:=pointer (some ⟨b3,0,none⟩)) rfl rfl rfl (g_d rfl ?_)
   try dsimp only [set0,setS]
   refine hk _ _ ⟨O,?_,hs.cast ?_⟩<;>simp only [oT,lq,cq,Nat.reduceBEq,q5_,q6_,q7_,q8_,q18_,q19_]
  ·
   rintro D t w hD hp hcl ⟨O,ht,hs⟩ rest hk
   obtain ⟨p4_,_⟩:=hp
   have q6_:=nz hcl 6 0 hD
   have q7_:=nz hcl 7 0 q6_
   have q8_:=nz hcl 8 1 q7_
   have q18_:=nz hcl 18 0 q8_
   have q19_:=nz hcl 19 0 q18_
   simp only [hD,p4_,q6_,q7_,q8_,q18_,q19_,cq,oT] at ht hs
   subst ht
   refine Qab (v:=pointer (some ⟨b3,0,none⟩)) rfl rfl rfl (g_d rfl ?_)
   try dsimp only [set0,setS]
   refine hk _ _ ⟨O,?_,hs.cast ?_⟩<;>simp only [oT,lq,cq,Nat.reduceBEq,p4_,q6_,q7_,q8_,q18_,q19_]
  ·
   rintro D t w hD hp hcl ⟨O,ht,hs⟩ rest hk
   obtain ⟨p5_,_⟩:=hp
   obtain ⟨p4_,_⟩:=(hcl.get 5 (by decide)) p5_
   have q7_:=nz hcl 7 0 hD
   have q8_:=nz hcl 8 1 q7_
   have q18_:=nz hcl 18 0 q8_
   have q19_:=nz hcl 19 0 q18_
   simp only [hD,p4_,p5_,q7_,q8_,q18_,q19_,cq,oT] at ht hs
   subst ht
   refine Qa1 (n:=3) (m:=1) rfl (fun _=>rfl) gd6.1 gd6.2 rfl rfl rfl rfl rfl (g_d rfl ?_)
   try dsimp only [set0,setS]
   refine hk _ _ ⟨O,?_,hs.cast ?_⟩<;>simp only [oT,lq,cq,Nat.reduceBEq,p4_,p5_,q7_,q8_,q18_,q19_]
  ·
   rintro D t w hD hp hcl ⟨O,ht,hs⟩ rest hk
   obtain ⟨p6_,_⟩:=hp
   obtain ⟨p5_,_⟩:=(hcl.get 6 (by decide)) p6_
   obtain ⟨p4_,_⟩:=(hcl.get 5 (by decide)) p5_
   have q8_:=nz hcl 8 1 hD
   have q18_:=nz hcl 18 0 q8_
   have q19_:=nz hcl 19 0 q18_
   simp only [hD,p4_,p5_,p6_,q8_,q18_,q19_,cq,oT] at ht hs
   subst ht
   refine Qaz rfl rfl (v:=int .i64 (a2.get 3 0)) rfl rfl (fun _=>rfl) (by rw [Nat.zero_add];exact cells_load (hs.box hp1) _ _ (encA_at (fkI .i64).len _ _ 0 gd6.1 gd6.2)) (g_d rfl ?_)
   try dsimp only [set0,setS]
   refine hk _ _ ⟨O,?_,hs.cast ?_⟩<;>simp only [oT,lq,cq,Nat.reduceBEq,p4_,p5_,p6_,q8_,q18_,q19_]
  ·
   rintro D t w hD hp hcl ⟨O,ht,hs⟩ rest hk
   obtain ⟨p3_,p7_,_⟩:=hp
   obtain ⟨p6_,_⟩:=(hcl.get 7 (by decide)) p7_
   obtain ⟨p5_,_⟩:=(hcl.get 6 (by decide)) p6_
   obtain ⟨p4_,_⟩:=(hcl.get 5 (by decide)) p5_
   obtain ⟨p2_,_⟩:=(hcl.get 3 (by decide)) p3_
   obtain ⟨p1_,_⟩:=(hcl.get 2 (by decide)) p2_
   obtain ⟨p0_,_⟩:=(hcl.get 1 (by decide)) p1_
   have q18_:=nz hcl 18 0 hD
   have q19_:=nz hcl 19 0 q18_
   simp only [hD,p0_,p1_,p2_,p3_,p4_,p5_,p6_,p7_,q18_,q19_,cq,oT] at ht hs
   subst ht
   refine Qab (v:=int .i64 (i64w ((a2.get 1 0)+(a2.get 3 0)))) rfl rfl rfl (g_d rfl ?_)
   try dsimp only [set0,setS]
   refine hk _ _ ⟨O,?_,hs.cast ?_⟩<;>simp only [oT,lq,cq,Nat.reduceBEq,p0_,p1_,p2_,p3_,p4_,p5_,p6_,p7_,q18_,q19_]
  ·
   rintro D t w hD hp hcl ⟨O,ht,hs⟩ rest hk
   have q10_:=nz hcl 10 0 hD
   have q11_:=nz hcl 11 0 q10_
   have q12_:=nz hcl 12 0 q11_
   have q17_:=nz hcl 17 0 q12_
   have q18_:=nz hcl 18 1 q17_
   have q19_:=nz hcl 19 0 q18_
   simp only [hD,q10_,q11_,q12_,q17_,q18_,q19_,cq,oT] at ht hs
   subst ht
   refine Qab (v:=pointer (some ⟨b3,0,none⟩)) rfl rfl rfl (g_d rfl ?_)
   try dsimp only [set0,setS]
   refine hk _ _ ⟨O,?_,hs.cast ?_⟩<;>simp only [oT,lq,cq,Nat.reduceBEq,q10_,q11_,q12_,q17_,q18_,q19_]
  ·
   rintro D t w hD hp hcl ⟨O,ht,hs⟩ rest hk
   obtain ⟨p9_,_⟩:=hp
   have q11_:=nz hcl 11 0 hD
   have q12_:=nz hcl 12 0 q11_
   have q17_:=nz hcl 17 0 q12_
   have q18_:=nz hcl 18 1 q17_
   have q19_:=nz hcl 19 0 q18_
   simp only [hD,p9_,q11_,q12_,q17_,q18_,q19_,cq,oT] at ht hs
   subst ht
   refine Qab (v:=pointer (some ⟨b3,0,none⟩)) rfl rfl rfl (g_d rfl ?_)
   try dsimp only [set0,setS]
   refine hk _ _ ⟨O,?_,hs.cast ?_⟩<;>simp only [oT,lq,cq,Nat.reduceBEq,p9_,q11_,q12_,q17_,q18_,q19_]
  ·
   rintro D t w hD hp hcl ⟨O,ht,hs⟩ rest hk
   obtain ⟨p10_,_⟩:=hp
   obtain ⟨p9_,_⟩:=(hcl.get 10 (by decide)) p10_
   have q12_:=nz hcl 12 0 hD
   have q17_:=nz hcl 17 0 q12_
   have q18_:=nz hcl 18 1 q17_
   have q19_:=nz hcl 19 0 q18_
   simp only [hD,p9_,p10_,q12_,q17_,q18_,q19_,cq,oT] at ht hs
   subst ht
   refine Qa1 (n:=0) (m:=1) rfl (fun _=>rfl) gd7.1 gd7.2 rfl rfl rfl rfl rfl (g_d rfl ?_)
   try dsimp only [set0,setS]
   refine hk _ _ ⟨O,?_,hs.cast ?_⟩<;>simp only [oT,lq,cq,Nat.reduceBEq,p9_,p10_,q12_,q17_,q18_,q19_]
  ·
   rintro D t w hD hp hcl ⟨O,ht,hs⟩ rest hk
   obtain ⟨p11_,_⟩:=hp
   obtain ⟨p10_,_⟩:=(hcl.get 11 (by decide)) p11_
   obtain ⟨p9_,_⟩:=(hcl.get 10 (by decide)) p10_
   have q17_:=nz hcl 17 0 hD
   have q18_:=nz hcl 18 1 q17_
   have q19_:=nz hcl 19 0 q18_
   simp only [hD,p9_,p10_,p11_,q17_,q18_,q19_,cq,oT] at ht hs
   subst ht
   refine Qaz rfl rfl (v:=int .i64 (a2.get 0 0)) rfl rfl (fun _=>rfl) (by rw [Nat.zero_add];exact cells_load (hs.box hp1) _ _ (encA_at (fkI .i64).len _ _ 0 gd7.1 gd7.2)) (g_d rfl ?_)
   try dsimp only [set0,setS]
   refine hk _ _ ⟨O,?_,hs.cast ?_⟩<;>simp only [oT,lq,cq,Nat.reduceBEq,p9_,p10_,p11_,q17_,q18_,q19_]
  ·
   rintro D t w hD hp hcl ⟨O,ht,hs⟩ rest hk
   have q14_:=nz hcl 14 0 hD
   have q15_:=nz hcl 15 0 q14_
   have q16_:=nz hcl 16 0 q15_
   have q17_:=nz hcl 17 1 q16_
   have q18_:=nz hcl 18 1 q17_
   have q19_:=nz hcl 19 0 q18_
   simp only [hD,q14_,q15_,q16_,q17_,q18_,q19_,cq,oT] at ht hs
   subst ht
   refine Qab (v:=pointer (some ⟨b3,0,none⟩)) rfl rfl rfl (g_d rfl ?_)
   try dsimp only [set0,setS]
   refine hk _ _ ⟨O,?_,hs.cast ?_⟩<;>simp only [oT,lq,cq,Nat.reduceBEq,q14_,q15_,q16_,q17_,q18_,q19_]
  ·
   rintro D t w hD hp hcl ⟨O,ht,hs⟩ rest hk
   obtain ⟨p13_,_⟩:=hp
   have q15_:=nz hcl 15 0 hD
   have q16_:=nz hcl 16 0 q15_
   have q17_:=nz hcl 17 1 q16_
   have q18_:=nz hcl 18 1 q17_
   have q19_:=nz hcl 19 0 q18_
   simp only [hD,p13_,q15_,q16_,q17_,q18_,q19_,cq,oT] at ht hs
   subst ht
   refine Qab (v:=pointer (some ⟨b3,0,none⟩)) rfl rfl rfl (g_d rfl ?_)
   try dsimp only [set0,setS]
   refine hk _ _ ⟨O,?_,hs.cast ?_⟩<;>simp only [oT,lq,cq,Nat.reduceBEq,p13_,q15_,q16_,q17_,q18_,q19_]
  ·
   rintro D t w hD hp hcl ⟨O,ht,hs⟩ rest hk
   obtain ⟨p14_,_⟩:=hp
   obtain ⟨p13_,_⟩:=(hcl.get 14 (by decide)) p14_
   have q16_:=nz hcl 16 0 hD
   have q17_:=nz hcl 17 1 q16_
   have q18_:=nz hcl 18 1 q17_
   have q19_:=nz hcl 19 0 q18_
   simp only [hD,p13_,p14_,q16_,q17_,q18_,q19_,cq,oT] at ht hs
   subst ht
   refine Qa1 (n:=4) (m:=1) rfl (fun _=>rfl) gd8.1 gd8.2 rfl rfl rfl rfl rfl (g_d rfl ?_)
   try dsimp only [set0,setS]
   refine hk _ _ ⟨O,?_,hs.cast ?_⟩<;>simp only [oT,lq,cq,Nat.reduceBEq,p13_,p14_,q16_,q17_,q18_,q19_]
  ·
   rintro D t w hD hp hcl ⟨O,ht,hs⟩ rest hk
   obtain ⟨p15_,_⟩:=hp
   obtain ⟨p14_,_⟩:=(hcl.get 15 (by decide)) p15_
   obtain ⟨p13_,_⟩:=(hcl.get 14 (by decide)) p14_
   have q17_:=nz hcl 17 1 hD
   have q18_:=nz hcl 18 1 q17_
   have q19_:=nz hcl 19 0 q18_
   simp only [hD,p13_,p14_,p15_,q17_,q18_,q19_,cq,oT] at ht hs
   subst ht
   refine Qaz rfl rfl (v:=int .i64 (a2.get 4 0)) rfl rfl (fun _=>rfl) (by rw [Nat.zero_add];exact cells_load (hs.box hp1) _ _ (encA_at (fkI .i64).len _ _ 0 gd8.1 gd8.2)) (g_d rfl ?_)
   try dsimp only [set0,setS]
   refine hk _ _ ⟨O,?_,hs.cast ?_⟩<;>simp only [oT,lq,cq,Nat.reduceBEq,p13_,p14_,p15_,q17_,q18_,q19_]
  ·
   rintro D t w hD hp hcl ⟨O,ht,hs⟩ rest hk
   obtain ⟨p12_,p16_,_⟩:=hp
   obtain ⟨p15_,_⟩:=(hcl.get 16 (by decide)) p16_
   obtain ⟨p14_,_⟩:=(hcl.get 15 (by decide)) p15_
   obtain ⟨p13_,_⟩:=(hcl.get 14 (by decide)) p14_
   obtain ⟨p11_,_⟩:=(hcl.get 12 (by decide)) p12_
   obtain ⟨p10_,_⟩:=(hcl.get 11 (by decide)) p11_
   obtain ⟨p9_,_⟩:=(hcl.get 10 (by decide)) p10_
   have q18_:=nz hcl 18 1 hD
   have q19_:=nz hcl 19 0 q18_
   simp only [hD,p9_,p10_,p11_,p12_,p13_,p14_,p15_,p16_,q18_,q19_,cq,oT] at ht hs
   subst ht
   refine Qab (v:=int .i64 (i64w ((a2.get 0 0)+(a2.get 4 0)))) rfl rfl rfl (g_d rfl ?_)
   try dsimp only [set0,setS]
   refine hk _ _ ⟨O,?_,hs.cast ?_⟩<;>simp only [oT,lq,cq,Nat.reduceBEq,p9_,p10_,p11_,p12_,p13_,p14_,p15_,p16_,q18_,q19_]
  ·
   rintro D t w hD hp hcl ⟨O,ht,hs⟩ rest hk
   obtain ⟨p8_,p17_,_⟩:=hp
   obtain ⟨p12_,p16_,_⟩:=(hcl.get 17 (by decide)) p17_
   obtain ⟨p15_,_⟩:=(hcl.get 16 (by decide)) p16_
   obtain ⟨p14_,_⟩:=(hcl.get 15 (by decide)) p15_
   obtain ⟨p13_,_⟩:=(hcl.get 14 (by decide)) p14_
   obtain ⟨p11_,_⟩:=(hcl.get 12 (by decide)) p12_
   obtain ⟨p10_,_⟩:=(hcl.get 11 (by decide)) p11_
   obtain ⟨p9_,_⟩:=(hcl.get 10 (by decide)) p10_
   obtain ⟨p3_,p7_,_⟩:=(hcl.get 8 (by decide)) p8_
   obtain ⟨p6_,_⟩:=(hcl.get 7 (by decide)) p7_
   obtain ⟨p5_,_⟩:=(hcl.get 6 (by decide)) p6_
   obtain ⟨p4_,_⟩:=(hcl.get 5 (by decide)) p5_
   obtain ⟨p2_,_⟩:=(hcl.get 3 (by decide)) p3_
   obtain ⟨p1_,_⟩:=(hcl.get 2 (by decide)) p2_
   obtain ⟨p0_,_⟩:=(hcl.get 1 (by decide)) p1_
   have q19_:=nz hcl 19 0 hD
   simp only [hD,p0_,p1_,p2_,p3_,p4_,p5_,p6_,p7_,p8_,p9_,p10_,p11_,p12_,p13_,p14_,p15_,p16_,p17_,q19_,cq,oT] at ht hs
   subst ht
   refine Qab (v:=agg (Qam (⟨0,i64w ((a2.get 1 0)+(a2.get 3 0)),i64w ((a2.get 0 0)+(a2.get 4 0)),0⟩:Qar)).toArray) rfl rfl (Qcn (cs:=(Qam (⟨0,i64w ((a2.get 1 0)+(a2.get 3 0)),i64w ((a2.get 0 0)+(a2.get 4 0)),0⟩:Qar))) (segs:=[[int .i64 0],[int .i64 0],[int .i64 0],[int .i64 0]]) rfl rfl (fun _=>rfl) ⟨rfl,(fun _=>rfl),rfl,(fun _=>rfl),rfl,(fun _=>rfl),rfl,(fun _=>rfl),trivial⟩ (by simp only [List.map_cons,List.map_nil,List.forall_mem_cons,List.not_mem_nil,false_implies,implies_true,and_true];exact ⟨⟨_,rfl,rfl⟩,⟨_,rfl,rfl⟩⟩) (by first|rfl|(simp [ev,Qam];done)|(simp [ev,Qam];rfl))) ?_
   refine g_d rfl ?_
   try dsimp only [set0,setS]
   refine hk _ _ ⟨O,?_,hs.cast ?_⟩<;>simp only [oT,lq,cq,Nat.reduceBEq,p0_,p1_,p2_,p3_,p4_,p5_,p6_,p7_,p8_,p9_,p10_,p11_,p12_,p13_,p14_,p15_,p16_,p17_,q19_]
  ·
   rintro D t w hD hp hcl ⟨O,ht,hs⟩ rest hk
   obtain ⟨p18_,p0_,p1_,p2_,p3_,p4_,p5_,p6_,p7_,p8_,p9_,p10_,p11_,p12_,p13_,p14_,p15_,p16_,p17_,_,_⟩:=hp
   simp only [hD,p0_,p1_,p2_,p3_,p4_,p5_,p6_,p7_,p8_,p9_,p10_,p11_,p12_,p13_,p14_,p15_,p16_,p17_,p18_,cq,oT] at ht hs
   subst ht
   refine Qa9 (n:=4) hs (Qa4.len _) rfl rfl (vs:=(Qam (⟨0,i64w ((a2.get 1 0)+(a2.get 3 0)),i64w ((a2.get 0 0)+(a2.get 4 0)),0⟩:Qar))) rfl rfl rfl (fun _=>rfl) (Qa4.len _) (Qa4.one _) ?_
   intro w hs
   refine g_n rfl ?_
   try dsimp only [set0,setS]
   have hs:=hs.push 0 (by simp)
   refine hk _ _ ⟨O,?_,hs.cast ?_⟩<;>simp only [oT,lq,cq,Nat.reduceBEq,p0_,p1_,p2_,p3_,p4_,p5_,p6_,p7_,p8_,p9_,p10_,p11_,p12_,p13_,p14_,p15_,p16_,p17_,p18_]
  intro D t w hall hI
  obtain ⟨O,ht,hs⟩:=hI
  have p0_:=hall 0 (by decide)
  have p1_:=hall 1 (by decide)
  have p2_:=hall 2 (by decide)
  have p3_:=hall 3 (by decide)
  have p4_:=hall 4 (by decide)
  have p5_:=hall 5 (by decide)
  have p6_:=hall 6 (by decide)
  have p7_:=hall 7 (by decide)
  have p8_:=hall 8 (by decide)
  have p9_:=hall 9 (by decide)
  have p10_:=hall 10 (by decide)
  have p11_:=hall 11 (by decide)
  have p12_:=hall 12 (by decide)
  have p13_:=hall 13 (by decide)
  have p14_:=hall 14 (by decide)
  have p15_:=hall 15 (by decide)
  have p16_:=hall 16 (by decide)
  have p17_:=hall 17 (by decide)
  have p18_:=hall 18 (by decide)
  have p19_:=hall 19 (by decide)
  simp only [p0_,p1_,p2_,p3_,p4_,p5_,p6_,p7_,p8_,p9_,p10_,p11_,p12_,p13_,p14_,p15_,p16_,p17_,p18_,p19_,cq,oT] at ht hs
  subst ht
  obtain rfl:=QsJ H
  refine QaK Try.func84 (v:=agg (Qam (⟨0,i64w ((a2.get 1 0)+(a2.get 3 0)),i64w ((a2.get 0 0)+(a2.get 4 0)),0⟩:Qar)).toArray) (resC rfl ⟨⟨_,rfl,(run_loadVar_agg (es:=(Qam (⟨0,i64w ((a2.get 1 0)+(a2.get 3 0)),i64w ((a2.get 0 0)+(a2.get 4 0)),0⟩:Qar))) rfl (congrArg (Result.ok · _) (Qa4.len _).symm) (cells_all (hs.cells 0 rfl)))⟩,trivial⟩) ?_
  have hs:St _ [] _:=St.take (Γ':=[_,_]) hs
  exact ⟨_,rfl,rfl,hs⟩
 intro hb
 rw [if_neg (b_beq_f hb)] at H
 refine g_d rfl ?_
 try dsimp only [set0,setS]
 refine Qab (v:=bool false) rfl rfl rfl (g_d rfl (Qaa (Qax rfl (QaS ?_))))
 refine Qa5 (Qag ?_)
 obtain ⟨gd9,H⟩:=ite_get H
 obtain ⟨gd10,H⟩:=ite_get H
 obtain ⟨gd11,H⟩:=ite_get H
 obtain ⟨gd12,H⟩:=ite_get H
 obtain ⟨gd13,H⟩:=ite_get H
 obtain ⟨gd14,H⟩:=ite_get H
 refine QbT ?_
 intro T hT
 refine Qcg (n:=40) rfl [0,1,2,3,4,5,6,7,8,9,10,11,12,13,14,15,16,17,18,19,20,21,22,23,24,25,26,27,28,29,30,31,32,33,34,35,36,37,38,39] [0,1,2,3,4,5,6,7,8,9,10,11,12,13,14,15,16,17,18,19,20,21,22,23,24,25,26,27,28,29,30,31,32,33,34,35,36,37,38,39] rfl rfl (Inv:=fun D t w=>∃ O:Nat→Value,t=(agg (Qam a1).toArray::pointer (some ⟨b3,0,none⟩)::int .i64 a5::pointer (some ⟨b6,0,none⟩)::O 4::O 5::pointer (some ⟨b8,0,none⟩)::int .i64 a5::bool false::bool false::oT O 1 (O 20::O 21::O 22::O 23::O 24::O 25::O 26::O 27::O 28::bool false::bool false::O 31::O 32::O 33::O 34::O 35::O 36::O 37::O 38::O 39::oT O 4 (cnd (D 0) (pointer (some ⟨b6,0,none⟩)) (O 50)::cnd (D 1) (int .i64 a1.Qa3) (O 51)::cnd (D 2) (pointer (some ⟨b3,0,none⟩)) (O 52)::cnd (D 3) (pointer (some ⟨b3,0,none⟩)) (O 53)::cnd (D 4) (pointer (some ⟨b3,0+(0:Int).toNat*1,none⟩)) (O 54)::cnd (D 5) (int .i64 (a2.get 0 0)) (O 55)::cnd (D 6) (int .i64 (i64w (a1.Qa3 - (a2.get 0 0)))) (O 56)::cnd (D 7) (pointer (some ⟨b3,0,none⟩)) (O 57)::cnd (D 8) (pointer (some ⟨b3,0,none⟩)) (O 58)::cnd (D 9) (pointer (some ⟨b3,0+(1:Int).toNat*1,none⟩)) (O 59)::cnd (D 10) (int .i64 (a2.get 1 0)) (O 60)::cnd (D 11) (int .i64 (i64w ((i64w (a1.Qa3 - (a2.get 0 0))) - (a2.get 1 0)))) (O 61)::cnd (D 12) (pointer (some ⟨b6,1,none⟩)) (O 62)::cnd (D 13) (int .i64 a1.QaY) (O 63)::cnd (D 14) (pointer (some ⟨b3,0,none⟩)) (O 64)::cnd (D 15) (pointer (some ⟨b3,0,none⟩)) (O 65)::cnd (D 16) (pointer (some ⟨b3,0+(2:Int).toNat*1,none⟩)) (O 66)::cnd (D 17) (int .i64 (a2.get 2 0)) (O 67)::cnd (D 18) (int .i64 (i64w (a1.QaY - (a2.get 2 0)))) (O 68)::cnd (D 19) (pointer (some ⟨b3,0,none⟩)) (O 69)::cnd (D 20) (pointer (some ⟨b3,0,none⟩)) (O 70)::cnd (D 21) (pointer (some ⟨b3,0+(3:Int).toNat*1,none⟩)) (O 71)::cnd (D 22) (int .i64 (a2.get 3 0)) (O 72)::cnd (D 23) (int .i64 (i64w ((i64w (a1.QaY - (a2.get 2 0))) - (a2.get 3 0)))) (O 73)::cnd (D 24) (pointer (some ⟨b6,2,none⟩)) (O 74)::cnd (D 25) (int .i64 a1.QaZ) (O 75)::cnd (D 26) (pointer (some ⟨b3,0,none⟩)) (O 76)::cnd (D 27) (pointer (some ⟨b3,0,none⟩)) (O 77)::cnd (D 28) (pointer (some ⟨b3,0+(4:Int).toNat*1,none⟩)) (O 78)::cnd (D 29) (int .i64 (a2.get 4 0)) (O 79)::cnd (D 30) (int .i64 (i64w (a1.QaZ - (a2.get 4 0)))) (O 80)::cnd (D 31) (pointer (some ⟨b3,0,none⟩)) (O 81)::cnd (D 32) (pointer (some ⟨b3,0,none⟩)) (O 82)::cnd (D 33) (pointer (some ⟨b3,0+(5:Int).toNat*1,none⟩)) (O 83)::cnd (D 34) (int .i64 (a2.get 5 0)) (O 84)::cnd (D 35) (int .i64 (i64w ((i64w (a1.QaZ - (a2.get 4 0))) - (a2.get 5 0)))) (O 85)::cnd (D 36) (pointer (some ⟨b6,3,none⟩)) (O 86)::cnd (D 37) (int .i64 a1.QaU) (O 87)::cnd (D 38) (agg (Qam (⟨i64w ((i64w (a1.Qa3 - (a2.get 0 0))) - (a2.get 1 0)),i64w ((i64w (a1.QaY - (a2.get 2 0))) - (a2.get 3 0)),i64w ((i64w (a1.QaZ - (a2.get 4 0))) - (a2.get 5 0)),a1.QaU⟩:Qar)).toArray) (O 88)::[])))∧St w0 [Cells b8 (cnd (D 39) (Qam (⟨i64w ((i64w (a1.Qa3 - (a2.get 0 0))) - (a2.get 1 0)),i64w ((i64w (a1.QaY - (a2.get 2 0))) - (a2.get 3 0)),i64w ((i64w (a1.QaZ - (a2.get 4 0))) - (a2.get 5 0)),a1.QaU⟩:Qar)) (Qam QbW)) 62,Cells b6 (Qam a1) 62] w) ?_ ⟨⟨⟨⟨⟨⟨⟨⟨⟨⟨⟨⟨⟨⟨⟨⟨⟨⟨⟨⟨⟨⟨⟨⟨⟨⟨⟨⟨⟨⟨⟨⟨⟨⟨⟨⟨⟨⟨⟨⟨trivial,?_⟩,?_⟩,?_⟩,?_⟩,?_⟩,?_⟩,?_⟩,?_⟩,?_⟩,?_⟩,?_⟩,?_⟩,?_⟩,?_⟩,?_⟩,?_⟩,?_⟩,?_⟩,?_⟩,?_⟩,?_⟩,?_⟩,?_⟩,?_⟩,?_⟩,?_⟩,?_⟩,?_⟩,?_⟩,?_⟩,?_⟩,?_⟩,?_⟩,?_⟩,?_⟩,?_⟩,?_⟩,?_⟩,?_⟩,?_⟩ ?_
 ·
  intro w hh hbw
  have hs:=hs.samew hh hbw
  exact ⟨fun i=>T.getD i undef,(by subst hT;rfl),hs⟩
 ·
  rintro D t w hD hp hcl ⟨O,ht,hs⟩ rest hk
  have q1_:=nz hcl 1 0 hD
  have q6_:=nz hcl 6 0 q1_
  have q11_:=nz hcl 11 0 q6_
  have q38_:=nz hcl 38 0 q11_
  have q39_:=nz hcl 39 0 q38_
  simp only [hD,q1_,q6_,q11_,q38_,q39_,cq,oT] at ht hs
  subst ht
  refine Qab (v:=pointer (some ⟨b6,0,none⟩)) rfl rfl rfl (g_d rfl ?_)
  try dsimp only [set0,setS]
  refine hk _ _ ⟨O,?_,hs.cast ?_⟩<;>simp only [oT,lq,cq,Nat.reduceBEq,q1_,q6_,q11_,q38_,q39_]
 ·
  rintro D t w hD hp hcl ⟨O,ht,hs⟩ rest hk
  obtain ⟨p0_,_⟩:=hp
  have q6_:=nz hcl 6 0 hD
  have q11_:=nz hcl 11 0 q6_
  have q38_:=nz hcl 38 0 q11_
  have q39_:=nz hcl 39 0 q38_
  simp only [hD,p0_,q6_,q11_,q38_,q39_,cq,oT] at ht hs
  subst ht
  refine Qaz rfl rfl (v:=int .i64 a1.Qa3) rfl rfl (fun _=>rfl) (cells_load (hs.cells 1 rfl) 0 1 rfl) (g_d rfl ?_)
  try dsimp only [set0,setS]
  refine hk _ _ ⟨O,?_,hs.cast ?_⟩<;>simp only [oT,lq,cq,Nat.reduceBEq,p0_,q6_,q11_,q38_,q39_]
 ·
  rintro D t w hD hp hcl ⟨O,ht,hs⟩ rest hk
  have q3_:=nz hcl 3 0 hD
  have q4_:=nz hcl 4 0 q3_
  have q5_:=nz hcl 5 0 q4_
  have q6_:=nz hcl 6 1 q5_
  have q11_:=nz hcl 11 0 q6_
  have q38_:=nz hcl 38 0 q11_
  have q39_:=nz hcl 39 0 q38_
  simp only [hD,q3_,q4_,q5_,q6_,q11_,q38_,q39_,cq,oT] at ht hs
  subst ht
  refine Qab (v:=pointer (some ⟨b3,0,none⟩)) rfl rfl rfl (g_d rfl ?_)
  try dsimp only [set0,setS]
  refine hk _ _ ⟨O,?_,hs.cast ?_⟩<;>simp only [oT,lq,cq,Nat.reduceBEq,q3_,q4_,q5_,q6_,q11_,q38_,q39_]
 ·
  rintro D t w hD hp hcl ⟨O,ht,hs⟩ rest hk
  obtain ⟨p2_,_⟩:=hp
  have q4_:=nz hcl 4 0 hD
  have q5_:=nz hcl 5 0 q4_
  have q6_:=nz hcl 6 1 q5_
  have q11_:=nz hcl 11 0 q6_
  have q38_:=nz hcl 38 0 q11_
  have q39_:=nz hcl 39 0 q38_
  simp only [hD,p2_,q4_,q5_,q6_,q11_,q38_,q39_,cq,oT] at ht hs
  subst ht
  refine Qab (v:=pointer (some ⟨b3,0,none⟩)) rfl rfl rfl (g_d rfl ?_)
  try dsimp only [set0,setS]
  refine hk _ _ ⟨O,?_,hs.cast ?_⟩<;>simp only [oT,lq,cq,Nat.reduceBEq,p2_,q4_,q5_,q6_,q11_,q38_,q39_]
 ·
  rintro D t w hD hp hcl ⟨O,ht,hs⟩ rest hk
  obtain ⟨p3_,_⟩:=hp
  obtain ⟨p2_,_⟩:=(hcl.get 3 (by decide)) p3_
  have q5_:=nz hcl 5 0 hD
  have q6_:=nz hcl 6 1 q5_
  have q11_:=nz hcl 11 0 q6_
  have q38_:=nz hcl 38 0 q11_
  have q39_:=nz hcl 39 0 q38_
  simp only [hD,p2_,p3_,q5_,q6_,q11_,q38_,q39_,cq,oT] at ht hs
  subst ht
  refine Qa1 (n:=0) (m:=1) rfl (fun _=>rfl) gd9.1 gd9.2 rfl rfl rfl rfl rfl (g_d rfl ?_)
  try dsimp only [set0,setS]
  refine hk _ _ ⟨O,?_,hs.cast ?_⟩<;>simp only [oT,lq,cq,Nat.reduceBEq,p2_,p3_,q5_,q6_,q11_,q38_,q39_]
 ·
  rintro D t w hD hp hcl ⟨O,ht,hs⟩ rest hk
  obtain ⟨p4_,_⟩:=hp
  obtain ⟨p3_,_⟩:=(hcl.get 4 (by decide)) p4_
  obtain ⟨p2_,_⟩:=(hcl.get 3 (by decide)) p3_
  have q6_:=nz hcl 6 1 hD
  have q11_:=nz hcl 11 0 q6_
  have q38_:=nz hcl 38 0 q11_
  have q39_:=nz hcl 39 0 q38_
  simp only [hD,p2_,p3_,p4_,q6_,q11_,q38_,q39_,cq,oT] at ht hs
  subst ht
  refine Qaz rfl rfl (v:=int .i64 (a2.get 0 0)) rfl rfl (fun _=>rfl) (by rw [Nat.zero_add];exact cells_load (hs.box hp1) _ _ (encA_at (fkI .i64).len _ _ 0 gd9.1 gd9.2)) (g_d rfl ?_)
  try dsimp only [set0,setS]
  refine hk _ _ ⟨O,?_,hs.cast ?_⟩<;>simp only [oT,lq,cq,Nat.reduceBEq,p2_,p3_,p4_,q6_,q11_,q38_,q39_]
 ·
  rintro D t w hD hp hcl ⟨O,ht,hs⟩ rest hk
  obtain ⟨p1_,p5_,_⟩:=hp
  obtain ⟨p4_,_⟩:=(hcl.get 5 (by decide)) p5_
  obtain ⟨p3_,_⟩:=(hcl.get 4 (by decide)) p4_
  obtain ⟨p2_,_⟩:=(hcl.get 3 (by decide)) p3_
  obtain ⟨p0_,_⟩:=(hcl.get 1 (by decide)) p1_
  have q11_:=nz hcl 11 0 hD
  have q38_:=nz hcl 38 0 q11_
  have q39_:=nz hcl 39 0 q38_
  simp only [hD,p0_,p1_,p2_,p3_,p4_,p5_,q11_,q38_,q39_,cq,oT] at ht hs
  subst ht
  refine Qab (v:=int .i64 (i64w (a1.Qa3 - (a2.get 0 0)))) rfl rfl rfl (g_d rfl ?_)
  try dsimp only [set0,setS]
  refine hk _ _ ⟨O,?_,hs.cast ?_⟩<;>simp only [oT,lq,cq,Nat.reduceBEq,p0_,p1_,p2_,p3_,p4_,p5_,q11_,q38_,q39_]
 ·
  rintro D t w hD hp hcl ⟨O,ht,hs⟩ rest hk
  have q8_:=nz hcl 8 0 hD
  have q9_:=nz hcl 9 0 q8_
  have q10_:=nz hcl 10 0 q9_
  have q11_:=nz hcl 11 1 q10_
  have q38_:=nz hcl 38 0 q11_
  have q39_:=nz hcl 39 0 q38_
  simp only [hD,q8_,q9_,q10_,q11_,q38_,q39_,cq,oT] at ht hs
  subst ht
  refine Qab (v:=pointer (some ⟨b3,0,none⟩)) rfl rfl rfl (g_d rfl ?_)
  try dsimp only [set0,setS]
  refine hk _ _ ⟨O,?_,hs.cast ?_⟩<;>simp only [oT,lq,cq,Nat.reduceBEq,q8_,q9_,q10_,q11_,q38_,q39_]
 ·
  rintro D t w hD hp hcl ⟨O,ht,hs⟩ rest hk
  obtain ⟨p7_,_⟩:=hp
  have q9_:=nz hcl 9 0 hD
  have q10_:=nz hcl 10 0 q9_
  have q11_:=nz hcl 11 1 q10_
  have q38_:=nz hcl 38 0 q11_
  have q39_:=nz hcl 39 0 q38_
  simp only [hD,p7_,q9_,q10_,q11_,q38_,q39_,cq,oT] at ht hs
  subst ht
  refine Qab (v:=pointer (some ⟨b3,0,none⟩)) rfl rfl rfl (g_d rfl ?_)
  try dsimp only [set0,setS]
  refine hk _ _ ⟨O,?_,hs.cast ?_⟩<;>simp only [oT,lq,cq,Nat.reduceBEq,p7_,q9_,q10_,q11_,q38_,q39_]
 ·
  rintro D t w hD hp hcl ⟨O,ht,hs⟩ rest hk
  obtain ⟨p8_,_⟩:=hp
  obtain ⟨p7_,_⟩:=(hcl.get 8 (by decide)) p8_
  have q10_:=nz hcl 10 0 hD
  have q11_:=nz hcl 11 1 q10_
  have q38_:=nz hcl 38 0 q11_
  have q39_:=nz hcl 39 0 q38_
  simp only [hD,p7_,p8_,q10_,q11_,q38_,q39_,cq,oT] at ht hs
  subst ht
  refine Qa1 (n:=1) (m:=1) rfl (fun _=>rfl) gd10.1 gd10.2 rfl rfl rfl rfl rfl (g_d rfl ?_)
  try dsimp only [set0,setS]
  refine hk _ _ ⟨O,?_,hs.cast ?_⟩<;>simp only [oT,lq,cq,Nat.reduceBEq,p7_,p8_,q10_,q11_,q38_,q39_]
 ·
  rintro D t w hD hp hcl ⟨O,ht,hs⟩ rest hk
  obtain ⟨p9_,_⟩:=hp
  obtain ⟨p8_,_⟩:=(hcl.get 9 (by decide)) p9_
  obtain ⟨p7_,_⟩:=(hcl.get 8 (by decide)) p8_
  have q11_:=nz hcl 11 1 hD
  have q38_:=nz hcl 38 0 q11_
  have q39_:=nz hcl 39 0 q38_
  simp only [hD,p7_,p8_,p9_,q11_,q38_,q39_,cq,oT] at ht hs
  subst ht
  refine Qaz rfl rfl (v:=int .i64 (a2.get 1 0)) rfl rfl (fun _=>rfl) (by rw [Nat.zero_add];exact cells_load (hs.box hp1) _ _ (encA_at (fkI .i64).len _ _ 0 gd10.1 gd10.2)) (g_d rfl ?_)
  try dsimp only [set0,setS]
  refine hk _ _ ⟨O,?_,hs.cast ?_⟩<;>simp only [oT,lq,cq,Nat.reduceBEq,p7_,p8_,p9_,q11_,q38_,q39_]
 ·
  rintro D t w hD hp hcl ⟨O,ht,hs⟩ rest hk
  obtain ⟨p6_,p10_,_⟩:=hp
  obtain ⟨p9_,_⟩:=(hcl.get 10 (by decide)) p10_
  obtain ⟨p8_,_⟩:=(hcl.get 9 (by decide)) p9_
  obtain ⟨p7_,_⟩:=(hcl.get 8 (by decide)) p8_
  obtain ⟨p1_,p5_,_⟩:=(hcl.get 6 (by decide)) p6_
  obtain ⟨p4_,_⟩:=(hcl.get 5 (by decide)) p5_
  obtain ⟨p3_,_⟩:=(hcl.get 4 (by decide)) p4_
  obtain ⟨p2_,_⟩:=(hcl.get 3 (by decide)) p3_
  obtain ⟨p0_,_⟩:=(hcl.get 1 (by decide)) p1_
  have q38_:=nz hcl 38 0 hD
  have q39_:=nz hcl 39 0 q38_
  simp only [hD,p0_,p1_,p2_,p3_,p4_,p5_,p6_,p7_,p8_,p9_,p10_,q38_,q39_,cq,oT] at ht hs
  subst ht
  refine Qab (v:=int .i64 (i64w ((i64w (a1.Qa3 - (a2.get 0 0))) - (a2.get 1 0)))) rfl rfl rfl (g_d rfl ?_)
  try dsimp only [set0,setS]
  refine hk _ _ ⟨O,?_,hs.cast ?_⟩<;>simp only [oT,lq,cq,Nat.reduceBEq,p0_,p1_,p2_,p3_,p4_,p5_,p6_,p7_,p8_,p9_,p10_,q38_,q39_]
 ·
  rintro D t w hD hp hcl ⟨O,ht,hs⟩ rest hk
  have q13_:=nz hcl 13 0 hD
  have q18_:=nz hcl 18 0 q13_
  have q23_:=nz hcl 23 0 q18_
  have q38_:=nz hcl 38 1 q23_
  have q39_:=nz hcl 39 0 q38_
  simp only [hD,q13_,q18_,q23_,q38_,q39_,cq,oT] at ht hs
  subst ht
  refine Qab (v:=pointer (some ⟨b6,1,none⟩)) rfl rfl rfl (g_d rfl ?_)
  try dsimp only [set0,setS]
  refine hk _ _ ⟨O,?_,hs.cast ?_⟩<;>simp only [oT,lq,cq,Nat.reduceBEq,q13_,q18_,q23_,q38_,q39_]
 ·
  rintro D t w hD hp hcl ⟨O,ht,hs⟩ rest hk
  obtain ⟨p12_,_⟩:=hp
  have q18_:=nz hcl 18 0 hD
  have q23_:=nz hcl 23 0 q18_
  have q38_:=nz hcl 38 1 q23_
  have q39_:=nz hcl 39 0 q38_
  simp only [hD,p12_,q18_,q23_,q38_,q39_,cq,oT] at ht hs
  subst ht
  refine Qaz rfl rfl (v:=int .i64 a1.QaY) rfl rfl (fun _=>rfl) (cells_load (hs.cells 1 rfl) 1 1 rfl) (g_d rfl ?_)
  try dsimp only [set0,setS]
  refine hk _ _ ⟨O,?_,hs.cast ?_⟩<;>simp only [oT,lq,cq,Nat.reduceBEq,p12_,q18_,q23_,q38_,q39_]
 ·
  rintro D t w hD hp hcl ⟨O,ht,hs⟩ rest hk
  have q15_:=nz hcl 15 0 hD
  have q16_:=nz hcl 16 0 q15_
  have q17_:=nz hcl 17 0 q16_
  have q18_:=nz hcl 18 1 q17_
  have q23_:=nz hcl 23 0 q18_
  have q38_:=nz hcl 38 1 q23_
  have q39_:=nz hcl 39 0 q38_
  simp only [hD,q15_,q16_,q17_,q18_,q23_,q38_,q39_,cq,oT] at ht hs
  subst ht
  refine Qab (v:=pointer (some ⟨b3,0,none⟩)) rfl rfl rfl (g_d rfl ?_)
  try dsimp only [set0,setS]
  refine hk _ _ ⟨O,?_,hs.cast ?_⟩<;>simp only [oT,lq,cq,Nat.reduceBEq,q15_,q16_,q17_,q18_,q23_,q38_,q39_]
 ·
  rintro D t w hD hp hcl ⟨O,ht,hs⟩ rest hk
  obtain ⟨p14_,_⟩:=hp
  have q16_:=nz hcl 16 0 hD
  have q17_:=nz hcl 17 0 q16_
  have q18_:=nz hcl 18 1 q17_
  have q23_:=nz hcl 23 0 q18_
  have q38_:=nz hcl 38 1 q23_
  have q39_:=nz hcl 39 0 q38_
  simp only [hD,p14_,q16_,q17_,q18_,q23_,q38_,q39_,cq,oT] at ht hs
  subst ht
  refine Qab (v:=pointer (some ⟨b3,0,none⟩)) rfl rfl rfl (g_d rfl ?_)
  try dsimp only [set0,setS]
  refine hk _ _ ⟨O,?_,hs.cast ?_⟩<;>simp only [oT,lq,cq,Nat.reduceBEq,p14_,q16_,q17_,q18_,q23_,q38_,q39_]
 ·
  rintro D t w hD hp hcl ⟨O,ht,hs⟩ rest hk
  obtain ⟨p15_,_⟩:=hp
  obtain ⟨p14_,_⟩:=(hcl.get 15 (by decide)) p15_
  have q17_:=nz hcl 17 0 hD
  have q18_:=nz hcl 18 1 q17_
  have q23_:=nz hcl 23 0 q18_
  have q38_:=nz hcl 38 1 q23_
  have q39_:=nz hcl 39 0 q38_
  simp only [hD,p14_,p15_,q17_,q18_,q23_,q38_,q39_,cq,oT] at ht hs
  subst ht
  refine Qa1 (n:=2) (m:=1) rfl (fun _=>rfl) gd11.1 gd11.2 rfl rfl rfl rfl rfl (g_d rfl ?_)
  try dsimp only [set0,setS]
  refine hk _ _ ⟨O,?_,hs.cast ?_⟩<;>simp only [oT,lq,cq,Nat.reduceBEq,p14_,p15_,q17_,q18_,q23_,q38_,q39_]
 ·
  rintro D t w hD hp hcl ⟨O,ht,hs⟩ rest hk
  obtain ⟨p16_,_⟩:=hp
  obtain ⟨p15_,_⟩:=(hcl.get 16 (by decide)) p16_
  obtain ⟨p14_,_⟩:=(hcl.get 15 (by decide)) p15_
  have q18_:=nz hcl 18 1 hD
  have q23_:=nz hcl 23 0 q18_
  have q38_:=nz hcl 38 1 q23_
  have q39_:=nz hcl 39 0 q38_
  simp only [hD,p14_,p15_,p16_,q18_,q23_,q38_,q39_,cq,oT] at ht hs
  subst ht
  refine Qaz rfl rfl (v:=int .i64 (a2.get 2 0)) rfl rfl (fun _=>rfl) (by rw [Nat.zero_add];exact cells_load (hs.box hp1) _ _ (encA_at (fkI .i64).len _ _ 0 gd11.1 gd11.2)) (g_d rfl ?_)
  try dsimp only [set0,setS]
  refine hk _ _ ⟨O,?_,hs.cast ?_⟩<;>simp only [oT,lq,cq,Nat.reduceBEq,p14_,p15_,p16_,q18_,q23_,q38_,q39_]
 ·
  rintro D t w hD hp hcl ⟨O,ht,hs⟩ rest hk
  obtain ⟨p13_,p17_,_⟩:=hp
  obtain ⟨p16_,_⟩:=(hcl.get 17 (by decide)) p17_
  obtain ⟨p15_,_⟩:=(hcl.get 16 (by decide)) p16_
  obtain ⟨p14_,_⟩:=(hcl.get 15 (by decide)) p15_
  obtain ⟨p12_,_⟩:=(hcl.get 13 (by decide)) p13_
  have q23_:=nz hcl 23 0 hD
  have q38_:=nz hcl 38 1 q23_
  have q39_:=nz hcl 39 0 q38_
  simp only [hD,p12_,p13_,p14_,p15_,p16_,p17_,q23_,q38_,q39_,cq,oT] at ht hs
  subst ht
  refine Qab (v:=int .i64 (i64w (a1.QaY - (a2.get 2 0)))) rfl rfl rfl (g_d rfl ?_)
  try dsimp only [set0,setS]
  refine hk _ _ ⟨O,?_,hs.cast ?_⟩<;>simp only [oT,lq,cq,Nat.reduceBEq,p12_,p13_,p14_,p15_,p16_,p17_,q23_,q38_,q39_]
 ·
  rintro D t w hD hp hcl ⟨O,ht,hs⟩ rest hk
  have q20_:=nz hcl 20 0 hD
  have q21_:=nz hcl 21 0 q20_
  have q22_:=nz hcl 22 0 q21_
  have q23_:=nz hcl 23 1 q22_
  have q38_:=nz hcl 38 1 q23_
  have q39_:=nz hcl 39 0 q38_
  simp only [hD,q20_,q21_,q22_,q23_,q38_,q39_,cq,oT] at ht hs
  subst ht
  refine Qab (v:=pointer (some ⟨b3,0,none⟩)) rfl rfl rfl (g_d rfl ?_)
  try dsimp only [set0,setS]
  refine hk _ _ ⟨O,?_,hs.cast ?_⟩<;>simp only [oT,lq,cq,Nat.reduceBEq,q20_,q21_,q22_,q23_,q38_,q39_]
 ·
  rintro D t w hD hp hcl ⟨O,ht,hs⟩ rest hk
  obtain ⟨p19_,_⟩:=hp
  have q21_:=nz hcl 21 0 hD
  have q22_:=nz hcl 22 0 q21_
  have q23_:=nz hcl 23 1 q22_
  have q38_:=nz hcl 38 1 q23_
  have q39_:=nz hcl 39 0 q38_
  simp only [hD,p19_,q21_,q22_,q23_,q38_,q39_,cq,oT] at ht hs
  subst ht
  refine Qab (v:=pointer (some ⟨b3,0,none⟩)) rfl rfl rfl (g_d rfl ?_)
  try dsimp only [set0,setS]
  refine hk _ _ ⟨O,?_,hs.cast ?_⟩<;>simp only [oT,lq,cq,Nat.reduceBEq,p19_,q21_,q22_,q23_,q38_,q39_]
 ·
  rintro D t w hD hp hcl ⟨O,ht,hs⟩ rest hk
  obtain ⟨p20_,_⟩:=hp
  obtain ⟨p19_,_⟩:=(hcl.get 20 (by decide)) p20_
  have q22_:=nz hcl 22 0 hD
  have q23_:=nz hcl 23 1 q22_
  have q38_:=nz hcl 38 1 q23_
  have q39_:=nz hcl 39 0 q38_
  simp only [hD,p19_,p20_,q22_,q23_,q38_,q39_,cq,oT] at ht hs
  subst ht
  refine Qa1 (n:=3) (m:=1) rfl (fun _=>rfl) gd12.1 gd12.2 rfl rfl rfl rfl rfl (g_d rfl ?_)
  try dsimp only [set0,setS]
  refine hk _ _ ⟨O,?_,hs.cast ?_⟩<;>simp only [oT,lq,cq,Nat.reduceBEq,p19_,p20_,q22_,q23_,q38_,q39_]
 ·
  rintro D t w hD hp hcl ⟨O,ht,hs⟩ rest hk
  obtain ⟨p21_,_⟩:=hp
  obtain ⟨p20_,_⟩:=(hcl.get 21 (by decide)) p21_
  obtain ⟨p19_,_⟩:=(hcl.get 20 (by decide)) p20_
  have q23_:=nz hcl 23 1 hD
  have q38_:=nz hcl 38 1 q23_
  have q39_:=nz hcl 39 0 q38_
  simp only [hD,p19_,p20_,p21_,q23_,q38_,q39_,cq,oT] at ht hs
  subst ht
  refine Qaz rfl rfl (v:=int .i64 (a2.get 3 0)) rfl rfl (fun _=>rfl) (by rw [Nat.zero_add];exact cells_load (hs.box hp1) _ _ (encA_at (fkI .i64).len _ _ 0 gd12.1 gd12.2)) (g_d rfl ?_)
  try dsimp only [set0,setS]
  refine hk _ _ ⟨O,?_,hs.cast ?_⟩<;>simp only [oT,lq,cq,Nat.reduceBEq,p19_,p20_,p21_,q23_,q38_,q39_]
 ·
  rintro D t w hD hp hcl ⟨O,ht,hs⟩ rest hk
  obtain ⟨p18_,p22_,_⟩:=hp
  obtain ⟨p21_,_⟩:=(hcl.get 22 (by decide)) p22_
  obtain ⟨p20_,_⟩:=(hcl.get 21 (by decide)) p21_
  obtain ⟨p19_,_⟩:=(hcl.get 20 (by decide)) p20_
  obtain ⟨p13_,p17_,_⟩:=(hcl.get 18 (by decide)) p18_
  obtain ⟨p16_,_⟩:=(hcl.get 17 (by decide)) p17_
  obtain ⟨p15_,_⟩:=(hcl.get 16 (by decide)) p16_
  obtain ⟨p14_,_⟩:=(hcl.get 15 (by decide)) p15_
  obtain ⟨p12_,_⟩:=(hcl.get 13 (by decide)) p13_
  have q38_:=nz hcl 38 1 hD
  have q39_:=nz hcl 39 0 q38_
  simp only [hD,p12_,p13_,p14_,p15_,p16_,p17_,p18_,p19_,p20_,p21_,p22_,q38_,q39_,cq,oT] at ht hs
  subst ht
  refine Qab (v:=int .i64 (i64w ((i64w (a1.QaY - (a2.get 2 0))) - (a2.get 3 0)))) rfl rfl rfl (g_d rfl ?_)
  try dsimp only [set0,setS]
  refine hk _ _ ⟨O,?_,hs.cast ?_⟩<;>simp only [oT,lq,cq,Nat.reduceBEq,p12_,p13_,p14_,p15_,p16_,p17_,p18_,p19_,p20_,p21_,p22_,q38_,q39_]
 ·
  rintro D t w hD hp hcl ⟨O,ht,hs⟩ rest hk
  have q25_:=nz hcl 25 0 hD
  have q30_:=nz hcl 30 0 q25_
  have q35_:=nz hcl 35 0 q30_
  have q38_:=nz hcl 38 2 q35_
  have q39_:=nz hcl 39 0 q38_
  simp only [hD,q25_,q30_,q35_,q38_,q39_,cq,oT] at ht hs
  subst ht
  refine Qab (v:=pointer (some ⟨b6,2,none⟩)) rfl rfl rfl (g_d rfl ?_)
  try dsimp only [set0,setS]
  refine hk _ _ ⟨O,?_,hs.cast ?_⟩<;>simp only [oT,lq,cq,Nat.reduceBEq,q25_,q30_,q35_,q38_,q39_]
 ·
  rintro D t w hD hp hcl ⟨O,ht,hs⟩ rest hk
  obtain ⟨p24_,_⟩:=hp
  have q30_:=nz hcl 30 0 hD
  have q35_:=nz hcl 35 0 q30_
  have q38_:=nz hcl 38 2 q35_
  have q39_:=nz hcl 39 0 q38_
  simp only [hD,p24_,q30_,q35_,q38_,q39_,cq,oT] at ht hs
  subst ht
  refine Qaz rfl rfl (v:=int .i64 a1.QaZ) rfl rfl (fun _=>rfl) (cells_load (hs.cells 1 rfl) 2 1 rfl) (g_d rfl ?_)
  try dsimp only [set0,setS]
  refine hk _ _ ⟨O,?_,hs.cast ?_⟩<;>simp only [oT,lq,cq,Nat.reduceBEq,p24_,q30_,q35_,q38_,q39_]
 ·
  rintro D t w hD hp hcl ⟨O,ht,hs⟩ rest hk
  have q27_:=nz hcl 27 0 hD
  have q28_:=nz hcl 28 0 q27_
  have q29_:=nz hcl 29 0 q28_
  have q30_:=nz hcl 30 1 q29_
  have q35_:=nz hcl 35 0 q30_
  have q38_:=nz hcl 38 2 q35_
  have q39_:=nz hcl 39 0 q38_
  simp only [hD,q27_,q28_,q29_,q30_,q35_,q38_,q39_,cq,oT] at ht hs
  subst ht
  refine Qab (v:=pointer (some ⟨b3,0,none⟩)) rfl rfl rfl (g_d rfl ?_)
  try dsimp only [set0,setS]
  refine hk _ _ ⟨O,?_,hs.cast ?_⟩<;>simp only [oT,lq,cq,Nat.reduceBEq,q27_,q28_,q29_,q30_,q35_,q38_,q39_]
 ·
  rintro D t w hD hp hcl ⟨O,ht,hs⟩ rest hk
  obtain ⟨p26_,_⟩:=hp
  have q28_:=nz hcl 28 0 hD
  have q29_:=nz hcl 29 0 q28_
  have q30_:=nz hcl 30 1 q29_
  have q35_:=nz hcl 35 0 q30_
  have q38_:=nz hcl 38 2 q35_
  have q39_:=nz hcl 39 0 q38_
  simp only [hD,p26_,q28_,q29_,q30_,q35_,q38_,q39_,cq,oT] at ht hs
  subst ht
  refine Qab (v:=pointer (some ⟨b3,0,none⟩)) rfl rfl rfl (g_d rfl ?_)
  try dsimp only [set0,setS]
  refine hk _ _ ⟨O,?_,hs.cast ?_⟩<;>simp only [oT,lq,cq,Nat.reduceBEq,p26_,q28_,q29_,q30_,q35_,q38_,q39_]
 ·
  rintro D t w hD hp hcl ⟨O,ht,hs⟩ rest hk
  obtain ⟨p27_,_⟩:=hp
  obtain ⟨p26_,_⟩:=(hcl.get 27 (by decide)) p27_
  have q29_:=nz hcl 29 0 hD
  have q30_:=nz hcl 30 1 q29_
  have q35_:=nz hcl 35 0 q30_
  have q38_:=nz hcl 38 2 q35_
  have q39_:=nz hcl 39 0 q38_
  simp only [hD,p26_,p27_,q29_,q30_,q35_,q38_,q39_,cq,oT] at ht hs
  subst ht
  refine Qa1 (n:=4) (m:=1) rfl (fun _=>rfl) gd13.1 gd13.2 rfl rfl rfl rfl rfl (g_d rfl ?_)
  try dsimp only [set0,setS]
  refine hk _ _ ⟨O,?_,hs.cast ?_⟩<;>simp only [oT,lq,cq,Nat.reduceBEq,p26_,p27_,q29_,q30_,q35_,q38_,q39_]
 ·
  rintro D t w hD hp hcl ⟨O,ht,hs⟩ rest hk
  obtain ⟨p28_,_⟩:=hp
  obtain ⟨p27_,_⟩:=(hcl.get 28 (by decide)) p28_
  obtain ⟨p26_,_⟩:=(hcl.get 27 (by decide)) p27_
  have q30_:=nz hcl 30 1 hD
  have q35_:=nz hcl 35 0 q30_
  have q38_:=nz hcl 38 2 q35_
  have q39_:=nz hcl 39 0 q38_
  simp only [hD,p26_,p27_,p28_,q30_,q35_,q38_,q39_,cq,oT] at ht hs
  subst ht
  refine Qaz rfl rfl (v:=int .i64 (a2.get 4 0)) rfl rfl (fun _=>rfl) (by rw [Nat.zero_add];exact cells_load (hs.box hp1) _ _ (encA_at (fkI .i64).len _ _ 0 gd13.1 gd13.2)) (g_d rfl ?_)
  try dsimp only [set0,setS]
  refine hk _ _ ⟨O,?_,hs.cast ?_⟩<;>simp only [oT,lq,cq,Nat.reduceBEq,p26_,p27_,p28_,q30_,q35_,q38_,q39_]
 ·
  rintro D t w hD hp hcl ⟨O,ht,hs⟩ rest hk
  obtain ⟨p25_,p29_,_⟩:=hp
  obtain ⟨p28_,_⟩:=(hcl.get 29 (by decide)) p29_
  obtain ⟨p27_,_⟩:=(hcl.get 28 (by decide)) p28_
  obtain ⟨p26_,_⟩:=(hcl.get 27 (by decide)) p27_
  obtain ⟨p24_,_⟩:=(hcl.get 25 (by decide)) p25_
  have q35_:=nz hcl 35 0 hD
  have q38_:=nz hcl 38 2 q35_
  have q39_:=nz hcl 39 0 q38_
  simp only [hD,p24_,p25_,p26_,p27_,p28_,p29_,q35_,q38_,q39_,cq,oT] at ht hs
  subst ht
  refine Qab (v:=int .i64 (i64w (a1.QaZ - (a2.get 4 0)))) rfl rfl rfl (g_d rfl ?_)
  try dsimp only [set0,setS]
  refine hk _ _ ⟨O,?_,hs.cast ?_⟩<;>simp only [oT,lq,cq,Nat.reduceBEq,p24_,p25_,p26_,p27_,p28_,p29_,q35_,q38_,q39_]
 ·
  rintro D t w hD hp hcl ⟨O,ht,hs⟩ rest hk
  have q32_:=nz hcl 32 0 hD
  have q33_:=nz hcl 33 0 q32_
  have q34_:=nz hcl 34 0 q33_
  have q35_:=nz hcl 35 1 q34_
  have q38_:=nz hcl 38 2 q35_
  have q39_:=nz hcl 39 0 q38_
  simp only [hD,q32_,q33_,q34_,q35_,q38_,q39_,cq,oT] at ht hs
  subst ht
  refine Qab (v:=pointer (some ⟨b3,0,none⟩)) rfl rfl rfl (g_d rfl ?_)
  try dsimp only [set0,setS]
  refine hk _ _ ⟨O,?_,hs.cast ?_⟩<;>simp only [oT,lq,cq,Nat.reduceBEq,q32_,q33_,q34_,q35_,q38_,q39_]
 ·
  rintro D t w hD hp hcl ⟨O,ht,hs⟩ rest hk
  obtain ⟨p31_,_⟩:=hp
  have q33_:=nz hcl 33 0 hD
  have q34_:=nz hcl 34 0 q33_
  have q35_:=nz hcl 35 1 q34_
  have q38_:=nz hcl 38 2 q35_
  have q39_:=nz hcl 39 0 q38_
  simp only [hD,p31_,q33_,q34_,q35_,q38_,q39_,cq,oT] at ht hs
  subst ht
  refine Qab (v:=pointer (some ⟨b3,0,none⟩)) rfl rfl rfl (g_d rfl ?_)
  try dsimp only [set0,setS]
  refine hk _ _ ⟨O,?_,hs.cast ?_⟩<;>simp only [oT,lq,cq,Nat.reduceBEq,p31_,q33_,q34_,q35_,q38_,q39_]
 ·
  rintro D t w hD hp hcl ⟨O,ht,hs⟩ rest hk
  obtain ⟨p32_,_⟩:=hp
  obtain ⟨p31_,_⟩:=(hcl.get 32 (by decide)) p32_
  have q34_:=nz hcl 34 0 hD
  have q35_:=nz hcl 35 1 q34_
  have q38_:=nz hcl 38 2 q35_
  have q39_:=nz hcl 39 0 q38_
  simp only [hD,p31_,p32_,q34_,q35_,q38_,q39_,cq,oT] at ht hs
  subst ht
  refine Qa1 (n:=5) (m:=1) rfl (fun _=>rfl) gd14.1 gd14.2 rfl rfl rfl rfl rfl (g_d rfl ?_)
  try dsimp only [set0,setS]
  refine hk _ _ ⟨O,?_,hs.cast ?_⟩<;>simp only [oT,lq,cq,Nat.reduceBEq,p31_,p32_,q34_,q35_,q38_,q39_]
 ·
  rintro D t w hD hp hcl ⟨O,ht,hs⟩ rest hk
  obtain ⟨p33_,_⟩:=hp
  obtain ⟨p32_,_⟩:=(hcl.get 33 (by decide)) p33_
  obtain ⟨p31_,_⟩:=(hcl.get 32 (by decide)) p32_
  have q35_:=nz hcl 35 1 hD
  have q38_:=nz hcl 38 2 q35_
  have q39_:=nz hcl 39 0 q38_
  simp only [hD,p31_,p32_,p33_,q35_,q38_,q39_,cq,oT] at ht hs
  subst ht
  refine Qaz rfl rfl (v:=int .i64 (a2.get 5 0)) rfl rfl (fun _=>rfl) (by rw [Nat.zero_add];exact cells_load (hs.box hp1) _ _ (encA_at (fkI .i64).len _ _ 0 gd14.1 gd14.2)) (g_d rfl ?_)
  try dsimp only [set0,setS]
  refine hk _ _ ⟨O,?_,hs.cast ?_⟩<;>simp only [oT,lq,cq,Nat.reduceBEq,p31_,p32_,p33_,q35_,q38_,q39_]
 ·
  rintro D t w hD hp hcl ⟨O,ht,hs⟩ rest hk
  obtain ⟨p30_,p34_,_⟩:=hp
  obtain ⟨p33_,_⟩:=(hcl.get 34 (by decide)) p34_
  obtain ⟨p32_,_⟩:=(hcl.get 33 (by decide)) p33_
  obtain ⟨p31_,_⟩:=(hcl.get 32 (by decide)) p32_
  obtain ⟨p25_,p29_,_⟩:=(hcl.get 30 (by decide)) p30_
  obtain ⟨p28_,_⟩:=(hcl.get 29 (by decide)) p29_
  obtain ⟨p27_,_⟩:=(hcl.get 28 (by decide)) p28_
  obtain ⟨p26_,_⟩:=(hcl.get 27 (by decide)) p27_
  obtain ⟨p24_,_⟩:=(hcl.get 25 (by decide)) p25_
  have q38_:=nz hcl 38 2 hD
  have q39_:=nz hcl 39 0 q38_
  simp only [hD,p24_,p25_,p26_,p27_,p28_,p29_,p30_,p31_,p32_,p33_,p34_,q38_,q39_,cq,oT] at ht hs
  subst ht
  refine Qab (v:=int .i64 (i64w ((i64w (a1.QaZ - (a2.get 4 0))) - (a2.get 5 0)))) rfl rfl rfl (g_d rfl ?_)
  try dsimp only [set0,setS]
  refine hk _ _ ⟨O,?_,hs.cast ?_⟩<;>simp only [oT,lq,cq,Nat.reduceBEq,p24_,p25_,p26_,p27_,p28_,p29_,p30_,p31_,p32_,p33_,p34_,q38_,q39_]
 ·
  rintro D t w hD hp hcl ⟨O,ht,hs⟩ rest hk
  have q37_:=nz hcl 37 0 hD
  have q38_:=nz hcl 38 3 q37_
  have q39_:=nz hcl 39 0 q38_
  simp only [hD,q37_,q38_,q39_,cq,oT] at ht hs
  subst ht
  refine Qab (v:=pointer (some ⟨b6,3,none⟩)) rfl rfl rfl (g_d rfl ?_)
  try dsimp only [set0,setS]
  refine hk _ _ ⟨O,?_,hs.cast ?_⟩<;>simp only [oT,lq,cq,Nat.reduceBEq,q37_,q38_,q39_]
 ·
  rintro D t w hD hp hcl ⟨O,ht,hs⟩ rest hk
  obtain ⟨p36_,_⟩:=hp
  have q38_:=nz hcl 38 3 hD
  have q39_:=nz hcl 39 0 q38_
  simp only [hD,p36_,q38_,q39_,cq,oT] at ht hs
  subst ht
  refine Qaz rfl rfl (v:=int .i64 a1.QaU) rfl rfl (fun _=>rfl) (cells_load (hs.cells 1 rfl) 3 1 rfl) (g_d rfl ?_)
  try dsimp only [set0,setS]
  refine hk _ _ ⟨O,?_,hs.cast ?_⟩<;>simp only [oT,lq,cq,Nat.reduceBEq,p36_,q38_,q39_]
 ·
  rintro D t w hD hp hcl ⟨O,ht,hs⟩ rest hk
  obtain ⟨p11_,p23_,p35_,p37_,_⟩:=hp
  obtain ⟨p36_,_⟩:=(hcl.get 37 (by decide)) p37_
  obtain ⟨p30_,p34_,_⟩:=(hcl.get 35 (by decide)) p35_
  obtain ⟨p33_,_⟩:=(hcl.get 34 (by decide)) p34_
  obtain ⟨p32_,_⟩:=(hcl.get 33 (by decide)) p33_
  obtain ⟨p31_,_⟩:=(hcl.get 32 (by decide)) p32_
  obtain ⟨p25_,p29_,_⟩:=(hcl.get 30 (by decide)) p30_
  obtain ⟨p28_,_⟩:=(hcl.get 29 (by decide)) p29_
  obtain ⟨p27_,_⟩:=(hcl.get 28 (by decide)) p28_
  obtain ⟨p26_,_⟩:=(hcl.get 27 (by decide)) p27_
  obtain ⟨p24_,_⟩:=(hcl.get 25 (by decide)) p25_
  obtain ⟨p18_,p22_,_⟩:=(hcl.get 23 (by decide)) p23_
  obtain ⟨p21_,_⟩:=(hcl.get 22 (by decide)) p22_
  obtain ⟨p20_,_⟩:=(hcl.get 21 (by decide)) p21_
  obtain ⟨p19_,_⟩:=(hcl.get 20 (by decide)) p20_
  obtain ⟨p13_,p17_,_⟩:=(hcl.get 18 (by decide)) p18_
  obtain ⟨p16_,_⟩:=(hcl.get 17 (by decide)) p17_
  obtain ⟨p15_,_⟩:=(hcl.get 16 (by decide)) p16_
  obtain ⟨p14_,_⟩:=(hcl.get 15 (by decide)) p15_
  obtain ⟨p12_,_⟩:=(hcl.get 13 (by decide)) p13_
  obtain ⟨p6_,p10_,_⟩:=(hcl.get 11 (by decide)) p11_
  obtain ⟨p9_,_⟩:=(hcl.get 10 (by decide)) p10_
  obtain ⟨p8_,_⟩:=(hcl.get 9 (by decide)) p9_
  obtain ⟨p7_,_⟩:=(hcl.get 8 (by decide)) p8_
  obtain ⟨p1_,p5_,_⟩:=(hcl.get 6 (by decide)) p6_
  obtain ⟨p4_,_⟩:=(hcl.get 5 (by decide)) p5_
  obtain ⟨p3_,_⟩:=(hcl.get 4 (by decide)) p4_
  obtain ⟨p2_,_⟩:=(hcl.get 3 (by decide)) p3_
  obtain ⟨p0_,_⟩:=(hcl.get 1 (by decide)) p1_
  have q39_:=nz hcl 39 0 hD
  simp only [hD,p0_,p1_,p2_,p3_,p4_,p5_,p6_,p7_,p8_,p9_,p10_,p11_,p12_,p13_,p14_,p15_,p16_,p17_,p18_,p19_,p20_,p21_,p22_,p23_,p24_,p25_,p26_,p27_,p28_,p29_,p30_,p31_,p32_,p33_,p34_,p35_,p36_,p37_,q39_,cq,oT] at ht hs
  subst ht
  refine Qab (v:=agg (Qam (⟨i64w ((i64w (a1.Qa3 - (a2.get 0 0))) - (a2.get 1 0)),i64w ((i64w (a1.QaY - (a2.get 2 0))) - (a2.get 3 0)),i64w ((i64w (a1.QaZ - (a2.get 4 0))) - (a2.get 5 0)),a1.QaU⟩:Qar)).toArray) rfl rfl (Qcn (cs:=(Qam (⟨i64w ((i64w (a1.Qa3 - (a2.get 0 0))) - (a2.get 1 0)),i64w ((i64w (a1.QaY - (a2.get 2 0))) - (a2.get 3 0)),i64w ((i64w (a1.QaZ - (a2.get 4 0))) - (a2.get 5 0)),a1.QaU⟩:Qar))) (segs:=[[int .i64 0],[int .i64 0],[int .i64 0],[int .i64 0]]) rfl rfl (fun _=>rfl) ⟨rfl,(fun _=>rfl),rfl,(fun _=>rfl),rfl,(fun _=>rfl),rfl,(fun _=>rfl),trivial⟩ (by simp only [List.map_cons,List.map_nil,List.forall_mem_cons,List.not_mem_nil,false_implies,implies_true,and_true];exact ⟨⟨_,rfl,rfl⟩,⟨_,rfl,rfl⟩,⟨_,rfl,rfl⟩,⟨_,rfl,rfl⟩⟩) (by first|rfl|(simp [ev,Qam];done)|(simp [ev,Qam];rfl))) ?_
  refine g_d rfl ?_
  try dsimp only [set0,setS]
  refine hk _ _ ⟨O,?_,hs.cast ?_⟩<;>simp only [oT,lq,cq,Nat.reduceBEq,p0_,p1_,p2_,p3_,p4_,p5_,p6_,p7_,p8_,p9_,p10_,p11_,p12_,p13_,p14_,p15_,p16_,p17_,p18_,p19_,p20_,p21_,p22_,p23_,p24_,p25_,p26_,p27_,p28_,p29_,p30_,p31_,p32_,p33_,p34_,p35_,p36_,p37_,q39_]
 ·
  rintro D t w hD hp hcl ⟨O,ht,hs⟩ rest hk
  obtain ⟨p38_,p0_,p1_,p2_,p3_,p4_,p5_,p6_,p7_,p8_,p9_,p10_,p11_,p12_,p13_,p14_,p15_,p16_,p17_,p18_,p19_,p20_,p21_,p22_,p23_,p24_,p25_,p26_,p27_,p28_,p29_,p30_,p31_,p32_,p33_,p34_,p35_,p36_,p37_,_,_⟩:=hp
  simp only [hD,p0_,p1_,p2_,p3_,p4_,p5_,p6_,p7_,p8_,p9_,p10_,p11_,p12_,p13_,p14_,p15_,p16_,p17_,p18_,p19_,p20_,p21_,p22_,p23_,p24_,p25_,p26_,p27_,p28_,p29_,p30_,p31_,p32_,p33_,p34_,p35_,p36_,p37_,p38_,cq,oT] at ht hs
  subst ht
  refine Qa9 (n:=4) hs (Qa4.len _) rfl rfl (vs:=(Qam (⟨i64w ((i64w (a1.Qa3 - (a2.get 0 0))) - (a2.get 1 0)),i64w ((i64w (a1.QaY - (a2.get 2 0))) - (a2.get 3 0)),i64w ((i64w (a1.QaZ - (a2.get 4 0))) - (a2.get 5 0)),a1.QaU⟩:Qar))) rfl rfl rfl (fun _=>rfl) (Qa4.len _) (Qa4.one _) ?_
  intro w hs
  refine g_n rfl ?_
  try dsimp only [set0,setS]
  have hs:=hs.push 0 (by simp)
  refine hk _ _ ⟨O,?_,hs.cast ?_⟩<;>simp only [oT,lq,cq,Nat.reduceBEq,p0_,p1_,p2_,p3_,p4_,p5_,p6_,p7_,p8_,p9_,p10_,p11_,p12_,p13_,p14_,p15_,p16_,p17_,p18_,p19_,p20_,p21_,p22_,p23_,p24_,p25_,p26_,p27_,p28_,p29_,p30_,p31_,p32_,p33_,p34_,p35_,p36_,p37_,p38_]
 intro D t w hall hI
 obtain ⟨O,ht,hs⟩:=hI
 have p0_:=hall 0 (by decide)
 have p1_:=hall 1 (by decide)
 have p2_:=hall 2 (by decide)
 have p3_:=hall 3 (by decide)
 have p4_:=hall 4 (by decide)
 have p5_:=hall 5 (by decide)
 have p6_:=hall 6 (by decide)
 have p7_:=hall 7 (by decide)
 have p8_:=hall 8 (by decide)
 have p9_:=hall 9 (by decide)
 have p10_:=hall 10 (by decide)
 have p11_:=hall 11 (by decide)
 have p12_:=hall 12 (by decide)
 have p13_:=hall 13 (by decide)
 have p14_:=hall 14 (by decide)
 have p15_:=hall 15 (by decide)
 have p16_:=hall 16 (by decide)
 have p17_:=hall 17 (by decide)
 have p18_:=hall 18 (by decide)
 have p19_:=hall 19 (by decide)
 have p20_:=hall 20 (by decide)
 have p21_:=hall 21 (by decide)
 have p22_:=hall 22 (by decide)
 have p23_:=hall 23 (by decide)
 have p24_:=hall 24 (by decide)
 have p25_:=hall 25 (by decide)
 have p26_:=hall 26 (by decide)
 have p27_:=hall 27 (by decide)
 have p28_:=hall 28 (by decide)
 have p29_:=hall 29 (by decide)
 have p30_:=hall 30 (by decide)
 have p31_:=hall 31 (by decide)
 have p32_:=hall 32 (by decide)
 have p33_:=hall 33 (by decide)
 have p34_:=hall 34 (by decide)
 have p35_:=hall 35 (by decide)
 have p36_:=hall 36 (by decide)
 have p37_:=hall 37 (by decide)
 have p38_:=hall 38 (by decide)
 have p39_:=hall 39 (by decide)
 simp only [p0_,p1_,p2_,p3_,p4_,p5_,p6_,p7_,p8_,p9_,p10_,p11_,p12_,p13_,p14_,p15_,p16_,p17_,p18_,p19_,p20_,p21_,p22_,p23_,p24_,p25_,p26_,p27_,p28_,p29_,p30_,p31_,p32_,p33_,p34_,p35_,p36_,p37_,p38_,p39_,cq,oT] at ht hs
 subst ht
 obtain rfl:=QsJ H
 refine QaK Try.func84 (v:=agg (Qam (⟨i64w ((i64w (a1.Qa3 - (a2.get 0 0))) - (a2.get 1 0)),i64w ((i64w (a1.QaY - (a2.get 2 0))) - (a2.get 3 0)),i64w ((i64w (a1.QaZ - (a2.get 4 0))) - (a2.get 5 0)),a1.QaU⟩:Qar)).toArray) (resC rfl ⟨⟨_,rfl,(run_loadVar_agg (es:=(Qam (⟨i64w ((i64w (a1.Qa3 - (a2.get 0 0))) - (a2.get 1 0)),i64w ((i64w (a1.QaY - (a2.get 2 0))) - (a2.get 3 0)),i64w ((i64w (a1.QaZ - (a2.get 4 0))) - (a2.get 5 0)),a1.QaU⟩:Qar))) rfl (congrArg (Result.ok · _) (Qa4.len _).symm) (cells_all (hs.cells 0 rfl)))⟩,trivial⟩) ?_
 have hs:St _ [] _:=St.take (Γ':=[_,_]) hs
 exact ⟨_,rfl,rfl,hs⟩
end Go.Proofs.YtgpdpedpmhonkaaX
namespace Go.Proofs.YtgpdpedpmhonkaaX
open Go Go.RowKit Go.Proofs
open Go.Value (int pointer bool agg slice string tuple)
set_option maxHeartbeats 8000000
set_option maxRecDepth 100000
set_option linter.unusedVariables false
set_option linter.unusedSimpArgs false
def QaN.post (wb:World) (Z:As) (v3:Value) (b2:Nat) (v3:Value) (r:(Bool×(List Int)×Qap)) (v:Value) (w:World):Prop:=v=bool r.1∧St wb [Row 22 (K.int .i8) v3 r.2.1,Cells b2 (([int .i64 r.2.2.Qbu,v3]:List Value)) 99,Z] w
def QbE.post (wb:World) (Z:As) (v3:Value) (b2:Nat) (v3:Value) (r:(Bool×(List Int)×Qap)) (v:Value) (w:World):Prop:=v=bool r.1∧St wb [Row 22 (K.int .i8) v3 r.2.1,Cells b2 (([int .i64 r.2.2.Qbu,v3]:List Value)) 99,Z] w
theorem QbE.calls {N:Nat} {self:Qap→Qar→Int→Option (Bool×(List Int)×Qap)} (ih:∀ (a1:Qap) (a6:Qar) (a7:Int) (b2:Nat) (v3:Value) (wb:World) (Z:As) (w0:World) (r:(Bool×(List Int)×Qap)) (hs:St wb [Row 22 (K.int .i8) v3 a1.QbY,Cells b2 (([int .i64 a1.Qbu,v3]:List Value)) 99,Z] w0),self a1 a6 a7=some r→Calls Try.prog 30 #[pointer (some ⟨b2,0,none⟩),agg (Qam a6).toArray,int .i64 a7] w0 fun e w=>∃ v,e= .returned v∧QaN.post wb Z v3 b2 v3 r v w) {a1:Qap} {a6:Qar} {a7:(Ar Int 8)} {a10:Int} {b2:Nat} {v3:Value} {b8:Nat} {wb:World} {Z:As} {w0:World} {r:(Bool×(List Int)×Qap)} (hs:St wb [Row 22 (K.int .i8) v3 a1.QbY,Cells b2 (([int .i64 a1.Qbu,v3]:List Value)) 99,Z] w0) (hp2:wb.heap[b8]?=some (.cells (((encA (encI .i64)) a7):List Value).toArray 103 (0,0))) (H:QbE.f N self a1 a6 a7 a10=some r):
 Calls Try.prog 76 #[pointer (some ⟨b2,0,none⟩),agg (Qam a6).toArray,pointer (some ⟨b8,0,none⟩),int .i64 a10] w0 fun e w=>∃ v,e= .returned v∧QbE.post wb Z v3 b2 v3 r v w:=by
 unfold QbE.f at H
 refine calls_of_g (n:=19) Try.func76 rfl rfl ?_
 show G _ _ _ _ [_,_,_,_,_,_,_,_,_,_,_,_,_,_,_,_,_,_,_,_,_,_,_] _
 refine Qag (Qan [0,1] rfl ?_)
 refine Qbw hs rfl rfl (cs:=(Qam a6)) rfl rfl ?_
 intro b11 w hs
 refine Qab (v:=bool false) rfl rfl rfl ?_
 show G _ _ _ _ [_,_,_,_,_,_,_,_,_,_,_,_,_,_,_,_,_,_,_,_,_,_,_] _
 refine Qaa (Qag (Qag (Qan [0] rfl ?_)))
 refine Qab (v:=int .i64 (-1)) rfl rfl rfl (Qaa ?_)
 obtain ⟨o1_,Ho,Hr1_⟩:=bind_get H
 refine Qa2 (J:=fun t w=>∃ x21:(List Int),∃ x23:Int,QbE.a0 N self x21 x23=some r∧Fr t (fun O=>([O 0,O 1,O 2,O 3,O 4,O 5,O 6,O 7,O 8,O 9,O 10,O 11,O 12,O 13,O 14,O 15,O 16,O 17,O 18,O 19,O 20,O 21,O 22]:List Value))∧St wb [Row 22 (K.int .i8) v3 x21,Cells b2 (([int .i64 x23,v3]:List Value)) 99,Z] w) ?_ ?_
 ·
  rintro t w ⟨x21,x23,H,hf,hs⟩
  obtain ⟨O,rfl⟩:=hf.open
  show G _ _ _ _ [_,_,_,_,_,_,_,_,_,_,_,_,_,_,_,_,_,_,_,_,_,_,_] _
  unfold QbE.a0 at H
  refine Qag (Qan [0] rfl ?_)
  refine Qab (v:=bool true) rfl rfl rfl (Qaa ?_)
  obtain rfl:=QsJ H
  refine QaK Try.func76 (v:=bool true) (res1 rfl rfl) ?_
  have hs:=hs.pull 2 rfl
  have hs:=hs.pull 2 rfl
  have hs:=hs.pull 2 rfl
  have hs:St _ [_,_,_] _:=St.take (Γ':=[]) hs
  exact ⟨_,rfl,rfl,hs⟩
 intro ha1_
 have hs:=hs.pull 3 rfl
 have hs:=hs.pull 1 rfl
 have hs:=hs.pull 3 rfl
 have hs:=hs.pull 3 rfl
 have hs:St _ [_,_,_,_] _:=St.take (Γ':=[]) hs
 refine Qbk (I:=fun n_ t w=>∃ x16:Int,∃ x17:(List Int),∃ x18:Int,rounds (fun s=>QbE.b0 N self a6 a7 a10 s.1 s.2.1 s.2.2) n_ (x16,x17,x18)=some o1_∧Fr t (fun O=>([pointer (some ⟨b2,0,none⟩),O 1,pointer (some ⟨b8,0,none⟩),int .i64 a10,O 4,pointer (some ⟨b11,0,none⟩),O 6,O 7,O 8,int .i64 x18,O 10,O 11,O 12,O 13,O 14,O 15,O 16,O 17,O 18,O 19,O 20,O 21,O 22]:List Value))∧St wb [Row 22 (K.int .i8) v3 x17,Cells b2 (([int .i64 x16,v3]:List Value)) 99,Cells b11 (Qam a6) 62,Z] w) N ⟨a1.Qbu,a1.QbY,(-1),Ho,rfl,hs⟩ ?_ ?_
 ·
  rintro _ _ ⟨x16,x17,x18,h,_⟩
  exact rounds_zero h
 intro n_ ih1_
 rintro t w ⟨x16,x17,x18,Ho,hf,hs⟩
 obtain ⟨O,rfl⟩:=hf.open
 show G _ _ _ _ [_,_,_,_,_,_,_,_,_,_,_,_,_,_,_,_,_,_,_,_,_,_,_] _
 obtain ⟨x3_,H,Hx1_⟩:=rounds_succ Ho
 have H:QbE.b0 N self a6 a7 a10 x16 x17 x18=some x3_:=H
 unfold QbE.b0 at H
 refine Qag (Qag (Qan [0,1] rfl ?_))
 refine Qab (v:=int .i64 x18) rfl rfl rfl ?_
 refine QaR (B:=decide (x18≤1)) rfl rfl rfl ?_ ?_
 ·
  intro hb
  rw [if_pos (b_dec_t hb)] at H
  refine Qaa (Qaw rfl (QaS (Qag ?_)))
  refine QbP (Qag (Qan [0,1,2,3,4,5,6,7,8] rfl ?_))
  refine Qab (v:=pointer (some ⟨b2,0,none⟩)) rfl rfl rfl ?_
  refine QaG rfl rfl (es:=(Qam a6)) rfl rfl (fun _=>rfl) (n:=4) (fun _=>rfl) (Qa4.len _) (cells_all (hs.cells 2 rfl)) ?_
  show G _ _ _ _ [_,_,_,_,_,_,_,_,_,_,_,_,_,_,_,_,_,_,_,_,_,_,_] _
  refine Qab (v:=pointer (some ⟨b8,0,none⟩)) rfl rfl rfl ?_
  refine Qab (v:=int .i64 x18) rfl rfl rfl ?_
  obtain ⟨r19,Hr19,H⟩:=bind_get H
  refine QaP (args:=[agg (Qam a6).toArray,pointer (some ⟨b8,0,none⟩),int .i64 x18]) rfl rfl (QaT rfl (callFunc_enter Try.func84 rfl rfl) rfl) (QbN.calls (a1:=a6) (a2:=a7) (a5:=x18) (hs.box hp2) Hr19) ?_
  rintro _ w ⟨rfl,hs2⟩
  have hs:St _ [_,_,_,_] _:=hs.call hs2
  show G _ _ _ _ [_,_,_,_,_,_,_,_,_,_,_,_,_,_,_,_,_,_,_,_,_,_,_] _
  refine Qab (v:=int .i64 a10) rfl rfl rfl ?_
  refine Qab (v:=int .i64 (i64w (a10 - 1))) rfl rfl rfl ?_
  obtain ⟨r20,Hr20,H⟩:=bind_get H
  have hs:=hs.pull 1 rfl
  have hs:St _ [_,_,_,_] _:=hs.pull 1 rfl
  have hs:=hs.pack 2
  refine QaP (args:=[pointer (some ⟨b2,0,none⟩),agg (Qam r19).toArray,int .i64 (i64w (a10 - 1))]) rfl rfl (QaT rfl (callFunc_enter Try.func30 rfl rfl) rfl) (ih (⟨x16,x17⟩:Qap) r19 (i64w (a10 - 1)) _ _ _ _ _ _ hs Hr20) ?_
  rintro _ w ⟨rfl,hs⟩
  have hs:=St.unpack (Γ:=[_,_]) hs
  have hs:St _ [_,_,_,_] _:=hs
  generalize hb2_:r20.1=b_ at H ⊢
  cases b_ with
  |true=>
   rw [if_pos rfl] at H
   show G _ _ _ _ [_,_,_,_,_,_,_,_,_,_,_,_,_,_,_,_,_,_,_,_,_,_,_] _
   refine Qab (v:=bool false) rfl rfl rfl (Qaa (Qax rfl (QaS ?_)))
   refine Qa5 (Qan [0,1,2] rfl ?_)
   refine Qab (v:=int .i64 x18) rfl rfl rfl ?_
   refine Qab (v:=int .i64 (i64w (x18+1))) rfl rfl rfl ?_
   show G _ _ _ _ [_,_,_,_,_,_,_,_,_,_,_,_,_,_,_,_,_,_,_,_,_,_,_] _
   refine Qab (v:=int .i64 (i64w (x18+1))) rfl rfl rfl (Qaa ?_)
   obtain rfl:=QsJ H
   have hs:=hs.pull 3 rfl
   have hs:=hs.pull 3 rfl
   have hs:=hs.pull 3 rfl
   have hs:=hs.pull 3 rfl
   have hs:St _ [_,_,_,_] _:=St.take (Γ':=[]) hs
   exact ih1_ _ _ ⟨r20.2.2.Qbu,r20.2.1,i64w (x18+1),Hx1_,rfl,hs⟩
  |false=>
   rw [if_neg Bool.false_ne_true] at H
   show G _ _ _ _ [_,_,_,_,_,_,_,_,_,_,_,_,_,_,_,_,_,_,_,_,_,_,_] _
   refine Qab (v:=bool true) rfl rfl rfl (Qaa (Qaw rfl (Qag (Qan [0] rfl ?_))))
   refine Qab (v:=bool false) rfl rfl rfl (Qaa ?_)
   obtain rfl:=QsJ H
   subst Hx1_
   have H:=QsJ Hr1_
   subst H
   refine QaK Try.func76 (v:=bool false) (res1 rfl rfl) ?_
   have hs:=hs.pull 3 rfl
   have hs:=hs.pull 2 rfl
   have hs:=hs.pull 2 rfl
   have hs:St _ [_,_,_] _:=St.take (Γ':=[_]) hs
   exact ⟨_,rfl,rfl,hs⟩
 intro hb
 rw [if_neg (b_dec_f hb)] at H
 show G _ _ _ _ [_,_,_,_,_,_,_,_,_,_,_,_,_,_,_,_,_,_,_,_,_,_,_] _
 refine Qaa (Qax rfl ?_)
 obtain rfl:=QsJ H
 subst Hx1_
 have hs:=hs.pull 3 rfl
 have hs:=hs.pull 2 rfl
 have hs:=hs.pull 2 rfl
 have hs:St _ [_,_,_] _:=St.take (Γ':=[_]) hs
 refine QbG rfl ?_
 exact ha1_ _ _ ⟨x17,x16,Hr1_,rfl,hs⟩
def Qa6.post (wb:World) (Z:As) (v3:Value) (b2:Nat) (v3:Value) (b8:Nat) (r:(Bool×(List Int)×Qap×(Ar Int 8))) (v:Value) (w:World):Prop:=v=bool r.1∧St wb [Row 22 (K.int .i8) v3 r.2.1,Cells b2 (([int .i64 r.2.2.1.Qbu,v3]:List Value)) 99,Cells b8 ((encA (encI .i64)) r.2.2.2) 103,Z] w
theorem Qa6.calls {N:Nat} {self:Qap→Qar→Int→Option (Bool×(List Int)×Qap)} (ih:∀ (a1:Qap) (a6:Qar) (a7:Int) (b2:Nat) (v3:Value) (wb:World) (Z:As) (w0:World) (r:(Bool×(List Int)×Qap)) (hs:St wb [Row 22 (K.int .i8) v3 a1.QbY,Cells b2 (([int .i64 a1.Qbu,v3]:List Value)) 99,Z] w0),self a1 a6 a7=some r→Calls Try.prog 30 #[pointer (some ⟨b2,0,none⟩),agg (Qam a6).toArray,int .i64 a7] w0 fun e w=>∃ v,e= .returned v∧QaN.post wb Z v3 b2 v3 r v w) {a1:Qap} {a6:Qar} {a7:(Ar Int 8)} {a10:Int} {b2:Nat} {v3:Value} {b8:Nat} {wb:World} {Z:As} {w0:World} {r:(Bool×(List Int)×Qap×(Ar Int 8))} (hs:St wb [Row 22 (K.int .i8) v3 a1.QbY,Cells b2 (([int .i64 a1.Qbu,v3]:List Value)) 99,Cells b8 ((encA (encI .i64)) a7) 103,Z] w0) (H:Qa6.f N self a1 a6 a7 a10=some r):
 Calls Try.prog 76 #[pointer (some ⟨b2,0,none⟩),agg (Qam a6).toArray,pointer (some ⟨b8,0,none⟩),int .i64 a10] w0 fun e w=>∃ v,e= .returned v∧Qa6.post wb Z v3 b2 v3 b8 r v w:=by
 unfold Qa6.f at H
 refine calls_of_g (n:=19) Try.func76 rfl rfl ?_
 show G _ _ _ _ [_,_,_,_,_,_,_,_,_,_,_,_,_,_,_,_,_,_,_,_,_,_,_] _
 refine Qag (Qan [0,1] rfl ?_)
 refine Qbw hs rfl rfl (cs:=(Qam a6)) rfl rfl ?_
 intro b11 w hs
 refine Qab (v:=bool false) rfl rfl rfl ?_
 show G _ _ _ _ [_,_,_,_,_,_,_,_,_,_,_,_,_,_,_,_,_,_,_,_,_,_,_] _
 refine Qaa (Qag (Qag (Qan [0] rfl ?_)))
 refine Qab (v:=int .i64 (-1)) rfl rfl rfl (Qaa ?_)
 obtain ⟨o1_,Ho,Hr1_⟩:=bind_get H
 refine Qa2 (J:=fun t w=>∃ x21:(List Int),∃ x23:Int,Qa6.a0 N self a7 x21 x23=some r∧Fr t (fun O=>([O 0,O 1,O 2,O 3,O 4,O 5,O 6,O 7,O 8,O 9,O 10,O 11,O 12,O 13,O 14,O 15,O 16,O 17,O 18,O 19,O 20,O 21,O 22]:List Value))∧St wb [Row 22 (K.int .i8) v3 x21,Cells b2 (([int .i64 x23,v3]:List Value)) 99,Cells b8 ((encA (encI .i64)) a7) 103,Z] w) ?_ ?_
 ·
  rintro t w ⟨x21,x23,H,hf,hs⟩
  obtain ⟨O,rfl⟩:=hf.open
  show G _ _ _ _ [_,_,_,_,_,_,_,_,_,_,_,_,_,_,_,_,_,_,_,_,_,_,_] _
  unfold Qa6.a0 at H
  refine Qag (Qan [0] rfl ?_)
  refine Qab (v:=bool true) rfl rfl rfl (Qaa ?_)
  obtain rfl:=QsJ H
  refine QaK Try.func76 (v:=bool true) (res1 rfl rfl) ?_
  have hs:=hs.pull 3 rfl
  have hs:=hs.pull 3 rfl
  have hs:=hs.pull 3 rfl
  have hs:=hs.pull 3 rfl
  have hs:St _ [_,_,_,_] _:=St.take (Γ':=[]) hs
  exact ⟨_,rfl,rfl,hs⟩
 intro ha1_
 have hs:=hs.pull 4 rfl
 have hs:=hs.pull 1 rfl
 have hs:=hs.pull 4 rfl
 have hs:=hs.pull 4 rfl
 have hs:=hs.pull 4 rfl
 have hs:St _ [_,_,_,_,_] _:=St.take (Γ':=[]) hs
 refine Qbk (I:=fun n_ t w=>∃ x16:Int,∃ x17:(List Int),∃ x18:Int,rounds (fun s=>Qa6.b0 N self a6 a7 a10 s.1 s.2.1 s.2.2) n_ (x16,x17,x18)=some o1_∧Fr t (fun O=>([pointer (some ⟨b2,0,none⟩),O 1,pointer (some ⟨b8,0,none⟩),int .i64 a10,O 4,pointer (some ⟨b11,0,none⟩),O 6,O 7,O 8,int .i64 x18,O 10,O 11,O 12,O 13,O 14,O 15,O 16,O 17,O 18,O 19,O 20,O 21,O 22]:List Value))∧St wb [Row 22 (K.int .i8) v3 x17,Cells b2 (([int .i64 x16,v3]:List Value)) 99,Cells b8 ((encA (encI .i64)) a7) 103,Cells b11 (Qam a6) 62,Z] w) N ⟨a1.Qbu,a1.QbY,(-1),Ho,rfl,hs⟩ ?_ ?_
 ·
  rintro _ _ ⟨x16,x17,x18,h,_⟩
  exact rounds_zero h
 intro n_ ih1_
 rintro t w ⟨x16,x17,x18,Ho,hf,hs⟩
 obtain ⟨O,rfl⟩:=hf.open
 show G _ _ _ _ [_,_,_,_,_,_,_,_,_,_,_,_,_,_,_,_,_,_,_,_,_,_,_] _
 obtain ⟨x3_,H,Hx1_⟩:=rounds_succ Ho
 have H:Qa6.b0 N self a6 a7 a10 x16 x17 x18=some x3_:=H
 unfold Qa6.b0 at H
 refine Qag (Qag (Qan [0,1] rfl ?_))
 refine Qab (v:=int .i64 x18) rfl rfl rfl ?_
 refine QaR (B:=decide (x18≤1)) rfl rfl rfl ?_ ?_
 ·
  intro hb
  rw [if_pos (b_dec_t hb)] at H
  refine Qaa (Qaw rfl (QaS (Qag ?_)))
  refine QbP (Qag (Qan [0,1,2,3,4,5,6,7,8] rfl ?_))
  refine Qab (v:=pointer (some ⟨b2,0,none⟩)) rfl rfl rfl ?_
  refine QaG rfl rfl (es:=(Qam a6)) rfl rfl (fun _=>rfl) (n:=4) (fun _=>rfl) (Qa4.len _) (cells_all (hs.cells 3 rfl)) ?_
  show G _ _ _ _ [_,_,_,_,_,_,_,_,_,_,_,_,_,_,_,_,_,_,_,_,_,_,_] _
  refine Qab (v:=pointer (some ⟨b8,0,none⟩)) rfl rfl rfl ?_
  refine Qab (v:=int .i64 x18) rfl rfl rfl ?_
  obtain ⟨r19,Hr19,H⟩:=bind_get H
  refine QaP (args:=[agg (Qam a6).toArray,pointer (some ⟨b8,0,none⟩),int .i64 x18]) rfl rfl (QaT rfl (callFunc_enter Try.func84 rfl rfl) rfl) (QbN.calls (a1:=a6) (a2:=a7) (a5:=x18) (hs.cells 2 rfl) Hr19) ?_
  rintro _ w ⟨rfl,hs2⟩
  have hs:St _ [_,_,_,_,_] _:=hs.call hs2
  show G _ _ _ _ [_,_,_,_,_,_,_,_,_,_,_,_,_,_,_,_,_,_,_,_,_,_,_] _
  refine Qab (v:=int .i64 a10) rfl rfl rfl ?_
  refine Qab (v:=int .i64 (i64w (a10 - 1))) rfl rfl rfl ?_
  obtain ⟨r20,Hr20,H⟩:=bind_get H
  have hs:=hs.pull 1 rfl
  have hs:St _ [_,_,_,_,_] _:=hs.pull 1 rfl
  have hs:=hs.pack 2
  refine QaP (args:=[pointer (some ⟨b2,0,none⟩),agg (Qam r19).toArray,int .i64 (i64w (a10 - 1))]) rfl rfl (QaT rfl (callFunc_enter Try.func30 rfl rfl) rfl) (ih (⟨x16,x17⟩:Qap) r19 (i64w (a10 - 1)) _ _ _ _ _ _ hs Hr20) ?_
  rintro _ w ⟨rfl,hs⟩
  have hs:=St.unpack (Γ:=[_,_]) hs
  have hs:St _ [_,_,_,_,_] _:=hs
  generalize hb2_:r20.1=b_ at H ⊢
  cases b_ with
  |true=>
   rw [if_pos rfl] at H
   show G _ _ _ _ [_,_,_,_,_,_,_,_,_,_,_,_,_,_,_,_,_,_,_,_,_,_,_] _
   refine Qab (v:=bool false) rfl rfl rfl (Qaa (Qax rfl (QaS ?_)))
   refine Qa5 (Qan [0,1,2] rfl ?_)
   refine Qab (v:=int .i64 x18) rfl rfl rfl ?_
   refine Qab (v:=int .i64 (i64w (x18+1))) rfl rfl rfl ?_
   show G _ _ _ _ [_,_,_,_,_,_,_,_,_,_,_,_,_,_,_,_,_,_,_,_,_,_,_] _
   refine Qab (v:=int .i64 (i64w (x18+1))) rfl rfl rfl (Qaa ?_)
   obtain rfl:=QsJ H
   have hs:=hs.pull 4 rfl
   have hs:=hs.pull 4 rfl
   have hs:=hs.pull 4 rfl
   have hs:=hs.pull 4 rfl
   have hs:=hs.pull 4 rfl
   have hs:St _ [_,_,_,_,_] _:=St.take (Γ':=[]) hs
   exact ih1_ _ _ ⟨r20.2.2.Qbu,r20.2.1,i64w (x18+1),Hx1_,rfl,hs⟩
  |false=>
   rw [if_neg Bool.false_ne_true] at H
   show G _ _ _ _ [_,_,_,_,_,_,_,_,_,_,_,_,_,_,_,_,_,_,_,_,_,_,_] _
   refine Qab (v:=bool true) rfl rfl rfl (Qaa (Qaw rfl (Qag (Qan [0] rfl ?_))))
   refine Qab (v:=bool false) rfl rfl rfl (Qaa ?_)
   obtain rfl:=QsJ H
   subst Hx1_
   have H:=QsJ Hr1_
   subst H
   refine QaK Try.func76 (v:=bool false) (res1 rfl rfl) ?_
   have hs:=hs.pull 4 rfl
   have hs:=hs.pull 3 rfl
   have hs:=hs.pull 3 rfl
   have hs:=hs.pull 3 rfl
   have hs:St _ [_,_,_,_] _:=St.take (Γ':=[_]) hs
   exact ⟨_,rfl,rfl,hs⟩
 intro hb
 rw [if_neg (b_dec_f hb)] at H
 show G _ _ _ _ [_,_,_,_,_,_,_,_,_,_,_,_,_,_,_,_,_,_,_,_,_,_,_] _
 refine Qaa (Qax rfl ?_)
 obtain rfl:=QsJ H
 subst Hx1_
 have hs:=hs.pull 4 rfl
 have hs:=hs.pull 3 rfl
 have hs:=hs.pull 3 rfl
 have hs:=hs.pull 3 rfl
 have hs:St _ [_,_,_,_] _:=St.take (Γ':=[_]) hs
 refine QbG rfl ?_
 exact ha1_ _ _ ⟨x17,x16,Hr1_,rfl,hs⟩
end Go.Proofs.YtgpdpedpmhonkaaX
