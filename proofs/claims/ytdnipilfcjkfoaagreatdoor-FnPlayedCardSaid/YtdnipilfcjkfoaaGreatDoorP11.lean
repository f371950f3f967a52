import Derived.Test.YtdnipilfcjkfoaaGreatDoorP10
namespace Go.Proofs.YtdnipilfcjkfoaaGreatDoorX
open Go Go.RowKit Go.Proofs
open Go.Value (int pointer bool agg slice string tuple)
set_option maxHeartbeats 8000000
set_option maxRecDepth 100000
set_option linter.unusedVariables false
set_option linter.unusedSimpArgs false
def QbP.post (w0:World) (r:Qag) (v:Value) (w:World):Prop:=∃ u1:Value,v=agg (([int .i8 r.Qac,int .i8 r.Qae,u1]:List Value)).toArray∧St w0 [Row 61 Qao u1 r.Qah] w
theorem QbP.calls {N:Nat} {a1:Qag} {a6:Int} {a7:Bool} {b2:Nat} {v3:Value} {w0:World} {r:Qag} (hr4:RdRow Qao w0 v3 a1.Qah) (hp0:w0.heap[b2]?=some (.cells ((([int .i8 a1.Qac,int .i8 a1.Qae,v3]:List Value)):List Value).toArray 30 (0,0))) (H:QbP.f N a1 a6 a7=some r):
 Calls Tryz.prog 78 #[pointer (some ⟨b2,0,none⟩),int .u64 a6,bool a7] w0 fun e w=>∃ v,e= .returned v∧QbP.post w0 r v w:=by
 unfold QbP.f at H
 have hs:St w0 [] w0:=St.refl w0
 refine calls_of_g (n:=24) Tryz.func78 rfl rfl ?_
 show G _ _ _ _ [_,_,_,_,_,_,_,_,_,_,_,_,_,_,_,_,_,_,_,_,_,_,_,_,_,_,_] _
 refine Qaf (Qak [0] rfl ?_)
 refine Qa5 hs rfl rfl (z:=(agg #[int .i8 0,int .i8 0,slice none 0 0])) (cs:=(([int .i8 0,int .i8 0,slice none 0 0]:List Value))) rfl (fun _=>rfl) rfl ?_
 intro b8 w hs
 refine Qab (Qaf ?_)
 obtain ⟨gq13_,H⟩:=ite_get H
 obtain ⟨gq18_,H⟩:=ite_get H
 refine Qbu ?_
 intro T hT
 refine Qcl (n:=21) rfl [0,1,2,3,4,5,6,7,8,9,10,11,12,13,14,15,16,17,18,19,20] [0,1,2,3,4,5,6,7,8,9,10,11,12,13,14,15,16,17,18,19,20] rfl rfl (Inv:=fun D t w=>∃ v10:Value,∃ v12:Value,∃ v14:Value,∃ v16:Value,∃ O:Nat→Value,t=[pointer (some ⟨b2,0,none⟩),int .u64 a6,bool a7,O 3,O 4,O 5,pointer (some ⟨b8,0,none⟩),cnd (D 0) (pointer (some ⟨b2,0,none⟩)) (O 7),cnd (D 1) (pointer (some ⟨b2,0,none⟩)) (O 8),cnd (D 2) (pointer (some ⟨b2,0,none⟩)) (O 9),cnd (D 3) (int .i8 a1.Qac) (O 10),cnd (D 4) (pointer (some ⟨b2,0,none⟩)) (O 11),cnd (D 5) (pointer (some ⟨b2,0,none⟩)) (O 12),cnd (D 6) (pointer (some ⟨b2,1,none⟩)) (O 13),cnd (D 7) (int .i8 a1.Qae) (O 14),cnd (D 8) v10 (O 15),cnd (D 9) (pointer (some ⟨b2,0,none⟩)) (O 16),cnd (D 10) (pointer (some ⟨b2,0,none⟩)) (O 17),cnd (D 11) (pointer (some ⟨b2,2,none⟩)) (O 18),cnd (D 12) v3 (O 19),cnd (D 13) v12 (O 20),cnd (D 14) (int .u64 a6) (O 21),cnd (D 15) (bool a7) (O 22),cnd (D 16) (agg (QaC (⟨a6,a7⟩:Qav)).toArray) (O 23),cnd (D 17) v14 (O 24),cnd (D 18) v16 (O 25),cnd (D 19) (agg (([int .i8 a1.Qac,int .i8 a1.Qae,v16]:List Value)).toArray) (O 26)]∧St w0 [Asc (D 8) (Row 61 Qao (cnd (D 18) v16 (cnd (D 13) v12 v10)) (cnd (D 18) ((([]:List Qav)++a1.Qah)++([(⟨a6,a7⟩:Qav)])) (cnd (D 13) (([]:List Qav)++a1.Qah) ([]:List Qav)))),Asc (D 17) (Row 61 Qao v14 ([(⟨a6,a7⟩:Qav)])),Cells b8 (cnd (D 20) (([int .i8 a1.Qac,int .i8 a1.Qae,v16]:List Value)) (([int .i8 0,int .i8 0,slice none 0 0]:List Value))) 30] w) ?_ ⟨⟨⟨⟨⟨⟨⟨⟨⟨⟨⟨⟨⟨⟨⟨⟨⟨⟨⟨⟨⟨trivial,?_⟩,?_⟩,?_⟩,?_⟩,?_⟩,?_⟩,?_⟩,?_⟩,?_⟩,?_⟩,?_⟩,?_⟩,?_⟩,?_⟩,?_⟩,?_⟩,?_⟩,?_⟩,?_⟩,?_⟩,?_⟩ ?_
 ·
  intro w hh hbw
  have hs:=hs.samew hh hbw
  have hs:=hs.emp
  have hs:=hs.emp
  exact ⟨undef,undef,undef,undef,fun i=>T.getD i undef,(by subst hT;rfl),hs⟩
 ·
  rintro D t w hD hp hcl ⟨v10,v12,v14,v16,O,ht,hs⟩ rest hk
  have q1_:=nz hcl 1 0 hD
  have q2_:=nz hcl 2 0 q1_
  have q3_:=nz hcl 3 0 q2_
  have q19_:=nz hcl 19 0 q3_
  have q20_:=nz hcl 20 0 q19_
  simp only [hD,q1_,q2_,q3_,q19_,q20_,cq,oT] at ht hs
  subst ht
  refine Qaa (v:=pointer (some ⟨b2,0,none⟩)) rfl rfl rfl ?_
  show G _ _ _ _ [_,_,_,_,_,_,_,_,_,_,_,_,_,_,_,_,_,_,_,_,_,_,_,_,_,_,_] _
  refine hk _ _ ⟨v10,v12,v14,v16,O,?_,hs.cast ?_⟩<;>simp only [oT,lq,cq,Nat.reduceBEq,q1_,q2_,q3_,q19_,q20_]
 ·
  rintro D t w hD hp hcl ⟨v10,v12,v14,v16,O,ht,hs⟩ rest hk
  obtain ⟨p0_,_⟩:=hp
  have q2_:=nz hcl 2 0 hD
  have q3_:=nz hcl 3 0 q2_
  have q19_:=nz hcl 19 0 q3_
  have q20_:=nz hcl 20 0 q19_
  simp only [hD,p0_,q2_,q3_,q19_,q20_,cq,oT] at ht hs
  subst ht
  refine Qaa (v:=pointer (some ⟨b2,0,none⟩)) rfl rfl rfl ?_
  show G _ _ _ _ [_,_,_,_,_,_,_,_,_,_,_,_,_,_,_,_,_,_,_,_,_,_,_,_,_,_,_] _
  refine hk _ _ ⟨v10,v12,v14,v16,O,?_,hs.cast ?_⟩<;>simp only [oT,lq,cq,Nat.reduceBEq,p0_,q2_,q3_,q19_,q20_]
 ·
  rintro D t w hD hp hcl ⟨v10,v12,v14,v16,O,ht,hs⟩ rest hk
  obtain ⟨p1_,_⟩:=hp
  obtain ⟨p0_,_⟩:=(hcl.get 1 (by decide)) p1_
  have q3_:=nz hcl 3 0 hD
  have q19_:=nz hcl 19 0 q3_
  have q20_:=nz hcl 20 0 q19_
  simp only [hD,p0_,p1_,q3_,q19_,q20_,cq,oT] at ht hs
  subst ht
  refine Qaa (v:=pointer (some ⟨b2,0,none⟩)) rfl rfl rfl ?_
  show G _ _ _ _ [_,_,_,_,_,_,_,_,_,_,_,_,_,_,_,_,_,_,_,_,_,_,_,_,_,_,_] _
  refine hk _ _ ⟨v10,v12,v14,v16,O,?_,hs.cast ?_⟩<;>simp only [oT,lq,cq,Nat.reduceBEq,p0_,p1_,q3_,q19_,q20_]
 ·
  rintro D t w hD hp hcl ⟨v10,v12,v14,v16,O,ht,hs⟩ rest hk
  obtain ⟨p2_,_⟩:=hp
  obtain ⟨p1_,_⟩:=(hcl.get 2 (by decide)) p2_
  obtain ⟨p0_,_⟩:=(hcl.get 1 (by decide)) p1_
  have q19_:=nz hcl 19 0 hD
  have q20_:=nz hcl 20 0 q19_
  simp only [hD,p0_,p1_,p2_,q19_,q20_,cq,oT] at ht hs
  subst ht
  refine Qaw rfl rfl (v:=int .i8 a1.Qac) rfl rfl (fun _=>rfl) (cells_load (hs.box hp0) 0 1 rfl) ?_
  show G _ _ _ _ [_,_,_,_,_,_,_,_,_,_,_,_,_,_,_,_,_,_,_,_,_,_,_,_,_,_,_] _
  refine hk _ _ ⟨v10,v12,v14,v16,O,?_,hs.cast ?_⟩<;>simp only [oT,lq,cq,Nat.reduceBEq,p0_,p1_,p2_,q19_,q20_]
 ·
  rintro D t w hD hp hcl ⟨v10,v12,v14,v16,O,ht,hs⟩ rest hk
  have q5_:=nz hcl 5 0 hD
  have q6_:=nz hcl 6 0 q5_
  have q7_:=nz hcl 7 0 q6_
  have q19_:=nz hcl 19 1 q7_
  have q20_:=nz hcl 20 0 q19_
  simp only [hD,q5_,q6_,q7_,q19_,q20_,cq,oT] at ht hs
  subst ht
  refine Qaa (v:=pointer (some ⟨b2,0,none⟩)) rfl rfl rfl ?_
  show G _ _ _ _ [_,_,_,_,_,_,_,_,_,_,_,_,_,_,_,_,_,_,_,_,_,_,_,_,_,_,_] _
  refine hk _ _ ⟨v10,v12,v14,v16,O,?_,hs.cast ?_⟩<;>simp only [oT,lq,cq,Nat.reduceBEq,q5_,q6_,q7_,q19_,q20_]
 ·
  rintro D t w hD hp hcl ⟨v10,v12,v14,v16,O,ht,hs⟩ rest hk
  obtain ⟨p4_,_⟩:=hp
  have q6_:=nz hcl 6 0 hD
  have q7_:=nz hcl 7 0 q6_
  have q19_:=nz hcl 19 1 q7_
  have q20_:=nz hcl 20 0 q19_
  simp only [hD,p4_,q6_,q7_,q19_,q20_,cq,oT] at ht hs
  subst ht
  refine Qaa (v:=pointer (some ⟨b2,0,none⟩)) rfl rfl rfl ?_
  show G _ _ _ _ [_,_,_,_,_,_,_,_,_,_,_,_,_,_,_,_,_,_,_,_,_,_,_,_,_,_,_] _
  refine hk _ _ ⟨v10,v12,v14,v16,O,?_,hs.cast ?_⟩<;>simp only [oT,lq,cq,Nat.reduceBEq,p4_,q6_,q7_,q19_,q20_]
 ·
  rintro D t w hD hp hcl ⟨v10,v12,v14,v16,O,ht,hs⟩ rest hk
  obtain ⟨p5_,_⟩:=hp
  obtain ⟨p4_,_⟩:=(hcl.get 5 (by decide)) p5_
  have q7_:=nz hcl 7 0 hD
  have q19_:=nz hcl 19 1 q7_
  have q20_:=nz hcl 20 0 q19_
  simp only [hD,p4_,p5_,q7_,q19_,q20_,cq,oT] at ht hs
  subst ht
  refine Qaa (v:=pointer (some ⟨b2,1,none⟩)) rfl rfl rfl ?_
  show G _ _ _ _ [_,_,_,_,_,_,_,_,_,_,_,_,_,_,_,_,_,_,_,_,_,_,_,_,_,_,_] _
  refine hk _ _ ⟨v10,v12,v14,v16,O,?_,hs.cast ?_⟩<;>simp only [oT,lq,cq,Nat.reduceBEq,p4_,p5_,q7_,q19_,q20_]
 ·
  rintro D t w hD hp hcl ⟨v10,v12,v14,v16,O,ht,hs⟩ rest hk
  obtain ⟨p6_,_⟩:=hp
  obtain ⟨p5_,_⟩:=(hcl.get 6 (by decide)) p6_
  obtain ⟨p4_,_⟩:=(hcl.get 5 (by decide)) p5_
  have q19_:=nz hcl 19 1 hD
  have q20_:=nz hcl 20 0 q19_
  simp only [hD,p4_,p5_,p6_,q19_,q20_,cq,oT] at ht hs
  subst ht
  refine Qaw rfl rfl (v:=int .i8 a1.Qae) rfl rfl (fun _=>rfl) (cells_load (hs.box hp0) 1 1 rfl) ?_
  show G _ _ _ _ [_,_,_,_,_,_,_,_,_,_,_,_,_,_,_,_,_,_,_,_,_,_,_,_,_,_,_] _
  refine hk _ _ ⟨v10,v12,v14,v16,O,?_,hs.cast ?_⟩<;>simp only [oT,lq,cq,Nat.reduceBEq,p4_,p5_,p6_,q19_,q20_]
 ·
  rintro D t w hD hp hcl ⟨v10,v12,v14,v16,O,ht,hs⟩ rest hk
  have q13_:=nz hcl 13 0 hD
  have q18_:=nz hcl 18 0 q13_
  have q19_:=nz hcl 19 2 q18_
  have q20_:=nz hcl 20 0 q19_
  simp only [hD,q13_,q18_,q19_,q20_,cq,oT] at ht hs
  subst ht
  refine QcB (κ:=Qao) hs rfl rfl rfl rfl (fun _=>rfl) ?_
  intro v10 w hs
  show G _ _ _ _ [_,_,_,_,_,_,_,_,_,_,_,_,_,_,_,_,_,_,_,_,_,_,_,_,_,_,_] _
  have hs:=hs.fill 0 rfl
  refine hk _ _ ⟨v10,v12,v14,v16,O,?_,hs.cast ?_⟩<;>simp only [oT,lq,cq,Nat.reduceBEq,q13_,q18_,q19_,q20_]
 ·
  rintro D t w hD hp hcl ⟨v10,v12,v14,v16,O,ht,hs⟩ rest hk
  have q10_:=nz hcl 10 0 hD
  have q11_:=nz hcl 11 0 q10_
  have q12_:=nz hcl 12 0 q11_
  have q13_:=nz hcl 13 1 q12_
  have q18_:=nz hcl 18 0 q13_
  have q19_:=nz hcl 19 2 q18_
  have q20_:=nz hcl 20 0 q19_
  simp only [hD,q10_,q11_,q12_,q13_,q18_,q19_,q20_,cq,oT] at ht hs
  subst ht
  refine Qaa (v:=pointer (some ⟨b2,0,none⟩)) rfl rfl rfl ?_
  show G _ _ _ _ [_,_,_,_,_,_,_,_,_,_,_,_,_,_,_,_,_,_,_,_,_,_,_,_,_,_,_] _
  refine hk _ _ ⟨v10,v12,v14,v16,O,?_,hs.cast ?_⟩<;>simp only [oT,lq,cq,Nat.reduceBEq,q10_,q11_,q12_,q13_,q18_,q19_,q20_]
 ·
  rintro D t w hD hp hcl ⟨v10,v12,v14,v16,O,ht,hs⟩ rest hk
  obtain ⟨p9_,_⟩:=hp
  have q11_:=nz hcl 11 0 hD
  have q12_:=nz hcl 12 0 q11_
  have q13_:=nz hcl 13 1 q12_
  have q18_:=nz hcl 18 0 q13_
  have q19_:=nz hcl 19 2 q18_
  have q20_:=nz hcl 20 0 q19_
  simp only [hD,p9_,q11_,q12_,q13_,q18_,q19_,q20_,cq,oT] at ht hs
  subst ht
  refine Qaa (v:=pointer (some ⟨b2,0,none⟩)) rfl rfl rfl ?_
  show G _ _ _ _ [_,_,_,_,_,_,_,_,_,_,_,_,_,_,_,_,_,_,_,_,_,_,_,_,_,_,_] _
  refine hk _ _ ⟨v10,v12,v14,v16,O,?_,hs.cast ?_⟩<;>simp only [oT,lq,cq,Nat.reduceBEq,p9_,q11_,q12_,q13_,q18_,q19_,q20_]
 ·
  rintro D t w hD hp hcl ⟨v10,v12,v14,v16,O,ht,hs⟩ rest hk
  obtain ⟨p10_,_⟩:=hp
  obtain ⟨p9_,_⟩:=(hcl.get 10 (by decide)) p10_
  have q12_:=nz hcl 12 0 hD
  have q13_:=nz hcl 13 1 q12_
  have q18_:=nz hcl 18 0 q13_
  have q19_:=nz hcl 19 2 q18_
  have q20_:=nz hcl 20 0 q19_
  simp only [hD,p9_,p10_,q12_,q13_,q18_,q19_,q20_,cq,oT] at ht hs
  subst ht
  refine Qaa (v:=pointer (some ⟨b2,2,none⟩)) rfl rfl rfl ?_
  show G _ _ _ _ [_,_,_,_,_,_,_,_,_,_,_,_,_,_,_,_,_,_,_,_,_,_,_,_,_,_,_] _
  refine hk _ _ ⟨v10,v12,v14,v16,O,?_,hs.cast ?_⟩<;>simp only [oT,lq,cq,Nat.reduceBEq,p9_,p10_,q12_,q13_,q18_,q19_,q20_]
 ·
  rintro D t w hD hp hcl ⟨v10,v12,v14,v16,O,ht,hs⟩ rest hk
  obtain ⟨p11_,_⟩:=hp
  obtain ⟨p10_,_⟩:=(hcl.get 11 (by decide)) p11_
  obtain ⟨p9_,_⟩:=(hcl.get 10 (by decide)) p10_
  have q13_:=nz hcl 13 1 hD
  have q18_:=nz hcl 18 0 q13_
  have q19_:=nz hcl 19 2 q18_
  have q20_:=nz hcl 20 0 q19_
  simp only [hD,p9_,p10_,p11_,q13_,q18_,q19_,q20_,cq,oT] at ht hs
  subst ht
  refine Qaw rfl rfl (v:=v3) rfl rfl (fun _=>rfl) (cells_load (hs.box hp0) 2 1 rfl) ?_
  show G _ _ _ _ [_,_,_,_,_,_,_,_,_,_,_,_,_,_,_,_,_,_,_,_,_,_,_,_,_,_,_] _
  refine hk _ _ ⟨v10,v12,v14,v16,O,?_,hs.cast ?_⟩<;>simp only [oT,lq,cq,Nat.reduceBEq,p9_,p10_,p11_,q13_,q18_,q19_,q20_]
 ·
  rintro D t w hD hp hcl ⟨v10,v12,v14,v16,O,ht,hs⟩ rest hk
  obtain ⟨p8_,p12_,_⟩:=hp
  obtain ⟨p11_,_⟩:=(hcl.get 12 (by decide)) p12_
  obtain ⟨p10_,_⟩:=(hcl.get 11 (by decide)) p11_
  obtain ⟨p9_,_⟩:=(hcl.get 10 (by decide)) p10_
  have q18_:=nz hcl 18 0 hD
  have q19_:=nz hcl 19 2 q18_
  have q20_:=nz hcl 20 0 q19_
  simp only [hD,p8_,p9_,p10_,p11_,p12_,q18_,q19_,q20_,cq,oT] at ht hs
  subst ht
  refine Qci QaX (zv:=(agg #[int .u64 0,bool false])) (B:=16) hs (hs.rd hr4) rfl rfl rfl rfl rfl rfl rfl rfl rfl (by decide) rfl rfl (by decide) (by have:=gq13_;omega) ?_
  intro v12 w hs
  show G _ _ _ _ [_,_,_,_,_,_,_,_,_,_,_,_,_,_,_,_,_,_,_,_,_,_,_,_,_,_,_] _
  have hs:=hs.push 0 (by simp)
  refine hk _ _ ⟨v10,v12,v14,v16,O,?_,hs.cast ?_⟩<;>simp only [oT,lq,cq,Nat.reduceBEq,p8_,p9_,p10_,p11_,p12_,q18_,q19_,q20_]
 ·
  rintro D t w hD hp hcl ⟨v10,v12,v14,v16,O,ht,hs⟩ rest hk
  have q16_:=nz hcl 16 0 hD
  have q17_:=nz hcl 17 0 q16_
  have q18_:=nz hcl 18 1 q17_
  have q19_:=nz hcl 19 2 q18_
  have q20_:=nz hcl 20 0 q19_
  simp only [hD,q16_,q17_,q18_,q19_,q20_,cq,oT] at ht hs
  subst ht
  refine Qaa (v:=int .u64 a6) rfl rfl rfl ?_
  show G _ _ _ _ [_,_,_,_,_,_,_,_,_,_,_,_,_,_,_,_,_,_,_,_,_,_,_,_,_,_,_] _
  refine hk _ _ ⟨v10,v12,v14,v16,O,?_,hs.cast ?_⟩<;>simp only [oT,lq,cq,Nat.reduceBEq,q16_,q17_,q18_,q19_,q20_]
 ·
  rintro D t w hD hp hcl ⟨v10,v12,v14,v16,O,ht,hs⟩ rest hk
  have q16_:=nz hcl 16 1 hD
  have q17_:=nz hcl 17 0 q16_
  have q18_:=nz hcl 18 1 q17_
  have q19_:=nz hcl 19 2 q18_
  have q20_:=nz hcl 20 0 q19_
  simp only [hD,q16_,q17_,q18_,q19_,q20_,cq,oT] at ht hs
  subst ht
  refine Qaa (v:=bool a7) rfl rfl rfl ?_
  show G _ _ _ _ [_,_,_,_,_,_,_,_,_,_,_,_,_,_,_,_,_,_,_,_,_,_,_,_,_,_,_] _
  refine hk _ _ ⟨v10,v12,v14,v16,O,?_,hs.cast ?_⟩<;>simp only [oT,lq,cq,Nat.reduceBEq,q16_,q17_,q18_,q19_,q20_]
 ·
  rintro D t w hD hp hcl ⟨v10,v12,v14,v16,O,ht,hs⟩ rest hk
  obtain ⟨p14_,p15_,_⟩:=hp
  have q17_:=nz hcl 17 0 hD
  have q18_:=nz hcl 18 1 q17_
  have q19_:=nz hcl 19 2 q18_
  have q20_:=nz hcl 20 0 q19_
  simp only [hD,p14_,p15_,q17_,q18_,q19_,q20_,cq,oT] at ht hs
  subst ht
  refine Qaa (v:=agg (QaC (⟨a6,a7⟩:Qav)).toArray) rfl rfl (QbB (cs:=(QaC (⟨a6,a7⟩:Qav))) (segs:=[[int .u64 0],[bool false]]) rfl rfl (fun _=>rfl) ⟨rfl,(fun _=>rfl),rfl,(fun _=>rfl),trivial⟩ (by simp only [List.map_cons,List.map_nil,List.forall_mem_cons,List.not_mem_nil,false_implies,implies_true,and_true];exact ⟨⟨_,rfl,rfl⟩,⟨_,rfl,rfl⟩⟩) (by first|rfl|(simp [ev,QaC];done)|(simp [ev,QaC];rfl))) ?_
  show G _ _ _ _ [_,_,_,_,_,_,_,_,_,_,_,_,_,_,_,_,_,_,_,_,_,_,_,_,_,_,_] _
  refine hk _ _ ⟨v10,v12,v14,v16,O,?_,hs.cast ?_⟩<;>simp only [oT,lq,cq,Nat.reduceBEq,p14_,p15_,q17_,q18_,q19_,q20_]
 ·
  rintro D t w hD hp hcl ⟨v10,v12,v14,v16,O,ht,hs⟩ rest hk
  obtain ⟨p16_,_⟩:=hp
  obtain ⟨p14_,p15_,_⟩:=(hcl.get 16 (by decide)) p16_
  have q18_:=nz hcl 18 1 hD
  have q19_:=nz hcl 19 2 q18_
  have q20_:=nz hcl 20 0 q19_
  simp only [hD,p14_,p15_,p16_,q18_,q19_,q20_,cq,oT] at ht hs
  subst ht
  refine Qcr QaX (y:=(⟨a6,a7⟩:Qav)) hs rfl rfl rfl rfl (fun _=>rfl) (zv:=(agg #[int .u64 0,bool false])) (fun _=>rfl) rfl (by decide) (by decide) rfl ?_
  intro v14 w hs
  show G _ _ _ _ [_,_,_,_,_,_,_,_,_,_,_,_,_,_,_,_,_,_,_,_,_,_,_,_,_,_,_] _
  have hs:=hs.fill 1 rfl
  refine hk _ _ ⟨v10,v12,v14,v16,O,?_,hs.cast ?_⟩<;>simp only [oT,lq,cq,Nat.reduceBEq,p14_,p15_,p16_,q18_,q19_,q20_]
 ·
  rintro D t w hD hp hcl ⟨v10,v12,v14,v16,O,ht,hs⟩ rest hk
  obtain ⟨p13_,p17_,_,_⟩:=hp
  obtain ⟨p16_,_⟩:=(hcl.get 17 (by decide)) p17_
  obtain ⟨p14_,p15_,_⟩:=(hcl.get 16 (by decide)) p16_
  obtain ⟨p8_,p12_,_⟩:=(hcl.get 13 (by decide)) p13_
  obtain ⟨p11_,_⟩:=(hcl.get 12 (by decide)) p12_
  obtain ⟨p10_,_⟩:=(hcl.get 11 (by decide)) p11_
  obtain ⟨p9_,_⟩:=(hcl.get 10 (by decide)) p10_
  have q19_:=nz hcl 19 2 hD
  have q20_:=nz hcl 20 0 q19_
  simp only [hD,p8_,p9_,p10_,p11_,p12_,p13_,p14_,p15_,p16_,p17_,q19_,q20_,cq,oT] at ht hs
  subst ht
  refine Qci QaX (zv:=(agg #[int .u64 0,bool false])) (B:=16) hs (hs.row 1 rfl) rfl rfl rfl rfl rfl rfl rfl rfl rfl (by decide) rfl rfl (by decide) (by have:=gq18_;omega) ?_
  intro v16 w hs
  show G _ _ _ _ [_,_,_,_,_,_,_,_,_,_,_,_,_,_,_,_,_,_,_,_,_,_,_,_,_,_,_] _
  have hs:=hs.push 0 (by simp)
  refine hk _ _ ⟨v10,v12,v14,v16,O,?_,hs.cast ?_⟩<;>simp only [oT,lq,cq,Nat.reduceBEq,p8_,p9_,p10_,p11_,p12_,p13_,p14_,p15_,p16_,p17_,q19_,q20_]
 ·
  rintro D t w hD hp hcl ⟨v10,v12,v14,v16,O,ht,hs⟩ rest hk
  obtain ⟨p3_,p7_,p18_,_⟩:=hp
  obtain ⟨p13_,p17_,_,_⟩:=(hcl.get 18 (by decide)) p18_
  obtain ⟨p16_,_⟩:=(hcl.get 17 (by decide)) p17_
  obtain ⟨p14_,p15_,_⟩:=(hcl.get 16 (by decide)) p16_
  obtain ⟨p8_,p12_,_⟩:=(hcl.get 13 (by decide)) p13_
  obtain ⟨p11_,_⟩:=(hcl.get 12 (by decide)) p12_
  obtain ⟨p10_,_⟩:=(hcl.get 11 (by decide)) p11_
  obtain ⟨p9_,_⟩:=(hcl.get 10 (by decide)) p10_
  obtain ⟨p6_,_⟩:=(hcl.get 7 (by decide)) p7_
  obtain ⟨p5_,_⟩:=(hcl.get 6 (by decide)) p6_
  obtain ⟨p4_,_⟩:=(hcl.get 5 (by decide)) p5_
  obtain ⟨p2_,_⟩:=(hcl.get 3 (by decide)) p3_
  obtain ⟨p1_,_⟩:=(hcl.get 2 (by decide)) p2_
  obtain ⟨p0_,_⟩:=(hcl.get 1 (by decide)) p1_
  have q20_:=nz hcl 20 0 hD
  simp only [hD,p0_,p1_,p2_,p3_,p4_,p5_,p6_,p7_,p8_,p9_,p10_,p11_,p12_,p13_,p14_,p15_,p16_,p17_,p18_,q20_,cq,oT] at ht hs
  subst ht
  refine Qaa (v:=agg (([int .i8 a1.Qac,int .i8 a1.Qae,v16]:List Value)).toArray) rfl rfl (QbB (cs:=(([int .i8 a1.Qac,int .i8 a1.Qae,v16]:List Value))) (segs:=[[int .i8 0],[int .i8 0],[slice none 0 0]]) rfl rfl (fun _=>rfl) ⟨rfl,(fun _=>rfl),rfl,(fun _=>rfl),rfl,(fun _=>rfl),trivial⟩ (by simp only [List.map_cons,List.map_nil,List.forall_mem_cons,List.not_mem_nil,false_implies,implies_true,and_true];exact ⟨⟨_,rfl,rfl⟩,⟨_,rfl,rfl⟩,⟨_,rfl,slSize (hs.row 0 rfl)⟩⟩) (by first|rfl|(simp [ev,encA,slCells (hs.row 0 rfl)];done)|(simp [ev,encA,slCells (hs.row 0 rfl)];rfl))) ?_
  show G _ _ _ _ [_,_,_,_,_,_,_,_,_,_,_,_,_,_,_,_,_,_,_,_,_,_,_,_,_,_,_] _
  refine hk _ _ ⟨v10,v12,v14,v16,O,?_,hs.cast ?_⟩<;>simp only [oT,lq,cq,Nat.reduceBEq,p0_,p1_,p2_,p3_,p4_,p5_,p6_,p7_,p8_,p9_,p10_,p11_,p12_,p13_,p14_,p15_,p16_,p17_,p18_,q20_]
 ·
  rintro D t w hD hp hcl ⟨v10,v12,v14,v16,O,ht,hs⟩ rest hk
  obtain ⟨p19_,p18_,p0_,p1_,p2_,p3_,p4_,p5_,p6_,p7_,p8_,p9_,p10_,p11_,p12_,p13_,p14_,p15_,p16_,p17_,_,_,_⟩:=hp
  simp only [hD,p0_,p1_,p2_,p3_,p4_,p5_,p6_,p7_,p8_,p9_,p10_,p11_,p12_,p13_,p14_,p15_,p16_,p17_,p18_,p19_,cq,oT] at ht hs
  subst ht
  have hs:St _ [_,_,_] _:=hs.pull 2 rfl
  refine QaB (n:=3) hs rfl rfl rfl (vs:=(([int .i8 a1.Qac,int .i8 a1.Qae,v16]:List Value))) rfl rfl rfl (fun _=>rfl) rfl (by intro v hv;simp only [List.mem_append,List.mem_cons,List.not_mem_nil,or_false] at hv;repeat (first|(subst hv;first|rfl|exact slOne (hs.row 1 rfl))|(rcases hv with hv|hv))) ?_
  intro w hs
  show G _ _ _ _ [_,_,_,_,_,_,_,_,_,_,_,_,_,_,_,_,_,_,_,_,_,_,_,_,_,_,_] _
  have hs:=hs.push 2 (by simp)
  refine hk _ _ ⟨v10,v12,v14,v16,O,?_,hs.cast ?_⟩<;>simp only [oT,lq,cq,Nat.reduceBEq,p0_,p1_,p2_,p3_,p4_,p5_,p6_,p7_,p8_,p9_,p10_,p11_,p12_,p13_,p14_,p15_,p16_,p17_,p18_,p19_]
 intro D t w hall hI
 obtain ⟨v10,v12,v14,v16,O,ht,hs⟩:=hI
 have p0_:=hall 0 (by decide)
 have p1_:=hall 1 (by decide)
 have p2_:=hall 2 (by decide)
 have p3_:=hall 3 (by decide)
 have p4_:=hall 4 (by decide)
 have p5_:=hall 5 (by decide)
 have p6_:=hall 6 (by decide)
 have p7_:=hall 7 (by decide)
 have p8_:=hall 8 (by decide)
 have p9_:=hall 9 (by decide)
 have p10_:=hall 10 (by decide)
 have p11_:=hall 11 (by decide)
 have p12_:=hall 12 (by decide)
 have p13_:=hall 13 (by decide)
 have p14_:=hall 14 (by decide)
 have p15_:=hall 15 (by decide)
 have p16_:=hall 16 (by decide)
 have p17_:=hall 17 (by decide)
 have p18_:=hall 18 (by decide)
 have p19_:=hall 19 (by decide)
 have p20_:=hall 20 (by decide)
 simp only [p0_,p1_,p2_,p3_,p4_,p5_,p6_,p7_,p8_,p9_,p10_,p11_,p12_,p13_,p14_,p15_,p16_,p17_,p18_,p19_,p20_,cq,oT] at ht hs
 subst ht
 obtain rfl:=QsJ H
 refine Qax Tryz.func78 (v:=agg (([int .i8 a1.Qac,int .i8 a1.Qae,v16]:List Value)).toArray) (resC rfl ⟨⟨_,rfl,(run_loadVar_agg (es:=(([int .i8 a1.Qac,int .i8 a1.Qae,v16]:List Value))) rfl rfl (cells_all (hs.cells 2 rfl)))⟩,trivial⟩) ?_
 have hs:=hs.pull 0 rfl
 have hs:St _ [_] _:=St.take (Γ':=[_,_]) hs
 exact ⟨_,rfl,v16,rfl,hs⟩
def QaR.post (w0:World) (r:(Qag×Int×Int)) (v:Value) (w:World):Prop:=∃ u1:Value,v=tuple #[agg (([int .i8 r.1.Qac,int .i8 r.1.Qae,u1]:List Value)).toArray,int .i64 r.2.1,int .i64 r.2.2]∧St w0 [Row 61 Qao u1 r.1.Qah] w
theorem QaR.calls {N:Nat} {a1:Int} {a2:Int} {a3:Int} {a4:(List Bool)} {v5:Value} {w0:World} {r:(Qag×Int×Int)} (hr3:RdRow K.bool w0 v5 a4) (H:QaR.f N a1 a2 a3 a4=some r):
 Calls Tryz.prog 40 #[int .i64 a1,int .i64 a2,int .i64 a3,v5] w0 fun e w=>∃ v,e= .returned v∧QaR.post w0 r v w:=by
 unfold QaR.f at H
 have hs:St w0 [] w0:=St.refl w0
 refine calls_of_g (n:=52) Tryz.func40 rfl rfl ?_
 show G _ _ _ _ [_,_,_,_,_,_,_,_,_,_,_,_,_,_,_,_,_,_,_,_,_,_,_,_,_,_,_,_,_,_,_,_,_,_,_,_,_,_,_,_,_,_,_,_,_,_,_,_,_,_,_,_,_,_,_,_] _
 refine Qaf (Qak [0,1,2] rfl ?_)
 refine Qa5 hs rfl rfl (z:=(agg #[int .i8 0,int .i8 0,slice none 0 0])) (cs:=(([int .i8 0,int .i8 0,slice none 0 0]:List Value))) rfl (fun _=>rfl) rfl ?_
 intro b6 w hs
 refine Qaa (v:=int .i64 0) rfl rfl rfl ?_
 refine Qaa (v:=int .i64 0) rfl rfl rfl ?_
 show G _ _ _ _ [_,_,_,_,_,_,_,_,_,_,_,_,_,_,_,_,_,_,_,_,_,_,_,_,_,_,_,_,_,_,_,_,_,_,_,_,_,_,_,_,_,_,_,_,_,_,_,_,_,_,_,_,_,_,_,_] _
 refine Qab (Qaf (Qak [0,1,2,3,4,5,6] rfl ?_))
 refine Qaa (v:=int .i64 a1) rfl rfl rfl ?_
 refine Qaa (v:=int .i8 (i8w a1)) rfl rfl rfl ?_
 refine Qaa (v:=int .i64 a2) rfl rfl rfl ?_
 refine Qaa (v:=int .i8 (i8w a2)) rfl rfl rfl ?_
 show G _ _ _ _ [_,_,_,_,_,_,_,_,_,_,_,_,_,_,_,_,_,_,_,_,_,_,_,_,_,_,_,_,_,_,_,_,_,_,_,_,_,_,_,_,_,_,_,_,_,_,_,_,_,_,_,_,_,_,_,_] _
 refine Qaa (v:=agg (([int .i8 (i8w a1),int .i8 (i8w a2),slice none 0 0]:List Value)).toArray) rfl rfl (QbB (cs:=(([int .i8 (i8w a1),int .i8 (i8w a2),slice none 0 0]:List Value))) (segs:=[[int .i8 0],[int .i8 0],[slice none 0 0]]) rfl rfl (fun _=>rfl) ⟨rfl,(fun _=>rfl),rfl,(fun _=>rfl),rfl,(fun _=>rfl),trivial⟩ (by simp only [List.map_cons,List.map_nil,List.forall_mem_cons,List.not_mem_nil,false_implies,implies_true,and_true];exact ⟨⟨_,rfl,rfl⟩,⟨_,rfl,rfl⟩⟩) (by first|rfl|(simp [ev,encA];done)|(simp [ev,encA];rfl))) ?_
 refine Qa5 hs rfl rfl (z:=(agg #[int .i8 0,int .i8 0,slice none 0 0])) (cs:=(([int .i8 0,int .i8 0,slice none 0 0]:List Value))) rfl (fun _=>rfl) rfl ?_
 intro b8 w hs
 show G _ _ _ _ [_,_,_,_,_,_,_,_,_,_,_,_,_,_,_,_,_,_,_,_,_,_,_,_,_,_,_,_,_,_,_,_,_,_,_,_,_,_,_,_,_,_,_,_,_,_,_,_,_,_,_,_,_,_,_,_] _
 refine QaB (n:=3) hs rfl rfl rfl (vs:=(([int .i8 (i8w a1),int .i8 (i8w a2),slice none 0 0]:List Value))) rfl rfl rfl (fun _=>rfl) rfl (by simp [Value.oneCell']) ?_
 intro w hs
 refine Qab ?_
 obtain ⟨o1_,Ho,Hr1_⟩:=bind_get H
 refine QaF (J:=fun t w=>QaR.a0 N=some r∧Fr t (fun O=>([O 0,O 1,O 2,O 3,O 4,O 5,O 6,O 7,O 8,O 9,O 10,O 11,O 12,O 13,O 14,O 15,O 16,O 17,O 18,O 19,O 20,O 21,O 22,O 23,O 24,O 25,O 26,O 27,O 28,O 29,O 30,O 31,O 32,O 33,O 34,O 35,O 36,O 37,O 38,O 39,O 40,O 41,O 42,O 43,O 44,O 45,O 46,O 47,O 48,O 49,O 50,O 51,O 52,O 53,O 54,O 55]:List Value))∧St w0 [] w) ?_ ?_
 ·
  rintro t w ⟨H,hf,hs⟩
  obtain ⟨O,rfl⟩:=hf.open
  show G _ _ _ _ [_,_,_,_,_,_,_,_,_,_,_,_,_,_,_,_,_,_,_,_,_,_,_,_,_,_,_,_,_,_,_,_,_,_,_,_,_,_,_,_,_,_,_,_,_,_,_,_,_,_,_,_,_,_,_,_] _
  unfold QaR.a0 at H
  cases H
 intro ha1_
 have hs:=hs.nil 61 Qao
 have hs:=hs.pull 1 rfl
 have hs:=hs.pull 1 rfl
 have hs:=hs.pull 2 rfl
 have hs:St _ [_,_,_] _:=St.take (Γ':=[]) hs
 refine QaZ (I:=fun n_ t w=>∃ x28:Int,∃ x29:Int,∃ v31:Value,∃ x32:(List Qav),rounds (fun s=>QaR.b0 N a4 a3 s.1 s.2.1 s.2.2) n_ (x28,x29,x32)=some o1_∧Fr t (fun O=>([O 0,O 1,int .i64 a3,v5,O 4,O 5,O 6,O 7,pointer (some ⟨b6,0,none⟩),O 9,O 10,pointer (some ⟨b8,0,none⟩),O 12,O 13,O 14,O 15,O 16,O 17,O 18,O 19,O 20,O 21,O 22,O 23,O 24,O 25,O 26,O 27,O 28,O 29,O 30,O 31,O 32,O 33,O 34,O 35,O 36,O 37,O 38,O 39,O 40,O 41,O 42,O 43,O 44,O 45,O 46,O 47,O 48,O 49,O 50,O 51,O 52,O 53,O 54,O 55]:List Value))∧St w0 [Cells b6 (([int .i8 0,int .i8 0,slice none 0 0]:List Value)) 30,Row 61 Qao v31 x32,Cells b8 (([int .i8 x28,int .i8 x29,v31]:List Value)) 30] w) N ⟨i8w a1,i8w a2,slice none 0 0,[],Ho,rfl,hs⟩ ?_ ?_
 ·
  rintro _ _ ⟨x28,x29,v31,x32,h,_⟩
  exact rounds_zero h
 intro n_ ih1_
 rintro t w ⟨x28,x29,v31,x32,Ho,hf,hs⟩
 obtain ⟨O,rfl⟩:=hf.open
 show G _ _ _ _ [_,_,_,_,_,_,_,_,_,_,_,_,_,_,_,_,_,_,_,_,_,_,_,_,_,_,_,_,_,_,_,_,_,_,_,_,_,_,_,_,_,_,_,_,_,_,_,_,_,_,_,_,_,_,_,_] _
 obtain ⟨x3_,H,Hx1_⟩:=rounds_succ Ho
 have H:QaR.b0 N a4 a3 x28 x29 x32=some x3_:=H
 unfold QaR.b0 at H
 refine QaF (J:=(fun t w=>∃ x46:Int,∃ x47:Int,∃ v48:Value,∃ x49:(List Qav),QaR.j2 N x46 x47 x49=some x3_∧Fr t (fun O=>([O 0,O 1,int .i64 a3,v5,O 4,O 5,O 6,O 7,pointer (some ⟨b6,0,none⟩),O 9,O 10,pointer (some ⟨b8,0,none⟩),O 12,O 13,O 14,O 15,O 16,O 17,O 18,O 19,O 20,O 21,O 22,O 23,O 24,O 25,O 26,O 27,O 28,O 29,O 30,O 31,O 32,O 33,O 34,O 35,O 36,O 37,O 38,O 39,O 40,O 41,O 42,O 43,O 44,O 45,O 46,O 47,O 48,O 49,O 50,O 51,O 52,O 53,O 54,O 55]:List Value))∧St w0 [Cells b6 (([int .i8 0,int .i8 0,slice none 0 0]:List Value)) 30,Cells b8 (([int .i8 x46,int .i8 x47,v48]:List Value)) 30,Row 61 Qao v48 x49] w)) ?_ ?_
 ·
  rintro t w ⟨x46,x47,v48,x49,H,hf,hs⟩
  obtain ⟨O,rfl⟩:=hf.open
  show G _ _ _ _ [_,_,_,_,_,_,_,_,_,_,_,_,_,_,_,_,_,_,_,_,_,_,_,_,_,_,_,_,_,_,_,_,_,_,_,_,_,_,_,_,_,_,_,_,_,_,_,_,_,_,_,_,_,_,_,_] _
  unfold QaR.j2 at H
  obtain rfl:=QsJ H
  have hs:=hs.pull 1 rfl
  have hs:=hs.pull 2 rfl
  have hs:=hs.pull 2 rfl
  have hs:St _ [_,_,_] _:=St.take (Γ':=[]) hs
  exact ih1_ _ _ ⟨x46,x47,v48,x49,Hx1_,rfl,hs⟩
 intro ha
 refine Qaf (Qak [0,1,2,3,4,5] rfl ?_)
 obtain ⟨r33,Hr33,H⟩:=bind_get H
 refine Qas (args:=[pointer (some ⟨b8,0,none⟩)]) rfl rfl (Qat rfl (callFunc_enter Tryz.func76 rfl rfl) rfl) (Qb6.calls (a1:=(⟨x28,x29,x32⟩:Qag)) (hs.row 1 rfl) (hs.cells 2 rfl) Hr33) ?_
 rintro _ w ⟨rfl,hs2⟩
 have hs:St _ [_,_,_] _:=hs.call hs2
 refine Qaa (v:=tuple #[int .i64 r33.1,int .i64 r33.2]) rfl rfl rfl ?_
 refine Qaa (v:=int .i64 r33.1) rfl rfl rfl ?_
 refine Qaa (v:=int .i64 r33.2) rfl rfl rfl ?_
 refine Qaa (v:=int .i64 r33.1) rfl rfl rfl ?_
 refine Qaa (v:=int .i64 r33.2) rfl rfl rfl ?_
 show G _ _ _ _ [_,_,_,_,_,_,_,_,_,_,_,_,_,_,_,_,_,_,_,_,_,_,_,_,_,_,_,_,_,_,_,_,_,_,_,_,_,_,_,_,_,_,_,_,_,_,_,_,_,_,_,_,_,_,_,_] _
 refine Qab (Qaf (Qaf (Qak [0,1] rfl ?_)))
 refine Qaa (v:=int .i64 r33.2) rfl rfl rfl ?_
 refine QaA (B:=r33.2==0) rfl rfl rfl ?_ ?_
 ·
  intro hb
  rw [if_pos (b_beq_t hb)] at H
  show G _ _ _ _ [_,_,_,_,_,_,_,_,_,_,_,_,_,_,_,_,_,_,_,_,_,_,_,_,_,_,_,_,_,_,_,_,_,_,_,_,_,_,_,_,_,_,_,_,_,_,_,_,_,_,_,_,_,_,_,_] _
  refine Qab (Qam rfl (Qaf (Qak [0,1,2,3,4] rfl ?_)))
  refine QaG rfl rfl (es:=(([int .i8 x28,int .i8 x29,v31]:List Value))) rfl rfl (fun _=>rfl) (n:=3) (fun _=>rfl) rfl (cells_all (hs.cells 2 rfl)) ?_
  refine Qaa (v:=int .i64 r33.1) rfl rfl rfl ?_
  refine QaB (n:=3) hs rfl rfl rfl (vs:=(([int .i8 x28,int .i8 x29,v31]:List Value))) rfl rfl rfl (fun _=>rfl) rfl (by intro v hv;simp only [List.mem_append,List.mem_cons,List.not_mem_nil,or_false] at hv;repeat (first|(subst hv;first|rfl|exact slOne (hs.row 1 rfl))|(rcases hv with hv|hv))) ?_
  intro w hs
  refine Qaa (v:=int .i64 r33.1) rfl rfl rfl ?_
  refine Qaa (v:=int .i64 0) rfl rfl rfl ?_
  show G _ _ _ _ [_,_,_,_,_,_,_,_,_,_,_,_,_,_,_,_,_,_,_,_,_,_,_,_,_,_,_,_,_,_,_,_,_,_,_,_,_,_,_,_,_,_,_,_,_,_,_,_,_,_,_,_,_,_,_,_] _
  refine Qab ?_
  obtain rfl:=QsJ H
  subst Hx1_
  have H:=QsJ Hr1_
  subst H
  refine Qax Tryz.func40 (v:=tuple #[agg (([int .i8 x28,int .i8 x29,v31]:List Value)).toArray,int .i64 r33.1,int .i64 0]) (resN (l:=Tryz.f40.results.toList) (vs:=[agg (([int .i8 x28,int .i8 x29,v31]:List Value)).toArray,int .i64 r33.1,int .i64 0]) rfl ⟨⟨_,rfl,(run_loadVar_agg (es:=(([int .i8 x28,int .i8 x29,v31]:List Value))) rfl rfl (cells_all (hs.cells 0 rfl)))⟩,rfl,rfl,trivial⟩ (by simp)) ?_
  have hs:=hs.pull 1 rfl
  have hs:St _ [_] _:=St.take (Γ':=[_,_]) hs
  exact ⟨_,rfl,v31,rfl,hs⟩
 intro hb
 rw [if_neg (b_beq_f hb)] at H
 refine Qab (Qap rfl (QaE (Qaf (Qaf (Qak [0,1] rfl ?_)))))
 refine Qaa (v:=int .i64 r33.2) rfl rfl rfl ?_
 refine QaA (B:=r33.2==8) rfl rfl rfl ?_ ?_
 ·
  intro hb
  rw [if_pos (b_beq_t hb)] at H
  refine Qab (Qam rfl (Qaf (Qak [0,1,2,3] rfl ?_)))
  refine Qaa (v:=agg (([int .i8 0,int .i8 0,slice none 0 0]:List Value)).toArray) rfl rfl (QbB (cs:=(([int .i8 0,int .i8 0,slice none 0 0]:List Value))) (segs:=[[int .i8 0],[int .i8 0],[slice none 0 0]]) rfl rfl (fun _=>rfl) ⟨rfl,(fun _=>rfl),rfl,(fun _=>rfl),rfl,(fun _=>rfl),trivial⟩ (by simp) (by first|rfl|(simp [ev,encA];done)|(simp [ev,encA];rfl))) ?_
  show G _ _ _ _ [_,_,_,_,_,_,_,_,_,_,_,_,_,_,_,_,_,_,_,_,_,_,_,_,_,_,_,_,_,_,_,_,_,_,_,_,_,_,_,_,_,_,_,_,_,_,_,_,_,_,_,_,_,_,_,_] _
  refine QaB (n:=3) hs rfl rfl rfl (vs:=(([int .i8 0,int .i8 0,slice none 0 0]:List Value))) rfl rfl rfl (fun _=>rfl) rfl (by simp [Value.oneCell']) ?_
  intro w hs
  refine Qaa (v:=int .i64 0) rfl rfl rfl ?_
  refine Qaa (v:=int .i64 8) rfl rfl rfl (Qab ?_)
  obtain rfl:=QsJ H
  subst Hx1_
  have H:=QsJ Hr1_
  subst H
  refine Qax Tryz.func40 (v:=tuple #[agg (([int .i8 0,int .i8 0,slice none 0 0]:List Value)).toArray,int .i64 0,int .i64 8]) (resN (l:=Tryz.f40.results.toList) (vs:=[agg (([int .i8 0,int .i8 0,slice none 0 0]:List Value)).toArray,int .i64 0,int .i64 8]) rfl ⟨⟨_,rfl,(run_loadVar_agg (es:=(([int .i8 0,int .i8 0,slice none 0 0]:List Value))) rfl rfl (cells_all (hs.cells 0 rfl)))⟩,rfl,rfl,trivial⟩ (by simp)) ?_
  have hs:=hs.nil 61 Qao
  have hs:=hs.pull 0 rfl
  have hs:St _ [_] _:=St.take (Γ':=[_,_,_]) hs
  exact ⟨_,rfl,(slice none 0 0),rfl,hs⟩
 intro hb
 rw [if_neg (b_beq_f hb)] at H
 refine Qab (Qap rfl (QaE (Qaf (Qak [0,1,2,3] rfl ?_))))
 refine Qaa (v:=pointer (some ⟨b8,2,none⟩)) rfl rfl rfl ?_
 refine Qaw rfl rfl (v:=v31) rfl rfl (fun _=>rfl) (cells_load (hs.cells 2 rfl) 2 1 rfl) ?_
 show G _ _ _ _ [_,_,_,_,_,_,_,_,_,_,_,_,_,_,_,_,_,_,_,_,_,_,_,_,_,_,_,_,_,_,_,_,_,_,_,_,_,_,_,_,_,_,_,_,_,_,_,_,_,_,_,_,_,_,_,_] _
 refine Qbp (hs.row 1 rfl) rfl rfl rfl rfl rfl ?_
 refine Qaa (v:=int .i64 (x32.length:Int)) rfl rfl rfl (Qab (Qaf (Qaf (Qak [0,1] rfl ?_))))
 refine Qaa (v:=int .i64 (x32.length:Int)) rfl rfl rfl ?_
 refine QaA (B:=(x32.length:Int)==60) rfl rfl rfl ?_ ?_
 ·
  intro hb
  rw [if_pos (b_beq_t hb)] at H
  refine Qab (Qam rfl (Qaf (Qak [0,1,2,3] rfl ?_)))
  refine Qaa (v:=agg (([int .i8 0,int .i8 0,slice none 0 0]:List Value)).toArray) rfl rfl (QbB (cs:=(([int .i8 0,int .i8 0,slice none 0 0]:List Value))) (segs:=[[int .i8 0],[int .i8 0],[slice none 0 0]]) rfl rfl (fun _=>rfl) ⟨rfl,(fun _=>rfl),rfl,(fun _=>rfl),rfl,(fun _=>rfl),trivial⟩ (by simp) (by first|rfl|(simp [ev,encA];done)|(simp [ev,encA];rfl))) ?_
  refine QaB (n:=3) hs rfl rfl rfl (vs:=(([int .i8 0,int .i8 0,slice none 0 0]:List Value))) rfl rfl rfl (fun _=>rfl) rfl (by simp [Value.oneCell']) ?_
  intro w hs
  refine Qaa (v:=int .i64 0) rfl rfl rfl ?_
  show G _ _ _ _ [_,_,_,_,_,_,_,_,_,_,_,_,_,_,_,_,_,_,_,_,_,_,_,_,_,_,_,_,_,_,_,_,_,_,_,_,_,_,_,_,_,_,_,_,_,_,_,_,_,_,_,_,_,_,_,_] _
  refine Qaa (v:=int .i64 7) rfl rfl rfl (Qab ?_)
  obtain rfl:=QsJ H
  subst Hx1_
  have H:=QsJ Hr1_
  subst H
  refine Qax Tryz.func40 (v:=tuple #[agg (([int .i8 0,int .i8 0,slice none 0 0]:List Value)).toArray,int .i64 0,int .i64 7]) (resN (l:=Tryz.f40.results.toList) (vs:=[agg (([int .i8 0,int .i8 0,slice none 0 0]:List Value)).toArray,int .i64 0,int .i64 7]) rfl ⟨⟨_,rfl,(run_loadVar_agg (es:=(([int .i8 0,int .i8 0,slice none 0 0]:List Value))) rfl rfl (cells_all (hs.cells 0 rfl)))⟩,rfl,rfl,trivial⟩ (by simp)) ?_
  have hs:=hs.nil 61 Qao
  have hs:=hs.pull 0 rfl
  have hs:St _ [_] _:=St.take (Γ':=[_,_,_]) hs
  exact ⟨_,rfl,(slice none 0 0),rfl,hs⟩
 intro hb
 rw [if_neg (b_beq_f hb)] at H
 show G _ _ _ _ [_,_,_,_,_,_,_,_,_,_,_,_,_,_,_,_,_,_,_,_,_,_,_,_,_,_,_,_,_,_,_,_,_,_,_,_,_,_,_,_,_,_,_,_,_,_,_,_,_,_,_,_,_,_,_,_] _
 refine Qab (Qap rfl (QaE (Qaf (Qak [0,1,2,3] rfl ?_))))
 obtain ⟨r34,Hr34,H⟩:=bind_get H
 refine Qas (args:=[pointer (some ⟨b8,0,none⟩)]) rfl rfl (Qat rfl (callFunc_enter Tryz.func59 rfl rfl) rfl) (QaU.calls (a1:=(⟨x28,x29,x32⟩:Qag)) (hs.row 1 rfl) (hs.cells 2 rfl) Hr34) ?_
 rintro _ w ⟨rfl,hs2⟩
 have hs:St _ [_,_,_] _:=hs.call hs2
 obtain ⟨r35,Hr35,H⟩:=bind_get H
 refine Qas (args:=[agg ((encA (encI .i64)) r34).toArray]) rfl rfl (Qat rfl (callFunc_enter Tryz.func63 rfl rfl) rfl) (QaQ.calls (a1:=r34) Hr35) ?_
 rintro _ w ⟨rfl,hs2⟩
 have hs:St _ [_,_,_] _:=hs.call hs2
 obtain ⟨r36,Hr36,H⟩:=bind_get H
 refine Qas (args:=[pointer (some ⟨b8,0,none⟩),agg ((encA (encI .i64)) r35).toArray]) rfl rfl (Qat rfl (callFunc_enter Tryz.func77 rfl rfl) rfl) (Qa6.calls (a1:=(⟨x28,x29,x32⟩:Qag)) (a6:=r35) (hs.row 1 rfl) (hs.cells 2 rfl) Hr36) ?_
 rintro _ w ⟨rfl,hs2⟩
 have hs:St _ [_,_,_] _:=hs.call hs2
 show G _ _ _ _ [_,_,_,_,_,_,_,_,_,_,_,_,_,_,_,_,_,_,_,_,_,_,_,_,_,_,_,_,_,_,_,_,_,_,_,_,_,_,_,_,_,_,_,_,_,_,_,_,_,_,_,_,_,_,_,_] _
 refine Qaa (v:=int .u64 r36) rfl rfl rfl (Qab (Qak [0,1,2,3,4,5,6,7,8,9,10,11,12,13,14,15] rfl ?_))
 refine Qaa (v:=int .u64 r36) rfl rfl rfl ?_
 refine Qaa (v:=int .u64 r36) rfl rfl rfl ?_
 refine Qaa (v:=int .i64 a3) rfl rfl rfl ?_
 refine Qaa (v:=int .i64 (x32.length:Int)) rfl rfl rfl ?_
 refine Qaa (v:=v5) rfl rfl rfl ?_
 refine Qbp (hs.rd hr3) rfl rfl rfl rfl rfl ?_
 refine QaA (B:=decide ((x32.length:Int)< (a4.length:Int))) rfl rfl rfl ?_ ?_
 ·
  intro hb
  rw [if_pos (b_dec_t hb)] at H
  show G _ _ _ _ [_,_,_,_,_,_,_,_,_,_,_,_,_,_,_,_,_,_,_,_,_,_,_,_,_,_,_,_,_,_,_,_,_,_,_,_,_,_,_,_,_,_,_,_,_,_,_,_,_,_,_,_,_,_,_,_] _
  refine Qaa (v:=bool true) rfl rfl rfl ?_
  refine Qaa (v:=v5) rfl rfl rfl ?_
  refine Qaa (v:=int .i64 (x32.length:Int)) rfl rfl rfl ?_
  obtain ⟨g2,H⟩:=ite_get H
  refine Qcm fkB false (hs.rd hr3) rfl (fun _=>rfl) g2.1 g2.2 rfl rfl rfl rfl rfl ?_
  intro p37 hp37 lp37 op37
  refine Qaw rfl rfl (v:=bool (rdL a4 (x32.length:Int) false)) rfl rfl (fun _=>rfl) hp37 ?_
  refine Qaa (v:=bool (rdL a4 (x32.length:Int) false)) rfl rfl rfl ?_
  show G _ _ _ _ [_,_,_,_,_,_,_,_,_,_,_,_,_,_,_,_,_,_,_,_,_,_,_,_,_,_,_,_,_,_,_,_,_,_,_,_,_,_,_,_,_,_,_,_,_,_,_,_,_,_,_,_,_,_,_,_] _
  obtain ⟨r38,Hr38,H⟩:=bind_get H
  refine Qas (args:=[int .u64 r36,int .i64 a3,bool (rdL a4 (x32.length:Int) false)]) rfl rfl (Qat rfl (callFunc_enter Tryz.func79 rfl rfl) rfl) (QbA.calls (a1:=r36) (a2:=a3) (a3:=rdL a4 (x32.length:Int) false) Hr38) ?_
  rintro _ w ⟨rfl,hs2⟩
  have hs:St _ [_,_,_] _:=hs.call hs2
  obtain ⟨r39,Hr39,H⟩:=bind_get H
  refine Qas (args:=[pointer (some ⟨b8,0,none⟩),int .u64 r36,bool r38]) rfl rfl (Qat rfl (callFunc_enter Tryz.func78 rfl rfl) rfl) (QbP.calls (a1:=(⟨x28,x29,x32⟩:Qag)) (a6:=r36) (a7:=r38) (hs.row 1 rfl) (hs.cells 2 rfl) Hr39) ?_
  rintro _ w ⟨v40,rfl,hs2⟩
  have hs:St _ [_,_,_,_] _:=hs.call hs2
  have hs:St _ [_,_,_,_] _:=hs.pull 3 rfl
  refine QaB (n:=3) hs rfl rfl rfl (vs:=(([int .i8 r39.Qac,int .i8 r39.Qae,v40]:List Value))) rfl rfl rfl (fun _=>rfl) rfl (by intro v hv;simp only [List.mem_append,List.mem_cons,List.not_mem_nil,or_false] at hv;repeat (first|(subst hv;first|rfl|exact slOne (hs.row 1 rfl))|(rcases hv with hv|hv))) ?_
  intro w hs
  refine Qab ?_
  refine QaH ?_
  have hs:=hs.pull 1 rfl
  have hs:=hs.pull 1 rfl
  have hs:=hs.pull 2 rfl
  have hs:St _ [_,_,_] _:=St.take (Γ':=[_]) hs
  exact ha _ _ ⟨r39.Qac,r39.Qae,v40,r39.Qah,H,rfl,hs⟩
 intro hb
 rw [if_neg (b_dec_f hb)] at H
 show G _ _ _ _ [_,_,_,_,_,_,_,_,_,_,_,_,_,_,_,_,_,_,_,_,_,_,_,_,_,_,_,_,_,_,_,_,_,_,_,_,_,_,_,_,_,_,_,_,_,_,_,_,_,_,_,_,_,_,_,_] _
 refine Qaa (v:=bool false) rfl rfl rfl (Qad rfl rfl (Qad rfl rfl (Qad rfl rfl (Qad rfl rfl ?_))))
 refine Qaa (v:=bool false) rfl rfl rfl ?_
 show G _ _ _ _ [_,_,_,_,_,_,_,_,_,_,_,_,_,_,_,_,_,_,_,_,_,_,_,_,_,_,_,_,_,_,_,_,_,_,_,_,_,_,_,_,_,_,_,_,_,_,_,_,_,_,_,_,_,_,_,_] _
 obtain ⟨r42,Hr42,H⟩:=bind_get H
 refine Qas (args:=[int .u64 r36,int .i64 a3,bool false]) rfl rfl (Qat rfl (callFunc_enter Tryz.func79 rfl rfl) rfl) (QbA.calls (a1:=r36) (a2:=a3) (a3:=false) Hr42) ?_
 rintro _ w ⟨rfl,hs2⟩
 have hs:St _ [_,_,_] _:=hs.call hs2
 obtain ⟨r43,Hr43,H⟩:=bind_get H
 refine Qas (args:=[pointer (some ⟨b8,0,none⟩),int .u64 r36,bool r42]) rfl rfl (Qat rfl (callFunc_enter Tryz.func78 rfl rfl) rfl) (QbP.calls (a1:=(⟨x28,x29,x32⟩:Qag)) (a6:=r36) (a7:=r42) (hs.row 1 rfl) (hs.cells 2 rfl) Hr43) ?_
 rintro _ w ⟨v44,rfl,hs2⟩
 have hs:St _ [_,_,_,_] _:=hs.call hs2
 have hs:St _ [_,_,_,_] _:=hs.pull 3 rfl
 refine QaB (n:=3) hs rfl rfl rfl (vs:=(([int .i8 r43.Qac,int .i8 r43.Qae,v44]:List Value))) rfl rfl rfl (fun _=>rfl) rfl (by intro v hv;simp only [List.mem_append,List.mem_cons,List.not_mem_nil,or_false] at hv;repeat (first|(subst hv;first|rfl|exact slOne (hs.row 1 rfl))|(rcases hv with hv|hv))) ?_
 intro w hs
 refine Qab ?_
 refine QaH ?_
 have hs:=hs.pull 1 rfl
 have hs:=hs.pull 1 rfl
 have hs:=hs.pull 2 rfl
 have hs:St _ [_,_,_] _:=St.take (Γ':=[_]) hs
 exact ha _ _ ⟨r43.Qac,r43.Qae,v44,r43.Qah,H,rfl,hs⟩
def QbK.post (w0:World) (r:(Qag×Int×Int)) (v:Value) (w:World):Prop:=∃ u1:Value,v=tuple #[agg (([int .i8 r.1.Qac,int .i8 r.1.Qae,u1]:List Value)).toArray,int .i64 r.2.1,int .i64 r.2.2]∧St w0 [Row 61 Qao u1 r.1.Qah] w
theorem QbK.calls {N:Nat} {a1:Int} {a2:Int} {a3:Int} {a4:(List Bool)} {v5:Value} {w0:World} {r:(Qag×Int×Int)} (hr3:RdRow K.bool w0 v5 a4) (H:QbK.f N a1 a2 a3 a4=some r):
 Calls Tryz.prog 8 #[int .i64 a1,int .i64 a2,int .i64 a3,v5] w0 fun e w=>∃ v,e= .returned v∧QbK.post w0 r v w:=by
 unfold QbK.f at H
 have hs:St w0 [] w0:=St.refl w0
 refine calls_of_g (n:=27) Tryz.func8 rfl rfl ?_
 show G _ _ _ _ [_,_,_,_,_,_,_,_,_,_,_,_,_,_,_,_,_,_,_,_,_,_,_,_,_,_,_,_,_,_,_] _
 refine Qaf (Qak [0,1,2] rfl ?_)
 refine Qa5 hs rfl rfl (z:=(agg #[int .i8 0,int .i8 0,slice none 0 0])) (cs:=(([int .i8 0,int .i8 0,slice none 0 0]:List Value))) rfl (fun _=>rfl) rfl ?_
 intro b6 w hs
 show G _ _ _ _ [_,_,_,_,_,_,_,_,_,_,_,_,_,_,_,_,_,_,_,_,_,_,_,_,_,_,_,_,_,_,_] _
 refine Qaa (v:=int .i64 0) rfl rfl rfl ?_
 refine Qaa (v:=int .i64 0) rfl rfl rfl (Qab (Qaf (Qaf (Qak [0,1,2,3,4,5,6,7,8,9,10] rfl ?_))))
 refine Qaa (v:=int .i64 a1) rfl rfl rfl ?_
 refine Qaa (v:=int .i64 a2) rfl rfl rfl ?_
 obtain ⟨r8,Hr8,H⟩:=bind_get H
 refine Qas (args:=[int .i64 a1,int .i64 a2]) rfl rfl (Qat rfl (callFunc_enter Tryz.func38 rfl rfl) rfl) (QbE.calls (a1:=a1) (a2:=a2) Hr8) ?_
 rintro _ w ⟨rfl,hs2⟩
 have hs:St _ [_] _:=hs.call hs2
 cases r8 with
 |true=>
  rw [if_pos rfl] at H
  show G _ _ _ _ [_,_,_,_,_,_,_,_,_,_,_,_,_,_,_,_,_,_,_,_,_,_,_,_,_,_,_,_,_,_,_] _
  refine Qaa (v:=bool false) rfl rfl rfl ?_
  refine Qaa (v:=bool false) rfl rfl rfl ?_
  refine Qaa (v:=int .i64 a3) rfl rfl rfl ?_
  refine Qaa (v:=int .i64 a1) rfl rfl rfl ?_
  refine Qaa (v:=int .i64 (i64w (a1 - 1))) rfl rfl rfl ?_
  obtain ⟨r9,Hr9,H⟩:=bind_get H
  refine Qas (args:=[int .i64 a3,int .i64 0,int .i64 (i64w (a1 - 1))]) rfl rfl (Qat rfl (callFunc_enter Tryz.func39 rfl rfl) rfl) (Qbs.calls (a1:=a3) (a2:=0) (a3:=i64w (a1 - 1)) Hr9) ?_
  rintro _ w ⟨rfl,hs2⟩
  have hs:St _ [_] _:=hs.call hs2
  cases r9 with
  |true=>
   rw [if_pos rfl] at H
   show G _ _ _ _ [_,_,_,_,_,_,_,_,_,_,_,_,_,_,_,_,_,_,_,_,_,_,_,_,_,_,_,_,_,_,_] _
   refine Qaa (v:=bool false) rfl rfl rfl ?_
   refine Qaa (v:=bool false) rfl rfl rfl (Qab (Qap rfl (QaE (Qaf (Qak [0,1,2,3,4,5,6,7,8,9,10] rfl ?_)))))
   refine Qaa (v:=int .i64 a1) rfl rfl rfl ?_
   refine Qaa (v:=int .i64 a2) rfl rfl rfl ?_
   refine Qaa (v:=int .i64 a3) rfl rfl rfl ?_
   refine Qaa (v:=v5) rfl rfl rfl ?_
   obtain ⟨r10,Hr10,H⟩:=bind_get H
   refine Qas (args:=[int .i64 a1,int .i64 a2,int .i64 a3,v5]) rfl rfl (Qat rfl (callFunc_enter Tryz.func40 rfl rfl) rfl) (QaR.calls (a1:=a1) (a2:=a2) (a3:=a3) (a4:=a4) (hs.rd hr3) Hr10) ?_
   rintro _ w ⟨v11,rfl,hs2⟩
   have hs:St _ [_,_] _:=hs.call hs2
   show G _ _ _ _ [_,_,_,_,_,_,_,_,_,_,_,_,_,_,_,_,_,_,_,_,_,_,_,_,_,_,_,_,_,_,_] _
   refine Qaa (v:=agg (([int .i8 r10.1.Qac,int .i8 r10.1.Qae,v11]:List Value)).toArray) rfl rfl rfl ?_
   refine Qaa (v:=int .i64 r10.2.1) rfl rfl rfl ?_
   refine Qaa (v:=int .i64 r10.2.2) rfl rfl rfl ?_
   have hs:St _ [_,_] _:=hs.pull 1 rfl
   refine QaB (n:=3) hs rfl rfl rfl (vs:=(([int .i8 r10.1.Qac,int .i8 r10.1.Qae,v11]:List Value))) rfl rfl rfl (fun _=>rfl) rfl (by intro v hv;simp only [List.mem_append,List.mem_cons,List.not_mem_nil,or_false] at hv;repeat (first|(subst hv;first|rfl|exact slOne (hs.row 1 rfl))|(rcases hv with hv|hv))) ?_
   intro w hs
   refine Qaa (v:=int .i64 r10.2.1) rfl rfl rfl ?_
   refine Qaa (v:=int .i64 r10.2.2) rfl rfl rfl (Qab ?_)
   obtain rfl:=QsJ H
   refine Qax Tryz.func8 (v:=tuple #[agg (([int .i8 r10.1.Qac,int .i8 r10.1.Qae,v11]:List Value)).toArray,int .i64 r10.2.1,int .i64 r10.2.2]) (resN (l:=Tryz.f8.results.toList) (vs:=[agg (([int .i8 r10.1.Qac,int .i8 r10.1.Qae,v11]:List Value)).toArray,int .i64 r10.2.1,int .i64 r10.2.2]) rfl ⟨⟨_,rfl,(run_loadVar_agg (es:=(([int .i8 r10.1.Qac,int .i8 r10.1.Qae,v11]:List Value))) rfl rfl (cells_all (hs.cells 0 rfl)))⟩,rfl,rfl,trivial⟩ (by simp)) ?_
   have hs:=hs.pull 1 rfl
   have hs:St _ [_] _:=St.take (Γ':=[_]) hs
   exact ⟨_,rfl,v11,rfl,hs⟩
  |false=>
   rw [if_neg Bool.false_ne_true] at H
   show G _ _ _ _ [_,_,_,_,_,_,_,_,_,_,_,_,_,_,_,_,_,_,_,_,_,_,_,_,_,_,_,_,_,_,_] _
   refine Qaa (v:=bool true) rfl rfl rfl ?_
   refine Qaa (v:=bool true) rfl rfl rfl (Qab (Qam rfl (Qaf (Qak [0,1,2,3] rfl ?_))))
   refine Qaa (v:=agg (([int .i8 0,int .i8 0,slice none 0 0]:List Value)).toArray) rfl rfl (QbB (cs:=(([int .i8 0,int .i8 0,slice none 0 0]:List Value))) (segs:=[[int .i8 0],[int .i8 0],[slice none 0 0]]) rfl rfl (fun _=>rfl) ⟨rfl,(fun _=>rfl),rfl,(fun _=>rfl),rfl,(fun _=>rfl),trivial⟩ (by simp) (by first|rfl|(simp [ev,encA];done)|(simp [ev,encA];rfl))) ?_
   show G _ _ _ _ [_,_,_,_,_,_,_,_,_,_,_,_,_,_,_,_,_,_,_,_,_,_,_,_,_,_,_,_,_,_,_] _
   refine QaB (n:=3) hs rfl rfl rfl (vs:=(([int .i8 0,int .i8 0,slice none 0 0]:List Value))) rfl rfl rfl (fun _=>rfl) rfl (by simp [Value.oneCell']) ?_
   intro w hs
   refine Qaa (v:=int .i64 0) rfl rfl rfl ?_
   refine Qaa (v:=int .i64 2) rfl rfl rfl (Qab ?_)
   obtain rfl:=QsJ H
   refine Qax Tryz.func8 (v:=tuple #[agg (([int .i8 0,int .i8 0,slice none 0 0]:List Value)).toArray,int .i64 0,int .i64 2]) (resN (l:=Tryz.f8.results.toList) (vs:=[agg (([int .i8 0,int .i8 0,slice none 0 0]:List Value)).toArray,int .i64 0,int .i64 2]) rfl ⟨⟨_,rfl,(run_loadVar_agg (es:=(([int .i8 0,int .i8 0,slice none 0 0]:List Value))) rfl rfl (cells_all (hs.cells 0 rfl)))⟩,rfl,rfl,trivial⟩ (by simp)) ?_
   have hs:=hs.nil 61 Qao
   have hs:=hs.pull 0 rfl
   have hs:St _ [_] _:=St.take (Γ':=[_]) hs
   exact ⟨_,rfl,(slice none 0 0),rfl,hs⟩
 |false=>
  rw [if_neg Bool.false_ne_true] at H
  show G _ _ _ _ [_,_,_,_,_,_,_,_,_,_,_,_,_,_,_,_,_,_,_,_,_,_,_,_,_,_,_,_,_,_,_] _
  refine Qaa (v:=bool true) rfl rfl rfl ?_
  refine Qaa (v:=bool true) rfl rfl rfl (Qad rfl rfl (Qad rfl rfl (Qad rfl rfl (Qad rfl rfl ?_))))
  show G _ _ _ _ [_,_,_,_,_,_,_,_,_,_,_,_,_,_,_,_,_,_,_,_,_,_,_,_,_,_,_,_,_,_,_] _
  refine Qad rfl rfl ?_
  refine Qaa (v:=bool true) rfl rfl rfl (Qab (Qam rfl (Qaf (Qak [0,1,2,3] rfl ?_))))
  refine Qaa (v:=agg (([int .i8 0,int .i8 0,slice none 0 0]:List Value)).toArray) rfl rfl (QbB (cs:=(([int .i8 0,int .i8 0,slice none 0 0]:List Value))) (segs:=[[int .i8 0],[int .i8 0],[slice none 0 0]]) rfl rfl (fun _=>rfl) ⟨rfl,(fun _=>rfl),rfl,(fun _=>rfl),rfl,(fun _=>rfl),trivial⟩ (by simp) (by first|rfl|(simp [ev,encA];done)|(simp [ev,encA];rfl))) ?_
  show G _ _ _ _ [_,_,_,_,_,_,_,_,_,_,_,_,_,_,_,_,_,_,_,_,_,_,_,_,_,_,_,_,_,_,_] _
  refine QaB (n:=3) hs rfl rfl rfl (vs:=(([int .i8 0,int .i8 0,slice none 0 0]:List Value))) rfl rfl rfl (fun _=>rfl) rfl (by simp [Value.oneCell']) ?_
  intro w hs
  refine Qaa (v:=int .i64 0) rfl rfl rfl ?_
  refine Qaa (v:=int .i64 2) rfl rfl rfl (Qab ?_)
  obtain rfl:=QsJ H
  refine Qax Tryz.func8 (v:=tuple #[agg (([int .i8 0,int .i8 0,slice none 0 0]:List Value)).toArray,int .i64 0,int .i64 2]) (resN (l:=Tryz.f8.results.toList) (vs:=[agg (([int .i8 0,int .i8 0,slice none 0 0]:List Value)).toArray,int .i64 0,int .i64 2]) rfl ⟨⟨_,rfl,(run_loadVar_agg (es:=(([int .i8 0,int .i8 0,slice none 0 0]:List Value))) rfl rfl (cells_all (hs.cells 0 rfl)))⟩,rfl,rfl,trivial⟩ (by simp)) ?_
  have hs:=hs.nil 61 Qao
  have hs:=hs.pull 0 rfl
  have hs:St _ [_] _:=St.take (Γ':=[_]) hs
  exact ⟨_,rfl,(slice none 0 0),rfl,hs⟩
def Qbb.post (w0:World) (r:Bool) (v:Value) (w:World):Prop:=v=bool r∧St w0 [] w
theorem Qbb.calls {N:Nat} {a1:Qag} {a4:Qag} {v2:Value} {v5:Value} {w0:World} {r:Bool} (hr3:RdRow Qao w0 v2 a1.Qah) (hr6:RdRow Qao w0 v5 a4.Qah) (H:Qbb.f N a1 a4=some r):
 Calls Tryz.prog 9 #[agg (([int .i8 a1.Qac,int .i8 a1.Qae,v2]:List Value)).toArray,agg (([int .i8 a4.Qac,int .i8 a4.Qae,v5]:List Value)).toArray] w0 fun e w=>∃ v,e= .returned v∧Qbb.post w0 r v w:=by
 unfold Qbb.f at H
 have hs:St w0 [] w0:=St.refl w0
 refine calls_of_g (n:=43) Tryz.func9 rfl rfl ?_
 show G _ _ _ _ [_,_,_,_,_,_,_,_,_,_,_,_,_,_,_,_,_,_,_,_,_,_,_,_,_,_,_,_,_,_,_,_,_,_,_,_,_,_,_,_,_,_,_,_,_] _
 refine Qaf (Qak [0,1,2] rfl ?_)
 refine Qbx hs rfl rfl (cs:=(([int .i8 a1.Qac,int .i8 a1.Qae,v2]:List Value))) rfl rfl ?_
 intro b7 w hs
 refine Qbx hs rfl rfl (cs:=(([int .i8 a4.Qac,int .i8 a4.Qae,v5]:List Value))) rfl rfl ?_
 intro b9 w hs
 refine Qaa (v:=bool false) rfl rfl rfl ?_
 show G _ _ _ _ [_,_,_,_,_,_,_,_,_,_,_,_,_,_,_,_,_,_,_,_,_,_,_,_,_,_,_,_,_,_,_,_,_,_,_,_,_,_,_,_,_,_,_,_,_] _
 refine Qab (Qaf (Qaf (Qak [0,1,2,3,4,5,6,7,8,9,10,11,12,13,14,15,16,17,18,19,20] rfl ?_)))
 refine Qaa (v:=pointer (some ⟨b7,0,none⟩)) rfl rfl rfl ?_
 refine Qaw rfl rfl (v:=int .i8 a1.Qac) rfl rfl (fun _=>rfl) (cells_load (hs.cells 1 rfl) 0 1 rfl) ?_
 refine Qaa (v:=pointer (some ⟨b9,0,none⟩)) rfl rfl rfl ?_
 refine Qaw rfl rfl (v:=int .i8 a4.Qac) rfl rfl (fun _=>rfl) (cells_load (hs.cells 0 rfl) 0 1 rfl) ?_
 refine QaA (B:=a1.Qac !=a4.Qac) rfl rfl rfl ?_ ?_
 ·
  intro hb
  rw [if_neg (b_bne_t hb)] at H
  show G _ _ _ _ [_,_,_,_,_,_,_,_,_,_,_,_,_,_,_,_,_,_,_,_,_,_,_,_,_,_,_,_,_,_,_,_,_,_,_,_,_,_,_,_,_,_,_,_,_] _
  refine Qaa (v:=bool true) rfl rfl rfl (Qad rfl rfl (Qad rfl rfl (Qad rfl rfl (Qad rfl rfl (Qad rfl rfl ?_)))))
  show G _ _ _ _ [_,_,_,_,_,_,_,_,_,_,_,_,_,_,_,_,_,_,_,_,_,_,_,_,_,_,_,_,_,_,_,_,_,_,_,_,_,_,_,_,_,_,_,_,_] _
  refine Qaa (v:=bool true) rfl rfl rfl ?_
  refine Qaa (v:=bool true) rfl rfl rfl (Qad rfl rfl (Qad rfl rfl (Qad rfl rfl ?_)))
  show G _ _ _ _ [_,_,_,_,_,_,_,_,_,_,_,_,_,_,_,_,_,_,_,_,_,_,_,_,_,_,_,_,_,_,_,_,_,_,_,_,_,_,_,_,_,_,_,_,_] _
  refine Qad rfl rfl (Qad rfl rfl (Qad rfl rfl (Qad rfl rfl ?_)))
  show G _ _ _ _ [_,_,_,_,_,_,_,_,_,_,_,_,_,_,_,_,_,_,_,_,_,_,_,_,_,_,_,_,_,_,_,_,_,_,_,_,_,_,_,_,_,_,_,_,_] _
  refine Qaa (v:=bool true) rfl rfl rfl (Qab (Qam rfl (Qaf (Qak [0] rfl ?_))))
  refine Qaa (v:=bool false) rfl rfl rfl (Qab ?_)
  obtain rfl:=QsJ H
  refine Qax Tryz.func9 (v:=bool false) (res1 rfl rfl) ?_
  have hs:St _ [] _:=St.take (Γ':=[_,_]) hs
  exact ⟨_,rfl,rfl,hs⟩
 intro hb
 rw [if_pos (b_bne_f hb)] at H
 show G _ _ _ _ [_,_,_,_,_,_,_,_,_,_,_,_,_,_,_,_,_,_,_,_,_,_,_,_,_,_,_,_,_,_,_,_,_,_,_,_,_,_,_,_,_,_,_,_,_] _
 refine Qaa (v:=bool false) rfl rfl rfl ?_
 refine Qaa (v:=pointer (some ⟨b7,1,none⟩)) rfl rfl rfl ?_
 refine Qaw rfl rfl (v:=int .i8 a1.Qae) rfl rfl (fun _=>rfl) (cells_load (hs.cells 1 rfl) 1 1 rfl) ?_
 refine Qaa (v:=pointer (some ⟨b9,1,none⟩)) rfl rfl rfl ?_
 refine Qaw rfl rfl (v:=int .i8 a4.Qae) rfl rfl (fun _=>rfl) (cells_load (hs.cells 0 rfl) 1 1 rfl) ?_
 refine Qaa (v:=bool (a1.Qae !=a4.Qae)) rfl rfl rfl ?_
 show G _ _ _ _ [_,_,_,_,_,_,_,_,_,_,_,_,_,_,_,_,_,_,_,_,_,_,_,_,_,_,_,_,_,_,_,_,_,_,_,_,_,_,_,_,_,_,_,_,_] _
 refine QaA (B:=a1.Qae !=a4.Qae) rfl rfl rfl ?_ ?_
 ·
  intro hb
  rw [if_neg (b_bne_t hb)] at H
  refine Qaa (v:=bool true) rfl rfl rfl (Qad rfl rfl (Qad rfl rfl (Qad rfl rfl ?_)))
  show G _ _ _ _ [_,_,_,_,_,_,_,_,_,_,_,_,_,_,_,_,_,_,_,_,_,_,_,_,_,_,_,_,_,_,_,_,_,_,_,_,_,_,_,_,_,_,_,_,_] _
  refine Qad rfl rfl (Qad rfl rfl (Qad rfl rfl (Qad rfl rfl ?_)))
  show G _ _ _ _ [_,_,_,_,_,_,_,_,_,_,_,_,_,_,_,_,_,_,_,_,_,_,_,_,_,_,_,_,_,_,_,_,_,_,_,_,_,_,_,_,_,_,_,_,_] _
  refine Qaa (v:=bool true) rfl rfl rfl (Qab (Qam rfl (Qaf (Qak [0] rfl ?_))))
  refine Qaa (v:=bool false) rfl rfl rfl (Qab ?_)
  obtain rfl:=QsJ H
  refine Qax Tryz.func9 (v:=bool false) (res1 rfl rfl) ?_
  have hs:St _ [] _:=St.take (Γ':=[_,_]) hs
  exact ⟨_,rfl,rfl,hs⟩
 intro hb
 rw [if_pos (b_bne_f hb)] at H
 refine Qaa (v:=bool false) rfl rfl rfl ?_
 refine Qaa (v:=pointer (some ⟨b7,2,none⟩)) rfl rfl rfl ?_
 refine Qaw rfl rfl (v:=v2) rfl rfl (fun _=>rfl) (cells_load (hs.cells 1 rfl) 2 1 rfl) ?_
 refine Qbp (hs.rd hr3) rfl rfl rfl rfl rfl ?_
 show G _ _ _ _ [_,_,_,_,_,_,_,_,_,_,_,_,_,_,_,_,_,_,_,_,_,_,_,_,_,_,_,_,_,_,_,_,_,_,_,_,_,_,_,_,_,_,_,_,_] _
 refine Qaa (v:=pointer (some ⟨b9,2,none⟩)) rfl rfl rfl ?_
 refine Qaw rfl rfl (v:=v5) rfl rfl (fun _=>rfl) (cells_load (hs.cells 0 rfl) 2 1 rfl) ?_
 refine Qbp (hs.rd hr6) rfl rfl rfl rfl rfl ?_
 refine QaA (B:=(a1.Qah.length:Int) !=(a4.Qah.length:Int)) rfl rfl rfl ?_ ?_
 ·
  intro hb
  rw [if_neg (b_bne_t hb)] at H
  refine Qaa (v:=bool true) rfl rfl rfl (Qab (Qam rfl (Qaf (Qak [0] rfl ?_))))
  refine Qaa (v:=bool false) rfl rfl rfl ?_
  show G _ _ _ _ [_,_,_,_,_,_,_,_,_,_,_,_,_,_,_,_,_,_,_,_,_,_,_,_,_,_,_,_,_,_,_,_,_,_,_,_,_,_,_,_,_,_,_,_,_] _
  refine Qab ?_
  obtain rfl:=QsJ H
  refine Qax Tryz.func9 (v:=bool false) (res1 rfl rfl) ?_
  have hs:St _ [] _:=St.take (Γ':=[_,_]) hs
  exact ⟨_,rfl,rfl,hs⟩
 intro hb
 rw [if_pos (b_bne_f hb)] at H
 show G _ _ _ _ [_,_,_,_,_,_,_,_,_,_,_,_,_,_,_,_,_,_,_,_,_,_,_,_,_,_,_,_,_,_,_,_,_,_,_,_,_,_,_,_,_,_,_,_,_] _
 refine Qaa (v:=bool false) rfl rfl rfl (Qab (Qap rfl (QaE (Qaf (Qaf (Qak [0] rfl ?_))))))
 refine Qaa (v:=int .i64 0) rfl rfl rfl (Qab ?_)
 obtain ⟨o1_,Ho,Hr1_⟩:=bind_get H
 refine QaF (J:=fun t w=>Qbb.a0 N=some r∧Fr t (fun O=>([O 0,O 1,O 2,O 3,O 4,O 5,O 6,O 7,O 8,O 9,O 10,O 11,O 12,O 13,O 14,O 15,O 16,O 17,O 18,O 19,O 20,O 21,O 22,O 23,O 24,O 25,O 26,O 27,O 28,O 29,O 30,O 31,O 32,O 33,O 34,O 35,O 36,O 37,O 38,O 39,O 40,O 41,O 42,O 43,O 44]:List Value))∧St w0 [] w) ?_ ?_
 ·
  rintro t w ⟨H,hf,hs⟩
  obtain ⟨O,rfl⟩:=hf.open
  show G _ _ _ _ [_,_,_,_,_,_,_,_,_,_,_,_,_,_,_,_,_,_,_,_,_,_,_,_,_,_,_,_,_,_,_,_,_,_,_,_,_,_,_,_,_,_,_,_,_] _
  unfold Qbb.a0 at H
  refine Qaf (Qak [0] rfl ?_)
  refine Qaa (v:=bool true) rfl rfl rfl ?_
  show G _ _ _ _ [_,_,_,_,_,_,_,_,_,_,_,_,_,_,_,_,_,_,_,_,_,_,_,_,_,_,_,_,_,_,_,_,_,_,_,_,_,_,_,_,_,_,_,_,_] _
  refine Qab ?_
  obtain rfl:=QsJ H
  refine Qax Tryz.func9 (v:=bool true) (res1 rfl rfl) ?_
  have hs:St _ [] _:=St.take (Γ':=[]) hs
  exact ⟨_,rfl,rfl,hs⟩
 intro ha1_
 have hs:=hs.pull 0 rfl
 have hs:=hs.pull 1 rfl
 have hs:St _ [_,_] _:=St.take (Γ':=[]) hs
 refine QaZ (I:=fun n_ t w=>∃ x11:Int,rounds (fun s=>Qbb.b0 N a1 a4 s) n_ x11=some o1_∧Fr t (fun O=>([O 0,O 1,pointer (some ⟨b7,0,none⟩),pointer (some ⟨b9,0,none⟩),O 4,int .i64 x11,O 6,O 7,O 8,O 9,O 10,O 11,O 12,O 13,O 14,O 15,O 16,O 17,O 18,O 19,O 20,O 21,O 22,O 23,O 24,O 25,O 26,O 27,O 28,O 29,O 30,O 31,O 32,O 33,O 34,O 35,O 36,O 37,O 38,O 39,O 40,O 41,O 42,O 43,O 44]:List Value))∧St w0 [Cells b7 (([int .i8 a1.Qac,int .i8 a1.Qae,v2]:List Value)) 30,Cells b9 (([int .i8 a4.Qac,int .i8 a4.Qae,v5]:List Value)) 30] w) N ⟨0,Ho,rfl,hs⟩ ?_ ?_
 ·
  rintro _ _ ⟨x11,h,_⟩
  exact rounds_zero h
 intro n_ ih1_
 rintro t w ⟨x11,Ho,hf,hs⟩
 obtain ⟨O,rfl⟩:=hf.open
 show G _ _ _ _ [_,_,_,_,_,_,_,_,_,_,_,_,_,_,_,_,_,_,_,_,_,_,_,_,_,_,_,_,_,_,_,_,_,_,_,_,_,_,_,_,_,_,_,_,_] _
 obtain ⟨x7_,H,Hx1_⟩:=rounds_succ Ho
 have H:Qbb.b0 N a1 a4 x11=some x7_:=H
 unfold Qbb.b0 at H
 refine Qaf (Qaf (Qak [0,1,2,3,4] rfl ?_))
 refine Qaa (v:=int .i64 x11) rfl rfl rfl ?_
 refine Qaa (v:=pointer (some ⟨b7,2,none⟩)) rfl rfl rfl ?_
 refine Qaw rfl rfl (v:=v2) rfl rfl (fun _=>rfl) (cells_load (hs.cells 0 rfl) 2 1 rfl) ?_
 show G _ _ _ _ [_,_,_,_,_,_,_,_,_,_,_,_,_,_,_,_,_,_,_,_,_,_,_,_,_,_,_,_,_,_,_,_,_,_,_,_,_,_,_,_,_,_,_,_,_] _
 refine Qbp (hs.rd hr3) rfl rfl rfl rfl rfl ?_
 refine QaA (B:=decide (x11< (a1.Qah.length:Int))) rfl rfl rfl ?_ ?_
 ·
  intro hb
  rw [if_pos (b_dec_t hb)] at H
  show G _ _ _ _ [_,_,_,_,_,_,_,_,_,_,_,_,_,_,_,_,_,_,_,_,_,_,_,_,_,_,_,_,_,_,_,_,_,_,_,_,_,_,_,_,_,_,_,_,_] _
  refine Qab (Qam rfl (QaE (Qaf ?_)))
  refine Qbz (Qaf ?_)
  refine Qcj (n:=11) rfl [0,1,2,3,4,5,6,7,8,9,10] [0,1,2,3,4,5,6,7,8,9,10] rfl rfl ?_
  intro rest w hh hbw hO
  have hs:=hs.samew hh hbw
  show G _ _ _ _ [_,_,_,_,_,_,_,_,_,_,_,_,_,_,_,_,_,_,_,_,_,_,_,_,_,_,_,_,_,_,_,_,_,_,_,_,_,_,_,_,_,_,_,_,_] _
  obtain ⟨gd2,H⟩:=ite_get H
  obtain ⟨ad3_,ad3_N,ad3_C,had3_⟩:=sl_at (hs.rd hr3) gd2.1 gd2.2
  obtain ⟨gd4,H⟩:=ite_get H
  obtain ⟨ad5_,ad5_N,ad5_C,had5_⟩:=sl_at (hs.rd hr6) gd4.1 gd4.2
  refine Qbu ?_
  intro T hT
  refine QbV (m0:=0) hO rfl 1023 [0,1,2,3,4,5,6,7,8,9] [0,1,0,7,15,0,32,0,224,480,1023] (by decide+kernel) (fun D t w=>∃ O:Nat→Value,t=[O 0,O 1,pointer (some ⟨b7,0,none⟩),pointer (some ⟨b9,0,none⟩),O 4,int .i64 x11,O 6,O 7,O 8,O 9,O 10,O 11,O 12,O 13,O 14,O 15,O 16,O 17,O 18,O 19,O 20,O 21,O 22,O 23,O 24,O 25,O 26,int .i64 x11,pointer (some ⟨b7,2,none⟩),v2,int .i64 (a1.Qah.length:Int),bool true,O 32,O 33,cnd (D 0) (pointer (some ⟨b7,2,none⟩)) (O 34),cnd (D 1) v2 (O 35),cnd (D 2) (int .i64 x11) (O 36),cnd (D 3) (pointer (some (ad3_.add (x11.toNat*2)))) (O 37),cnd (D 4) (agg (QaC (rdL a1.Qah x11 Qau)).toArray) (O 38),cnd (D 5) (pointer (some ⟨b9,2,none⟩)) (O 39),cnd (D 6) v5 (O 40),cnd (D 7) (int .i64 x11) (O 41),cnd (D 8) (pointer (some (ad5_.add (x11.toNat*2)))) (O 42),cnd (D 9) (agg (QaC (rdL a4.Qah x11 Qau)).toArray) (O 43),O 44]∧St w0 [Cells b7 (([int .i8 a1.Qac,int .i8 a1.Qae,v2]:List Value)) 30,Cells b9 (([int .i8 a4.Qac,int .i8 a4.Qae,v5]:List Value)) 30] w) ?_ ⟨?_,⟨?_,⟨?_,⟨?_,⟨?_,⟨?_,⟨?_,⟨?_,⟨?_,⟨?_,trivial⟩⟩⟩⟩⟩⟩⟩⟩⟩⟩ ?_
  ·exact ⟨fun i=>T.getD i undef,(by subst hT;rfl),hs⟩
  ·
   rintro D t w hD hp hcl ⟨O,ht,hs⟩ rest hk
   have hp:AllDone D []:=hp
   have q1_:=ny hcl 1 0 hD
   have q3_:=ny hcl 3 0 q1_
   have q4_:=ny hcl 4 0 q3_
   simp only [hD,q1_,q3_,q4_,cq,oT] at ht hs
   subst ht
   refine Qaa (v:=pointer (some ⟨b7,2,none⟩)) rfl rfl rfl ?_
   show G _ _ _ _ [_,_,_,_,_,_,_,_,_,_,_,_,_,_,_,_,_,_,_,_,_,_,_,_,_,_,_,_,_,_,_,_,_,_,_,_,_,_,_,_,_,_,_,_,_] _
   refine hk _ _ ⟨O,?_,hs.cast ?_⟩<;>simp only [oT,lq,cq,Nat.reduceBEq,q1_,q3_,q4_]
  ·
   rintro D t w hD hp hcl ⟨O,ht,hs⟩ rest hk
   have hp:AllDone D [0]:=hp
   obtain ⟨p0_,_⟩:=hp
   have q3_:=ny hcl 3 0 hD
   have q4_:=ny hcl 4 0 q3_
   simp only [hD,p0_,q3_,q4_,cq,oT] at ht hs
   subst ht
   refine Qaw rfl rfl (v:=v2) rfl rfl (fun _=>rfl) (cells_load (hs.cells 0 rfl) 2 1 rfl) ?_
   show G _ _ _ _ [_,_,_,_,_,_,_,_,_,_,_,_,_,_,_,_,_,_,_,_,_,_,_,_,_,_,_,_,_,_,_,_,_,_,_,_,_,_,_,_,_,_,_,_,_] _
   refine hk _ _ ⟨O,?_,hs.cast ?_⟩<;>simp only [oT,lq,cq,Nat.reduceBEq,p0_,q3_,q4_]
  ·
   rintro D t w hD hp hcl ⟨O,ht,hs⟩ rest hk
   have hp:AllDone D []:=hp
   have q3_:=ny hcl 3 1 hD
   have q4_:=ny hcl 4 0 q3_
   simp only [hD,q3_,q4_,cq,oT] at ht hs
   subst ht
   refine Qaa (v:=int .i64 x11) rfl rfl rfl ?_
   show G _ _ _ _ [_,_,_,_,_,_,_,_,_,_,_,_,_,_,_,_,_,_,_,_,_,_,_,_,_,_,_,_,_,_,_,_,_,_,_,_,_,_,_,_,_,_,_,_,_] _
   refine hk _ _ ⟨O,?_,hs.cast ?_⟩<;>simp only [oT,lq,cq,Nat.reduceBEq,q3_,q4_]
  ·
   rintro D t w hD hp hcl ⟨O,ht,hs⟩ rest hk
   have hp:AllDone D [1,2]:=hp
   obtain ⟨p1_,p2_,_⟩:=hp
   obtain ⟨p0_,_⟩:=(show D 1=true→AllDone D [0] from hcl 1 (by decide)) p1_
   have q4_:=ny hcl 4 0 hD
   simp only [hD,p0_,p1_,p2_,q4_,cq,oT] at ht hs
   subst ht
   refine Qcn (κ:=Qao) (m:=2) rfl (hs.rd hr3) rfl (fun _=>rfl) gd2.1 gd2.2 had3_ rfl rfl rfl rfl rfl ?_
   show G _ _ _ _ [_,_,_,_,_,_,_,_,_,_,_,_,_,_,_,_,_,_,_,_,_,_,_,_,_,_,_,_,_,_,_,_,_,_,_,_,_,_,_,_,_,_,_,_,_] _
   refine hk _ _ ⟨O,?_,hs.cast ?_⟩<;>simp only [oT,lq,cq,Nat.reduceBEq,p0_,p1_,p2_,q4_]
  ·
   rintro D t w hD hp hcl ⟨O,ht,hs⟩ rest hk
   have hp:AllDone D [3]:=hp
   obtain ⟨p3_,_⟩:=hp
   obtain ⟨p1_,p2_,_⟩:=(show D 3=true→AllDone D [1,2] from hcl 3 (by decide)) p3_
   obtain ⟨p0_,_⟩:=(show D 1=true→AllDone D [0] from hcl 1 (by decide)) p1_
   simp only [hD,p0_,p1_,p2_,p3_,cq,oT] at ht hs
   subst ht
   refine QaG rfl rfl (es:=(QaC (rdL a1.Qah x11 Qau))) rfl rfl (fun _=>rfl) (n:=2) (fun _=>rfl) (QaX.len _) (cellsAt_of QaX Qau (hs.rd hr3) had3_ gd2.1 gd2.2) ?_
   show G _ _ _ _ [_,_,_,_,_,_,_,_,_,_,_,_,_,_,_,_,_,_,_,_,_,_,_,_,_,_,_,_,_,_,_,_,_,_,_,_,_,_,_,_,_,_,_,_,_] _
   refine hk _ _ ⟨O,?_,hs.cast ?_⟩<;>simp only [oT,lq,cq,Nat.reduceBEq,p0_,p1_,p2_,p3_]
  ·
   rintro D t w hD hp hcl ⟨O,ht,hs⟩ rest hk
   have hp:AllDone D []:=hp
   have q6_:=ny hcl 6 0 hD
   have q8_:=ny hcl 8 0 q6_
   have q9_:=ny hcl 9 0 q8_
   simp only [hD,q6_,q8_,q9_,cq,oT] at ht hs
   subst ht
   refine Qaa (v:=pointer (some ⟨b9,2,none⟩)) rfl rfl rfl ?_
   show G _ _ _ _ [_,_,_,_,_,_,_,_,_,_,_,_,_,_,_,_,_,_,_,_,_,_,_,_,_,_,_,_,_,_,_,_,_,_,_,_,_,_,_,_,_,_,_,_,_] _
   refine hk _ _ ⟨O,?_,hs.cast ?_⟩<;>simp only [oT,lq,cq,Nat.reduceBEq,q6_,q8_,q9_]
  ·
   rintro D t w hD hp hcl ⟨O,ht,hs⟩ rest hk
   have hp:AllDone D [5]:=hp
   obtain ⟨p5_,_⟩:=hp
   have q8_:=ny hcl 8 0 hD
   have q9_:=ny hcl 9 0 q8_
   simp only [hD,p5_,q8_,q9_,cq,oT] at ht hs
   subst ht
   refine Qaw rfl rfl (v:=v5) rfl rfl (fun _=>rfl) (cells_load (hs.cells 1 rfl) 2 1 rfl) ?_
   show G _ _ _ _ [_,_,_,_,_,_,_,_,_,_,_,_,_,_,_,_,_,_,_,_,_,_,_,_,_,_,_,_,_,_,_,_,_,_,_,_,_,_,_,_,_,_,_,_,_] _
   refine hk _ _ ⟨O,?_,hs.cast ?_⟩<;>simp only [oT,lq,cq,Nat.reduceBEq,p5_,q8_,q9_]
  ·
   rintro D t w hD hp hcl ⟨O,ht,hs⟩ rest hk
   have hp:AllDone D []:=hp
   have q8_:=ny hcl 8 1 hD
   have q9_:=ny hcl 9 0 q8_
   simp only [hD,q8_,q9_,cq,oT] at ht hs
   subst ht
   refine Qaa (v:=int .i64 x11) rfl rfl rfl ?_
   show G _ _ _ _ [_,_,_,_,_,_,_,_,_,_,_,_,_,_,_,_,_,_,_,_,_,_,_,_,_,_,_,_,_,_,_,_,_,_,_,_,_,_,_,_,_,_,_,_,_] _
   refine hk _ _ ⟨O,?_,hs.cast ?_⟩<;>simp only [oT,lq,cq,Nat.reduceBEq,q8_,q9_]
  ·
   rintro D t w hD hp hcl ⟨O,ht,hs⟩ rest hk
   have hp:AllDone D [6,7]:=hp
   obtain ⟨p6_,p7_,_⟩:=hp
   obtain ⟨p5_,_⟩:=(show D 6=true→AllDone D [5] from hcl 6 (by decide)) p6_
   have q9_:=ny hcl 9 0 hD
   simp only [hD,p5_,p6_,p7_,q9_,cq,oT] at ht hs
   subst ht
   refine Qcn (κ:=Qao) (m:=2) rfl (hs.rd hr6) rfl (fun _=>rfl) gd4.1 gd4.2 had5_ rfl rfl rfl rfl rfl ?_
   show G _ _ _ _ [_,_,_,_,_,_,_,_,_,_,_,_,_,_,_,_,_,_,_,_,_,_,_,_,_,_,_,_,_,_,_,_,_,_,_,_,_,_,_,_,_,_,_,_,_] _
   refine hk _ _ ⟨O,?_,hs.cast ?_⟩<;>simp only [oT,lq,cq,Nat.reduceBEq,p5_,p6_,p7_,q9_]
  ·
   rintro D t w hD hp hcl ⟨O,ht,hs⟩ rest hk
   have hp:AllDone D [8]:=hp
   obtain ⟨p8_,_⟩:=hp
   obtain ⟨p6_,p7_,_⟩:=(show D 8=true→AllDone D [6,7] from hcl 8 (by decide)) p8_
   obtain ⟨p5_,_⟩:=(show D 6=true→AllDone D [5] from hcl 6 (by decide)) p6_
   simp only [hD,p5_,p6_,p7_,p8_,cq,oT] at ht hs
   subst ht
   refine QaG rfl rfl (es:=(QaC (rdL a4.Qah x11 Qau))) rfl rfl (fun _=>rfl) (n:=2) (fun _=>rfl) (QaX.len _) (cellsAt_of QaX Qau (hs.rd hr6) had5_ gd4.1 gd4.2) ?_
   show G _ _ _ _ [_,_,_,_,_,_,_,_,_,_,_,_,_,_,_,_,_,_,_,_,_,_,_,_,_,_,_,_,_,_,_,_,_,_,_,_,_,_,_,_,_,_,_,_,_] _
   refine hk _ _ ⟨O,?_,hs.cast ?_⟩<;>simp only [oT,lq,cq,Nat.reduceBEq,p5_,p6_,p7_,p8_]
  intro D t w rest hall hO1_ hI
  obtain ⟨O,ht,hs⟩:=hI
  have p0_:=hall 0 (by decide) rfl
  have p1_:=hall 1 (by decide) rfl
  have p2_:=hall 2 (by decide) rfl
  have p3_:=hall 3 (by decide) rfl
  have p4_:=hall 4 (by decide) rfl
  have p5_:=hall 5 (by decide) rfl
  have p6_:=hall 6 (by decide) rfl
  have p7_:=hall 7 (by decide) rfl
  have p8_:=hall 8 (by decide) rfl
  have p9_:=hall 9 (by decide) rfl
  simp only [p0_,p1_,p2_,p3_,p4_,p5_,p6_,p7_,p8_,p9_,cq,oT] at ht hs
  subst ht
  obtain ⟨rest,rfl,hO6_⟩:=ord_one (m:=1023) hO1_ rfl 10 (m':=2047) (by decide+kernel) rfl
  clear hO1_
  refine QaA (B:=!decide ((rdL a1.Qah x11 Qau)=(rdL a4.Qah x11 Qau))) rfl rfl (QcH rfl rfl rfl Qcu (Qcy _ _ _)) ?_ ?_
  ·
   intro hb
   rw [if_neg (b_ndec_t hb)] at H
   obtain rfl:=ord_end hO6_ rfl (by decide+kernel)
   refine Qab (Qam rfl (Qaf (Qak [0] rfl ?_)))
   refine Qaa (v:=bool false) rfl rfl rfl (Qab ?_)
   obtain rfl:=QsJ H
   subst Hx1_
   have H:=QsJ Hr1_
   subst H
   refine Qax Tryz.func9 (v:=bool false) (res1 rfl rfl) ?_
   have hs:St _ [] _:=St.take (Γ':=[_,_]) hs
   exact ⟨_,rfl,rfl,hs⟩
  intro hb
  rw [if_pos (b_ndec_f hb)] at H
  obtain rfl:=ord_end hO6_ rfl (by decide+kernel)
  refine Qab (Qap rfl (QaE ?_))
  refine QaH (Qak [0,1,2] rfl ?_)
  refine Qaa (v:=int .i64 x11) rfl rfl rfl ?_
  refine Qaa (v:=int .i64 (i64w (x11+1))) rfl rfl rfl ?_
  refine Qaa (v:=int .i64 (i64w (x11+1))) rfl rfl rfl ?_
  show G _ _ _ _ [_,_,_,_,_,_,_,_,_,_,_,_,_,_,_,_,_,_,_,_,_,_,_,_,_,_,_,_,_,_,_,_,_,_,_,_,_,_,_,_,_,_,_,_,_] _
  refine Qab ?_
  obtain rfl:=QsJ H
  have hs:=hs.pull 1 rfl
  have hs:=hs.pull 1 rfl
  have hs:St _ [_,_] _:=St.take (Γ':=[]) hs
  exact ih1_ _ _ ⟨i64w (x11+1),Hx1_,rfl,hs⟩
 intro hb
 rw [if_neg (b_dec_f hb)] at H
 refine Qab (Qap rfl ?_)
 obtain rfl:=QsJ H
 subst Hx1_
 have hs:St _ [] _:=St.take (Γ':=[_,_]) hs
 refine Qbq rfl ?_
 exact ha1_ _ _ ⟨Hr1_,rfl,hs⟩
def Qb9.post (w0:World) (r:(Int×Int)) (v:Value) (w:World):Prop:=v=tuple #[int .i64 r.1,int .i64 r.2]∧St w0 [] w
theorem Qb9.calls {N:Nat} {a1:Qag} {v2:Value} {w0:World} {r:(Int×Int)} (hr3:RdRow Qao w0 v2 a1.Qah) (H:Qb9.f N a1=some r):
 Calls Tryz.prog 10 #[agg (([int .i8 a1.Qac,int .i8 a1.Qae,v2]:List Value)).toArray] w0 fun e w=>∃ v,e= .returned v∧Qb9.post w0 r v w:=by
 unfold Qb9.f at H
 have hs:St w0 [] w0:=St.refl w0
 refine calls_of_g (n:=18) Tryz.func10 rfl rfl ?_
 show G _ _ _ _ [_,_,_,_,_,_,_,_,_,_,_,_,_,_,_,_,_,_,_] _
 refine Qaf (Qak [0,1,2] rfl ?_)
 refine Qbx hs rfl rfl (cs:=(([int .i8 a1.Qac,int .i8 a1.Qae,v2]:List Value))) rfl rfl ?_
 intro b4 w hs
 show G _ _ _ _ [_,_,_,_,_,_,_,_,_,_,_,_,_,_,_,_,_,_,_] _
 refine Qaa (v:=int .i64 0) rfl rfl rfl ?_
 refine Qaa (v:=int .i64 0) rfl rfl rfl (Qab (Qaf (Qaf (Qak [0,1,2] rfl ?_))))
 refine QaG rfl rfl (es:=(([int .i8 a1.Qac,int .i8 a1.Qae,v2]:List Value))) rfl rfl (fun _=>rfl) (n:=3) (fun _=>rfl) rfl (cells_all (hs.cells 0 rfl)) ?_
 show G _ _ _ _ [_,_,_,_,_,_,_,_,_,_,_,_,_,_,_,_,_,_,_] _
 obtain ⟨r6,Hr6,H⟩:=bind_get H
 refine Qas (args:=[agg (([int .i8 a1.Qac,int .i8 a1.Qae,v2]:List Value)).toArray]) rfl rfl (Qat rfl (callFunc_enter Tryz.func14 rfl rfl) rfl) (Qa1.calls (a1:=(⟨a1.Qac,a1.Qae,a1.Qah⟩:Qag)) (hs.rd hr3) Hr6) ?_
 rintro _ w ⟨rfl,hs2⟩
 have hs:St _ [_] _:=hs.call hs2
 cases r6 with
 |true=>
  rw [if_pos rfl] at H
  refine Qaa (v:=bool false) rfl rfl rfl (Qab (Qap rfl (QaE (Qaf (Qaf (Qak [0,1,2] rfl ?_))))))
  refine QaG rfl rfl (es:=(([int .i8 a1.Qac,int .i8 a1.Qae,v2]:List Value))) rfl rfl (fun _=>rfl) (n:=3) (fun _=>rfl) rfl (cells_all (hs.cells 0 rfl)) ?_
  show G _ _ _ _ [_,_,_,_,_,_,_,_,_,_,_,_,_,_,_,_,_,_,_] _
  obtain ⟨r7,Hr7,H⟩:=bind_get H
  refine Qas (args:=[agg (([int .i8 a1.Qac,int .i8 a1.Qae,v2]:List Value)).toArray]) rfl rfl (Qat rfl (callFunc_enter Tryz.func36 rfl rfl) rfl) (Qbf.calls (a1:=(⟨a1.Qac,a1.Qae,a1.Qah⟩:Qag)) (hs.rd hr3) Hr7) ?_
  intro v8 w hs2
  have hs:St _ [_,_] _:=hs.call hs2
  refine Qaa (v:=v8) rfl rfl rfl (Qab (Qaf (Qak [0,1] rfl ?_)))
  refine Qaa (v:=v8) rfl rfl rfl ?_
  show G _ _ _ _ [_,_,_,_,_,_,_,_,_,_,_,_,_,_,_,_,_,_,_] _
  refine Qbp (hs.row 0 rfl) rfl rfl rfl rfl rfl (Qab ?_)
  refine Qbz (Qaf (Qak [0,1] rfl ?_))
  refine QaA (B:=(r7.length:Int)==0) rfl rfl rfl ?_ ?_
  ·
   intro hb
   rw [if_pos (b_beq_t hb)] at H
   refine Qaa (v:=bool true) rfl rfl rfl ?_
   show G _ _ _ _ [_,_,_,_,_,_,_,_,_,_,_,_,_,_,_,_,_,_,_] _
   refine Qab (Qam rfl (Qaf (Qak [0,1] rfl ?_)))
   refine Qaa (v:=int .i64 0) rfl rfl rfl ?_
   refine Qaa (v:=int .i64 8) rfl rfl rfl (Qab ?_)
   obtain rfl:=QsJ H
   refine Qax Tryz.func10 (v:=tuple #[int .i64 0,int .i64 8]) (resN (l:=Tryz.f10.results.toList) (vs:=[int .i64 0,int .i64 8]) rfl ⟨rfl,rfl,trivial⟩ (by simp)) ?_
   have hs:St _ [] _:=St.take (Γ':=[_,_]) hs
   exact ⟨_,rfl,rfl,hs⟩
  intro hb
  rw [if_neg (b_beq_f hb)] at H
  refine Qaa (v:=bool false) rfl rfl rfl ?_
  show G _ _ _ _ [_,_,_,_,_,_,_,_,_,_,_,_,_,_,_,_,_,_,_] _
  refine Qab (Qap rfl (Qaf (Qak [0,1] rfl ?_)))
  refine QaA (B:=(r7.length:Int)==1) rfl rfl rfl ?_ ?_
  ·
   intro hb
   rw [if_pos (b_beq_t hb)] at H
   refine Qaa (v:=bool true) rfl rfl rfl (Qab (Qam rfl (Qaf (Qak [0,1,2,3,4] rfl ?_))))
   refine Qaa (v:=v8) rfl rfl rfl ?_
   show G _ _ _ _ [_,_,_,_,_,_,_,_,_,_,_,_,_,_,_,_,_,_,_] _
   obtain ⟨g1,H⟩:=ite_get H
   refine Qcm (fkI .i64) 0 (hs.row 0 rfl) rfl (fun _=>rfl) g1.1 g1.2 rfl rfl rfl rfl rfl ?_
   intro p10 hp10 lp10 op10
   refine Qaw rfl rfl (v:=int .i64 (rdL r7 0 0)) rfl rfl (fun _=>rfl) hp10 ?_
   refine Qaa (v:=int .i64 (rdL r7 0 0)) rfl rfl rfl ?_
   show G _ _ _ _ [_,_,_,_,_,_,_,_,_,_,_,_,_,_,_,_,_,_,_] _
   refine Qaa (v:=int .i64 0) rfl rfl rfl (Qab ?_)
   obtain rfl:=QsJ H
   refine Qax Tryz.func10 (v:=tuple #[int .i64 (rdL r7 0 0),int .i64 0]) (resN (l:=Tryz.f10.results.toList) (vs:=[int .i64 (rdL r7 0 0),int .i64 0]) rfl ⟨rfl,rfl,trivial⟩ (by simp)) ?_
   have hs:St _ [] _:=St.take (Γ':=[_,_]) hs
   exact ⟨_,rfl,rfl,hs⟩
  intro hb
  rw [if_neg (b_beq_f hb)] at H
  refine Qaa (v:=bool false) rfl rfl rfl (Qab (Qap rfl (QaE ?_)))
  refine QaH (Qaf (Qak [0,1] rfl ?_))
  refine Qaa (v:=int .i64 0) rfl rfl rfl ?_
  show G _ _ _ _ [_,_,_,_,_,_,_,_,_,_,_,_,_,_,_,_,_,_,_] _
  refine Qaa (v:=int .i64 4) rfl rfl rfl (Qab ?_)
  obtain rfl:=QsJ H
  refine Qax Tryz.func10 (v:=tuple #[int .i64 0,int .i64 4]) (resN (l:=Tryz.f10.results.toList) (vs:=[int .i64 0,int .i64 4]) rfl ⟨rfl,rfl,trivial⟩ (by simp)) ?_
  have hs:St _ [] _:=St.take (Γ':=[_,_]) hs
  exact ⟨_,rfl,rfl,hs⟩
 |false=>
  rw [if_neg Bool.false_ne_true] at H
  refine Qaa (v:=bool true) rfl rfl rfl (Qab (Qam rfl (Qaf (Qak [0,1] rfl ?_))))
  refine Qaa (v:=int .i64 0) rfl rfl rfl ?_
  show G _ _ _ _ [_,_,_,_,_,_,_,_,_,_,_,_,_,_,_,_,_,_,_] _
  refine Qaa (v:=int .i64 1) rfl rfl rfl (Qab ?_)
  obtain rfl:=QsJ H
  refine Qax Tryz.func10 (v:=tuple #[int .i64 0,int .i64 1]) (resN (l:=Tryz.f10.results.toList) (vs:=[int .i64 0,int .i64 1]) rfl ⟨rfl,rfl,trivial⟩ (by simp)) ?_
  have hs:St _ [] _:=St.take (Γ':=[_]) hs
  exact ⟨_,rfl,rfl,hs⟩
def QbX.post (w0:World) (r:ByteArray) (v:Value) (w:World):Prop:=v=string r∧St w0 [] w
theorem QbX.calls {N : Nat} {a1 a2 : Int} {w0 : World} {r : ByteArray} (htab : Lib.TabIs Tryz.prog w0 "internal/strconv.uint64pow10" .u64 Lib.pow10Tab) (H : QbX.f N a1 a2 = some r) :
 Calls Tryz.prog 85 #[.int .i64 a1, .int .i64 a2] w0 fun e w=>∃ v,e= .returned v∧QbX.post w0 r v w:=by
 obtain ⟨⟨hg,e10⟩,H2⟩:=ite_get H
 subst e10
 obtain rfl:=QsJ H2
 exact (Tryz.strconv_FormatInt_10 a1 hg.1 hg.2 w0 htab).mono fun e w ⟨he,k,os,hw⟩=>⟨_,he,rfl,St.of_grow hw⟩
end Go.Proofs.YtdnipilfcjkfoaaGreatDoorX
