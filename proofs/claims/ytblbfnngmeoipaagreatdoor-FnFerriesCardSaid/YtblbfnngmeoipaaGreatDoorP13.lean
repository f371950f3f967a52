import Derived.Test.YtblbfnngmeoipaaGreatDoorP12
namespace Go.Proofs.YtblbfnngmeoipaaGreatDoorX
open Go Go.RowKit Go.Proofs
open Go.Value (int pointer bool agg slice string tuple)
set_option maxHeartbeats 8000000
set_option maxRecDepth 100000
set_option linter.unusedVariables false
set_option linter.unusedSimpArgs false
def QbY.post (w0:World) (r:Bool) (v:Value) (w:World):Prop:=v=bool r∧St w0 [] w
theorem QbY.calls {N:Nat} {a1:Qaf} {a6:Qak} {b2:Nat} {v3:Value} {w0:World} {r:Bool} (hr4:RdRow (K.int .u16) w0 v3 a1.Qal) (hp0:w0.heap[b2]?=some (.cells ((([int .i8 a1.Qad,int .i8 a1.Qag,v3]:List Value)):List Value).toArray 27 (0,0))) (H:QbY.f N a1 a6=some r):
 Calls Tryz.prog 56 #[pointer (some ⟨b2,0,none⟩),agg (Qaa a6).toArray] w0 fun e w=>∃ v,e= .returned v∧QbY.post w0 r v w:=by
 unfold QbY.f at H
 have hs:St w0 [] w0:=St.refl w0
 refine calls_of_g (n:=22) Tryz.func56 rfl rfl ?_
 show G _ _ _ _ [_,_,_,_,_,_,_,_,_,_,_,_,_,_,_,_,_,_,_,_,_,_,_,_] _
 refine Qaj (Qan [0,1] rfl ?_)
 refine Qbw hs rfl rfl (cs:=(Qaa a6)) rfl rfl ?_
 intro b7 w hs
 refine Qab (v:=bool false) rfl rfl rfl ?_
 show G _ _ _ _ [_,_,_,_,_,_,_,_,_,_,_,_,_,_,_,_,_,_,_,_,_,_,_,_] _
 refine Qac (Qaj (Qaj ?_))
 refine Qck (n:=6) rfl [0,1,2,3,4,5] [0,1,2,3,4,5] rfl rfl ?_
 intro rest w hh hbw hO
 have hs:=hs.samew hh hbw
 show G _ _ _ _ [_,_,_,_,_,_,_,_,_,_,_,_,_,_,_,_,_,_,_,_,_,_,_,_] _
 obtain ⟨r9,Hr9,H⟩:=bind_get H
 refine QaV ?_
 intro T hT
 refine Qbb (m0:=0) hO rfl 15 [0,1,2,3] [0,1,0,4,15,31] (by decide+kernel) (fun D t w=>∃ O:Nat→Value,t=[pointer (some ⟨b2,0,none⟩),agg (Qaa a6).toArray,O 2,pointer (some ⟨b7,0,none⟩),bool false,cnd (D 0) (pointer (some ⟨b7,0,none⟩)) (O 5),cnd (D 1) (int .u16 a6.Qat) (O 6),cnd (D 2) (pointer (some ⟨b2,0,none⟩)) (O 7),cnd (D 3) (int .u16 r9) (O 8),O 9,O 10,O 11,O 12,O 13,O 14,O 15,O 16,O 17,O 18,O 19,O 20,O 21,O 22,O 23]∧St w0 [Cells b7 (Qaa a6) 48] w) ?_ ⟨?_,⟨?_,⟨?_,⟨?_,trivial⟩⟩⟩⟩ ?_
 ·exact ⟨fun i=>T.getD i undef,(by subst hT;rfl),hs⟩
 ·
  rintro D t w hD hp hcl ⟨O,ht,hs⟩ rest hk
  have hp:AllDone D []:=hp
  have q1_:=ny hcl 1 0 hD
  simp only [hD,q1_,cq,oT] at ht hs
  subst ht
  refine Qab (v:=pointer (some ⟨b7,0,none⟩)) rfl rfl rfl ?_
  show G _ _ _ _ [_,_,_,_,_,_,_,_,_,_,_,_,_,_,_,_,_,_,_,_,_,_,_,_] _
  refine hk _ _ ⟨O,?_,hs.cast ?_⟩<;>simp only [oT,lq,cq,Nat.reduceBEq,q1_]
 ·
  rintro D t w hD hp hcl ⟨O,ht,hs⟩ rest hk
  have hp:AllDone D [0]:=hp
  obtain ⟨p0_,_⟩:=hp
  simp only [hD,p0_,cq,oT] at ht hs
  subst ht
  refine Qaw rfl rfl (v:=int .u16 a6.Qat) rfl rfl (fun _=>rfl) (cells_load (hs.cells 0 rfl) 0 1 rfl) ?_
  show G _ _ _ _ [_,_,_,_,_,_,_,_,_,_,_,_,_,_,_,_,_,_,_,_,_,_,_,_] _
  refine hk _ _ ⟨O,?_,hs.cast ?_⟩<;>simp only [oT,lq,cq,Nat.reduceBEq,p0_]
 ·
  rintro D t w hD hp hcl ⟨O,ht,hs⟩ rest hk
  have hp:AllDone D []:=hp
  have q3_:=ny hcl 3 0 hD
  simp only [hD,q3_,cq,oT] at ht hs
  subst ht
  refine Qab (v:=pointer (some ⟨b2,0,none⟩)) rfl rfl rfl ?_
  show G _ _ _ _ [_,_,_,_,_,_,_,_,_,_,_,_,_,_,_,_,_,_,_,_,_,_,_,_] _
  refine hk _ _ ⟨O,?_,hs.cast ?_⟩<;>simp only [oT,lq,cq,Nat.reduceBEq,q3_]
 ·
  rintro D t w hD hp hcl ⟨O,ht,hs⟩ rest hk
  have hp:AllDone D [2]:=hp
  obtain ⟨p2_,_⟩:=hp
  simp only [hD,p2_,cq,oT] at ht hs
  subst ht
  refine Qaz (args:=[pointer (some ⟨b2,0,none⟩)]) rfl rfl (QaA rfl (callFunc_enter Tryz.func74 rfl rfl) rfl) (Qbp.calls (a1:=(⟨a1.Qad,a1.Qag,a1.Qal⟩:Qaf)) (hs.rd hr4) (hs.box hp0) Hr9) ?_
  rintro _ w ⟨rfl,hs2⟩
  have hs:St _ [_] _:=hs.call hs2
  show G _ _ _ _ [_,_,_,_,_,_,_,_,_,_,_,_,_,_,_,_,_,_,_,_,_,_,_,_] _
  refine hk _ _ ⟨O,?_,hs.cast ?_⟩<;>simp only [oT,lq,cq,Nat.reduceBEq,p2_]
 intro D t w rest hall hO1_ hI
 obtain ⟨O,ht,hs⟩:=hI
 have p0_:=hall 0 (by decide) rfl
 have p1_:=hall 1 (by decide) rfl
 have p2_:=hall 2 (by decide) rfl
 have p3_:=hall 3 (by decide) rfl
 simp only [p0_,p1_,p2_,p3_,cq,oT] at ht hs
 subst ht
 obtain ⟨rest,rfl,hO2_⟩:=ord_one (m:=15) hO1_ rfl 4 (m':=31) (by decide+kernel) rfl
 clear hO1_
 refine Qab (v:=int .u16 (bAndNot .u16 a6.Qat r9)) rfl rfl rfl ?_
 obtain ⟨rest,rfl,hO3_⟩:=ord_one (m:=31) hO2_ rfl 5 (m':=63) (by decide+kernel) rfl
 clear hO2_
 refine QaI (B:=(bAndNot .u16 a6.Qat r9) !=0) rfl rfl rfl ?_ ?_
 ·
  intro hb
  rw [if_neg (b_bne_t hb)] at H
  show G _ _ _ _ [_,_,_,_,_,_,_,_,_,_,_,_,_,_,_,_,_,_,_,_,_,_,_,_] _
  obtain rfl:=ord_end hO3_ rfl (by decide+kernel)
  refine Qac (Qaq rfl (Qaj (Qan [0] rfl ?_)))
  refine Qab (v:=bool false) rfl rfl rfl (Qac ?_)
  obtain rfl:=QsJ H
  refine QaB Tryz.func56 (v:=bool false) (res1 rfl rfl) ?_
  have hs:St _ [] _:=St.take (Γ':=[_]) hs
  exact ⟨_,rfl,rfl,hs⟩
 intro hb
 rw [if_pos (b_bne_f hb)] at H
 obtain rfl:=ord_end hO3_ rfl (by decide+kernel)
 refine Qac (Qas rfl (QaK (Qaj (Qaj (Qan [0,1] rfl ?_)))))
 refine Qab (v:=pointer (some ⟨b7,1,none⟩)) rfl rfl rfl ?_
 show G _ _ _ _ [_,_,_,_,_,_,_,_,_,_,_,_,_,_,_,_,_,_,_,_,_,_,_,_] _
 by_cases hb4_:a6.Qbi=true
 ·
  rw [if_pos hb4_] at H
  refine Qaw rfl rfl (v:=bool true) rfl rfl (fun _=>rfl) (cells_load (hs.cells 0 rfl) 1 1 (Eq.trans (b:=[bool a6.Qbi]) rfl (congrArg (fun b=>[bool b]) hb4_))) (Qac (Qaq rfl (Qaj (Qan [0,1,2,3,4] rfl ?_))))
  refine Qab (v:=pointer (some ⟨b2,0,none⟩)) rfl rfl rfl ?_
  show G _ _ _ _ [_,_,_,_,_,_,_,_,_,_,_,_,_,_,_,_,_,_,_,_,_,_,_,_] _
  refine Qab (v:=pointer (some ⟨b7,0,none⟩)) rfl rfl rfl ?_
  refine Qaw rfl rfl (v:=int .u16 a6.Qat) rfl rfl (fun _=>rfl) (cells_load (hs.cells 0 rfl) 0 1 rfl) ?_
  obtain ⟨r10,Hr10,H⟩:=bind_get H
  refine Qaz (args:=[pointer (some ⟨b2,0,none⟩),int .u16 a6.Qat]) rfl rfl (QaA rfl (callFunc_enter Tryz.func82 rfl rfl) rfl) (Qbo.calls (a1:=(⟨a1.Qad,a1.Qag,a1.Qal⟩:Qaf)) (a6:=a6.Qat) (hs.rd hr4) (hs.box hp0) Hr10) ?_
  rintro _ w ⟨rfl,hs2⟩
  have hs:St _ [_] _:=hs.call hs2
  show G _ _ _ _ [_,_,_,_,_,_,_,_,_,_,_,_,_,_,_,_,_,_,_,_,_,_,_,_] _
  refine Qab (v:=bool r10) rfl rfl rfl (Qac ?_)
  obtain rfl:=QsJ H
  refine QaB Tryz.func56 (v:=bool r10) (res1 rfl rfl) ?_
  have hs:St _ [] _:=St.take (Γ':=[_]) hs
  exact ⟨_,rfl,rfl,hs⟩
 rw [if_neg hb4_] at H
 refine Qaw rfl rfl (v:=bool false) rfl rfl (fun _=>rfl) (cells_load (hs.cells 0 rfl) 1 1 (Eq.trans (b:=[bool a6.Qbi]) rfl (congrArg (fun b=>[bool b]) (Bool.eq_false_iff.2 hb4_)))) (Qac (Qas rfl (QaK (Qaj ?_))))
 obtain ⟨r11,Hr11,H⟩:=bind_get H
 obtain ⟨r12,Hr12,H⟩:=bind_get H
 refine QaV ?_
 intro T hT
 refine QbZ (n:=8) rfl [0,1,2,3,4,5,6,7] [0,1,2,3,4,5,6,7] rfl rfl (Inv:=fun D t w=>∃ O:Nat→Value,t=[pointer (some ⟨b2,0,none⟩),agg (Qaa a6).toArray,O 2,pointer (some ⟨b7,0,none⟩),cnd (D 7) (bool r12) (bool false),pointer (some ⟨b7,0,none⟩),int .u16 a6.Qat,pointer (some ⟨b2,0,none⟩),int .u16 r9,int .u16 (bAndNot .u16 a6.Qat r9),bool false,pointer (some ⟨b7,1,none⟩),bool false,O 13,O 14,O 15,O 16,cnd (D 0) (pointer (some ⟨b2,0,none⟩)) (O 17),cnd (D 1) (pointer (some ⟨b2,0,none⟩)) (O 18),cnd (D 2) (int .u16 r11) (O 19),cnd (D 3) (pointer (some ⟨b7,0,none⟩)) (O 20),cnd (D 4) (int .u16 a6.Qat) (O 21),cnd (D 5) (int .u16 (bAndNot .u16 r11 a6.Qat)) (O 22),cnd (D 6) (bool r12) (O 23)]∧St w0 [Cells b7 (Qaa a6) 48] w) ?_ ⟨⟨⟨⟨⟨⟨⟨⟨trivial,?_⟩,?_⟩,?_⟩,?_⟩,?_⟩,?_⟩,?_⟩,?_⟩ ?_
 ·
  intro w hh hbw
  have hs:=hs.samew hh hbw
  exact ⟨fun i=>T.getD i undef,(by subst hT;rfl),hs⟩
 ·
  rintro D t w hD hp hcl ⟨O,ht,hs⟩ rest hk
  have q6_:=nz hcl 6 0 hD
  have q7_:=nz hcl 7 0 q6_
  simp only [hD,q6_,q7_,cq,oT] at ht hs
  subst ht
  refine Qab (v:=pointer (some ⟨b2,0,none⟩)) rfl rfl rfl ?_
  show G _ _ _ _ [_,_,_,_,_,_,_,_,_,_,_,_,_,_,_,_,_,_,_,_,_,_,_,_] _
  refine hk _ _ ⟨O,?_,hs.cast ?_⟩<;>simp only [oT,lq,cq,Nat.reduceBEq,q6_,q7_]
 ·
  rintro D t w hD hp hcl ⟨O,ht,hs⟩ rest hk
  have q2_:=nz hcl 2 0 hD
  have q5_:=nz hcl 5 0 q2_
  have q6_:=nz hcl 6 1 q5_
  have q7_:=nz hcl 7 0 q6_
  simp only [hD,q2_,q5_,q6_,q7_,cq,oT] at ht hs
  subst ht
  refine Qab (v:=pointer (some ⟨b2,0,none⟩)) rfl rfl rfl ?_
  show G _ _ _ _ [_,_,_,_,_,_,_,_,_,_,_,_,_,_,_,_,_,_,_,_,_,_,_,_] _
  refine hk _ _ ⟨O,?_,hs.cast ?_⟩<;>simp only [oT,lq,cq,Nat.reduceBEq,q2_,q5_,q6_,q7_]
 ·
  rintro D t w hD hp hcl ⟨O,ht,hs⟩ rest hk
  obtain ⟨p1_,_⟩:=hp
  have q5_:=nz hcl 5 0 hD
  have q6_:=nz hcl 6 1 q5_
  have q7_:=nz hcl 7 0 q6_
  simp only [hD,p1_,q5_,q6_,q7_,cq,oT] at ht hs
  subst ht
  refine Qaz (args:=[pointer (some ⟨b2,0,none⟩)]) rfl rfl (QaA rfl (callFunc_enter Tryz.func74 rfl rfl) rfl) (Qbp.calls (a1:=(⟨a1.Qad,a1.Qag,a1.Qal⟩:Qaf)) (hs.rd hr4) (hs.box hp0) Hr11) ?_
  rintro _ w ⟨rfl,hs2⟩
  have hs:St _ [_] _:=hs.call hs2
  show G _ _ _ _ [_,_,_,_,_,_,_,_,_,_,_,_,_,_,_,_,_,_,_,_,_,_,_,_] _
  refine hk _ _ ⟨O,?_,hs.cast ?_⟩<;>simp only [oT,lq,cq,Nat.reduceBEq,p1_,q5_,q6_,q7_]
 ·
  rintro D t w hD hp hcl ⟨O,ht,hs⟩ rest hk
  have q4_:=nz hcl 4 0 hD
  have q5_:=nz hcl 5 1 q4_
  have q6_:=nz hcl 6 1 q5_
  have q7_:=nz hcl 7 0 q6_
  simp only [hD,q4_,q5_,q6_,q7_,cq,oT] at ht hs
  subst ht
  refine Qab (v:=pointer (some ⟨b7,0,none⟩)) rfl rfl rfl ?_
  show G _ _ _ _ [_,_,_,_,_,_,_,_,_,_,_,_,_,_,_,_,_,_,_,_,_,_,_,_] _
  refine hk _ _ ⟨O,?_,hs.cast ?_⟩<;>simp only [oT,lq,cq,Nat.reduceBEq,q4_,q5_,q6_,q7_]
 ·
  rintro D t w hD hp hcl ⟨O,ht,hs⟩ rest hk
  obtain ⟨p3_,_⟩:=hp
  have q5_:=nz hcl 5 1 hD
  have q6_:=nz hcl 6 1 q5_
  have q7_:=nz hcl 7 0 q6_
  simp only [hD,p3_,q5_,q6_,q7_,cq,oT] at ht hs
  subst ht
  refine Qaw rfl rfl (v:=int .u16 a6.Qat) rfl rfl (fun _=>rfl) (cells_load (hs.cells 0 rfl) 0 1 rfl) ?_
  show G _ _ _ _ [_,_,_,_,_,_,_,_,_,_,_,_,_,_,_,_,_,_,_,_,_,_,_,_] _
  refine hk _ _ ⟨O,?_,hs.cast ?_⟩<;>simp only [oT,lq,cq,Nat.reduceBEq,p3_,q5_,q6_,q7_]
 ·
  rintro D t w hD hp hcl ⟨O,ht,hs⟩ rest hk
  obtain ⟨p2_,p4_,_⟩:=hp
  obtain ⟨p3_,_⟩:=(hcl.get 4 (by decide)) p4_
  obtain ⟨p1_,_⟩:=(hcl.get 2 (by decide)) p2_
  have q6_:=nz hcl 6 1 hD
  have q7_:=nz hcl 7 0 q6_
  simp only [hD,p1_,p2_,p3_,p4_,q6_,q7_,cq,oT] at ht hs
  subst ht
  refine Qab (v:=int .u16 (bAndNot .u16 r11 a6.Qat)) rfl rfl rfl ?_
  show G _ _ _ _ [_,_,_,_,_,_,_,_,_,_,_,_,_,_,_,_,_,_,_,_,_,_,_,_] _
  refine hk _ _ ⟨O,?_,hs.cast ?_⟩<;>simp only [oT,lq,cq,Nat.reduceBEq,p1_,p2_,p3_,p4_,q6_,q7_]
 ·
  rintro D t w hD hp hcl ⟨O,ht,hs⟩ rest hk
  obtain ⟨p0_,p5_,p2_,_⟩:=hp
  obtain ⟨_,p4_,_⟩:=(hcl.get 5 (by decide)) p5_
  obtain ⟨p3_,_⟩:=(hcl.get 4 (by decide)) p4_
  obtain ⟨p1_,_⟩:=(hcl.get 2 (by decide)) p2_
  have q7_:=nz hcl 7 0 hD
  simp only [hD,p0_,p1_,p2_,p3_,p4_,p5_,q7_,cq,oT] at ht hs
  subst ht
  refine Qaz (args:=[pointer (some ⟨b2,0,none⟩),int .u16 (bAndNot .u16 r11 a6.Qat)]) rfl rfl (QaA rfl (callFunc_enter Tryz.func82 rfl rfl) rfl) (Qbo.calls (a1:=(⟨a1.Qad,a1.Qag,a1.Qal⟩:Qaf)) (a6:=bAndNot .u16 r11 a6.Qat) (hs.rd hr4) (hs.box hp0) Hr12) ?_
  rintro _ w ⟨rfl,hs2⟩
  have hs:St _ [_] _:=hs.call hs2
  show G _ _ _ _ [_,_,_,_,_,_,_,_,_,_,_,_,_,_,_,_,_,_,_,_,_,_,_,_] _
  refine hk _ _ ⟨O,?_,hs.cast ?_⟩<;>simp only [oT,lq,cq,Nat.reduceBEq,p0_,p1_,p2_,p3_,p4_,p5_,q7_]
 ·
  rintro D t w hD hp hcl ⟨O,ht,hs⟩ rest hk
  obtain ⟨p6_,_,p0_,p1_,p2_,p3_,p4_,p5_,_,_⟩:=hp
  simp only [hD,p0_,p1_,p2_,p3_,p4_,p5_,p6_,cq,oT] at ht hs
  subst ht
  refine Qab (v:=bool r12) rfl rfl rfl ?_
  show G _ _ _ _ [_,_,_,_,_,_,_,_,_,_,_,_,_,_,_,_,_,_,_,_,_,_,_,_] _
  refine hk _ _ ⟨O,?_,hs.cast ?_⟩<;>simp only [oT,lq,cq,Nat.reduceBEq,p0_,p1_,p2_,p3_,p4_,p5_,p6_]
 intro D t w hall hI
 obtain ⟨O,ht,hs⟩:=hI
 have p0_:=hall 0 (by decide)
 have p1_:=hall 1 (by decide)
 have p2_:=hall 2 (by decide)
 have p3_:=hall 3 (by decide)
 have p4_:=hall 4 (by decide)
 have p5_:=hall 5 (by decide)
 have p6_:=hall 6 (by decide)
 have p7_:=hall 7 (by decide)
 simp only [p0_,p1_,p2_,p3_,p4_,p5_,p6_,p7_,cq,oT] at ht hs
 subst ht
 obtain rfl:=QsJ H
 refine QaB Tryz.func56 (v:=bool r12) (res1 rfl rfl) ?_
 have hs:St _ [] _:=St.take (Γ':=[_]) hs
 exact ⟨_,rfl,rfl,hs⟩
def QbO.post (w0:World) (r:(Qak×Int)) (v:Value) (w:World):Prop:=v=tuple #[agg (Qaa r.1).toArray,int .i64 r.2]∧St w0 [] w
theorem QbO.calls {N:Nat} {a1:Qaf} {a6:Qak} {a7:Int} {b2:Nat} {v3:Value} {w0:World} {r:(Qak×Int)} (hr4:RdRow (K.int .u16) w0 v3 a1.Qal) (hp0:w0.heap[b2]?=some (.cells ((([int .i8 a1.Qad,int .i8 a1.Qag,v3]:List Value)):List Value).toArray 27 (0,0))) (H:QbO.f N a1 a6 a7=some r):
 Calls Tryz.prog 57 #[pointer (some ⟨b2,0,none⟩),agg (Qaa a6).toArray,int .u16 a7] w0 fun e w=>∃ v,e= .returned v∧QbO.post w0 r v w:=by
 unfold QbO.f at H
 have hs:St w0 [] w0:=St.refl w0
 refine calls_of_g (n:=36) Tryz.func57 rfl rfl ?_
 show G _ _ _ _ [_,_,_,_,_,_,_,_,_,_,_,_,_,_,_,_,_,_,_,_,_,_,_,_,_,_,_,_,_,_,_,_,_,_,_,_,_,_,_] _
 refine Qaj (Qan [0,1,2] rfl ?_)
 refine Qbw hs rfl rfl (cs:=(Qaa a6)) rfl rfl ?_
 intro b8 w hs
 refine QbI hs rfl rfl (z:=(agg #[int .u16 0,bool false])) (cs:=(Qaa Qa9)) rfl (fun _=>rfl) rfl ?_
 intro b10 w hs
 show G _ _ _ _ [_,_,_,_,_,_,_,_,_,_,_,_,_,_,_,_,_,_,_,_,_,_,_,_,_,_,_,_,_,_,_,_,_,_,_,_,_,_,_] _
 refine Qab (v:=int .i64 0) rfl rfl rfl (Qac (Qaj (Qaj (Qan [0,1,2,3,4,5] rfl ?_))))
 refine Qab (v:=int .u16 a7) rfl rfl rfl ?_
 refine Qab (v:=pointer (some ⟨b2,0,none⟩)) rfl rfl rfl ?_
 refine QaF rfl rfl (es:=(Qaa a6)) rfl rfl (fun _=>rfl) (n:=2) (fun _=>rfl) (Qam.len _) (cells_all (hs.cells 1 rfl)) ?_
 obtain ⟨r12,Hr12,H⟩:=bind_get H
 refine Qaz (args:=[pointer (some ⟨b2,0,none⟩),agg (Qaa a6).toArray]) rfl rfl (QaA rfl (callFunc_enter Tryz.func83 rfl rfl) rfl) (Qcf.calls (a1:=(⟨a1.Qad,a1.Qag,a1.Qal⟩:Qaf)) (a6:=a6) (hs.rd hr4) (hs.box hp0) Hr12) ?_
 rintro _ w ⟨rfl,hs2⟩
 have hs:St _ [_,_] _:=hs.call hs2
 show G _ _ _ _ [_,_,_,_,_,_,_,_,_,_,_,_,_,_,_,_,_,_,_,_,_,_,_,_,_,_,_,_,_,_,_,_,_,_,_,_,_,_,_] _
 refine Qab (v:=int .u16 (bAndNot .u16 a7 r12)) rfl rfl rfl ?_
 refine QaI (B:=(bAndNot .u16 a7 r12) !=0) rfl rfl rfl ?_ ?_
 ·
  intro hb
  rw [if_neg (b_bne_t hb)] at H
  show G _ _ _ _ [_,_,_,_,_,_,_,_,_,_,_,_,_,_,_,_,_,_,_,_,_,_,_,_,_,_,_,_,_,_,_,_,_,_,_,_,_,_,_] _
  refine Qac (Qaq rfl (Qaj (Qan [0,1,2] rfl ?_)))
  refine Qab (v:=agg (Qaa (⟨0,false⟩:Qak)).toArray) rfl rfl (Qbt (cs:=(Qaa (⟨0,false⟩:Qak))) (segs:=[[int .u16 0],[bool false]]) rfl rfl (fun _=>rfl) ⟨rfl,(fun _=>rfl),rfl,(fun _=>rfl),trivial⟩ (by simp) (by first|rfl|(simp [ev,Qaa];done)|(simp [ev,Qaa];rfl))) ?_
  refine QaY (n:=2) hs (Qam.len _) rfl rfl (vs:=(Qaa (⟨0,false⟩:Qak))) rfl rfl rfl (fun _=>rfl) (Qam.len _) (Qam.one _) ?_
  intro w hs
  refine Qab (v:=int .i64 2) rfl rfl rfl (Qac ?_)
  obtain rfl:=QsJ H
  refine QaB Tryz.func57 (v:=tuple #[agg (Qaa (⟨0,false⟩:Qak)).toArray,int .i64 2]) (resN (l:=Tryz.f57.results.toList) (vs:=[agg (Qaa (⟨0,false⟩:Qak)).toArray,int .i64 2]) rfl ⟨⟨_,rfl,(run_loadVar_agg (es:=(Qaa (⟨0,false⟩:Qak))) rfl (congrArg (Result.ok · _) (Qam.len _).symm) (cells_all (hs.cells 0 rfl)))⟩,rfl,trivial⟩ (by simp)) ?_
  have hs:St _ [] _:=St.take (Γ':=[_,_]) hs
  exact ⟨_,rfl,rfl,hs⟩
 intro hb
 rw [if_pos (b_bne_f hb)] at H
 refine Qac (Qas rfl (QaK (Qaj (Qaj ?_))))
 refine Qck (n:=8) rfl [0,1,2,3,4,5,6,7] [0,1,2,3,4,5,6,7] rfl rfl ?_
 intro rest w hh hbw hO
 have hs:=hs.samew hh hbw
 show G _ _ _ _ [_,_,_,_,_,_,_,_,_,_,_,_,_,_,_,_,_,_,_,_,_,_,_,_,_,_,_,_,_,_,_,_,_,_,_,_,_,_,_] _
 obtain ⟨r13,Hr13,H⟩:=bind_get H
 refine QaV ?_
 intro T hT
 refine Qbb (m0:=0) hO rfl 127 [0,1,2,3,4,5,6] [0,1,0,4,12,28,60,127] (by decide+kernel) (fun D t w=>∃ O:Nat→Value,t=[pointer (some ⟨b2,0,none⟩),agg (Qaa a6).toArray,int .u16 a7,O 3,pointer (some ⟨b8,0,none⟩),O 5,pointer (some ⟨b10,0,none⟩),int .i64 0,O 8,int .u16 a7,pointer (some ⟨b2,0,none⟩),agg (Qaa a6).toArray,int .u16 r12,int .u16 (bAndNot .u16 a7 r12),bool false,O 15,cnd (D 0) (int .u16 a7) (O 16),cnd (D 1) (int .i64 r13) (O 17),cnd (D 2) (pointer (some ⟨b2,0,none⟩)) (O 18),cnd (D 3) (pointer (some ⟨b2,0,none⟩)) (O 19),cnd (D 4) (pointer (some ⟨b2,1,none⟩)) (O 20),cnd (D 5) (int .i8 a1.Qag) (O 21),cnd (D 6) (int .i64 (i64w a1.Qag)) (O 22),O 23,O 24,O 25,O 26,O 27,O 28,O 29,O 30,O 31,O 32,O 33,O 34,O 35,O 36,O 37,O 38]∧St w0 [Cells b10 (Qaa Qa9) 48,Cells b8 (Qaa a6) 48] w) ?_ ⟨?_,⟨?_,⟨?_,⟨?_,⟨?_,⟨?_,⟨?_,trivial⟩⟩⟩⟩⟩⟩⟩ ?_
 ·exact ⟨fun i=>T.getD i undef,(by subst hT;rfl),hs⟩
 ·
  rintro D t w hD hp hcl ⟨O,ht,hs⟩ rest hk
  have hp:AllDone D []:=hp
  have q1_:=ny hcl 1 0 hD
  simp only [hD,q1_,cq,oT] at ht hs
  subst ht
  refine Qab (v:=int .u16 a7) rfl rfl rfl ?_
  show G _ _ _ _ [_,_,_,_,_,_,_,_,_,_,_,_,_,_,_,_,_,_,_,_,_,_,_,_,_,_,_,_,_,_,_,_,_,_,_,_,_,_,_] _
  refine hk _ _ ⟨O,?_,hs.cast ?_⟩<;>simp only [oT,lq,cq,Nat.reduceBEq,q1_]
 ·
  rintro D t w hD hp hcl ⟨O,ht,hs⟩ rest hk
  have hp:AllDone D [0]:=hp
  obtain ⟨p0_,_⟩:=hp
  simp only [hD,p0_,cq,oT] at ht hs
  subst ht
  refine Qaz (args:=[int .u16 a7]) rfl rfl (QaA rfl (callFunc_enter Tryz.func61 rfl rfl) rfl) (Qbk.calls (a1:=a7) Hr13) ?_
  rintro _ w ⟨rfl,hs2⟩
  have hs:St _ [_,_] _:=hs.call hs2
  show G _ _ _ _ [_,_,_,_,_,_,_,_,_,_,_,_,_,_,_,_,_,_,_,_,_,_,_,_,_,_,_,_,_,_,_,_,_,_,_,_,_,_,_] _
  refine hk _ _ ⟨O,?_,hs.cast ?_⟩<;>simp only [oT,lq,cq,Nat.reduceBEq,p0_]
 ·
  rintro D t w hD hp hcl ⟨O,ht,hs⟩ rest hk
  have hp:AllDone D []:=hp
  have q3_:=ny hcl 3 0 hD
  have q4_:=ny hcl 4 0 q3_
  have q5_:=ny hcl 5 0 q4_
  have q6_:=ny hcl 6 0 q5_
  simp only [hD,q3_,q4_,q5_,q6_,cq,oT] at ht hs
  subst ht
  refine Qab (v:=pointer (some ⟨b2,0,none⟩)) rfl rfl rfl ?_
  show G _ _ _ _ [_,_,_,_,_,_,_,_,_,_,_,_,_,_,_,_,_,_,_,_,_,_,_,_,_,_,_,_,_,_,_,_,_,_,_,_,_,_,_] _
  refine hk _ _ ⟨O,?_,hs.cast ?_⟩<;>simp only [oT,lq,cq,Nat.reduceBEq,q3_,q4_,q5_,q6_]
 ·
  rintro D t w hD hp hcl ⟨O,ht,hs⟩ rest hk
  have hp:AllDone D [2]:=hp
  obtain ⟨p2_,_⟩:=hp
  have q4_:=ny hcl 4 0 hD
  have q5_:=ny hcl 5 0 q4_
  have q6_:=ny hcl 6 0 q5_
  simp only [hD,p2_,q4_,q5_,q6_,cq,oT] at ht hs
  subst ht
  refine Qab (v:=pointer (some ⟨b2,0,none⟩)) rfl rfl rfl ?_
  show G _ _ _ _ [_,_,_,_,_,_,_,_,_,_,_,_,_,_,_,_,_,_,_,_,_,_,_,_,_,_,_,_,_,_,_,_,_,_,_,_,_,_,_] _
  refine hk _ _ ⟨O,?_,hs.cast ?_⟩<;>simp only [oT,lq,cq,Nat.reduceBEq,p2_,q4_,q5_,q6_]
 ·
  rintro D t w hD hp hcl ⟨O,ht,hs⟩ rest hk
  have hp:AllDone D [3]:=hp
  obtain ⟨p3_,_⟩:=hp
  obtain ⟨p2_,_⟩:=(show D 3=true→AllDone D [2] from hcl 3 (by decide)) p3_
  have q5_:=ny hcl 5 0 hD
  have q6_:=ny hcl 6 0 q5_
  simp only [hD,p2_,p3_,q5_,q6_,cq,oT] at ht hs
  subst ht
  refine Qab (v:=pointer (some ⟨b2,1,none⟩)) rfl rfl rfl ?_
  show G _ _ _ _ [_,_,_,_,_,_,_,_,_,_,_,_,_,_,_,_,_,_,_,_,_,_,_,_,_,_,_,_,_,_,_,_,_,_,_,_,_,_,_] _
  refine hk _ _ ⟨O,?_,hs.cast ?_⟩<;>simp only [oT,lq,cq,Nat.reduceBEq,p2_,p3_,q5_,q6_]
 ·
  rintro D t w hD hp hcl ⟨O,ht,hs⟩ rest hk
  have hp:AllDone D [4]:=hp
  obtain ⟨p4_,_⟩:=hp
  obtain ⟨p3_,_⟩:=(show D 4=true→AllDone D [3] from hcl 4 (by decide)) p4_
  obtain ⟨p2_,_⟩:=(show D 3=true→AllDone D [2] from hcl 3 (by decide)) p3_
  have q6_:=ny hcl 6 0 hD
  simp only [hD,p2_,p3_,p4_,q6_,cq,oT] at ht hs
  subst ht
  refine Qaw rfl rfl (v:=int .i8 a1.Qag) rfl rfl (fun _=>rfl) (cells_load (hs.box hp0) 1 1 rfl) ?_
  show G _ _ _ _ [_,_,_,_,_,_,_,_,_,_,_,_,_,_,_,_,_,_,_,_,_,_,_,_,_,_,_,_,_,_,_,_,_,_,_,_,_,_,_] _
  refine hk _ _ ⟨O,?_,hs.cast ?_⟩<;>simp only [oT,lq,cq,Nat.reduceBEq,p2_,p3_,p4_,q6_]
 ·
  rintro D t w hD hp hcl ⟨O,ht,hs⟩ rest hk
  have hp:AllDone D [5]:=hp
  obtain ⟨p5_,_⟩:=hp
  obtain ⟨p4_,_⟩:=(show D 5=true→AllDone D [4] from hcl 5 (by decide)) p5_
  obtain ⟨p3_,_⟩:=(show D 4=true→AllDone D [3] from hcl 4 (by decide)) p4_
  obtain ⟨p2_,_⟩:=(show D 3=true→AllDone D [2] from hcl 3 (by decide)) p3_
  simp only [hD,p2_,p3_,p4_,p5_,cq,oT] at ht hs
  subst ht
  refine Qab (v:=int .i64 (i64w a1.Qag)) rfl rfl rfl ?_
  show G _ _ _ _ [_,_,_,_,_,_,_,_,_,_,_,_,_,_,_,_,_,_,_,_,_,_,_,_,_,_,_,_,_,_,_,_,_,_,_,_,_,_,_] _
  refine hk _ _ ⟨O,?_,hs.cast ?_⟩<;>simp only [oT,lq,cq,Nat.reduceBEq,p2_,p3_,p4_,p5_]
 intro D t w rest hall hO1_ hI
 obtain ⟨O,ht,hs⟩:=hI
 have p0_:=hall 0 (by decide) rfl
 have p1_:=hall 1 (by decide) rfl
 have p2_:=hall 2 (by decide) rfl
 have p3_:=hall 3 (by decide) rfl
 have p4_:=hall 4 (by decide) rfl
 have p5_:=hall 5 (by decide) rfl
 have p6_:=hall 6 (by decide) rfl
 simp only [p0_,p1_,p2_,p3_,p4_,p5_,p6_,cq,oT] at ht hs
 subst ht
 obtain ⟨rest,rfl,hO2_⟩:=ord_one (m:=127) hO1_ rfl 7 (m':=255) (by decide+kernel) rfl
 clear hO1_
 refine QaI (B:=decide (r13>(i64w a1.Qag))) rfl rfl rfl ?_ ?_
 ·
  intro hb
  rw [if_pos (b_dec_t hb)] at H
  show G _ _ _ _ [_,_,_,_,_,_,_,_,_,_,_,_,_,_,_,_,_,_,_,_,_,_,_,_,_,_,_,_,_,_,_,_,_,_,_,_,_,_,_] _
  obtain rfl:=ord_end hO2_ rfl (by decide+kernel)
  refine Qac (Qaq rfl (Qaj (Qan [0,1,2] rfl ?_)))
  refine Qab (v:=agg (Qaa (⟨0,false⟩:Qak)).toArray) rfl rfl (Qbt (cs:=(Qaa (⟨0,false⟩:Qak))) (segs:=[[int .u16 0],[bool false]]) rfl rfl (fun _=>rfl) ⟨rfl,(fun _=>rfl),rfl,(fun _=>rfl),trivial⟩ (by simp) (by first|rfl|(simp [ev,Qaa];done)|(simp [ev,Qaa];rfl))) ?_
  refine QaY (n:=2) hs (Qam.len _) rfl rfl (vs:=(Qaa (⟨0,false⟩:Qak))) rfl rfl rfl (fun _=>rfl) (Qam.len _) (Qam.one _) ?_
  intro w hs
  refine Qab (v:=int .i64 3) rfl rfl rfl (Qac ?_)
  obtain rfl:=QsJ H
  refine QaB Tryz.func57 (v:=tuple #[agg (Qaa (⟨0,false⟩:Qak)).toArray,int .i64 3]) (resN (l:=Tryz.f57.results.toList) (vs:=[agg (Qaa (⟨0,false⟩:Qak)).toArray,int .i64 3]) rfl ⟨⟨_,rfl,(run_loadVar_agg (es:=(Qaa (⟨0,false⟩:Qak))) rfl (congrArg (Result.ok · _) (Qam.len _).symm) (cells_all (hs.cells 0 rfl)))⟩,rfl,trivial⟩ (by simp)) ?_
  have hs:St _ [] _:=St.take (Γ':=[_,_]) hs
  exact ⟨_,rfl,rfl,hs⟩
 intro hb
 rw [if_neg (b_dec_f hb)] at H
 show G _ _ _ _ [_,_,_,_,_,_,_,_,_,_,_,_,_,_,_,_,_,_,_,_,_,_,_,_,_,_,_,_,_,_,_,_,_,_,_,_,_,_,_] _
 obtain rfl:=ord_end hO2_ rfl (by decide+kernel)
 refine Qac (Qas rfl (QaK (Qaj (Qan [0,1,2,3,4,5,6,7,8,9] rfl ?_))))
 refine Qab (v:=pointer (some ⟨b8,0,none⟩)) rfl rfl rfl ?_
 refine Qaw rfl rfl (v:=int .u16 a6.Qat) rfl rfl (fun _=>rfl) (cells_load (hs.cells 1 rfl) 0 1 rfl) ?_
 refine Qab (v:=int .u16 a7) rfl rfl rfl ?_
 refine Qab (v:=int .u16 (bXor .u16 a6.Qat a7)) rfl rfl rfl ?_
 refine Qab (v:=pointer (some ⟨b8,1,none⟩)) rfl rfl rfl ?_
 refine Qaw rfl rfl (v:=bool a6.Qbi) rfl rfl (fun _=>rfl) (cells_load (hs.cells 1 rfl) 1 1 rfl) ?_
 show G _ _ _ _ [_,_,_,_,_,_,_,_,_,_,_,_,_,_,_,_,_,_,_,_,_,_,_,_,_,_,_,_,_,_,_,_,_,_,_,_,_,_,_] _
 refine Qab (v:=bool (!a6.Qbi)) rfl rfl rfl ?_
 show G _ _ _ _ [_,_,_,_,_,_,_,_,_,_,_,_,_,_,_,_,_,_,_,_,_,_,_,_,_,_,_,_,_,_,_,_,_,_,_,_,_,_,_] _
 refine Qab (v:=agg (Qaa (⟨bXor .u16 a6.Qat a7,!a6.Qbi⟩:Qak)).toArray) rfl rfl (Qbt (cs:=(Qaa (⟨bXor .u16 a6.Qat a7,!a6.Qbi⟩:Qak))) (segs:=[[int .u16 0],[bool false]]) rfl rfl (fun _=>rfl) ⟨rfl,(fun _=>rfl),rfl,(fun _=>rfl),trivial⟩ (by simp only [List.map_cons,List.map_nil,List.forall_mem_cons,List.not_mem_nil,false_implies,implies_true,and_true];exact ⟨⟨_,rfl,rfl⟩,⟨_,rfl,rfl⟩⟩) (by first|rfl|(simp [ev,Qaa];done)|(simp [ev,Qaa];rfl))) ?_
 refine QbI hs rfl rfl (z:=(agg #[int .u16 0,bool false])) (cs:=(Qaa Qa9)) rfl (fun _=>rfl) rfl ?_
 intro b14 w hs
 show G _ _ _ _ [_,_,_,_,_,_,_,_,_,_,_,_,_,_,_,_,_,_,_,_,_,_,_,_,_,_,_,_,_,_,_,_,_,_,_,_,_,_,_] _
 refine QaY (n:=2) hs (Qam.len _) rfl rfl (vs:=(Qaa (⟨bXor .u16 a6.Qat a7,!a6.Qbi⟩:Qak))) rfl rfl rfl (fun _=>rfl) (Qam.len _) (Qam.one _) ?_
 intro w hs
 refine Qac (Qaj (Qaj (Qan [0,1,2,3] rfl ?_)))
 refine Qab (v:=pointer (some ⟨b2,0,none⟩)) rfl rfl rfl ?_
 refine QaF rfl rfl (es:=(Qaa (⟨bXor .u16 a6.Qat a7,!a6.Qbi⟩:Qak))) rfl rfl (fun _=>rfl) (n:=2) (fun _=>rfl) (Qam.len _) (cells_all (hs.cells 0 rfl)) ?_
 obtain ⟨r16,Hr16,H⟩:=bind_get H
 refine Qaz (args:=[pointer (some ⟨b2,0,none⟩),agg (Qaa (⟨bXor .u16 a6.Qat a7,!a6.Qbi⟩:Qak)).toArray]) rfl rfl (QaA rfl (callFunc_enter Tryz.func56 rfl rfl) rfl) (QbY.calls (a1:=(⟨a1.Qad,a1.Qag,a1.Qal⟩:Qaf)) (a6:=(⟨bXor .u16 a6.Qat a7,!a6.Qbi⟩:Qak)) (hs.rd hr4) (hs.box hp0) Hr16) ?_
 rintro _ w ⟨rfl,hs2⟩
 have hs:St _ [_,_,_] _:=hs.call hs2
 cases r16 with
 |true=>
  rw [if_pos rfl] at H
  show G _ _ _ _ [_,_,_,_,_,_,_,_,_,_,_,_,_,_,_,_,_,_,_,_,_,_,_,_,_,_,_,_,_,_,_,_,_,_,_,_,_,_,_] _
  refine Qab (v:=bool false) rfl rfl rfl (Qac (Qas rfl (QaK (Qaj (Qan [0,1,2] rfl ?_)))))
  refine QaF rfl rfl (es:=(Qaa (⟨bXor .u16 a6.Qat a7,!a6.Qbi⟩:Qak))) rfl rfl (fun _=>rfl) (n:=2) (fun _=>rfl) (Qam.len _) (cells_all (hs.cells 0 rfl)) ?_
  have hs:St _ [_,_,_] _:=hs.pull 1 rfl
  refine QaY (n:=2) hs (Qam.len _) rfl rfl (vs:=(Qaa (⟨bXor .u16 a6.Qat a7,!a6.Qbi⟩:Qak))) rfl rfl rfl (fun _=>rfl) (Qam.len _) (Qam.one _) ?_
  intro w hs
  refine Qab (v:=int .i64 0) rfl rfl rfl ?_
  show G _ _ _ _ [_,_,_,_,_,_,_,_,_,_,_,_,_,_,_,_,_,_,_,_,_,_,_,_,_,_,_,_,_,_,_,_,_,_,_,_,_,_,_] _
  refine Qac ?_
  obtain rfl:=QsJ H
  refine QaB Tryz.func57 (v:=tuple #[agg (Qaa (⟨bXor .u16 a6.Qat a7,!a6.Qbi⟩:Qak)).toArray,int .i64 0]) (resN (l:=Tryz.f57.results.toList) (vs:=[agg (Qaa (⟨bXor .u16 a6.Qat a7,!a6.Qbi⟩:Qak)).toArray,int .i64 0]) rfl ⟨⟨_,rfl,(run_loadVar_agg (es:=(Qaa (⟨bXor .u16 a6.Qat a7,!a6.Qbi⟩:Qak))) rfl (congrArg (Result.ok · _) (Qam.len _).symm) (cells_all (hs.cells 0 rfl)))⟩,rfl,trivial⟩ (by simp)) ?_
  have hs:St _ [] _:=St.take (Γ':=[_,_,_]) hs
  exact ⟨_,rfl,rfl,hs⟩
 |false=>
  rw [if_neg Bool.false_ne_true] at H
  refine Qab (v:=bool true) rfl rfl rfl ?_
  show G _ _ _ _ [_,_,_,_,_,_,_,_,_,_,_,_,_,_,_,_,_,_,_,_,_,_,_,_,_,_,_,_,_,_,_,_,_,_,_,_,_,_,_] _
  refine Qac (Qaq rfl (Qaj (Qan [0,1,2] rfl ?_)))
  refine Qab (v:=agg (Qaa (⟨0,false⟩:Qak)).toArray) rfl rfl (Qbt (cs:=(Qaa (⟨0,false⟩:Qak))) (segs:=[[int .u16 0],[bool false]]) rfl rfl (fun _=>rfl) ⟨rfl,(fun _=>rfl),rfl,(fun _=>rfl),trivial⟩ (by simp) (by first|rfl|(simp [ev,Qaa];done)|(simp [ev,Qaa];rfl))) ?_
  have hs:St _ [_,_,_] _:=hs.pull 1 rfl
  refine QaY (n:=2) hs (Qam.len _) rfl rfl (vs:=(Qaa (⟨0,false⟩:Qak))) rfl rfl rfl (fun _=>rfl) (Qam.len _) (Qam.one _) ?_
  intro w hs
  refine Qab (v:=int .i64 4) rfl rfl rfl (Qac ?_)
  obtain rfl:=QsJ H
  refine QaB Tryz.func57 (v:=tuple #[agg (Qaa (⟨0,false⟩:Qak)).toArray,int .i64 4]) (resN (l:=Tryz.f57.results.toList) (vs:=[agg (Qaa (⟨0,false⟩:Qak)).toArray,int .i64 4]) rfl ⟨⟨_,rfl,(run_loadVar_agg (es:=(Qaa (⟨0,false⟩:Qak))) rfl (congrArg (Result.ok · _) (Qam.len _).symm) (cells_all (hs.cells 0 rfl)))⟩,rfl,trivial⟩ (by simp)) ?_
  have hs:St _ [] _:=St.take (Γ':=[_,_,_]) hs
  exact ⟨_,rfl,rfl,hs⟩
def Qbc.post (w0:World) (r:(List Int)) (v:Value) (w:World):Prop:=St w0 [Row 46 (K.int .u16) v r] w
theorem Qbc.calls {N:Nat} {a1:Qaf} {a6:Qak} {b2:Nat} {v3:Value} {w0:World} {r:(List Int)} (hr4:RdRow (K.int .u16) w0 v3 a1.Qal) (hp0:w0.heap[b2]?=some (.cells ((([int .i8 a1.Qad,int .i8 a1.Qag,v3]:List Value)):List Value).toArray 27 (0,0))) (H:Qbc.f N a1 a6=some r):
 Calls Tryz.prog 76 #[pointer (some ⟨b2,0,none⟩),agg (Qaa a6).toArray] w0 fun e w=>∃ v,e= .returned v∧Qbc.post w0 r v w:=by
 unfold Qbc.f at H
 have hs:St w0 [] w0:=St.refl w0
 refine calls_of_g (n:=28) Tryz.func76 rfl rfl ?_
 show G _ _ _ _ [_,_,_,_,_,_,_,_,_,_,_,_,_,_,_,_,_,_,_,_,_,_,_,_,_,_,_,_,_,_] _
 refine Qaj (Qan [0,1] rfl ?_)
 refine Qbw hs rfl rfl (cs:=(Qaa a6)) rfl rfl ?_
 intro b7 w hs
 refine Qab (v:=slice none 0 0) rfl rfl rfl (Qac (Qaj (Qan [0,1] rfl ?_)))
 refine QcC (κ:=(K.int .u16)) hs rfl rfl rfl rfl (fun _=>rfl) ?_
 intro v9 w hs
 show G _ _ _ _ [_,_,_,_,_,_,_,_,_,_,_,_,_,_,_,_,_,_,_,_,_,_,_,_,_,_,_,_,_,_] _
 refine Qab (v:=v9) rfl rfl rfl (Qac (Qaj (Qaj (Qan [0] rfl ?_))))
 refine Qab (v:=int .u16 0) rfl rfl rfl (Qac ?_)
 obtain ⟨o1_,Ho,Hr1_⟩:=bind_get H
 refine QaR (J:=fun t w=>∃ v26:Value,∃ x27:(List Int),Qbc.a0 N x27=some r∧Fr t (fun O=>([O 0,O 1,O 2,O 3,O 4,v26,O 6,O 7,O 8,O 9,O 10,O 11,O 12,O 13,O 14,O 15,O 16,O 17,O 18,O 19,O 20,O 21,O 22,O 23,O 24,O 25,O 26,O 27,O 28,O 29]:List Value))∧St w0 [Row 46 (K.int .u16) v26 x27] w) ?_ ?_
 ·
  rintro t w ⟨v26,x27,H,hf,hs⟩
  obtain ⟨O,rfl⟩:=hf.open
  show G _ _ _ _ [_,_,_,_,_,_,_,_,_,_,_,_,_,_,_,_,_,_,_,_,_,_,_,_,_,_,_,_,_,_] _
  unfold Qbc.a0 at H
  refine Qaj (Qan [0,1] rfl ?_)
  refine Qab (v:=v26) rfl rfl rfl ?_
  refine Qab (v:=v26) rfl rfl rfl (Qac ?_)
  obtain rfl:=QsJ H
  refine QaB Tryz.func76 (v:=v26) (res1 rfl rfl) ?_
  have hs:=hs.pull 0 rfl
  have hs:St _ [_] _:=St.take (Γ':=[]) hs
  exact ⟨_,rfl,hs⟩
 intro ha1_
 have hs:=hs.pull 0 rfl
 have hs:=hs.pull 1 rfl
 have hs:St _ [_,_] _:=St.take (Γ':=[]) hs
 refine Qba (I:=fun n_ t w=>∃ v12:Value,∃ x13:(List Int),∃ x14:Int,rounds (fun s=>Qbc.b0 N a1 a6 s.1 s.2) n_ (x13,x14)=some o1_∧Fr t (fun O=>([pointer (some ⟨b2,0,none⟩),O 1,O 2,pointer (some ⟨b7,0,none⟩),O 4,v12,int .u16 x14,O 7,O 8,O 9,O 10,O 11,O 12,O 13,O 14,O 15,O 16,O 17,O 18,O 19,O 20,O 21,O 22,O 23,O 24,O 25,O 26,O 27,O 28,O 29]:List Value))∧St w0 [Cells b7 (Qaa a6) 48,Row 46 (K.int .u16) v12 x13] w) N ⟨v9,([]:List Int),0,Ho,rfl,hs⟩ ?_ ?_
 ·
  rintro _ _ ⟨v12,x13,x14,h,_⟩
  exact rounds_zero h
 intro n_ ih1_
 rintro t w ⟨v12,x13,x14,Ho,hf,hs⟩
 obtain ⟨O,rfl⟩:=hf.open
 show G _ _ _ _ [_,_,_,_,_,_,_,_,_,_,_,_,_,_,_,_,_,_,_,_,_,_,_,_,_,_,_,_,_,_] _
 obtain ⟨x1_,H,Hx1_⟩:=rounds_succ Ho
 have H:Qbc.b0 N a1 a6 x13 x14=some x1_:=H
 unfold Qbc.b0 at H
 refine Qaj (Qaj (Qan [0,1,2,3] rfl ?_))
 refine Qab (v:=int .u16 x14) rfl rfl rfl ?_
 refine Qab (v:=pointer (some ⟨b2,0,none⟩)) rfl rfl rfl ?_
 obtain ⟨r15,Hr15,H⟩:=bind_get H
 refine Qaz (args:=[pointer (some ⟨b2,0,none⟩)]) rfl rfl (QaA rfl (callFunc_enter Tryz.func74 rfl rfl) rfl) (Qbp.calls (a1:=(⟨a1.Qad,a1.Qag,a1.Qal⟩:Qaf)) (hs.rd hr4) (hs.box hp0) Hr15) ?_
 rintro _ w ⟨rfl,hs2⟩
 have hs:St _ [_,_] _:=hs.call hs2
 show G _ _ _ _ [_,_,_,_,_,_,_,_,_,_,_,_,_,_,_,_,_,_,_,_,_,_,_,_,_,_,_,_,_,_] _
 refine QaI (B:=decide (x14≤r15)) rfl rfl rfl ?_ ?_
 ·
  intro hb
  rw [if_pos (b_dec_t hb)] at H
  refine Qac (Qaq rfl (QaK (Qaj ?_)))
  refine QaR (J:=(fun t w=>∃ v23:Value,∃ x24:(List Int),Qbc.j2 N x14 x24=some x1_∧Fr t (fun O=>([pointer (some ⟨b2,0,none⟩),O 1,O 2,pointer (some ⟨b7,0,none⟩),O 4,v23,int .u16 x14,O 7,O 8,O 9,O 10,O 11,O 12,O 13,O 14,O 15,O 16,O 17,O 18,O 19,O 20,O 21,O 22,O 23,O 24,O 25,O 26,O 27,O 28,O 29]:List Value))∧St w0 [Cells b7 (Qaa a6) 48,Row 46 (K.int .u16) v23 x24] w)) ?_ ?_
  ·
   rintro t w ⟨v23,x24,H,hf,hs⟩
   obtain ⟨O,rfl⟩:=hf.open
   show G _ _ _ _ [_,_,_,_,_,_,_,_,_,_,_,_,_,_,_,_,_,_,_,_,_,_,_,_,_,_,_,_,_,_] _
   unfold Qbc.j2 at H
   refine Qan [0,1,2] rfl ?_
   refine Qab (v:=int .u16 x14) rfl rfl rfl ?_
   refine Qab (v:=int .u16 (u16w (x14+1))) rfl rfl rfl ?_
   refine Qab (v:=int .u16 (u16w (x14+1))) rfl rfl rfl (Qac ?_)
   obtain rfl:=QsJ H
   have hs:=hs.pull 1 rfl
   have hs:=hs.pull 1 rfl
   have hs:St _ [_,_] _:=St.take (Γ':=[]) hs
   exact ih1_ _ _ ⟨v23,x24,u16w (x14+1),Hx1_,rfl,hs⟩
  intro ha
  refine Qaj (Qan [0,1,2,3,4,5,6,7,8,9] rfl ?_)
  refine Qab (v:=pointer (some ⟨b2,0,none⟩)) rfl rfl rfl ?_
  refine QaF rfl rfl (es:=(Qaa a6)) rfl rfl (fun _=>rfl) (n:=2) (fun _=>rfl) (Qam.len _) (cells_all (hs.cells 0 rfl)) ?_
  show G _ _ _ _ [_,_,_,_,_,_,_,_,_,_,_,_,_,_,_,_,_,_,_,_,_,_,_,_,_,_,_,_,_,_] _
  refine Qab (v:=int .u16 x14) rfl rfl rfl ?_
  obtain ⟨r16,Hr16,H⟩:=bind_get H
  refine Qaz (args:=[pointer (some ⟨b2,0,none⟩),agg (Qaa a6).toArray,int .u16 x14]) rfl rfl (QaA rfl (callFunc_enter Tryz.func57 rfl rfl) rfl) (QbO.calls (a1:=(⟨a1.Qad,a1.Qag,a1.Qal⟩:Qaf)) (a6:=a6) (a7:=x14) (hs.rd hr4) (hs.box hp0) Hr16) ?_
  rintro _ w ⟨rfl,hs2⟩
  have hs:St _ [_,_] _:=hs.call hs2
  refine Qab (v:=tuple #[agg (Qaa r16.1).toArray,int .i64 r16.2]) rfl rfl rfl ?_
  refine Qab (v:=agg (Qaa r16.1).toArray) rfl rfl rfl ?_
  refine Qab (v:=int .i64 r16.2) rfl rfl rfl ?_
  refine QbI hs rfl rfl (z:=(agg #[int .u16 0,bool false])) (cs:=(Qaa Qa9)) rfl (fun _=>rfl) rfl ?_
  intro b17 w hs
  refine QaY (n:=2) hs (Qam.len _) rfl rfl (vs:=(Qaa r16.1)) rfl rfl rfl (fun _=>rfl) (Qam.len _) (Qam.one _) ?_
  intro w hs
  refine Qab (v:=int .i64 r16.2) rfl rfl rfl ?_
  show G _ _ _ _ [_,_,_,_,_,_,_,_,_,_,_,_,_,_,_,_,_,_,_,_,_,_,_,_,_,_,_,_,_,_] _
  refine Qac (Qaj (Qan [0,1] rfl ?_))
  refine Qab (v:=int .i64 r16.2) rfl rfl rfl ?_
  refine QaI (B:=r16.2==0) rfl rfl rfl ?_ ?_
  ·
   intro hb
   rw [if_pos (b_beq_t hb)] at H
   refine Qac (Qaq rfl (Qan [0,1,2,3,4] rfl ?_))
   refine Qab (v:=v12) rfl rfl rfl ?_
   refine Qab (v:=int .u16 x14) rfl rfl rfl ?_
   show G _ _ _ _ [_,_,_,_,_,_,_,_,_,_,_,_,_,_,_,_,_,_,_,_,_,_,_,_,_,_,_,_,_,_] _
   refine Qcq (fkI .u16) (y:=x14) hs rfl rfl rfl rfl (fun _=>rfl) (zv:=(int .u16 0)) (fun _=>rfl) rfl (by decide) (by decide) rfl ?_
   intro v19 w hs
   have hs:St _ [_,_,_,_] _:=hs.pull 3 rfl
   obtain ⟨g,H⟩:=ite_get H
   refine Qcr (fkI .u16) (zv:=(int .u16 0)) (B:=2) hs (hs.row 1 rfl) rfl rfl rfl rfl rfl rfl rfl rfl rfl (by decide) rfl rfl (by decide) (by omega) ?_
   intro v21 w hs
   refine Qab (v:=v21) rfl rfl rfl ?_
   show G _ _ _ _ [_,_,_,_,_,_,_,_,_,_,_,_,_,_,_,_,_,_,_,_,_,_,_,_,_,_,_,_,_,_] _
   refine Qac ?_
   refine Qa0 ?_
   have hs:=hs.pull 0 rfl
   have hs:=hs.pull 3 rfl
   have hs:St _ [_,_] _:=St.take (Γ':=[_,_]) hs
   exact ha _ _ ⟨v21,x13++([x14]),H,rfl,hs⟩
  intro hb
  rw [if_neg (b_beq_f hb)] at H
  refine Qac (Qas rfl (QaK ?_))
  refine Qa0 ?_
  have hs:=hs.pull 2 rfl
  have hs:=hs.pull 2 rfl
  have hs:St _ [_,_] _:=St.take (Γ':=[_]) hs
  exact ha _ _ ⟨v12,x13,H,rfl,hs⟩
 intro hb
 rw [if_neg (b_dec_f hb)] at H
 refine Qac (Qas rfl ?_)
 obtain rfl:=QsJ H
 subst Hx1_
 have hs:=hs.pull 1 rfl
 have hs:St _ [_] _:=St.take (Γ':=[_]) hs
 refine QbE rfl ?_
 exact ha1_ _ _ ⟨v12,x13,Hr1_,rfl,hs⟩
def Qb9.post (w0:World) (r:Int) (v:Value) (w:World):Prop:=v=int .i64 r∧St w0 [] w
theorem Qb9.calls {N:Nat} {a1:Qaf} {a6:Qak} {b2:Nat} {v3:Value} {w0:World} {r:Int} (hr4:RdRow (K.int .u16) w0 v3 a1.Qal) (hp0:w0.heap[b2]?=some (.cells ((([int .i8 a1.Qad,int .i8 a1.Qag,v3]:List Value)):List Value).toArray 27 (0,0))) (H:Qb9.f N a1 a6=some r):
 Calls Tryz.prog 77 #[pointer (some ⟨b2,0,none⟩),agg (Qaa a6).toArray] w0 fun e w=>∃ v,e= .returned v∧Qb9.post w0 r v w:=by
 unfold Qb9.f at H
 have hs:St w0 [] w0:=St.refl w0
 refine calls_of_g (n:=16) Tryz.func77 rfl rfl ?_
 show G _ _ _ _ [_,_,_,_,_,_,_,_,_,_,_,_,_,_,_,_,_,_] _
 refine Qaj (Qan [0,1] rfl ?_)
 refine Qbw hs rfl rfl (cs:=(Qaa a6)) rfl rfl ?_
 intro b7 w hs
 show G _ _ _ _ [_,_,_,_,_,_,_,_,_,_,_,_,_,_,_,_,_,_] _
 refine Qab (v:=int .i64 0) rfl rfl rfl (Qac (Qaj (Qaj (Qan [0,1] rfl ?_))))
 refine Qab (v:=pointer (some ⟨b7,1,none⟩)) rfl rfl rfl ?_
 by_cases hb1_:a6.Qbi=true
 ·
  rw [if_pos hb1_] at H
  refine Qaw rfl rfl (v:=bool true) rfl rfl (fun _=>rfl) (cells_load (hs.cells 0 rfl) 1 1 (Eq.trans (b:=[bool a6.Qbi]) rfl (congrArg (fun b=>[bool b]) hb1_))) ?_
  show G _ _ _ _ [_,_,_,_,_,_,_,_,_,_,_,_,_,_,_,_,_,_] _
  refine Qac (Qaq rfl (Qaj ?_))
  obtain ⟨r9,Hr9,H⟩:=bind_get H
  refine QaV ?_
  intro T hT
  refine QbZ (n:=9) rfl [0,1,2,3,4,5,6,7,8] [0,1,2,3,4,5,6,7,8] rfl rfl (Inv:=fun D t w=>∃ O:Nat→Value,t=[pointer (some ⟨b2,0,none⟩),agg (Qaa a6).toArray,O 2,pointer (some ⟨b7,0,none⟩),cnd (D 8) (int .i64 (i64w ((i64w ((i64w a6.Qat)+(i64w r9)))+1))) (int .i64 0),pointer (some ⟨b7,1,none⟩),bool true,cnd (D 0) (pointer (some ⟨b7,0,none⟩)) (O 7),cnd (D 1) (int .u16 a6.Qat) (O 8),cnd (D 2) (int .i64 (i64w a6.Qat)) (O 9),cnd (D 3) (pointer (some ⟨b2,0,none⟩)) (O 10),cnd (D 4) (int .u16 r9) (O 11),cnd (D 5) (int .i64 (i64w r9)) (O 12),cnd (D 6) (int .i64 (i64w ((i64w a6.Qat)+(i64w r9)))) (O 13),cnd (D 7) (int .i64 (i64w ((i64w ((i64w a6.Qat)+(i64w r9)))+1))) (O 14),O 15,O 16,O 17]∧St w0 [Cells b7 (Qaa a6) 48] w) ?_ ⟨⟨⟨⟨⟨⟨⟨⟨⟨trivial,?_⟩,?_⟩,?_⟩,?_⟩,?_⟩,?_⟩,?_⟩,?_⟩,?_⟩ ?_
  ·
   intro w hh hbw
   have hs:=hs.samew hh hbw
   exact ⟨fun i=>T.getD i undef,(by subst hT;rfl),hs⟩
  ·
   rintro D t w hD hp hcl ⟨O,ht,hs⟩ rest hk
   have q1_:=nz hcl 1 0 hD
   have q2_:=nz hcl 2 0 q1_
   have q6_:=nz hcl 6 0 q2_
   have q7_:=nz hcl 7 0 q6_
   have q8_:=nz hcl 8 0 q7_
   simp only [hD,q1_,q2_,q6_,q7_,q8_,cq,oT] at ht hs
   subst ht
   refine Qab (v:=pointer (some ⟨b7,0,none⟩)) rfl rfl rfl ?_
   show G _ _ _ _ [_,_,_,_,_,_,_,_,_,_,_,_,_,_,_,_,_,_] _
   refine hk _ _ ⟨O,?_,hs.cast ?_⟩<;>simp only [oT,lq,cq,Nat.reduceBEq,q1_,q2_,q6_,q7_,q8_]
  ·
   rintro D t w hD hp hcl ⟨O,ht,hs⟩ rest hk
   obtain ⟨p0_,_⟩:=hp
   have q2_:=nz hcl 2 0 hD
   have q6_:=nz hcl 6 0 q2_
   have q7_:=nz hcl 7 0 q6_
   have q8_:=nz hcl 8 0 q7_
   simp only [hD,p0_,q2_,q6_,q7_,q8_,cq,oT] at ht hs
   subst ht
   refine Qaw rfl rfl (v:=int .u16 a6.Qat) rfl rfl (fun _=>rfl) (cells_load (hs.cells 0 rfl) 0 1 rfl) ?_
   show G _ _ _ _ [_,_,_,_,_,_,_,_,_,_,_,_,_,_,_,_,_,_] _
   refine hk _ _ ⟨O,?_,hs.cast ?_⟩<;>simp only [oT,lq,cq,Nat.reduceBEq,p0_,q2_,q6_,q7_,q8_]
  ·
   rintro D t w hD hp hcl ⟨O,ht,hs⟩ rest hk
   obtain ⟨p1_,_⟩:=hp
   obtain ⟨p0_,_⟩:=(hcl.get 1 (by decide)) p1_
   have q6_:=nz hcl 6 0 hD
   have q7_:=nz hcl 7 0 q6_
   have q8_:=nz hcl 8 0 q7_
   simp only [hD,p0_,p1_,q6_,q7_,q8_,cq,oT] at ht hs
   subst ht
   refine Qab (v:=int .i64 (i64w a6.Qat)) rfl rfl rfl ?_
   show G _ _ _ _ [_,_,_,_,_,_,_,_,_,_,_,_,_,_,_,_,_,_] _
   refine hk _ _ ⟨O,?_,hs.cast ?_⟩<;>simp only [oT,lq,cq,Nat.reduceBEq,p0_,p1_,q6_,q7_,q8_]
  ·
   rintro D t w hD hp hcl ⟨O,ht,hs⟩ rest hk
   have q4_:=nz hcl 4 0 hD
   have q5_:=nz hcl 5 0 q4_
   have q6_:=nz hcl 6 1 q5_
   have q7_:=nz hcl 7 0 q6_
   have q8_:=nz hcl 8 0 q7_
   simp only [hD,q4_,q5_,q6_,q7_,q8_,cq,oT] at ht hs
   subst ht
   refine Qab (v:=pointer (some ⟨b2,0,none⟩)) rfl rfl rfl ?_
   show G _ _ _ _ [_,_,_,_,_,_,_,_,_,_,_,_,_,_,_,_,_,_] _
   refine hk _ _ ⟨O,?_,hs.cast ?_⟩<;>simp only [oT,lq,cq,Nat.reduceBEq,q4_,q5_,q6_,q7_,q8_]
  ·
   rintro D t w hD hp hcl ⟨O,ht,hs⟩ rest hk
   obtain ⟨p3_,_⟩:=hp
   have q5_:=nz hcl 5 0 hD
   have q6_:=nz hcl 6 1 q5_
   have q7_:=nz hcl 7 0 q6_
   have q8_:=nz hcl 8 0 q7_
   simp only [hD,p3_,q5_,q6_,q7_,q8_,cq,oT] at ht hs
   subst ht
   refine Qaz (args:=[pointer (some ⟨b2,0,none⟩)]) rfl rfl (QaA rfl (callFunc_enter Tryz.func74 rfl rfl) rfl) (Qbp.calls (a1:=(⟨a1.Qad,a1.Qag,a1.Qal⟩:Qaf)) (hs.rd hr4) (hs.box hp0) Hr9) ?_
   rintro _ w ⟨rfl,hs2⟩
   have hs:St _ [_] _:=hs.call hs2
   show G _ _ _ _ [_,_,_,_,_,_,_,_,_,_,_,_,_,_,_,_,_,_] _
   refine hk _ _ ⟨O,?_,hs.cast ?_⟩<;>simp only [oT,lq,cq,Nat.reduceBEq,p3_,q5_,q6_,q7_,q8_]
  ·
   rintro D t w hD hp hcl ⟨O,ht,hs⟩ rest hk
   obtain ⟨p4_,_⟩:=hp
   obtain ⟨p3_,_⟩:=(hcl.get 4 (by decide)) p4_
   have q6_:=nz hcl 6 1 hD
   have q7_:=nz hcl 7 0 q6_
   have q8_:=nz hcl 8 0 q7_
   simp only [hD,p3_,p4_,q6_,q7_,q8_,cq,oT] at ht hs
   subst ht
   refine Qab (v:=int .i64 (i64w r9)) rfl rfl rfl ?_
   show G _ _ _ _ [_,_,_,_,_,_,_,_,_,_,_,_,_,_,_,_,_,_] _
   refine hk _ _ ⟨O,?_,hs.cast ?_⟩<;>simp only [oT,lq,cq,Nat.reduceBEq,p3_,p4_,q6_,q7_,q8_]
  ·
   rintro D t w hD hp hcl ⟨O,ht,hs⟩ rest hk
   obtain ⟨p2_,p5_,_⟩:=hp
   obtain ⟨p4_,_⟩:=(hcl.get 5 (by decide)) p5_
   obtain ⟨p3_,_⟩:=(hcl.get 4 (by decide)) p4_
   obtain ⟨p1_,_⟩:=(hcl.get 2 (by decide)) p2_
   obtain ⟨p0_,_⟩:=(hcl.get 1 (by decide)) p1_
   have q7_:=nz hcl 7 0 hD
   have q8_:=nz hcl 8 0 q7_
   simp only [hD,p0_,p1_,p2_,p3_,p4_,p5_,q7_,q8_,cq,oT] at ht hs
   subst ht
   refine Qab (v:=int .i64 (i64w ((i64w a6.Qat)+(i64w r9)))) rfl rfl rfl ?_
   show G _ _ _ _ [_,_,_,_,_,_,_,_,_,_,_,_,_,_,_,_,_,_] _
   refine hk _ _ ⟨O,?_,hs.cast ?_⟩<;>simp only [oT,lq,cq,Nat.reduceBEq,p0_,p1_,p2_,p3_,p4_,p5_,q7_,q8_]
  ·
   rintro D t w hD hp hcl ⟨O,ht,hs⟩ rest hk
   obtain ⟨p6_,_⟩:=hp
   obtain ⟨p2_,p5_,_⟩:=(hcl.get 6 (by decide)) p6_
   obtain ⟨p4_,_⟩:=(hcl.get 5 (by decide)) p5_
   obtain ⟨p3_,_⟩:=(hcl.get 4 (by decide)) p4_
   obtain ⟨p1_,_⟩:=(hcl.get 2 (by decide)) p2_
   obtain ⟨p0_,_⟩:=(hcl.get 1 (by decide)) p1_
   have q8_:=nz hcl 8 0 hD
   simp only [hD,p0_,p1_,p2_,p3_,p4_,p5_,p6_,q8_,cq,oT] at ht hs
   subst ht
   refine Qab (v:=int .i64 (i64w ((i64w ((i64w a6.Qat)+(i64w r9)))+1))) rfl rfl rfl ?_
   show G _ _ _ _ [_,_,_,_,_,_,_,_,_,_,_,_,_,_,_,_,_,_] _
   refine hk _ _ ⟨O,?_,hs.cast ?_⟩<;>simp only [oT,lq,cq,Nat.reduceBEq,p0_,p1_,p2_,p3_,p4_,p5_,p6_,q8_]
  ·
   rintro D t w hD hp hcl ⟨O,ht,hs⟩ rest hk
   obtain ⟨p7_,p4_,p0_,p1_,p2_,p3_,_,p5_,p6_,_,_⟩:=hp
   simp only [hD,p0_,p1_,p2_,p3_,p4_,p5_,p6_,p7_,cq,oT] at ht hs
   subst ht
   refine Qab (v:=int .i64 (i64w ((i64w ((i64w a6.Qat)+(i64w r9)))+1))) rfl rfl rfl ?_
   show G _ _ _ _ [_,_,_,_,_,_,_,_,_,_,_,_,_,_,_,_,_,_] _
   refine hk _ _ ⟨O,?_,hs.cast ?_⟩<;>simp only [oT,lq,cq,Nat.reduceBEq,p0_,p1_,p2_,p3_,p4_,p5_,p6_,p7_]
  intro D t w hall hI
  obtain ⟨O,ht,hs⟩:=hI
  have p0_:=hall 0 (by decide)
  have p1_:=hall 1 (by decide)
  have p2_:=hall 2 (by decide)
  have p3_:=hall 3 (by decide)
  have p4_:=hall 4 (by decide)
  have p5_:=hall 5 (by decide)
  have p6_:=hall 6 (by decide)
  have p7_:=hall 7 (by decide)
  have p8_:=hall 8 (by decide)
  simp only [p0_,p1_,p2_,p3_,p4_,p5_,p6_,p7_,p8_,cq,oT] at ht hs
  subst ht
  obtain rfl:=QsJ H
  refine QaB Tryz.func77 (v:=int .i64 (i64w ((i64w ((i64w a6.Qat)+(i64w r9)))+1))) (res1 rfl rfl) ?_
  have hs:St _ [] _:=St.take (Γ':=[_]) hs
  exact ⟨_,rfl,rfl,hs⟩
 rw [if_neg hb1_] at H
 refine Qaw rfl rfl (v:=bool false) rfl rfl (fun _=>rfl) (cells_load (hs.cells 0 rfl) 1 1 (Eq.trans (b:=[bool a6.Qbi]) rfl (congrArg (fun b=>[bool b]) (Bool.eq_false_iff.2 hb1_)))) ?_
 show G _ _ _ _ [_,_,_,_,_,_,_,_,_,_,_,_,_,_,_,_,_,_] _
 refine Qac (Qas rfl (QaK (Qaj (Qan [0,1,2,3] rfl ?_))))
 refine Qab (v:=pointer (some ⟨b7,0,none⟩)) rfl rfl rfl ?_
 refine Qaw rfl rfl (v:=int .u16 a6.Qat) rfl rfl (fun _=>rfl) (cells_load (hs.cells 0 rfl) 0 1 rfl) ?_
 refine Qab (v:=int .i64 (i64w a6.Qat)) rfl rfl rfl ?_
 show G _ _ _ _ [_,_,_,_,_,_,_,_,_,_,_,_,_,_,_,_,_,_] _
 refine Qab (v:=int .i64 (i64w a6.Qat)) rfl rfl rfl (Qac ?_)
 obtain rfl:=QsJ H
 refine QaB Tryz.func77 (v:=int .i64 (i64w a6.Qat)) (res1 rfl rfl) ?_
 have hs:St _ [] _:=St.take (Γ':=[_]) hs
 exact ⟨_,rfl,rfl,hs⟩
def QaD.post (w0:World) (r:Qbs) (v:Value) (w:World):Prop:=∃ b1:Nat,∃ u2:Value,∃ u3:Value,∃ u4:Value,∃ u5:Value,v=pointer (some ⟨b1,0,none⟩)∧St w0 [Cells b1 (([u2,u3,u4,u5]:List Value)) 74,Row 86 (K.int .i16) u2 r.Qcp,Row 2 (K.int .i64) u3 r.Qc2,Row 2 (K.int .i64) u4 r.QcB,Row 46 (K.int .u16) u5 r.QcJ] w
theorem QaD.seg0 {N:Nat} {a1:Qaf} {b2:Nat} {v3:Value} {b15:Nat} {v7:Value} {v9:Value} {v11:Value} {v13:Value} {w0:World} {r:Qbs} (hr4:RdRow (K.int .u16) w0 v3 a1.Qal) (hp0:w0.heap[b2]?=some (.cells ((([int .i8 a1.Qad,int .i8 a1.Qag,v3]:List Value)):List Value).toArray 27 (0,0))):
 ∀ t w,(fun t w=>∃ x245:(List Int),∃ x247:(List Int),∃ x249:(List Int),∃ x251:(List Int),QaD.a2 N x245 x247 x249 x251=some r∧Fr t (fun O=>(O 0::O 1::O 2::O 3::pointer (some ⟨b15,0,none⟩)::O 5::O 6::O 7::O 8::O 9::oT O 1 (oT O 2 (oT O 3 (oT O 4 (oT O 5 (oT O 6 (oT O 7 (oT O 8 (oT O 9 (oT O 10 (oT O 11 (oT O 12 (oT O 13 (oT O 14 (oT O 15 (oT O 16 ([])))))))))))))))):List Value))∧St w0 [Cells b15 (([v7,v9,v11,v13]:List Value)) 74,Row 86 (K.int .i16) v7 x245,Row 2 (K.int .i64) v9 x247,Row 2 (K.int .i64) v11 x249,Row 46 (K.int .u16) v13 x251] w) t w→G Tryz.prog 37 (fun e w=>∃ v,e= .returned v∧QaD.post w0 r v w) [.code (Code.at_ (Tryz.f37.body.getD .skip) [1,1,1,1,1,1,1,1,1])] t w:=by
 rintro t w ⟨x245,x247,x249,x251,H,hf,hs⟩
 obtain ⟨O,rfl⟩:=hf.open
 try dsimp only [oT]
 unfold QaD.a2 at H
 refine Qaj (Qan [0,1] rfl ?_)
 refine Qab (v:=pointer (some ⟨b15,0,none⟩)) rfl rfl rfl (g_d rfl ?_)
 refine Qab (v:=pointer (some ⟨b15,0,none⟩)) rfl rfl rfl (g_d rfl ?_)
 try dsimp only [Qah,Qai]
 refine Qac ?_
 obtain rfl:=QsJ H
 refine QaB Tryz.func37 (v:=pointer (some ⟨b15,0,none⟩)) (res1 rfl rfl) ?_
 have hs:=hs.pull 4 rfl
 have hs:=hs.pull 4 rfl
 have hs:=hs.pull 4 rfl
 have hs:=hs.pull 4 rfl
 have hs:=hs.pull 4 rfl
 have hs:St _ [_,_,_,_,_] _:=St.take (Γ':=[]) hs
 exact ⟨_,rfl,b15,v7,v9,v11,v13,rfl,hs⟩
end Go.Proofs.YtblbfnngmeoipaaGreatDoorX
