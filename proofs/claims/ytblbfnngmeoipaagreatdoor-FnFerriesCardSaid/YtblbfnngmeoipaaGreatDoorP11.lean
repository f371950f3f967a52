import Derived.Test.YtblbfnngmeoipaaGreatDoorP10
namespace Go.Proofs.YtblbfnngmeoipaaGreatDoorX
open Go Go.RowKit Go.Proofs
open Go.Value (int pointer bool agg slice string tuple)
set_option maxHeartbeats 8000000
set_option maxRecDepth 100000
set_option linter.unusedVariables false
set_option linter.unusedSimpArgs false
def Qbg.post (w0:World) (r:Int) (v:Value) (w:World):Prop:=v=int .i64 r∧St w0 [] w
theorem Qbg.calls {N:Nat} {a1:Qaf} {a4:Qak} {v2:Value} {w0:World} {r:Int} (hr3:RdRow (K.int .u16) w0 v2 a1.Qal) (H:Qbg.f N a1 a4=some r):
 Calls Tryz.prog 47 #[agg (([int .i8 a1.Qad,int .i8 a1.Qag,v2]:List Value)).toArray,agg (Qaa a4).toArray] w0 fun e w=>∃ v,e= .returned v∧Qbg.post w0 r v w:=by
 unfold Qbg.f at H
 have hs:St w0 [] w0:=St.refl w0
 refine calls_of_g (n:=15) Tryz.func47 rfl rfl ?_
 show G _ _ _ _ [_,_,_,_,_,_,_,_,_,_,_,_,_,_,_,_,_] _
 refine Qaj (Qan [0,1,2] rfl ?_)
 refine Qbw hs rfl rfl (cs:=(([int .i8 a1.Qad,int .i8 a1.Qag,v2]:List Value))) rfl rfl ?_
 intro b5 w hs
 refine Qbw hs rfl rfl (cs:=(Qaa a4)) rfl rfl ?_
 intro b7 w hs
 refine Qab (v:=int .i64 0) rfl rfl rfl ?_
 show G _ _ _ _ [_,_,_,_,_,_,_,_,_,_,_,_,_,_,_,_,_] _
 refine Qac (Qaj (Qaj (Qan [0,1] rfl ?_)))
 refine Qab (v:=pointer (some ⟨b7,1,none⟩)) rfl rfl rfl ?_
 by_cases hb2_:a4.Qbi=true
 ·
  rw [if_pos hb2_] at H
  refine Qaw rfl rfl (v:=bool true) rfl rfl (fun _=>rfl) (cells_load (hs.cells 0 rfl) 1 1 (Eq.trans (b:=[bool a4.Qbi]) rfl (congrArg (fun b=>[bool b]) hb2_))) (Qac (Qaq rfl (Qaj ?_)))
  obtain ⟨gd1,H⟩:=ite_get H
  refine QaV ?_
  intro T hT
  refine QbZ (n:=8) rfl [0,1,2,3,4,5,6,7] [0,1,2,3,4,5,6,7] rfl rfl (Inv:=fun D t w=>∃ O:Nat→Value,t=[agg (([int .i8 a1.Qad,int .i8 a1.Qag,v2]:List Value)).toArray,agg (Qaa a4).toArray,pointer (some ⟨b5,0,none⟩),pointer (some ⟨b7,0,none⟩),cnd (D 7) (int .i64 (i64w ((i64w a4.Qat)+(shlI .i64 1 a1.Qad)))) (int .i64 0),pointer (some ⟨b7,1,none⟩),bool true,cnd (D 0) (pointer (some ⟨b7,0,none⟩)) (O 7),cnd (D 1) (int .u16 a4.Qat) (O 8),cnd (D 2) (int .i64 (i64w a4.Qat)) (O 9),cnd (D 3) (pointer (some ⟨b5,0,none⟩)) (O 10),cnd (D 4) (int .i8 a1.Qad) (O 11),cnd (D 5) (int .i64 (shlI .i64 1 a1.Qad)) (O 12),cnd (D 6) (int .i64 (i64w ((i64w a4.Qat)+(shlI .i64 1 a1.Qad)))) (O 13),O 14,O 15,O 16]∧St w0 [Cells b7 (Qaa a4) 48,Cells b5 (([int .i8 a1.Qad,int .i8 a1.Qag,v2]:List Value)) 27] w) ?_ ⟨⟨⟨⟨⟨⟨⟨⟨trivial,?_⟩,?_⟩,?_⟩,?_⟩,?_⟩,?_⟩,?_⟩,?_⟩ ?_
  ·
   intro w hh hbw
   have hs:=hs.samew hh hbw
   exact ⟨fun i=>T.getD i undef,(by subst hT;rfl),hs⟩
  ·
   rintro D t w hD hp hcl ⟨O,ht,hs⟩ rest hk
   have q1_:=nz hcl 1 0 hD
   have q2_:=nz hcl 2 0 q1_
   have q6_:=nz hcl 6 0 q2_
   have q7_:=nz hcl 7 0 q6_
   simp only [hD,q1_,q2_,q6_,q7_,cq,oT] at ht hs
   subst ht
   refine Qab (v:=pointer (some ⟨b7,0,none⟩)) rfl rfl rfl ?_
   show G _ _ _ _ [_,_,_,_,_,_,_,_,_,_,_,_,_,_,_,_,_] _
   refine hk _ _ ⟨O,?_,hs.cast ?_⟩<;>simp only [oT,lq,cq,Nat.reduceBEq,q1_,q2_,q6_,q7_]
  ·
   rintro D t w hD hp hcl ⟨O,ht,hs⟩ rest hk
   obtain ⟨p0_,_⟩:=hp
   have q2_:=nz hcl 2 0 hD
   have q6_:=nz hcl 6 0 q2_
   have q7_:=nz hcl 7 0 q6_
   simp only [hD,p0_,q2_,q6_,q7_,cq,oT] at ht hs
   subst ht
   refine Qaw rfl rfl (v:=int .u16 a4.Qat) rfl rfl (fun _=>rfl) (cells_load (hs.cells 0 rfl) 0 1 rfl) ?_
   show G _ _ _ _ [_,_,_,_,_,_,_,_,_,_,_,_,_,_,_,_,_] _
   refine hk _ _ ⟨O,?_,hs.cast ?_⟩<;>simp only [oT,lq,cq,Nat.reduceBEq,p0_,q2_,q6_,q7_]
  ·
   rintro D t w hD hp hcl ⟨O,ht,hs⟩ rest hk
   obtain ⟨p1_,_⟩:=hp
   obtain ⟨p0_,_⟩:=(hcl.get 1 (by decide)) p1_
   have q6_:=nz hcl 6 0 hD
   have q7_:=nz hcl 7 0 q6_
   simp only [hD,p0_,p1_,q6_,q7_,cq,oT] at ht hs
   subst ht
   refine Qab (v:=int .i64 (i64w a4.Qat)) rfl rfl rfl ?_
   show G _ _ _ _ [_,_,_,_,_,_,_,_,_,_,_,_,_,_,_,_,_] _
   refine hk _ _ ⟨O,?_,hs.cast ?_⟩<;>simp only [oT,lq,cq,Nat.reduceBEq,p0_,p1_,q6_,q7_]
  ·
   rintro D t w hD hp hcl ⟨O,ht,hs⟩ rest hk
   have q4_:=nz hcl 4 0 hD
   have q5_:=nz hcl 5 0 q4_
   have q6_:=nz hcl 6 1 q5_
   have q7_:=nz hcl 7 0 q6_
   simp only [hD,q4_,q5_,q6_,q7_,cq,oT] at ht hs
   subst ht
   refine Qab (v:=pointer (some ⟨b5,0,none⟩)) rfl rfl rfl ?_
   show G _ _ _ _ [_,_,_,_,_,_,_,_,_,_,_,_,_,_,_,_,_] _
   refine hk _ _ ⟨O,?_,hs.cast ?_⟩<;>simp only [oT,lq,cq,Nat.reduceBEq,q4_,q5_,q6_,q7_]
  ·
   rintro D t w hD hp hcl ⟨O,ht,hs⟩ rest hk
   obtain ⟨p3_,_⟩:=hp
   have q5_:=nz hcl 5 0 hD
   have q6_:=nz hcl 6 1 q5_
   have q7_:=nz hcl 7 0 q6_
   simp only [hD,p3_,q5_,q6_,q7_,cq,oT] at ht hs
   subst ht
   refine Qaw rfl rfl (v:=int .i8 a1.Qad) rfl rfl (fun _=>rfl) (cells_load (hs.cells 1 rfl) 0 1 rfl) ?_
   show G _ _ _ _ [_,_,_,_,_,_,_,_,_,_,_,_,_,_,_,_,_] _
   refine hk _ _ ⟨O,?_,hs.cast ?_⟩<;>simp only [oT,lq,cq,Nat.reduceBEq,p3_,q5_,q6_,q7_]
  ·
   rintro D t w hD hp hcl ⟨O,ht,hs⟩ rest hk
   obtain ⟨p4_,_⟩:=hp
   obtain ⟨p3_,_⟩:=(hcl.get 4 (by decide)) p4_
   have q6_:=nz hcl 6 1 hD
   have q7_:=nz hcl 7 0 q6_
   simp only [hD,p3_,p4_,q6_,q7_,cq,oT] at ht hs
   subst ht
   refine Qab (v:=int .i64 (shlI .i64 1 a1.Qad)) rfl rfl (Qcx rfl rfl rfl gd1) ?_
   show G _ _ _ _ [_,_,_,_,_,_,_,_,_,_,_,_,_,_,_,_,_] _
   refine hk _ _ ⟨O,?_,hs.cast ?_⟩<;>simp only [oT,lq,cq,Nat.reduceBEq,p3_,p4_,q6_,q7_]
  ·
   rintro D t w hD hp hcl ⟨O,ht,hs⟩ rest hk
   obtain ⟨p2_,p5_,_⟩:=hp
   obtain ⟨p4_,_⟩:=(hcl.get 5 (by decide)) p5_
   obtain ⟨p3_,_⟩:=(hcl.get 4 (by decide)) p4_
   obtain ⟨p1_,_⟩:=(hcl.get 2 (by decide)) p2_
   obtain ⟨p0_,_⟩:=(hcl.get 1 (by decide)) p1_
   have q7_:=nz hcl 7 0 hD
   simp only [hD,p0_,p1_,p2_,p3_,p4_,p5_,q7_,cq,oT] at ht hs
   subst ht
   refine Qab (v:=int .i64 (i64w ((i64w a4.Qat)+(shlI .i64 1 a1.Qad)))) rfl rfl rfl ?_
   show G _ _ _ _ [_,_,_,_,_,_,_,_,_,_,_,_,_,_,_,_,_] _
   refine hk _ _ ⟨O,?_,hs.cast ?_⟩<;>simp only [oT,lq,cq,Nat.reduceBEq,p0_,p1_,p2_,p3_,p4_,p5_,q7_]
  ·
   rintro D t w hD hp hcl ⟨O,ht,hs⟩ rest hk
   obtain ⟨p6_,p0_,p1_,p2_,p3_,p4_,p5_,_,_⟩:=hp
   simp only [hD,p0_,p1_,p2_,p3_,p4_,p5_,p6_,cq,oT] at ht hs
   subst ht
   refine Qab (v:=int .i64 (i64w ((i64w a4.Qat)+(shlI .i64 1 a1.Qad)))) rfl rfl rfl ?_
   show G _ _ _ _ [_,_,_,_,_,_,_,_,_,_,_,_,_,_,_,_,_] _
   refine hk _ _ ⟨O,?_,hs.cast ?_⟩<;>simp only [oT,lq,cq,Nat.reduceBEq,p0_,p1_,p2_,p3_,p4_,p5_,p6_]
  intro D t w hall hI
  obtain ⟨O,ht,hs⟩:=hI
  have p0_:=hall 0 (by decide)
  have p1_:=hall 1 (by decide)
  have p2_:=hall 2 (by decide)
  have p3_:=hall 3 (by decide)
  have p4_:=hall 4 (by decide)
  have p5_:=hall 5 (by decide)
  have p6_:=hall 6 (by decide)
  have p7_:=hall 7 (by decide)
  simp only [p0_,p1_,p2_,p3_,p4_,p5_,p6_,p7_,cq,oT] at ht hs
  subst ht
  obtain rfl:=QsJ H
  refine QaB Tryz.func47 (v:=int .i64 (i64w ((i64w a4.Qat)+(shlI .i64 1 a1.Qad)))) (res1 rfl rfl) ?_
  have hs:St _ [] _:=St.take (Γ':=[_,_]) hs
  exact ⟨_,rfl,rfl,hs⟩
 rw [if_neg hb2_] at H
 refine Qaw rfl rfl (v:=bool false) rfl rfl (fun _=>rfl) (cells_load (hs.cells 0 rfl) 1 1 (Eq.trans (b:=[bool a4.Qbi]) rfl (congrArg (fun b=>[bool b]) (Bool.eq_false_iff.2 hb2_)))) (Qac (Qas rfl (QaK (Qaj (Qan [0,1,2,3] rfl ?_)))))
 refine Qab (v:=pointer (some ⟨b7,0,none⟩)) rfl rfl rfl ?_
 show G _ _ _ _ [_,_,_,_,_,_,_,_,_,_,_,_,_,_,_,_,_] _
 refine Qaw rfl rfl (v:=int .u16 a4.Qat) rfl rfl (fun _=>rfl) (cells_load (hs.cells 0 rfl) 0 1 rfl) ?_
 refine Qab (v:=int .i64 (i64w a4.Qat)) rfl rfl rfl ?_
 refine Qab (v:=int .i64 (i64w a4.Qat)) rfl rfl rfl ?_
 show G _ _ _ _ [_,_,_,_,_,_,_,_,_,_,_,_,_,_,_,_,_] _
 refine Qac ?_
 obtain rfl:=QsJ H
 refine QaB Tryz.func47 (v:=int .i64 (i64w a4.Qat)) (res1 rfl rfl) ?_
 have hs:St _ [] _:=St.take (Γ':=[_,_]) hs
 exact ⟨_,rfl,rfl,hs⟩
def Qa1.post (w0:World) (r:(List Int)) (v:Value) (w:World):Prop:=St w0 [Row 86 (K.int .i16) v r] w
theorem Qa1.calls {N:Nat} {a1:Qaf} {v2:Value} {w0:World} {r:(List Int)} (hr3:RdRow (K.int .u16) w0 v2 a1.Qal) (H:Qa1.f N a1=some r):
 Calls Tryz.prog 35 #[agg (([int .i8 a1.Qad,int .i8 a1.Qag,v2]:List Value)).toArray] w0 fun e w=>∃ v,e= .returned v∧Qa1.post w0 r v w:=by
 unfold Qa1.f at H
 have hs:St w0 [] w0:=St.refl w0
 refine calls_of_g (n:=28) Tryz.func35 rfl rfl ?_
 show G _ _ _ _ [_,_,_,_,_,_,_,_,_,_,_,_,_,_,_,_,_,_,_,_,_,_,_,_,_,_,_,_,_] _
 refine Qaj (Qan [0,1] rfl ?_)
 refine Qbw hs rfl rfl (cs:=(([int .i8 a1.Qad,int .i8 a1.Qag,v2]:List Value))) rfl rfl ?_
 intro b4 w hs
 refine Qab (v:=slice none 0 0) rfl rfl rfl ?_
 show G _ _ _ _ [_,_,_,_,_,_,_,_,_,_,_,_,_,_,_,_,_,_,_,_,_,_,_,_,_,_,_,_,_] _
 refine Qac (Qaj (Qan [0,1,2,3,4,5] rfl ?_))
 refine Qcq (fkI .i16) (y:=(-1)) hs rfl rfl rfl rfl (fun _=>rfl) (zv:=(int .i16 0)) (fun _=>rfl) rfl (by decide) (by decide) rfl ?_
 intro v6 w hs
 refine Qab (v:=pointer (some ⟨b4,0,none⟩)) rfl rfl rfl ?_
 refine Qaw rfl rfl (v:=int .i8 a1.Qad) rfl rfl (fun _=>rfl) (cells_load (hs.cells 1 rfl) 0 1 rfl) ?_
 obtain ⟨g1,H⟩:=ite_get H
 refine Qab (v:=int .i64 (shlI .i64 2 a1.Qad)) rfl rfl (Qcx rfl rfl rfl g1) ?_
 show G _ _ _ _ [_,_,_,_,_,_,_,_,_,_,_,_,_,_,_,_,_,_,_,_,_,_,_,_,_,_,_,_,_] _
 obtain ⟨r8,Hr8,H⟩:=bind_get H
 refine Qaz (args:=[v6,int .i64 (shlI .i64 2 a1.Qad)]) rfl rfl (QaA rfl (callFunc_enter Tryz.func72 rfl rfl) rfl) (QaO.calls (a1:=[(-1)]) (a3:=shlI .i64 2 a1.Qad) (hs.row 0 rfl) Hr8) ?_
 intro v9 w hs2
 have hs:St _ [_,_,_] _:=hs.call hs2
 refine Qab (v:=v9) rfl rfl rfl (Qac (Qaj (Qaj (Qan [0,1,2,3] rfl ?_))))
 refine QaF rfl rfl (es:=(([int .i8 a1.Qad,int .i8 a1.Qag,v2]:List Value))) rfl rfl (fun _=>rfl) (n:=3) (fun _=>rfl) rfl (cells_all (hs.cells 2 rfl)) ?_
 show G _ _ _ _ [_,_,_,_,_,_,_,_,_,_,_,_,_,_,_,_,_,_,_,_,_,_,_,_,_,_,_,_,_] _
 obtain ⟨r11,Hr11,H⟩:=bind_get H
 refine Qaz (args:=[agg (([int .i8 a1.Qad,int .i8 a1.Qag,v2]:List Value)).toArray]) rfl rfl (QaA rfl (callFunc_enter Tryz.func39 rfl rfl) rfl) (Qau.calls (a1:=(⟨a1.Qad,a1.Qag,a1.Qal⟩:Qaf)) (hs.rd hr3) Hr11) ?_
 intro v12 w hs2
 have hs:St _ [_,_,_,_] _:=hs.call hs2
 refine QbC (hs.row 0 rfl) rfl rfl rfl rfl rfl ?_
 refine Qab (v:=int .i64 0) rfl rfl rfl (Qac ?_)
 obtain ⟨o1_,Ho,Hr1_⟩:=bind_get H
 refine QaR (J:=fun t w=>∃ x25:(List Int),Qa1.a0 N x25=some r∧Fr t (fun O=>([O 0,O 1,O 2,v9,O 4,O 5,O 6,O 7,O 8,O 9,O 10,O 11,O 12,O 13,O 14,O 15,O 16,O 17,O 18,O 19,O 20,O 21,O 22,O 23,O 24,O 25,O 26,O 27,O 28]:List Value))∧St w0 [Row 86 (K.int .i16) v9 x25] w) ?_ ?_
 ·
  rintro t w ⟨x25,H,hf,hs⟩
  obtain ⟨O,rfl⟩:=hf.open
  show G _ _ _ _ [_,_,_,_,_,_,_,_,_,_,_,_,_,_,_,_,_,_,_,_,_,_,_,_,_,_,_,_,_] _
  unfold Qa1.a0 at H
  refine Qaj (Qan [0,1] rfl ?_)
  refine Qab (v:=v9) rfl rfl rfl ?_
  refine Qab (v:=v9) rfl rfl rfl ?_
  show G _ _ _ _ [_,_,_,_,_,_,_,_,_,_,_,_,_,_,_,_,_,_,_,_,_,_,_,_,_,_,_,_,_] _
  refine Qac ?_
  obtain rfl:=QsJ H
  refine QaB Tryz.func35 (v:=v9) (res1 rfl rfl) ?_
  have hs:=hs.pull 0 rfl
  have hs:St _ [_] _:=St.take (Γ':=[]) hs
  exact ⟨_,rfl,hs⟩
 intro ha1_
 have hs:=hs.pull 0 rfl
 have hs:=hs.pull 1 rfl
 have hs:=hs.pull 3 rfl
 have hs:St _ [_,_,_] _:=St.take (Γ':=[_]) hs
 refine Qba (I:=fun n_ t w=>∃ x19:(List Int),∃ x20:Int,rounds (fun s=>Qa1.b0 N r11 a1 s.1 s.2) n_ (x19,x20)=some o1_∧Fr t (fun O=>([O 0,pointer (some ⟨b4,0,none⟩),O 2,v9,O 4,O 5,O 6,O 7,O 8,O 9,O 10,O 11,v12,int .i64 (r11.length:Int),int .i64 x20,O 15,O 16,O 17,O 18,O 19,O 20,O 21,O 22,O 23,O 24,O 25,O 26,O 27,O 28]:List Value))∧St w0 [Cells b4 (([int .i8 a1.Qad,int .i8 a1.Qag,v2]:List Value)) 27,Row 86 (K.int .i16) v9 x19,Row 82 Qa5 v12 r11] w) N ⟨r8,0,Ho,rfl,hs⟩ ?_ ?_
 ·
  rintro _ _ ⟨x19,x20,h,_⟩
  exact rounds_zero h
 intro n_ ih1_
 rintro t w ⟨x19,x20,Ho,hf,hs⟩
 obtain ⟨O,rfl⟩:=hf.open
 show G _ _ _ _ [_,_,_,_,_,_,_,_,_,_,_,_,_,_,_,_,_,_,_,_,_,_,_,_,_,_,_,_,_] _
 obtain ⟨x8_,H,Hx1_⟩:=rounds_succ Ho
 have H:Qa1.b0 N r11 a1 x19 x20=some x8_:=H
 unfold Qa1.b0 at H
 refine Qaj (Qan [0] rfl ?_)
 refine QaI (B:=decide (x20< (r11.length:Int))) rfl rfl rfl ?_ ?_
 ·
  intro hb
  rw [if_pos (b_dec_t hb)] at H
  refine Qac (Qaj (Qaq rfl (QaK (Qaj ?_))))
  refine QbG (Qaj (Qan [0,1,2,3] rfl ?_))
  obtain ⟨g5,H⟩:=ite_get H
  refine QbQ Qa6 Qap (hs.row 2 rfl) rfl (fun _=>rfl) g5.1 g5.2 rfl rfl rfl rfl rfl ?_
  intro p21 hp21 lp21 op21
  refine QaF rfl rfl (es:=(QaE (rdL r11 x20 Qap))) rfl rfl (fun _=>rfl) (n:=5) (fun _=>rfl) (Qa6.len _) hp21 ?_
  show G _ _ _ _ [_,_,_,_,_,_,_,_,_,_,_,_,_,_,_,_,_,_,_,_,_,_,_,_,_,_,_,_,_] _
  refine QbI hs rfl rfl (z:=(agg #[int .u16 0,bool false,int .i64 0,int .u16 0,int .i64 0])) (cs:=(QaE Qap)) rfl (fun _=>rfl) rfl ?_
  intro b22 w hs
  refine QaY (n:=5) hs (Qa6.len _) rfl rfl (vs:=(QaE (rdL r11 x20 Qap))) rfl rfl rfl (fun _=>rfl) (Qa6.len _) (Qa6.one _) ?_
  intro w hs
  refine Qac ?_
  obtain ⟨r24,Hr24,H⟩:=bind_get H
  obtain ⟨gd6,H⟩:=ite_get H
  obtain ⟨ad7_,ad7_N,ad7_C,had7_⟩:=sl_at (hs.row 2 rfl) gd6.1 gd6.2
  refine QaV ?_
  intro T hT
  refine QbZ (n:=10) rfl [0,1,2,3,4,5,6,7,8,9] [0,1,2,3,4,5,6,7,8,9] rfl rfl (Inv:=fun D t w=>∃ O:Nat→Value,t=[O 0,pointer (some ⟨b4,0,none⟩),O 2,v9,O 4,pointer (some ⟨b22,0,none⟩),O 6,O 7,O 8,O 9,O 10,O 11,v12,int .i64 (r11.length:Int),int .i64 x20,bool true,pointer (some p21),agg (QaE (rdL r11 x20 Qap)).toArray,cnd (D 0) v9 (O 18),cnd (D 1) (agg (([int .i8 a1.Qad,int .i8 a1.Qag,v2]:List Value)).toArray) (O 19),cnd (D 2) (pointer (some ⟨b22,0,none⟩)) (O 20),cnd (D 3) (agg (Qaa ((rdL r11 x20 Qap).Qax)).toArray) (O 21),cnd (D 4) (int .i64 r24) (O 22),cnd (D 5) (pointer (some ⟨b22,4,none⟩)) (O 23),cnd (D 6) (int .i64 ((rdL r11 x20 Qap).QaQ)) (O 24),cnd (D 7) (int .i16 (i16w ((rdL r11 x20 Qap).QaQ))) (O 25),cnd (D 8) (pointer (some (ad7_.add (r24.toNat*1)))) (O 26),O 27,O 28]∧St w0 [Cells b22 (QaE (rdL r11 x20 Qap)) 82,Cells b4 (([int .i8 a1.Qad,int .i8 a1.Qag,v2]:List Value)) 27,Row 86 (K.int .i16) (cnd (D 9) v9 v9) (cnd (D 9) (stL x19 r24 (i16w ((rdL r11 x20 Qap).QaQ))) x19),Row 82 Qa5 v12 r11] w) ?_ ⟨⟨⟨⟨⟨⟨⟨⟨⟨⟨trivial,?_⟩,?_⟩,?_⟩,?_⟩,?_⟩,?_⟩,?_⟩,?_⟩,?_⟩,?_⟩ ?_
  ·
   intro w hh hbw
   have hs:=hs.samew hh hbw
   exact ⟨fun i=>T.getD i undef,(by subst hT;rfl),hs⟩
  ·
   rintro D t w hD hp hcl ⟨O,ht,hs⟩ rest hk
   have q8_:=nz hcl 8 0 hD
   have q9_:=nz hcl 9 0 q8_
   simp only [hD,q8_,q9_,cq,oT] at ht hs
   subst ht
   refine Qab (v:=v9) rfl rfl rfl ?_
   show G _ _ _ _ [_,_,_,_,_,_,_,_,_,_,_,_,_,_,_,_,_,_,_,_,_,_,_,_,_,_,_,_,_] _
   refine hk _ _ ⟨O,?_,hs.cast ?_⟩<;>simp only [oT,lq,cq,Nat.reduceBEq,q8_,q9_]
  ·
   rintro D t w hD hp hcl ⟨O,ht,hs⟩ rest hk
   have q4_:=nz hcl 4 0 hD
   have q8_:=nz hcl 8 1 q4_
   have q9_:=nz hcl 9 0 q8_
   simp only [hD,q4_,q8_,q9_,cq,oT] at ht hs
   subst ht
   refine QaF rfl rfl (es:=(([int .i8 a1.Qad,int .i8 a1.Qag,v2]:List Value))) rfl rfl (fun _=>rfl) (n:=3) (fun _=>rfl) rfl (cells_all (hs.cells 1 rfl)) ?_
   show G _ _ _ _ [_,_,_,_,_,_,_,_,_,_,_,_,_,_,_,_,_,_,_,_,_,_,_,_,_,_,_,_,_] _
   refine hk _ _ ⟨O,?_,hs.cast ?_⟩<;>simp only [oT,lq,cq,Nat.reduceBEq,q4_,q8_,q9_]
  ·
   rintro D t w hD hp hcl ⟨O,ht,hs⟩ rest hk
   have q3_:=nz hcl 3 0 hD
   have q4_:=nz hcl 4 1 q3_
   have q8_:=nz hcl 8 1 q4_
   have q9_:=nz hcl 9 0 q8_
   simp only [hD,q3_,q4_,q8_,q9_,cq,oT] at ht hs
   subst ht
   refine Qab (v:=pointer (some ⟨b22,0,none⟩)) rfl rfl rfl ?_
   show G _ _ _ _ [_,_,_,_,_,_,_,_,_,_,_,_,_,_,_,_,_,_,_,_,_,_,_,_,_,_,_,_,_] _
   refine hk _ _ ⟨O,?_,hs.cast ?_⟩<;>simp only [oT,lq,cq,Nat.reduceBEq,q3_,q4_,q8_,q9_]
  ·
   rintro D t w hD hp hcl ⟨O,ht,hs⟩ rest hk
   obtain ⟨p2_,_⟩:=hp
   have q4_:=nz hcl 4 1 hD
   have q8_:=nz hcl 8 1 q4_
   have q9_:=nz hcl 9 0 q8_
   simp only [hD,p2_,q4_,q8_,q9_,cq,oT] at ht hs
   subst ht
   refine QaF rfl rfl (es:=(Qaa ((rdL r11 x20 Qap).Qax))) rfl rfl (fun _=>rfl) (n:=2) (fun _=>rfl) (Qam.len _) (cells_load (hs.cells 0 rfl) 0 2 (by simp only [QaE];first|rfl|exact List.take_of_length_le (Nat.le_of_eq (Qam.len _))|simp [List.drop_append,List.take_append,encAI_len,encAB_len,encA_len,List.take_of_length_le])) ?_
   show G _ _ _ _ [_,_,_,_,_,_,_,_,_,_,_,_,_,_,_,_,_,_,_,_,_,_,_,_,_,_,_,_,_] _
   refine hk _ _ ⟨O,?_,hs.cast ?_⟩<;>simp only [oT,lq,cq,Nat.reduceBEq,p2_,q4_,q8_,q9_]
  ·
   rintro D t w hD hp hcl ⟨O,ht,hs⟩ rest hk
   obtain ⟨p1_,p3_,_⟩:=hp
   obtain ⟨p2_,_⟩:=(hcl.get 3 (by decide)) p3_
   have q8_:=nz hcl 8 1 hD
   have q9_:=nz hcl 9 0 q8_
   simp only [hD,p1_,p2_,p3_,q8_,q9_,cq,oT] at ht hs
   subst ht
   refine Qaz (args:=[agg (([int .i8 a1.Qad,int .i8 a1.Qag,v2]:List Value)).toArray,agg (Qaa ((rdL r11 x20 Qap).Qax)).toArray]) rfl rfl (QaA rfl (callFunc_enter Tryz.func47 rfl rfl) rfl) (Qbg.calls (a1:=(⟨a1.Qad,a1.Qag,a1.Qal⟩:Qaf)) (a4:=(rdL r11 x20 Qap).Qax) (hs.rd hr3) Hr24) ?_
   rintro _ w ⟨rfl,hs2⟩
   have hs:St _ [_,_,_,_] _:=hs.call hs2
   show G _ _ _ _ [_,_,_,_,_,_,_,_,_,_,_,_,_,_,_,_,_,_,_,_,_,_,_,_,_,_,_,_,_] _
   refine hk _ _ ⟨O,?_,hs.cast ?_⟩<;>simp only [oT,lq,cq,Nat.reduceBEq,p1_,p2_,p3_,q8_,q9_]
  ·
   rintro D t w hD hp hcl ⟨O,ht,hs⟩ rest hk
   have q6_:=nz hcl 6 0 hD
   have q7_:=nz hcl 7 0 q6_
   have q8_:=nz hcl 8 7 hD
   have q9_:=nz hcl 9 0 q8_
   simp only [hD,q6_,q7_,q8_,q9_,cq,oT] at ht hs
   subst ht
   refine Qab (v:=pointer (some ⟨b22,4,none⟩)) rfl rfl rfl ?_
   show G _ _ _ _ [_,_,_,_,_,_,_,_,_,_,_,_,_,_,_,_,_,_,_,_,_,_,_,_,_,_,_,_,_] _
   refine hk _ _ ⟨O,?_,hs.cast ?_⟩<;>simp only [oT,lq,cq,Nat.reduceBEq,q6_,q7_,q8_,q9_]
  ·
   rintro D t w hD hp hcl ⟨O,ht,hs⟩ rest hk
   obtain ⟨p5_,_⟩:=hp
   have q7_:=nz hcl 7 0 hD
   have q8_:=nz hcl 8 8 hD
   have q9_:=nz hcl 9 0 q8_
   simp only [hD,p5_,q7_,q8_,q9_,cq,oT] at ht hs
   subst ht
   refine Qaw rfl rfl (v:=int .i64 ((rdL r11 x20 Qap).QaQ)) rfl rfl (fun _=>rfl) (cells_load (hs.cells 0 rfl) 4 1 (by first|rfl|(simp only [QaE];simp [List.drop_append,List.take_append,encAI_len,encAB_len,List.take_of_length_le]))) ?_
   show G _ _ _ _ [_,_,_,_,_,_,_,_,_,_,_,_,_,_,_,_,_,_,_,_,_,_,_,_,_,_,_,_,_] _
   refine hk _ _ ⟨O,?_,hs.cast ?_⟩<;>simp only [oT,lq,cq,Nat.reduceBEq,p5_,q7_,q8_,q9_]
  ·
   rintro D t w hD hp hcl ⟨O,ht,hs⟩ rest hk
   obtain ⟨p6_,_⟩:=hp
   obtain ⟨p5_,_⟩:=(hcl.get 6 (by decide)) p6_
   have q8_:=nz hcl 8 9 hD
   have q9_:=nz hcl 9 0 q8_
   simp only [hD,p5_,p6_,q8_,q9_,cq,oT] at ht hs
   subst ht
   refine Qab (v:=int .i16 (i16w ((rdL r11 x20 Qap).QaQ))) rfl rfl rfl ?_
   show G _ _ _ _ [_,_,_,_,_,_,_,_,_,_,_,_,_,_,_,_,_,_,_,_,_,_,_,_,_,_,_,_,_] _
   refine hk _ _ ⟨O,?_,hs.cast ?_⟩<;>simp only [oT,lq,cq,Nat.reduceBEq,p5_,p6_,q8_,q9_]
  ·
   rintro D t w hD hp hcl ⟨O,ht,hs⟩ rest hk
   obtain ⟨p0_,p4_,_,p1_,p2_,p3_,_,p5_,p6_,p7_,_⟩:=hp
   have q9_:=nz hcl 9 0 hD
   simp only [hD,p0_,p1_,p2_,p3_,p4_,p5_,p6_,p7_,q9_,cq,oT] at ht hs
   subst ht
   refine QbJ (κ:=(K.int .i16)) (m:=1) rfl (hs.row 2 rfl) rfl (fun _=>rfl) gd6.1 gd6.2 had7_ rfl rfl rfl rfl rfl ?_
   show G _ _ _ _ [_,_,_,_,_,_,_,_,_,_,_,_,_,_,_,_,_,_,_,_,_,_,_,_,_,_,_,_,_] _
   refine hk _ _ ⟨O,?_,hs.cast ?_⟩<;>simp only [oT,lq,cq,Nat.reduceBEq,p0_,p1_,p2_,p3_,p4_,p5_,p6_,p7_,q9_]
  ·
   rintro D t w hD hp hcl ⟨O,ht,hs⟩ rest hk
   obtain ⟨p8_,p7_,p4_,p0_,p1_,p2_,p3_,_,p5_,p6_,_,_⟩:=hp
   simp only [hD,p0_,p1_,p2_,p3_,p4_,p5_,p6_,p7_,p8_,cq,oT] at ht hs
   subst ht
   have hs:St _ [_,_,_,_] _:=hs.pull 2 rfl
   refine Qct (y:=i16w ((rdL r11 x20 Qap).QaQ)) (fkI .i16) gd6.1 gd6.2 (hown_of had7_) hs rfl rfl rfl rfl rfl (fun _=>rfl) ?_
   intro w hs
   show G _ _ _ _ [_,_,_,_,_,_,_,_,_,_,_,_,_,_,_,_,_,_,_,_,_,_,_,_,_,_,_,_,_] _
   have hs:=hs.push 2 (by simp)
   refine hk _ _ ⟨O,?_,hs.cast ?_⟩<;>simp only [oT,lq,cq,Nat.reduceBEq,p0_,p1_,p2_,p3_,p4_,p5_,p6_,p7_,p8_]
  intro D t w hall hI
  obtain ⟨O,ht,hs⟩:=hI
  have p0_:=hall 0 (by decide)
  have p1_:=hall 1 (by decide)
  have p2_:=hall 2 (by decide)
  have p3_:=hall 3 (by decide)
  have p4_:=hall 4 (by decide)
  have p5_:=hall 5 (by decide)
  have p6_:=hall 6 (by decide)
  have p7_:=hall 7 (by decide)
  have p8_:=hall 8 (by decide)
  have p9_:=hall 9 (by decide)
  simp only [p0_,p1_,p2_,p3_,p4_,p5_,p6_,p7_,p8_,p9_,cq,oT] at ht hs
  subst ht
  refine Qa0 (Qan [0,1] rfl ?_)
  refine Qab (v:=int .i64 (i64w (x20+1))) rfl rfl rfl ?_
  refine Qab (v:=int .i64 (i64w (x20+1))) rfl rfl rfl (Qac ?_)
  obtain rfl:=QsJ H
  have hs:=hs.pull 3 rfl
  have hs:=hs.pull 3 rfl
  have hs:=hs.pull 3 rfl
  have hs:St _ [_,_,_] _:=St.take (Γ':=[_]) hs
  exact ih1_ _ _ ⟨stL x19 r24 (i16w ((rdL r11 x20 Qap).QaQ)),i64w (x20+1),Hx1_,rfl,hs⟩
 intro hb
 rw [if_neg (b_dec_f hb)] at H
 show G _ _ _ _ [_,_,_,_,_,_,_,_,_,_,_,_,_,_,_,_,_,_,_,_,_,_,_,_,_,_,_,_,_] _
 refine Qac (Qaj (Qas rfl ?_))
 obtain rfl:=QsJ H
 subst Hx1_
 have hs:=hs.pull 1 rfl
 have hs:St _ [_] _:=St.take (Γ':=[_,_]) hs
 refine QbE rfl ?_
 exact ha1_ _ _ ⟨x19,Hr1_,rfl,hs⟩
def QbM.post (w0:World) (r:((List Int)×Int)) (v:Value) (w:World):Prop:=∃ u1:Value,v=tuple #[u1,int .i64 r.2]∧St w0 [Row 86 (K.int .i16) u1 r.1] w
theorem QbM.calls {N:Nat} {a1:Qaf} {v2:Value} {w0:World} {r:((List Int)×Int)} (hr3:RdRow (K.int .u16) w0 v2 a1.Qal) (H:QbM.f N a1=some r):
 Calls Tryz.prog 8 #[agg (([int .i8 a1.Qad,int .i8 a1.Qag,v2]:List Value)).toArray] w0 fun e w=>∃ v,e= .returned v∧QbM.post w0 r v w:=by
 unfold QbM.f at H
 have hs:St w0 [] w0:=St.refl w0
 refine calls_of_g (n:=8) Tryz.func8 rfl rfl ?_
 show G _ _ _ _ [_,_,_,_,_,_,_,_,_] _
 refine Qaj (Qan [0,1,2] rfl ?_)
 refine Qbw hs rfl rfl (cs:=(([int .i8 a1.Qad,int .i8 a1.Qag,v2]:List Value))) rfl rfl ?_
 intro b4 w hs
 refine Qab (v:=slice none 0 0) rfl rfl rfl ?_
 refine Qab (v:=int .i64 0) rfl rfl rfl ?_
 show G _ _ _ _ [_,_,_,_,_,_,_,_,_] _
 refine Qac (Qaj (Qaj (Qan [0,1,2] rfl ?_)))
 refine QaF rfl rfl (es:=(([int .i8 a1.Qad,int .i8 a1.Qag,v2]:List Value))) rfl rfl (fun _=>rfl) (n:=3) (fun _=>rfl) rfl (cells_all (hs.cells 0 rfl)) ?_
 obtain ⟨r6,Hr6,H⟩:=bind_get H
 refine Qaz (args:=[agg (([int .i8 a1.Qad,int .i8 a1.Qag,v2]:List Value)).toArray]) rfl rfl (QaA rfl (callFunc_enter Tryz.func17 rfl rfl) rfl) (QaX.calls (a1:=(⟨a1.Qad,a1.Qag,a1.Qal⟩:Qaf)) (hs.rd hr3) Hr6) ?_
 rintro _ w ⟨rfl,hs2⟩
 have hs:St _ [_] _:=hs.call hs2
 cases r6 with
 |true=>
  rw [if_pos rfl] at H
  refine Qab (v:=bool false) rfl rfl rfl ?_
  show G _ _ _ _ [_,_,_,_,_,_,_,_,_] _
  refine Qac (Qas rfl (QaK (Qaj (Qan [0,1,2,3] rfl ?_))))
  refine QaF rfl rfl (es:=(([int .i8 a1.Qad,int .i8 a1.Qag,v2]:List Value))) rfl rfl (fun _=>rfl) (n:=3) (fun _=>rfl) rfl (cells_all (hs.cells 0 rfl)) ?_
  obtain ⟨r7,Hr7,H⟩:=bind_get H
  refine Qaz (args:=[agg (([int .i8 a1.Qad,int .i8 a1.Qag,v2]:List Value)).toArray]) rfl rfl (QaA rfl (callFunc_enter Tryz.func35 rfl rfl) rfl) (Qa1.calls (a1:=(⟨a1.Qad,a1.Qag,a1.Qal⟩:Qaf)) (hs.rd hr3) Hr7) ?_
  intro v8 w hs2
  have hs:St _ [_,_] _:=hs.call hs2
  refine Qab (v:=v8) rfl rfl rfl ?_
  show G _ _ _ _ [_,_,_,_,_,_,_,_,_] _
  refine Qab (v:=int .i64 0) rfl rfl rfl (Qac ?_)
  obtain rfl:=QsJ H
  refine QaB Tryz.func8 (v:=tuple #[v8,int .i64 0]) (resN (l:=Tryz.f8.results.toList) (vs:=[v8,int .i64 0]) rfl ⟨rfl,rfl,trivial⟩ (by simp)) ?_
  have hs:=hs.pull 0 rfl
  have hs:St _ [_] _:=St.take (Γ':=[_]) hs
  exact ⟨_,rfl,v8,rfl,hs⟩
 |false=>
  rw [if_neg Bool.false_ne_true] at H
  refine Qab (v:=bool true) rfl rfl rfl ?_
  show G _ _ _ _ [_,_,_,_,_,_,_,_,_] _
  refine Qac (Qaq rfl (Qaj (Qan [0,1] rfl ?_)))
  refine Qab (v:=slice none 0 0) rfl rfl rfl ?_
  refine Qab (v:=int .i64 1) rfl rfl rfl (Qac ?_)
  obtain rfl:=QsJ H
  refine QaB Tryz.func8 (v:=tuple #[slice none 0 0,int .i64 1]) (resN (l:=Tryz.f8.results.toList) (vs:=[slice none 0 0,int .i64 1]) rfl ⟨rfl,rfl,trivial⟩ (by simp)) ?_
  have hs:=hs.nil 86 (K.int .i16)
  have hs:=hs.pull 0 rfl
  have hs:St _ [_] _:=St.take (Γ':=[_]) hs
  exact ⟨_,rfl,(slice none 0 0),rfl,hs⟩
def Qch.post (w0:World) (r:Bool) (v:Value) (w:World):Prop:=v=bool r∧St w0 [] w
theorem Qch.calls {N:Nat} {a1:Int} {a2:Int} {a3:Int} {w0:World} {r:Bool} (H:Qch.f N a1 a2 a3=some r):
 Calls Tryz.prog 73 #[int .i64 a1,int .i64 a2,int .i64 a3] w0 fun e w=>∃ v,e= .returned v∧Qch.post w0 r v w:=by
 unfold Qch.f at H
 have hs:St w0 [] w0:=St.refl w0
 refine calls_of_g (n:=12) Tryz.func73 rfl rfl ?_
 show G _ _ _ _ [_,_,_,_,_,_,_,_,_,_,_,_,_,_,_] _
 refine Qaj (Qan [0] rfl ?_)
 refine Qab (v:=bool false) rfl rfl rfl (Qac (Qaj (Qan [0,1,2,3,4,5,6,7,8] rfl ?_)))
 refine Qab (v:=int .i64 a1) rfl rfl rfl ?_
 show G _ _ _ _ [_,_,_,_,_,_,_,_,_,_,_,_,_,_,_] _
 refine Qab (v:=int .i64 a2) rfl rfl rfl ?_
 refine QaI (B:=decide (a1≥a2)) rfl rfl rfl ?_ ?_
 ·
  intro hb
  rw [if_pos (b_dec_t hb)] at H
  show G _ _ _ _ [_,_,_,_,_,_,_,_,_,_,_,_,_,_,_] _
  refine Qab (v:=bool true) rfl rfl rfl ?_
  refine Qab (v:=int .i64 a1) rfl rfl rfl ?_
  refine Qab (v:=int .i64 a3) rfl rfl rfl ?_
  show G _ _ _ _ [_,_,_,_,_,_,_,_,_,_,_,_,_,_,_] _
  refine Qab (v:=bool (decide (a1≤a3))) rfl rfl rfl ?_
  refine Qab (v:=bool (decide (a1≤a3))) rfl rfl rfl ?_
  refine Qab (v:=bool (decide (a1≤a3))) rfl rfl rfl ?_
  show G _ _ _ _ [_,_,_,_,_,_,_,_,_,_,_,_,_,_,_] _
  refine Qac ?_
  obtain rfl:=QsJ H
  refine QaB Tryz.func73 (v:=bool (decide (a1≤a3))) (res1 rfl rfl) ?_
  have hs:St _ [] _:=St.take (Γ':=[]) hs
  exact ⟨_,rfl,rfl,hs⟩
 intro hb
 rw [if_neg (b_dec_f hb)] at H
 refine Qab (v:=bool false) rfl rfl rfl ?_
 show G _ _ _ _ [_,_,_,_,_,_,_,_,_,_,_,_,_,_,_] _
 refine Qae rfl rfl (Qae rfl rfl (Qae rfl rfl ?_))
 show G _ _ _ _ [_,_,_,_,_,_,_,_,_,_,_,_,_,_,_] _
 refine Qab (v:=bool false) rfl rfl rfl ?_
 refine Qab (v:=bool false) rfl rfl rfl (Qac ?_)
 obtain rfl:=QsJ H
 refine QaB Tryz.func73 (v:=bool false) (res1 rfl rfl) ?_
 have hs:St _ [] _:=St.take (Γ':=[]) hs
 exact ⟨_,rfl,rfl,hs⟩
def Qbp.post (w0:World) (r:Int) (v:Value) (w:World):Prop:=v=int .u16 r∧St w0 [] w
theorem Qbp.calls {N:Nat} {a1:Qaf} {b2:Nat} {v3:Value} {w0:World} {r:Int} (hr4:RdRow (K.int .u16) w0 v3 a1.Qal) (hp0:w0.heap[b2]?=some (.cells ((([int .i8 a1.Qad,int .i8 a1.Qag,v3]:List Value)):List Value).toArray 27 (0,0))) (H:Qbp.f N a1=some r):
 Calls Tryz.prog 74 #[pointer (some ⟨b2,0,none⟩)] w0 fun e w=>∃ v,e= .returned v∧Qbp.post w0 r v w:=by
 unfold Qbp.f at H
 have hs:St w0 [] w0:=St.refl w0
 refine calls_of_g (n:=9) Tryz.func74 rfl rfl ?_
 show G _ _ _ _ [_,_,_,_,_,_,_,_,_,_] _
 refine Qaj (Qan [0] rfl ?_)
 refine Qab (v:=int .u16 0) rfl rfl rfl ?_
 show G _ _ _ _ [_,_,_,_,_,_,_,_,_,_] _
 refine Qac (Qaj (Qan [0,1,2,3,4,5,6,7] rfl ?_))
 refine Qab (v:=pointer (some ⟨b2,0,none⟩)) rfl rfl rfl ?_
 refine Qab (v:=pointer (some ⟨b2,0,none⟩)) rfl rfl rfl ?_
 refine Qab (v:=pointer (some ⟨b2,0,none⟩)) rfl rfl rfl ?_
 show G _ _ _ _ [_,_,_,_,_,_,_,_,_,_] _
 refine Qaw rfl rfl (v:=int .i8 a1.Qad) rfl rfl (fun _=>rfl) (cells_load (hs.box hp0) 0 1 rfl) ?_
 refine Qab (v:=int .u64 (u64w a1.Qad)) rfl rfl rfl ?_
 obtain ⟨g1,H⟩:=ite_get H
 refine Qab (v:=int .u16 (shlI .u16 1 (u64w a1.Qad))) rfl rfl (Qcx rfl rfl rfl g1) ?_
 show G _ _ _ _ [_,_,_,_,_,_,_,_,_,_] _
 refine Qab (v:=int .u16 (u16w ((shlI .u16 1 (u64w a1.Qad)) - 1))) rfl rfl rfl ?_
 refine Qab (v:=int .u16 (u16w ((shlI .u16 1 (u64w a1.Qad)) - 1))) rfl rfl rfl (Qac ?_)
 obtain rfl:=QsJ H
 refine QaB Tryz.func74 (v:=int .u16 (u16w ((shlI .u16 1 (u64w a1.Qad)) - 1))) (res1 rfl rfl) ?_
 have hs:St _ [] _:=St.take (Γ':=[]) hs
 exact ⟨_,rfl,rfl,hs⟩
def Qbk.post (w0:World) (r:Int) (v:Value) (w:World):Prop:=v=int .i64 r∧St w0 [] w
theorem Qbk.calls {N:Nat} {a1:Int} {w0:World} {r:Int} (H:Qbk.f N a1=some r):
 Calls Tryz.prog 61 #[int .u16 a1] w0 fun e w=>∃ v,e= .returned v∧Qbk.post w0 r v w:=by
 unfold Qbk.f at H
 have hs:St w0 [] w0:=St.refl w0
 refine calls_of_g (n:=13) Tryz.func61 rfl rfl ?_
 show G _ _ _ _ [_,_,_,_,_,_,_,_,_,_,_,_,_,_] _
 refine Qaj (Qan [0] rfl ?_)
 refine Qab (v:=int .i64 0) rfl rfl rfl (Qac (Qaj (Qan [0] rfl ?_)))
 refine Qab (v:=int .i64 0) rfl rfl rfl (Qac (Qaj ?_))
 obtain ⟨o1_,Ho,Hr1_⟩:=bind_get H
 refine QaR (J:=fun t w=>∃ x4:Int,Qbk.a0 N x4=some r∧Fr t (fun O=>([O 0,O 1,O 2,int .i64 x4,O 4,O 5,O 6,O 7,O 8,O 9,O 10,O 11,O 12,O 13]:List Value))∧St w0 [] w) ?_ ?_
 ·
  rintro t w ⟨x4,H,hf,hs⟩
  obtain ⟨O,rfl⟩:=hf.open
  show G _ _ _ _ [_,_,_,_,_,_,_,_,_,_,_,_,_,_] _
  unfold Qbk.a0 at H
  refine Qaj (Qan [0,1] rfl ?_)
  refine Qab (v:=int .i64 x4) rfl rfl rfl ?_
  show G _ _ _ _ [_,_,_,_,_,_,_,_,_,_,_,_,_,_] _
  refine Qab (v:=int .i64 x4) rfl rfl rfl (Qac ?_)
  obtain rfl:=QsJ H
  refine QaB Tryz.func61 (v:=int .i64 x4) (res1 rfl rfl) ?_
  have hs:St _ [] _:=St.take (Γ':=[]) hs
  exact ⟨_,rfl,rfl,hs⟩
 intro ha1_
 have hs:St _ [] _:=St.take (Γ':=[]) hs
 refine Qba (I:=fun n_ t w=>∃ x2:Int,∃ x3:Int,rounds (fun s=>Qbk.b0 N s.1 s.2) n_ (x2,x3)=some o1_∧Fr t (fun O=>([int .u16 x2,O 1,O 2,int .i64 x3,O 4,O 5,O 6,O 7,O 8,O 9,O 10,O 11,O 12,O 13]:List Value))∧St w0 [] w) N ⟨a1,0,Ho,rfl,hs⟩ ?_ ?_
 ·
  rintro _ _ ⟨x2,x3,h,_⟩
  exact rounds_zero h
 intro n_ ih1_
 rintro t w ⟨x2,x3,Ho,hf,hs⟩
 obtain ⟨O,rfl⟩:=hf.open
 show G _ _ _ _ [_,_,_,_,_,_,_,_,_,_,_,_,_,_] _
 obtain ⟨x1_,H,Hx1_⟩:=rounds_succ Ho
 have H:Qbk.b0 N x2 x3=some x1_:=H
 unfold Qbk.b0 at H
 refine Qaj (Qaj (Qan [0,1] rfl ?_))
 refine Qab (v:=int .u16 x2) rfl rfl rfl ?_
 show G _ _ _ _ [_,_,_,_,_,_,_,_,_,_,_,_,_,_] _
 refine QaI (B:=decide (x2>0)) rfl rfl rfl ?_ ?_
 ·
  intro hb
  rw [if_pos (b_dec_t hb)] at H
  refine Qac (Qaq rfl (QaK (Qaj ?_)))
  refine QbG (Qan [0,1,2,3,4,5] rfl ?_)
  refine Qab (v:=int .i64 x3) rfl rfl rfl ?_
  show G _ _ _ _ [_,_,_,_,_,_,_,_,_,_,_,_,_,_] _
  refine Qab (v:=int .u16 x2) rfl rfl rfl ?_
  refine Qab (v:=int .u16 (x2.tmod 2)) rfl rfl rfl ?_
  refine Qab (v:=int .i64 (i64w (x2.tmod 2))) rfl rfl rfl ?_
  show G _ _ _ _ [_,_,_,_,_,_,_,_,_,_,_,_,_,_] _
  refine Qab (v:=int .i64 (i64w (x3+(i64w (x2.tmod 2))))) rfl rfl rfl ?_
  refine Qab (v:=int .i64 (i64w (x3+(i64w (x2.tmod 2))))) rfl rfl rfl (Qac ?_)
  refine Qa0 (Qan [0,1,2] rfl ?_)
  refine Qab (v:=int .u16 x2) rfl rfl rfl ?_
  show G _ _ _ _ [_,_,_,_,_,_,_,_,_,_,_,_,_,_] _
  refine Qab (v:=int .u16 (u16w (x2.tdiv 2))) rfl rfl rfl ?_
  refine Qab (v:=int .u16 (u16w (x2.tdiv 2))) rfl rfl rfl (Qac ?_)
  obtain rfl:=QsJ H
  have hs:St _ [] _:=St.take (Γ':=[]) hs
  exact ih1_ _ _ ⟨u16w (x2.tdiv 2),i64w (x3+(i64w (x2.tmod 2))),Hx1_,rfl,hs⟩
 intro hb
 rw [if_neg (b_dec_f hb)] at H
 refine Qac (Qas rfl ?_)
 obtain rfl:=QsJ H
 subst Hx1_
 have hs:St _ [] _:=St.take (Γ':=[]) hs
 refine QbE rfl ?_
 exact ha1_ _ _ ⟨x3,Hr1_,rfl,hs⟩
end Go.Proofs.YtblbfnngmeoipaaGreatDoorX
