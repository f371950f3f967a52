import Derived.Test.YtmpcchpnfhafoaaP9
namespace Go.Proofs.YtmpcchpnfhafoaaX
open Go Go.RowKit Go.Proofs
open Go.Value (int pointer bool agg slice string tuple)
set_option maxHeartbeats 8000000
set_option maxRecDepth 100000
set_option linter.unusedVariables false
set_option linter.unusedSimpArgs false
def Qa5.post (w0:World) (r:Int) (v:Value) (w:World):Prop:=v=int .i64 r∧St w0 [] w
theorem Qa5.calls {N:Nat} {a1:Qae} {a4:Qag} {v2:Value} {w0:World} {r:Int} (hr3:RdRow (K.int .u16) w0 v2 a1.Qai) (H:Qa5.f N a1 a4=some r):
 Calls Try.prog 20 #[agg (([int .i8 a1.Qac,int .i8 a1.Qaf,v2]:List Value)).toArray,agg (Qaa a4).toArray] w0 fun e w=>∃ v,e= .returned v∧Qa5.post w0 r v w:=by
 unfold Qa5.f at H
 have hs:St w0 [] w0:=St.refl w0
 refine calls_of_g (n:=15) Try.func20 rfl rfl ?_
 show G _ _ _ _ [_,_,_,_,_,_,_,_,_,_,_,_,_,_,_,_,_] _
 refine Qah (Qat [0,1,2] rfl ?_)
 refine Qbl hs rfl rfl (cs:=(([int .i8 a1.Qac,int .i8 a1.Qaf,v2]:List Value))) rfl rfl ?_
 intro b5 w hs
 refine Qbl hs rfl rfl (cs:=(Qaa a4)) rfl rfl ?_
 intro b7 w hs
 refine Qab (v:=int .i64 0) rfl rfl rfl ?_
 show G _ _ _ _ [_,_,_,_,_,_,_,_,_,_,_,_,_,_,_,_,_] _
 refine Qad (Qah (Qah (Qat [0,1] rfl ?_)))
 refine Qab (v:=pointer (some ⟨b7,1,none⟩)) rfl rfl rfl ?_
 by_cases hb2_:a4.QaN=true
 ·
  rw [if_pos hb2_] at H
  refine Qaz rfl rfl (v:=bool true) rfl rfl (fun _=>rfl) (cells_load (hs.cells 0 rfl) 1 1 (Eq.trans (b:=[bool a4.QaN]) rfl (congrArg (fun b=>[bool b]) hb2_))) (Qad (Qav rfl (Qah ?_)))
  obtain ⟨gd1,H⟩:=ite_get H
  refine Qa6 ?_
  intro T hT
  refine QbF (n:=8) rfl [0,1,2,3,4,5,6,7] [0,1,2,3,4,5,6,7] rfl rfl (Inv:=fun D t w=>∃ O:Nat→Value,t=[agg (([int .i8 a1.Qac,int .i8 a1.Qaf,v2]:List Value)).toArray,agg (Qaa a4).toArray,pointer (some ⟨b5,0,none⟩),pointer (some ⟨b7,0,none⟩),cnd (D 7) (int .i64 (i64w ((i64w a4.Qam)+(shlI .i64 1 a1.Qac)))) (int .i64 0),pointer (some ⟨b7,1,none⟩),bool true,cnd (D 0) (pointer (some ⟨b7,0,none⟩)) (O 7),cnd (D 1) (int .u16 a4.Qam) (O 8),cnd (D 2) (int .i64 (i64w a4.Qam)) (O 9),cnd (D 3) (pointer (some ⟨b5,0,none⟩)) (O 10),cnd (D 4) (int .i8 a1.Qac) (O 11),cnd (D 5) (int .i64 (shlI .i64 1 a1.Qac)) (O 12),cnd (D 6) (int .i64 (i64w ((i64w a4.Qam)+(shlI .i64 1 a1.Qac)))) (O 13),O 14,O 15,O 16]∧St w0 [Cells b7 (Qaa a4) 49,Cells b5 (([int .i8 a1.Qac,int .i8 a1.Qaf,v2]:List Value)) 29] w) ?_ ⟨⟨⟨⟨⟨⟨⟨⟨trivial,?_⟩,?_⟩,?_⟩,?_⟩,?_⟩,?_⟩,?_⟩,?_⟩ ?_
  ·
   intro w hh hbw
   have hs:=hs.samew hh hbw
   exact ⟨fun i=>T.getD i undef,(by subst hT;rfl),hs⟩
  ·
   rintro D t w hD hp hcl ⟨O,ht,hs⟩ rest hk
   have q1_:=nz hcl 1 0 hD
   have q2_:=nz hcl 2 0 q1_
   have q6_:=nz hcl 6 0 q2_
   have q7_:=nz hcl 7 0 q6_
   simp only [hD,q1_,q2_,q6_,q7_,cq,oT] at ht hs
   subst ht
   refine Qab (v:=pointer (some ⟨b7,0,none⟩)) rfl rfl rfl ?_
   show G _ _ _ _ [_,_,_,_,_,_,_,_,_,_,_,_,_,_,_,_,_] _
   refine hk _ _ ⟨O,?_,hs.cast ?_⟩<;>simp only [oT,lq,cq,Nat.reduceBEq,q1_,q2_,q6_,q7_]
  ·
   rintro D t w hD hp hcl ⟨O,ht,hs⟩ rest hk
   obtain ⟨p0_,_⟩:=hp
   have q2_:=nz hcl 2 0 hD
   have q6_:=nz hcl 6 0 q2_
   have q7_:=nz hcl 7 0 q6_
   simp only [hD,p0_,q2_,q6_,q7_,cq,oT] at ht hs
   subst ht
   refine Qaz rfl rfl (v:=int .u16 a4.Qam) rfl rfl (fun _=>rfl) (cells_load (hs.cells 0 rfl) 0 1 rfl) ?_
   show G _ _ _ _ [_,_,_,_,_,_,_,_,_,_,_,_,_,_,_,_,_] _
   refine hk _ _ ⟨O,?_,hs.cast ?_⟩<;>simp only [oT,lq,cq,Nat.reduceBEq,p0_,q2_,q6_,q7_]
  ·
   rintro D t w hD hp hcl ⟨O,ht,hs⟩ rest hk
   obtain ⟨p1_,_⟩:=hp
   obtain ⟨p0_,_⟩:=(hcl.get 1 (by decide)) p1_
   have q6_:=nz hcl 6 0 hD
   have q7_:=nz hcl 7 0 q6_
   simp only [hD,p0_,p1_,q6_,q7_,cq,oT] at ht hs
   subst ht
   refine Qab (v:=int .i64 (i64w a4.Qam)) rfl rfl rfl ?_
   show G _ _ _ _ [_,_,_,_,_,_,_,_,_,_,_,_,_,_,_,_,_] _
   refine hk _ _ ⟨O,?_,hs.cast ?_⟩<;>simp only [oT,lq,cq,Nat.reduceBEq,p0_,p1_,q6_,q7_]
  ·
   rintro D t w hD hp hcl ⟨O,ht,hs⟩ rest hk
   have q4_:=nz hcl 4 0 hD
   have q5_:=nz hcl 5 0 q4_
   have q6_:=nz hcl 6 1 q5_
   have q7_:=nz hcl 7 0 q6_
   simp only [hD,q4_,q5_,q6_,q7_,cq,oT] at ht hs
   subst ht
   refine Qab (v:=pointer (some ⟨b5,0,none⟩)) rfl rfl rfl ?_
   show G _ _ _ _ [_,_,_,_,_,_,_,_,_,_,_,_,_,_,_,_,_] _
   refine hk _ _ ⟨O,?_,hs.cast ?_⟩<;>simp only [oT,lq,cq,Nat.reduceBEq,q4_,q5_,q6_,q7_]
  ·
   rintro D t w hD hp hcl ⟨O,ht,hs⟩ rest hk
   obtain ⟨p3_,_⟩:=hp
   have q5_:=nz hcl 5 0 hD
   have q6_:=nz hcl 6 1 q5_
   have q7_:=nz hcl 7 0 q6_
   simp only [hD,p3_,q5_,q6_,q7_,cq,oT] at ht hs
   subst ht
   refine Qaz rfl rfl (v:=int .i8 a1.Qac) rfl rfl (fun _=>rfl) (cells_load (hs.cells 1 rfl) 0 1 rfl) ?_
   show G _ _ _ _ [_,_,_,_,_,_,_,_,_,_,_,_,_,_,_,_,_] _
   refine hk _ _ ⟨O,?_,hs.cast ?_⟩<;>simp only [oT,lq,cq,Nat.reduceBEq,p3_,q5_,q6_,q7_]
  ·
   rintro D t w hD hp hcl ⟨O,ht,hs⟩ rest hk
   obtain ⟨p4_,_⟩:=hp
   obtain ⟨p3_,_⟩:=(hcl.get 4 (by decide)) p4_
   have q6_:=nz hcl 6 1 hD
   have q7_:=nz hcl 7 0 q6_
   simp only [hD,p3_,p4_,q6_,q7_,cq,oT] at ht hs
   subst ht
   refine Qab (v:=int .i64 (shlI .i64 1 a1.Qac)) rfl rfl (Qb8 rfl rfl rfl gd1) ?_
   show G _ _ _ _ [_,_,_,_,_,_,_,_,_,_,_,_,_,_,_,_,_] _
   refine hk _ _ ⟨O,?_,hs.cast ?_⟩<;>simp only [oT,lq,cq,Nat.reduceBEq,p3_,p4_,q6_,q7_]
  ·
   rintro D t w hD hp hcl ⟨O,ht,hs⟩ rest hk
   obtain ⟨p2_,p5_,_⟩:=hp
   obtain ⟨p4_,_⟩:=(hcl.get 5 (by decide)) p5_
   obtain ⟨p3_,_⟩:=(hcl.get 4 (by decide)) p4_
   obtain ⟨p1_,_⟩:=(hcl.get 2 (by decide)) p2_
   obtain ⟨p0_,_⟩:=(hcl.get 1 (by decide)) p1_
   have q7_:=nz hcl 7 0 hD
   simp only [hD,p0_,p1_,p2_,p3_,p4_,p5_,q7_,cq,oT] at ht hs
   subst ht
   refine Qab (v:=int .i64 (i64w ((i64w a4.Qam)+(shlI .i64 1 a1.Qac)))) rfl rfl rfl ?_
   show G _ _ _ _ [_,_,_,_,_,_,_,_,_,_,_,_,_,_,_,_,_] _
   refine hk _ _ ⟨O,?_,hs.cast ?_⟩<;>simp only [oT,lq,cq,Nat.reduceBEq,p0_,p1_,p2_,p3_,p4_,p5_,q7_]
  ·
   rintro D t w hD hp hcl ⟨O,ht,hs⟩ rest hk
   obtain ⟨p6_,p0_,p1_,p2_,p3_,p4_,p5_,_,_⟩:=hp
   simp only [hD,p0_,p1_,p2_,p3_,p4_,p5_,p6_,cq,oT] at ht hs
   subst ht
   refine Qab (v:=int .i64 (i64w ((i64w a4.Qam)+(shlI .i64 1 a1.Qac)))) rfl rfl rfl ?_
   show G _ _ _ _ [_,_,_,_,_,_,_,_,_,_,_,_,_,_,_,_,_] _
   refine hk _ _ ⟨O,?_,hs.cast ?_⟩<;>simp only [oT,lq,cq,Nat.reduceBEq,p0_,p1_,p2_,p3_,p4_,p5_,p6_]
  intro D t w hall hI
  obtain ⟨O,ht,hs⟩:=hI
  have p0_:=hall 0 (by decide)
  have p1_:=hall 1 (by decide)
  have p2_:=hall 2 (by decide)
  have p3_:=hall 3 (by decide)
  have p4_:=hall 4 (by decide)
  have p5_:=hall 5 (by decide)
  have p6_:=hall 6 (by decide)
  have p7_:=hall 7 (by decide)
  simp only [p0_,p1_,p2_,p3_,p4_,p5_,p6_,p7_,cq,oT] at ht hs
  subst ht
  obtain rfl:=QsJ H
  refine QaI Try.func20 (v:=int .i64 (i64w ((i64w a4.Qam)+(shlI .i64 1 a1.Qac)))) (res1 rfl rfl) ?_
  have hs:St _ [] _:=St.take (Γ':=[_,_]) hs
  exact ⟨_,rfl,rfl,hs⟩
 rw [if_neg hb2_] at H
 refine Qaz rfl rfl (v:=bool false) rfl rfl (fun _=>rfl) (cells_load (hs.cells 0 rfl) 1 1 (Eq.trans (b:=[bool a4.QaN]) rfl (congrArg (fun b=>[bool b]) (Bool.eq_false_iff.2 hb2_)))) (Qad (Qax rfl (QaO (Qah (Qat [0,1,2,3] rfl ?_)))))
 refine Qab (v:=pointer (some ⟨b7,0,none⟩)) rfl rfl rfl ?_
 show G _ _ _ _ [_,_,_,_,_,_,_,_,_,_,_,_,_,_,_,_,_] _
 refine Qaz rfl rfl (v:=int .u16 a4.Qam) rfl rfl (fun _=>rfl) (cells_load (hs.cells 0 rfl) 0 1 rfl) ?_
 refine Qab (v:=int .i64 (i64w a4.Qam)) rfl rfl rfl ?_
 refine Qab (v:=int .i64 (i64w a4.Qam)) rfl rfl rfl ?_
 show G _ _ _ _ [_,_,_,_,_,_,_,_,_,_,_,_,_,_,_,_,_] _
 refine Qad ?_
 obtain rfl:=QsJ H
 refine QaI Try.func20 (v:=int .i64 (i64w a4.Qam)) (res1 rfl rfl) ?_
 have hs:St _ [] _:=St.take (Γ':=[_,_]) hs
 exact ⟨_,rfl,rfl,hs⟩
def QaJ.post (w0:World) (r:(List Int)) (v:Value) (w:World):Prop:=St w0 [Row 57 (K.int .i16) v r] w
theorem QaJ.calls {N:Nat} {a1:Qae} {v2:Value} {w0:World} {r:(List Int)} (hr3:RdRow (K.int .u16) w0 v2 a1.Qai) (H:QaJ.f N a1=some r):
 Calls Try.prog 15 #[agg (([int .i8 a1.Qac,int .i8 a1.Qaf,v2]:List Value)).toArray] w0 fun e w=>∃ v,e= .returned v∧QaJ.post w0 r v w:=by
 unfold QaJ.f at H
 have hs:St w0 [] w0:=St.refl w0
 refine calls_of_g (n:=28) Try.func15 rfl rfl ?_
 show G _ _ _ _ [_,_,_,_,_,_,_,_,_,_,_,_,_,_,_,_,_,_,_,_,_,_,_,_,_,_,_,_,_] _
 refine Qah (Qat [0,1] rfl ?_)
 refine Qbl hs rfl rfl (cs:=(([int .i8 a1.Qac,int .i8 a1.Qaf,v2]:List Value))) rfl rfl ?_
 intro b4 w hs
 refine Qab (v:=slice none 0 0) rfl rfl rfl ?_
 show G _ _ _ _ [_,_,_,_,_,_,_,_,_,_,_,_,_,_,_,_,_,_,_,_,_,_,_,_,_,_,_,_,_] _
 refine Qad (Qah (Qat [0,1,2,3,4,5] rfl ?_))
 refine QbQ (fkI .i16) (y:=(-1)) hs rfl rfl rfl rfl (fun _=>rfl) (zv:=(int .i16 0)) (fun _=>rfl) rfl (by decide) (by decide) rfl ?_
 intro v6 w hs
 refine Qab (v:=pointer (some ⟨b4,0,none⟩)) rfl rfl rfl ?_
 refine Qaz rfl rfl (v:=int .i8 a1.Qac) rfl rfl (fun _=>rfl) (cells_load (hs.cells 1 rfl) 0 1 rfl) ?_
 obtain ⟨g1,H⟩:=ite_get H
 refine Qab (v:=int .i64 (shlI .i64 2 a1.Qac)) rfl rfl (Qb8 rfl rfl rfl g1) ?_
 show G _ _ _ _ [_,_,_,_,_,_,_,_,_,_,_,_,_,_,_,_,_,_,_,_,_,_,_,_,_,_,_,_,_] _
 obtain ⟨r8,Hr8,H⟩:=bind_get H
 refine QaG (args:=[v6,int .i64 (shlI .i64 2 a1.Qac)]) rfl rfl (QaH rfl (callFunc_enter Try.func34 rfl rfl) rfl) (QaB.calls (a1:=[(-1)]) (a3:=shlI .i64 2 a1.Qac) (hs.row 0 rfl) Hr8) ?_
 intro v9 w hs2
 have hs:St _ [_,_,_] _:=hs.call hs2
 refine Qab (v:=v9) rfl rfl rfl (Qad (Qah (Qah (Qat [0,1,2,3] rfl ?_))))
 refine QaK rfl rfl (es:=(([int .i8 a1.Qac,int .i8 a1.Qaf,v2]:List Value))) rfl rfl (fun _=>rfl) (n:=3) (fun _=>rfl) rfl (cells_all (hs.cells 2 rfl)) ?_
 show G _ _ _ _ [_,_,_,_,_,_,_,_,_,_,_,_,_,_,_,_,_,_,_,_,_,_,_,_,_,_,_,_,_] _
 obtain ⟨r11,Hr11,H⟩:=bind_get H
 refine QaG (args:=[agg (([int .i8 a1.Qac,int .i8 a1.Qaf,v2]:List Value)).toArray]) rfl rfl (QaH rfl (callFunc_enter Try.func17 rfl rfl) rfl) (Qal.calls (a1:=(⟨a1.Qac,a1.Qaf,a1.Qai⟩:Qae)) (hs.rd hr3) Hr11) ?_
 intro v12 w hs2
 have hs:St _ [_,_,_,_] _:=hs.call hs2
 refine QbA (hs.row 0 rfl) rfl rfl rfl rfl rfl ?_
 refine Qab (v:=int .i64 0) rfl rfl rfl (Qad ?_)
 obtain ⟨o1_,Ho,Hr1_⟩:=bind_get H
 refine QaX (J:=fun t w=>∃ x25:(List Int),QaJ.a0 N x25=some r∧Fr t (fun O=>([O 0,O 1,O 2,v9,O 4,O 5,O 6,O 7,O 8,O 9,O 10,O 11,O 12,O 13,O 14,O 15,O 16,O 17,O 18,O 19,O 20,O 21,O 22,O 23,O 24,O 25,O 26,O 27,O 28]:List Value))∧St w0 [Row 57 (K.int .i16) v9 x25] w) ?_ ?_
 ·
  rintro t w ⟨x25,H,hf,hs⟩
  obtain ⟨O,rfl⟩:=hf.open
  show G _ _ _ _ [_,_,_,_,_,_,_,_,_,_,_,_,_,_,_,_,_,_,_,_,_,_,_,_,_,_,_,_,_] _
  unfold QaJ.a0 at H
  refine Qah (Qat [0,1] rfl ?_)
  refine Qab (v:=v9) rfl rfl rfl ?_
  refine Qab (v:=v9) rfl rfl rfl ?_
  show G _ _ _ _ [_,_,_,_,_,_,_,_,_,_,_,_,_,_,_,_,_,_,_,_,_,_,_,_,_,_,_,_,_] _
  refine Qad ?_
  obtain rfl:=QsJ H
  refine QaI Try.func15 (v:=v9) (res1 rfl rfl) ?_
  have hs:=hs.pull 0 rfl
  have hs:St _ [_] _:=St.take (Γ':=[]) hs
  exact ⟨_,rfl,hs⟩
 intro ha1_
 have hs:=hs.pull 0 rfl
 have hs:=hs.pull 1 rfl
 have hs:=hs.pull 3 rfl
 have hs:St _ [_,_,_] _:=St.take (Γ':=[_]) hs
 refine Qa9 (I:=fun n_ t w=>∃ x19:(List Int),∃ x20:Int,rounds (fun s=>QaJ.b0 N r11 a1 s.1 s.2) n_ (x19,x20)=some o1_∧Fr t (fun O=>([O 0,pointer (some ⟨b4,0,none⟩),O 2,v9,O 4,O 5,O 6,O 7,O 8,O 9,O 10,O 11,v12,int .i64 (r11.length:Int),int .i64 x20,O 15,O 16,O 17,O 18,O 19,O 20,O 21,O 22,O 23,O 24,O 25,O 26,O 27,O 28]:List Value))∧St w0 [Cells b4 (([int .i8 a1.Qac,int .i8 a1.Qaf,v2]:List Value)) 29,Row 57 (K.int .i16) v9 x19,Row 54 QaM v12 r11] w) N ⟨r8,0,Ho,rfl,hs⟩ ?_ ?_
 ·
  rintro _ _ ⟨x19,x20,h,_⟩
  exact rounds_zero h
 intro n_ ih1_
 rintro t w ⟨x19,x20,Ho,hf,hs⟩
 obtain ⟨O,rfl⟩:=hf.open
 show G _ _ _ _ [_,_,_,_,_,_,_,_,_,_,_,_,_,_,_,_,_,_,_,_,_,_,_,_,_,_,_,_,_] _
 obtain ⟨x8_,H,Hx1_⟩:=rounds_succ Ho
 have H:QaJ.b0 N r11 a1 x19 x20=some x8_:=H
 unfold QaJ.b0 at H
 refine Qah (Qat [0] rfl ?_)
 refine QaQ (B:=decide (x20< (r11.length:Int))) rfl rfl rfl ?_ ?_
 ·
  intro hb
  rw [if_pos (b_dec_t hb)] at H
  refine Qad (Qah (Qav rfl (QaO (Qah ?_))))
  refine Qby (Qah (Qat [0,1,2,3] rfl ?_))
  obtain ⟨g5,H⟩:=ite_get H
  refine QbH QaT Qaj (hs.row 2 rfl) rfl (fun _=>rfl) g5.1 g5.2 rfl rfl rfl rfl rfl ?_
  intro p21 hp21 lp21 op21
  refine QaK rfl rfl (es:=(Qaw (rdL r11 x20 Qaj))) rfl rfl (fun _=>rfl) (n:=5) (fun _=>rfl) (QaT.len _) hp21 ?_
  show G _ _ _ _ [_,_,_,_,_,_,_,_,_,_,_,_,_,_,_,_,_,_,_,_,_,_,_,_,_,_,_,_,_] _
  refine Qbz hs rfl rfl (z:=(agg #[int .u16 0,bool false,int .i64 0,int .u16 0,int .i64 0])) (cs:=(Qaw Qaj)) rfl (fun _=>rfl) rfl ?_
  intro b22 w hs
  refine Qbf (n:=5) hs (QaT.len _) rfl rfl (vs:=(Qaw (rdL r11 x20 Qaj))) rfl rfl rfl (fun _=>rfl) (QaT.len _) (QaT.one _) ?_
  intro w hs
  refine Qad ?_
  obtain ⟨r24,Hr24,H⟩:=bind_get H
  obtain ⟨gd6,H⟩:=ite_get H
  obtain ⟨ad7_,ad7_N,ad7_C,had7_⟩:=sl_at (hs.row 2 rfl) gd6.1 gd6.2
  refine Qa6 ?_
  intro T hT
  refine QbF (n:=10) rfl [0,1,2,3,4,5,6,7,8,9] [0,1,2,3,4,5,6,7,8,9] rfl rfl (Inv:=fun D t w=>∃ O:Nat→Value,t=[O 0,pointer (some ⟨b4,0,none⟩),O 2,v9,O 4,pointer (some ⟨b22,0,none⟩),O 6,O 7,O 8,O 9,O 10,O 11,v12,int .i64 (r11.length:Int),int .i64 x20,bool true,pointer (some p21),agg (Qaw (rdL r11 x20 Qaj)).toArray,cnd (D 0) v9 (O 18),cnd (D 1) (agg (([int .i8 a1.Qac,int .i8 a1.Qaf,v2]:List Value)).toArray) (O 19),cnd (D 2) (pointer (some ⟨b22,0,none⟩)) (O 20),cnd (D 3) (agg (Qaa ((rdL r11 x20 Qaj).Qak)).toArray) (O 21),cnd (D 4) (int .i64 r24) (O 22),cnd (D 5) (pointer (some ⟨b22,4,none⟩)) (O 23),cnd (D 6) (int .i64 ((rdL r11 x20 Qaj).QaA)) (O 24),cnd (D 7) (int .i16 (i16w ((rdL r11 x20 Qaj).QaA))) (O 25),cnd (D 8) (pointer (some (ad7_.add (r24.toNat*1)))) (O 26),O 27,O 28]∧St w0 [Cells b22 (Qaw (rdL r11 x20 Qaj)) 54,Cells b4 (([int .i8 a1.Qac,int .i8 a1.Qaf,v2]:List Value)) 29,Row 57 (K.int .i16) (cnd (D 9) v9 v9) (cnd (D 9) (stL x19 r24 (i16w ((rdL r11 x20 Qaj).QaA))) x19),Row 54 QaM v12 r11] w) ?_ ⟨⟨⟨⟨⟨⟨⟨⟨⟨⟨trivial,?_⟩,?_⟩,?_⟩,?_⟩,?_⟩,?_⟩,?_⟩,?_⟩,?_⟩,?_⟩ ?_
  ·
   intro w hh hbw
   have hs:=hs.samew hh hbw
   exact ⟨fun i=>T.getD i undef,(by subst hT;rfl),hs⟩
  ·
   rintro D t w hD hp hcl ⟨O,ht,hs⟩ rest hk
   have q8_:=nz hcl 8 0 hD
   have q9_:=nz hcl 9 0 q8_
   simp only [hD,q8_,q9_,cq,oT] at ht hs
   subst ht
   refine Qab (v:=v9) rfl rfl rfl ?_
   show G _ _ _ _ [_,_,_,_,_,_,_,_,_,_,_,_,_,_,_,_,_,_,_,_,_,_,_,_,_,_,_,_,_] _
   refine hk _ _ ⟨O,?_,hs.cast ?_⟩<;>simp only [oT,lq,cq,Nat.reduceBEq,q8_,q9_]
  ·
   rintro D t w hD hp hcl ⟨O,ht,hs⟩ rest hk
   have q4_:=nz hcl 4 0 hD
   have q8_:=nz hcl 8 1 q4_
   have q9_:=nz hcl 9 0 q8_
   simp only [hD,q4_,q8_,q9_,cq,oT] at ht hs
   subst ht
   refine QaK rfl rfl (es:=(([int .i8 a1.Qac,int .i8 a1.Qaf,v2]:List Value))) rfl rfl (fun _=>rfl) (n:=3) (fun _=>rfl) rfl (cells_all (hs.cells 1 rfl)) ?_
   show G _ _ _ _ [_,_,_,_,_,_,_,_,_,_,_,_,_,_,_,_,_,_,_,_,_,_,_,_,_,_,_,_,_] _
   refine hk _ _ ⟨O,?_,hs.cast ?_⟩<;>simp only [oT,lq,cq,Nat.reduceBEq,q4_,q8_,q9_]
  ·
   rintro D t w hD hp hcl ⟨O,ht,hs⟩ rest hk
   have q3_:=nz hcl 3 0 hD
   have q4_:=nz hcl 4 1 q3_
   have q8_:=nz hcl 8 1 q4_
   have q9_:=nz hcl 9 0 q8_
   simp only [hD,q3_,q4_,q8_,q9_,cq,oT] at ht hs
   subst ht
   refine Qab (v:=pointer (some ⟨b22,0,none⟩)) rfl rfl rfl ?_
   show G _ _ _ _ [_,_,_,_,_,_,_,_,_,_,_,_,_,_,_,_,_,_,_,_,_,_,_,_,_,_,_,_,_] _
   refine hk _ _ ⟨O,?_,hs.cast ?_⟩<;>simp only [oT,lq,cq,Nat.reduceBEq,q3_,q4_,q8_,q9_]
  ·
   rintro D t w hD hp hcl ⟨O,ht,hs⟩ rest hk
   obtain ⟨p2_,_⟩:=hp
   have q4_:=nz hcl 4 1 hD
   have q8_:=nz hcl 8 1 q4_
   have q9_:=nz hcl 9 0 q8_
   simp only [hD,p2_,q4_,q8_,q9_,cq,oT] at ht hs
   subst ht
   refine QaK rfl rfl (es:=(Qaa ((rdL r11 x20 Qaj).Qak))) rfl rfl (fun _=>rfl) (n:=2) (fun _=>rfl) (Qar.len _) (cells_load (hs.cells 0 rfl) 0 2 (by simp only [Qaw];first|rfl|exact List.take_of_length_le (Nat.le_of_eq (Qar.len _))|simp [List.drop_append,List.take_append,encAI_len,encAB_len,encA_len,List.take_of_length_le])) ?_
   show G _ _ _ _ [_,_,_,_,_,_,_,_,_,_,_,_,_,_,_,_,_,_,_,_,_,_,_,_,_,_,_,_,_] _
   refine hk _ _ ⟨O,?_,hs.cast ?_⟩<;>simp only [oT,lq,cq,Nat.reduceBEq,p2_,q4_,q8_,q9_]
  ·
   rintro D t w hD hp hcl ⟨O,ht,hs⟩ rest hk
   obtain ⟨p1_,p3_,_⟩:=hp
   obtain ⟨p2_,_⟩:=(hcl.get 3 (by decide)) p3_
   have q8_:=nz hcl 8 1 hD
   have q9_:=nz hcl 9 0 q8_
   simp only [hD,p1_,p2_,p3_,q8_,q9_,cq,oT] at ht hs
   subst ht
   refine QaG (args:=[agg (([int .i8 a1.Qac,int .i8 a1.Qaf,v2]:List Value)).toArray,agg (Qaa ((rdL r11 x20 Qaj).Qak)).toArray]) rfl rfl (QaH rfl (callFunc_enter Try.func20 rfl rfl) rfl) (Qa5.calls (a1:=(⟨a1.Qac,a1.Qaf,a1.Qai⟩:Qae)) (a4:=(rdL r11 x20 Qaj).Qak) (hs.rd hr3) Hr24) ?_
   rintro _ w ⟨rfl,hs2⟩
   have hs:St _ [_,_,_,_] _:=hs.call hs2
   show G _ _ _ _ [_,_,_,_,_,_,_,_,_,_,_,_,_,_,_,_,_,_,_,_,_,_,_,_,_,_,_,_,_] _
   refine hk _ _ ⟨O,?_,hs.cast ?_⟩<;>simp only [oT,lq,cq,Nat.reduceBEq,p1_,p2_,p3_,q8_,q9_]
  ·
   rintro D t w hD hp hcl ⟨O,ht,hs⟩ rest hk
   have q6_:=nz hcl 6 0 hD
   have q7_:=nz hcl 7 0 q6_
   have q8_:=nz hcl 8 7 hD
   have q9_:=nz hcl 9 0 q8_
   simp only [hD,q6_,q7_,q8_,q9_,cq,oT] at ht hs
   subst ht
   refine Qab (v:=pointer (some ⟨b22,4,none⟩)) rfl rfl rfl ?_
   show G _ _ _ _ [_,_,_,_,_,_,_,_,_,_,_,_,_,_,_,_,_,_,_,_,_,_,_,_,_,_,_,_,_] _
   refine hk _ _ ⟨O,?_,hs.cast ?_⟩<;>simp only [oT,lq,cq,Nat.reduceBEq,q6_,q7_,q8_,q9_]
  ·
   rintro D t w hD hp hcl ⟨O,ht,hs⟩ rest hk
   obtain ⟨p5_,_⟩:=hp
   have q7_:=nz hcl 7 0 hD
   have q8_:=nz hcl 8 8 hD
   have q9_:=nz hcl 9 0 q8_
   simp only [hD,p5_,q7_,q8_,q9_,cq,oT] at ht hs
   subst ht
   refine Qaz rfl rfl (v:=int .i64 ((rdL r11 x20 Qaj).QaA)) rfl rfl (fun _=>rfl) (cells_load (hs.cells 0 rfl) 4 1 (by first|rfl|(simp only [Qaw];simp [List.drop_append,List.take_append,encAI_len,encAB_len,List.take_of_length_le]))) ?_
   show G _ _ _ _ [_,_,_,_,_,_,_,_,_,_,_,_,_,_,_,_,_,_,_,_,_,_,_,_,_,_,_,_,_] _
   refine hk _ _ ⟨O,?_,hs.cast ?_⟩<;>simp only [oT,lq,cq,Nat.reduceBEq,p5_,q7_,q8_,q9_]
  ·
   rintro D t w hD hp hcl ⟨O,ht,hs⟩ rest hk
   obtain ⟨p6_,_⟩:=hp
   obtain ⟨p5_,_⟩:=(hcl.get 6 (by decide)) p6_
   have q8_:=nz hcl 8 9 hD
   have q9_:=nz hcl 9 0 q8_
   simp only [hD,p5_,p6_,q8_,q9_,cq,oT] at ht hs
   subst ht
   refine Qab (v:=int .i16 (i16w ((rdL r11 x20 Qaj).QaA))) rfl rfl rfl ?_
   show G _ _ _ _ [_,_,_,_,_,_,_,_,_,_,_,_,_,_,_,_,_,_,_,_,_,_,_,_,_,_,_,_,_] _
   refine hk _ _ ⟨O,?_,hs.cast ?_⟩<;>simp only [oT,lq,cq,Nat.reduceBEq,p5_,p6_,q8_,q9_]
  ·
   rintro D t w hD hp hcl ⟨O,ht,hs⟩ rest hk
   obtain ⟨p0_,p4_,_,p1_,p2_,p3_,_,p5_,p6_,p7_,_⟩:=hp
   have q9_:=nz hcl 9 0 hD
   simp only [hD,p0_,p1_,p2_,p3_,p4_,p5_,p6_,p7_,q9_,cq,oT] at ht hs
   subst ht
   refine QbC (κ:=(K.int .i16)) (m:=1) rfl (hs.row 2 rfl) rfl (fun _=>rfl) gd6.1 gd6.2 had7_ rfl rfl rfl rfl rfl ?_
   show G _ _ _ _ [_,_,_,_,_,_,_,_,_,_,_,_,_,_,_,_,_,_,_,_,_,_,_,_,_,_,_,_,_] _
   refine hk _ _ ⟨O,?_,hs.cast ?_⟩<;>simp only [oT,lq,cq,Nat.reduceBEq,p0_,p1_,p2_,p3_,p4_,p5_,p6_,p7_,q9_]
  ·
   rintro D t w hD hp hcl ⟨O,ht,hs⟩ rest hk
   obtain ⟨p8_,p7_,p4_,p0_,p1_,p2_,p3_,_,p5_,p6_,_,_⟩:=hp
   simp only [hD,p0_,p1_,p2_,p3_,p4_,p5_,p6_,p7_,p8_,cq,oT] at ht hs
   subst ht
   have hs:St _ [_,_,_,_] _:=hs.pull 2 rfl
   refine QbN (y:=i16w ((rdL r11 x20 Qaj).QaA)) (fkI .i16) gd6.1 gd6.2 (hown_of had7_) hs rfl rfl rfl rfl rfl (fun _=>rfl) ?_
   intro w hs
   show G _ _ _ _ [_,_,_,_,_,_,_,_,_,_,_,_,_,_,_,_,_,_,_,_,_,_,_,_,_,_,_,_,_] _
   have hs:=hs.push 2 (by simp)
   refine hk _ _ ⟨O,?_,hs.cast ?_⟩<;>simp only [oT,lq,cq,Nat.reduceBEq,p0_,p1_,p2_,p3_,p4_,p5_,p6_,p7_,p8_]
  intro D t w hall hI
  obtain ⟨O,ht,hs⟩:=hI
  have p0_:=hall 0 (by decide)
  have p1_:=hall 1 (by decide)
  have p2_:=hall 2 (by decide)
  have p3_:=hall 3 (by decide)
  have p4_:=hall 4 (by decide)
  have p5_:=hall 5 (by decide)
  have p6_:=hall 6 (by decide)
  have p7_:=hall 7 (by decide)
  have p8_:=hall 8 (by decide)
  have p9_:=hall 9 (by decide)
  simp only [p0_,p1_,p2_,p3_,p4_,p5_,p6_,p7_,p8_,p9_,cq,oT] at ht hs
  subst ht
  refine Qa2 (Qat [0,1] rfl ?_)
  refine Qab (v:=int .i64 (i64w (x20+1))) rfl rfl rfl ?_
  refine Qab (v:=int .i64 (i64w (x20+1))) rfl rfl rfl (Qad ?_)
  obtain rfl:=QsJ H
  have hs:=hs.pull 3 rfl
  have hs:=hs.pull 3 rfl
  have hs:=hs.pull 3 rfl
  have hs:St _ [_,_,_] _:=St.take (Γ':=[_]) hs
  exact ih1_ _ _ ⟨stL x19 r24 (i16w ((rdL r11 x20 Qaj).QaA)),i64w (x20+1),Hx1_,rfl,hs⟩
 intro hb
 rw [if_neg (b_dec_f hb)] at H
 show G _ _ _ _ [_,_,_,_,_,_,_,_,_,_,_,_,_,_,_,_,_,_,_,_,_,_,_,_,_,_,_,_,_] _
 refine Qad (Qah (Qax rfl ?_))
 obtain rfl:=QsJ H
 subst Hx1_
 have hs:=hs.pull 1 rfl
 have hs:St _ [_] _:=St.take (Γ':=[_,_]) hs
 refine Qbx rfl ?_
 exact ha1_ _ _ ⟨x19,Hr1_,rfl,hs⟩
def Qay.post (w0:World) (r:(Int×Int)) (v:Value) (w:World):Prop:=v=tuple #[int .i64 r.1,int .i64 r.2]∧St w0 [] w
theorem Qay.calls {N:Nat} {a1:Qae} {v2:Value} {w0:World} {r:(Int×Int)} (hr3:RdRow (K.int .u16) w0 v2 a1.Qai) (H:Qay.f N a1=some r):
 Calls Try.prog 7 #[agg (([int .i8 a1.Qac,int .i8 a1.Qaf,v2]:List Value)).toArray] w0 fun e w=>∃ v,e= .returned v∧Qay.post w0 r v w:=by
 unfold Qay.f at H
 have hs:St w0 [] w0:=St.refl w0
 refine calls_of_g (n:=70) Try.func7 rfl rfl ?_
 show G _ _ _ _ (_::_::_::_::_::_::_::_::_::_::_::_::_::_::_::_::_::_::_::_::_::_::_::_::_::_::_::_::_::_::_::_::_::_::_::_::_::_::_::_::_::_::_::_::_::_::_::_::_::_::_::_::_::_::_::_::_::_::_::_::_::_::_::_::_::_::_::_::_::_::_::[]) _
 refine Qah (Qat [0,1,2] rfl ?_)
 refine Qbl hs rfl rfl (cs:=(([int .i8 a1.Qac,int .i8 a1.Qaf,v2]:List Value))) rfl rfl ?_
 intro b4 w hs
 refine g_d rfl ?_
 refine Qab (v:=int .i64 0) rfl rfl rfl (g_d rfl ?_)
 try dsimp only [Qap,Qaq]
 refine Qab (v:=int .i64 0) rfl rfl rfl (g_d rfl (Qad (Qah (Qah (Qat [0,1,2] rfl ?_)))))
 refine QaK rfl rfl (es:=(([int .i8 a1.Qac,int .i8 a1.Qaf,v2]:List Value))) rfl rfl (fun _=>rfl) (n:=3) (fun _=>rfl) rfl (cells_all (hs.cells 0 rfl)) (g_d rfl ?_)
 try dsimp only [Qap,Qaq]
 obtain ⟨r6,Hr6,H⟩:=bind_get H
 refine QaG (args:=[agg (([int .i8 a1.Qac,int .i8 a1.Qaf,v2]:List Value)).toArray]) rfl rfl (QaH rfl (callFunc_enter Try.func14 rfl rfl) rfl) (Qbi.calls (a1:=(⟨a1.Qac,a1.Qaf,a1.Qai⟩:Qae)) (hs.rd hr3) Hr6) ?_
 rintro _ w ⟨rfl,hs2⟩
 have hs:St _ [_] _:=hs.call hs2
 cases r6 with
 |true=>
  rw [if_pos rfl] at H
  refine g_d rfl ?_
  refine Qab (v:=bool false) rfl rfl rfl (g_d rfl ?_)
  try dsimp only [Qap,Qaq]
  refine Qad (Qax rfl (QaO (Qah (Qat [0,1,2] rfl ?_))))
  refine QaK rfl rfl (es:=(([int .i8 a1.Qac,int .i8 a1.Qaf,v2]:List Value))) rfl rfl (fun _=>rfl) (n:=3) (fun _=>rfl) rfl (cells_all (hs.cells 0 rfl)) (g_d rfl ?_)
  obtain ⟨r7,Hr7,H⟩:=bind_get H
  refine QaG (args:=[agg (([int .i8 a1.Qac,int .i8 a1.Qaf,v2]:List Value)).toArray]) rfl rfl (QaH rfl (callFunc_enter Try.func15 rfl rfl) rfl) (QaJ.calls (a1:=(⟨a1.Qac,a1.Qaf,a1.Qai⟩:Qae)) (hs.rd hr3) Hr7) ?_
  intro v8 w hs2
  have hs:St _ [_,_] _:=hs.call hs2
  refine g_d rfl ?_
  try dsimp only [Qap,Qaq]
  refine Qab (v:=v8) rfl rfl rfl (g_d rfl (Qad (Qah (Qat [0,1,2,3,4,5,6] rfl ?_))))
  refine Qb6 (ek:=QaZ) (en:=(int .i64)) hs rfl rfl rfl ?_
  intro b10 w hs
  refine g_d rfl ?_
  try dsimp only [Qap,Qaq]
  refine QaK rfl rfl (es:=(([int .i8 a1.Qac,int .i8 a1.Qaf,v2]:List Value))) rfl rfl (fun _=>rfl) (n:=3) (fun _=>rfl) rfl (cells_all (hs.cells 2 rfl)) (g_d rfl ?_)
  obtain ⟨r12,Hr12,H⟩:=bind_get H
  refine QaG (args:=[agg (([int .i8 a1.Qac,int .i8 a1.Qaf,v2]:List Value)).toArray]) rfl rfl (QaH rfl (callFunc_enter Try.func16 rfl rfl) rfl) (QaR.calls (a1:=(⟨a1.Qac,a1.Qaf,a1.Qai⟩:Qae)) (hs.rd hr3) Hr12) ?_
  rintro _ w ⟨rfl,hs2⟩
  have hs:St _ [_,_,_] _:=hs.call hs2
  refine g_d rfl ?_
  try dsimp only [Qap,Qaq]
  refine Qab (v:=agg (Qaa (⟨r12,false⟩:Qag)).toArray) rfl rfl (QbD (cs:=(Qaa (⟨r12,false⟩:Qag))) (segs:=[[int .u16 0],[bool false]]) rfl rfl (fun _=>rfl) ⟨rfl,(fun _=>rfl),rfl,(fun _=>rfl),trivial⟩ (by simp only [List.map_cons,List.map_nil,List.forall_mem_cons,List.not_mem_nil,false_implies,implies_true,and_true];exact ⟨_,rfl,rfl⟩) (by first|rfl|(simp [ev,Qaa];done)|(simp [ev,Qaa];rfl))) ?_
  refine g_d rfl ?_
  refine Qb2 Qbj (a:=(⟨r12,false⟩:Qag)) (v:=1) hs rfl rfl (.inr rfl) Try.underlying50 rfl rfl rfl ?_
  intro w hs
  refine g_n rfl ?_
  refine Qab (v:=Value.map (some b10)) rfl rfl rfl (g_d rfl ?_)
  refine Qab (v:=Value.map (some b10)) rfl rfl rfl (g_d rfl ?_)
  try dsimp only [Qap,Qaq]
  refine Qad (Qah (Qah (Qat [0,1,2,3] rfl ?_)))
  refine QaK rfl rfl (es:=(([int .i8 a1.Qac,int .i8 a1.Qaf,v2]:List Value))) rfl rfl (fun _=>rfl) (n:=3) (fun _=>rfl) rfl (cells_all (hs.cells 2 rfl)) (g_d rfl ?_)
  obtain ⟨r13,Hr13,H⟩:=bind_get H
  refine QaG (args:=[agg (([int .i8 a1.Qac,int .i8 a1.Qaf,v2]:List Value)).toArray]) rfl rfl (QaH rfl (callFunc_enter Try.func17 rfl rfl) rfl) (Qal.calls (a1:=(⟨a1.Qac,a1.Qaf,a1.Qai⟩:Qae)) (hs.rd hr3) Hr13) ?_
  intro v14 w hs2
  have hs:St _ [_,_,_,_] _:=hs.call hs2
  refine g_d rfl ?_
  try dsimp only [Qap,Qaq]
  refine QbA (hs.row 0 rfl) rfl rfl rfl rfl rfl (g_d rfl ?_)
  refine Qab (v:=int .i64 0) rfl rfl rfl (g_d rfl (Qad ?_))
  obtain ⟨o1_,Ho,Hr1_⟩:=bind_get H
  refine QaX (J:=fun t w=>∃ x79:(List (Qag×Int)),Qay.a0 N x79=some r∧Fr t (fun O=>(O 0::O 1::O 2::O 3::O 4::Value.map (some b10)::O 6::O 7::O 8::O 9::oT O 1 (oT O 2 (oT O 3 (oT O 4 (oT O 5 (oT O 6 (O 70::[])))))):List Value))∧St w0 [MapAs b10 QaZ (int .i64) x79] w) ?_ ?_
  ·
   rintro t w ⟨x79,H,hf,hs⟩
   obtain ⟨O,rfl⟩:=hf.open
   try dsimp only [oT]
   unfold Qay.a0 at H
   refine Qah (Qah (Qat [0,1,2,3] rfl ?_))
   refine Qab (v:=Value.map (some b10)) rfl rfl rfl (g_d rfl ?_)
   try dsimp only [Qap,Qaq]
   refine Qab (v:=agg (Qaa (⟨0,true⟩:Qag)).toArray) rfl rfl (QbD (cs:=(Qaa (⟨0,true⟩:Qag))) (segs:=[[int .u16 0],[bool false]]) rfl rfl (fun _=>rfl) ⟨rfl,(fun _=>rfl),rfl,(fun _=>rfl),trivial⟩ (by simp only [List.map_cons,List.map_nil,List.forall_mem_cons,List.not_mem_nil,false_implies,implies_true,and_true];exact ⟨_,rfl,rfl⟩) (by first|rfl|(simp [ev,Qaa];done)|(simp [ev,Qaa];rfl))) ?_
   refine g_d rfl ?_
   try dsimp only [Qap,Qaq]
   refine Qab (v:=int .i64 (mGet x79 (⟨0,true⟩:Qag) 0)) rfl rfl (QbU Qbj (a:=(⟨0,true⟩:Qag)) (z:=0) (hs.mp 0 rfl) rfl Try.underlying50 rfl rfl (fun _=>rfl)) (g_d rfl ?_)
   refine Qab (v:=int .i64 (mGet x79 (⟨0,true⟩:Qag) 0)) rfl rfl rfl (g_d rfl ?_)
   try dsimp only [Qap,Qaq]
   refine Qad (Qah (Qat [0,1] rfl ?_))
   refine Qab (v:=int .i64 (mGet x79 (⟨0,true⟩:Qag) 0)) rfl rfl rfl (g_d rfl ?_)
   refine QaQ (B:=decide ((mGet x79 (⟨0,true⟩:Qag) 0)>0)) rfl rfl rfl ?_ ?_
   ·
    intro hb
    rw [if_pos (b_dec_t hb)] at H
    refine g_d rfl ?_
    try dsimp only [Qap,Qaq]
    refine Qad (Qav rfl (Qah (Qat [0,1,2] rfl ?_)))
    refine Qab (v:=int .i64 (mGet x79 (⟨0,true⟩:Qag) 0)) rfl rfl rfl (g_d rfl ?_)
    refine Qab (v:=int .i64 (mGet x79 (⟨0,true⟩:Qag) 0)) rfl rfl rfl (g_d rfl ?_)
    refine Qab (v:=int .i64 0) rfl rfl rfl (g_d rfl ?_)
    try dsimp only [Qap,Qaq]
    refine Qad ?_
    obtain rfl:=QsJ H
    refine QaI Try.func7 (v:=tuple #[int .i64 (mGet x79 (⟨0,true⟩:Qag) 0),int .i64 0]) (resN (l:=Try.f7.results.toList) (vs:=[int .i64 (mGet x79 (⟨0,true⟩:Qag) 0),int .i64 0]) rfl ⟨rfl,rfl,trivial⟩ (by simp)) ?_
    have hs:St _ [] _:=St.take (Γ':=[_]) hs
    exact ⟨_,rfl,rfl,hs⟩
   intro hb
   rw [if_neg (b_dec_f hb)] at H
   refine g_d rfl (Qad (Qax rfl (QaO (Qah (Qat [0,1] rfl ?_)))))
   refine Qab (v:=int .i64 0) rfl rfl rfl (g_d rfl ?_)
   try dsimp only [Qap,Qaq]
   refine Qab (v:=int .i64 6) rfl rfl rfl (g_d rfl (Qad ?_))
   obtain rfl:=QsJ H
   refine QaI Try.func7 (v:=tuple #[int .i64 0,int .i64 6]) (resN (l:=Try.f7.results.toList) (vs:=[int .i64 0,int .i64 6]) rfl ⟨rfl,rfl,trivial⟩ (by simp)) ?_
   have hs:St _ [] _:=St.take (Γ':=[_]) hs
   exact ⟨_,rfl,rfl,hs⟩
  intro ha1_
  have hs:=hs.pull 0 rfl
  have hs:=hs.pull 1 rfl
  have hs:=hs.pull 2 rfl
  have hs:=hs.pull 3 rfl
  have hs:St _ [_,_,_,_] _:=St.take (Γ':=[]) hs
  refine Qa9 (I:=fun n_ t w=>∃ x47:(List (Qag×Int)),∃ x48:Int,rounds (fun s=>Qay.b0 N r13 a1 r7 s.1 s.2) n_ (x47,x48)=some o1_∧Fr t (fun O=>(O 0::pointer (some ⟨b4,0,none⟩)::O 2::O 3::v8::Value.map (some b10)::O 6::O 7::O 8::O 9::oT O 1 (O 20::O 21::O 22::v14::int .i64 (r13.length:Int)::int .i64 x48::O 26::O 27::O 28::O 29::oT O 3 (oT O 4 (oT O 5 (oT O 6 (O 70::[]))))):List Value))∧St w0 [Cells b4 (([int .i8 a1.Qac,int .i8 a1.Qaf,v2]:List Value)) 29,Row 57 (K.int .i16) v8 r7,MapAs b10 QaZ (int .i64) x47,Row 54 QaM v14 r13] w) N ⟨mSet ([]:(List (Qag×Int))) (⟨r12,false⟩:Qag) 1,0,Ho,rfl,hs⟩ ?_ ?_
  ·
   rintro _ _ ⟨x47,x48,h,_⟩
   exact rounds_zero h
  intro n_ ih1_
  rintro t w ⟨x47,x48,Ho,hf,hs⟩
  obtain ⟨O,rfl⟩:=hf.open
  try dsimp only [oT]
  obtain ⟨x25_,H,Hx1_⟩:=rounds_succ Ho
  have H:Qay.b0 N r13 a1 r7 x47 x48=some x25_:=H
  unfold Qay.b0 at H
  refine Qah (Qat [0] rfl ?_)
  refine QaQ (B:=decide (x48< (r13.length:Int))) rfl rfl rfl ?_ ?_
  ·
   intro hb
   rw [if_pos (b_dec_t hb)] at H
   refine g_d rfl (Qad (Qah (Qav rfl (QaO (Qah ?_)))))
   refine Qby (Qah (Qat [0,1,2,3] rfl ?_))
   obtain ⟨g13,H⟩:=ite_get H
   refine QbH QaT Qaj (hs.row 3 rfl) rfl (fun _=>rfl) g13.1 g13.2 rfl rfl rfl rfl rfl ?_
   intro p49 hp49 lp49 op49
   refine g_d rfl ?_
   try dsimp only [Qap,Qaq]
   refine QaK rfl rfl (es:=(Qaw (rdL r13 x48 Qaj))) rfl rfl (fun _=>rfl) (n:=5) (fun _=>rfl) (QaT.len _) hp49 (g_d rfl ?_)
   refine Qbz hs rfl rfl (z:=(agg #[int .u16 0,bool false,int .i64 0,int .u16 0,int .i64 0])) (cs:=(Qaw Qaj)) rfl (fun _=>rfl) rfl ?_
   intro b50 w hs
   refine g_d rfl ?_
   try dsimp only [Qap,Qaq]
   refine Qbf (n:=5) hs (QaT.len _) rfl rfl (vs:=(Qaw (rdL r13 x48 Qaj))) rfl rfl rfl (fun _=>rfl) (QaT.len _) (QaT.one _) ?_
   intro w hs
   refine g_n rfl (Qad (Qah (Qat [0,1,2,3,4,5] rfl ?_)))
   refine QaK rfl rfl (es:=(([int .i8 a1.Qac,int .i8 a1.Qaf,v2]:List Value))) rfl rfl (fun _=>rfl) (n:=3) (fun _=>rfl) rfl (cells_all (hs.cells 1 rfl)) (g_d rfl ?_)
   refine Qab (v:=pointer (some ⟨b50,0,none⟩)) rfl rfl rfl (g_d rfl ?_)
   refine QaK rfl rfl (es:=(Qaa ((rdL r13 x48 Qaj).Qak))) rfl rfl (fun _=>rfl) (n:=2) (fun _=>rfl) (Qar.len _) (cells_load (hs.cells 0 rfl) 0 2 (by simp only [Qaw];first|rfl|exact List.take_of_length_le (Nat.le_of_eq (Qar.len _))|simp [List.drop_append,List.take_append,encAI_len,encAB_len,encA_len,List.take_of_length_le])) ?_
   refine g_d rfl ?_
   try dsimp only [Qap,Qaq]
   obtain ⟨r52,Hr52,H⟩:=bind_get H
   refine QaG (args:=[agg (([int .i8 a1.Qac,int .i8 a1.Qaf,v2]:List Value)).toArray,agg (Qaa ((rdL r13 x48 Qaj).Qak)).toArray]) rfl rfl (QaH rfl (callFunc_enter Try.func18 rfl rfl) rfl) (QaC.calls (a1:=(⟨a1.Qac,a1.Qaf,a1.Qai⟩:Qae)) (a4:=(rdL r13 x48 Qaj).Qak) (hs.rd hr3) Hr52) ?_
   intro v53 w hs2
   have hs:St _ [_,_,_,_,_,_] _:=hs.call hs2
   refine g_d rfl ?_
   refine QbA (hs.row 0 rfl) rfl rfl rfl rfl rfl (g_d rfl ?_)
   try dsimp only [Qap,Qaq]
   refine Qab (v:=int .i64 0) rfl rfl rfl (g_d rfl (Qad ?_))
   obtain ⟨o2_,Ho,Hr2_⟩:=bind_get H
   refine QaX (J:=fun t w=>∃ x77:(List (Qag×Int)),Qay.a2 N x48 x77=some x25_∧Fr t (fun O=>(O 0::pointer (some ⟨b4,0,none⟩)::O 2::O 3::v8::Value.map (some b10)::O 6::O 7::O 8::O 9::oT O 1 (O 20::O 21::O 22::v14::int .i64 (r13.length:Int)::int .i64 x48::O 26::O 27::O 28::O 29::oT O 3 (oT O 4 (oT O 5 (oT O 6 (O 70::[]))))):List Value))∧St w0 [Cells b4 (([int .i8 a1.Qac,int .i8 a1.Qaf,v2]:List Value)) 29,Row 57 (K.int .i16) v8 r7,MapAs b10 QaZ (int .i64) x77,Row 54 QaM v14 r13] w) ?_ ?_
   ·
    rintro t w ⟨x77,H,hf,hs⟩
    obtain ⟨O,rfl⟩:=hf.open
    try dsimp only [oT]
    unfold Qay.a2 at H
    refine Qa2 (Qat [0,1] rfl ?_)
    refine Qab (v:=int .i64 (i64w (x48+1))) rfl rfl rfl (g_d rfl ?_)
    try dsimp only [Qap,Qaq]
    refine Qab (v:=int .i64 (i64w (x48+1))) rfl rfl rfl (g_d rfl (Qad ?_))
    obtain rfl:=QsJ H
    have hs:=hs.pull 3 rfl
    have hs:=hs.pull 3 rfl
    have hs:=hs.pull 3 rfl
    have hs:=hs.pull 3 rfl
    have hs:St _ [_,_,_,_] _:=St.take (Γ':=[]) hs
    exact ih1_ _ _ ⟨x77,i64w (x48+1),Hx1_,rfl,hs⟩
   intro ha2_
   have hs:=hs.pull 0 rfl
   have hs:=hs.pull 5 rfl
   have hs:=hs.pull 2 rfl
   have hs:=hs.pull 5 rfl
   have hs:=hs.pull 5 rfl
   have hs:=hs.pull 5 rfl
   have hs:St _ [_,_,_,_,_,_] _:=St.take (Γ':=[]) hs
   refine Qa9 (I:=fun n_ t w=>∃ x65:(List (Qag×Int)),∃ x66:Int,rounds (fun s=>Qay.b2 N r52 r13 x48 a1 r7 s.1 s.2) n_ (x65,x66)=some o2_∧Fr t (fun O=>(O 0::pointer (some ⟨b4,0,none⟩)::O 2::O 3::v8::Value.map (some b10)::O 6::pointer (some ⟨b50,0,none⟩)::O 8::O 9::oT O 1 (O 20::O 21::O 22::v14::int .i64 (r13.length:Int)::int .i64 x48::O 26::O 27::O 28::O 29::O 30::O 31::v53::int .i64 (r52.length:Int)::int .i64 x66::O 35::O 36::O 37::O 38::O 39::oT O 4 (oT O 5 (oT O 6 (O 70::[])))):List Value))∧St w0 [Cells b4 (([int .i8 a1.Qac,int .i8 a1.Qaf,v2]:List Value)) 29,Row 57 (K.int .i16) v8 r7,MapAs b10 QaZ (int .i64) x65,Cells b50 (Qaw (rdL r13 x48 Qaj)) 54,Row 54 QaM v14 r13,Row 46 (K.int .u16) v53 r52] w) N ⟨x47,0,Ho,rfl,hs⟩ ?_ ?_
   ·
    rintro _ _ ⟨x65,x66,h,_⟩
    exact rounds_zero h
   intro n_ ih2_
   rintro t w ⟨x65,x66,Ho,hf,hs⟩
   obtain ⟨O,rfl⟩:=hf.open
   try dsimp only [oT]
   obtain ⟨x24_,H,Hx2_⟩:=rounds_succ Ho
   have H:Qay.b2 N r52 r13 x48 a1 r7 x65 x66=some x24_:=H
   unfold Qay.b2 at H
   refine Qah (Qat [0] rfl ?_)
   refine QaQ (B:=decide (x66< (r52.length:Int))) rfl rfl rfl ?_ ?_
   ·
    intro hb
    rw [if_pos (b_dec_t hb)] at H
    refine g_d rfl ?_
    try dsimp only [Qap,Qaq]
    refine Qad (Qah (Qav rfl (QaO (Qah ?_))))
    refine QaX (J:=(fun t w=>∃ x73:(List (Qag×Int)),Qay.j4 N x66 x73=some x24_∧Fr t (fun O=>(O 0::pointer (some ⟨b4,0,none⟩)::O 2::O 3::v8::Value.map (some b10)::O 6::pointer (some ⟨b50,0,none⟩)::O 8::O 9::oT O 1 (O 20::O 21::O 22::v14::int .i64 (r13.length:Int)::int .i64 x48::O 26::O 27::O 28::O 29::O 30::O 31::v53::int .i64 (r52.length:Int)::int .i64 x66::O 35::O 36::O 37::O 38::O 39::oT O 4 (oT O 5 (oT O 6 (O 70::[])))):List Value))∧St w0 [Cells b4 (([int .i8 a1.Qac,int .i8 a1.Qaf,v2]:List Value)) 29,Row 57 (K.int .i16) v8 r7,MapAs b10 QaZ (int .i64) x73,Cells b50 (Qaw (rdL r13 x48 Qaj)) 54,Row 54 QaM v14 r13,Row 46 (K.int .u16) v53 r52] w)) ?_ ?_
    ·
     rintro t w ⟨x73,H,hf,hs⟩
     obtain ⟨O,rfl⟩:=hf.open
     try dsimp only [oT]
     unfold Qay.j4 at H
     refine Qat [0,1] rfl ?_
     refine Qab (v:=int .i64 (i64w (x66+1))) rfl rfl rfl (g_d rfl ?_)
     refine Qab (v:=int .i64 (i64w (x66+1))) rfl rfl rfl (g_d rfl (Qad ?_))
     obtain rfl:=QsJ H
     have hs:=hs.pull 5 rfl
     have hs:=hs.pull 5 rfl
     have hs:=hs.pull 5 rfl
     have hs:=hs.pull 5 rfl
     have hs:=hs.pull 5 rfl
     have hs:=hs.pull 5 rfl
     have hs:St _ [_,_,_,_,_,_] _:=St.take (Γ':=[]) hs
     exact ih2_ _ _ ⟨x73,i64w (x66+1),Hx2_,rfl,hs⟩
    intro ha
    refine Qah (Qat [0,1,2] rfl ?_)
    obtain ⟨g19,H⟩:=ite_get H
    refine QbH (fkI .u16) 0 (hs.row 5 rfl) rfl (fun _=>rfl) g19.1 g19.2 rfl rfl rfl rfl rfl ?_
    intro p67 hp67 lp67 op67
    refine g_d rfl ?_
    refine Qaz rfl rfl (v:=int .u16 (rdL r52 x66 0)) rfl rfl (fun _=>rfl) hp67 (g_d rfl ?_)
    try dsimp only [Qap,Qaq]
    refine Qab (v:=int .u16 (rdL r52 x66 0)) rfl rfl rfl (g_d rfl (Qad (Qah (Qat [0,1,2,3,4,5] rfl ?_))))
    refine Qab (v:=pointer (some ⟨b50,0,none⟩)) rfl rfl rfl (g_d rfl ?_)
    refine QaK rfl rfl (es:=(Qaa ((rdL r13 x48 Qaj).Qak))) rfl rfl (fun _=>rfl) (n:=2) (fun _=>rfl) (Qar.len _) (cells_load (hs.cells 3 rfl) 0 2 (by simp only [Qaw];first|rfl|exact List.take_of_length_le (Nat.le_of_eq (Qar.len _))|simp [List.drop_append,List.take_append,encAI_len,encAB_len,encA_len,List.take_of_length_le])) ?_
    refine g_d rfl ?_
    try dsimp only [Qap,Qaq]
    refine Qab (v:=int .u16 (rdL r52 x66 0)) rfl rfl rfl (g_d rfl ?_)
    obtain ⟨r68,Hr68,H⟩:=bind_get H
    refine QaG (args:=[agg (Qaa ((rdL r13 x48 Qaj).Qak)).toArray,int .u16 (rdL r52 x66 0)]) rfl rfl (QaH rfl (callFunc_enter Try.func19 rfl rfl) rfl) (Qa7.calls (a1:=(rdL r13 x48 Qaj).Qak) (a2:=rdL r52 x66 0) Hr68) ?_
    rintro _ w ⟨rfl,hs2⟩
    have hs:St _ [_,_,_,_,_,_] _:=hs.call hs2
    refine g_d rfl ?_
    refine Qbz hs rfl rfl (z:=(agg #[int .u16 0,bool false])) (cs:=(Qaa Qbb)) rfl (fun _=>rfl) rfl ?_
    intro b69 w hs
    refine g_d rfl ?_
    try dsimp only [Qap,Qaq]
    refine Qbf (n:=2) hs (Qar.len _) rfl rfl (vs:=(Qaa r68)) rfl rfl rfl (fun _=>rfl) (Qar.len _) (Qar.one _) ?_
    intro w hs
    refine g_n rfl (Qad (Qah ?_))
    refine QbO (n:=11) rfl [0,1,2,3,4,5,6,7,8,9,10] [0,1,2,3,4,5,6,7,8,9,10] rfl rfl ?_
    intro rest w hh hbw hO
    have hs:=hs.samew hh hbw
    try dsimp only [Qap,Qaq]
    obtain ⟨r71,Hr71,H⟩:=bind_get H
    obtain ⟨gd21,H⟩:=ite_get H
    obtain ⟨ad22_,ad22_N,ad22_C,had22_⟩:=sl_at (hs.row 2 rfl) gd21.1 gd21.2
    refine Qa6 ?_
    intro T hT
    refine Qbw (m0:=0) hO rfl 1023 [0,1,2,3,4,5,6,7,8,9] [0,0,0,6,15,31,63,0,128,384,1023] (by decide+kernel) (fun D t w=>∃ O:Nat→Value,t=(O 0::pointer (some ⟨b4,0,none⟩)::O 2::O 3::v8::Value.map (some b10)::O 6::pointer (some ⟨b50,0,none⟩)::O 8::int .u16 (rdL r52 x66 0)::pointer (some ⟨b69,0,none⟩)::O 11::O 12::O 13::O 14::O 15::O 16::O 17::O 18::O 19::O 20::O 21::O 22::v14::int .i64 (r13.length:Int)::int .i64 x48::O 26::O 27::O 28::O 29::O 30::O 31::v53::int .i64 (r52.length:Int)::int .i64 x66::bool true::pointer (some p67)::int .u16 (rdL r52 x66 0)::pointer (some ⟨b50,0,none⟩)::agg (Qaa ((rdL r13 x48 Qaj).Qak)).toArray::int .u16 (rdL r52 x66 0)::agg (Qaa r68).toArray::cnd (D 0) v8 (O 42)::cnd (D 1) (agg (([int .i8 a1.Qac,int .i8 a1.Qaf,v2]:List Value)).toArray) (O 43)::cnd (D 2) (agg (Qaa r68).toArray) (O 44)::cnd (D 3) (int .i64 r71) (O 45)::cnd (D 4) (pointer (some (ad22_.add (r71.toNat*1)))) (O 46)::cnd (D 5) (int .i16 (rdL r7 r71 0)) (O 47)::cnd (D 6) (int .i64 (i64w (rdL r7 r71 0))) (O 48)::cnd (D 7) (pointer (some ⟨b50,4,none⟩)) (O 49)::cnd (D 8) (int .i64 ((rdL r13 x48 Qaj).QaA)) (O 50)::cnd (D 9) (int .i64 (i64w (((rdL r13 x48 Qaj).QaA)+1))) (O 51)::O 52::O 53::O 54::O 55::O 56::O 57::O 58::O 59::oT O 6 (O 70::[]))∧St w0 [Cells b69 (Qaa r68) 49,Cells b4 (([int .i8 a1.Qac,int .i8 a1.Qaf,v2]:List Value)) 29,Row 57 (K.int .i16) v8 r7,MapAs b10 QaZ (int .i64) x65,Cells b50 (Qaw (rdL r13 x48 Qaj)) 54,Row 54 QaM v14 r13,Row 46 (K.int .u16) v53 r52] w) ?_ ⟨?_,⟨?_,⟨?_,⟨?_,⟨?_,⟨?_,⟨?_,⟨?_,⟨?_,⟨?_,trivial⟩⟩⟩⟩⟩⟩⟩⟩⟩⟩ ?_
    ·exact ⟨fun i=>T.getD i undef,(by subst hT;rfl),hs⟩
    ·
     rintro D t w hD hp hcl ⟨O,ht,hs⟩ rest hk
     have hp:AllDone D []:=hp
     have q4_:=ny hcl 4 0 hD
     have q5_:=ny hcl 5 0 q4_
     have q6_:=ny hcl 6 0 q5_
     simp only [hD,q4_,q5_,q6_,cq,oT] at ht hs
     subst ht
     refine Qab (v:=v8) rfl rfl rfl (g_d rfl ?_)
     try dsimp only [Qap,Qaq]
     refine hk _ _ ⟨O,?_,hs.cast ?_⟩<;>simp only [oT,lq,cq,Nat.reduceBEq,q4_,q5_,q6_]
    ·
     rintro D t w hD hp hcl ⟨O,ht,hs⟩ rest hk
     have hp:AllDone D []:=hp
     have q3_:=ny hcl 3 0 hD
     have q4_:=ny hcl 4 1 q3_
     have q5_:=ny hcl 5 0 q4_
     have q6_:=ny hcl 6 0 q5_
     simp only [hD,q3_,q4_,q5_,q6_,cq,oT] at ht hs
     subst ht
     refine QaK rfl rfl (es:=(([int .i8 a1.Qac,int .i8 a1.Qaf,v2]:List Value))) rfl rfl (fun _=>rfl) (n:=3) (fun _=>rfl) rfl (cells_all (hs.cells 1 rfl)) (g_d rfl ?_)
     try dsimp only [Qap,Qaq]
     refine hk _ _ ⟨O,?_,hs.cast ?_⟩<;>simp only [oT,lq,cq,Nat.reduceBEq,q3_,q4_,q5_,q6_]
    ·
     rintro D t w hD hp hcl ⟨O,ht,hs⟩ rest hk
     have hp:AllDone D []:=hp
     have q3_:=ny hcl 3 1 hD
     have q4_:=ny hcl 4 1 q3_
     have q5_:=ny hcl 5 0 q4_
     have q6_:=ny hcl 6 0 q5_
     simp only [hD,q3_,q4_,q5_,q6_,cq,oT] at ht hs
     subst ht
     refine QaK rfl rfl (es:=(Qaa r68)) rfl rfl (fun _=>rfl) (n:=2) (fun _=>rfl) (Qar.len _) (cells_all (hs.cells 0 rfl)) (g_d rfl ?_)
     try dsimp only [Qap,Qaq]
     refine hk _ _ ⟨O,?_,hs.cast ?_⟩<;>simp only [oT,lq,cq,Nat.reduceBEq,q3_,q4_,q5_,q6_]
    ·
     rintro D t w hD hp hcl ⟨O,ht,hs⟩ rest hk
     have hp:AllDone D [1,2]:=hp
     obtain ⟨p1_,p2_,_⟩:=hp
     have q4_:=ny hcl 4 1 hD
     have q5_:=ny hcl 5 0 q4_
     have q6_:=ny hcl 6 0 q5_
     simp only [hD,p1_,p2_,q4_,q5_,q6_,cq,oT] at ht hs
     subst ht
     refine QaG (args:=[agg (([int .i8 a1.Qac,int .i8 a1.Qaf,v2]:List Value)).toArray,agg (Qaa r68).toArray]) rfl rfl (QaH rfl (callFunc_enter Try.func20 rfl rfl) rfl) (Qa5.calls (a1:=(⟨a1.Qac,a1.Qaf,a1.Qai⟩:Qae)) (a4:=r68) (hs.rd hr3) Hr71) ?_
     rintro _ w ⟨rfl,hs2⟩
     have hs:St _ [_,_,_,_,_,_,_] _:=hs.call hs2
     refine g_d rfl ?_
     try dsimp only [Qap,Qaq]
     refine hk _ _ ⟨O,?_,hs.cast ?_⟩<;>simp only [oT,lq,cq,Nat.reduceBEq,p1_,p2_,q4_,q5_,q6_]
    ·
     rintro D t w hD hp hcl ⟨O,ht,hs⟩ rest hk
     have hp:AllDone D [0,3]:=hp
     obtain ⟨p0_,p3_,_⟩:=hp
     obtain ⟨p1_,p2_,_⟩:=(show D 3=true→AllDone D [1,2] from hcl 3 (by decide)) p3_
     have q5_:=ny hcl 5 0 hD
     have q6_:=ny hcl 6 0 q5_
     simp only [hD,p0_,p1_,p2_,p3_,q5_,q6_,cq,oT] at ht hs
     subst ht
     refine QbC (κ:=(K.int .i16)) (m:=1) rfl (hs.row 2 rfl) rfl (fun _=>rfl) gd21.1 gd21.2 had22_ rfl rfl rfl rfl rfl (g_d rfl ?_)
     try dsimp only [Qap,Qaq]
     refine hk _ _ ⟨O,?_,hs.cast ?_⟩<;>simp only [oT,lq,cq,Nat.reduceBEq,p0_,p1_,p2_,p3_,q5_,q6_]
    ·
     rintro D t w hD hp hcl ⟨O,ht,hs⟩ rest hk
     have hp:AllDone D [4]:=hp
     obtain ⟨p4_,_⟩:=hp
     obtain ⟨p0_,p3_,_⟩:=(show D 4=true→AllDone D [0,3] from hcl 4 (by decide)) p4_
     obtain ⟨p1_,p2_,_⟩:=(show D 3=true→AllDone D [1,2] from hcl 3 (by decide)) p3_
     have q6_:=ny hcl 6 0 hD
     simp only [hD,p0_,p1_,p2_,p3_,p4_,q6_,cq,oT] at ht hs
     subst ht
     refine Qaz rfl rfl (v:=int .i16 (rdL r7 r71 0)) rfl rfl (fun _=>rfl) (cellsAt_of (fkI .i16) 0 (hs.row 2 rfl) had22_ gd21.1 gd21.2) (g_d rfl ?_)
     try dsimp only [Qap,Qaq]
     refine hk _ _ ⟨O,?_,hs.cast ?_⟩<;>simp only [oT,lq,cq,Nat.reduceBEq,p0_,p1_,p2_,p3_,p4_,q6_]
    ·
     rintro D t w hD hp hcl ⟨O,ht,hs⟩ rest hk
     have hp:AllDone D [5]:=hp
     obtain ⟨p5_,_⟩:=hp
     obtain ⟨p4_,_⟩:=(show D 5=true→AllDone D [4] from hcl 5 (by decide)) p5_
     obtain ⟨p0_,p3_,_⟩:=(show D 4=true→AllDone D [0,3] from hcl 4 (by decide)) p4_
     obtain ⟨p1_,p2_,_⟩:=(show D 3=true→AllDone D [1,2] from hcl 3 (by decide)) p3_
     simp only [hD,p0_,p1_,p2_,p3_,p4_,p5_,cq,oT] at ht hs
     subst ht
     refine Qab (v:=int .i64 (i64w (rdL r7 r71 0))) rfl rfl rfl (g_d rfl ?_)
     try dsimp only [Qap,Qaq]
     refine hk _ _ ⟨O,?_,hs.cast ?_⟩<;>simp only [oT,lq,cq,Nat.reduceBEq,p0_,p1_,p2_,p3_,p4_,p5_]
    ·
     rintro D t w hD hp hcl ⟨O,ht,hs⟩ rest hk
     have hp:AllDone D []:=hp
     have q8_:=ny hcl 8 0 hD
     have q9_:=ny hcl 9 0 q8_
     simp only [hD,q8_,q9_,cq,oT] at ht hs
     subst ht
     refine Qab (v:=pointer (some ⟨b50,4,none⟩)) rfl rfl rfl (g_d rfl ?_)
     try dsimp only [Qap,Qaq]
     refine hk _ _ ⟨O,?_,hs.cast ?_⟩<;>simp only [oT,lq,cq,Nat.reduceBEq,q8_,q9_]
    ·
     rintro D t w hD hp hcl ⟨O,ht,hs⟩ rest hk
     have hp:AllDone D [7]:=hp
     obtain ⟨p7_,_⟩:=hp
     have q9_:=ny hcl 9 0 hD
     simp only [hD,p7_,q9_,cq,oT] at ht hs
     subst ht
     refine Qaz rfl rfl (v:=int .i64 ((rdL r13 x48 Qaj).QaA)) rfl rfl (fun _=>rfl) (cells_load (hs.cells 4 rfl) 4 1 (by first|rfl|(simp only [Qaw];simp [List.drop_append,List.take_append,encAI_len,encAB_len,List.take_of_length_le]))) (g_d rfl ?_)
     try dsimp only [Qap,Qaq]
     refine hk _ _ ⟨O,?_,hs.cast ?_⟩<;>simp only [oT,lq,cq,Nat.reduceBEq,p7_,q9_]
    ·
     rintro D t w hD hp hcl ⟨O,ht,hs⟩ rest hk
     have hp:AllDone D [8]:=hp
     obtain ⟨p8_,_⟩:=hp
     obtain ⟨p7_,_⟩:=(show D 8=true→AllDone D [7] from hcl 8 (by decide)) p8_
     simp only [hD,p7_,p8_,cq,oT] at ht hs
     subst ht
     refine Qab (v:=int .i64 (i64w (((rdL r13 x48 Qaj).QaA)+1))) rfl rfl rfl (g_d rfl ?_)
     try dsimp only [Qap,Qaq]
     refine hk _ _ ⟨O,?_,hs.cast ?_⟩<;>simp only [oT,lq,cq,Nat.reduceBEq,p7_,p8_]
    intro D t w rest hall hO20_ hI
    obtain ⟨O,ht,hs⟩:=hI
    have p0_:=hall 0 (by decide) rfl
    have p1_:=hall 1 (by decide) rfl
    have p2_:=hall 2 (by decide) rfl
    have p3_:=hall 3 (by decide) rfl
    have p4_:=hall 4 (by decide) rfl
    have p5_:=hall 5 (by decide) rfl
    have p6_:=hall 6 (by decide) rfl
    have p7_:=hall 7 (by decide) rfl
    have p8_:=hall 8 (by decide) rfl
    have p9_:=hall 9 (by decide) rfl
    simp only [p0_,p1_,p2_,p3_,p4_,p5_,p6_,p7_,p8_,p9_,cq,oT] at ht hs
    subst ht
    obtain ⟨rest,rfl,hO23_⟩:=ord_one (m:=1023) hO20_ rfl 10 (m':=2047) (by decide+kernel) rfl
    clear hO20_
    refine QaQ (B:=(i64w (rdL r7 r71 0))==(i64w (((rdL r13 x48 Qaj).QaA)+1))) rfl rfl rfl ?_ ?_
    ·
     intro hb
     rw [if_pos (b_beq_t hb)] at H
     refine g_d rfl ?_
     try dsimp only [Qap,Qaq]
     obtain rfl:=ord_end hO23_ rfl (by decide+kernel)
     refine Qad (Qav rfl ?_)
     refine Qa6 ?_
     intro T hT
     refine QbF (n:=11) rfl [0,1,2,3,4,5,6,7,8,9,10] [0,1,2,3,4,5,6,7,8,9,10] rfl rfl (Inv:=fun D t w=>∃ O:Nat→Value,t=(O 0::pointer (some ⟨b4,0,none⟩)::O 2::O 3::v8::Value.map (some b10)::O 6::pointer (some ⟨b50,0,none⟩)::O 8::int .u16 (rdL r52 x66 0)::pointer (some ⟨b69,0,none⟩)::O 11::O 12::O 13::O 14::O 15::O 16::O 17::O 18::O 19::O 20::O 21::O 22::v14::int .i64 (r13.length:Int)::int .i64 x48::O 26::O 27::O 28::O 29::O 30::O 31::v53::int .i64 (r52.length:Int)::int .i64 x66::bool true::pointer (some p67)::int .u16 (rdL r52 x66 0)::pointer (some ⟨b50,0,none⟩)::agg (Qaa ((rdL r13 x48 Qaj).Qak)).toArray::int .u16 (rdL r52 x66 0)::agg (Qaa r68).toArray::v8::agg (([int .i8 a1.Qac,int .i8 a1.Qaf,v2]:List Value)).toArray::agg (Qaa r68).toArray::int .i64 r71::pointer (some (ad22_.add (r71.toNat*1)))::int .i16 (rdL r7 r71 0)::int .i64 (i64w (rdL r7 r71 0))::pointer (some ⟨b50,4,none⟩)::int .i64 ((rdL r13 x48 Qaj).QaA)::int .i64 (i64w (((rdL r13 x48 Qaj).QaA)+1))::bool true::cnd (D 0) (Value.map (some b10)) (O 53)::cnd (D 1) (agg (Qaa r68).toArray) (O 54)::cnd (D 2) (int .i64 (mGet x65 r68 0)) (O 55)::cnd (D 3) (Value.map (some b10)) (O 56)::cnd (D 4) (pointer (some ⟨b50,0,none⟩)) (O 57)::cnd (D 5) (agg (Qaa ((rdL r13 x48 Qaj).Qak)).toArray) (O 58)::cnd (D 6) (int .i64 (mGet x65 ((rdL r13 x48 Qaj).Qak) 0)) (O 59)::cnd (D 7) (int .i64 (i64w ((mGet x65 r68 0)+(mGet x65 ((rdL r13 x48 Qaj).Qak) 0)))) (O 60)::cnd (D 8) (tuple #[int .i64 (mGet x65 r68 0),int .i64 (mPos x65 r68)]) (O 61)::cnd (D 9) (int .i64 (mPos x65 r68)) (O 62)::O 63::O 64::O 65::O 66::O 67::O 68::O 69::O 70::[])∧St w0 [Cells b69 (Qaa r68) 49,Cells b4 (([int .i8 a1.Qac,int .i8 a1.Qaf,v2]:List Value)) 29,Row 57 (K.int .i16) v8 r7,MapAs b10 QaZ (int .i64) (cnd (D 10) (mSet x65 r68 (i64w ((mGet x65 r68 0)+(mGet x65 ((rdL r13 x48 Qaj).Qak) 0)))) (cnd (D 8) (mEnt x65 r68 0) x65)),Cells b50 (Qaw (rdL r13 x48 Qaj)) 54,Row 54 QaM v14 r13,Row 46 (K.int .u16) v53 r52] w) ?_ ⟨⟨⟨⟨⟨⟨⟨⟨⟨⟨⟨trivial,?_⟩,?_⟩,?_⟩,?_⟩,?_⟩,?_⟩,?_⟩,?_⟩,?_⟩,?_⟩,?_⟩ ?_
     ·
      intro w hh hbw
      have hs:=hs.samew hh hbw
      exact ⟨fun i=>T.getD i undef,(by subst hT;rfl),hs⟩
     ·
      rintro D t w hD hp hcl ⟨O,ht,hs⟩ rest hk
      have q2_:=nz hcl 2 0 hD
      have q7_:=nz hcl 7 0 q2_
      have q8_:=nz hcl 8 0 hD
      have q9_:=nz hcl 9 0 q8_
      have q10_:=nz hcl 10 0 hD
      simp only [hD,q2_,q7_,q8_,q9_,q10_,cq,oT] at ht hs
      subst ht
      refine Qab (v:=Value.map (some b10)) rfl rfl rfl (g_d rfl ?_)
      try dsimp only [Qap,Qaq]
      refine hk _ _ ⟨O,?_,hs.cast ?_⟩<;>simp only [oT,lq,cq,Nat.reduceBEq,q2_,q7_,q8_,q9_,q10_]
     ·
      rintro D t w hD hp hcl ⟨O,ht,hs⟩ rest hk
      have q2_:=nz hcl 2 1 hD
      have q7_:=nz hcl 7 0 q2_
      have q8_:=nz hcl 8 1 hD
      have q9_:=nz hcl 9 0 q8_
      have q10_:=nz hcl 10 1 q9_
      simp only [hD,q2_,q7_,q8_,q9_,q10_,cq,oT] at ht hs
      subst ht
      refine QaK rfl rfl (es:=(Qaa r68)) rfl rfl (fun _=>rfl) (n:=2) (fun _=>rfl) (Qar.len _) (cells_all (hs.cells 0 rfl)) (g_d rfl ?_)
      try dsimp only [Qap,Qaq]
      refine hk _ _ ⟨O,?_,hs.cast ?_⟩<;>simp only [oT,lq,cq,Nat.reduceBEq,q2_,q7_,q8_,q9_,q10_]
     ·
      rintro D t w hD hp hcl ⟨O,ht,hs⟩ rest hk
      obtain ⟨p0_,p1_,_⟩:=hp
      have q7_:=nz hcl 7 0 hD
      have q10_:=nz hcl 10 2 q7_
      simp only [hD,p0_,p1_,q7_,q10_,cq,oT] at ht hs
      subst ht
      refine Qab (v:=int .i64 (mGet x65 r68 0)) rfl rfl (Qcn Qbj (a:=r68) (z:=0) (hs.mp 3 rfl) rfl Try.underlying50 rfl rfl (fun _=>rfl)) (g_d rfl ?_)
      try dsimp only [Qap,Qaq]
      refine hk _ _ ⟨O,?_,hs.cast ?_⟩<;>simp only [oT,lq,cq,Nat.reduceBEq,p0_,p1_,q7_,q10_]
     ·
      rintro D t w hD hp hcl ⟨O,ht,hs⟩ rest hk
      have q6_:=nz hcl 6 0 hD
      have q7_:=nz hcl 7 1 q6_
      have q8_:=nz hcl 8 4 hD
      have q9_:=nz hcl 9 0 q8_
      have q10_:=nz hcl 10 1 q9_
      simp only [hD,q6_,q7_,q8_,q9_,q10_,cq,oT] at ht hs
      subst ht
      refine Qab (v:=Value.map (some b10)) rfl rfl rfl (g_d rfl ?_)
      try dsimp only [Qap,Qaq]
      refine hk _ _ ⟨O,?_,hs.cast ?_⟩<;>simp only [oT,lq,cq,Nat.reduceBEq,q6_,q7_,q8_,q9_,q10_]
     ·
      rintro D t w hD hp hcl ⟨O,ht,hs⟩ rest hk
      have q5_:=nz hcl 5 0 hD
      have q6_:=nz hcl 6 1 q5_
      have q7_:=nz hcl 7 1 q6_
      have q8_:=nz hcl 8 5 hD
      have q9_:=nz hcl 9 0 q8_
      have q10_:=nz hcl 10 1 q9_
      simp only [hD,q5_,q6_,q7_,q8_,q9_,q10_,cq,oT] at ht hs
      subst ht
      refine Qab (v:=pointer (some ⟨b50,0,none⟩)) rfl rfl rfl (g_d rfl ?_)
      try dsimp only [Qap,Qaq]
      refine hk _ _ ⟨O,?_,hs.cast ?_⟩<;>simp only [oT,lq,cq,Nat.reduceBEq,q5_,q6_,q7_,q8_,q9_,q10_]
     ·
      rintro D t w hD hp hcl ⟨O,ht,hs⟩ rest hk
      obtain ⟨p4_,_⟩:=hp
      have q6_:=nz hcl 6 1 hD
      have q7_:=nz hcl 7 1 q6_
      have q8_:=nz hcl 8 6 hD
      have q9_:=nz hcl 9 0 q8_
      have q10_:=nz hcl 10 1 q9_
      simp only [hD,p4_,q6_,q7_,q8_,q9_,q10_,cq,oT] at ht hs
      subst ht
      refine QaK rfl rfl (es:=(Qaa ((rdL r13 x48 Qaj).Qak))) rfl rfl (fun _=>rfl) (n:=2) (fun _=>rfl) (Qar.len _) (cells_load (hs.cells 4 rfl) 0 2 (by simp only [Qaw];first|rfl|exact List.take_of_length_le (Nat.le_of_eq (Qar.len _))|simp [List.drop_append,List.take_append,encAI_len,encAB_len,encA_len,List.take_of_length_le])) ?_
      refine g_d rfl ?_
      try dsimp only [Qap,Qaq]
      refine hk _ _ ⟨O,?_,hs.cast ?_⟩<;>simp only [oT,lq,cq,Nat.reduceBEq,p4_,q6_,q7_,q8_,q9_,q10_]
     ·
      rintro D t w hD hp hcl ⟨O,ht,hs⟩ rest hk
      obtain ⟨p3_,p5_,_⟩:=hp
      obtain ⟨p4_,_⟩:=(hcl.get 5 (by decide)) p5_
      have q7_:=nz hcl 7 1 hD
      have q8_:=nz hcl 8 7 hD
      have q9_:=nz hcl 9 0 q8_
      have q10_:=nz hcl 10 1 q9_
      simp only [hD,p3_,p4_,p5_,q7_,q8_,q9_,q10_,cq,oT] at ht hs
      subst ht
      refine Qab (v:=int .i64 (mGet x65 ((rdL r13 x48 Qaj).Qak) 0)) rfl rfl (QbU Qbj (a:=(rdL r13 x48 Qaj).Qak) (z:=0) (hs.mp 3 rfl) rfl Try.underlying50 rfl rfl (fun _=>rfl)) (g_d rfl ?_)
      try dsimp only [Qap,Qaq]
      refine hk _ _ ⟨O,?_,hs.cast ?_⟩<;>simp only [oT,lq,cq,Nat.reduceBEq,p3_,p4_,p5_,q7_,q8_,q9_,q10_]
     ·
      rintro D t w hD hp hcl ⟨O,ht,hs⟩ rest hk
      obtain ⟨p2_,p6_,_⟩:=hp
      obtain ⟨p3_,p5_,_⟩:=(hcl.get 6 (by decide)) p6_
      obtain ⟨p4_,_⟩:=(hcl.get 5 (by decide)) p5_
      obtain ⟨p0_,p1_,_⟩:=(hcl.get 2 (by decide)) p2_
      have q10_:=nz hcl 10 2 hD
      simp only [hD,p0_,p1_,p2_,p3_,p4_,p5_,p6_,q10_,cq,oT] at ht hs
      subst ht
      refine Qab (v:=int .i64 (i64w ((mGet x65 r68 0)+(mGet x65 ((rdL r13 x48 Qaj).Qak) 0)))) rfl rfl rfl (g_d rfl ?_)
      try dsimp only [Qap,Qaq]
      refine hk _ _ ⟨O,?_,hs.cast ?_⟩<;>simp only [oT,lq,cq,Nat.reduceBEq,p0_,p1_,p2_,p3_,p4_,p5_,p6_,q10_]
     ·
      rintro D t w hD hp hcl ⟨O,ht,hs⟩ rest hk
      obtain ⟨p0_,p1_,_,_,p3_,p4_,p5_,p6_,_⟩:=hp
      have q9_:=nz hcl 9 0 hD
      have q10_:=nz hcl 10 1 q9_
      simp only [hD,p0_,p1_,p3_,p4_,p5_,p6_,q9_,q10_,cq,oT] at ht hs
      subst ht
      have hs:St _ [_,_,_,_,_,_,_] _:=hs.pull 3 rfl
      refine Qch Qbj (a:=r68) (z:=0) hs rfl rfl rfl Try.underlying50 rfl rfl (fun _=>rfl) ?_
      intro w hs
      refine g_d rfl ?_
      try dsimp only [Qap,Qaq]
      have hs:=hs.push 3 (by simp)
      refine hk _ _ ⟨O,?_,hs.cast ?_⟩<;>simp only [oT,lq,cq,Nat.reduceBEq,p0_,p1_,p3_,p4_,p5_,p6_,q9_,q10_]
     ·
      rintro D t w hD hp hcl ⟨O,ht,hs⟩ rest hk
      obtain ⟨p8_,_⟩:=hp
      obtain ⟨p0_,p1_,_,_,p3_,p4_,p5_,p6_,_⟩:=(hcl.get 8 (by decide)) p8_
      have q10_:=nz hcl 10 1 hD
      simp only [hD,p0_,p1_,p3_,p4_,p5_,p6_,p8_,q10_,cq,oT] at ht hs
      subst ht
      refine Qab (v:=int .i64 (mPos x65 r68)) rfl rfl rfl (g_d rfl ?_)
      try dsimp only [Qap,Qaq]
      refine hk _ _ ⟨O,?_,hs.cast ?_⟩<;>simp only [oT,lq,cq,Nat.reduceBEq,p0_,p1_,p3_,p4_,p5_,p6_,p8_,q10_]
     ·
      rintro D t w hD hp hcl ⟨O,ht,hs⟩ rest hk
      obtain ⟨p0_,p9_,p7_,p8_,_,p1_,p2_,p3_,p4_,p5_,p6_,_,_,_,_⟩:=hp
      simp only [hD,p0_,p1_,p2_,p3_,p4_,p5_,p6_,p7_,p8_,p9_,cq,oT] at ht hs
      subst ht
      have hs:St _ [_,_,_,_,_,_,_] _:=hs.pull 3 rfl
      refine Qb9 (a:=r68) (z:=0) (v:=i64w ((mGet x65 r68 0)+(mGet x65 ((rdL r13 x48 Qaj).Qak) 0))) hs rfl rfl rfl rfl rfl rfl ?_
      intro w hs
      refine g_n rfl ?_
      try dsimp only [Qap,Qaq]
      have hs:=hs.push 3 (by simp)
      refine hk _ _ ⟨O,?_,hs.cast ?_⟩<;>simp only [oT,lq,cq,Nat.reduceBEq,p0_,p1_,p2_,p3_,p4_,p5_,p6_,p7_,p8_,p9_]
     intro D t w hall hI
     obtain ⟨O,ht,hs⟩:=hI
     have p0_:=hall 0 (by decide)
     have p1_:=hall 1 (by decide)
     have p2_:=hall 2 (by decide)
     have p3_:=hall 3 (by decide)
     have p4_:=hall 4 (by decide)
     have p5_:=hall 5 (by decide)
     have p6_:=hall 6 (by decide)
     have p7_:=hall 7 (by decide)
     have p8_:=hall 8 (by decide)
     have p9_:=hall 9 (by decide)
     have p10_:=hall 10 (by decide)
     simp only [p0_,p1_,p2_,p3_,p4_,p5_,p6_,p7_,p8_,p9_,p10_,cq,oT] at ht hs
     subst ht
     refine Qa2 ?_
     have hs:=hs.pull 6 rfl
     have hs:=hs.pull 6 rfl
     have hs:=hs.pull 6 rfl
     have hs:=hs.pull 6 rfl
     have hs:=hs.pull 6 rfl
     have hs:=hs.pull 6 rfl
     have hs:St _ [_,_,_,_,_,_] _:=St.take (Γ':=[_]) hs
     exact ha _ _ ⟨mSet x65 r68 (i64w ((mGet x65 r68 0)+(mGet x65 ((rdL r13 x48 Qaj).Qak) 0))),H,rfl,hs⟩
    intro hb
    rw [if_neg (b_beq_f hb)] at H
    refine g_d rfl ?_
    obtain rfl:=ord_end hO23_ rfl (by decide+kernel)
    refine Qad (Qax rfl (QaO ?_))
    refine Qa2 ?_
    have hs:=hs.pull 6 rfl
    have hs:=hs.pull 6 rfl
    have hs:=hs.pull 6 rfl
    have hs:=hs.pull 6 rfl
    have hs:=hs.pull 6 rfl
    have hs:=hs.pull 6 rfl
    have hs:St _ [_,_,_,_,_,_] _:=St.take (Γ':=[_]) hs
    exact ha _ _ ⟨x65,H,rfl,hs⟩
   intro hb
   rw [if_neg (b_dec_f hb)] at H
   refine g_d rfl (Qad (Qah (Qax rfl ?_)))
   obtain rfl:=QsJ H
   subst Hx2_
   have hs:=hs.pull 4 rfl
   have hs:=hs.pull 3 rfl
   have hs:=hs.pull 3 rfl
   have hs:=hs.pull 3 rfl
   have hs:St _ [_,_,_,_] _:=St.take (Γ':=[_,_]) hs
   refine Qbx rfl ?_
   exact ha2_ _ _ ⟨x65,Hr2_,rfl,hs⟩
  intro hb
  rw [if_neg (b_dec_f hb)] at H
  refine g_d rfl ?_
  try dsimp only [Qap,Qaq]
  refine Qad (Qah (Qax rfl ?_))
  obtain rfl:=QsJ H
  subst Hx1_
  have hs:=hs.pull 2 rfl
  have hs:St _ [_] _:=St.take (Γ':=[_,_,_]) hs
  refine Qbx rfl ?_
  exact ha1_ _ _ ⟨x47,Hr1_,rfl,hs⟩
 |false=>
  rw [if_neg Bool.false_ne_true] at H
  refine g_d rfl ?_
  refine Qab (v:=bool true) rfl rfl rfl (g_d rfl ?_)
  try dsimp only [Qap,Qaq]
  refine Qad (Qav rfl (Qah (Qat [0,1] rfl ?_)))
  refine Qab (v:=int .i64 0) rfl rfl rfl (g_d rfl ?_)
  refine Qab (v:=int .i64 1) rfl rfl rfl (g_d rfl ?_)
  try dsimp only [Qap,Qaq]
  refine Qad ?_
  obtain rfl:=QsJ H
  refine QaI Try.func7 (v:=tuple #[int .i64 0,int .i64 1]) (resN (l:=Try.f7.results.toList) (vs:=[int .i64 0,int .i64 1]) rfl ⟨rfl,rfl,trivial⟩ (by simp)) ?_
  have hs:St _ [] _:=St.take (Γ':=[_]) hs
  exact ⟨_,rfl,rfl,hs⟩
def QaS.post (w0:World) (r:Bool) (v:Value) (w:World):Prop:=v=bool r∧St w0 [] w
theorem QaS.calls {N:Nat} {a1:(List Int)} {a3:(List Int)} {v2:Value} {v4:Value} {w0:World} {r:Bool} (hr0:RdRow (K.int .u16) w0 v2 a1) (hr1:RdRow (K.int .u16) w0 v4 a3) (H:QaS.f N a1 a3=some r):
 Calls Try.prog 21 #[v2,v4] w0 fun e w=>∃ v,e= .returned v∧QaS.post w0 r v w:=by
 unfold QaS.f at H
 have hs:St w0 [] w0:=St.refl w0
 refine calls_of_g (n:=24) Try.func21 rfl rfl ?_
 show G _ _ _ _ [_,_,_,_,_,_,_,_,_,_,_,_,_,_,_,_,_,_,_,_,_,_,_,_,_,_] _
 refine Qah (Qat [0] rfl ?_)
 refine Qab (v:=bool false) rfl rfl rfl (Qad (Qah (Qah (Qat [0,1,2,3,4] rfl ?_))))
 refine Qab (v:=v2) rfl rfl rfl ?_
 refine QbA (hs.rd hr0) rfl rfl rfl rfl rfl ?_
 refine Qab (v:=v4) rfl rfl rfl ?_
 refine QbA (hs.rd hr1) rfl rfl rfl rfl rfl ?_
 show G _ _ _ _ [_,_,_,_,_,_,_,_,_,_,_,_,_,_,_,_,_,_,_,_,_,_,_,_,_,_] _
 refine QaQ (B:=(a1.length:Int) !=(a3.length:Int)) rfl rfl rfl ?_ ?_
 ·
  intro hb
  rw [if_neg (b_bne_t hb)] at H
  show G _ _ _ _ [_,_,_,_,_,_,_,_,_,_,_,_,_,_,_,_,_,_,_,_,_,_,_,_,_,_] _
  refine Qad (Qav rfl (Qah (Qat [0] rfl ?_)))
  refine Qab (v:=bool false) rfl rfl rfl (Qad ?_)
  obtain rfl:=QsJ H
  refine QaI Try.func21 (v:=bool false) (res1 rfl rfl) ?_
  have hs:St _ [] _:=St.take (Γ':=[]) hs
  exact ⟨_,rfl,rfl,hs⟩
 intro hb
 rw [if_pos (b_bne_f hb)] at H
 refine Qad (Qax rfl (QaO (Qah (Qah (Qat [0] rfl ?_)))))
 refine Qab (v:=int .i64 0) rfl rfl rfl (Qad ?_)
 obtain ⟨o1_,Ho,Hr1_⟩:=bind_get H
 refine QaX (J:=fun t w=>QaS.a0 N=some r∧Fr t (fun O=>([O 0,O 1,O 2,O 3,O 4,O 5,O 6,O 7,O 8,O 9,O 10,O 11,O 12,O 13,O 14,O 15,O 16,O 17,O 18,O 19,O 20,O 21,O 22,O 23,O 24,O 25]:List Value))∧St w0 [] w) ?_ ?_
 ·
  rintro t w ⟨H,hf,hs⟩
  obtain ⟨O,rfl⟩:=hf.open
  show G _ _ _ _ [_,_,_,_,_,_,_,_,_,_,_,_,_,_,_,_,_,_,_,_,_,_,_,_,_,_] _
  unfold QaS.a0 at H
  refine Qah (Qat [0] rfl ?_)
  refine Qab (v:=bool true) rfl rfl rfl (Qad ?_)
  obtain rfl:=QsJ H
  refine QaI Try.func21 (v:=bool true) (res1 rfl rfl) ?_
  have hs:St _ [] _:=St.take (Γ':=[]) hs
  exact ⟨_,rfl,rfl,hs⟩
 intro ha1_
 have hs:St _ [] _:=St.take (Γ':=[]) hs
 refine Qa9 (I:=fun n_ t w=>∃ x5:Int,rounds (fun s=>QaS.b0 N a1 a3 s) n_ x5=some o1_∧Fr t (fun O=>([v2,v4,O 2,O 3,O 4,int .i64 x5,O 6,O 7,O 8,O 9,O 10,O 11,O 12,O 13,O 14,O 15,O 16,O 17,O 18,O 19,O 20,O 21,O 22,O 23,O 24,O 25]:List Value))∧St w0 [] w) N ⟨0,Ho,rfl,hs⟩ ?_ ?_
 ·
  rintro _ _ ⟨x5,h,_⟩
  exact rounds_zero h
 intro n_ ih1_
 rintro t w ⟨x5,Ho,hf,hs⟩
 obtain ⟨O,rfl⟩:=hf.open
 show G _ _ _ _ [_,_,_,_,_,_,_,_,_,_,_,_,_,_,_,_,_,_,_,_,_,_,_,_,_,_] _
 obtain ⟨x7_,H,Hx1_⟩:=rounds_succ Ho
 have H:QaS.b0 N a1 a3 x5=some x7_:=H
 unfold QaS.b0 at H
 refine Qah (Qah (Qat [0,1,2,3] rfl ?_))
 refine Qab (v:=int .i64 x5) rfl rfl rfl ?_
 refine Qab (v:=v2) rfl rfl rfl ?_
 refine QbA (hs.rd hr0) rfl rfl rfl rfl rfl ?_
 show G _ _ _ _ [_,_,_,_,_,_,_,_,_,_,_,_,_,_,_,_,_,_,_,_,_,_,_,_,_,_] _
 refine QaQ (B:=decide (x5< (a1.length:Int))) rfl rfl rfl ?_ ?_
 ·
  intro hb
  rw [if_pos (b_dec_t hb)] at H
  refine Qad (Qav rfl (QaO (Qah ?_)))
  refine Qby (Qah ?_)
  refine QbO (n:=9) rfl [0,1,2,3,4,5,6,7,8] [0,1,2,3,4,5,6,7,8] rfl rfl ?_
  intro rest w hh hbw hO
  have hs:=hs.samew hh hbw
  show G _ _ _ _ [_,_,_,_,_,_,_,_,_,_,_,_,_,_,_,_,_,_,_,_,_,_,_,_,_,_] _
  obtain ⟨gd2,H⟩:=ite_get H
  obtain ⟨ad3_,ad3_N,ad3_C,had3_⟩:=sl_at (hs.rd hr0) gd2.1 gd2.2
  obtain ⟨gd4,H⟩:=ite_get H
  obtain ⟨ad5_,ad5_N,ad5_C,had5_⟩:=sl_at (hs.rd hr1) gd4.1 gd4.2
  refine Qa6 ?_
  intro T hT
  refine Qbw (m0:=0) hO rfl 255 [0,1,2,3,4,5,6,7] [0,0,3,7,0,0,48,112,255] (by decide+kernel) (fun D t w=>∃ O:Nat→Value,t=[v2,v4,O 2,O 3,O 4,int .i64 x5,O 6,O 7,O 8,O 9,O 10,int .i64 x5,v2,int .i64 (a1.length:Int),bool true,O 15,O 16,cnd (D 0) v2 (O 17),cnd (D 1) (int .i64 x5) (O 18),cnd (D 2) (pointer (some (ad3_.add (x5.toNat*1)))) (O 19),cnd (D 3) (int .u16 (rdL a1 x5 0)) (O 20),cnd (D 4) v4 (O 21),cnd (D 5) (int .i64 x5) (O 22),cnd (D 6) (pointer (some (ad5_.add (x5.toNat*1)))) (O 23),cnd (D 7) (int .u16 (rdL a3 x5 0)) (O 24),O 25]∧St w0 [] w) ?_ ⟨?_,⟨?_,⟨?_,⟨?_,⟨?_,⟨?_,⟨?_,⟨?_,trivial⟩⟩⟩⟩⟩⟩⟩⟩ ?_
  ·exact ⟨fun i=>T.getD i undef,(by subst hT;rfl),hs⟩
  ·
   rintro D t w hD hp hcl ⟨O,ht,hs⟩ rest hk
   have hp:AllDone D []:=hp
   have q2_:=ny hcl 2 0 hD
   have q3_:=ny hcl 3 0 q2_
   simp only [hD,q2_,q3_,cq,oT] at ht hs
   subst ht
   refine Qab (v:=v2) rfl rfl rfl ?_
   show G _ _ _ _ [_,_,_,_,_,_,_,_,_,_,_,_,_,_,_,_,_,_,_,_,_,_,_,_,_,_] _
   refine hk _ _ ⟨O,?_,hs.cast ?_⟩<;>simp only [oT,lq,cq,Nat.reduceBEq,q2_,q3_]
  ·
   rintro D t w hD hp hcl ⟨O,ht,hs⟩ rest hk
   have hp:AllDone D []:=hp
   have q2_:=ny hcl 2 1 hD
   have q3_:=ny hcl 3 0 q2_
   simp only [hD,q2_,q3_,cq,oT] at ht hs
   subst ht
   refine Qab (v:=int .i64 x5) rfl rfl rfl ?_
   show G _ _ _ _ [_,_,_,_,_,_,_,_,_,_,_,_,_,_,_,_,_,_,_,_,_,_,_,_,_,_] _
   refine hk _ _ ⟨O,?_,hs.cast ?_⟩<;>simp only [oT,lq,cq,Nat.reduceBEq,q2_,q3_]
  ·
   rintro D t w hD hp hcl ⟨O,ht,hs⟩ rest hk
   have hp:AllDone D [0,1]:=hp
   obtain ⟨p0_,p1_,_⟩:=hp
   have q3_:=ny hcl 3 0 hD
   simp only [hD,p0_,p1_,q3_,cq,oT] at ht hs
   subst ht
   refine QbC (κ:=(K.int .u16)) (m:=1) rfl (hs.rd hr0) rfl (fun _=>rfl) gd2.1 gd2.2 had3_ rfl rfl rfl rfl rfl ?_
   show G _ _ _ _ [_,_,_,_,_,_,_,_,_,_,_,_,_,_,_,_,_,_,_,_,_,_,_,_,_,_] _
   refine hk _ _ ⟨O,?_,hs.cast ?_⟩<;>simp only [oT,lq,cq,Nat.reduceBEq,p0_,p1_,q3_]
  ·
   rintro D t w hD hp hcl ⟨O,ht,hs⟩ rest hk
   have hp:AllDone D [2]:=hp
   obtain ⟨p2_,_⟩:=hp
   obtain ⟨p0_,p1_,_⟩:=(show D 2=true→AllDone D [0,1] from hcl 2 (by decide)) p2_
   simp only [hD,p0_,p1_,p2_,cq,oT] at ht hs
   subst ht
   refine Qaz rfl rfl (v:=int .u16 (rdL a1 x5 0)) rfl rfl (fun _=>rfl) (cellsAt_of (fkI .u16) 0 (hs.rd hr0) had3_ gd2.1 gd2.2) ?_
   show G _ _ _ _ [_,_,_,_,_,_,_,_,_,_,_,_,_,_,_,_,_,_,_,_,_,_,_,_,_,_] _
   refine hk _ _ ⟨O,?_,hs.cast ?_⟩<;>simp only [oT,lq,cq,Nat.reduceBEq,p0_,p1_,p2_]
  ·
   rintro D t w hD hp hcl ⟨O,ht,hs⟩ rest hk
   have hp:AllDone D []:=hp
   have q6_:=ny hcl 6 0 hD
   have q7_:=ny hcl 7 0 q6_
   simp only [hD,q6_,q7_,cq,oT] at ht hs
   subst ht
   refine Qab (v:=v4) rfl rfl rfl ?_
   show G _ _ _ _ [_,_,_,_,_,_,_,_,_,_,_,_,_,_,_,_,_,_,_,_,_,_,_,_,_,_] _
   refine hk _ _ ⟨O,?_,hs.cast ?_⟩<;>simp only [oT,lq,cq,Nat.reduceBEq,q6_,q7_]
  ·
   rintro D t w hD hp hcl ⟨O,ht,hs⟩ rest hk
   have hp:AllDone D []:=hp
   have q6_:=ny hcl 6 1 hD
   have q7_:=ny hcl 7 0 q6_
   simp only [hD,q6_,q7_,cq,oT] at ht hs
   subst ht
   refine Qab (v:=int .i64 x5) rfl rfl rfl ?_
   show G _ _ _ _ [_,_,_,_,_,_,_,_,_,_,_,_,_,_,_,_,_,_,_,_,_,_,_,_,_,_] _
   refine hk _ _ ⟨O,?_,hs.cast ?_⟩<;>simp only [oT,lq,cq,Nat.reduceBEq,q6_,q7_]
  ·
   rintro D t w hD hp hcl ⟨O,ht,hs⟩ rest hk
   have hp:AllDone D [4,5]:=hp
   obtain ⟨p4_,p5_,_⟩:=hp
   have q7_:=ny hcl 7 0 hD
   simp only [hD,p4_,p5_,q7_,cq,oT] at ht hs
   subst ht
   refine QbC (κ:=(K.int .u16)) (m:=1) rfl (hs.rd hr1) rfl (fun _=>rfl) gd4.1 gd4.2 had5_ rfl rfl rfl rfl rfl ?_
   show G _ _ _ _ [_,_,_,_,_,_,_,_,_,_,_,_,_,_,_,_,_,_,_,_,_,_,_,_,_,_] _
   refine hk _ _ ⟨O,?_,hs.cast ?_⟩<;>simp only [oT,lq,cq,Nat.reduceBEq,p4_,p5_,q7_]
  ·
   rintro D t w hD hp hcl ⟨O,ht,hs⟩ rest hk
   have hp:AllDone D [6]:=hp
   obtain ⟨p6_,_⟩:=hp
   obtain ⟨p4_,p5_,_⟩:=(show D 6=true→AllDone D [4,5] from hcl 6 (by decide)) p6_
   simp only [hD,p4_,p5_,p6_,cq,oT] at ht hs
   subst ht
   refine Qaz rfl rfl (v:=int .u16 (rdL a3 x5 0)) rfl rfl (fun _=>rfl) (cellsAt_of (fkI .u16) 0 (hs.rd hr1) had5_ gd4.1 gd4.2) ?_
   show G _ _ _ _ [_,_,_,_,_,_,_,_,_,_,_,_,_,_,_,_,_,_,_,_,_,_,_,_,_,_] _
   refine hk _ _ ⟨O,?_,hs.cast ?_⟩<;>simp only [oT,lq,cq,Nat.reduceBEq,p4_,p5_,p6_]
  intro D t w rest hall hO1_ hI
  obtain ⟨O,ht,hs⟩:=hI
  have p0_:=hall 0 (by decide) rfl
  have p1_:=hall 1 (by decide) rfl
  have p2_:=hall 2 (by decide) rfl
  have p3_:=hall 3 (by decide) rfl
  have p4_:=hall 4 (by decide) rfl
  have p5_:=hall 5 (by decide) rfl
  have p6_:=hall 6 (by decide) rfl
  have p7_:=hall 7 (by decide) rfl
  simp only [p0_,p1_,p2_,p3_,p4_,p5_,p6_,p7_,cq,oT] at ht hs
  subst ht
  obtain ⟨rest,rfl,hO6_⟩:=ord_one (m:=255) hO1_ rfl 8 (m':=511) (by decide+kernel) rfl
  clear hO1_
  refine QaQ (B:=(rdL a1 x5 0) !=(rdL a3 x5 0)) rfl rfl rfl ?_ ?_
  ·
   intro hb
   rw [if_neg (b_bne_t hb)] at H
   show G _ _ _ _ [_,_,_,_,_,_,_,_,_,_,_,_,_,_,_,_,_,_,_,_,_,_,_,_,_,_] _
   obtain rfl:=ord_end hO6_ rfl (by decide+kernel)
   refine Qad (Qav rfl (Qah (Qat [0] rfl ?_)))
   refine Qab (v:=bool false) rfl rfl rfl (Qad ?_)
   obtain rfl:=QsJ H
   subst Hx1_
   have H:=QsJ Hr1_
   subst H
   refine QaI Try.func21 (v:=bool false) (res1 rfl rfl) ?_
   have hs:St _ [] _:=St.take (Γ':=[]) hs
   exact ⟨_,rfl,rfl,hs⟩
  intro hb
  rw [if_pos (b_bne_f hb)] at H
  show G _ _ _ _ [_,_,_,_,_,_,_,_,_,_,_,_,_,_,_,_,_,_,_,_,_,_,_,_,_,_] _
  obtain rfl:=ord_end hO6_ rfl (by decide+kernel)
  refine Qad (Qax rfl (QaO ?_))
  refine Qa2 (Qat [0,1,2] rfl ?_)
  refine Qab (v:=int .i64 x5) rfl rfl rfl ?_
  refine Qab (v:=int .i64 (i64w (x5+1))) rfl rfl rfl ?_
  refine Qab (v:=int .i64 (i64w (x5+1))) rfl rfl rfl (Qad ?_)
  obtain rfl:=QsJ H
  have hs:St _ [] _:=St.take (Γ':=[]) hs
  exact ih1_ _ _ ⟨i64w (x5+1),Hx1_,rfl,hs⟩
 intro hb
 rw [if_neg (b_dec_f hb)] at H
 refine Qad (Qax rfl ?_)
 obtain rfl:=QsJ H
 subst Hx1_
 have hs:St _ [] _:=St.take (Γ':=[]) hs
 refine Qbx rfl ?_
 exact ha1_ _ _ ⟨Hr1_,rfl,hs⟩
def Qbr.post (w0:World) (r:Bool) (v:Value) (w:World):Prop:=v=bool r∧St w0 [] w
theorem Qbr.calls {N:Nat} {a1:Qae} {a4:Qae} {v2:Value} {v5:Value} {w0:World} {r:Bool} (hr3:RdRow (K.int .u16) w0 v2 a1.Qai) (hr6:RdRow (K.int .u16) w0 v5 a4.Qai) (H:Qbr.f N a1 a4=some r):
 Calls Try.prog 8 #[agg (([int .i8 a1.Qac,int .i8 a1.Qaf,v2]:List Value)).toArray,agg (([int .i8 a4.Qac,int .i8 a4.Qaf,v5]:List Value)).toArray] w0 fun e w=>∃ v,e= .returned v∧Qbr.post w0 r v w:=by
 unfold Qbr.f at H
 have hs:St w0 [] w0:=St.refl w0
 refine calls_of_g (n:=19) Try.func8 rfl rfl ?_
 show G _ _ _ _ [_,_,_,_,_,_,_,_,_,_,_,_,_,_,_,_,_,_,_,_,_] _
 refine Qah (Qat [0,1,2] rfl ?_)
 refine Qbl hs rfl rfl (cs:=(([int .i8 a1.Qac,int .i8 a1.Qaf,v2]:List Value))) rfl rfl ?_
 intro b7 w hs
 show G _ _ _ _ [_,_,_,_,_,_,_,_,_,_,_,_,_,_,_,_,_,_,_,_,_] _
 refine Qbl hs rfl rfl (cs:=(([int .i8 a4.Qac,int .i8 a4.Qaf,v5]:List Value))) rfl rfl ?_
 intro b9 w hs
 refine Qab (v:=bool false) rfl rfl rfl (Qad (Qah (Qah (Qat [0,1,2,3,4] rfl ?_))))
 refine Qab (v:=pointer (some ⟨b7,0,none⟩)) rfl rfl rfl ?_
 show G _ _ _ _ [_,_,_,_,_,_,_,_,_,_,_,_,_,_,_,_,_,_,_,_,_] _
 refine Qaz rfl rfl (v:=int .i8 a1.Qac) rfl rfl (fun _=>rfl) (cells_load (hs.cells 1 rfl) 0 1 rfl) ?_
 refine Qab (v:=pointer (some ⟨b9,0,none⟩)) rfl rfl rfl ?_
 refine Qaz rfl rfl (v:=int .i8 a4.Qac) rfl rfl (fun _=>rfl) (cells_load (hs.cells 0 rfl) 0 1 rfl) ?_
 show G _ _ _ _ [_,_,_,_,_,_,_,_,_,_,_,_,_,_,_,_,_,_,_,_,_] _
 refine QaQ (B:=a1.Qac !=a4.Qac) rfl rfl rfl ?_ ?_
 ·
  intro hb
  rw [if_neg (b_bne_t hb)] at H
  refine Qad (Qav rfl (Qah (Qat [0] rfl ?_)))
  refine Qab (v:=bool false) rfl rfl rfl ?_
  show G _ _ _ _ [_,_,_,_,_,_,_,_,_,_,_,_,_,_,_,_,_,_,_,_,_] _
  refine Qad ?_
  obtain rfl:=QsJ H
  refine QaI Try.func8 (v:=bool false) (res1 rfl rfl) ?_
  have hs:St _ [] _:=St.take (Γ':=[_,_]) hs
  exact ⟨_,rfl,rfl,hs⟩
 intro hb
 rw [if_pos (b_bne_f hb)] at H
 refine Qad (Qax rfl (QaO (Qah (Qah (Qat [0,1,2,3,4] rfl ?_)))))
 refine Qab (v:=pointer (some ⟨b7,1,none⟩)) rfl rfl rfl ?_
 refine Qaz rfl rfl (v:=int .i8 a1.Qaf) rfl rfl (fun _=>rfl) (cells_load (hs.cells 1 rfl) 1 1 rfl) ?_
 show G _ _ _ _ [_,_,_,_,_,_,_,_,_,_,_,_,_,_,_,_,_,_,_,_,_] _
 refine Qab (v:=pointer (some ⟨b9,1,none⟩)) rfl rfl rfl ?_
 refine Qaz rfl rfl (v:=int .i8 a4.Qaf) rfl rfl (fun _=>rfl) (cells_load (hs.cells 0 rfl) 1 1 rfl) ?_
 refine QaQ (B:=a1.Qaf !=a4.Qaf) rfl rfl rfl ?_ ?_
 ·
  intro hb
  rw [if_neg (b_bne_t hb)] at H
  refine Qad (Qav rfl (Qah (Qat [0] rfl ?_)))
  refine Qab (v:=bool false) rfl rfl rfl (Qad ?_)
  obtain rfl:=QsJ H
  refine QaI Try.func8 (v:=bool false) (res1 rfl rfl) ?_
  have hs:St _ [] _:=St.take (Γ':=[_,_]) hs
  exact ⟨_,rfl,rfl,hs⟩
 intro hb
 rw [if_pos (b_bne_f hb)] at H
 show G _ _ _ _ [_,_,_,_,_,_,_,_,_,_,_,_,_,_,_,_,_,_,_,_,_] _
 refine Qad (Qax rfl (QaO (Qah (Qah (Qat [0,1,2,3,4,5] rfl ?_)))))
 refine Qab (v:=pointer (some ⟨b7,2,none⟩)) rfl rfl rfl ?_
 refine Qaz rfl rfl (v:=v2) rfl rfl (fun _=>rfl) (cells_load (hs.cells 1 rfl) 2 1 rfl) ?_
 refine Qab (v:=pointer (some ⟨b9,2,none⟩)) rfl rfl rfl ?_
 show G _ _ _ _ [_,_,_,_,_,_,_,_,_,_,_,_,_,_,_,_,_,_,_,_,_] _
 refine Qaz rfl rfl (v:=v5) rfl rfl (fun _=>rfl) (cells_load (hs.cells 0 rfl) 2 1 rfl) ?_
 obtain ⟨r11,Hr11,H⟩:=bind_get H
 refine QaG (args:=[v2,v5]) rfl rfl (QaH rfl (callFunc_enter Try.func21 rfl rfl) rfl) (QaS.calls (a1:=a1.Qai) (a3:=a4.Qai) (hs.rd hr3) (hs.rd hr6) Hr11) ?_
 rintro _ w ⟨rfl,hs2⟩
 have hs:St _ [_,_] _:=hs.call hs2
 cases r11 with
 |true=>
  rw [if_pos rfl] at H
  refine Qab (v:=bool false) rfl rfl rfl ?_
  show G _ _ _ _ [_,_,_,_,_,_,_,_,_,_,_,_,_,_,_,_,_,_,_,_,_] _
  refine Qad (Qax rfl (QaO (Qah (Qat [0] rfl ?_))))
  refine Qab (v:=bool true) rfl rfl rfl (Qad ?_)
  obtain rfl:=QsJ H
  refine QaI Try.func8 (v:=bool true) (res1 rfl rfl) ?_
  have hs:St _ [] _:=St.take (Γ':=[_,_]) hs
  exact ⟨_,rfl,rfl,hs⟩
 |false=>
  rw [if_neg Bool.false_ne_true] at H
  refine Qab (v:=bool true) rfl rfl rfl ?_
  show G _ _ _ _ [_,_,_,_,_,_,_,_,_,_,_,_,_,_,_,_,_,_,_,_,_] _
  refine Qad (Qav rfl (Qah (Qat [0] rfl ?_)))
  refine Qab (v:=bool false) rfl rfl rfl (Qad ?_)
  obtain rfl:=QsJ H
  refine QaI Try.func8 (v:=bool false) (res1 rfl rfl) ?_
  have hs:St _ [] _:=St.take (Γ':=[_,_]) hs
  exact ⟨_,rfl,rfl,hs⟩
def Qa0.post (w0:World) (r:Bool) (v:Value) (w:World):Prop:=v=bool r∧St w0 [] w
theorem Qa0.calls {N:Nat} {a1:Qae} {v2:Value} {w0:World} {r:Bool} (hr3:RdRow (K.int .u16) w0 v2 a1.Qai) (H:Qa0.f N a1=some r):
 Calls Try.prog 3 #[agg (([int .i8 a1.Qac,int .i8 a1.Qaf,v2]:List Value)).toArray] w0 fun e w=>∃ v,e= .returned v∧Qa0.post w0 r v w:=by
 unfold Qa0.f at H
 have hs:St w0 [] w0:=St.refl w0
 refine calls_of_g (n:=39) Try.func3 rfl rfl ?_
 show G _ _ _ _ [_,_,_,_,_,_,_,_,_,_,_,_,_,_,_,_,_,_,_,_,_,_,_,_,_,_,_,_,_,_,_,_,_,_,_,_,_,_,_,_] _
 refine Qah (Qat [0,1] rfl ?_)
 refine Qbl hs rfl rfl (cs:=(([int .i8 a1.Qac,int .i8 a1.Qaf,v2]:List Value))) rfl rfl ?_
 intro b4 w hs
 show G _ _ _ _ [_,_,_,_,_,_,_,_,_,_,_,_,_,_,_,_,_,_,_,_,_,_,_,_,_,_,_,_,_,_,_,_,_,_,_,_,_,_,_,_] _
 refine Qab (v:=bool false) rfl rfl rfl (Qad (Qah (Qat [0] rfl ?_)))
 refine Qab (v:=int .i64 1048576) rfl rfl rfl (Qad (Qah (Qat [0,1,2,3] rfl ?_)))
 refine QaK rfl rfl (es:=(([int .i8 a1.Qac,int .i8 a1.Qaf,v2]:List Value))) rfl rfl (fun _=>rfl) (n:=3) (fun _=>rfl) rfl (cells_all (hs.cells 0 rfl)) ?_
 show G _ _ _ _ [_,_,_,_,_,_,_,_,_,_,_,_,_,_,_,_,_,_,_,_,_,_,_,_,_,_,_,_,_,_,_,_,_,_,_,_,_,_,_,_] _
 refine Qab (v:=int .i64 1048576) rfl rfl rfl ?_
 obtain ⟨r6,Hr6,H⟩:=bind_get H
 refine QaG (args:=[agg (([int .i8 a1.Qac,int .i8 a1.Qaf,v2]:List Value)).toArray,int .i64 1048576]) rfl rfl (QaH rfl (callFunc_enter Try.func4 rfl rfl) rfl) (Qbn.calls (a1:=(⟨a1.Qac,a1.Qaf,a1.Qai⟩:Qae)) (a4:=1048576) (hs.rd hr3) Hr6) ?_
 rintro _ w ⟨rfl,hs2⟩
 have hs:St _ [_] _:=hs.call hs2
 refine Qab (v:=int .i64 r6) rfl rfl rfl (Qad (Qah (Qah (Qat [0,1] rfl ?_))))
 refine Qab (v:=int .i64 r6) rfl rfl rfl ?_
 refine QaQ (B:=decide (r6< 0)) rfl rfl rfl ?_ ?_
 ·
  intro hb
  rw [if_pos (b_dec_t hb)] at H
  show G _ _ _ _ [_,_,_,_,_,_,_,_,_,_,_,_,_,_,_,_,_,_,_,_,_,_,_,_,_,_,_,_,_,_,_,_,_,_,_,_,_,_,_,_] _
  refine Qad (Qav rfl (Qah (Qat [0] rfl ?_)))
  refine Qab (v:=bool true) rfl rfl rfl (Qad ?_)
  obtain rfl:=QsJ H
  refine QaI Try.func3 (v:=bool true) (res1 rfl rfl) ?_
  have hs:St _ [] _:=St.take (Γ':=[_]) hs
  exact ⟨_,rfl,rfl,hs⟩
 intro hb
 rw [if_neg (b_dec_f hb)] at H
 show G _ _ _ _ [_,_,_,_,_,_,_,_,_,_,_,_,_,_,_,_,_,_,_,_,_,_,_,_,_,_,_,_,_,_,_,_,_,_,_,_,_,_,_,_] _
 refine Qad (Qax rfl (QaO (Qah (Qat [0,1,2,3,4,5,6,7] rfl ?_))))
 refine QaK rfl rfl (es:=(([int .i8 a1.Qac,int .i8 a1.Qaf,v2]:List Value))) rfl rfl (fun _=>rfl) (n:=3) (fun _=>rfl) rfl (cells_all (hs.cells 0 rfl)) ?_
 obtain ⟨r7,Hr7,H⟩:=bind_get H
 refine QaG (args:=[agg (([int .i8 a1.Qac,int .i8 a1.Qaf,v2]:List Value)).toArray]) rfl rfl (QaH rfl (callFunc_enter Try.func6 rfl rfl) rfl) (Qbh.calls (a1:=(⟨a1.Qac,a1.Qaf,a1.Qai⟩:Qae)) (hs.rd hr3) Hr7) ?_
 rintro _ w ⟨v8,rfl,hs2⟩
 have hs:St _ [_,_] _:=hs.call hs2
 obtain ⟨r10,Hr10,H⟩:=bind_get H
 refine QaG (args:=[agg (([int .i8 r7.Qac,int .i8 r7.Qaf,v8]:List Value)).toArray]) rfl rfl (QaH rfl (callFunc_enter Try.func5 rfl rfl) rfl) (Qbg.calls (a1:=(⟨r7.Qac,r7.Qaf,r7.Qai⟩:Qae)) (hs.row 0 rfl) Hr10) ?_
 rintro _ w ⟨rfl,hs2⟩
 have hs:St _ [_,_] _:=hs.call hs2
 show G _ _ _ _ [_,_,_,_,_,_,_,_,_,_,_,_,_,_,_,_,_,_,_,_,_,_,_,_,_,_,_,_,_,_,_,_,_,_,_,_,_,_,_,_] _
 refine Qab (v:=tuple #[int .i64 r10.1,int .i64 r10.2]) rfl rfl rfl ?_
 refine Qab (v:=int .i64 r10.1) rfl rfl rfl ?_
 refine Qab (v:=int .i64 r10.2) rfl rfl rfl ?_
 refine Qab (v:=int .i64 r10.1) rfl rfl rfl ?_
 refine Qab (v:=int .i64 r10.2) rfl rfl rfl (Qad (Qah (Qat [0,1,2,3] rfl ?_)))
 refine QaK rfl rfl (es:=(([int .i8 a1.Qac,int .i8 a1.Qaf,v2]:List Value))) rfl rfl (fun _=>rfl) (n:=3) (fun _=>rfl) rfl (cells_all (hs.cells 1 rfl)) ?_
 show G _ _ _ _ [_,_,_,_,_,_,_,_,_,_,_,_,_,_,_,_,_,_,_,_,_,_,_,_,_,_,_,_,_,_,_,_,_,_,_,_,_,_,_,_] _
 obtain ⟨r11,Hr11,H⟩:=bind_get H
 refine QaG (args:=[agg (([int .i8 a1.Qac,int .i8 a1.Qaf,v2]:List Value)).toArray]) rfl rfl (QaH rfl (callFunc_enter Try.func6 rfl rfl) rfl) (Qbh.calls (a1:=(⟨a1.Qac,a1.Qaf,a1.Qai⟩:Qae)) (hs.rd hr3) Hr11) ?_
 rintro _ w ⟨v12,rfl,hs2⟩
 have hs:St _ [_,_,_] _:=hs.call hs2
 refine Qbz hs rfl rfl (z:=(agg #[int .i8 0,int .i8 0,slice none 0 0])) (cs:=(([int .i8 0,int .i8 0,slice none 0 0]:List Value))) rfl (fun _=>rfl) rfl ?_
 intro b14 w hs
 refine Qbf (n:=3) hs rfl rfl rfl (vs:=(([int .i8 r11.Qac,int .i8 r11.Qaf,v12]:List Value))) rfl rfl rfl (fun _=>rfl) rfl (by intro v hv;simp only [List.mem_append,List.mem_cons,List.not_mem_nil,or_false] at hv;repeat (first|(subst hv;first|rfl|exact slOne (hs.row 1 rfl))|(rcases hv with hv|hv))) ?_
 intro w hs
 refine Qad (Qah (Qat [0,1,2,3,4,5,6] rfl ?_))
 refine QaK rfl rfl (es:=(([int .i8 r11.Qac,int .i8 r11.Qaf,v12]:List Value))) rfl rfl (fun _=>rfl) (n:=3) (fun _=>rfl) rfl (cells_all (hs.cells 0 rfl)) ?_
 show G _ _ _ _ [_,_,_,_,_,_,_,_,_,_,_,_,_,_,_,_,_,_,_,_,_,_,_,_,_,_,_,_,_,_,_,_,_,_,_,_,_,_,_,_] _
 obtain ⟨r16,Hr16,H⟩:=bind_get H
 refine QaG (args:=[agg (([int .i8 r11.Qac,int .i8 r11.Qaf,v12]:List Value)).toArray]) rfl rfl (QaH rfl (callFunc_enter Try.func7 rfl rfl) rfl) (Qay.calls (a1:=(⟨r11.Qac,r11.Qaf,r11.Qai⟩:Qae)) (hs.row 1 rfl) Hr16) ?_
 rintro _ w ⟨rfl,hs2⟩
 have hs:St _ [_,_,_,_] _:=hs.call hs2
 refine Qab (v:=tuple #[int .i64 r16.1,int .i64 r16.2]) rfl rfl rfl ?_
 refine Qab (v:=int .i64 r16.1) rfl rfl rfl ?_
 refine Qab (v:=int .i64 r16.2) rfl rfl rfl ?_
 refine Qab (v:=int .i64 r16.1) rfl rfl rfl ?_
 refine Qab (v:=int .i64 r16.2) rfl rfl rfl ?_
 show G _ _ _ _ [_,_,_,_,_,_,_,_,_,_,_,_,_,_,_,_,_,_,_,_,_,_,_,_,_,_,_,_,_,_,_,_,_,_,_,_,_,_,_,_] _
 refine Qad (Qah (Qah (Qat [0,1,2,3,4,5,6,7] rfl ?_)))
 refine Qab (v:=int .i64 r16.1) rfl rfl rfl ?_
 refine Qab (v:=int .i64 r10.1) rfl rfl rfl ?_
 refine QaQ (B:=r16.1 !=r10.1) rfl rfl rfl ?_ ?_
 ·
  intro hb
  rw [if_neg (b_bne_t hb)] at H
  refine Qab (v:=bool true) rfl rfl rfl (QaD rfl rfl (QaD rfl rfl (QaD rfl rfl ?_)))
  show G _ _ _ _ [_,_,_,_,_,_,_,_,_,_,_,_,_,_,_,_,_,_,_,_,_,_,_,_,_,_,_,_,_,_,_,_,_,_,_,_,_,_,_,_] _
  refine Qab (v:=bool true) rfl rfl rfl (Qad (Qav rfl (Qah (Qat [0] rfl ?_))))
  refine Qab (v:=bool false) rfl rfl rfl (Qad ?_)
  obtain rfl:=QsJ H
  refine QaI Try.func3 (v:=bool false) (res1 rfl rfl) ?_
  have hs:St _ [] _:=St.take (Γ':=[_,_,_,_]) hs
  exact ⟨_,rfl,rfl,hs⟩
 intro hb
 rw [if_pos (b_bne_f hb)] at H
 refine Qab (v:=bool false) rfl rfl rfl ?_
 refine Qab (v:=int .i64 r16.2) rfl rfl rfl ?_
 refine Qab (v:=int .i64 r10.2) rfl rfl rfl ?_
 refine QaQ (B:=r16.2 !=r10.2) rfl rfl rfl ?_ ?_
 ·
  intro hb
  rw [if_neg (b_bne_t hb)] at H
  refine Qab (v:=bool true) rfl rfl rfl ?_
  show G _ _ _ _ [_,_,_,_,_,_,_,_,_,_,_,_,_,_,_,_,_,_,_,_,_,_,_,_,_,_,_,_,_,_,_,_,_,_,_,_,_,_,_,_] _
  refine Qad (Qav rfl (Qah (Qat [0] rfl ?_)))
  refine Qab (v:=bool false) rfl rfl rfl (Qad ?_)
  obtain rfl:=QsJ H
  refine QaI Try.func3 (v:=bool false) (res1 rfl rfl) ?_
  have hs:St _ [] _:=St.take (Γ':=[_,_,_,_]) hs
  exact ⟨_,rfl,rfl,hs⟩
 intro hb
 rw [if_pos (b_bne_f hb)] at H
 refine Qab (v:=bool false) rfl rfl rfl ?_
 show G _ _ _ _ [_,_,_,_,_,_,_,_,_,_,_,_,_,_,_,_,_,_,_,_,_,_,_,_,_,_,_,_,_,_,_,_,_,_,_,_,_,_,_,_] _
 refine Qad (Qax rfl (QaO (Qah (Qah ?_))))
 refine QbO (n:=5) rfl [0,1,2,3,4] [0,1,2,3,4] rfl rfl ?_
 intro rest w hh hbw hO
 have hs:=hs.samew hh hbw
 show G _ _ _ _ [_,_,_,_,_,_,_,_,_,_,_,_,_,_,_,_,_,_,_,_,_,_,_,_,_,_,_,_,_,_,_,_,_,_,_,_,_,_,_,_] _
 obtain ⟨r17,Hr17,H⟩:=bind_get H
 refine Qa6 ?_
 intro T hT
 refine Qbw (m0:=0) hO rfl 7 [0,1,2] [0,0,2,7,15] (by decide+kernel) (fun D t w=>∃ v18:Value,∃ O:Nat→Value,t=[agg (([int .i8 a1.Qac,int .i8 a1.Qaf,v2]:List Value)).toArray,pointer (some ⟨b4,0,none⟩),bool false,int .i64 r6,int .i64 r10.1,int .i64 r10.2,pointer (some ⟨b14,0,none⟩),int .i64 r16.1,int .i64 r16.2,agg (([int .i8 a1.Qac,int .i8 a1.Qaf,v2]:List Value)).toArray,int .i64 1048576,int .i64 r6,int .i64 r6,bool false,tuple #[int .i64 r10.1,int .i64 r10.2],agg (([int .i8 a1.Qac,int .i8 a1.Qaf,v2]:List Value)).toArray,agg (([int .i8 r7.Qac,int .i8 r7.Qaf,v8]:List Value)).toArray,tuple #[int .i64 r10.1,int .i64 r10.2],int .i64 r10.1,int .i64 r10.2,agg (([int .i8 a1.Qac,int .i8 a1.Qaf,v2]:List Value)).toArray,agg (([int .i8 r11.Qac,int .i8 r11.Qaf,v12]:List Value)).toArray,tuple #[int .i64 r16.1,int .i64 r16.2],agg (([int .i8 r11.Qac,int .i8 r11.Qaf,v12]:List Value)).toArray,tuple #[int .i64 r16.1,int .i64 r16.2],int .i64 r16.1,int .i64 r16.2,int .i64 r16.1,int .i64 r10.1,bool false,bool false,int .i64 r16.2,int .i64 r10.2,bool false,bool false,cnd (D 0) (agg (([int .i8 r11.Qac,int .i8 r11.Qaf,v12]:List Value)).toArray) (O 35),cnd (D 1) (agg (([int .i8 a1.Qac,int .i8 a1.Qaf,v2]:List Value)).toArray) (O 36),cnd (D 2) (agg (([int .i8 r17.Qac,int .i8 r17.Qaf,v18]:List Value)).toArray) (O 37),O 38,O 39]∧St w0 [Asc (D 2) (Row 46 (K.int .u16) v18 r17.Qai),Cells b14 (([int .i8 r11.Qac,int .i8 r11.Qaf,v12]:List Value)) 29,Row 46 (K.int .u16) v12 r11.Qai,Row 46 (K.int .u16) v8 r7.Qai,Cells b4 (([int .i8 a1.Qac,int .i8 a1.Qaf,v2]:List Value)) 25] w) ?_ ⟨?_,⟨?_,⟨?_,trivial⟩⟩⟩ ?_
 ·
  have hs:=hs.emp
  exact ⟨undef,fun i=>T.getD i undef,(by subst hT;rfl),hs⟩
 ·
  rintro D t w hD hp hcl ⟨v18,O,ht,hs⟩ rest hk
  have hp:AllDone D []:=hp
  simp only [hD,cq,oT] at ht hs
  subst ht
  refine QaK rfl rfl (es:=(([int .i8 r11.Qac,int .i8 r11.Qaf,v12]:List Value))) rfl rfl (fun _=>rfl) (n:=3) (fun _=>rfl) rfl (cells_all (hs.cells 1 rfl)) ?_
  show G _ _ _ _ [_,_,_,_,_,_,_,_,_,_,_,_,_,_,_,_,_,_,_,_,_,_,_,_,_,_,_,_,_,_,_,_,_,_,_,_,_,_,_,_] _
  refine hk _ _ ⟨v18,O,?_,hs.cast ?_⟩<;>simp only [oT,lq,cq,Nat.reduceBEq]
 ·
  rintro D t w hD hp hcl ⟨v18,O,ht,hs⟩ rest hk
  have hp:AllDone D []:=hp
  have q2_:=ny hcl 2 0 hD
  simp only [hD,q2_,cq,oT] at ht hs
  subst ht
  refine QaK rfl rfl (es:=(([int .i8 a1.Qac,int .i8 a1.Qaf,v2]:List Value))) rfl rfl (fun _=>rfl) (n:=3) (fun _=>rfl) rfl (cells_all (hs.cells 4 rfl)) ?_
  show G _ _ _ _ [_,_,_,_,_,_,_,_,_,_,_,_,_,_,_,_,_,_,_,_,_,_,_,_,_,_,_,_,_,_,_,_,_,_,_,_,_,_,_,_] _
  refine hk _ _ ⟨v18,O,?_,hs.cast ?_⟩<;>simp only [oT,lq,cq,Nat.reduceBEq,q2_]
 ·
  rintro D t w hD hp hcl ⟨v18,O,ht,hs⟩ rest hk
  have hp:AllDone D [1]:=hp
  obtain ⟨p1_,_⟩:=hp
  simp only [hD,p1_,cq,oT] at ht hs
  subst ht
  refine QaG (args:=[agg (([int .i8 a1.Qac,int .i8 a1.Qaf,v2]:List Value)).toArray]) rfl rfl (QaH rfl (callFunc_enter Try.func6 rfl rfl) rfl) (Qbh.calls (a1:=(⟨a1.Qac,a1.Qaf,a1.Qai⟩:Qae)) (hs.rd hr3) Hr17) ?_
  rintro _ w ⟨v18,rfl,hs2⟩
  have hs:St _ [_,_,_,_,_,_] _:=hs.call hs2
  show G _ _ _ _ [_,_,_,_,_,_,_,_,_,_,_,_,_,_,_,_,_,_,_,_,_,_,_,_,_,_,_,_,_,_,_,_,_,_,_,_,_,_,_,_] _
  have hs:=hs.fill 0 rfl
  refine hk _ _ ⟨v18,O,?_,hs.cast ?_⟩<;>simp only [oT,lq,cq,Nat.reduceBEq,p1_]
 intro D t w rest hall hO1_ hI
 obtain ⟨v18,O,ht,hs⟩:=hI
 have p0_:=hall 0 (by decide) rfl
 have p1_:=hall 1 (by decide) rfl
 have p2_:=hall 2 (by decide) rfl
 simp only [p0_,p1_,p2_,cq,oT] at ht hs
 subst ht
 obtain ⟨rest,rfl,hO2_⟩:=ord_one (m:=7) hO1_ rfl 3 (m':=15) (by decide+kernel) rfl
 clear hO1_
 obtain ⟨r21,Hr21,H⟩:=bind_get H
 refine QaG (args:=[agg (([int .i8 r11.Qac,int .i8 r11.Qaf,v12]:List Value)).toArray,agg (([int .i8 r17.Qac,int .i8 r17.Qaf,v18]:List Value)).toArray]) rfl rfl (QaH rfl (callFunc_enter Try.func8 rfl rfl) rfl) (Qbr.calls (a1:=(⟨r11.Qac,r11.Qaf,r11.Qai⟩:Qae)) (a4:=(⟨r17.Qac,r17.Qaf,r17.Qai⟩:Qae)) (hs.row 2 rfl) (hs.row 0 rfl) Hr21) ?_
 rintro _ w ⟨rfl,hs2⟩
 have hs:St _ [_,_,_,_,_] _:=hs.call hs2
 cases r21 with
 |true=>
  rw [if_pos rfl] at H
  obtain ⟨rest,rfl,hO3_⟩:=ord_one (m:=15) hO2_ rfl 4 (m':=31) (by decide+kernel) rfl
  clear hO2_
  refine Qab (v:=bool false) rfl rfl rfl ?_
  obtain rfl:=ord_end hO3_ rfl (by decide+kernel)
  refine Qad (Qax rfl (QaO (Qah (Qat [0] rfl ?_))))
  refine Qab (v:=bool true) rfl rfl rfl ?_
  show G _ _ _ _ [_,_,_,_,_,_,_,_,_,_,_,_,_,_,_,_,_,_,_,_,_,_,_,_,_,_,_,_,_,_,_,_,_,_,_,_,_,_,_,_] _
  refine Qad ?_
  obtain rfl:=QsJ H
  refine QaI Try.func3 (v:=bool true) (res1 rfl rfl) ?_
  have hs:St _ [] _:=St.take (Γ':=[_,_,_,_,_]) hs
  exact ⟨_,rfl,rfl,hs⟩
 |false=>
  rw [if_neg Bool.false_ne_true] at H
  obtain ⟨rest,rfl,hO4_⟩:=ord_one (m:=15) hO2_ rfl 4 (m':=31) (by decide+kernel) rfl
  clear hO2_
  refine Qab (v:=bool true) rfl rfl rfl ?_
  obtain rfl:=ord_end hO4_ rfl (by decide+kernel)
  refine Qad (Qav rfl (Qah (Qat [0] rfl ?_)))
  refine Qab (v:=bool false) rfl rfl rfl ?_
  show G _ _ _ _ [_,_,_,_,_,_,_,_,_,_,_,_,_,_,_,_,_,_,_,_,_,_,_,_,_,_,_,_,_,_,_,_,_,_,_,_,_,_,_,_] _
  refine Qad ?_
  obtain rfl:=QsJ H
  refine QaI Try.func3 (v:=bool false) (res1 rfl rfl) ?_
  have hs:St _ [] _:=St.take (Γ':=[_,_,_,_,_]) hs
  exact ⟨_,rfl,rfl,hs⟩
end Go.Proofs.YtmpcchpnfhafoaaX
