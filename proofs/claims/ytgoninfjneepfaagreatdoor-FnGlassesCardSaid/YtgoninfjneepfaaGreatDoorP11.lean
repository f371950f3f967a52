import Derived.Test.YtgoninfjneepfaaGreatDoorP10
namespace Go.Proofs.YtgoninfjneepfaaGreatDoorX
open Go Go.RowKit Go.Proofs
open Go.Value (int pointer bool agg slice string tuple)
set_option maxHeartbeats 8000000
set_option maxRecDepth 100000
set_option linter.unusedVariables false
set_option linter.unusedSimpArgs false
def QaP.post (w0:World) (r:(Int×Int)) (v:Value) (w:World):Prop:=v=tuple #[int .i64 r.1,int .i64 r.2]∧St w0 [] w
theorem QaP.calls {N:Nat} {a1:(List Int)} {a3:(Ar Int 4)} {v2:Value} {w0:World} {r:(Int×Int)} (hr0:RdRow (K.int .i16) w0 v2 a1) (H:QaP.f N a1 a3=some r):
 Calls Tryz.prog 16 #[v2,agg ((encA (encI .i16)) a3).toArray] w0 fun e w=>∃ v,e= .returned v∧QaP.post w0 r v w:=by
 unfold QaP.f at H
 have hs:St w0 [] w0:=St.refl w0
 refine calls_of_g (n:=29) Tryz.func16 rfl rfl ?_
 show G _ _ _ _ [_,_,_,_,_,_,_,_,_,_,_,_,_,_,_,_,_,_,_,_,_,_,_,_,_,_,_,_,_,_,_] _
 refine Qad (Qag [0,1,2] rfl ?_)
 refine Qbq hs rfl rfl (cs:=((encA (encI .i16)) a3)) rfl rfl ?_
 intro b4 w hs
 refine Qaa (v:=int .i64 0) rfl rfl rfl ?_
 refine Qaa (v:=int .i64 0) rfl rfl rfl ?_
 show G _ _ _ _ [_,_,_,_,_,_,_,_,_,_,_,_,_,_,_,_,_,_,_,_,_,_,_,_,_,_,_,_,_,_,_] _
 refine Qab (Qad (Qad (Qag [0,1,2,3] rfl ?_)))
 refine Qaa (v:=v2) rfl rfl rfl ?_
 refine QaG rfl rfl (es:=((encA (encI .i16)) a3)) rfl rfl (fun _=>rfl) (n:=4) (fun _=>rfl) ((fkA (n:=4) (he:=(fkI .i16).len) (h1:=(fkI .i16).one)).len _) (cells_all (hs.cells 0 rfl)) ?_
 obtain ⟨r6,Hr6,H⟩:=bind_get H
 refine QaB (args:=[v2,agg ((encA (encI .i16)) a3).toArray]) rfl rfl (QaC rfl (callFunc_enter Tryz.func12 rfl rfl) rfl) (QaM.calls (a1:=a1) (a3:=a3) (hs.rd hr0) Hr6) ?_
 rintro _ w ⟨rfl,hs2⟩
 have hs:St _ [_] _:=hs.call hs2
 cases r6 with
 |true=>
  rw [if_pos rfl] at H
  refine Qaa (v:=bool false) rfl rfl rfl ?_
  show G _ _ _ _ [_,_,_,_,_,_,_,_,_,_,_,_,_,_,_,_,_,_,_,_,_,_,_,_,_,_,_,_,_,_,_] _
  refine Qab (Qal rfl (Qay (Qad (Qag [0] rfl ?_))))
  refine Qaa (v:=int .i64 0) rfl rfl rfl (Qab (Qad (Qad (Qag [0,1,2] rfl ?_))))
  refine Qaa (v:=v2) rfl rfl rfl ?_
  refine Qbc (hs.rd hr0) rfl rfl rfl rfl rfl ?_
  refine Qaa (v:=int .i64 0) rfl rfl rfl (Qab ?_)
  obtain ⟨o1_,Ho,Hr1_⟩:=bind_get H
  refine Qax (J:=fun t w=>∃ x12:Int,QaP.a0 N x12=some r∧Fr t (fun O=>([O 0,O 1,O 2,O 3,O 4,O 5,int .i64 x12,O 7,O 8,O 9,O 10,O 11,O 12,O 13,O 14,O 15,O 16,O 17,O 18,O 19,O 20,O 21,O 22,O 23,O 24,O 25,O 26,O 27,O 28,O 29,O 30]:List Value))∧St w0 [] w) ?_ ?_
  ·
   rintro t w ⟨x12,H,hf,hs⟩
   obtain ⟨O,rfl⟩:=hf.open
   show G _ _ _ _ [_,_,_,_,_,_,_,_,_,_,_,_,_,_,_,_,_,_,_,_,_,_,_,_,_,_,_,_,_,_,_] _
   unfold QaP.a0 at H
   refine Qad (Qag [0,1,2] rfl ?_)
   refine Qaa (v:=int .i64 x12) rfl rfl rfl ?_
   refine Qaa (v:=int .i64 x12) rfl rfl rfl ?_
   refine Qaa (v:=int .i64 0) rfl rfl rfl (Qab ?_)
   obtain rfl:=QsJ H
   refine Qas Tryz.func16 (v:=tuple #[int .i64 x12,int .i64 0]) (resN (l:=Tryz.f16.results.toList) (vs:=[int .i64 x12,int .i64 0]) rfl ⟨rfl,rfl,trivial⟩ (by simp)) ?_
   have hs:St _ [] _:=St.take (Γ':=[]) hs
   exact ⟨_,rfl,rfl,hs⟩
  intro ha1_
  have hs:=hs.pull 0 rfl
  have hs:St _ [_] _:=St.take (Γ':=[]) hs
  refine QaL (I:=fun n_ t w=>∃ x7:Int,∃ x8:Int,rounds (fun s=>QaP.b0 N a1 a3 s.1 s.2) n_ (x7,x8)=some o1_∧Fr t (fun O=>([O 0,O 1,O 2,pointer (some ⟨b4,0,none⟩),O 4,O 5,int .i64 x7,O 7,O 8,O 9,O 10,O 11,O 12,v2,int .i64 (a1.length:Int),int .i64 x8,O 16,O 17,O 18,O 19,O 20,O 21,O 22,O 23,O 24,O 25,O 26,O 27,O 28,O 29,O 30]:List Value))∧St w0 [Cells b4 ((encA (encI .i16)) a3) 28] w) N ⟨0,0,Ho,rfl,hs⟩ ?_ ?_
  ·
   rintro _ _ ⟨x7,x8,h,_⟩
   exact rounds_zero h
  intro n_ ih1_
  rintro t w ⟨x7,x8,Ho,hf,hs⟩
  obtain ⟨O,rfl⟩:=hf.open
  show G _ _ _ _ [_,_,_,_,_,_,_,_,_,_,_,_,_,_,_,_,_,_,_,_,_,_,_,_,_,_,_,_,_,_,_] _
  obtain ⟨x3_,H,Hx1_⟩:=rounds_succ Ho
  have H:QaP.b0 N a1 a3 x7 x8=some x3_:=H
  unfold QaP.b0 at H
  refine Qad (Qag [0] rfl ?_)
  refine Qap (B:=decide (x8< (a1.length:Int))) rfl rfl rfl ?_ ?_
  ·
   intro hb
   rw [if_pos (b_dec_t hb)] at H
   refine Qab (Qad (Qah rfl (Qay (Qad ?_))))
   refine Qbh (Qad (Qag [0,1,2,3,4] rfl ?_))
   refine Qaa (v:=int .i64 x8) rfl rfl rfl ?_
   obtain ⟨g1,H⟩:=ite_get H
   refine Qbb (fkI .i16) 0 (hs.rd hr0) rfl (fun _=>rfl) g1.1 g1.2 rfl rfl rfl rfl rfl ?_
   intro p9 hp9 lp9 op9
   refine Qat rfl rfl (v:=int .i16 (rdL a1 x8 0)) rfl rfl (fun _=>rfl) hp9 ?_
   show G _ _ _ _ [_,_,_,_,_,_,_,_,_,_,_,_,_,_,_,_,_,_,_,_,_,_,_,_,_,_,_,_,_,_,_] _
   refine Qaa (v:=int .i64 x8) rfl rfl rfl ?_
   refine Qaa (v:=int .i16 (rdL a1 x8 0)) rfl rfl rfl (Qab ?_)
   obtain ⟨r10,Hr10,H⟩:=bind_get H
   obtain ⟨gd2,H⟩:=ite_get H
   obtain ⟨r11,Hr11,H⟩:=bind_get H
   refine Qbe ?_
   intro T hT
   refine QbM (n:=10) rfl [0,1,2,3,4,5,6,7,8,9] [0,1,2,3,4,5,6,7,8,9] rfl rfl (Inv:=fun D t w=>∃ O:Nat→Value,t=[O 0,O 1,O 2,pointer (some ⟨b4,0,none⟩),O 4,O 5,cnd (D 9) (int .i64 r11) (int .i64 x7),int .i64 x8,int .i16 (rdL a1 x8 0),O 9,O 10,O 11,O 12,v2,int .i64 (a1.length:Int),int .i64 x8,bool true,int .i64 x8,pointer (some p9),int .i16 (rdL a1 x8 0),cnd (D 0) (int .i64 x7) (O 20),cnd (D 1) (int .i16 (rdL a1 x8 0)) (O 21),cnd (D 2) (int .i64 (i64w (rdL a1 x8 0))) (O 22),cnd (D 3) (int .i64 r10) (O 23),cnd (D 4) (int .i64 x8) (O 24),cnd (D 5) (pointer (some ⟨b4,0+x8.toNat*1,none⟩)) (O 25),cnd (D 6) (int .i16 (a3.get x8 0)) (O 26),cnd (D 7) (int .i64 (i64w (a3.get x8 0))) (O 27),cnd (D 8) (int .i64 r11) (O 28),O 29,O 30]∧St w0 [Cells b4 ((encA (encI .i16)) a3) 28] w) ?_ ⟨⟨⟨⟨⟨⟨⟨⟨⟨⟨trivial,?_⟩,?_⟩,?_⟩,?_⟩,?_⟩,?_⟩,?_⟩,?_⟩,?_⟩,?_⟩ ?_
   ·
    intro w hh hbw
    have hs:=hs.samew hh hbw
    exact ⟨fun i=>T.getD i undef,(by subst hT;rfl),hs⟩
   ·
    rintro D t w hD hp hcl ⟨O,ht,hs⟩ rest hk
    have q3_:=nz hcl 3 0 hD
    have q8_:=nz hcl 8 0 q3_
    have q9_:=nz hcl 9 0 q8_
    simp only [hD,q3_,q8_,q9_,cq,oT] at ht hs
    subst ht
    refine Qaa (v:=int .i64 x7) rfl rfl rfl ?_
    show G _ _ _ _ [_,_,_,_,_,_,_,_,_,_,_,_,_,_,_,_,_,_,_,_,_,_,_,_,_,_,_,_,_,_,_] _
    refine hk _ _ ⟨O,?_,hs.cast ?_⟩<;>simp only [oT,lq,cq,Nat.reduceBEq,q3_,q8_,q9_]
   ·
    rintro D t w hD hp hcl ⟨O,ht,hs⟩ rest hk
    have q2_:=nz hcl 2 0 hD
    have q3_:=nz hcl 3 1 q2_
    have q8_:=nz hcl 8 0 q3_
    have q9_:=nz hcl 9 0 q8_
    simp only [hD,q2_,q3_,q8_,q9_,cq,oT] at ht hs
    subst ht
    refine Qaa (v:=int .i16 (rdL a1 x8 0)) rfl rfl rfl ?_
    show G _ _ _ _ [_,_,_,_,_,_,_,_,_,_,_,_,_,_,_,_,_,_,_,_,_,_,_,_,_,_,_,_,_,_,_] _
    refine hk _ _ ⟨O,?_,hs.cast ?_⟩<;>simp only [oT,lq,cq,Nat.reduceBEq,q2_,q3_,q8_,q9_]
   ·
    rintro D t w hD hp hcl ⟨O,ht,hs⟩ rest hk
    obtain ⟨p1_,_⟩:=hp
    have q3_:=nz hcl 3 1 hD
    have q8_:=nz hcl 8 0 q3_
    have q9_:=nz hcl 9 0 q8_
    simp only [hD,p1_,q3_,q8_,q9_,cq,oT] at ht hs
    subst ht
    refine Qaa (v:=int .i64 (i64w (rdL a1 x8 0))) rfl rfl rfl ?_
    show G _ _ _ _ [_,_,_,_,_,_,_,_,_,_,_,_,_,_,_,_,_,_,_,_,_,_,_,_,_,_,_,_,_,_,_] _
    refine hk _ _ ⟨O,?_,hs.cast ?_⟩<;>simp only [oT,lq,cq,Nat.reduceBEq,p1_,q3_,q8_,q9_]
   ·
    rintro D t w hD hp hcl ⟨O,ht,hs⟩ rest hk
    obtain ⟨p0_,p2_,_⟩:=hp
    obtain ⟨p1_,_⟩:=(hcl.get 2 (by decide)) p2_
    have q8_:=nz hcl 8 0 hD
    have q9_:=nz hcl 9 0 q8_
    simp only [hD,p0_,p1_,p2_,q8_,q9_,cq,oT] at ht hs
    subst ht
    refine QaB (args:=[int .i64 x7,int .i64 (i64w (rdL a1 x8 0))]) rfl rfl (QaC rfl (callFunc_enter Tryz.func42 rfl rfl) rfl) (Qa2.calls (a1:=x7) (a2:=i64w (rdL a1 x8 0)) Hr10) ?_
    rintro _ w ⟨rfl,hs2⟩
    have hs:St _ [_] _:=hs.call hs2
    show G _ _ _ _ [_,_,_,_,_,_,_,_,_,_,_,_,_,_,_,_,_,_,_,_,_,_,_,_,_,_,_,_,_,_,_] _
    refine hk _ _ ⟨O,?_,hs.cast ?_⟩<;>simp only [oT,lq,cq,Nat.reduceBEq,p0_,p1_,p2_,q8_,q9_]
   ·
    rintro D t w hD hp hcl ⟨O,ht,hs⟩ rest hk
    have q5_:=nz hcl 5 0 hD
    have q6_:=nz hcl 6 0 q5_
    have q7_:=nz hcl 7 0 q6_
    have q8_:=nz hcl 8 1 q7_
    have q9_:=nz hcl 9 0 q8_
    simp only [hD,q5_,q6_,q7_,q8_,q9_,cq,oT] at ht hs
    subst ht
    refine Qaa (v:=int .i64 x8) rfl rfl rfl ?_
    show G _ _ _ _ [_,_,_,_,_,_,_,_,_,_,_,_,_,_,_,_,_,_,_,_,_,_,_,_,_,_,_,_,_,_,_] _
    refine hk _ _ ⟨O,?_,hs.cast ?_⟩<;>simp only [oT,lq,cq,Nat.reduceBEq,q5_,q6_,q7_,q8_,q9_]
   ·
    rintro D t w hD hp hcl ⟨O,ht,hs⟩ rest hk
    obtain ⟨p4_,_⟩:=hp
    have q6_:=nz hcl 6 0 hD
    have q7_:=nz hcl 7 0 q6_
    have q8_:=nz hcl 8 1 q7_
    have q9_:=nz hcl 9 0 q8_
    simp only [hD,p4_,q6_,q7_,q8_,q9_,cq,oT] at ht hs
    subst ht
    refine Qbp (n:=x8) (m:=1) rfl (fun _=>rfl) gd2.1 gd2.2 rfl rfl rfl rfl rfl ?_
    show G _ _ _ _ [_,_,_,_,_,_,_,_,_,_,_,_,_,_,_,_,_,_,_,_,_,_,_,_,_,_,_,_,_,_,_] _
    refine hk _ _ ⟨O,?_,hs.cast ?_⟩<;>simp only [oT,lq,cq,Nat.reduceBEq,p4_,q6_,q7_,q8_,q9_]
   ·
    rintro D t w hD hp hcl ⟨O,ht,hs⟩ rest hk
    obtain ⟨p5_,_⟩:=hp
    obtain ⟨p4_,_⟩:=(hcl.get 5 (by decide)) p5_
    have q7_:=nz hcl 7 0 hD
    have q8_:=nz hcl 8 1 q7_
    have q9_:=nz hcl 9 0 q8_
    simp only [hD,p4_,p5_,q7_,q8_,q9_,cq,oT] at ht hs
    subst ht
    refine Qat rfl rfl (v:=int .i16 (a3.get x8 0)) rfl rfl (fun _=>rfl) (by rw [Nat.zero_add];exact cells_load (hs.cells 0 rfl) _ _ (encA_at (fkI .i16).len _ _ 0 gd2.1 gd2.2)) ?_
    show G _ _ _ _ [_,_,_,_,_,_,_,_,_,_,_,_,_,_,_,_,_,_,_,_,_,_,_,_,_,_,_,_,_,_,_] _
    refine hk _ _ ⟨O,?_,hs.cast ?_⟩<;>simp only [oT,lq,cq,Nat.reduceBEq,p4_,p5_,q7_,q8_,q9_]
   ·
    rintro D t w hD hp hcl ⟨O,ht,hs⟩ rest hk
    obtain ⟨p6_,_⟩:=hp
    obtain ⟨p5_,_⟩:=(hcl.get 6 (by decide)) p6_
    obtain ⟨p4_,_⟩:=(hcl.get 5 (by decide)) p5_
    have q8_:=nz hcl 8 1 hD
    have q9_:=nz hcl 9 0 q8_
    simp only [hD,p4_,p5_,p6_,q8_,q9_,cq,oT] at ht hs
    subst ht
    refine Qaa (v:=int .i64 (i64w (a3.get x8 0))) rfl rfl rfl ?_
    show G _ _ _ _ [_,_,_,_,_,_,_,_,_,_,_,_,_,_,_,_,_,_,_,_,_,_,_,_,_,_,_,_,_,_,_] _
    refine hk _ _ ⟨O,?_,hs.cast ?_⟩<;>simp only [oT,lq,cq,Nat.reduceBEq,p4_,p5_,p6_,q8_,q9_]
   ·
    rintro D t w hD hp hcl ⟨O,ht,hs⟩ rest hk
    obtain ⟨p3_,p7_,_,_⟩:=hp
    obtain ⟨p6_,_⟩:=(hcl.get 7 (by decide)) p7_
    obtain ⟨p5_,_⟩:=(hcl.get 6 (by decide)) p6_
    obtain ⟨p4_,_⟩:=(hcl.get 5 (by decide)) p5_
    obtain ⟨p0_,p2_,_⟩:=(hcl.get 3 (by decide)) p3_
    obtain ⟨p1_,_⟩:=(hcl.get 2 (by decide)) p2_
    have q9_:=nz hcl 9 0 hD
    simp only [hD,p0_,p1_,p2_,p3_,p4_,p5_,p6_,p7_,q9_,cq,oT] at ht hs
    subst ht
    refine QaB (args:=[int .i64 r10,int .i64 (i64w (a3.get x8 0))]) rfl rfl (QaC rfl (callFunc_enter Tryz.func42 rfl rfl) rfl) (Qa2.calls (a1:=r10) (a2:=i64w (a3.get x8 0)) Hr11) ?_
    rintro _ w ⟨rfl,hs2⟩
    have hs:St _ [_] _:=hs.call hs2
    show G _ _ _ _ [_,_,_,_,_,_,_,_,_,_,_,_,_,_,_,_,_,_,_,_,_,_,_,_,_,_,_,_,_,_,_] _
    refine hk _ _ ⟨O,?_,hs.cast ?_⟩<;>simp only [oT,lq,cq,Nat.reduceBEq,p0_,p1_,p2_,p3_,p4_,p5_,p6_,p7_,q9_]
   ·
    rintro D t w hD hp hcl ⟨O,ht,hs⟩ rest hk
    obtain ⟨p8_,_,p0_,p1_,p2_,p3_,p4_,p5_,p6_,p7_,_,_⟩:=hp
    simp only [hD,p0_,p1_,p2_,p3_,p4_,p5_,p6_,p7_,p8_,cq,oT] at ht hs
    subst ht
    refine Qaa (v:=int .i64 r11) rfl rfl rfl ?_
    show G _ _ _ _ [_,_,_,_,_,_,_,_,_,_,_,_,_,_,_,_,_,_,_,_,_,_,_,_,_,_,_,_,_,_,_] _
    refine hk _ _ ⟨O,?_,hs.cast ?_⟩<;>simp only [oT,lq,cq,Nat.reduceBEq,p0_,p1_,p2_,p3_,p4_,p5_,p6_,p7_,p8_]
   intro D t w hall hI
   obtain ⟨O,ht,hs⟩:=hI
   have p0_:=hall 0 (by decide)
   have p1_:=hall 1 (by decide)
   have p2_:=hall 2 (by decide)
   have p3_:=hall 3 (by decide)
   have p4_:=hall 4 (by decide)
   have p5_:=hall 5 (by decide)
   have p6_:=hall 6 (by decide)
   have p7_:=hall 7 (by decide)
   have p8_:=hall 8 (by decide)
   have p9_:=hall 9 (by decide)
   simp only [p0_,p1_,p2_,p3_,p4_,p5_,p6_,p7_,p8_,p9_,cq,oT] at ht hs
   subst ht
   refine QaE (Qag [0,1] rfl ?_)
   refine Qaa (v:=int .i64 (i64w (x8+1))) rfl rfl rfl ?_
   show G _ _ _ _ [_,_,_,_,_,_,_,_,_,_,_,_,_,_,_,_,_,_,_,_,_,_,_,_,_,_,_,_,_,_,_] _
   refine Qaa (v:=int .i64 (i64w (x8+1))) rfl rfl rfl (Qab ?_)
   obtain rfl:=QsJ H
   have hs:=hs.pull 0 rfl
   have hs:St _ [_] _:=St.take (Γ':=[]) hs
   exact ih1_ _ _ ⟨r11,i64w (x8+1),Hx1_,rfl,hs⟩
  intro hb
  rw [if_neg (b_dec_f hb)] at H
  show G _ _ _ _ [_,_,_,_,_,_,_,_,_,_,_,_,_,_,_,_,_,_,_,_,_,_,_,_,_,_,_,_,_,_,_] _
  refine Qab (Qad (Qal rfl ?_))
  obtain rfl:=QsJ H
  subst Hx1_
  have hs:St _ [] _:=St.take (Γ':=[_]) hs
  refine Qa7 rfl ?_
  exact ha1_ _ _ ⟨x7,Hr1_,rfl,hs⟩
 |false=>
  rw [if_neg Bool.false_ne_true] at H
  refine Qaa (v:=bool true) rfl rfl rfl ?_
  show G _ _ _ _ [_,_,_,_,_,_,_,_,_,_,_,_,_,_,_,_,_,_,_,_,_,_,_,_,_,_,_,_,_,_,_] _
  refine Qab (Qah rfl (Qad (Qag [0,1] rfl ?_)))
  refine Qaa (v:=int .i64 0) rfl rfl rfl ?_
  refine Qaa (v:=int .i64 1) rfl rfl rfl (Qab ?_)
  obtain rfl:=QsJ H
  refine Qas Tryz.func16 (v:=tuple #[int .i64 0,int .i64 1]) (resN (l:=Tryz.f16.results.toList) (vs:=[int .i64 0,int .i64 1]) rfl ⟨rfl,rfl,trivial⟩ (by simp)) ?_
  have hs:St _ [] _:=St.take (Γ':=[_]) hs
  exact ⟨_,rfl,rfl,hs⟩
def QbL.post (w0:World) (r:Int) (v:Value) (w:World):Prop:=v=int .i64 r∧St w0 [] w
theorem QbL.calls {N:Nat} {a1:Bool} {a2:Int} {w0:World} {r:Int} (H:QbL.f N a1 a2=some r):
 Calls Tryz.prog 59 #[bool a1,int .i64 a2] w0 fun e w=>∃ v,e= .returned v∧QbL.post w0 r v w:=by
 unfold QbL.f at H
 have hs:St w0 [] w0:=St.refl w0
 refine calls_of_g (n:=5) Tryz.func59 rfl rfl ?_
 show G _ _ _ _ [_,_,_,_,_,_,_] _
 refine Qad (Qag [0] rfl ?_)
 refine Qaa (v:=int .i64 0) rfl rfl rfl (Qab (Qad (Qad (Qag [0] rfl ?_))))
 refine Qap (B:=a1) rfl rfl rfl ?_ ?_
 ·
  intro hb
  rw [if_pos (b_var_t hb)] at H
  refine Qab (Qah rfl (Qad (Qag [0] rfl ?_)))
  refine Qaa (v:=int .i64 0) rfl rfl rfl ?_
  show G _ _ _ _ [_,_,_,_,_,_,_] _
  refine Qab ?_
  obtain rfl:=QsJ H
  refine Qas Tryz.func59 (v:=int .i64 0) (res1 rfl rfl) ?_
  have hs:St _ [] _:=St.take (Γ':=[]) hs
  exact ⟨_,rfl,rfl,hs⟩
 intro hb
 rw [if_neg (b_var_f hb)] at H
 show G _ _ _ _ [_,_,_,_,_,_,_] _
 refine Qab (Qal rfl (Qay (Qad (Qag [0,1] rfl ?_))))
 refine Qaa (v:=int .i64 a2) rfl rfl rfl ?_
 refine Qaa (v:=int .i64 a2) rfl rfl rfl (Qab ?_)
 obtain rfl:=QsJ H
 refine Qas Tryz.func59 (v:=int .i64 a2) (res1 rfl rfl) ?_
 have hs:St _ [] _:=St.take (Γ':=[]) hs
 exact ⟨_,rfl,rfl,hs⟩
def Qbk.post (w0:World) (r:Int) (v:Value) (w:World):Prop:=v=int .i64 r∧St w0 [] w
theorem Qbk.calls {N:Nat} {a1:(List Int)} {a3:(Ar Int 4)} {a4:Int} {v2:Value} {w0:World} {r:Int} (hr0:RdRow (K.int .i16) w0 v2 a1) (H:Qbk.f N a1 a3 a4=some r):
 Calls Tryz.prog 43 #[v2,agg ((encA (encI .i16)) a3).toArray,int .i64 a4] w0 fun e w=>∃ v,e= .returned v∧Qbk.post w0 r v w:=by
 unfold Qbk.f at H
 have hs:St w0 [] w0:=St.refl w0
 refine calls_of_g (n:=11) Tryz.func43 rfl rfl ?_
 show G _ _ _ _ [_,_,_,_,_,_,_,_,_,_,_,_,_,_] _
 refine Qad (Qag [0,1] rfl ?_)
 refine Qbq hs rfl rfl (cs:=((encA (encI .i16)) a3)) rfl rfl ?_
 intro b5 w hs
 refine Qaa (v:=int .i64 0) rfl rfl rfl ?_
 show G _ _ _ _ [_,_,_,_,_,_,_,_,_,_,_,_,_,_] _
 refine Qab (Qad (Qad (Qag [0,1,2,3] rfl ?_)))
 refine Qaa (v:=v2) rfl rfl rfl ?_
 refine QaG rfl rfl (es:=((encA (encI .i16)) a3)) rfl rfl (fun _=>rfl) (n:=4) (fun _=>rfl) ((fkA (n:=4) (he:=(fkI .i16).len) (h1:=(fkI .i16).one)).len _) (cells_all (hs.cells 0 rfl)) ?_
 obtain ⟨r7,Hr7,H⟩:=bind_get H
 refine QaB (args:=[v2,agg ((encA (encI .i16)) a3).toArray]) rfl rfl (QaC rfl (callFunc_enter Tryz.func12 rfl rfl) rfl) (QaM.calls (a1:=a1) (a3:=a3) (hs.rd hr0) Hr7) ?_
 rintro _ w ⟨rfl,hs2⟩
 have hs:St _ [_] _:=hs.call hs2
 cases r7 with
 |true=>
  rw [if_pos rfl] at H
  refine Qaa (v:=bool false) rfl rfl rfl (Qab (Qal rfl (Qay (Qad (Qag [0,1,2,3] rfl ?_)))))
  refine Qaa (v:=int .i64 a4) rfl rfl rfl ?_
  show G _ _ _ _ [_,_,_,_,_,_,_,_,_,_,_,_,_,_] _
  obtain ⟨r8,Hr8,H⟩:=bind_get H
  refine QaB (args:=[int .i64 a4,int .i64 0,int .i64 120]) rfl rfl (QaC rfl (callFunc_enter Tryz.func33 rfl rfl) rfl) (Qbl.calls (a1:=a4) (a2:=0) (a3:=120) Hr8) ?_
  rintro _ w ⟨rfl,hs2⟩
  have hs:St _ [_] _:=hs.call hs2
  obtain ⟨r9,Hr9,H⟩:=bind_get H
  refine QaB (args:=[bool r8,int .i64 2]) rfl rfl (QaC rfl (callFunc_enter Tryz.func59 rfl rfl) rfl) (QbL.calls (a1:=r8) (a2:=2) Hr9) ?_
  rintro _ w ⟨rfl,hs2⟩
  have hs:St _ [_] _:=hs.call hs2
  refine Qaa (v:=int .i64 r9) rfl rfl rfl ?_
  show G _ _ _ _ [_,_,_,_,_,_,_,_,_,_,_,_,_,_] _
  refine Qab ?_
  obtain rfl:=QsJ H
  refine Qas Tryz.func43 (v:=int .i64 r9) (res1 rfl rfl) ?_
  have hs:St _ [] _:=St.take (Γ':=[_]) hs
  exact ⟨_,rfl,rfl,hs⟩
 |false=>
  rw [if_neg Bool.false_ne_true] at H
  show G _ _ _ _ [_,_,_,_,_,_,_,_,_,_,_,_,_,_] _
  refine Qaa (v:=bool true) rfl rfl rfl (Qab (Qah rfl (Qad (Qag [0] rfl ?_))))
  refine Qaa (v:=int .i64 1) rfl rfl rfl (Qab ?_)
  obtain rfl:=QsJ H
  refine Qas Tryz.func43 (v:=int .i64 1) (res1 rfl rfl) ?_
  have hs:St _ [] _:=St.take (Γ':=[_]) hs
  exact ⟨_,rfl,rfl,hs⟩
def bits_OnesCount8.post (w0:World) (r:Int) (v:Value) (w:World):Prop:=v=int .i64 r∧St w0 [] w
theorem bits_OnesCount8.calls {N:Nat} {a1:Int} {w0:World} {r:Int} (H:bits_OnesCount8.f N a1=some r):
 Calls Tryz.prog 75 #[int .u8 a1] w0 fun e w=>∃ v,e= .returned v∧bits_OnesCount8.post w0 r v w:=by
 unfold bits_OnesCount8.f at H
 have hs:St w0 [] w0:=St.refl w0
 refine calls_of_g (n:=5) Tryz.func75 rfl rfl ?_
 show G _ _ _ _ [_,_,_,_,_,_] _
 refine Qad (Qag [0] rfl ?_)
 refine Qaa (v:=int .i64 0) rfl rfl rfl (Qab (Qad (Qag [0,1,2,3] rfl ?_)))
 refine Qaa (v:=int .u8 a1) rfl rfl rfl ?_
 show G _ _ _ _ [_,_,_,_,_,_] _
 obtain ⟨g1,H⟩:=ite_get H
 refine Qaa (v:=int .u8 (btS (⟨#[0,1,1,2,1,2,2,3,1,2,2,3,2,3,3,4,1,2,2,3,2,3,3,4,2,3,3,4,3,4,4,5,1,2,2,3,2,3,3,4,2,3,3,4,3,4,4,5,2,3,3,4,3,4,4,5,3,4,4,5,4,5,5,6,1,2,2,3,2,3,3,4,2,3,3,4,3,4,4,5,2,3,3,4,3,4,4,5,3,4,4,5,4,5,5,6,2,3,3,4,3,4,4,5,3,4,4,5,4,5,5,6,3,4,4,5,4,5,5,6,4,5,5,6,5,6,6,7,1,2,2,3,2,3,3,4,2,3,3,4,3,4,4,5,2,3,3,4,3,4,4,5,3,4,4,5,4,5,5,6,2,3,3,4,3,4,4,5,3,4,4,5,4,5,5,6,3,4,4,5,4,5,5,6,4,5,5,6,5,6,6,7,2,3,3,4,3,4,4,5,3,4,4,5,4,5,5,6,3,4,4,5,4,5,5,6,4,5,5,6,5,6,6,7,3,4,4,5,4,5,5,6,4,5,5,6,5,6,6,7,4,5,5,6,5,6,6,7,5,6,6,7,6,7,7,8]⟩:ByteArray) a1)) rfl rfl (Qcz rfl rfl rfl rfl g1.1 g1.2) ?_
 refine Qaa (v:=int .i64 (i64w (btS (⟨#[0,1,1,2,1,2,2,3,1,2,2,3,2,3,3,4,1,2,2,3,2,3,3,4,2,3,3,4,3,4,4,5,1,2,2,3,2,3,3,4,2,3,3,4,3,4,4,5,2,3,3,4,3,4,4,5,3,4,4,5,4,5,5,6,1,2,2,3,2,3,3,4,2,3,3,4,3,4,4,5,2,3,3,4,3,4,4,5,3,4,4,5,4,5,5,6,2,3,3,4,3,4,4,5,3,4,4,5,4,5,5,6,3,4,4,5,4,5,5,6,4,5,5,6,5,6,6,7,1,2,2,3,2,3,3,4,2,3,3,4,3,4,4,5,2,3,3,4,3,4,4,5,3,4,4,5,4,5,5,6,2,3,3,4,3,4,4,5,3,4,4,5,4,5,5,6,3,4,4,5,4,5,5,6,4,5,5,6,5,6,6,7,2,3,3,4,3,4,4,5,3,4,4,5,4,5,5,6,3,4,4,5,4,5,5,6,4,5,5,6,5,6,6,7,3,4,4,5,4,5,5,6,4,5,5,6,5,6,6,7,4,5,5,6,5,6,6,7,5,6,6,7,6,7,7,8]⟩:ByteArray) a1))) rfl rfl rfl ?_
 refine Qaa (v:=int .i64 (i64w (btS (⟨#[0,1,1,2,1,2,2,3,1,2,2,3,2,3,3,4,1,2,2,3,2,3,3,4,2,3,3,4,3,4,4,5,1,2,2,3,2,3,3,4,2,3,3,4,3,4,4,5,2,3,3,4,3,4,4,5,3,4,4,5,4,5,5,6,1,2,2,3,2,3,3,4,2,3,3,4,3,4,4,5,2,3,3,4,3,4,4,5,3,4,4,5,4,5,5,6,2,3,3,4,3,4,4,5,3,4,4,5,4,5,5,6,3,4,4,5,4,5,5,6,4,5,5,6,5,6,6,7,1,2,2,3,2,3,3,4,2,3,3,4,3,4,4,5,2,3,3,4,3,4,4,5,3,4,4,5,4,5,5,6,2,3,3,4,3,4,4,5,3,4,4,5,4,5,5,6,3,4,4,5,4,5,5,6,4,5,5,6,5,6,6,7,2,3,3,4,3,4,4,5,3,4,4,5,4,5,5,6,3,4,4,5,4,5,5,6,4,5,5,6,5,6,6,7,3,4,4,5,4,5,5,6,4,5,5,6,5,6,6,7,4,5,5,6,5,6,6,7,5,6,6,7,6,7,7,8]⟩:ByteArray) a1))) rfl rfl rfl ?_
 show G _ _ _ _ [_,_,_,_,_,_] _
 refine Qab ?_
 obtain rfl:=QsJ H
 refine Qas Tryz.func75 (v:=int .i64 (i64w (btS (⟨#[0,1,1,2,1,2,2,3,1,2,2,3,2,3,3,4,1,2,2,3,2,3,3,4,2,3,3,4,3,4,4,5,1,2,2,3,2,3,3,4,2,3,3,4,3,4,4,5,2,3,3,4,3,4,4,5,3,4,4,5,4,5,5,6,1,2,2,3,2,3,3,4,2,3,3,4,3,4,4,5,2,3,3,4,3,4,4,5,3,4,4,5,4,5,5,6,2,3,3,4,3,4,4,5,3,4,4,5,4,5,5,6,3,4,4,5,4,5,5,6,4,5,5,6,5,6,6,7,1,2,2,3,2,3,3,4,2,3,3,4,3,4,4,5,2,3,3,4,3,4,4,5,3,4,4,5,4,5,5,6,2,3,3,4,3,4,4,5,3,4,4,5,4,5,5,6,3,4,4,5,4,5,5,6,4,5,5,6,5,6,6,7,2,3,3,4,3,4,4,5,3,4,4,5,4,5,5,6,3,4,4,5,4,5,5,6,4,5,5,6,5,6,6,7,3,4,4,5,4,5,5,6,4,5,5,6,5,6,6,7,4,5,5,6,5,6,6,7,5,6,6,7,6,7,7,8]⟩:ByteArray) a1))) (res1 rfl rfl) ?_
 have hs:St _ [] _:=St.take (Γ':=[]) hs
 exact ⟨_,rfl,rfl,hs⟩
def Qbg.post (wb:World) (Z:As) (b4:Nat) (v8:Value) (mm10:(List (Option Nat))) (b7:Nat) (v8:Value) (r:(Int×(List (Option (List ((Ar Int 4)×Int))))×(List (Option (List ((Ar Int 4)×Int)))))) (v:Value) (w:World):Prop:=v=tuple #[]∧St wb [Cells b4 ((encI .i64) r.1) 2,Rows2 101 kHM (MapO (ekA (n:=4) .i16) (int .i64)) v8 mm10 r.2.1,Cells b7 [v8] 99,Z] w
theorem Qbg.calls {N:Nat} {a1:Int} {a2:Qa3} {a3:Int} {a6:(List (Option (List ((Ar Int 4)×Int))))} {b4:Nat} {b7:Nat} {v8:Value} {mm10:(List (Option Nat))} {wb:World} {Z:As} {w0:World} {r:(Int×(List (Option (List ((Ar Int 4)×Int))))×(List (Option (List ((Ar Int 4)×Int)))))} (hs:St wb [Cells b4 ((encI .i64) a3) 2,Rows2 101 kHM (MapO (ekA (n:=4) .i16) (int .i64)) v8 mm10 a6,Cells b7 ([v8]) 99,Z] w0) (H:Qbg.f N a1 a2 a3 a6=some r):
 Calls Tryz.prog 74 #[int .u8 a1,agg (QaD a2).toArray,pointer (some ⟨b4,0,none⟩),pointer (some ⟨b7,0,none⟩)] w0 fun e w=>∃ v,e= .returned v∧Qbg.post wb Z b4 v8 mm10 b7 v8 r v w:=by
 unfold Qbg.f at H
 refine calls_of_g (n:=35) Tryz.func74 rfl rfl ?_
 show G _ _ _ _ [_,_,_,_,_,_,_,_,_,_,_,_,_,_,_,_,_,_,_,_,_,_,_,_,_,_,_,_,_,_,_,_,_,_,_,_,_,_,_] _
 refine Qad (Qag [0] rfl ?_)
 refine Qbq hs rfl rfl (cs:=(QaD a2)) rfl rfl ?_
 intro b12 w hs
 show G _ _ _ _ [_,_,_,_,_,_,_,_,_,_,_,_,_,_,_,_,_,_,_,_,_,_,_,_,_,_,_,_,_,_,_,_,_,_,_,_,_,_,_] _
 refine Qab (Qad ?_)
 obtain ⟨r14,Hr14,H⟩:=bind_get H
 refine Qbe ?_
 intro T hT
 refine QbM (n:=5) rfl [0,1,2,3,4] [0,1,2,3,4] rfl rfl (Inv:=fun D t w=>∃ O:Nat→Value,t=[int .u8 a1,agg (QaD a2).toArray,pointer (some ⟨b4,0,none⟩),pointer (some ⟨b7,0,none⟩),O 4,pointer (some ⟨b12,0,none⟩),cnd (D 4) (int .i64 (i64w (a3+r14))) (O 6),O 7,O 8,cnd (D 0) (int .i64 a3) (O 9),cnd (D 1) (int .u8 a1) (O 10),cnd (D 2) (int .i64 r14) (O 11),cnd (D 3) (int .i64 (i64w (a3+r14))) (O 12),O 13,O 14,O 15,O 16,O 17,O 18,O 19,O 20,O 21,O 22,O 23,O 24,O 25,O 26,O 27,O 28,O 29,O 30,O 31,O 32,O 33,O 34,O 35,O 36,O 37,O 38]∧St wb [Cells b12 (QaD a2) 113,Cells b4 ((encI .i64) a3) 2,Rows2 101 kHM (MapO (ekA (n:=4) .i16) (int .i64)) v8 mm10 a6,Cells b7 ([v8]) 99,Z] w) ?_ ⟨⟨⟨⟨⟨trivial,?_⟩,?_⟩,?_⟩,?_⟩,?_⟩ ?_
 ·
  intro w hh hbw
  have hs:=hs.samew hh hbw
  exact ⟨fun i=>T.getD i undef,(by subst hT;rfl),hs⟩
 ·
  rintro D t w hD hp hcl ⟨O,ht,hs⟩ rest hk
  have q3_:=nz hcl 3 0 hD
  have q4_:=nz hcl 4 0 q3_
  simp only [hD,q3_,q4_,cq,oT] at ht hs
  subst ht
  refine Qat rfl rfl (v:=int .i64 a3) rfl rfl (fun _=>rfl) (cells_load (hs.cells 1 rfl) 0 1 rfl) ?_
  show G _ _ _ _ [_,_,_,_,_,_,_,_,_,_,_,_,_,_,_,_,_,_,_,_,_,_,_,_,_,_,_,_,_,_,_,_,_,_,_,_,_,_,_] _
  refine hk _ _ ⟨O,?_,hs.cast ?_⟩<;>simp only [oT,lq,cq,Nat.reduceBEq,q3_,q4_]
 ·
  rintro D t w hD hp hcl ⟨O,ht,hs⟩ rest hk
  have q2_:=nz hcl 2 0 hD
  have q3_:=nz hcl 3 1 q2_
  have q4_:=nz hcl 4 0 q3_
  simp only [hD,q2_,q3_,q4_,cq,oT] at ht hs
  subst ht
  refine Qaa (v:=int .u8 a1) rfl rfl rfl ?_
  show G _ _ _ _ [_,_,_,_,_,_,_,_,_,_,_,_,_,_,_,_,_,_,_,_,_,_,_,_,_,_,_,_,_,_,_,_,_,_,_,_,_,_,_] _
  refine hk _ _ ⟨O,?_,hs.cast ?_⟩<;>simp only [oT,lq,cq,Nat.reduceBEq,q2_,q3_,q4_]
 ·
  rintro D t w hD hp hcl ⟨O,ht,hs⟩ rest hk
  obtain ⟨p1_,_⟩:=hp
  have q3_:=nz hcl 3 1 hD
  have q4_:=nz hcl 4 0 q3_
  simp only [hD,p1_,q3_,q4_,cq,oT] at ht hs
  subst ht
  refine QaB (args:=[int .u8 a1]) rfl rfl (QaC rfl (callFunc_enter Tryz.func75 rfl rfl) rfl) (bits_OnesCount8.calls (a1:=a1) Hr14) ?_
  rintro _ w ⟨rfl,hs2⟩
  have hs:St _ [_,_,_,_,_] _:=hs.call hs2
  show G _ _ _ _ [_,_,_,_,_,_,_,_,_,_,_,_,_,_,_,_,_,_,_,_,_,_,_,_,_,_,_,_,_,_,_,_,_,_,_,_,_,_,_] _
  refine hk _ _ ⟨O,?_,hs.cast ?_⟩<;>simp only [oT,lq,cq,Nat.reduceBEq,p1_,q3_,q4_]
 ·
  rintro D t w hD hp hcl ⟨O,ht,hs⟩ rest hk
  obtain ⟨p0_,p2_,_⟩:=hp
  obtain ⟨p1_,_⟩:=(hcl.get 2 (by decide)) p2_
  have q4_:=nz hcl 4 0 hD
  simp only [hD,p0_,p1_,p2_,q4_,cq,oT] at ht hs
  subst ht
  refine Qaa (v:=int .i64 (i64w (a3+r14))) rfl rfl rfl ?_
  show G _ _ _ _ [_,_,_,_,_,_,_,_,_,_,_,_,_,_,_,_,_,_,_,_,_,_,_,_,_,_,_,_,_,_,_,_,_,_,_,_,_,_,_] _
  refine hk _ _ ⟨O,?_,hs.cast ?_⟩<;>simp only [oT,lq,cq,Nat.reduceBEq,p0_,p1_,p2_,q4_]
 ·
  rintro D t w hD hp hcl ⟨O,ht,hs⟩ rest hk
  obtain ⟨p3_,p2_,p0_,p1_,_,_,_⟩:=hp
  simp only [hD,p0_,p1_,p2_,p3_,cq,oT] at ht hs
  subst ht
  refine Qaa (v:=int .i64 (i64w (a3+r14))) rfl rfl rfl ?_
  show G _ _ _ _ [_,_,_,_,_,_,_,_,_,_,_,_,_,_,_,_,_,_,_,_,_,_,_,_,_,_,_,_,_,_,_,_,_,_,_,_,_,_,_] _
  refine hk _ _ ⟨O,?_,hs.cast ?_⟩<;>simp only [oT,lq,cq,Nat.reduceBEq,p0_,p1_,p2_,p3_]
 intro D t w hall hI
 obtain ⟨O,ht,hs⟩:=hI
 have p0_:=hall 0 (by decide)
 have p1_:=hall 1 (by decide)
 have p2_:=hall 2 (by decide)
 have p3_:=hall 3 (by decide)
 have p4_:=hall 4 (by decide)
 simp only [p0_,p1_,p2_,p3_,p4_,cq,oT] at ht hs
 subst ht
 refine Qad ?_
 obtain ⟨gd1,H⟩:=ite_get H
 obtain ⟨ad2_,ad2_N,ad2_C,had2_⟩:=sl_at (hs.r2row 2 rfl) gd1.1 (hs.r2lt 2 rfl gd1.2)
 refine Qbe ?_
 intro T hT
 refine QbM (n:=13) rfl [0,1,2,3,4,5,6,7,8,9,10,11,12] [0,1,2,3,4,5,6,7,8,9,11,10,12] rfl rfl (Inv:=fun D t w=>∃ O:Nat→Value,t=[int .u8 a1,agg (QaD a2).toArray,pointer (some ⟨b4,0,none⟩),pointer (some ⟨b7,0,none⟩),O 4,pointer (some ⟨b12,0,none⟩),int .i64 (i64w (a3+r14)),cnd (D 11) (int .i64 (mGet ((rdL a6 a2.Qav none).getD []) a2.Qaz 0)) (O 7),cnd (D 12) (bool (mIdx ((rdL a6 a2.Qav none).getD []) a2.Qaz).isSome) (O 8),int .i64 a3,int .u8 a1,int .i64 r14,int .i64 (i64w (a3+r14)),cnd (D 8) (tuple #[int .i64 (mGet ((rdL a6 a2.Qav none).getD []) a2.Qaz 0),bool (mIdx ((rdL a6 a2.Qav none).getD []) a2.Qaz).isSome]) (O 13),cnd (D 0) v8 (O 14),cnd (D 1) (pointer (some ⟨b12,0,none⟩)) (O 15),cnd (D 2) (int .i64 a2.Qav) (O 16),cnd (D 3) (pointer (some (ad2_.add (a2.Qav.toNat*1)))) (O 17),cnd (D 4) (Value.map (rdL mm10 a2.Qav none)) (O 18),cnd (D 5) (pointer (some ⟨b12,1,none⟩)) (O 19),cnd (D 6) (agg ((encA (encI .i16)) a2.Qaz).toArray) (O 20),cnd (D 7) (tuple #[int .i64 (mGet ((rdL a6 a2.Qav none).getD []) a2.Qaz 0),bool (mIdx ((rdL a6 a2.Qav none).getD []) a2.Qaz).isSome]) (O 21),cnd (D 9) (int .i64 (mGet ((rdL a6 a2.Qav none).getD []) a2.Qaz 0)) (O 22),cnd (D 10) (bool (mIdx ((rdL a6 a2.Qav none).getD []) a2.Qaz).isSome) (O 23),O 24,O 25,O 26,O 27,O 28,O 29,O 30,O 31,O 32,O 33,O 34,O 35,O 36,O 37,O 38]∧St wb [Cells b12 (QaD a2) 113,Cells b4 ((encI .i64) a3) 2,Rows2 101 kHM (MapO (ekA (n:=4) .i16) (int .i64)) v8 mm10 a6,Cells b7 ([v8]) 99,Z] w) ?_ ⟨⟨⟨⟨⟨⟨⟨⟨⟨⟨⟨⟨⟨trivial,?_⟩,?_⟩,?_⟩,?_⟩,?_⟩,?_⟩,?_⟩,?_⟩,?_⟩,?_⟩,?_⟩,?_⟩,?_⟩ ?_
 ·
  intro w hh hbw
  have hs:=hs.samew hh hbw
  exact ⟨fun i=>T.getD i undef,(by subst hT;rfl),hs⟩
 ·
  rintro D t w hD hp hcl ⟨O,ht,hs⟩ rest hk
  have q3_:=nz hcl 3 0 hD
  have q4_:=nz hcl 4 0 q3_
  have q7_:=nz hcl 7 0 q4_
  have q8_:=nz hcl 8 0 q7_
  have q9_:=nz hcl 9 0 q8_
  have q10_:=nz hcl 10 0 q8_
  have q11_:=nz hcl 11 0 q9_
  have q12_:=nz hcl 12 0 q10_
  simp only [hD,q3_,q4_,q7_,q8_,q9_,q10_,q11_,q12_,cq,oT] at ht hs
  subst ht
  refine Qat rfl rfl (v:=v8) rfl rfl (fun _=>rfl) (cells_load (hs.cells 3 rfl) 0 1 rfl) ?_
  show G _ _ _ _ [_,_,_,_,_,_,_,_,_,_,_,_,_,_,_,_,_,_,_,_,_,_,_,_,_,_,_,_,_,_,_,_,_,_,_,_,_,_,_] _
  refine hk _ _ ⟨O,?_,hs.cast ?_⟩<;>simp only [oT,lq,cq,Nat.reduceBEq,q3_,q4_,q7_,q8_,q9_,q10_,q11_,q12_]
 ·
  rintro D t w hD hp hcl ⟨O,ht,hs⟩ rest hk
  have q2_:=nz hcl 2 0 hD
  have q3_:=nz hcl 3 1 q2_
  have q4_:=nz hcl 4 0 q3_
  have q7_:=nz hcl 7 0 q4_
  have q8_:=nz hcl 8 0 q7_
  have q9_:=nz hcl 9 0 q8_
  have q10_:=nz hcl 10 0 q8_
  have q11_:=nz hcl 11 0 q9_
  have q12_:=nz hcl 12 0 q10_
  simp only [hD,q2_,q3_,q4_,q7_,q8_,q9_,q10_,q11_,q12_,cq,oT] at ht hs
  subst ht
  refine Qaa (v:=pointer (some ⟨b12,0,none⟩)) rfl rfl rfl ?_
  show G _ _ _ _ [_,_,_,_,_,_,_,_,_,_,_,_,_,_,_,_,_,_,_,_,_,_,_,_,_,_,_,_,_,_,_,_,_,_,_,_,_,_,_] _
  refine hk _ _ ⟨O,?_,hs.cast ?_⟩<;>simp only [oT,lq,cq,Nat.reduceBEq,q2_,q3_,q4_,q7_,q8_,q9_,q10_,q11_,q12_]
 ·
  rintro D t w hD hp hcl ⟨O,ht,hs⟩ rest hk
  obtain ⟨p1_,_⟩:=hp
  have q3_:=nz hcl 3 1 hD
  have q4_:=nz hcl 4 0 q3_
  have q7_:=nz hcl 7 0 q4_
  have q8_:=nz hcl 8 0 q7_
  have q9_:=nz hcl 9 0 q8_
  have q10_:=nz hcl 10 0 q8_
  have q11_:=nz hcl 11 0 q9_
  have q12_:=nz hcl 12 0 q10_
  simp only [hD,p1_,q3_,q4_,q7_,q8_,q9_,q10_,q11_,q12_,cq,oT] at ht hs
  subst ht
  refine Qat rfl rfl (v:=int .i64 a2.Qav) rfl rfl (fun _=>rfl) (cells_load (hs.cells 0 rfl) 0 1 (by first|rfl|(simp only [QaD];simp [List.drop_append,List.take_append,encAI_len,encAB_len,List.take_of_length_le]))) ?_
  show G _ _ _ _ [_,_,_,_,_,_,_,_,_,_,_,_,_,_,_,_,_,_,_,_,_,_,_,_,_,_,_,_,_,_,_,_,_,_,_,_,_,_,_] _
  refine hk _ _ ⟨O,?_,hs.cast ?_⟩<;>simp only [oT,lq,cq,Nat.reduceBEq,p1_,q3_,q4_,q7_,q8_,q9_,q10_,q11_,q12_]
 ·
  rintro D t w hD hp hcl ⟨O,ht,hs⟩ rest hk
  obtain ⟨p0_,p2_,_⟩:=hp
  obtain ⟨p1_,_⟩:=(hcl.get 2 (by decide)) p2_
  have q4_:=nz hcl 4 0 hD
  have q7_:=nz hcl 7 0 q4_
  have q8_:=nz hcl 8 0 q7_
  have q9_:=nz hcl 9 0 q8_
  have q10_:=nz hcl 10 0 q8_
  have q11_:=nz hcl 11 0 q9_
  have q12_:=nz hcl 12 0 q10_
  simp only [hD,p0_,p1_,p2_,q4_,q7_,q8_,q9_,q10_,q11_,q12_,cq,oT] at ht hs
  subst ht
  refine Qby (κ:=kHM) (m:=1) rfl (hs.r2row 2 rfl) rfl (fun _=>rfl) gd1.1 (hs.r2lt 2 rfl gd1.2) had2_ rfl rfl rfl rfl rfl ?_
  show G _ _ _ _ [_,_,_,_,_,_,_,_,_,_,_,_,_,_,_,_,_,_,_,_,_,_,_,_,_,_,_,_,_,_,_,_,_,_,_,_,_,_,_] _
  refine hk _ _ ⟨O,?_,hs.cast ?_⟩<;>simp only [oT,lq,cq,Nat.reduceBEq,p0_,p1_,p2_,q4_,q7_,q8_,q9_,q10_,q11_,q12_]
 ·
  rintro D t w hD hp hcl ⟨O,ht,hs⟩ rest hk
  obtain ⟨p3_,_⟩:=hp
  obtain ⟨p0_,p2_,_⟩:=(hcl.get 3 (by decide)) p3_
  obtain ⟨p1_,_⟩:=(hcl.get 2 (by decide)) p2_
  have q7_:=nz hcl 7 0 hD
  have q8_:=nz hcl 8 0 q7_
  have q9_:=nz hcl 9 0 q8_
  have q10_:=nz hcl 10 0 q8_
  have q11_:=nz hcl 11 0 q9_
  have q12_:=nz hcl 12 0 q10_
  simp only [hD,p0_,p1_,p2_,p3_,q7_,q8_,q9_,q10_,q11_,q12_,cq,oT] at ht hs
  subst ht
  refine Qat rfl rfl (v:=Value.map (rdL mm10 a2.Qav none)) rfl rfl (fun _=>rfl) (cellsAt_of fkHM none (hs.r2row 2 rfl) had2_ gd1.1 (hs.r2lt 2 rfl gd1.2)) ?_
  show G _ _ _ _ [_,_,_,_,_,_,_,_,_,_,_,_,_,_,_,_,_,_,_,_,_,_,_,_,_,_,_,_,_,_,_,_,_,_,_,_,_,_,_] _
  refine hk _ _ ⟨O,?_,hs.cast ?_⟩<;>simp only [oT,lq,cq,Nat.reduceBEq,p0_,p1_,p2_,p3_,q7_,q8_,q9_,q10_,q11_,q12_]
 ·
  rintro D t w hD hp hcl ⟨O,ht,hs⟩ rest hk
  have q6_:=nz hcl 6 0 hD
  have q7_:=nz hcl 7 1 q6_
  have q8_:=nz hcl 8 0 q7_
  have q9_:=nz hcl 9 0 q8_
  have q10_:=nz hcl 10 0 q8_
  have q11_:=nz hcl 11 0 q9_
  have q12_:=nz hcl 12 0 q10_
  simp only [hD,q6_,q7_,q8_,q9_,q10_,q11_,q12_,cq,oT] at ht hs
  subst ht
  refine Qaa (v:=pointer (some ⟨b12,1,none⟩)) rfl rfl rfl ?_
  show G _ _ _ _ [_,_,_,_,_,_,_,_,_,_,_,_,_,_,_,_,_,_,_,_,_,_,_,_,_,_,_,_,_,_,_,_,_,_,_,_,_,_,_] _
  refine hk _ _ ⟨O,?_,hs.cast ?_⟩<;>simp only [oT,lq,cq,Nat.reduceBEq,q6_,q7_,q8_,q9_,q10_,q11_,q12_]
 ·
  rintro D t w hD hp hcl ⟨O,ht,hs⟩ rest hk
  obtain ⟨p5_,_⟩:=hp
  have q7_:=nz hcl 7 1 hD
  have q8_:=nz hcl 8 0 q7_
  have q9_:=nz hcl 9 0 q8_
  have q10_:=nz hcl 10 0 q8_
  have q11_:=nz hcl 11 0 q9_
  have q12_:=nz hcl 12 0 q10_
  simp only [hD,p5_,q7_,q8_,q9_,q10_,q11_,q12_,cq,oT] at ht hs
  subst ht
  refine QaG rfl rfl (es:=((encA (encI .i16)) a2.Qaz)) rfl rfl (fun _=>rfl) (n:=4) (fun _=>rfl) ((fkA (n:=4) (he:=(fkI .i16).len) (h1:=(fkI .i16).one)).len _) (cells_load (hs.cells 0 rfl) 1 4 (by simp only [QaD];first|rfl|exact List.take_of_length_le (Nat.le_of_eq ((fkA (n:=4) (he:=(fkI .i16).len) (h1:=(fkI .i16).one)).len _))|simp [List.drop_append,List.take_append,encAI_len,encAB_len,encA_len,List.take_of_length_le])) ?_
  show G _ _ _ _ [_,_,_,_,_,_,_,_,_,_,_,_,_,_,_,_,_,_,_,_,_,_,_,_,_,_,_,_,_,_,_,_,_,_,_,_,_,_,_] _
  refine hk _ _ ⟨O,?_,hs.cast ?_⟩<;>simp only [oT,lq,cq,Nat.reduceBEq,p5_,q7_,q8_,q9_,q10_,q11_,q12_]
 ·
  rintro D t w hD hp hcl ⟨O,ht,hs⟩ rest hk
  obtain ⟨p4_,p6_,_⟩:=hp
  obtain ⟨p5_,_⟩:=(hcl.get 6 (by decide)) p6_
  obtain ⟨p3_,_⟩:=(hcl.get 4 (by decide)) p4_
  obtain ⟨p0_,p2_,_⟩:=(hcl.get 3 (by decide)) p3_
  obtain ⟨p1_,_⟩:=(hcl.get 2 (by decide)) p2_
  have q8_:=nz hcl 8 0 hD
  have q9_:=nz hcl 9 0 q8_
  have q10_:=nz hcl 10 0 q8_
  have q11_:=nz hcl 11 0 q9_
  have q12_:=nz hcl 12 0 q10_
  simp only [hD,p0_,p1_,p2_,p3_,p4_,p5_,p6_,q8_,q9_,q10_,q11_,q12_,cq,oT] at ht hs
  subst ht
  refine Qaa (v:=tuple #[int .i64 (mGet ((rdL a6 a2.Qav none).getD []) a2.Qaz 0),bool (mIdx ((rdL a6 a2.Qav none).getD []) a2.Qaz).isSome]) rfl rfl (Qck QbT (a:=a2.Qaz) (z:=0) (hs.r2mp 2 rfl gd1.1 gd1.2) rfl Tryz.underlying101 rfl rfl (fun _=>rfl)) ?_
  show G _ _ _ _ [_,_,_,_,_,_,_,_,_,_,_,_,_,_,_,_,_,_,_,_,_,_,_,_,_,_,_,_,_,_,_,_,_,_,_,_,_,_,_] _
  refine hk _ _ ⟨O,?_,hs.cast ?_⟩<;>simp only [oT,lq,cq,Nat.reduceBEq,p0_,p1_,p2_,p3_,p4_,p5_,p6_,q8_,q9_,q10_,q11_,q12_]
 ·
  rintro D t w hD hp hcl ⟨O,ht,hs⟩ rest hk
  obtain ⟨p7_,_⟩:=hp
  obtain ⟨p4_,p6_,_⟩:=(hcl.get 7 (by decide)) p7_
  obtain ⟨p5_,_⟩:=(hcl.get 6 (by decide)) p6_
  obtain ⟨p3_,_⟩:=(hcl.get 4 (by decide)) p4_
  obtain ⟨p0_,p2_,_⟩:=(hcl.get 3 (by decide)) p3_
  obtain ⟨p1_,_⟩:=(hcl.get 2 (by decide)) p2_
  have q9_:=nz hcl 9 0 hD
  have q10_:=nz hcl 10 0 hD
  have q11_:=nz hcl 11 0 q9_
  have q12_:=nz hcl 12 0 q10_
  simp only [hD,p0_,p1_,p2_,p3_,p4_,p5_,p6_,p7_,q9_,q10_,q11_,q12_,cq,oT] at ht hs
  subst ht
  refine Qaa (v:=tuple #[int .i64 (mGet ((rdL a6 a2.Qav none).getD []) a2.Qaz 0),bool (mIdx ((rdL a6 a2.Qav none).getD []) a2.Qaz).isSome]) rfl rfl rfl ?_
  show G _ _ _ _ [_,_,_,_,_,_,_,_,_,_,_,_,_,_,_,_,_,_,_,_,_,_,_,_,_,_,_,_,_,_,_,_,_,_,_,_,_,_,_] _
  refine hk _ _ ⟨O,?_,hs.cast ?_⟩<;>simp only [oT,lq,cq,Nat.reduceBEq,p0_,p1_,p2_,p3_,p4_,p5_,p6_,p7_,q9_,q10_,q11_,q12_]
 ·
  rintro D t w hD hp hcl ⟨O,ht,hs⟩ rest hk
  obtain ⟨p8_,_⟩:=hp
  obtain ⟨p7_,_⟩:=(hcl.get 8 (by decide)) p8_
  obtain ⟨p4_,p6_,_⟩:=(hcl.get 7 (by decide)) p7_
  obtain ⟨p5_,_⟩:=(hcl.get 6 (by decide)) p6_
  obtain ⟨p3_,_⟩:=(hcl.get 4 (by decide)) p4_
  obtain ⟨p0_,p2_,_⟩:=(hcl.get 3 (by decide)) p3_
  obtain ⟨p1_,_⟩:=(hcl.get 2 (by decide)) p2_
  have q11_:=nz hcl 11 0 hD
  have q12_:=nz hcl 12 1 q11_
  simp only [hD,p0_,p1_,p2_,p3_,p4_,p5_,p6_,p7_,p8_,q11_,q12_,cq,oT] at ht hs
  subst ht
  refine Qaa (v:=int .i64 (mGet ((rdL a6 a2.Qav none).getD []) a2.Qaz 0)) rfl rfl rfl ?_
  show G _ _ _ _ [_,_,_,_,_,_,_,_,_,_,_,_,_,_,_,_,_,_,_,_,_,_,_,_,_,_,_,_,_,_,_,_,_,_,_,_,_,_,_] _
  refine hk _ _ ⟨O,?_,hs.cast ?_⟩<;>simp only [oT,lq,cq,Nat.reduceBEq,p0_,p1_,p2_,p3_,p4_,p5_,p6_,p7_,p8_,q11_,q12_]
 ·
  rintro D t w hD hp hcl ⟨O,ht,hs⟩ rest hk
  obtain ⟨p8_,_⟩:=hp
  obtain ⟨p7_,_⟩:=(hcl.get 8 (by decide)) p8_
  obtain ⟨p4_,p6_,_⟩:=(hcl.get 7 (by decide)) p7_
  obtain ⟨p5_,_⟩:=(hcl.get 6 (by decide)) p6_
  obtain ⟨p3_,_⟩:=(hcl.get 4 (by decide)) p4_
  obtain ⟨p0_,p2_,_⟩:=(hcl.get 3 (by decide)) p3_
  obtain ⟨p1_,_⟩:=(hcl.get 2 (by decide)) p2_
  have q12_:=nz hcl 12 0 hD
  simp only [hD,p0_,p1_,p2_,p3_,p4_,p5_,p6_,p7_,p8_,q12_,cq,oT] at ht hs
  subst ht
  refine Qaa (v:=bool (mIdx ((rdL a6 a2.Qav none).getD []) a2.Qaz).isSome) rfl rfl rfl ?_
  show G _ _ _ _ [_,_,_,_,_,_,_,_,_,_,_,_,_,_,_,_,_,_,_,_,_,_,_,_,_,_,_,_,_,_,_,_,_,_,_,_,_,_,_] _
  refine hk _ _ ⟨O,?_,hs.cast ?_⟩<;>simp only [oT,lq,cq,Nat.reduceBEq,p0_,p1_,p2_,p3_,p4_,p5_,p6_,p7_,p8_,q12_]
 ·
  rintro D t w hD hp hcl ⟨O,ht,hs⟩ rest hk
  obtain ⟨p9_,p0_,p1_,p2_,p3_,p4_,p5_,p6_,p7_,p8_,_,_⟩:=hp
  have q12_:=nz hcl 12 1 hD
  simp only [hD,p0_,p1_,p2_,p3_,p4_,p5_,p6_,p7_,p8_,p9_,q12_,cq,oT] at ht hs
  subst ht
  refine Qaa (v:=int .i64 (mGet ((rdL a6 a2.Qav none).getD []) a2.Qaz 0)) rfl rfl rfl ?_
  show G _ _ _ _ [_,_,_,_,_,_,_,_,_,_,_,_,_,_,_,_,_,_,_,_,_,_,_,_,_,_,_,_,_,_,_,_,_,_,_,_,_,_,_] _
  refine hk _ _ ⟨O,?_,hs.cast ?_⟩<;>simp only [oT,lq,cq,Nat.reduceBEq,p0_,p1_,p2_,p3_,p4_,p5_,p6_,p7_,p8_,p9_,q12_]
 ·
  rintro D t w hD hp hcl ⟨O,ht,hs⟩ rest hk
  obtain ⟨p10_,p11_,p0_,p1_,p2_,p3_,p4_,p5_,p6_,p7_,p8_,p9_,_,_,_⟩:=hp
  simp only [hD,p0_,p1_,p2_,p3_,p4_,p5_,p6_,p7_,p8_,p9_,p10_,p11_,cq,oT] at ht hs
  subst ht
  refine Qaa (v:=bool (mIdx ((rdL a6 a2.Qav none).getD []) a2.Qaz).isSome) rfl rfl rfl ?_
  show G _ _ _ _ [_,_,_,_,_,_,_,_,_,_,_,_,_,_,_,_,_,_,_,_,_,_,_,_,_,_,_,_,_,_,_,_,_,_,_,_,_,_,_] _
  refine hk _ _ ⟨O,?_,hs.cast ?_⟩<;>simp only [oT,lq,cq,Nat.reduceBEq,p0_,p1_,p2_,p3_,p4_,p5_,p6_,p7_,p8_,p9_,p10_,p11_]
 intro D t w hall hI
 obtain ⟨O,ht,hs⟩:=hI
 have p0_:=hall 0 (by decide)
 have p1_:=hall 1 (by decide)
 have p2_:=hall 2 (by decide)
 have p3_:=hall 3 (by decide)
 have p4_:=hall 4 (by decide)
 have p5_:=hall 5 (by decide)
 have p6_:=hall 6 (by decide)
 have p7_:=hall 7 (by decide)
 have p8_:=hall 8 (by decide)
 have p9_:=hall 9 (by decide)
 have p10_:=hall 10 (by decide)
 have p11_:=hall 11 (by decide)
 have p12_:=hall 12 (by decide)
 simp only [p0_,p1_,p2_,p3_,p4_,p5_,p6_,p7_,p8_,p9_,p10_,p11_,p12_,cq,oT] at ht hs
 subst ht
 refine Qad (Qag [0,1,2,3,4,5,6] rfl ?_)
 refine Qap (B:=(mIdx ((rdL a6 a2.Qav none).getD []) a2.Qaz).isSome) rfl rfl rfl ?_ ?_
 ·
  intro hb
  rw [if_pos (b_var_t hb)] at H
  refine Qaa (v:=bool false) rfl rfl rfl ?_
  refine Qaa (v:=bool false) rfl rfl rfl ?_
  refine Qaa (v:=int .i64 (i64w (a3+r14))) rfl rfl rfl ?_
  refine Qaa (v:=int .i64 (mGet ((rdL a6 a2.Qav none).getD []) a2.Qaz 0)) rfl rfl rfl ?_
  refine Qap (B:=decide ((i64w (a3+r14))< (mGet ((rdL a6 a2.Qav none).getD []) a2.Qaz 0))) rfl rfl rfl ?_ ?_
  ·
   intro hb
   rw [if_pos (b_dec_t hb)] at H
   refine Qaa (v:=bool true) rfl rfl rfl (Qab (Qah rfl ?_))
   obtain ⟨gd3,H⟩:=ite_get H
   obtain ⟨ad4_,ad4_N,ad4_C,had4_⟩:=sl_at (hs.r2row 2 rfl) gd3.1 (hs.r2lt 2 rfl gd3.2)
   obtain ⟨gd5,H⟩:=ite_get H
   obtain ⟨b15,eb15⟩:=hs.r2some 2 rfl gd3.1 gd3.2 gd5
   refine Qbe ?_
   intro T hT
   refine QbM (n:=9) rfl [0,1,2,3,4,5,6,7,8] [0,1,2,3,4,5,6,7,8] rfl rfl (Inv:=fun D t w=>∃ b15:Nat,∃ O:Nat→Value,t=[int .u8 a1,agg (QaD a2).toArray,pointer (some ⟨b4,0,none⟩),pointer (some ⟨b7,0,none⟩),O 4,pointer (some ⟨b12,0,none⟩),int .i64 (i64w (a3+r14)),int .i64 (mGet ((rdL a6 a2.Qav none).getD []) a2.Qaz 0),bool (mIdx ((rdL a6 a2.Qav none).getD []) a2.Qaz).isSome,int .i64 a3,int .u8 a1,int .i64 r14,int .i64 (i64w (a3+r14)),tuple #[int .i64 (mGet ((rdL a6 a2.Qav none).getD []) a2.Qaz 0),bool (mIdx ((rdL a6 a2.Qav none).getD []) a2.Qaz).isSome],v8,pointer (some ⟨b12,0,none⟩),int .i64 a2.Qav,pointer (some (ad2_.add (a2.Qav.toNat*1))),Value.map (rdL mm10 a2.Qav none),pointer (some ⟨b12,1,none⟩),agg ((encA (encI .i16)) a2.Qaz).toArray,tuple #[int .i64 (mGet ((rdL a6 a2.Qav none).getD []) a2.Qaz 0),bool (mIdx ((rdL a6 a2.Qav none).getD []) a2.Qaz).isSome],int .i64 (mGet ((rdL a6 a2.Qav none).getD []) a2.Qaz 0),bool (mIdx ((rdL a6 a2.Qav none).getD []) a2.Qaz).isSome,bool true,bool false,bool false,int .i64 (i64w (a3+r14)),int .i64 (mGet ((rdL a6 a2.Qav none).getD []) a2.Qaz 0),bool true,bool true,cnd (D 0) v8 (O 31),cnd (D 1) (pointer (some ⟨b12,0,none⟩)) (O 32),cnd (D 2) (int .i64 a2.Qav) (O 33),cnd (D 3) (pointer (some (ad4_.add (a2.Qav.toNat*1)))) (O 34),cnd (D 4) (Value.map (rdL mm10 a2.Qav none)) (O 35),cnd (D 5) (pointer (some ⟨b12,1,none⟩)) (O 36),cnd (D 6) (agg ((encA (encI .i16)) a2.Qaz).toArray) (O 37),cnd (D 7) (int .i64 (i64w (a3+r14))) (O 38)]∧St wb [Cells b12 (QaD a2) 113,Cells b4 ((encI .i64) a3) 2,Rows2 101 kHM (MapO (ekA (n:=4) .i16) (int .i64)) v8 mm10 (cnd (D 8) (stL a6 a2.Qav (some (mSet ((rdL a6 a2.Qav none).getD []) a2.Qaz (i64w (a3+r14))))) a6),Cells b7 ([v8]) 99,Z] w) ?_ ⟨⟨⟨⟨⟨⟨⟨⟨⟨trivial,?_⟩,?_⟩,?_⟩,?_⟩,?_⟩,?_⟩,?_⟩,?_⟩,?_⟩ ?_
   ·
    intro w hh hbw
    have hs:=hs.samew hh hbw
    exact ⟨0,fun i=>T.getD i undef,(by subst hT;rfl),hs⟩
   ·
    rintro D t w hD hp hcl ⟨b15,O,ht,hs⟩ rest hk
    have q3_:=nz hcl 3 0 hD
    have q4_:=nz hcl 4 0 q3_
    have q8_:=nz hcl 8 0 q4_
    simp only [hD,q3_,q4_,q8_,cq,oT] at ht hs
    subst ht
    refine Qat rfl rfl (v:=v8) rfl rfl (fun _=>rfl) (cells_load (hs.cells 3 rfl) 0 1 rfl) ?_
    show G _ _ _ _ [_,_,_,_,_,_,_,_,_,_,_,_,_,_,_,_,_,_,_,_,_,_,_,_,_,_,_,_,_,_,_,_,_,_,_,_,_,_,_] _
    refine hk _ _ ⟨b15,O,?_,hs.cast ?_⟩<;>simp only [oT,lq,cq,Nat.reduceBEq,q3_,q4_,q8_]
   ·
    rintro D t w hD hp hcl ⟨b15,O,ht,hs⟩ rest hk
    have q2_:=nz hcl 2 0 hD
    have q3_:=nz hcl 3 1 q2_
    have q4_:=nz hcl 4 0 q3_
    have q8_:=nz hcl 8 0 q4_
    simp only [hD,q2_,q3_,q4_,q8_,cq,oT] at ht hs
    subst ht
    refine Qaa (v:=pointer (some ⟨b12,0,none⟩)) rfl rfl rfl ?_
    show G _ _ _ _ [_,_,_,_,_,_,_,_,_,_,_,_,_,_,_,_,_,_,_,_,_,_,_,_,_,_,_,_,_,_,_,_,_,_,_,_,_,_,_] _
    refine hk _ _ ⟨b15,O,?_,hs.cast ?_⟩<;>simp only [oT,lq,cq,Nat.reduceBEq,q2_,q3_,q4_,q8_]
   ·
    rintro D t w hD hp hcl ⟨b15,O,ht,hs⟩ rest hk
    obtain ⟨p1_,_⟩:=hp
    have q3_:=nz hcl 3 1 hD
    have q4_:=nz hcl 4 0 q3_
    have q8_:=nz hcl 8 0 q4_
    simp only [hD,p1_,q3_,q4_,q8_,cq,oT] at ht hs
    subst ht
    refine Qat rfl rfl (v:=int .i64 a2.Qav) rfl rfl (fun _=>rfl) (cells_load (hs.cells 0 rfl) 0 1 (by first|rfl|(simp only [QaD];simp [List.drop_append,List.take_append,encAI_len,encAB_len,List.take_of_length_le]))) ?_
    show G _ _ _ _ [_,_,_,_,_,_,_,_,_,_,_,_,_,_,_,_,_,_,_,_,_,_,_,_,_,_,_,_,_,_,_,_,_,_,_,_,_,_,_] _
    refine hk _ _ ⟨b15,O,?_,hs.cast ?_⟩<;>simp only [oT,lq,cq,Nat.reduceBEq,p1_,q3_,q4_,q8_]
   ·
    rintro D t w hD hp hcl ⟨b15,O,ht,hs⟩ rest hk
    obtain ⟨p0_,p2_,_⟩:=hp
    obtain ⟨p1_,_⟩:=(hcl.get 2 (by decide)) p2_
    have q4_:=nz hcl 4 0 hD
    have q8_:=nz hcl 8 0 q4_
    simp only [hD,p0_,p1_,p2_,q4_,q8_,cq,oT] at ht hs
    subst ht
    refine Qby (κ:=kHM) (m:=1) rfl (hs.r2row 2 rfl) rfl (fun _=>rfl) gd3.1 (hs.r2lt 2 rfl gd3.2) had4_ rfl rfl rfl rfl rfl ?_
    show G _ _ _ _ [_,_,_,_,_,_,_,_,_,_,_,_,_,_,_,_,_,_,_,_,_,_,_,_,_,_,_,_,_,_,_,_,_,_,_,_,_,_,_] _
    refine hk _ _ ⟨b15,O,?_,hs.cast ?_⟩<;>simp only [oT,lq,cq,Nat.reduceBEq,p0_,p1_,p2_,q4_,q8_]
   ·
    rintro D t w hD hp hcl ⟨b15,O,ht,hs⟩ rest hk
    obtain ⟨p3_,_⟩:=hp
    obtain ⟨p0_,p2_,_⟩:=(hcl.get 3 (by decide)) p3_
    obtain ⟨p1_,_⟩:=(hcl.get 2 (by decide)) p2_
    have q8_:=nz hcl 8 0 hD
    simp only [hD,p0_,p1_,p2_,p3_,q8_,cq,oT] at ht hs
    subst ht
    refine Qat rfl rfl (v:=Value.map (rdL mm10 a2.Qav none)) rfl rfl (fun _=>rfl) (cellsAt_of fkHM none (hs.r2row 2 rfl) had4_ gd3.1 (hs.r2lt 2 rfl gd3.2)) ?_
    show G _ _ _ _ [_,_,_,_,_,_,_,_,_,_,_,_,_,_,_,_,_,_,_,_,_,_,_,_,_,_,_,_,_,_,_,_,_,_,_,_,_,_,_] _
    refine hk _ _ ⟨b15,O,?_,hs.cast ?_⟩<;>simp only [oT,lq,cq,Nat.reduceBEq,p0_,p1_,p2_,p3_,q8_]
   ·
    rintro D t w hD hp hcl ⟨b15,O,ht,hs⟩ rest hk
    have q6_:=nz hcl 6 0 hD
    have q8_:=nz hcl 8 1 q6_
    simp only [hD,q6_,q8_,cq,oT] at ht hs
    subst ht
    refine Qaa (v:=pointer (some ⟨b12,1,none⟩)) rfl rfl rfl ?_
    show G _ _ _ _ [_,_,_,_,_,_,_,_,_,_,_,_,_,_,_,_,_,_,_,_,_,_,_,_,_,_,_,_,_,_,_,_,_,_,_,_,_,_,_] _
    refine hk _ _ ⟨b15,O,?_,hs.cast ?_⟩<;>simp only [oT,lq,cq,Nat.reduceBEq,q6_,q8_]
   ·
    rintro D t w hD hp hcl ⟨b15,O,ht,hs⟩ rest hk
    obtain ⟨p5_,_⟩:=hp
    have q8_:=nz hcl 8 1 hD
    simp only [hD,p5_,q8_,cq,oT] at ht hs
    subst ht
    refine QaG rfl rfl (es:=((encA (encI .i16)) a2.Qaz)) rfl rfl (fun _=>rfl) (n:=4) (fun _=>rfl) ((fkA (n:=4) (he:=(fkI .i16).len) (h1:=(fkI .i16).one)).len _) (cells_load (hs.cells 0 rfl) 1 4 (by simp only [QaD];first|rfl|exact List.take_of_length_le (Nat.le_of_eq ((fkA (n:=4) (he:=(fkI .i16).len) (h1:=(fkI .i16).one)).len _))|simp [List.drop_append,List.take_append,encAI_len,encAB_len,encA_len,List.take_of_length_le])) ?_
    show G _ _ _ _ [_,_,_,_,_,_,_,_,_,_,_,_,_,_,_,_,_,_,_,_,_,_,_,_,_,_,_,_,_,_,_,_,_,_,_,_,_,_,_] _
    refine hk _ _ ⟨b15,O,?_,hs.cast ?_⟩<;>simp only [oT,lq,cq,Nat.reduceBEq,p5_,q8_]
   ·
    rintro D t w hD hp hcl ⟨b15,O,ht,hs⟩ rest hk
    have q8_:=nz hcl 8 2 hD
    simp only [hD,q8_,cq,oT] at ht hs
    subst ht
    refine Qaa (v:=int .i64 (i64w (a3+r14))) rfl rfl rfl ?_
    show G _ _ _ _ [_,_,_,_,_,_,_,_,_,_,_,_,_,_,_,_,_,_,_,_,_,_,_,_,_,_,_,_,_,_,_,_,_,_,_,_,_,_,_] _
    refine hk _ _ ⟨b15,O,?_,hs.cast ?_⟩<;>simp only [oT,lq,cq,Nat.reduceBEq,q8_]
   ·
    rintro D t w hD hp hcl ⟨b15,O,ht,hs⟩ rest hk
    obtain ⟨p4_,p6_,p7_,p0_,p1_,p2_,p3_,_,p5_,_,_,_⟩:=hp
    simp only [hD,p0_,p1_,p2_,p3_,p4_,p5_,p6_,p7_,cq,oT] at ht hs
    subst ht
    have hs:St _ [_,_,_,_,_] _:=hs.pull 2 rfl
    refine Qb8 QbT gd3.1 gd3.2 eb15 (a:=a2.Qaz) (y:=i64w (a3+r14)) hs rfl rfl (.inl rfl) Tryz.underlying101 rfl rfl rfl ?_
    intro w hs
    show G _ _ _ _ [_,_,_,_,_,_,_,_,_,_,_,_,_,_,_,_,_,_,_,_,_,_,_,_,_,_,_,_,_,_,_,_,_,_,_,_,_,_,_] _
    have hs:=hs.push 2 (by simp)
    refine hk _ _ ⟨b15,O,?_,hs.cast ?_⟩<;>simp only [oT,lq,cq,Nat.reduceBEq,p0_,p1_,p2_,p3_,p4_,p5_,p6_,p7_]
   intro D t w hall hI
   obtain ⟨b15,O,ht,hs⟩:=hI
   have p0_:=hall 0 (by decide)
   have p1_:=hall 1 (by decide)
   have p2_:=hall 2 (by decide)
   have p3_:=hall 3 (by decide)
   have p4_:=hall 4 (by decide)
   have p5_:=hall 5 (by decide)
   have p6_:=hall 6 (by decide)
   have p7_:=hall 7 (by decide)
   have p8_:=hall 8 (by decide)
   simp only [p0_,p1_,p2_,p3_,p4_,p5_,p6_,p7_,p8_,cq,oT] at ht hs
   subst ht
   obtain rfl:=QsJ H
   refine Qcc Tryz.func74 (v:=tuple #[]) (resN (l:=Tryz.f74.results.toList) (vs:=[]) rfl trivial (by simp)) ?_
   have hs:=hs.pull 4 rfl
   have hs:=hs.pull 4 rfl
   have hs:=hs.pull 4 rfl
   have hs:=hs.pull 4 rfl
   have hs:St _ [_,_,_,_] _:=St.take (Γ':=[_]) hs
   exact ⟨_,rfl,rfl,hs⟩
  intro hb
  rw [if_neg (b_dec_f hb)] at H
  refine Qaa (v:=bool false) rfl rfl rfl ?_
  show G _ _ _ _ [_,_,_,_,_,_,_,_,_,_,_,_,_,_,_,_,_,_,_,_,_,_,_,_,_,_,_,_,_,_,_,_,_,_,_,_,_,_,_] _
  refine Qab (Qal rfl (Qay ?_))
  obtain rfl:=QsJ H
  refine Qcc Tryz.func74 (v:=tuple #[]) (resN (l:=Tryz.f74.results.toList) (vs:=[]) rfl trivial (by simp)) ?_
  have hs:=hs.pull 4 rfl
  have hs:=hs.pull 4 rfl
  have hs:=hs.pull 4 rfl
  have hs:=hs.pull 4 rfl
  have hs:St _ [_,_,_,_] _:=St.take (Γ':=[_]) hs
  exact ⟨_,rfl,rfl,hs⟩
 intro hb
 rw [if_neg (b_var_f hb)] at H
 refine Qaa (v:=bool true) rfl rfl rfl ?_
 refine Qaa (v:=bool true) rfl rfl rfl (Qac rfl rfl (Qac rfl rfl (Qac rfl rfl ?_)))
 refine Qaa (v:=bool true) rfl rfl rfl ?_
 show G _ _ _ _ [_,_,_,_,_,_,_,_,_,_,_,_,_,_,_,_,_,_,_,_,_,_,_,_,_,_,_,_,_,_,_,_,_,_,_,_,_,_,_] _
 refine Qab (Qah rfl ?_)
 obtain ⟨gd6,H⟩:=ite_get H
 obtain ⟨ad7_,ad7_N,ad7_C,had7_⟩:=sl_at (hs.r2row 2 rfl) gd6.1 (hs.r2lt 2 rfl gd6.2)
 obtain ⟨gd8,H⟩:=ite_get H
 obtain ⟨b16,eb16⟩:=hs.r2some 2 rfl gd6.1 gd6.2 gd8
 refine Qbe ?_
 intro T hT
 refine QbM (n:=9) rfl [0,1,2,3,4,5,6,7,8] [0,1,2,3,4,5,6,7,8] rfl rfl (Inv:=fun D t w=>∃ b16:Nat,∃ O:Nat→Value,t=[int .u8 a1,agg (QaD a2).toArray,pointer (some ⟨b4,0,none⟩),pointer (some ⟨b7,0,none⟩),O 4,pointer (some ⟨b12,0,none⟩),int .i64 (i64w (a3+r14)),int .i64 (mGet ((rdL a6 a2.Qav none).getD []) a2.Qaz 0),bool (mIdx ((rdL a6 a2.Qav none).getD []) a2.Qaz).isSome,int .i64 a3,int .u8 a1,int .i64 r14,int .i64 (i64w (a3+r14)),tuple #[int .i64 (mGet ((rdL a6 a2.Qav none).getD []) a2.Qaz 0),bool (mIdx ((rdL a6 a2.Qav none).getD []) a2.Qaz).isSome],v8,pointer (some ⟨b12,0,none⟩),int .i64 a2.Qav,pointer (some (ad2_.add (a2.Qav.toNat*1))),Value.map (rdL mm10 a2.Qav none),pointer (some ⟨b12,1,none⟩),agg ((encA (encI .i16)) a2.Qaz).toArray,tuple #[int .i64 (mGet ((rdL a6 a2.Qav none).getD []) a2.Qaz 0),bool (mIdx ((rdL a6 a2.Qav none).getD []) a2.Qaz).isSome],int .i64 (mGet ((rdL a6 a2.Qav none).getD []) a2.Qaz 0),bool (mIdx ((rdL a6 a2.Qav none).getD []) a2.Qaz).isSome,bool false,bool true,bool true,O 27,O 28,O 29,bool true,cnd (D 0) v8 (O 31),cnd (D 1) (pointer (some ⟨b12,0,none⟩)) (O 32),cnd (D 2) (int .i64 a2.Qav) (O 33),cnd (D 3) (pointer (some (ad7_.add (a2.Qav.toNat*1)))) (O 34),cnd (D 4) (Value.map (rdL mm10 a2.Qav none)) (O 35),cnd (D 5) (pointer (some ⟨b12,1,none⟩)) (O 36),cnd (D 6) (agg ((encA (encI .i16)) a2.Qaz).toArray) (O 37),cnd (D 7) (int .i64 (i64w (a3+r14))) (O 38)]∧St wb [Cells b12 (QaD a2) 113,Cells b4 ((encI .i64) a3) 2,Rows2 101 kHM (MapO (ekA (n:=4) .i16) (int .i64)) v8 mm10 (cnd (D 8) (stL a6 a2.Qav (some (mSet ((rdL a6 a2.Qav none).getD []) a2.Qaz (i64w (a3+r14))))) a6),Cells b7 ([v8]) 99,Z] w) ?_ ⟨⟨⟨⟨⟨⟨⟨⟨⟨trivial,?_⟩,?_⟩,?_⟩,?_⟩,?_⟩,?_⟩,?_⟩,?_⟩,?_⟩ ?_
 ·
  intro w hh hbw
  have hs:=hs.samew hh hbw
  exact ⟨0,fun i=>T.getD i undef,(by subst hT;rfl),hs⟩
 ·
  rintro D t w hD hp hcl ⟨b16,O,ht,hs⟩ rest hk
  have q3_:=nz hcl 3 0 hD
  have q4_:=nz hcl 4 0 q3_
  have q8_:=nz hcl 8 0 q4_
  simp only [hD,q3_,q4_,q8_,cq,oT] at ht hs
  subst ht
  refine Qat rfl rfl (v:=v8) rfl rfl (fun _=>rfl) (cells_load (hs.cells 3 rfl) 0 1 rfl) ?_
  show G _ _ _ _ [_,_,_,_,_,_,_,_,_,_,_,_,_,_,_,_,_,_,_,_,_,_,_,_,_,_,_,_,_,_,_,_,_,_,_,_,_,_,_] _
  refine hk _ _ ⟨b16,O,?_,hs.cast ?_⟩<;>simp only [oT,lq,cq,Nat.reduceBEq,q3_,q4_,q8_]
 ·
  rintro D t w hD hp hcl ⟨b16,O,ht,hs⟩ rest hk
  have q2_:=nz hcl 2 0 hD
  have q3_:=nz hcl 3 1 q2_
  have q4_:=nz hcl 4 0 q3_
  have q8_:=nz hcl 8 0 q4_
  simp only [hD,q2_,q3_,q4_,q8_,cq,oT] at ht hs
  subst ht
  refine Qaa (v:=pointer (some ⟨b12,0,none⟩)) rfl rfl rfl ?_
  show G _ _ _ _ [_,_,_,_,_,_,_,_,_,_,_,_,_,_,_,_,_,_,_,_,_,_,_,_,_,_,_,_,_,_,_,_,_,_,_,_,_,_,_] _
  refine hk _ _ ⟨b16,O,?_,hs.cast ?_⟩<;>simp only [oT,lq,cq,Nat.reduceBEq,q2_,q3_,q4_,q8_]
 ·
  rintro D t w hD hp hcl ⟨b16,O,ht,hs⟩ rest hk
  obtain ⟨p1_,_⟩:=hp
  have q3_:=nz hcl 3 1 hD
  have q4_:=nz hcl 4 0 q3_
  have q8_:=nz hcl 8 0 q4_
  simp only [hD,p1_,q3_,q4_,q8_,cq,oT] at ht hs
  subst ht
  refine Qat rfl rfl (v:=int .i64 a2.Qav) rfl rfl (fun _=>rfl) (cells_load (hs.cells 0 rfl) 0 1 (by first|rfl|(simp only [QaD];simp [List.drop_append,List.take_append,encAI_len,encAB_len,List.take_of_length_le]))) ?_
  show G _ _ _ _ [_,_,_,_,_,_,_,_,_,_,_,_,_,_,_,_,_,_,_,_,_,_,_,_,_,_,_,_,_,_,_,_,_,_,_,_,_,_,_] _
  refine hk _ _ ⟨b16,O,?_,hs.cast ?_⟩<;>simp only [oT,lq,cq,Nat.reduceBEq,p1_,q3_,q4_,q8_]
 ·
  rintro D t w hD hp hcl ⟨b16,O,ht,hs⟩ rest hk
  obtain ⟨p0_,p2_,_⟩:=hp
  obtain ⟨p1_,_⟩:=(hcl.get 2 (by decide)) p2_
  have q4_:=nz hcl 4 0 hD
  have q8_:=nz hcl 8 0 q4_
  simp only [hD,p0_,p1_,p2_,q4_,q8_,cq,oT] at ht hs
  subst ht
  refine Qby (κ:=kHM) (m:=1) rfl (hs.r2row 2 rfl) rfl (fun _=>rfl) gd6.1 (hs.r2lt 2 rfl gd6.2) had7_ rfl rfl rfl rfl rfl ?_
  show G _ _ _ _ [_,_,_,_,_,_,_,_,_,_,_,_,_,_,_,_,_,_,_,_,_,_,_,_,_,_,_,_,_,_,_,_,_,_,_,_,_,_,_] _
  refine hk _ _ ⟨b16,O,?_,hs.cast ?_⟩<;>simp only [oT,lq,cq,Nat.reduceBEq,p0_,p1_,p2_,q4_,q8_]
 ·
  rintro D t w hD hp hcl ⟨b16,O,ht,hs⟩ rest hk
  obtain ⟨p3_,_⟩:=hp
  obtain ⟨p0_,p2_,_⟩:=(hcl.get 3 (by decide)) p3_
  obtain ⟨p1_,_⟩:=(hcl.get 2 (by decide)) p2_
  have q8_:=nz hcl 8 0 hD
  simp only [hD,p0_,p1_,p2_,p3_,q8_,cq,oT] at ht hs
  subst ht
  refine Qat rfl rfl (v:=Value.map (rdL mm10 a2.Qav none)) rfl rfl (fun _=>rfl) (cellsAt_of fkHM none (hs.r2row 2 rfl) had7_ gd6.1 (hs.r2lt 2 rfl gd6.2)) ?_
  show G _ _ _ _ [_,_,_,_,_,_,_,_,_,_,_,_,_,_,_,_,_,_,_,_,_,_,_,_,_,_,_,_,_,_,_,_,_,_,_,_,_,_,_] _
  refine hk _ _ ⟨b16,O,?_,hs.cast ?_⟩<;>simp only [oT,lq,cq,Nat.reduceBEq,p0_,p1_,p2_,p3_,q8_]
 ·
  rintro D t w hD hp hcl ⟨b16,O,ht,hs⟩ rest hk
  have q6_:=nz hcl 6 0 hD
  have q8_:=nz hcl 8 1 q6_
  simp only [hD,q6_,q8_,cq,oT] at ht hs
  subst ht
  refine Qaa (v:=pointer (some ⟨b12,1,none⟩)) rfl rfl rfl ?_
  show G _ _ _ _ [_,_,_,_,_,_,_,_,_,_,_,_,_,_,_,_,_,_,_,_,_,_,_,_,_,_,_,_,_,_,_,_,_,_,_,_,_,_,_] _
  refine hk _ _ ⟨b16,O,?_,hs.cast ?_⟩<;>simp only [oT,lq,cq,Nat.reduceBEq,q6_,q8_]
 ·
  rintro D t w hD hp hcl ⟨b16,O,ht,hs⟩ rest hk
  obtain ⟨p5_,_⟩:=hp
  have q8_:=nz hcl 8 1 hD
  simp only [hD,p5_,q8_,cq,oT] at ht hs
  subst ht
  refine QaG rfl rfl (es:=((encA (encI .i16)) a2.Qaz)) rfl rfl (fun _=>rfl) (n:=4) (fun _=>rfl) ((fkA (n:=4) (he:=(fkI .i16).len) (h1:=(fkI .i16).one)).len _) (cells_load (hs.cells 0 rfl) 1 4 (by simp only [QaD];first|rfl|exact List.take_of_length_le (Nat.le_of_eq ((fkA (n:=4) (he:=(fkI .i16).len) (h1:=(fkI .i16).one)).len _))|simp [List.drop_append,List.take_append,encAI_len,encAB_len,encA_len,List.take_of_length_le])) ?_
  show G _ _ _ _ [_,_,_,_,_,_,_,_,_,_,_,_,_,_,_,_,_,_,_,_,_,_,_,_,_,_,_,_,_,_,_,_,_,_,_,_,_,_,_] _
  refine hk _ _ ⟨b16,O,?_,hs.cast ?_⟩<;>simp only [oT,lq,cq,Nat.reduceBEq,p5_,q8_]
 ·
  rintro D t w hD hp hcl ⟨b16,O,ht,hs⟩ rest hk
  have q8_:=nz hcl 8 2 hD
  simp only [hD,q8_,cq,oT] at ht hs
  subst ht
  refine Qaa (v:=int .i64 (i64w (a3+r14))) rfl rfl rfl ?_
  show G _ _ _ _ [_,_,_,_,_,_,_,_,_,_,_,_,_,_,_,_,_,_,_,_,_,_,_,_,_,_,_,_,_,_,_,_,_,_,_,_,_,_,_] _
  refine hk _ _ ⟨b16,O,?_,hs.cast ?_⟩<;>simp only [oT,lq,cq,Nat.reduceBEq,q8_]
 ·
  rintro D t w hD hp hcl ⟨b16,O,ht,hs⟩ rest hk
  obtain ⟨p4_,p6_,p7_,p0_,p1_,p2_,p3_,_,p5_,_,_,_⟩:=hp
  simp only [hD,p0_,p1_,p2_,p3_,p4_,p5_,p6_,p7_,cq,oT] at ht hs
  subst ht
  have hs:St _ [_,_,_,_,_] _:=hs.pull 2 rfl
  refine Qb8 QbT gd6.1 gd6.2 eb16 (a:=a2.Qaz) (y:=i64w (a3+r14)) hs rfl rfl (.inl rfl) Tryz.underlying101 rfl rfl rfl ?_
  intro w hs
  show G _ _ _ _ [_,_,_,_,_,_,_,_,_,_,_,_,_,_,_,_,_,_,_,_,_,_,_,_,_,_,_,_,_,_,_,_,_,_,_,_,_,_,_] _
  have hs:=hs.push 2 (by simp)
  refine hk _ _ ⟨b16,O,?_,hs.cast ?_⟩<;>simp only [oT,lq,cq,Nat.reduceBEq,p0_,p1_,p2_,p3_,p4_,p5_,p6_,p7_]
 intro D t w hall hI
 obtain ⟨b16,O,ht,hs⟩:=hI
 have p0_:=hall 0 (by decide)
 have p1_:=hall 1 (by decide)
 have p2_:=hall 2 (by decide)
 have p3_:=hall 3 (by decide)
 have p4_:=hall 4 (by decide)
 have p5_:=hall 5 (by decide)
 have p6_:=hall 6 (by decide)
 have p7_:=hall 7 (by decide)
 have p8_:=hall 8 (by decide)
 simp only [p0_,p1_,p2_,p3_,p4_,p5_,p6_,p7_,p8_,cq,oT] at ht hs
 subst ht
 obtain rfl:=QsJ H
 refine Qcc Tryz.func74 (v:=tuple #[]) (resN (l:=Tryz.f74.results.toList) (vs:=[]) rfl trivial (by simp)) ?_
 have hs:=hs.pull 4 rfl
 have hs:=hs.pull 4 rfl
 have hs:=hs.pull 4 rfl
 have hs:=hs.pull 4 rfl
 have hs:St _ [_,_,_,_] _:=St.take (Γ':=[_]) hs
 exact ⟨_,rfl,rfl,hs⟩
end Go.Proofs.YtgoninfjneepfaaGreatDoorX
