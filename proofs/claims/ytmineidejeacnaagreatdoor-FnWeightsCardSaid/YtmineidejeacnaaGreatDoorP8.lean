import Derived.Test.YtmineidejeacnaaGreatDoorP7
namespace Go.Proofs.YtmineidejeacnaaGreatDoorX
open Go Go.RowKit Go.Proofs
open Go.Value (int pointer bool agg slice string tuple)
set_option maxHeartbeats 8000000
set_option maxRecDepth 100000
set_option linter.unusedVariables false
set_option linter.unusedSimpArgs false
def Qao.post (w0:World) (r:Bool) (v:Value) (w:World):Prop:=v=bool r∧St w0 [] w
theorem Qao.calls {N:Nat} {a1:(List Int)} {v2:Value} {w0:World} {r:Bool} (hr0:RdRow (K.int .i16) w0 v2 a1) (H:Qao.f N a1=some r):
 Calls Tryz.prog 51 #[v2] w0 fun e w=>∃ v,e= .returned v∧Qao.post w0 r v w:=by
 unfold Qao.f at H
 have hs:St w0 [] w0:=St.refl w0
 refine calls_of_g (n:=20) Tryz.func51 rfl rfl ?_
 show G _ _ _ _ [_,_,_,_,_,_,_,_,_,_,_,_,_,_,_,_,_,_,_,_,_] _
 refine Qad (Qag [0] rfl ?_)
 refine Qaa (v:=bool false) rfl rfl rfl (Qac (Qad (Qad (Qag [0,1,2,3] rfl ?_))))
 refine Qaa (v:=v2) rfl rfl rfl ?_
 show G _ _ _ _ [_,_,_,_,_,_,_,_,_,_,_,_,_,_,_,_,_,_,_,_,_] _
 refine Qba (hs.rd hr0) rfl rfl rfl rfl rfl ?_
 refine Qaa (v:=int .i64 (i64w ((a1.length:Int) - 1))) rfl rfl rfl ?_
 refine Qaa (v:=int .i64 (i64w ((a1.length:Int) - 1))) rfl rfl rfl ?_
 show G _ _ _ _ [_,_,_,_,_,_,_,_,_,_,_,_,_,_,_,_,_,_,_,_,_] _
 refine Qac ?_
 obtain ⟨o1_,Ho,Hr1_⟩:=bind_get H
 refine QaC (J:=fun t w=>Qao.a0 N=some r∧Fr t (fun O=>([O 0,O 1,O 2,O 3,O 4,O 5,O 6,O 7,O 8,O 9,O 10,O 11,O 12,O 13,O 14,O 15,O 16,O 17,O 18,O 19,O 20]:List Value))∧St w0 [] w) ?_ ?_
 ·
  rintro t w ⟨H,hf,hs⟩
  obtain ⟨O,rfl⟩:=hf.open
  show G _ _ _ _ [_,_,_,_,_,_,_,_,_,_,_,_,_,_,_,_,_,_,_,_,_] _
  unfold Qao.a0 at H
  refine Qad (Qag [0] rfl ?_)
  refine Qaa (v:=bool true) rfl rfl rfl (Qac ?_)
  obtain rfl:=QsJ H
  refine Qaq Tryz.func51 (v:=bool true) (res1 rfl rfl) ?_
  have hs:St _ [] _:=St.take (Γ':=[]) hs
  exact ⟨_,rfl,rfl,hs⟩
 intro ha1_
 have hs:St _ [] _:=St.take (Γ':=[]) hs
 refine QaP (I:=fun n_ t w=>∃ x3:Int,rounds (fun s=>Qao.b0 N a1 s) n_ x3=some o1_∧Fr t (fun O=>([v2,O 1,O 2,int .i64 x3,O 4,O 5,O 6,O 7,O 8,O 9,O 10,O 11,O 12,O 13,O 14,O 15,O 16,O 17,O 18,O 19,O 20]:List Value))∧St w0 [] w) N ⟨i64w ((a1.length:Int) - 1),Ho,rfl,hs⟩ ?_ ?_
 ·
  rintro _ _ ⟨x3,h,_⟩
  exact rounds_zero h
 intro n_ ih1_
 rintro t w ⟨x3,Ho,hf,hs⟩
 obtain ⟨O,rfl⟩:=hf.open
 show G _ _ _ _ [_,_,_,_,_,_,_,_,_,_,_,_,_,_,_,_,_,_,_,_,_] _
 obtain ⟨x7_,H,Hx1_⟩:=rounds_succ Ho
 have H:Qao.b0 N a1 x3=some x7_:=H
 unfold Qao.b0 at H
 refine Qad (Qad (Qag [0,1] rfl ?_))
 refine Qaa (v:=int .i64 x3) rfl rfl rfl ?_
 refine Qas (B:=decide (x3>0)) rfl rfl rfl ?_ ?_
 ·
  intro hb
  rw [if_pos (b_dec_t hb)] at H
  show G _ _ _ _ [_,_,_,_,_,_,_,_,_,_,_,_,_,_,_,_,_,_,_,_,_] _
  refine Qac (Qai rfl (Qay (Qad ?_)))
  refine Qbe (Qad ?_)
  refine QbP (n:=10) rfl [0,1,2,3,4,5,6,7,8,9] [0,1,2,3,4,5,6,7,8,9] rfl rfl ?_
  intro rest w hh hbw hO
  have hs:=hs.samew hh hbw
  show G _ _ _ _ [_,_,_,_,_,_,_,_,_,_,_,_,_,_,_,_,_,_,_,_,_] _
  obtain ⟨gd2,H⟩:=ite_get H
  obtain ⟨ad3_,ad3_N,ad3_C,had3_⟩:=sl_at (hs.rd hr0) gd2.1 gd2.2
  obtain ⟨gd4,H⟩:=ite_get H
  obtain ⟨ad5_,ad5_N,ad5_C,had5_⟩:=sl_at (hs.rd hr0) gd4.1 gd4.2
  refine Qbz ?_
  intro T hT
  refine QbA (m0:=0) hO rfl 511 [0,1,2,3,4,5,6,7,8] [0,0,3,7,0,0,32,112,240,511] (by decide+kernel) (fun D t w=>∃ O:Nat→Value,t=[v2,O 1,O 2,int .i64 x3,O 4,O 5,O 6,int .i64 x3,bool true,O 9,O 10,cnd (D 0) v2 (O 11),cnd (D 1) (int .i64 x3) (O 12),cnd (D 2) (pointer (some (ad3_.add (x3.toNat*1)))) (O 13),cnd (D 3) (int .i16 (rdL a1 x3 0)) (O 14),cnd (D 4) v2 (O 15),cnd (D 5) (int .i64 x3) (O 16),cnd (D 6) (int .i64 (i64w (x3 - 1))) (O 17),cnd (D 7) (pointer (some (ad5_.add ((i64w (x3 - 1)).toNat*1)))) (O 18),cnd (D 8) (int .i16 (rdL a1 (i64w (x3 - 1)) 0)) (O 19),O 20]∧St w0 [] w) ?_ ⟨?_,⟨?_,⟨?_,⟨?_,⟨?_,⟨?_,⟨?_,⟨?_,⟨?_,trivial⟩⟩⟩⟩⟩⟩⟩⟩⟩ ?_
  ·exact ⟨fun i=>T.getD i undef,(by subst hT;rfl),hs⟩
  ·
   rintro D t w hD hp hcl ⟨O,ht,hs⟩ rest hk
   have hp:AllDone D []:=hp
   have q2_:=ny hcl 2 0 hD
   have q3_:=ny hcl 3 0 q2_
   simp only [hD,q2_,q3_,cq,oT] at ht hs
   subst ht
   refine Qaa (v:=v2) rfl rfl rfl ?_
   show G _ _ _ _ [_,_,_,_,_,_,_,_,_,_,_,_,_,_,_,_,_,_,_,_,_] _
   refine hk _ _ ⟨O,?_,hs.cast ?_⟩<;>simp only [oT,lq,cq,Nat.reduceBEq,q2_,q3_]
  ·
   rintro D t w hD hp hcl ⟨O,ht,hs⟩ rest hk
   have hp:AllDone D []:=hp
   have q2_:=ny hcl 2 1 hD
   have q3_:=ny hcl 3 0 q2_
   simp only [hD,q2_,q3_,cq,oT] at ht hs
   subst ht
   refine Qaa (v:=int .i64 x3) rfl rfl rfl ?_
   show G _ _ _ _ [_,_,_,_,_,_,_,_,_,_,_,_,_,_,_,_,_,_,_,_,_] _
   refine hk _ _ ⟨O,?_,hs.cast ?_⟩<;>simp only [oT,lq,cq,Nat.reduceBEq,q2_,q3_]
  ·
   rintro D t w hD hp hcl ⟨O,ht,hs⟩ rest hk
   have hp:AllDone D [0,1]:=hp
   obtain ⟨p0_,p1_,_⟩:=hp
   have q3_:=ny hcl 3 0 hD
   simp only [hD,p0_,p1_,q3_,cq,oT] at ht hs
   subst ht
   refine QbG (κ:=(K.int .i16)) (m:=1) rfl (hs.rd hr0) rfl (fun _=>rfl) gd2.1 gd2.2 had3_ rfl rfl rfl rfl rfl ?_
   show G _ _ _ _ [_,_,_,_,_,_,_,_,_,_,_,_,_,_,_,_,_,_,_,_,_] _
   refine hk _ _ ⟨O,?_,hs.cast ?_⟩<;>simp only [oT,lq,cq,Nat.reduceBEq,p0_,p1_,q3_]
  ·
   rintro D t w hD hp hcl ⟨O,ht,hs⟩ rest hk
   have hp:AllDone D [2]:=hp
   obtain ⟨p2_,_⟩:=hp
   obtain ⟨p0_,p1_,_⟩:=(show D 2=true→AllDone D [0,1] from hcl 2 (by decide)) p2_
   simp only [hD,p0_,p1_,p2_,cq,oT] at ht hs
   subst ht
   refine QaA rfl rfl (v:=int .i16 (rdL a1 x3 0)) rfl rfl (fun _=>rfl) (cellsAt_of (fkI .i16) 0 (hs.rd hr0) had3_ gd2.1 gd2.2) ?_
   show G _ _ _ _ [_,_,_,_,_,_,_,_,_,_,_,_,_,_,_,_,_,_,_,_,_] _
   refine hk _ _ ⟨O,?_,hs.cast ?_⟩<;>simp only [oT,lq,cq,Nat.reduceBEq,p0_,p1_,p2_]
  ·
   rintro D t w hD hp hcl ⟨O,ht,hs⟩ rest hk
   have hp:AllDone D []:=hp
   have q7_:=ny hcl 7 0 hD
   have q8_:=ny hcl 8 0 q7_
   simp only [hD,q7_,q8_,cq,oT] at ht hs
   subst ht
   refine Qaa (v:=v2) rfl rfl rfl ?_
   show G _ _ _ _ [_,_,_,_,_,_,_,_,_,_,_,_,_,_,_,_,_,_,_,_,_] _
   refine hk _ _ ⟨O,?_,hs.cast ?_⟩<;>simp only [oT,lq,cq,Nat.reduceBEq,q7_,q8_]
  ·
   rintro D t w hD hp hcl ⟨O,ht,hs⟩ rest hk
   have hp:AllDone D []:=hp
   have q6_:=ny hcl 6 0 hD
   have q7_:=ny hcl 7 1 q6_
   have q8_:=ny hcl 8 0 q7_
   simp only [hD,q6_,q7_,q8_,cq,oT] at ht hs
   subst ht
   refine Qaa (v:=int .i64 x3) rfl rfl rfl ?_
   show G _ _ _ _ [_,_,_,_,_,_,_,_,_,_,_,_,_,_,_,_,_,_,_,_,_] _
   refine hk _ _ ⟨O,?_,hs.cast ?_⟩<;>simp only [oT,lq,cq,Nat.reduceBEq,q6_,q7_,q8_]
  ·
   rintro D t w hD hp hcl ⟨O,ht,hs⟩ rest hk
   have hp:AllDone D [5]:=hp
   obtain ⟨p5_,_⟩:=hp
   have q7_:=ny hcl 7 1 hD
   have q8_:=ny hcl 8 0 q7_
   simp only [hD,p5_,q7_,q8_,cq,oT] at ht hs
   subst ht
   refine Qaa (v:=int .i64 (i64w (x3 - 1))) rfl rfl rfl ?_
   show G _ _ _ _ [_,_,_,_,_,_,_,_,_,_,_,_,_,_,_,_,_,_,_,_,_] _
   refine hk _ _ ⟨O,?_,hs.cast ?_⟩<;>simp only [oT,lq,cq,Nat.reduceBEq,p5_,q7_,q8_]
  ·
   rintro D t w hD hp hcl ⟨O,ht,hs⟩ rest hk
   have hp:AllDone D [4,6]:=hp
   obtain ⟨p4_,p6_,_⟩:=hp
   obtain ⟨p5_,_⟩:=(show D 6=true→AllDone D [5] from hcl 6 (by decide)) p6_
   have q8_:=ny hcl 8 0 hD
   simp only [hD,p4_,p5_,p6_,q8_,cq,oT] at ht hs
   subst ht
   refine QbG (κ:=(K.int .i16)) (m:=1) rfl (hs.rd hr0) rfl (fun _=>rfl) gd4.1 gd4.2 had5_ rfl rfl rfl rfl rfl ?_
   show G _ _ _ _ [_,_,_,_,_,_,_,_,_,_,_,_,_,_,_,_,_,_,_,_,_] _
   refine hk _ _ ⟨O,?_,hs.cast ?_⟩<;>simp only [oT,lq,cq,Nat.reduceBEq,p4_,p5_,p6_,q8_]
  ·
   rintro D t w hD hp hcl ⟨O,ht,hs⟩ rest hk
   have hp:AllDone D [7]:=hp
   obtain ⟨p7_,_⟩:=hp
   obtain ⟨p4_,p6_,_⟩:=(show D 7=true→AllDone D [4,6] from hcl 7 (by decide)) p7_
   obtain ⟨p5_,_⟩:=(show D 6=true→AllDone D [5] from hcl 6 (by decide)) p6_
   simp only [hD,p4_,p5_,p6_,p7_,cq,oT] at ht hs
   subst ht
   refine QaA rfl rfl (v:=int .i16 (rdL a1 (i64w (x3 - 1)) 0)) rfl rfl (fun _=>rfl) (cellsAt_of (fkI .i16) 0 (hs.rd hr0) had5_ gd4.1 gd4.2) ?_
   show G _ _ _ _ [_,_,_,_,_,_,_,_,_,_,_,_,_,_,_,_,_,_,_,_,_] _
   refine hk _ _ ⟨O,?_,hs.cast ?_⟩<;>simp only [oT,lq,cq,Nat.reduceBEq,p4_,p5_,p6_,p7_]
  intro D t w rest hall hO1_ hI
  obtain ⟨O,ht,hs⟩:=hI
  have p0_:=hall 0 (by decide) rfl
  have p1_:=hall 1 (by decide) rfl
  have p2_:=hall 2 (by decide) rfl
  have p3_:=hall 3 (by decide) rfl
  have p4_:=hall 4 (by decide) rfl
  have p5_:=hall 5 (by decide) rfl
  have p6_:=hall 6 (by decide) rfl
  have p7_:=hall 7 (by decide) rfl
  have p8_:=hall 8 (by decide) rfl
  simp only [p0_,p1_,p2_,p3_,p4_,p5_,p6_,p7_,p8_,cq,oT] at ht hs
  subst ht
  obtain ⟨rest,rfl,hO6_⟩:=ord_one (m:=511) hO1_ rfl 9 (m':=1023) (by decide+kernel) rfl
  clear hO1_
  obtain ⟨r4,Hr4,H⟩:=bind_get H
  refine Qaw (args:=[int .i16 (rdL a1 x3 0),int .i16 (rdL a1 (i64w (x3 - 1)) 0)]) rfl rfl (Qax rfl (callFunc_enter Tryz.func70 rfl rfl) rfl) (cmp_Less_int16.calls (a1:=rdL a1 x3 0) (a2:=rdL a1 (i64w (x3 - 1)) 0) Hr4) ?_
  rintro _ w ⟨rfl,hs2⟩
  have hs:St _ [] _:=hs.call hs2
  cases r4 with
  |true=>
   rw [if_pos rfl] at H
   obtain rfl:=ord_end hO6_ rfl (by decide+kernel)
   refine Qac (Qai rfl (Qad (Qag [0] rfl ?_)))
   refine Qaa (v:=bool false) rfl rfl rfl ?_
   show G _ _ _ _ [_,_,_,_,_,_,_,_,_,_,_,_,_,_,_,_,_,_,_,_,_] _
   refine Qac ?_
   obtain rfl:=QsJ H
   subst Hx1_
   have H:=QsJ Hr1_
   subst H
   refine Qaq Tryz.func51 (v:=bool false) (res1 rfl rfl) ?_
   have hs:St _ [] _:=St.take (Γ':=[]) hs
   exact ⟨_,rfl,rfl,hs⟩
  |false=>
   rw [if_neg Bool.false_ne_true] at H
   obtain rfl:=ord_end hO6_ rfl (by decide+kernel)
   refine Qac (Qal rfl (Qay ?_))
   refine QaH (Qag [0,1,2] rfl ?_)
   refine Qaa (v:=int .i64 x3) rfl rfl rfl ?_
   refine Qaa (v:=int .i64 (i64w (x3 - 1))) rfl rfl rfl ?_
   show G _ _ _ _ [_,_,_,_,_,_,_,_,_,_,_,_,_,_,_,_,_,_,_,_,_] _
   refine Qaa (v:=int .i64 (i64w (x3 - 1))) rfl rfl rfl (Qac ?_)
   obtain rfl:=QsJ H
   have hs:St _ [] _:=St.take (Γ':=[]) hs
   exact ih1_ _ _ ⟨i64w (x3 - 1),Hx1_,rfl,hs⟩
 intro hb
 rw [if_neg (b_dec_f hb)] at H
 refine Qac (Qal rfl ?_)
 obtain rfl:=QsJ H
 subst Hx1_
 have hs:St _ [] _:=St.take (Γ':=[]) hs
 refine Qbc rfl ?_
 exact ha1_ _ _ ⟨Hr1_,rfl,hs⟩
def QaF.post (w0:World) (r:Int) (v:Value) (w:World):Prop:=v=int .i64 r∧St w0 [] w
theorem QaF.calls {N:Nat} {a1:(List Int)} {v2:Value} {w0:World} {r:Int} (hr0:RdRow (K.int .i16) w0 v2 a1) (H:QaF.f N a1=some r):
 Calls Tryz.prog 49 #[v2] w0 fun e w=>∃ v,e= .returned v∧QaF.post w0 r v w:=by
 unfold QaF.f at H
 have hs:St w0 [] w0:=St.refl w0
 refine calls_of_g (n:=17) Tryz.func49 rfl rfl ?_
 show G _ _ _ _ [_,_,_,_,_,_,_,_,_,_,_,_,_,_,_,_,_,_] _
 refine Qad (Qag [0] rfl ?_)
 refine Qaa (v:=int .i64 0) rfl rfl rfl ?_
 show G _ _ _ _ [_,_,_,_,_,_,_,_,_,_,_,_,_,_,_,_,_,_] _
 refine Qac (Qad (Qag [0] rfl ?_))
 refine Qaa (v:=int .i64 0) rfl rfl rfl (Qac (Qad (Qad (Qag [0,1,2] rfl ?_))))
 refine Qaa (v:=v2) rfl rfl rfl ?_
 refine Qba (hs.rd hr0) rfl rfl rfl rfl rfl ?_
 show G _ _ _ _ [_,_,_,_,_,_,_,_,_,_,_,_,_,_,_,_,_,_] _
 refine Qaa (v:=int .i64 0) rfl rfl rfl (Qac ?_)
 obtain ⟨o1_,Ho,Hr1_⟩:=bind_get H
 refine QaC (J:=fun t w=>∃ x6:Int,QaF.a0 N x6=some r∧Fr t (fun O=>([O 0,O 1,O 2,int .i64 x6,O 4,O 5,O 6,O 7,O 8,O 9,O 10,O 11,O 12,O 13,O 14,O 15,O 16,O 17]:List Value))∧St w0 [] w) ?_ ?_
 ·
  rintro t w ⟨x6,H,hf,hs⟩
  obtain ⟨O,rfl⟩:=hf.open
  show G _ _ _ _ [_,_,_,_,_,_,_,_,_,_,_,_,_,_,_,_,_,_] _
  unfold QaF.a0 at H
  refine Qad (Qag [0,1] rfl ?_)
  refine Qaa (v:=int .i64 x6) rfl rfl rfl ?_
  refine Qaa (v:=int .i64 x6) rfl rfl rfl ?_
  show G _ _ _ _ [_,_,_,_,_,_,_,_,_,_,_,_,_,_,_,_,_,_] _
  refine Qac ?_
  obtain rfl:=QsJ H
  refine Qaq Tryz.func49 (v:=int .i64 x6) (res1 rfl rfl) ?_
  have hs:St _ [] _:=St.take (Γ':=[]) hs
  exact ⟨_,rfl,rfl,hs⟩
 intro ha1_
 have hs:St _ [] _:=St.take (Γ':=[]) hs
 refine QaP (I:=fun n_ t w=>∃ x3:Int,∃ x4:Int,rounds (fun s=>QaF.b0 N a1 s.1 s.2) n_ (x3,x4)=some o1_∧Fr t (fun O=>([O 0,O 1,O 2,int .i64 x3,O 4,O 5,v2,int .i64 (a1.length:Int),int .i64 x4,O 9,O 10,O 11,O 12,O 13,O 14,O 15,O 16,O 17]:List Value))∧St w0 [] w) N ⟨0,0,Ho,rfl,hs⟩ ?_ ?_
 ·
  rintro _ _ ⟨x3,x4,h,_⟩
  exact rounds_zero h
 intro n_ ih1_
 rintro t w ⟨x3,x4,Ho,hf,hs⟩
 obtain ⟨O,rfl⟩:=hf.open
 show G _ _ _ _ [_,_,_,_,_,_,_,_,_,_,_,_,_,_,_,_,_,_] _
 obtain ⟨x2_,H,Hx1_⟩:=rounds_succ Ho
 have H:QaF.b0 N a1 x3 x4=some x2_:=H
 unfold QaF.b0 at H
 refine Qad (Qag [0] rfl ?_)
 refine Qas (B:=decide (x4< (a1.length:Int))) rfl rfl rfl ?_ ?_
 ·
  intro hb
  rw [if_pos (b_dec_t hb)] at H
  show G _ _ _ _ [_,_,_,_,_,_,_,_,_,_,_,_,_,_,_,_,_,_] _
  refine Qac (Qad (Qai rfl (Qay (Qad ?_))))
  refine Qbe (Qad (Qag [0,1,2] rfl ?_))
  obtain ⟨g1,H⟩:=ite_get H
  refine Qa6 (fkI .i16) 0 (hs.rd hr0) rfl (fun _=>rfl) g1.1 g1.2 rfl rfl rfl rfl rfl ?_
  intro p5 hp5 lp5 op5
  refine QaA rfl rfl (v:=int .i16 (rdL a1 x4 0)) rfl rfl (fun _=>rfl) hp5 ?_
  refine Qaa (v:=int .i16 (rdL a1 x4 0)) rfl rfl rfl ?_
  show G _ _ _ _ [_,_,_,_,_,_,_,_,_,_,_,_,_,_,_,_,_,_] _
  refine Qac (Qag [0,1,2,3,4] rfl ?_)
  refine Qaa (v:=int .i64 x3) rfl rfl rfl ?_
  refine Qaa (v:=int .i16 (rdL a1 x4 0)) rfl rfl rfl ?_
  refine Qaa (v:=int .i64 (i64w (rdL a1 x4 0))) rfl rfl rfl ?_
  show G _ _ _ _ [_,_,_,_,_,_,_,_,_,_,_,_,_,_,_,_,_,_] _
  refine Qaa (v:=int .i64 (i64w (x3+(i64w (rdL a1 x4 0))))) rfl rfl rfl ?_
  refine Qaa (v:=int .i64 (i64w (x3+(i64w (rdL a1 x4 0))))) rfl rfl rfl (Qac ?_)
  refine QaH (Qag [0,1] rfl ?_)
  refine Qaa (v:=int .i64 (i64w (x4+1))) rfl rfl rfl ?_
  show G _ _ _ _ [_,_,_,_,_,_,_,_,_,_,_,_,_,_,_,_,_,_] _
  refine Qaa (v:=int .i64 (i64w (x4+1))) rfl rfl rfl (Qac ?_)
  obtain rfl:=QsJ H
  have hs:St _ [] _:=St.take (Γ':=[]) hs
  exact ih1_ _ _ ⟨i64w (x3+(i64w (rdL a1 x4 0))),i64w (x4+1),Hx1_,rfl,hs⟩
 intro hb
 rw [if_neg (b_dec_f hb)] at H
 refine Qac (Qad (Qal rfl ?_))
 obtain rfl:=QsJ H
 subst Hx1_
 have hs:St _ [] _:=St.take (Γ':=[]) hs
 refine Qbc rfl ?_
 exact ha1_ _ _ ⟨x3,Hr1_,rfl,hs⟩
def QaE.post (w0:World) (r:Bool) (v:Value) (w:World):Prop:=v=bool r∧St w0 [] w
theorem QaE.calls {N:Nat} {a1:(List Int)} {v2:Value} {w0:World} {r:Bool} (hr0:RdRow (K.int .i16) w0 v2 a1) (H:QaE.f N a1=some r):
 Calls Tryz.prog 21 #[v2] w0 fun e w=>∃ v,e= .returned v∧QaE.post w0 r v w:=by
 unfold QaE.f at H
 have hs:St w0 [] w0:=St.refl w0
 refine calls_of_g (n:=20) Tryz.func21 rfl rfl ?_
 show G _ _ _ _ [_,_,_,_,_,_,_,_,_,_,_,_,_,_,_,_,_,_,_,_,_] _
 refine Qad (Qag [0] rfl ?_)
 refine Qaa (v:=bool false) rfl rfl rfl ?_
 show G _ _ _ _ [_,_,_,_,_,_,_,_,_,_,_,_,_,_,_,_,_,_,_,_,_] _
 refine Qac (Qad (Qag [0,1,2,3,4,5,6,7,8,9,10,11,12,13,14,15,16,17,18] rfl ?_))
 refine Qaa (v:=v2) rfl rfl rfl ?_
 obtain ⟨r3,Hr3,H⟩:=bind_get H
 refine Qaw (args:=[v2]) rfl rfl (Qax rfl (callFunc_enter Tryz.func50 rfl rfl) rfl) (Qbl.calls (a1:=a1) (hs.rd hr0) Hr3) ?_
 rintro _ w ⟨rfl,hs2⟩
 have hs:St _ [] _:=hs.call hs2
 obtain ⟨r4,Hr4,H⟩:=bind_get H
 refine Qaw (args:=[int .i64 r3,int .i64 1,int .i64 16]) rfl rfl (Qax rfl (callFunc_enter Tryz.func46 rfl rfl) rfl) (Qa5.calls (a1:=r3) (a2:=1) (a3:=16) Hr4) ?_
 rintro _ w ⟨rfl,hs2⟩
 have hs:St _ [] _:=hs.call hs2
 cases r4 with
 |true=>
  rw [if_pos rfl] at H
  refine Qaa (v:=bool true) rfl rfl rfl ?_
  show G _ _ _ _ [_,_,_,_,_,_,_,_,_,_,_,_,_,_,_,_,_,_,_,_,_] _
  refine Qaa (v:=v2) rfl rfl rfl ?_
  obtain ⟨r5,Hr5,H⟩:=bind_get H
  refine Qaw (args:=[v2]) rfl rfl (Qax rfl (callFunc_enter Tryz.func51 rfl rfl) rfl) (Qao.calls (a1:=a1) (hs.rd hr0) Hr5) ?_
  rintro _ w ⟨rfl,hs2⟩
  have hs:St _ [] _:=hs.call hs2
  refine Qas (B:=r5) rfl rfl rfl ?_ ?_
  ·
   intro hb
   rw [if_pos (b_var_t hb)] at H
   refine Qaa (v:=bool true) rfl rfl rfl ?_
   refine Qaa (v:=v2) rfl rfl rfl ?_
   show G _ _ _ _ [_,_,_,_,_,_,_,_,_,_,_,_,_,_,_,_,_,_,_,_,_] _
   obtain ⟨g1,H⟩:=ite_get H
   refine Qa6 (fkI .i16) 0 (hs.rd hr0) rfl (fun _=>rfl) g1.1 g1.2 rfl rfl rfl rfl rfl ?_
   intro p6 hp6 lp6 op6
   refine QaA rfl rfl (v:=int .i16 (rdL a1 0 0)) rfl rfl (fun _=>rfl) hp6 ?_
   refine Qaa (v:=bool (decide ((rdL a1 0 0)≥1))) rfl rfl rfl ?_
   show G _ _ _ _ [_,_,_,_,_,_,_,_,_,_,_,_,_,_,_,_,_,_,_,_,_] _
   refine Qas (B:=decide ((rdL a1 0 0)≥1)) rfl rfl rfl ?_ ?_
   ·
    intro hb
    rw [if_pos (b_dec_t hb)] at H
    refine Qaa (v:=bool true) rfl rfl rfl ?_
    show G _ _ _ _ [_,_,_,_,_,_,_,_,_,_,_,_,_,_,_,_,_,_,_,_,_] _
    refine Qaa (v:=v2) rfl rfl rfl ?_
    obtain ⟨r7,Hr7,H⟩:=bind_get H
    refine Qaw (args:=[v2]) rfl rfl (Qax rfl (callFunc_enter Tryz.func49 rfl rfl) rfl) (QaF.calls (a1:=a1) (hs.rd hr0) Hr7) ?_
    rintro _ w ⟨rfl,hs2⟩
    have hs:St _ [] _:=hs.call hs2
    refine Qaa (v:=bool (decide (r7≤2000))) rfl rfl rfl ?_
    show G _ _ _ _ [_,_,_,_,_,_,_,_,_,_,_,_,_,_,_,_,_,_,_,_,_] _
    refine Qaa (v:=bool (decide (r7≤2000))) rfl rfl rfl ?_
    refine Qaa (v:=bool (decide (r7≤2000))) rfl rfl rfl (Qac ?_)
    obtain rfl:=QsJ H
    refine Qaq Tryz.func21 (v:=bool (decide (r7≤2000))) (res1 rfl rfl) ?_
    have hs:St _ [] _:=St.take (Γ':=[]) hs
    exact ⟨_,rfl,rfl,hs⟩
   intro hb
   rw [if_neg (b_dec_f hb)] at H
   refine Qaa (v:=bool false) rfl rfl rfl (Qab rfl rfl ?_)
   show G _ _ _ _ [_,_,_,_,_,_,_,_,_,_,_,_,_,_,_,_,_,_,_,_,_] _
   refine Qab rfl rfl (Qab rfl rfl ?_)
   refine Qaa (v:=bool false) rfl rfl rfl ?_
   show G _ _ _ _ [_,_,_,_,_,_,_,_,_,_,_,_,_,_,_,_,_,_,_,_,_] _
   refine Qaa (v:=bool false) rfl rfl rfl (Qac ?_)
   obtain rfl:=QsJ H
   refine Qaq Tryz.func21 (v:=bool false) (res1 rfl rfl) ?_
   have hs:St _ [] _:=St.take (Γ':=[]) hs
   exact ⟨_,rfl,rfl,hs⟩
  intro hb
  rw [if_neg (b_var_f hb)] at H
  show G _ _ _ _ [_,_,_,_,_,_,_,_,_,_,_,_,_,_,_,_,_,_,_,_,_] _
  refine Qaa (v:=bool false) rfl rfl rfl (Qab rfl rfl (Qab rfl rfl ?_))
  show G _ _ _ _ [_,_,_,_,_,_,_,_,_,_,_,_,_,_,_,_,_,_,_,_,_] _
  refine Qab rfl rfl (Qab rfl rfl ?_)
  refine Qaa (v:=bool false) rfl rfl rfl ?_
  show G _ _ _ _ [_,_,_,_,_,_,_,_,_,_,_,_,_,_,_,_,_,_,_,_,_] _
  refine Qaa (v:=bool false) rfl rfl rfl (Qab rfl rfl (Qab rfl rfl ?_))
  show G _ _ _ _ [_,_,_,_,_,_,_,_,_,_,_,_,_,_,_,_,_,_,_,_,_] _
  refine Qab rfl rfl ?_
  refine Qaa (v:=bool false) rfl rfl rfl ?_
  refine Qaa (v:=bool false) rfl rfl rfl ?_
  show G _ _ _ _ [_,_,_,_,_,_,_,_,_,_,_,_,_,_,_,_,_,_,_,_,_] _
  refine Qac ?_
  obtain rfl:=QsJ H
  refine Qaq Tryz.func21 (v:=bool false) (res1 rfl rfl) ?_
  have hs:St _ [] _:=St.take (Γ':=[]) hs
  exact ⟨_,rfl,rfl,hs⟩
 |false=>
  rw [if_neg Bool.false_ne_true] at H
  show G _ _ _ _ [_,_,_,_,_,_,_,_,_,_,_,_,_,_,_,_,_,_,_,_,_] _
  refine Qaa (v:=bool false) rfl rfl rfl (Qab rfl rfl (Qab rfl rfl ?_))
  show G _ _ _ _ [_,_,_,_,_,_,_,_,_,_,_,_,_,_,_,_,_,_,_,_,_] _
  refine Qaa (v:=bool false) rfl rfl rfl ?_
  refine Qaa (v:=bool false) rfl rfl rfl (Qab rfl rfl ?_)
  show G _ _ _ _ [_,_,_,_,_,_,_,_,_,_,_,_,_,_,_,_,_,_,_,_,_] _
  refine Qab rfl rfl (Qab rfl rfl (Qab rfl rfl ?_))
  show G _ _ _ _ [_,_,_,_,_,_,_,_,_,_,_,_,_,_,_,_,_,_,_,_,_] _
  refine Qaa (v:=bool false) rfl rfl rfl ?_
  refine Qaa (v:=bool false) rfl rfl rfl (Qab rfl rfl ?_)
  show G _ _ _ _ [_,_,_,_,_,_,_,_,_,_,_,_,_,_,_,_,_,_,_,_,_] _
  refine Qab rfl rfl (Qab rfl rfl ?_)
  refine Qaa (v:=bool false) rfl rfl rfl ?_
  show G _ _ _ _ [_,_,_,_,_,_,_,_,_,_,_,_,_,_,_,_,_,_,_,_,_] _
  refine Qaa (v:=bool false) rfl rfl rfl (Qac ?_)
  obtain rfl:=QsJ H
  refine Qaq Tryz.func21 (v:=bool false) (res1 rfl rfl) ?_
  have hs:St _ [] _:=St.take (Γ':=[]) hs
  exact ⟨_,rfl,rfl,hs⟩
def QbC.post (w0:World) (r:Int) (v:Value) (w:World):Prop:=v=int .i64 r∧St w0 [] w
theorem QbC.calls {N:Nat} {a1:Bool} {a2:Int} {w0:World} {r:Int} (H:QbC.f N a1 a2=some r):
 Calls Tryz.prog 61 #[bool a1,int .i64 a2] w0 fun e w=>∃ v,e= .returned v∧QbC.post w0 r v w:=by
 unfold QbC.f at H
 have hs:St w0 [] w0:=St.refl w0
 refine calls_of_g (n:=5) Tryz.func61 rfl rfl ?_
 show G _ _ _ _ [_,_,_,_,_,_,_] _
 refine Qad (Qag [0] rfl ?_)
 refine Qaa (v:=int .i64 0) rfl rfl rfl (Qac (Qad (Qad (Qag [0] rfl ?_))))
 refine Qas (B:=a1) rfl rfl rfl ?_ ?_
 ·
  intro hb
  rw [if_pos (b_var_t hb)] at H
  refine Qac (Qai rfl (Qad (Qag [0] rfl ?_)))
  refine Qaa (v:=int .i64 0) rfl rfl rfl ?_
  show G _ _ _ _ [_,_,_,_,_,_,_] _
  refine Qac ?_
  obtain rfl:=QsJ H
  refine Qaq Tryz.func61 (v:=int .i64 0) (res1 rfl rfl) ?_
  have hs:St _ [] _:=St.take (Γ':=[]) hs
  exact ⟨_,rfl,rfl,hs⟩
 intro hb
 rw [if_neg (b_var_f hb)] at H
 show G _ _ _ _ [_,_,_,_,_,_,_] _
 refine Qac (Qal rfl (Qay (Qad (Qag [0,1] rfl ?_))))
 refine Qaa (v:=int .i64 a2) rfl rfl rfl ?_
 refine Qaa (v:=int .i64 a2) rfl rfl rfl (Qac ?_)
 obtain rfl:=QsJ H
 refine Qaq Tryz.func61 (v:=int .i64 a2) (res1 rfl rfl) ?_
 have hs:St _ [] _:=St.take (Γ':=[]) hs
 exact ⟨_,rfl,rfl,hs⟩
def Qbd.post (w0:World) (r:Int) (v:Value) (w:World):Prop:=v=int .i64 r∧St w0 [] w
theorem Qbd.calls {N:Nat} {a1:(List Int)} {a3:Int} {v2:Value} {w0:World} {r:Int} (hr0:RdRow (K.int .i16) w0 v2 a1) (H:Qbd.f N a1 a3=some r):
 Calls Tryz.prog 32 #[v2,int .i64 a3] w0 fun e w=>∃ v,e= .returned v∧Qbd.post w0 r v w:=by
 unfold Qbd.f at H
 have hs:St w0 [] w0:=St.refl w0
 refine calls_of_g (n:=9) Tryz.func32 rfl rfl ?_
 show G _ _ _ _ [_,_,_,_,_,_,_,_,_,_,_] _
 refine Qad (Qag [0] rfl ?_)
 refine Qaa (v:=int .i64 0) rfl rfl rfl ?_
 show G _ _ _ _ [_,_,_,_,_,_,_,_,_,_,_] _
 refine Qac (Qad (Qad (Qag [0,1,2] rfl ?_)))
 refine Qaa (v:=v2) rfl rfl rfl ?_
 obtain ⟨r4,Hr4,H⟩:=bind_get H
 refine Qaw (args:=[v2]) rfl rfl (Qax rfl (callFunc_enter Tryz.func21 rfl rfl) rfl) (QaE.calls (a1:=a1) (hs.rd hr0) Hr4) ?_
 rintro _ w ⟨rfl,hs2⟩
 have hs:St _ [] _:=hs.call hs2
 cases r4 with
 |true=>
  rw [if_pos rfl] at H
  show G _ _ _ _ [_,_,_,_,_,_,_,_,_,_,_] _
  refine Qaa (v:=bool false) rfl rfl rfl (Qac (Qal rfl (Qay (Qad (Qag [0,1,2,3] rfl ?_)))))
  refine Qaa (v:=int .i64 a3) rfl rfl rfl ?_
  obtain ⟨r5,Hr5,H⟩:=bind_get H
  refine Qaw (args:=[int .i64 a3,int .i64 0,int .i64 2000]) rfl rfl (Qax rfl (callFunc_enter Tryz.func46 rfl rfl) rfl) (Qa5.calls (a1:=a3) (a2:=0) (a3:=2000) Hr5) ?_
  rintro _ w ⟨rfl,hs2⟩
  have hs:St _ [] _:=hs.call hs2
  show G _ _ _ _ [_,_,_,_,_,_,_,_,_,_,_] _
  obtain ⟨r6,Hr6,H⟩:=bind_get H
  refine Qaw (args:=[bool r5,int .i64 2]) rfl rfl (Qax rfl (callFunc_enter Tryz.func61 rfl rfl) rfl) (QbC.calls (a1:=r5) (a2:=2) Hr6) ?_
  rintro _ w ⟨rfl,hs2⟩
  have hs:St _ [] _:=hs.call hs2
  refine Qaa (v:=int .i64 r6) rfl rfl rfl (Qac ?_)
  obtain rfl:=QsJ H
  refine Qaq Tryz.func32 (v:=int .i64 r6) (res1 rfl rfl) ?_
  have hs:St _ [] _:=St.take (Γ':=[]) hs
  exact ⟨_,rfl,rfl,hs⟩
 |false=>
  rw [if_neg Bool.false_ne_true] at H
  refine Qaa (v:=bool true) rfl rfl rfl ?_
  show G _ _ _ _ [_,_,_,_,_,_,_,_,_,_,_] _
  refine Qac (Qai rfl (Qad (Qag [0] rfl ?_)))
  refine Qaa (v:=int .i64 1) rfl rfl rfl (Qac ?_)
  obtain rfl:=QsJ H
  refine Qaq Tryz.func32 (v:=int .i64 1) (res1 rfl rfl) ?_
  have hs:St _ [] _:=St.take (Γ':=[]) hs
  exact ⟨_,rfl,rfl,hs⟩
def Qby.post (w0:World) (r:(List Int)) (v:Value) (w:World):Prop:=St w0 [Row 49 (K.int .i8) v r] w
theorem Qby.calls {N:Nat} {a1:Bool} {w0:World} {r:(List Int)} (H:Qby.f N a1=some r):
 Calls Tryz.prog 34 #[bool a1] w0 fun e w=>∃ v,e= .returned v∧Qby.post w0 r v w:=by
 unfold Qby.f at H
 have hs:St w0 [] w0:=St.refl w0
 refine calls_of_g (n:=5) Tryz.func34 rfl rfl ?_
 show G _ _ _ _ [_,_,_,_,_,_] _
 refine Qad (Qag [0] rfl ?_)
 refine Qaa (v:=slice none 0 0) rfl rfl rfl (Qac (Qad (Qad (Qag [0] rfl ?_))))
 refine Qas (B:=a1) rfl rfl rfl ?_ ?_
 ·
  intro hb
  rw [if_pos (b_var_t hb)] at H
  refine Qac (Qai rfl (Qad (Qag [0,1] rfl ?_)))
  refine Qb0 (fkI .i8) (int .i8) (fun _=>rfl) rfl (ys:=[(-1),0,1]) rfl hs rfl rfl rfl rfl (fun _=>rfl) (zv:=(int .i8 0)) (zc:=(int .i8 0)) (fun _=>rfl) rfl (by simp) (by simp) rfl ?_
  intro v2 w hs
  show G _ _ _ _ [_,_,_,_,_,_] _
  refine Qaa (v:=v2) rfl rfl rfl (Qac ?_)
  obtain rfl:=QsJ H
  refine Qaq Tryz.func34 (v:=v2) (res1 rfl rfl) ?_
  have hs:=hs.pull 0 rfl
  have hs:St _ [_] _:=St.take (Γ':=[]) hs
  exact ⟨_,rfl,hs⟩
 intro hb
 rw [if_neg (b_var_f hb)] at H
 show G _ _ _ _ [_,_,_,_,_,_] _
 refine Qac (Qal rfl (Qay (Qad (Qag [0,1] rfl ?_))))
 refine Qb0 (fkI .i8) (int .i8) (fun _=>rfl) rfl (ys:=[0,1]) rfl hs rfl rfl rfl rfl (fun _=>rfl) (zv:=(int .i8 0)) (zc:=(int .i8 0)) (fun _=>rfl) rfl (by simp) (by simp) rfl ?_
 intro v4 w hs
 refine Qaa (v:=v4) rfl rfl rfl (Qac ?_)
 obtain rfl:=QsJ H
 refine Qaq Tryz.func34 (v:=v4) (res1 rfl rfl) ?_
 have hs:=hs.pull 0 rfl
 have hs:St _ [_] _:=St.take (Γ':=[]) hs
 exact ⟨_,rfl,hs⟩
def Qak.post (w0:World) (r:(List (Option (List (Int×Qah))))) (v:Value) (w:World):Prop:=∃ u1:Value,∃ mm2:(List (Option Nat)),v=u1∧St w0 [Rows2 66 kHM (MapO (int .i64) QaJ) u1 mm2 r] w
theorem Qak.calls {N:Nat} {a1:(List Int)} {a3:Bool} {v2:Value} {w0:World} {Q:(List (Option (List (Int×Qah))))→Prop} (hr0:RdRow (K.int .i16) w0 v2 a1) (H:Qak.f N a1 a3 Q):
 Calls Tryz.prog 33 #[v2,bool a3] w0 fun e w=>∃ v,e= .returned v∧∃ r,Q r∧Qak.post w0 r v w:=by
 unfold Qak.f at H
 have hs:St w0 [] w0:=St.refl w0
 refine calls_of_g (n:=104) Tryz.func33 rfl rfl ?_
 show G _ _ _ _ (_::_::_::_::_::_::_::_::_::_::_::_::_::_::_::_::_::_::_::_::_::_::_::_::_::_::_::_::_::_::_::_::_::_::_::_::_::_::_::_::_::_::_::_::_::_::_::_::_::_::_::_::_::_::_::_::_::_::_::_::_::_::_::_::_::_::_::_::_::_::_::_::_::_::_::_::_::_::_::_::_::_::_::_::_::_::_::_::_::_::_::_::_::_::_::_::_::_::_::_::_::_::_::_::_::_::[]) _
 refine Qad (Qag [0] rfl ?_)
 refine Qaa (v:=slice none 0 0) rfl rfl rfl (g_d rfl ?_)
 try dsimp only [Qae,Qaf]
 refine Qac (Qad (Qag [0,1,2,3,4] rfl ?_))
 refine Qaa (v:=v2) rfl rfl rfl (g_d rfl ?_)
 refine Qba (hs.rd hr0) rfl rfl rfl rfl rfl (g_d rfl ?_)
 refine Qaa (v:=int .i64 (i64w ((a1.length:Int)+1))) rfl rfl rfl (g_d rfl ?_)
 try dsimp only [Qae,Qaf]
 obtain ⟨g,H⟩:=ite_getD H
 refine Qb8 (κ:=kHM) (z:=none) (zc:=(encHM none)) (zv:=(Value.map none)) (B:=8) hs rfl rfl rfl rfl rfl g.1 rfl rfl rfl rfl rfl (fun _=>⟨rfl,rfl⟩) rfl (by decide) (by have:=g.2;omega) ?_
 intro v4 w hs
 have hs:=hs.r2make (I:=(MapO (int .i64) QaJ)) (y:=(none:Option (List (Int×Qah)))) mapO0
 have hs:St _ [_] _:=hs
 refine g_d rfl ?_
 refine Qaa (v:=v4) rfl rfl rfl (g_d rfl ?_)
 try dsimp only [Qae,Qaf]
 refine Qac (Qad (Qag [0,1,2,3,4,5,6,7,8] rfl ?_))
 refine Qaa (v:=v4) rfl rfl rfl (g_d rfl ?_)
 refine Qaa (v:=v2) rfl rfl rfl (g_d rfl ?_)
 refine Qba (hs.rd hr0) rfl rfl rfl rfl rfl (g_d rfl ?_)
 refine Qb6 (ek:=(int .i64)) (en:=QaJ) hs rfl rfl rfl ?_
 intro b6 w hs
 refine g_d rfl ?_
 try dsimp only [Qae,Qaf]
 refine Qaa (v:=agg (Qap (⟨1,0⟩:Qah)).toArray) rfl rfl (Qca (cs:=(Qap (⟨1,0⟩:Qah))) (segs:=[[int .i64 0],[int .i64 0]]) rfl rfl (fun _=>rfl) ⟨rfl,(fun _=>rfl),rfl,(fun _=>rfl),trivial⟩ (by simp only [List.map_cons,List.map_nil,List.forall_mem_cons,List.not_mem_nil,false_implies,implies_true,and_true];exact ⟨⟨_,rfl,rfl⟩,⟨_,rfl,rfl⟩⟩) (by first|rfl|(simp [ev,Qap];done)|(simp [ev,Qap];rfl))) ?_
 refine g_d rfl ?_
 refine Qb9 (keyInt Tryz.underlying2) (a:=0) (v:=(⟨1,0⟩:Qah)) hs rfl rfl (.inr rfl) Tryz.underlying66 rfl rfl rfl ?_
 intro w hs
 refine g_n rfl ?_
 refine Qaa (v:=Value.map (some b6)) rfl rfl rfl (g_d rfl ?_)
 obtain ⟨g1,H⟩:=ite_getD H
 refine Qa6 fkHM none (hs.r2row 1 rfl) rfl (fun _=>rfl) g1.1 (hs.r2lt 1 rfl g1.2) rfl rfl rfl rfl rfl ?_
 intro p8 hp8 lp8 op8
 refine g_d rfl ?_
 try dsimp only [Qae,Qaf]
 have hs:St _ [_,_] _:=hs.pull 1 rfl
 refine QbX (I:=(MapO (int .i64) QaJ)) (h':=some b6) (x':=some (mSet ([]:(List (Int×Qah))) 0 (⟨1,0⟩:Qah))) fkHM g1.1 g1.2 op8 hs rfl rfl rfl rfl rfl (fun _=>rfl) ?_
 intro w hs
 refine g_n rfl (Qac (Qad (Qad (Qag [0,1,2,3] rfl ?_))))
 refine Qaa (v:=v2) rfl rfl rfl (g_d rfl ?_)
 refine Qba (hs.rd hr0) rfl rfl rfl rfl rfl (g_d rfl ?_)
 refine Qaa (v:=int .i64 (i64w ((a1.length:Int) - 1))) rfl rfl rfl (g_d rfl ?_)
 try dsimp only [Qae,Qaf]
 refine Qaa (v:=int .i64 (i64w ((a1.length:Int) - 1))) rfl rfl rfl (g_d rfl (Qac ?_))
 have Ho:=H
 refine QaC (J:=fun t w=>∃ mm141:(List (Option Nat)),∃ x142:(List (Option (List (Int×Qah)))),Qak.a0 N x142 Q∧Fr t (fun O=>(O 0::O 1::O 2::O 3::O 4::v4::O 6::O 7::O 8::O 9::oT O 1 (oT O 2 (oT O 3 (oT O 4 (oT O 5 (oT O 6 (oT O 7 (oT O 8 (oT O 9 (O 100::O 101::O 102::O 103::O 104::O 105::[]))))))))):List Value))∧St w0 [Rows2 66 kHM (MapO (int .i64) QaJ) v4 mm141 x142] w) ?_ ?_
 ·
  rintro t w ⟨mm141,x142,H,hf,hs⟩
  obtain ⟨O,rfl⟩:=hf.open
  try dsimp only [oT]
  unfold Qak.a0 at H
  refine Qad (Qag [0,1] rfl ?_)
  refine Qaa (v:=v4) rfl rfl rfl (g_d rfl ?_)
  refine Qaa (v:=v4) rfl rfl rfl (g_d rfl ?_)
  try dsimp only [Qae,Qaf]
  refine Qac ?_
  refine Qaq Tryz.func33 (v:=v4) (res1 rfl rfl) ?_
  have hs:=hs.pull 0 rfl
  have hs:St _ [_] _:=St.take (Γ':=[]) hs
  exact ⟨_,rfl,_,H,v4,mm141,rfl,hs⟩
 intro ha1_
 have hs:=hs.pull 0 rfl
 have hs:St _ [_] _:=St.take (Γ':=[]) hs
 refine QaP (I:=fun n_ t w=>∃ mm74:(List (Option Nat)),∃ x75:(List (Option (List (Int×Qah)))),∃ x76:Int,roundsD (fun s=>Qak.b0 N a3 a1 s.1 s.2) n_ (x75,x76) (Ex.finD (fun s=>Qak.a0 N s Q) Q)∧Fr t (fun O=>(v2::bool a3::O 2::O 3::O 4::v4::int .i64 x76::O 7::O 8::O 9::oT O 1 (oT O 2 (oT O 3 (oT O 4 (oT O 5 (oT O 6 (oT O 7 (oT O 8 (oT O 9 (O 100::O 101::O 102::O 103::O 104::O 105::[]))))))))):List Value))∧St w0 [Rows2 66 kHM (MapO (int .i64) QaJ) v4 mm74 x75] w) N ⟨stL (List.replicate ((i64w ((a1.length:Int)+1))).toNat (none:Option Nat)) (a1.length:Int) (some b6),stL (List.replicate ((i64w ((a1.length:Int)+1))).toNat (none:Option (List (Int×Qah)))) (a1.length:Int) (some (mSet ([]:(List (Int×Qah))) 0 (⟨1,0⟩:Qah))),i64w ((a1.length:Int) - 1),Ho,rfl,hs⟩ ?_ ?_
 ·
  rintro _ _ ⟨mm74,x75,x76,h,_⟩
  exact (h:False).elim
 intro n_ ih1_
 rintro t w ⟨mm74,x75,x76,Ho,hf,hs⟩
 obtain ⟨O,rfl⟩:=hf.open
 try dsimp only [oT]
 obtain ⟨x70_,hQ1_,H⟩:=roundsD_succ Ho
 have H:Qak.b0 N a3 a1 x75 x76 x70_:=H
 unfold Qak.b0 at H
 refine Qad (Qad (Qag [0,1] rfl ?_))
 refine Qaa (v:=int .i64 x76) rfl rfl rfl (g_d rfl ?_)
 refine Qas (B:=decide (x76≥0)) rfl rfl rfl ?_ ?_
 ·
  intro hb
  rw [if_pos (b_dec_t hb)] at H
  refine g_d rfl (Qac (Qai rfl (Qay (Qad ?_))))
  refine Qbe (Qad (Qag [0,1,2,3,4] rfl ?_))
  refine Qaa (v:=v4) rfl rfl rfl (g_d rfl ?_)
  refine Qaa (v:=int .i64 x76) rfl rfl rfl (g_d rfl ?_)
  refine Qb6 (ek:=(int .i64)) (en:=QaJ) hs rfl rfl rfl ?_
  intro b77 w hs
  refine g_d rfl ?_
  try dsimp only [Qae,Qaf]
  obtain ⟨g36,H⟩:=ite_getD H
  refine Qa6 fkHM none (hs.r2row 1 rfl) rfl (fun _=>rfl) g36.1 (hs.r2lt 1 rfl g36.2) rfl rfl rfl rfl rfl ?_
  intro p79 hp79 lp79 op79
  refine g_d rfl ?_
  have hs:St _ [_,_] _:=hs.pull 1 rfl
  refine QbX (I:=(MapO (int .i64) QaJ)) (h':=some b77) (x':=some ([]:(List (Int×Qah)))) fkHM g36.1 g36.2 op79 hs rfl rfl rfl rfl rfl (fun _=>rfl) ?_
  intro w hs
  refine g_n rfl (Qac (Qad (Qag [0,1,2,3,4,5] rfl ?_)))
  refine Qaa (v:=v4) rfl rfl rfl (g_d rfl ?_)
  refine Qaa (v:=int .i64 x76) rfl rfl rfl (g_d rfl ?_)
  refine Qaa (v:=int .i64 (i64w (x76+1))) rfl rfl rfl (g_d rfl ?_)
  try dsimp only [Qae,Qaf]
  obtain ⟨g37,H⟩:=ite_getD H
  refine Qa6 fkHM none (hs.r2row 0 rfl) rfl (fun _=>rfl) g37.1 (hs.r2lt 0 rfl g37.2) rfl rfl rfl rfl rfl ?_
  intro p80 hp80 lp80 op80
  refine g_d rfl ?_
  refine QaA rfl rfl (v:=Value.map (rdL (stL mm74 x76 (some b77)) (i64w (x76+1)) none)) rfl rfl (fun _=>rfl) hp80 (g_d rfl ?_)
  try dsimp only [Qae,Qaf]
  obtain ⟨g38,H⟩:=ite_getD H
  obtain ⟨b81,eb81⟩:=hs.r2some 0 rfl g37.1 g37.2 g38
  refine Qco g37.1 g37.2 eb81 (some_getD g38) hs rfl rfl rfl Tryz.underlying66 rfl ?_
  intro b82 w hs
  refine g_d rfl (Qac ?_)
  have Ho:=H
  refine QaC (J:=fun t w=>∃ x140:(List (Option (List (Int×Qah)))),Qak.a2 N x76 x140 x70_∧Fr t (fun O=>(v2::bool a3::O 2::O 3::O 4::v4::int .i64 x76::O 7::O 8::O 9::oT O 1 (oT O 2 (oT O 3 (oT O 4 (oT O 5 (oT O 6 (oT O 7 (oT O 8 (oT O 9 (O 100::O 101::O 102::O 103::O 104::O 105::[]))))))))):List Value))∧St w0 [Rows2 66 kHM (MapO (int .i64) QaJ) v4 (stL mm74 x76 (some b77)) x140] w) ?_ ?_
  ·
   rintro t w ⟨x140,H,hf,hs⟩
   obtain ⟨O,rfl⟩:=hf.open
   try dsimp only [oT]
   unfold Qak.a2 at H
   refine QaH (Qag [0,1,2] rfl ?_)
   refine Qaa (v:=int .i64 x76) rfl rfl rfl (g_d rfl ?_)
   refine Qaa (v:=int .i64 (i64w (x76 - 1))) rfl rfl rfl (g_d rfl ?_)
   try dsimp only [Qae,Qaf]
   refine Qaa (v:=int .i64 (i64w (x76 - 1))) rfl rfl rfl (g_d rfl (Qac ?_))
   have hs:=hs.pull 0 rfl
   have hs:St _ [_] _:=St.take (Γ':=[]) hs
   exact ih1_ _ _ ⟨stL mm74 x76 (some b77),x140,i64w (x76 - 1),cast (congrFun hQ1_ _) H,rfl,hs⟩
  intro ha2_
  have hs:=hs.pull 0 rfl
  have hs:=hs.pull 1 rfl
  have hs:St _ [_,_] _:=St.take (Γ':=[]) hs
  refine QaP (I:=fun n_ t w=>∃ x111:(List (Option (List (Int×Qah)))),∃ x112:(List (Int×Qah)),roundsD (fun s=>Qak.b2 N x76 x75 a3 a1 s.1 s.2) n_ (x111,x112) (Ex.finBD (fun s=>Qak.a2 N x76 s x70_) x70_)∧Fr t (fun O=>(v2::bool a3::O 2::O 3::O 4::v4::int .i64 x76::O 7::O 8::O 9::oT O 1 (oT O 2 (oT O 3 (O 40::O 41::pointer (some ⟨b82,0,none⟩)::O 43::O 44::O 45::O 46::O 47::O 48::O 49::oT O 5 (oT O 6 (oT O 7 (oT O 8 (oT O 9 (O 100::O 101::O 102::O 103::O 104::O 105::[])))))))):List Value))∧St w0 [Rows2 66 kHM (MapO (int .i64) QaJ) v4 (stL mm74 x76 (some b77)) x111,IterAs b82 b81 ((rdL (stL x75 x76 (some ([]:(List (Int×Qah))))) (i64w (x76+1)) none).getD []) x112 none] w) N ⟨stL x75 x76 (some ([]:(List (Int×Qah)))),(rdL (stL x75 x76 (some ([]:(List (Int×Qah))))) (i64w (x76+1)) none).getD [],Ho,rfl,hs⟩ ?_ ?_
  ·
   rintro _ _ ⟨x111,x112,h,_⟩
   exact (h:False).elim
  intro n_ ih2_
  rintro t w ⟨x111,x112,Ho,hf,hs⟩
  obtain ⟨O,rfl⟩:=hf.open
  try dsimp only [oT]
  obtain ⟨x69_,hQ2_,H⟩:=roundsD_succ Ho
  have H:Qak.b2 N x76 x75 a3 a1 x111 x112 x69_:=H
  unfold Qak.b2 at H
  refine Qad (Qag [0,1] rfl ?_)
  obtain ⟨hkv54_,H⟩:=H
  have hs:St _ [_,_] _:=hs.pull 1 rfl
  refine Qcu g37.1 (rdL_lt g37.1 hkv54_) eb81 hkv54_ hs rfl rfl rfl rfl ?_ ?_
  ·
   intro hl55_ w hs
   have H:=H.1 hl55_
   refine g_d rfl ?_
   refine Qaa (v:=bool false) rfl rfl rfl (g_d rfl (Qac (Qad (Qal rfl ?_))))
   have hs:=hs.pull 1 rfl
   have hs:St _ [_] _:=St.take (Γ':=[_]) hs
   refine Qbc rfl ?_
   exact ha2_ _ _ ⟨x111,cast (congrFun hQ2_ _) H,rfl,hs⟩
  intro q113 l114 hl55_ w hs
  have H:=H.2 q113 l114 hl55_
  dsimp only at H
  refine g_d rfl ?_
  try dsimp only [Qae,Qaf]
  refine Qaa (v:=bool true) rfl rfl rfl (g_d rfl (Qac (Qad (Qai rfl (Qay ?_)))))
  refine Qbe (Qad (Qag [0,1,2,3,4,5] rfl ?_))
  have hs:St _ [_,_] _:=hs.pull 1 rfl
  have hs:St _ [_,_] _:=hs.pull 1 rfl
  refine Qcn g37.1 (rdL_lt g37.1 hkv54_) eb81 hkv54_ hs rfl rfl rfl rfl ?_
  have hs:=hs.iterForget
  have hs:St _ [_,_] _:=hs
  refine g_d rfl ?_
  refine Qaa (v:=int .i64 q113.1) rfl rfl rfl (g_d rfl ?_)
  refine Qaa (v:=agg (Qap q113.2).toArray) rfl rfl rfl (g_d rfl ?_)
  refine QbN hs rfl rfl (z:=(agg #[int .i64 0,int .i64 0])) (cs:=(Qap Qan)) rfl (fun _=>rfl) rfl ?_
  intro b115 w hs
  refine g_d rfl ?_
  try dsimp only [Qae,Qaf]
  refine Qaa (v:=int .i64 q113.1) rfl rfl rfl (g_d rfl ?_)
  refine QbK (n:=2) hs (Qa2.len _) rfl rfl (vs:=(Qap q113.2)) rfl rfl rfl (fun _=>rfl) (Qa2.len _) (Qa2.one _) ?_
  intro w hs
  refine g_n rfl (Qac (Qad (Qag [0,1,2,3] rfl ?_)))
  refine Qaa (v:=bool a3) rfl rfl rfl (g_d rfl ?_)
  obtain ⟨r117,Hr117,H⟩:=H
  refine Qaw (args:=[bool a3]) rfl rfl (Qax rfl (callFunc_enter Tryz.func34 rfl rfl) rfl) (Qby.calls (a1:=a3) Hr117) ?_
  intro v118 w hs2
  have hs:St _ [_,_,_,_] _:=hs.call hs2
  refine g_d rfl ?_
  try dsimp only [Qae,Qaf]
  refine Qba (hs.row 0 rfl) rfl rfl rfl rfl rfl (g_d rfl ?_)
  refine Qaa (v:=int .i64 0) rfl rfl rfl (g_d rfl (Qac ?_))
  have Ho:=H
  refine QaC (J:=fun t w=>∃ x139:(List (Option (List (Int×Qah)))),Qak.a4 N l114 x139 x69_∧Fr t (fun O=>(v2::bool a3::O 2::O 3::O 4::v4::int .i64 x76::O 7::O 8::O 9::oT O 1 (oT O 2 (oT O 3 (O 40::O 41::pointer (some ⟨b82,0,none⟩)::O 43::O 44::O 45::O 46::O 47::O 48::O 49::oT O 5 (oT O 6 (oT O 7 (oT O 8 (oT O 9 (O 100::O 101::O 102::O 103::O 104::O 105::[])))))))):List Value))∧St w0 [Rows2 66 kHM (MapO (int .i64) QaJ) v4 (stL mm74 x76 (some b77)) x139,IterAs b82 b81 ((rdL (stL x75 x76 (some ([]:(List (Int×Qah))))) (i64w (x76+1)) none).getD []) l114 none] w) ?_ ?_
  ·
   rintro t w ⟨x139,H,hf,hs⟩
   obtain ⟨O,rfl⟩:=hf.open
   try dsimp only [oT]
   unfold Qak.a4 at H
   refine QaH ?_
   have hs:=hs.pull 1 rfl
   have hs:=hs.pull 1 rfl
   have hs:St _ [_,_] _:=St.take (Γ':=[]) hs
   exact ih2_ _ _ ⟨x139,l114,cast (congrFun hQ2_ _) H,rfl,hs⟩
  intro ha3_
  have hs:=hs.pull 0 rfl
  have hs:=hs.pull 2 rfl
  have hs:=hs.pull 2 rfl
  have hs:=hs.pull 3 rfl
  have hs:St _ [_,_,_,_] _:=St.take (Γ':=[]) hs
  refine QaP (I:=fun n_ t w=>∃ x129:(List (Option (List (Int×Qah)))),∃ x130:Int,roundsD (fun s=>Qak.b4 N r117 x76 a1 q113 s.1 s.2) n_ (x129,x130) (Ex.finBD (fun s=>Qak.a4 N l114 s x69_) x69_)∧Fr t (fun O=>(v2::bool a3::O 2::O 3::O 4::v4::int .i64 x76::int .i64 q113.1::pointer (some ⟨b115,0,none⟩)::O 9::oT O 1 (oT O 2 (oT O 3 (O 40::O 41::pointer (some ⟨b82,0,none⟩)::O 43::O 44::O 45::O 46::O 47::O 48::v118::int .i64 (r117.length:Int)::int .i64 x130::O 52::O 53::O 54::O 55::O 56::O 57::O 58::O 59::oT O 6 (oT O 7 (oT O 8 (oT O 9 (O 100::O 101::O 102::O 103::O 104::O 105::[]))))))):List Value))∧St w0 [Rows2 66 kHM (MapO (int .i64) QaJ) v4 (stL mm74 x76 (some b77)) x129,Cells b115 (Qap q113.2) 64,IterAs b82 b81 ((rdL (stL x75 x76 (some ([]:(List (Int×Qah))))) (i64w (x76+1)) none).getD []) l114 none,Row 49 (K.int .i8) v118 r117] w) N ⟨x111,0,Ho,rfl,hs⟩ ?_ ?_
  ·
   rintro _ _ ⟨x129,x130,h,_⟩
   exact (h:False).elim
  intro n_ ih3_
  rintro t w ⟨x129,x130,Ho,hf,hs⟩
  obtain ⟨O,rfl⟩:=hf.open
  try dsimp only [oT]
  obtain ⟨x68_,hQ3_,H⟩:=roundsD_succ Ho
  have H:Qak.b4 N r117 x76 a1 q113 x129 x130 x68_:=H
  unfold Qak.b4 at H
  refine Qad (Qag [0] rfl ?_)
  refine Qas (B:=decide (x130< (r117.length:Int))) rfl rfl rfl ?_ ?_
  ·
   intro hb
   rw [if_pos (b_dec_t hb)] at H
   refine g_d rfl (Qac (Qad (Qai rfl (Qay (Qad ?_)))))
   refine Qbe (Qad (Qag [0,1,2] rfl ?_))
   obtain ⟨g62,H⟩:=ite_getD H
   refine Qa6 (fkI .i8) 0 (hs.row 3 rfl) rfl (fun _=>rfl) g62.1 g62.2 rfl rfl rfl rfl rfl ?_
   intro p131 hp131 lp131 op131
   refine g_d rfl ?_
   try dsimp only [Qae,Qaf]
   refine QaA rfl rfl (v:=int .i8 (rdL r117 x130 0)) rfl rfl (fun _=>rfl) hp131 (g_d rfl ?_)
   refine Qaa (v:=int .i8 (rdL r117 x130 0)) rfl rfl rfl (g_d rfl ?_)
   try dsimp only [Qae,Qaf]
   refine Qac (Qad (Qag [0,1,2,3,4,5,6,7,8,9,10] rfl ?_))
   refine Qaa (v:=int .i64 q113.1) rfl rfl rfl (g_d rfl ?_)
   refine Qaa (v:=int .i8 (rdL r117 x130 0)) rfl rfl rfl (g_d rfl ?_)
   refine Qaa (v:=int .i64 (i64w (rdL r117 x130 0))) rfl rfl rfl (g_d rfl ?_)
   refine Qaa (v:=v2) rfl rfl rfl (g_d rfl ?_)
   refine Qaa (v:=int .i64 x76) rfl rfl rfl (g_d rfl ?_)
   obtain ⟨g63,H⟩:=ite_getD H
   refine Qa6 (fkI .i16) 0 (hs.rd hr0) rfl (fun _=>rfl) g63.1 g63.2 rfl rfl rfl rfl rfl ?_
   intro p132 hp132 lp132 op132
   refine g_d rfl ?_
   refine QaA rfl rfl (v:=int .i16 (rdL a1 x76 0)) rfl rfl (fun _=>rfl) hp132 (g_d rfl ?_)
   try dsimp only [Qae,Qaf]
   refine Qaa (v:=int .i64 (i64w (rdL a1 x76 0))) rfl rfl rfl (g_d rfl ?_)
   refine Qaa (v:=int .i64 (i64w ((i64w (rdL r117 x130 0))*(i64w (rdL a1 x76 0))))) rfl rfl rfl (g_d rfl ?_)
   refine Qaa (v:=int .i64 (i64w (q113.1+(i64w ((i64w (rdL r117 x130 0))*(i64w (rdL a1 x76 0))))))) rfl rfl rfl (g_d rfl ?_)
   try dsimp only [Qae,Qaf]
   refine Qaa (v:=int .i64 (i64w (q113.1+(i64w ((i64w (rdL r117 x130 0))*(i64w (rdL a1 x76 0))))))) rfl rfl rfl (g_d rfl (Qac (Qad (Qag [0,1,2,3,4,5,6,7,8] rfl ?_))))
   refine Qaa (v:=pointer (some ⟨b115,1,none⟩)) rfl rfl rfl (g_d rfl ?_)
   refine QaA rfl rfl (v:=int .i64 q113.2.QaW) rfl rfl (fun _=>rfl) (cells_load (hs.cells 1 rfl) 1 1 rfl) (g_d rfl ?_)
   try dsimp only [Qae,Qaf]
   refine Qaa (v:=int .i8 (rdL r117 x130 0)) rfl rfl rfl (g_d rfl ?_)
   refine Qaa (v:=int .i64 (i64w (rdL r117 x130 0))) rfl rfl rfl (g_d rfl ?_)
   refine Qaa (v:=int .i8 (rdL r117 x130 0)) rfl rfl rfl (g_d rfl ?_)
   refine Qaa (v:=int .i64 (i64w (rdL r117 x130 0))) rfl rfl rfl (g_d rfl ?_)
   refine Qaa (v:=int .i64 (i64w ((i64w (rdL r117 x130 0))*(i64w (rdL r117 x130 0))))) rfl rfl rfl (g_d rfl ?_)
   refine Qaa (v:=int .i64 (i64w (q113.2.QaW+(i64w ((i64w (rdL r117 x130 0))*(i64w (rdL r117 x130 0))))))) rfl rfl rfl (g_d rfl ?_)
   try dsimp only [Qae,Qaf]
   refine Qaa (v:=int .i64 (i64w (q113.2.QaW+(i64w ((i64w (rdL r117 x130 0))*(i64w (rdL r117 x130 0))))))) rfl rfl rfl (g_d rfl (Qac (Qad (Qag [0,1,2,3,4,5,6,7,8,9,10,11] rfl ?_))))
   refine Qaa (v:=v4) rfl rfl rfl (g_d rfl ?_)
   refine Qaa (v:=int .i64 x76) rfl rfl rfl (g_d rfl ?_)
   obtain ⟨g64,H⟩:=ite_getD H
   refine Qa6 fkHM none (hs.r2row 0 rfl) rfl (fun _=>rfl) g64.1 (hs.r2lt 0 rfl g64.2) rfl rfl rfl rfl rfl ?_
   intro p133 hp133 lp133 op133
   refine g_d rfl ?_
   try dsimp only [Qae,Qaf]
   refine QaA rfl rfl (v:=Value.map (rdL (stL mm74 x76 (some b77)) x76 none)) rfl rfl (fun _=>rfl) hp133 (g_d rfl ?_)
   refine Qaa (v:=int .i64 (i64w (q113.1+(i64w ((i64w (rdL r117 x130 0))*(i64w (rdL a1 x76 0))))))) rfl rfl rfl (g_d rfl ?_)
   refine Qaa (v:=tuple #[agg (Qap (mGet ((rdL x129 x76 none).getD []) (i64w (q113.1+(i64w ((i64w (rdL r117 x130 0))*(i64w (rdL a1 x76 0)))))) Qan)).toArray,bool (mIdx ((rdL x129 x76 none).getD []) (i64w (q113.1+(i64w ((i64w (rdL r117 x130 0))*(i64w (rdL a1 x76 0))))))).isSome]) rfl rfl (QbQ (keyInt Tryz.underlying2) (a:=i64w (q113.1+(i64w ((i64w (rdL r117 x130 0))*(i64w (rdL a1 x76 0)))))) (z:=Qan) (hs.r2mp 0 rfl g64.1 g64.2) rfl Tryz.underlying66 rfl rfl (fun _=>rfl)) ?_
   refine g_d rfl ?_
   try dsimp only [Qae,Qaf]
   refine Qaa (v:=tuple #[agg (Qap (mGet ((rdL x129 x76 none).getD []) (i64w (q113.1+(i64w ((i64w (rdL r117 x130 0))*(i64w (rdL a1 x76 0)))))) Qan)).toArray,bool (mIdx ((rdL x129 x76 none).getD []) (i64w (q113.1+(i64w ((i64w (rdL r117 x130 0))*(i64w (rdL a1 x76 0))))))).isSome]) rfl rfl rfl (g_d rfl ?_)
   refine Qaa (v:=agg (Qap (mGet ((rdL x129 x76 none).getD []) (i64w (q113.1+(i64w ((i64w (rdL r117 x130 0))*(i64w (rdL a1 x76 0)))))) Qan)).toArray) rfl rfl rfl (g_d rfl ?_)
   refine Qaa (v:=bool (mIdx ((rdL x129 x76 none).getD []) (i64w (q113.1+(i64w ((i64w (rdL r117 x130 0))*(i64w (rdL a1 x76 0))))))).isSome) rfl rfl rfl (g_d rfl ?_)
   refine QbN hs rfl rfl (z:=(agg #[int .i64 0,int .i64 0])) (cs:=(Qap Qan)) rfl (fun _=>rfl) rfl ?_
   intro b134 w hs
   refine g_d rfl ?_
   refine QbK (n:=2) hs (Qa2.len _) rfl rfl (vs:=(Qap (mGet ((rdL x129 x76 none).getD []) (i64w (q113.1+(i64w ((i64w (rdL r117 x130 0))*(i64w (rdL a1 x76 0)))))) Qan))) rfl rfl rfl (fun _=>rfl) (Qa2.len _) (Qa2.one _) ?_
   intro w hs
   refine g_n rfl ?_
   refine Qaa (v:=bool (mIdx ((rdL x129 x76 none).getD []) (i64w (q113.1+(i64w ((i64w (rdL r117 x130 0))*(i64w (rdL a1 x76 0))))))).isSome) rfl rfl rfl (g_d rfl ?_)
   try dsimp only [Qae,Qaf]
   refine Qac (Qad (Qad ?_))
   refine QbR (J:=(fun t w=>∃ x136:Qah,Qak.j6 N x76 x129 q113 r117 x130 a1 x136 x68_∧Fr t (fun O=>(v2::bool a3::O 2::O 3::O 4::v4::int .i64 x76::int .i64 q113.1::pointer (some ⟨b115,0,none⟩)::O 9::O 10::int .i64 (i64w (q113.1+(i64w ((i64w (rdL r117 x130 0))*(i64w (rdL a1 x76 0))))))::O 12::pointer (some ⟨b134,0,none⟩)::O 14::O 15::O 16::O 17::O 18::O 19::oT O 2 (oT O 3 (O 40::O 41::pointer (some ⟨b82,0,none⟩)::O 43::O 44::O 45::O 46::O 47::O 48::v118::int .i64 (r117.length:Int)::int .i64 x130::O 52::O 53::O 54::O 55::O 56::O 57::O 58::O 59::oT O 6 (oT O 7 (oT O 8 (oT O 9 (O 100::O 101::O 102::O 103::O 104::O 105::[])))))):List Value))∧St w0 [Rows2 66 kHM (MapO (int .i64) QaJ) v4 (stL mm74 x76 (some b77)) x129,Cells b115 (Qap q113.2) 64,Cells b134 (Qap x136) 64,IterAs b82 b81 ((rdL (stL x75 x76 (some ([]:(List (Int×Qah))))) (i64w (x76+1)) none).getD []) l114 none,Row 49 (K.int .i8) v118 r117] w)) ?_ ?_
   ·
    rintro t w ⟨x136,H,hf,hs⟩
    obtain ⟨O,rfl⟩:=hf.open
    try dsimp only [oT]
    unfold Qak.j6 at H
    refine Qad (Qag [0,1,2,3,4,5,6] rfl ?_)
    refine Qaa (v:=pointer (some ⟨b134,0,none⟩)) rfl rfl rfl (g_d rfl ?_)
    refine QaA rfl rfl (v:=int .i64 x136.QaO) rfl rfl (fun _=>rfl) (cells_load (hs.cells 2 rfl) 0 1 rfl) (g_d rfl ?_)
    refine Qaa (v:=pointer (some ⟨b115,0,none⟩)) rfl rfl rfl (g_d rfl ?_)
    refine QaA rfl rfl (v:=int .i64 q113.2.QaO) rfl rfl (fun _=>rfl) (cells_load (hs.cells 1 rfl) 0 1 rfl) (g_d rfl ?_)
    try dsimp only [Qae,Qaf]
    refine Qaa (v:=int .i64 (i64w (x136.QaO+q113.2.QaO))) rfl rfl rfl (g_d rfl ?_)
    refine Qaa (v:=pointer (some ⟨b134,0,none⟩)) rfl rfl rfl (g_d rfl ?_)
    have hs:St _ [_,_,_,_,_] _:=hs.pull 2 rfl
    refine QbO hs rfl rfl (vs:=((encI .i64) (i64w (x136.QaO+q113.2.QaO)))) (cs':=(Qap (⟨i64w (x136.QaO+q113.2.QaO),x136.QaW⟩:Qah))) rfl rfl rfl (n:=1) (fun _=>rfl) ((fkI .i64).len _) (by first|exact Nat.le_of_ble_eq_true rfl|simp [encAI_len,encAB_len,encA_len]) ((fkI .i64).one _) rfl ?_
    intro w hs
    refine g_n rfl (Qac ?_)
    obtain ⟨gd65,H⟩:=ite_getD H
    obtain ⟨ad66_,ad66_N,ad66_C,had66_⟩:=sl_at (hs.r2row 1 rfl) gd65.1 (hs.r2lt 1 rfl gd65.2)
    obtain ⟨gd67,H⟩:=ite_getD H
    obtain ⟨b138,eb138⟩:=hs.r2some 1 rfl gd65.1 gd65.2 gd67
    refine Qbz ?_
    intro T hT
    refine Qcg (n:=7) rfl [0,1,2,3,4,5,6] [0,1,2,3,4,5,6] rfl rfl (Inv:=fun D t w=>∃ b138:Nat,∃ O:Nat→Value,t=(v2::bool a3::O 2::O 3::O 4::v4::int .i64 x76::int .i64 q113.1::pointer (some ⟨b115,0,none⟩)::O 9::O 10::int .i64 (i64w (q113.1+(i64w ((i64w (rdL r117 x130 0))*(i64w (rdL a1 x76 0))))))::O 12::pointer (some ⟨b134,0,none⟩)::O 14::O 15::O 16::O 17::O 18::O 19::oT O 2 (oT O 3 (O 40::O 41::pointer (some ⟨b82,0,none⟩)::O 43::O 44::O 45::O 46::O 47::O 48::v118::int .i64 (r117.length:Int)::int .i64 x130::O 52::O 53::O 54::O 55::O 56::O 57::O 58::O 59::oT O 6 (oT O 7 (oT O 8 (O 90::O 91::pointer (some ⟨b134,0,none⟩)::int .i64 x136.QaO::pointer (some ⟨b115,0,none⟩)::int .i64 q113.2.QaO::int .i64 (i64w (x136.QaO+q113.2.QaO))::pointer (some ⟨b134,0,none⟩)::cnd (D 0) v4 (O 98)::cnd (D 1) (int .i64 x76) (O 99)::cnd (D 2) (pointer (some (ad66_.add (x76.toNat*1)))) (O 100)::cnd (D 3) (Value.map (rdL (stL mm74 x76 (some b77)) x76 none)) (O 101)::cnd (D 4) (int .i64 (i64w (q113.1+(i64w ((i64w (rdL r117 x130 0))*(i64w (rdL a1 x76 0))))))) (O 102)::cnd (D 5) (agg (Qap (⟨i64w (x136.QaO+q113.2.QaO),x136.QaW⟩:Qah)).toArray) (O 103)::O 104::O 105::[]))))))∧St w0 [Cells b134 (Qap (⟨i64w (x136.QaO+q113.2.QaO),x136.QaW⟩:Qah)) 64,Rows2 66 kHM (MapO (int .i64) QaJ) v4 (stL mm74 x76 (some b77)) (cnd (D 6) (stL x129 x76 (some (mSet ((rdL x129 x76 none).getD []) (i64w (q113.1+(i64w ((i64w (rdL r117 x130 0))*(i64w (rdL a1 x76 0)))))) (⟨i64w (x136.QaO+q113.2.QaO),x136.QaW⟩:Qah)))) x129),Cells b115 (Qap q113.2) 64,IterAs b82 b81 ((rdL (stL x75 x76 (some ([]:(List (Int×Qah))))) (i64w (x76+1)) none).getD []) l114 none,Row 49 (K.int .i8) v118 r117] w) ?_ ⟨⟨⟨⟨⟨⟨⟨trivial,?_⟩,?_⟩,?_⟩,?_⟩,?_⟩,?_⟩,?_⟩ ?_
    ·
     intro w hh hbw
     have hs:=hs.samew hh hbw
     exact ⟨0,fun i=>T.getD i undef,(by subst hT;rfl),hs⟩
    ·
     rintro D t w hD hp hcl ⟨b138,O,ht,hs⟩ rest hk
     have q2_:=nz hcl 2 0 hD
     have q3_:=nz hcl 3 0 q2_
     have q6_:=nz hcl 6 0 q3_
     simp only [hD,q2_,q3_,q6_,cq,oT] at ht hs
     subst ht
     refine Qaa (v:=v4) rfl rfl rfl (g_d rfl ?_)
     try dsimp only [Qae,Qaf]
     refine hk _ _ ⟨b138,O,?_,hs.cast ?_⟩<;>simp only [oT,lq,cq,Nat.reduceBEq,q2_,q3_,q6_]
    ·
     rintro D t w hD hp hcl ⟨b138,O,ht,hs⟩ rest hk
     have q2_:=nz hcl 2 1 hD
     have q3_:=nz hcl 3 0 q2_
     have q6_:=nz hcl 6 0 q3_
     simp only [hD,q2_,q3_,q6_,cq,oT] at ht hs
     subst ht
     refine Qaa (v:=int .i64 x76) rfl rfl rfl (g_d rfl ?_)
     try dsimp only [Qae,Qaf]
     refine hk _ _ ⟨b138,O,?_,hs.cast ?_⟩<;>simp only [oT,lq,cq,Nat.reduceBEq,q2_,q3_,q6_]
    ·
     rintro D t w hD hp hcl ⟨b138,O,ht,hs⟩ rest hk
     obtain ⟨p0_,p1_,_⟩:=hp
     have q3_:=nz hcl 3 0 hD
     have q6_:=nz hcl 6 0 q3_
     simp only [hD,p0_,p1_,q3_,q6_,cq,oT] at ht hs
     subst ht
     refine QbG (κ:=kHM) (m:=1) rfl (hs.r2row 1 rfl) rfl (fun _=>rfl) gd65.1 (hs.r2lt 1 rfl gd65.2) had66_ rfl rfl rfl rfl rfl (g_d rfl ?_)
     try dsimp only [Qae,Qaf]
     refine hk _ _ ⟨b138,O,?_,hs.cast ?_⟩<;>simp only [oT,lq,cq,Nat.reduceBEq,p0_,p1_,q3_,q6_]
    ·
     rintro D t w hD hp hcl ⟨b138,O,ht,hs⟩ rest hk
     obtain ⟨p2_,_⟩:=hp
     obtain ⟨p0_,p1_,_⟩:=(hcl.get 2 (by decide)) p2_
     have q6_:=nz hcl 6 0 hD
     simp only [hD,p0_,p1_,p2_,q6_,cq,oT] at ht hs
     subst ht
     refine QaA rfl rfl (v:=Value.map (rdL (stL mm74 x76 (some b77)) x76 none)) rfl rfl (fun _=>rfl) (cellsAt_of fkHM none (hs.r2row 1 rfl) had66_ gd65.1 (hs.r2lt 1 rfl gd65.2)) (g_d rfl ?_)
     try dsimp only [Qae,Qaf]
     refine hk _ _ ⟨b138,O,?_,hs.cast ?_⟩<;>simp only [oT,lq,cq,Nat.reduceBEq,p0_,p1_,p2_,q6_]
    ·
     rintro D t w hD hp hcl ⟨b138,O,ht,hs⟩ rest hk
     have q6_:=nz hcl 6 1 hD
     simp only [hD,q6_,cq,oT] at ht hs
     subst ht
     refine Qaa (v:=int .i64 (i64w (q113.1+(i64w ((i64w (rdL r117 x130 0))*(i64w (rdL a1 x76 0))))))) rfl rfl rfl (g_d rfl ?_)
     try dsimp only [Qae,Qaf]
     refine hk _ _ ⟨b138,O,?_,hs.cast ?_⟩<;>simp only [oT,lq,cq,Nat.reduceBEq,q6_]
    ·
     rintro D t w hD hp hcl ⟨b138,O,ht,hs⟩ rest hk
     have q6_:=nz hcl 6 2 hD
     simp only [hD,q6_,cq,oT] at ht hs
     subst ht
     refine Qct rfl rfl (es:=(Qap (⟨i64w (x136.QaO+q113.2.QaO),x136.QaW⟩:Qah))) rfl rfl (fun _=>rfl) (n:=2) (fun _=>rfl) (Qa2.len _) (cells_all (hs.cells 0 rfl)) (g_d rfl ?_)
     try dsimp only [Qae,Qaf]
     refine hk _ _ ⟨b138,O,?_,hs.cast ?_⟩<;>simp only [oT,lq,cq,Nat.reduceBEq,q6_]
    ·
     rintro D t w hD hp hcl ⟨b138,O,ht,hs⟩ rest hk
     obtain ⟨p3_,p4_,p5_,p0_,p1_,p2_,_,_,_,_⟩:=hp
     simp only [hD,p0_,p1_,p2_,p3_,p4_,p5_,cq,oT] at ht hs
     subst ht
     have hs:St _ [_,_,_,_,_] _:=hs.pull 1 rfl
     refine Qcv (keyInt Tryz.underlying2) gd65.1 gd65.2 eb138 (a:=i64w (q113.1+(i64w ((i64w (rdL r117 x130 0))*(i64w (rdL a1 x76 0)))))) (y:=(⟨i64w (x136.QaO+q113.2.QaO),x136.QaW⟩:Qah)) hs rfl rfl (.inl rfl) Tryz.underlying66 rfl rfl rfl ?_
     intro w hs
     refine g_n rfl ?_
     try dsimp only [Qae,Qaf]
     have hs:=hs.push 1 (by simp)
     refine hk _ _ ⟨b138,O,?_,hs.cast ?_⟩<;>simp only [oT,lq,cq,Nat.reduceBEq,p0_,p1_,p2_,p3_,p4_,p5_]
    intro D t w hall hI
    obtain ⟨b138,O,ht,hs⟩:=hI
    have p0_:=hall 0 (by decide)
    have p1_:=hall 1 (by decide)
    have p2_:=hall 2 (by decide)
    have p3_:=hall 3 (by decide)
    have p4_:=hall 4 (by decide)
    have p5_:=hall 5 (by decide)
    have p6_:=hall 6 (by decide)
    simp only [p0_,p1_,p2_,p3_,p4_,p5_,p6_,cq,oT] at ht hs
    subst ht
    refine QaH (Qag [0,1] rfl ?_)
    refine Qaa (v:=int .i64 (i64w (x130+1))) rfl rfl rfl (g_d rfl ?_)
    try dsimp only [Qae,Qaf]
    refine Qaa (v:=int .i64 (i64w (x130+1))) rfl rfl rfl (g_d rfl (Qac ?_))
    have hs:=hs.pull 4 rfl
    have hs:=hs.pull 4 rfl
    have hs:=hs.pull 4 rfl
    have hs:=hs.pull 4 rfl
    have hs:St _ [_,_,_,_] _:=St.take (Γ':=[_]) hs
    exact ih3_ _ _ ⟨stL x129 x76 (some (mSet ((rdL x129 x76 none).getD []) (i64w (q113.1+(i64w ((i64w (rdL r117 x130 0))*(i64w (rdL a1 x76 0)))))) (⟨i64w (x136.QaO+q113.2.QaO),x136.QaW⟩:Qah))),i64w (x130+1),cast (congrFun hQ3_ _) H,rfl,hs⟩
   intro ha
   refine Qag [0,1,2,3,4,5,6,7] rfl ?_
   refine Qas (B:=(mIdx ((rdL x129 x76 none).getD []) (i64w (q113.1+(i64w ((i64w (rdL r117 x130 0))*(i64w (rdL a1 x76 0))))))).isSome) rfl rfl rfl ?_ ?_
   ·
    intro hb
    rw [if_pos (b_var_t hb)] at H
    refine g_d rfl ?_
    refine Qaa (v:=bool false) rfl rfl rfl (g_d rfl ?_)
    refine Qaa (v:=bool false) rfl rfl rfl (g_d rfl ?_)
    refine Qaa (v:=int .i64 (i64w (q113.2.QaW+(i64w ((i64w (rdL r117 x130 0))*(i64w (rdL r117 x130 0))))))) rfl rfl rfl (g_d rfl ?_)
    refine Qaa (v:=pointer (some ⟨b134,1,none⟩)) rfl rfl rfl (g_d rfl ?_)
    refine QaA rfl rfl (v:=int .i64 ((mGet ((rdL x129 x76 none).getD []) (i64w (q113.1+(i64w ((i64w (rdL r117 x130 0))*(i64w (rdL a1 x76 0)))))) Qan).QaW)) rfl rfl (fun _=>rfl) (cells_load (hs.cells 0 rfl) 1 1 rfl) (g_d rfl ?_)
    try dsimp only [Qae,Qaf]
    refine Qas (B:=decide ((i64w (q113.2.QaW+(i64w ((i64w (rdL r117 x130 0))*(i64w (rdL r117 x130 0))))))< ((mGet ((rdL x129 x76 none).getD []) (i64w (q113.1+(i64w ((i64w (rdL r117 x130 0))*(i64w (rdL a1 x76 0)))))) Qan).QaW))) rfl rfl rfl ?_ ?_
    ·
     intro hb
     rw [if_pos (b_dec_t hb)] at H
     refine g_d rfl ?_
     refine Qaa (v:=bool true) rfl rfl rfl (g_d rfl ?_)
     try dsimp only [Qae,Qaf]
     refine Qac (Qai rfl (Qag [0,1,2] rfl ?_))
     refine Qaa (v:=int .i64 (i64w (q113.2.QaW+(i64w ((i64w (rdL r117 x130 0))*(i64w (rdL r117 x130 0))))))) rfl rfl rfl (g_d rfl ?_)
     refine Qaa (v:=pointer (some ⟨b134,1,none⟩)) rfl rfl rfl (g_d rfl ?_)
     refine QbO hs rfl rfl (vs:=((encI .i64) (i64w (q113.2.QaW+(i64w ((i64w (rdL r117 x130 0))*(i64w (rdL r117 x130 0)))))))) (cs':=(Qap (⟨(mGet ((rdL x129 x76 none).getD []) (i64w (q113.1+(i64w ((i64w (rdL r117 x130 0))*(i64w (rdL a1 x76 0)))))) Qan).QaO,i64w (q113.2.QaW+(i64w ((i64w (rdL r117 x130 0))*(i64w (rdL r117 x130 0)))))⟩:Qah))) rfl rfl rfl (n:=1) (fun _=>rfl) ((fkI .i64).len _) (by first|exact Nat.le_of_ble_eq_true rfl|simp [encAI_len,encAB_len,encA_len]) ((fkI .i64).one _) rfl ?_
     intro w hs
     refine g_n rfl (Qac ?_)
     have hs:=hs.pull 4 rfl
     have hs:=hs.pull 4 rfl
     have hs:=hs.pull 2 rfl
     have hs:=hs.pull 4 rfl
     have hs:=hs.pull 4 rfl
     have hs:St _ [_,_,_,_,_] _:=St.take (Γ':=[]) hs
     exact ha _ _ ⟨(⟨(mGet ((rdL x129 x76 none).getD []) (i64w (q113.1+(i64w ((i64w (rdL r117 x130 0))*(i64w (rdL a1 x76 0)))))) Qan).QaO,i64w (q113.2.QaW+(i64w ((i64w (rdL r117 x130 0))*(i64w (rdL r117 x130 0)))))⟩:Qah),H,rfl,hs⟩
    intro hb
    rw [if_neg (b_dec_f hb)] at H
    refine g_d rfl ?_
    refine Qaa (v:=bool false) rfl rfl rfl (g_d rfl ?_)
    try dsimp only [Qae,Qaf]
    refine Qac (Qal rfl (Qay ?_))
    have hs:=hs.pull 4 rfl
    have hs:=hs.pull 4 rfl
    have hs:=hs.pull 2 rfl
    have hs:=hs.pull 4 rfl
    have hs:=hs.pull 4 rfl
    have hs:St _ [_,_,_,_,_] _:=St.take (Γ':=[]) hs
    exact ha _ _ ⟨mGet ((rdL x129 x76 none).getD []) (i64w (q113.1+(i64w ((i64w (rdL r117 x130 0))*(i64w (rdL a1 x76 0)))))) Qan,H,rfl,hs⟩
   intro hb
   rw [if_neg (b_var_f hb)] at H
   refine g_d rfl ?_
   refine Qaa (v:=bool true) rfl rfl rfl (g_d rfl ?_)
   refine Qaa (v:=bool true) rfl rfl rfl (g_d rfl (Qab rfl rfl (g_d rfl (Qab rfl rfl (g_d rfl (Qab rfl rfl (g_d rfl ?_)))))))
   try dsimp only [Qae,Qaf]
   refine Qab rfl rfl (g_d rfl ?_)
   refine Qaa (v:=bool true) rfl rfl rfl (g_d rfl ?_)
   try dsimp only [Qae,Qaf]
   refine Qac (Qai rfl (Qag [0,1,2] rfl ?_))
   refine Qaa (v:=int .i64 (i64w (q113.2.QaW+(i64w ((i64w (rdL r117 x130 0))*(i64w (rdL r117 x130 0))))))) rfl rfl rfl (g_d rfl ?_)
   refine Qaa (v:=pointer (some ⟨b134,1,none⟩)) rfl rfl rfl (g_d rfl ?_)
   refine QbO hs rfl rfl (vs:=((encI .i64) (i64w (q113.2.QaW+(i64w ((i64w (rdL r117 x130 0))*(i64w (rdL r117 x130 0)))))))) (cs':=(Qap (⟨(mGet ((rdL x129 x76 none).getD []) (i64w (q113.1+(i64w ((i64w (rdL r117 x130 0))*(i64w (rdL a1 x76 0)))))) Qan).QaO,i64w (q113.2.QaW+(i64w ((i64w (rdL r117 x130 0))*(i64w (rdL r117 x130 0)))))⟩:Qah))) rfl rfl rfl (n:=1) (fun _=>rfl) ((fkI .i64).len _) (by first|exact Nat.le_of_ble_eq_true rfl|simp [encAI_len,encAB_len,encA_len]) ((fkI .i64).one _) rfl ?_
   intro w hs
   refine g_n rfl (Qac ?_)
   have hs:=hs.pull 4 rfl
   have hs:=hs.pull 4 rfl
   have hs:=hs.pull 2 rfl
   have hs:=hs.pull 4 rfl
   have hs:=hs.pull 4 rfl
   have hs:St _ [_,_,_,_,_] _:=St.take (Γ':=[]) hs
   exact ha _ _ ⟨(⟨(mGet ((rdL x129 x76 none).getD []) (i64w (q113.1+(i64w ((i64w (rdL r117 x130 0))*(i64w (rdL a1 x76 0)))))) Qan).QaO,i64w (q113.2.QaW+(i64w ((i64w (rdL r117 x130 0))*(i64w (rdL r117 x130 0)))))⟩:Qah),H,rfl,hs⟩
  intro hb
  rw [if_neg (b_dec_f hb)] at H
  refine g_d rfl ?_
  try dsimp only [Qae,Qaf]
  refine Qac (Qad (Qal rfl ?_))
  have hs:=hs.pull 2 rfl
  have hs:=hs.pull 1 rfl
  have hs:St _ [_,_] _:=St.take (Γ':=[_,_]) hs
  refine Qbc rfl ?_
  exact ha3_ _ _ ⟨x129,cast (congrFun hQ3_ _) H,rfl,hs⟩
 intro hb
 rw [if_neg (b_dec_f hb)] at H
 refine g_d rfl ?_
 try dsimp only [Qae,Qaf]
 refine Qac (Qal rfl ?_)
 have hs:=hs.pull 0 rfl
 have hs:St _ [_] _:=St.take (Γ':=[]) hs
 refine Qbc rfl ?_
 exact ha1_ _ _ ⟨mm74,x75,cast (congrFun hQ1_ _) H,rfl,hs⟩
end Go.Proofs.YtmineidejeacnaaGreatDoorX
