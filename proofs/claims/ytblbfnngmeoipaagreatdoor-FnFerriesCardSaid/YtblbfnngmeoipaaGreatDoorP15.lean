import Derived.Test.YtblbfnngmeoipaaGreatDoorP13
import Derived.Test.YtblbfnngmeoipaaGreatDoorP14
namespace Go.Proofs.YtblbfnngmeoipaaGreatDoorX
open Go Go.RowKit Go.Proofs
open Go.Value (int pointer bool agg slice string tuple)
set_option maxHeartbeats 8000000
set_option maxRecDepth 100000
set_option linter.unusedVariables false
set_option linter.unusedSimpArgs false
def Qb4.post (w0:World) (r:Bool) (v:Value) (w:World):Prop:=v=bool r∧St w0 [] w
theorem Qb4.calls {N:Nat} {a1:Qaf} {a4:Qaf} {v2:Value} {v5:Value} {w0:World} {r:Bool} (hr3:RdRow (K.int .u16) w0 v2 a1.Qal) (hr6:RdRow (K.int .u16) w0 v5 a4.Qal) (H:Qb4.f N a1 a4=some r):
 Calls Tryz.prog 16 #[agg (([int .i8 a1.Qad,int .i8 a1.Qag,v2]:List Value)).toArray,agg (([int .i8 a4.Qad,int .i8 a4.Qag,v5]:List Value)).toArray] w0 fun e w=>∃ v,e= .returned v∧Qb4.post w0 r v w:=by
 unfold Qb4.f at H
 have hs:St w0 [] w0:=St.refl w0
 refine calls_of_g (n:=4) Tryz.func16 rfl rfl ?_
 show G _ _ _ _ [_,_,_,_,_,_] _
 refine Qaj (Qan [0,1,2] rfl ?_)
 refine Qbw hs rfl rfl (cs:=(([int .i8 a1.Qad,int .i8 a1.Qag,v2]:List Value))) rfl rfl ?_
 intro b7 w hs
 refine Qbw hs rfl rfl (cs:=(([int .i8 a4.Qad,int .i8 a4.Qag,v5]:List Value))) rfl rfl ?_
 intro b9 w hs
 show G _ _ _ _ [_,_,_,_,_,_] _
 refine Qab (v:=bool false) rfl rfl rfl (Qac (Qaj (Qan [0,1] rfl ?_)))
 obtain ⟨r11,Hr11,H⟩:=bind_get H
 refine Qaz (args:=[pointer (some ⟨b7,0,none⟩),pointer (some ⟨b9,0,none⟩)]) rfl rfl (QaA rfl (callFunc_enter Tryz.func49 rfl rfl) rfl) (Qbv.calls (a1:=(⟨a1.Qad,a1.Qag,a1.Qal⟩:Qaf)) (a6:=(⟨a4.Qad,a4.Qag,a4.Qal⟩:Qaf)) (hs.rd hr3) (hs.cells 1 rfl) (hs.rd hr6) (hs.cells 0 rfl) Hr11) ?_
 rintro _ w ⟨rfl,hs2⟩
 have hs:St _ [_,_] _:=hs.call hs2
 refine Qab (v:=bool r11) rfl rfl rfl ?_
 show G _ _ _ _ [_,_,_,_,_,_] _
 refine Qac ?_
 obtain rfl:=QsJ H
 refine QaB Tryz.func16 (v:=bool r11) (res1 rfl rfl) ?_
 have hs:St _ [] _:=St.take (Γ':=[_,_]) hs
 exact ⟨_,rfl,rfl,hs⟩
def Qbe.post (w0:World) (r:Bool) (v:Value) (w:World):Prop:=v=bool r∧St w0 [] w
theorem Qbe.calls {N:Nat} {a1:(List Int)} {a3:(List Int)} {v2:Value} {v4:Value} {w0:World} {r:Bool} (hr0:RdRow (K.int .i16) w0 v2 a1) (hr1:RdRow (K.int .i16) w0 v4 a3) (H:Qbe.f N a1 a3=some r):
 Calls Tryz.prog 18 #[v2,v4] w0 fun e w=>∃ v,e= .returned v∧Qbe.post w0 r v w:=by
 unfold Qbe.f at H
 have hs:St w0 [] w0:=St.refl w0
 refine calls_of_g (n:=24) Tryz.func18 rfl rfl ?_
 show G _ _ _ _ [_,_,_,_,_,_,_,_,_,_,_,_,_,_,_,_,_,_,_,_,_,_,_,_,_,_] _
 refine Qaj (Qan [0] rfl ?_)
 refine Qab (v:=bool false) rfl rfl rfl (Qac (Qaj (Qaj (Qan [0,1,2,3,4] rfl ?_))))
 refine Qab (v:=v2) rfl rfl rfl ?_
 refine QbC (hs.rd hr0) rfl rfl rfl rfl rfl ?_
 refine Qab (v:=v4) rfl rfl rfl ?_
 refine QbC (hs.rd hr1) rfl rfl rfl rfl rfl ?_
 show G _ _ _ _ [_,_,_,_,_,_,_,_,_,_,_,_,_,_,_,_,_,_,_,_,_,_,_,_,_,_] _
 refine QaI (B:=(a1.length:Int) !=(a3.length:Int)) rfl rfl rfl ?_ ?_
 ·
  intro hb
  rw [if_neg (b_bne_t hb)] at H
  show G _ _ _ _ [_,_,_,_,_,_,_,_,_,_,_,_,_,_,_,_,_,_,_,_,_,_,_,_,_,_] _
  refine Qac (Qaq rfl (Qaj (Qan [0] rfl ?_)))
  refine Qab (v:=bool false) rfl rfl rfl (Qac ?_)
  obtain rfl:=QsJ H
  refine QaB Tryz.func18 (v:=bool false) (res1 rfl rfl) ?_
  have hs:St _ [] _:=St.take (Γ':=[]) hs
  exact ⟨_,rfl,rfl,hs⟩
 intro hb
 rw [if_pos (b_bne_f hb)] at H
 refine Qac (Qas rfl (QaK (Qaj (Qaj (Qan [0] rfl ?_)))))
 refine Qab (v:=int .i64 0) rfl rfl rfl (Qac ?_)
 obtain ⟨o1_,Ho,Hr1_⟩:=bind_get H
 refine QaR (J:=fun t w=>Qbe.a0 N=some r∧Fr t (fun O=>([O 0,O 1,O 2,O 3,O 4,O 5,O 6,O 7,O 8,O 9,O 10,O 11,O 12,O 13,O 14,O 15,O 16,O 17,O 18,O 19,O 20,O 21,O 22,O 23,O 24,O 25]:List Value))∧St w0 [] w) ?_ ?_
 ·
  rintro t w ⟨H,hf,hs⟩
  obtain ⟨O,rfl⟩:=hf.open
  show G _ _ _ _ [_,_,_,_,_,_,_,_,_,_,_,_,_,_,_,_,_,_,_,_,_,_,_,_,_,_] _
  unfold Qbe.a0 at H
  refine Qaj (Qan [0] rfl ?_)
  refine Qab (v:=bool true) rfl rfl rfl (Qac ?_)
  obtain rfl:=QsJ H
  refine QaB Tryz.func18 (v:=bool true) (res1 rfl rfl) ?_
  have hs:St _ [] _:=St.take (Γ':=[]) hs
  exact ⟨_,rfl,rfl,hs⟩
 intro ha1_
 have hs:St _ [] _:=St.take (Γ':=[]) hs
 refine Qba (I:=fun n_ t w=>∃ x5:Int,rounds (fun s=>Qbe.b0 N a1 a3 s) n_ x5=some o1_∧Fr t (fun O=>([v2,v4,O 2,O 3,O 4,int .i64 x5,O 6,O 7,O 8,O 9,O 10,O 11,O 12,O 13,O 14,O 15,O 16,O 17,O 18,O 19,O 20,O 21,O 22,O 23,O 24,O 25]:List Value))∧St w0 [] w) N ⟨0,Ho,rfl,hs⟩ ?_ ?_
 ·
  rintro _ _ ⟨x5,h,_⟩
  exact rounds_zero h
 intro n_ ih1_
 rintro t w ⟨x5,Ho,hf,hs⟩
 obtain ⟨O,rfl⟩:=hf.open
 show G _ _ _ _ [_,_,_,_,_,_,_,_,_,_,_,_,_,_,_,_,_,_,_,_,_,_,_,_,_,_] _
 obtain ⟨x7_,H,Hx1_⟩:=rounds_succ Ho
 have H:Qbe.b0 N a1 a3 x5=some x7_:=H
 unfold Qbe.b0 at H
 refine Qaj (Qaj (Qan [0,1,2,3] rfl ?_))
 refine Qab (v:=int .i64 x5) rfl rfl rfl ?_
 refine Qab (v:=v2) rfl rfl rfl ?_
 refine QbC (hs.rd hr0) rfl rfl rfl rfl rfl ?_
 show G _ _ _ _ [_,_,_,_,_,_,_,_,_,_,_,_,_,_,_,_,_,_,_,_,_,_,_,_,_,_] _
 refine QaI (B:=decide (x5< (a1.length:Int))) rfl rfl rfl ?_ ?_
 ·
  intro hb
  rw [if_pos (b_dec_t hb)] at H
  refine Qac (Qaq rfl (QaK (Qaj ?_)))
  refine QbG (Qaj ?_)
  refine Qck (n:=9) rfl [0,1,2,3,4,5,6,7,8] [0,1,2,3,4,5,6,7,8] rfl rfl ?_
  intro rest w hh hbw hO
  have hs:=hs.samew hh hbw
  show G _ _ _ _ [_,_,_,_,_,_,_,_,_,_,_,_,_,_,_,_,_,_,_,_,_,_,_,_,_,_] _
  obtain ⟨gd2,H⟩:=ite_get H
  obtain ⟨ad3_,ad3_N,ad3_C,had3_⟩:=sl_at (hs.rd hr0) gd2.1 gd2.2
  obtain ⟨gd4,H⟩:=ite_get H
  obtain ⟨ad5_,ad5_N,ad5_C,had5_⟩:=sl_at (hs.rd hr1) gd4.1 gd4.2
  refine QaV ?_
  intro T hT
  refine Qbb (m0:=0) hO rfl 255 [0,1,2,3,4,5,6,7] [0,0,3,7,0,0,48,112,255] (by decide+kernel) (fun D t w=>∃ O:Nat→Value,t=[v2,v4,O 2,O 3,O 4,int .i64 x5,O 6,O 7,O 8,O 9,O 10,int .i64 x5,v2,int .i64 (a1.length:Int),bool true,O 15,O 16,cnd (D 0) v2 (O 17),cnd (D 1) (int .i64 x5) (O 18),cnd (D 2) (pointer (some (ad3_.add (x5.toNat*1)))) (O 19),cnd (D 3) (int .i16 (rdL a1 x5 0)) (O 20),cnd (D 4) v4 (O 21),cnd (D 5) (int .i64 x5) (O 22),cnd (D 6) (pointer (some (ad5_.add (x5.toNat*1)))) (O 23),cnd (D 7) (int .i16 (rdL a3 x5 0)) (O 24),O 25]∧St w0 [] w) ?_ ⟨?_,⟨?_,⟨?_,⟨?_,⟨?_,⟨?_,⟨?_,⟨?_,trivial⟩⟩⟩⟩⟩⟩⟩⟩ ?_
  ·exact ⟨fun i=>T.getD i undef,(by subst hT;rfl),hs⟩
  ·
   rintro D t w hD hp hcl ⟨O,ht,hs⟩ rest hk
   have hp:AllDone D []:=hp
   have q2_:=ny hcl 2 0 hD
   have q3_:=ny hcl 3 0 q2_
   simp only [hD,q2_,q3_,cq,oT] at ht hs
   subst ht
   refine Qab (v:=v2) rfl rfl rfl ?_
   show G _ _ _ _ [_,_,_,_,_,_,_,_,_,_,_,_,_,_,_,_,_,_,_,_,_,_,_,_,_,_] _
   refine hk _ _ ⟨O,?_,hs.cast ?_⟩<;>simp only [oT,lq,cq,Nat.reduceBEq,q2_,q3_]
  ·
   rintro D t w hD hp hcl ⟨O,ht,hs⟩ rest hk
   have hp:AllDone D []:=hp
   have q2_:=ny hcl 2 1 hD
   have q3_:=ny hcl 3 0 q2_
   simp only [hD,q2_,q3_,cq,oT] at ht hs
   subst ht
   refine Qab (v:=int .i64 x5) rfl rfl rfl ?_
   show G _ _ _ _ [_,_,_,_,_,_,_,_,_,_,_,_,_,_,_,_,_,_,_,_,_,_,_,_,_,_] _
   refine hk _ _ ⟨O,?_,hs.cast ?_⟩<;>simp only [oT,lq,cq,Nat.reduceBEq,q2_,q3_]
  ·
   rintro D t w hD hp hcl ⟨O,ht,hs⟩ rest hk
   have hp:AllDone D [0,1]:=hp
   obtain ⟨p0_,p1_,_⟩:=hp
   have q3_:=ny hcl 3 0 hD
   simp only [hD,p0_,p1_,q3_,cq,oT] at ht hs
   subst ht
   refine QbJ (κ:=(K.int .i16)) (m:=1) rfl (hs.rd hr0) rfl (fun _=>rfl) gd2.1 gd2.2 had3_ rfl rfl rfl rfl rfl ?_
   show G _ _ _ _ [_,_,_,_,_,_,_,_,_,_,_,_,_,_,_,_,_,_,_,_,_,_,_,_,_,_] _
   refine hk _ _ ⟨O,?_,hs.cast ?_⟩<;>simp only [oT,lq,cq,Nat.reduceBEq,p0_,p1_,q3_]
  ·
   rintro D t w hD hp hcl ⟨O,ht,hs⟩ rest hk
   have hp:AllDone D [2]:=hp
   obtain ⟨p2_,_⟩:=hp
   obtain ⟨p0_,p1_,_⟩:=(show D 2=true→AllDone D [0,1] from hcl 2 (by decide)) p2_
   simp only [hD,p0_,p1_,p2_,cq,oT] at ht hs
   subst ht
   refine Qaw rfl rfl (v:=int .i16 (rdL a1 x5 0)) rfl rfl (fun _=>rfl) (cellsAt_of (fkI .i16) 0 (hs.rd hr0) had3_ gd2.1 gd2.2) ?_
   show G _ _ _ _ [_,_,_,_,_,_,_,_,_,_,_,_,_,_,_,_,_,_,_,_,_,_,_,_,_,_] _
   refine hk _ _ ⟨O,?_,hs.cast ?_⟩<;>simp only [oT,lq,cq,Nat.reduceBEq,p0_,p1_,p2_]
  ·
   rintro D t w hD hp hcl ⟨O,ht,hs⟩ rest hk
   have hp:AllDone D []:=hp
   have q6_:=ny hcl 6 0 hD
   have q7_:=ny hcl 7 0 q6_
   simp only [hD,q6_,q7_,cq,oT] at ht hs
   subst ht
   refine Qab (v:=v4) rfl rfl rfl ?_
   show G _ _ _ _ [_,_,_,_,_,_,_,_,_,_,_,_,_,_,_,_,_,_,_,_,_,_,_,_,_,_] _
   refine hk _ _ ⟨O,?_,hs.cast ?_⟩<;>simp only [oT,lq,cq,Nat.reduceBEq,q6_,q7_]
  ·
   rintro D t w hD hp hcl ⟨O,ht,hs⟩ rest hk
   have hp:AllDone D []:=hp
   have q6_:=ny hcl 6 1 hD
   have q7_:=ny hcl 7 0 q6_
   simp only [hD,q6_,q7_,cq,oT] at ht hs
   subst ht
   refine Qab (v:=int .i64 x5) rfl rfl rfl ?_
   show G _ _ _ _ [_,_,_,_,_,_,_,_,_,_,_,_,_,_,_,_,_,_,_,_,_,_,_,_,_,_] _
   refine hk _ _ ⟨O,?_,hs.cast ?_⟩<;>simp only [oT,lq,cq,Nat.reduceBEq,q6_,q7_]
  ·
   rintro D t w hD hp hcl ⟨O,ht,hs⟩ rest hk
   have hp:AllDone D [4,5]:=hp
   obtain ⟨p4_,p5_,_⟩:=hp
   have q7_:=ny hcl 7 0 hD
   simp only [hD,p4_,p5_,q7_,cq,oT] at ht hs
   subst ht
   refine QbJ (κ:=(K.int .i16)) (m:=1) rfl (hs.rd hr1) rfl (fun _=>rfl) gd4.1 gd4.2 had5_ rfl rfl rfl rfl rfl ?_
   show G _ _ _ _ [_,_,_,_,_,_,_,_,_,_,_,_,_,_,_,_,_,_,_,_,_,_,_,_,_,_] _
   refine hk _ _ ⟨O,?_,hs.cast ?_⟩<;>simp only [oT,lq,cq,Nat.reduceBEq,p4_,p5_,q7_]
  ·
   rintro D t w hD hp hcl ⟨O,ht,hs⟩ rest hk
   have hp:AllDone D [6]:=hp
   obtain ⟨p6_,_⟩:=hp
   obtain ⟨p4_,p5_,_⟩:=(show D 6=true→AllDone D [4,5] from hcl 6 (by decide)) p6_
   simp only [hD,p4_,p5_,p6_,cq,oT] at ht hs
   subst ht
   refine Qaw rfl rfl (v:=int .i16 (rdL a3 x5 0)) rfl rfl (fun _=>rfl) (cellsAt_of (fkI .i16) 0 (hs.rd hr1) had5_ gd4.1 gd4.2) ?_
   show G _ _ _ _ [_,_,_,_,_,_,_,_,_,_,_,_,_,_,_,_,_,_,_,_,_,_,_,_,_,_] _
   refine hk _ _ ⟨O,?_,hs.cast ?_⟩<;>simp only [oT,lq,cq,Nat.reduceBEq,p4_,p5_,p6_]
  intro D t w rest hall hO1_ hI
  obtain ⟨O,ht,hs⟩:=hI
  have p0_:=hall 0 (by decide) rfl
  have p1_:=hall 1 (by decide) rfl
  have p2_:=hall 2 (by decide) rfl
  have p3_:=hall 3 (by decide) rfl
  have p4_:=hall 4 (by decide) rfl
  have p5_:=hall 5 (by decide) rfl
  have p6_:=hall 6 (by decide) rfl
  have p7_:=hall 7 (by decide) rfl
  simp only [p0_,p1_,p2_,p3_,p4_,p5_,p6_,p7_,cq,oT] at ht hs
  subst ht
  obtain ⟨rest,rfl,hO6_⟩:=ord_one (m:=255) hO1_ rfl 8 (m':=511) (by decide+kernel) rfl
  clear hO1_
  refine QaI (B:=(rdL a1 x5 0) !=(rdL a3 x5 0)) rfl rfl rfl ?_ ?_
  ·
   intro hb
   rw [if_neg (b_bne_t hb)] at H
   show G _ _ _ _ [_,_,_,_,_,_,_,_,_,_,_,_,_,_,_,_,_,_,_,_,_,_,_,_,_,_] _
   obtain rfl:=ord_end hO6_ rfl (by decide+kernel)
   refine Qac (Qaq rfl (Qaj (Qan [0] rfl ?_)))
   refine Qab (v:=bool false) rfl rfl rfl (Qac ?_)
   obtain rfl:=QsJ H
   subst Hx1_
   have H:=QsJ Hr1_
   subst H
   refine QaB Tryz.func18 (v:=bool false) (res1 rfl rfl) ?_
   have hs:St _ [] _:=St.take (Γ':=[]) hs
   exact ⟨_,rfl,rfl,hs⟩
  intro hb
  rw [if_pos (b_bne_f hb)] at H
  show G _ _ _ _ [_,_,_,_,_,_,_,_,_,_,_,_,_,_,_,_,_,_,_,_,_,_,_,_,_,_] _
  obtain rfl:=ord_end hO6_ rfl (by decide+kernel)
  refine Qac (Qas rfl (QaK ?_))
  refine Qa0 (Qan [0,1,2] rfl ?_)
  refine Qab (v:=int .i64 x5) rfl rfl rfl ?_
  refine Qab (v:=int .i64 (i64w (x5+1))) rfl rfl rfl ?_
  refine Qab (v:=int .i64 (i64w (x5+1))) rfl rfl rfl (Qac ?_)
  obtain rfl:=QsJ H
  have hs:St _ [] _:=St.take (Γ':=[]) hs
  exact ih1_ _ _ ⟨i64w (x5+1),Hx1_,rfl,hs⟩
 intro hb
 rw [if_neg (b_dec_f hb)] at H
 refine Qac (Qas rfl ?_)
 obtain rfl:=QsJ H
 subst Hx1_
 have hs:St _ [] _:=St.take (Γ':=[]) hs
 refine QbE rfl ?_
 exact ha1_ _ _ ⟨Hr1_,rfl,hs⟩
def Qbd.post (w0:World) (r:Bool) (v:Value) (w:World):Prop:=v=bool r∧St w0 [] w
theorem Qbd.calls {N:Nat} {a1:(List Int)} {a3:(List Int)} {v2:Value} {v4:Value} {w0:World} {r:Bool} (hr0:RdRow (K.int .u16) w0 v2 a1) (hr1:RdRow (K.int .u16) w0 v4 a3) (H:Qbd.f N a1 a3=some r):
 Calls Tryz.prog 19 #[v2,v4] w0 fun e w=>∃ v,e= .returned v∧Qbd.post w0 r v w:=by
 unfold Qbd.f at H
 have hs:St w0 [] w0:=St.refl w0
 refine calls_of_g (n:=24) Tryz.func19 rfl rfl ?_
 show G _ _ _ _ [_,_,_,_,_,_,_,_,_,_,_,_,_,_,_,_,_,_,_,_,_,_,_,_,_,_] _
 refine Qaj (Qan [0] rfl ?_)
 refine Qab (v:=bool false) rfl rfl rfl (Qac (Qaj (Qaj (Qan [0,1,2,3,4] rfl ?_))))
 refine Qab (v:=v2) rfl rfl rfl ?_
 refine QbC (hs.rd hr0) rfl rfl rfl rfl rfl ?_
 refine Qab (v:=v4) rfl rfl rfl ?_
 refine QbC (hs.rd hr1) rfl rfl rfl rfl rfl ?_
 show G _ _ _ _ [_,_,_,_,_,_,_,_,_,_,_,_,_,_,_,_,_,_,_,_,_,_,_,_,_,_] _
 refine QaI (B:=(a1.length:Int) !=(a3.length:Int)) rfl rfl rfl ?_ ?_
 ·
  intro hb
  rw [if_neg (b_bne_t hb)] at H
  show G _ _ _ _ [_,_,_,_,_,_,_,_,_,_,_,_,_,_,_,_,_,_,_,_,_,_,_,_,_,_] _
  refine Qac (Qaq rfl (Qaj (Qan [0] rfl ?_)))
  refine Qab (v:=bool false) rfl rfl rfl (Qac ?_)
  obtain rfl:=QsJ H
  refine QaB Tryz.func19 (v:=bool false) (res1 rfl rfl) ?_
  have hs:St _ [] _:=St.take (Γ':=[]) hs
  exact ⟨_,rfl,rfl,hs⟩
 intro hb
 rw [if_pos (b_bne_f hb)] at H
 refine Qac (Qas rfl (QaK (Qaj (Qaj (Qan [0] rfl ?_)))))
 refine Qab (v:=int .i64 0) rfl rfl rfl (Qac ?_)
 obtain ⟨o1_,Ho,Hr1_⟩:=bind_get H
 refine QaR (J:=fun t w=>Qbd.a0 N=some r∧Fr t (fun O=>([O 0,O 1,O 2,O 3,O 4,O 5,O 6,O 7,O 8,O 9,O 10,O 11,O 12,O 13,O 14,O 15,O 16,O 17,O 18,O 19,O 20,O 21,O 22,O 23,O 24,O 25]:List Value))∧St w0 [] w) ?_ ?_
 ·
  rintro t w ⟨H,hf,hs⟩
  obtain ⟨O,rfl⟩:=hf.open
  show G _ _ _ _ [_,_,_,_,_,_,_,_,_,_,_,_,_,_,_,_,_,_,_,_,_,_,_,_,_,_] _
  unfold Qbd.a0 at H
  refine Qaj (Qan [0] rfl ?_)
  refine Qab (v:=bool true) rfl rfl rfl (Qac ?_)
  obtain rfl:=QsJ H
  refine QaB Tryz.func19 (v:=bool true) (res1 rfl rfl) ?_
  have hs:St _ [] _:=St.take (Γ':=[]) hs
  exact ⟨_,rfl,rfl,hs⟩
 intro ha1_
 have hs:St _ [] _:=St.take (Γ':=[]) hs
 refine Qba (I:=fun n_ t w=>∃ x5:Int,rounds (fun s=>Qbd.b0 N a1 a3 s) n_ x5=some o1_∧Fr t (fun O=>([v2,v4,O 2,O 3,O 4,int .i64 x5,O 6,O 7,O 8,O 9,O 10,O 11,O 12,O 13,O 14,O 15,O 16,O 17,O 18,O 19,O 20,O 21,O 22,O 23,O 24,O 25]:List Value))∧St w0 [] w) N ⟨0,Ho,rfl,hs⟩ ?_ ?_
 ·
  rintro _ _ ⟨x5,h,_⟩
  exact rounds_zero h
 intro n_ ih1_
 rintro t w ⟨x5,Ho,hf,hs⟩
 obtain ⟨O,rfl⟩:=hf.open
 show G _ _ _ _ [_,_,_,_,_,_,_,_,_,_,_,_,_,_,_,_,_,_,_,_,_,_,_,_,_,_] _
 obtain ⟨x7_,H,Hx1_⟩:=rounds_succ Ho
 have H:Qbd.b0 N a1 a3 x5=some x7_:=H
 unfold Qbd.b0 at H
 refine Qaj (Qaj (Qan [0,1,2,3] rfl ?_))
 refine Qab (v:=int .i64 x5) rfl rfl rfl ?_
 refine Qab (v:=v2) rfl rfl rfl ?_
 refine QbC (hs.rd hr0) rfl rfl rfl rfl rfl ?_
 show G _ _ _ _ [_,_,_,_,_,_,_,_,_,_,_,_,_,_,_,_,_,_,_,_,_,_,_,_,_,_] _
 refine QaI (B:=decide (x5< (a1.length:Int))) rfl rfl rfl ?_ ?_
 ·
  intro hb
  rw [if_pos (b_dec_t hb)] at H
  refine Qac (Qaq rfl (QaK (Qaj ?_)))
  refine QbG (Qaj ?_)
  refine Qck (n:=9) rfl [0,1,2,3,4,5,6,7,8] [0,1,2,3,4,5,6,7,8] rfl rfl ?_
  intro rest w hh hbw hO
  have hs:=hs.samew hh hbw
  show G _ _ _ _ [_,_,_,_,_,_,_,_,_,_,_,_,_,_,_,_,_,_,_,_,_,_,_,_,_,_] _
  obtain ⟨gd2,H⟩:=ite_get H
  obtain ⟨ad3_,ad3_N,ad3_C,had3_⟩:=sl_at (hs.rd hr0) gd2.1 gd2.2
  obtain ⟨gd4,H⟩:=ite_get H
  obtain ⟨ad5_,ad5_N,ad5_C,had5_⟩:=sl_at (hs.rd hr1) gd4.1 gd4.2
  refine QaV ?_
  intro T hT
  refine Qbb (m0:=0) hO rfl 255 [0,1,2,3,4,5,6,7] [0,0,3,7,0,0,48,112,255] (by decide+kernel) (fun D t w=>∃ O:Nat→Value,t=[v2,v4,O 2,O 3,O 4,int .i64 x5,O 6,O 7,O 8,O 9,O 10,int .i64 x5,v2,int .i64 (a1.length:Int),bool true,O 15,O 16,cnd (D 0) v2 (O 17),cnd (D 1) (int .i64 x5) (O 18),cnd (D 2) (pointer (some (ad3_.add (x5.toNat*1)))) (O 19),cnd (D 3) (int .u16 (rdL a1 x5 0)) (O 20),cnd (D 4) v4 (O 21),cnd (D 5) (int .i64 x5) (O 22),cnd (D 6) (pointer (some (ad5_.add (x5.toNat*1)))) (O 23),cnd (D 7) (int .u16 (rdL a3 x5 0)) (O 24),O 25]∧St w0 [] w) ?_ ⟨?_,⟨?_,⟨?_,⟨?_,⟨?_,⟨?_,⟨?_,⟨?_,trivial⟩⟩⟩⟩⟩⟩⟩⟩ ?_
  ·exact ⟨fun i=>T.getD i undef,(by subst hT;rfl),hs⟩
  ·
   rintro D t w hD hp hcl ⟨O,ht,hs⟩ rest hk
   have hp:AllDone D []:=hp
   have q2_:=ny hcl 2 0 hD
   have q3_:=ny hcl 3 0 q2_
   simp only [hD,q2_,q3_,cq,oT] at ht hs
   subst ht
   refine Qab (v:=v2) rfl rfl rfl ?_
   show G _ _ _ _ [_,_,_,_,_,_,_,_,_,_,_,_,_,_,_,_,_,_,_,_,_,_,_,_,_,_] _
   refine hk _ _ ⟨O,?_,hs.cast ?_⟩<;>simp only [oT,lq,cq,Nat.reduceBEq,q2_,q3_]
  ·
   rintro D t w hD hp hcl ⟨O,ht,hs⟩ rest hk
   have hp:AllDone D []:=hp
   have q2_:=ny hcl 2 1 hD
   have q3_:=ny hcl 3 0 q2_
   simp only [hD,q2_,q3_,cq,oT] at ht hs
   subst ht
   refine Qab (v:=int .i64 x5) rfl rfl rfl ?_
   show G _ _ _ _ [_,_,_,_,_,_,_,_,_,_,_,_,_,_,_,_,_,_,_,_,_,_,_,_,_,_] _
   refine hk _ _ ⟨O,?_,hs.cast ?_⟩<;>simp only [oT,lq,cq,Nat.reduceBEq,q2_,q3_]
  ·
   rintro D t w hD hp hcl ⟨O,ht,hs⟩ rest hk
   have hp:AllDone D [0,1]:=hp
   obtain ⟨p0_,p1_,_⟩:=hp
   have q3_:=ny hcl 3 0 hD
   simp only [hD,p0_,p1_,q3_,cq,oT] at ht hs
   subst ht
   refine QbJ (κ:=(K.int .u16)) (m:=1) rfl (hs.rd hr0) rfl (fun _=>rfl) gd2.1 gd2.2 had3_ rfl rfl rfl rfl rfl ?_
   show G _ _ _ _ [_,_,_,_,_,_,_,_,_,_,_,_,_,_,_,_,_,_,_,_,_,_,_,_,_,_] _
   refine hk _ _ ⟨O,?_,hs.cast ?_⟩<;>simp only [oT,lq,cq,Nat.reduceBEq,p0_,p1_,q3_]
  ·
   rintro D t w hD hp hcl ⟨O,ht,hs⟩ rest hk
   have hp:AllDone D [2]:=hp
   obtain ⟨p2_,_⟩:=hp
   obtain ⟨p0_,p1_,_⟩:=(show D 2=true→AllDone D [0,1] from hcl 2 (by decide)) p2_
   simp only [hD,p0_,p1_,p2_,cq,oT] at ht hs
   subst ht
   refine Qaw rfl rfl (v:=int .u16 (rdL a1 x5 0)) rfl rfl (fun _=>rfl) (cellsAt_of (fkI .u16) 0 (hs.rd hr0) had3_ gd2.1 gd2.2) ?_
   show G _ _ _ _ [_,_,_,_,_,_,_,_,_,_,_,_,_,_,_,_,_,_,_,_,_,_,_,_,_,_] _
   refine hk _ _ ⟨O,?_,hs.cast ?_⟩<;>simp only [oT,lq,cq,Nat.reduceBEq,p0_,p1_,p2_]
  ·
   rintro D t w hD hp hcl ⟨O,ht,hs⟩ rest hk
   have hp:AllDone D []:=hp
   have q6_:=ny hcl 6 0 hD
   have q7_:=ny hcl 7 0 q6_
   simp only [hD,q6_,q7_,cq,oT] at ht hs
   subst ht
   refine Qab (v:=v4) rfl rfl rfl ?_
   show G _ _ _ _ [_,_,_,_,_,_,_,_,_,_,_,_,_,_,_,_,_,_,_,_,_,_,_,_,_,_] _
   refine hk _ _ ⟨O,?_,hs.cast ?_⟩<;>simp only [oT,lq,cq,Nat.reduceBEq,q6_,q7_]
  ·
   rintro D t w hD hp hcl ⟨O,ht,hs⟩ rest hk
   have hp:AllDone D []:=hp
   have q6_:=ny hcl 6 1 hD
   have q7_:=ny hcl 7 0 q6_
   simp only [hD,q6_,q7_,cq,oT] at ht hs
   subst ht
   refine Qab (v:=int .i64 x5) rfl rfl rfl ?_
   show G _ _ _ _ [_,_,_,_,_,_,_,_,_,_,_,_,_,_,_,_,_,_,_,_,_,_,_,_,_,_] _
   refine hk _ _ ⟨O,?_,hs.cast ?_⟩<;>simp only [oT,lq,cq,Nat.reduceBEq,q6_,q7_]
  ·
   rintro D t w hD hp hcl ⟨O,ht,hs⟩ rest hk
   have hp:AllDone D [4,5]:=hp
   obtain ⟨p4_,p5_,_⟩:=hp
   have q7_:=ny hcl 7 0 hD
   simp only [hD,p4_,p5_,q7_,cq,oT] at ht hs
   subst ht
   refine QbJ (κ:=(K.int .u16)) (m:=1) rfl (hs.rd hr1) rfl (fun _=>rfl) gd4.1 gd4.2 had5_ rfl rfl rfl rfl rfl ?_
   show G _ _ _ _ [_,_,_,_,_,_,_,_,_,_,_,_,_,_,_,_,_,_,_,_,_,_,_,_,_,_] _
   refine hk _ _ ⟨O,?_,hs.cast ?_⟩<;>simp only [oT,lq,cq,Nat.reduceBEq,p4_,p5_,q7_]
  ·
   rintro D t w hD hp hcl ⟨O,ht,hs⟩ rest hk
   have hp:AllDone D [6]:=hp
   obtain ⟨p6_,_⟩:=hp
   obtain ⟨p4_,p5_,_⟩:=(show D 6=true→AllDone D [4,5] from hcl 6 (by decide)) p6_
   simp only [hD,p4_,p5_,p6_,cq,oT] at ht hs
   subst ht
   refine Qaw rfl rfl (v:=int .u16 (rdL a3 x5 0)) rfl rfl (fun _=>rfl) (cellsAt_of (fkI .u16) 0 (hs.rd hr1) had5_ gd4.1 gd4.2) ?_
   show G _ _ _ _ [_,_,_,_,_,_,_,_,_,_,_,_,_,_,_,_,_,_,_,_,_,_,_,_,_,_] _
   refine hk _ _ ⟨O,?_,hs.cast ?_⟩<;>simp only [oT,lq,cq,Nat.reduceBEq,p4_,p5_,p6_]
  intro D t w rest hall hO1_ hI
  obtain ⟨O,ht,hs⟩:=hI
  have p0_:=hall 0 (by decide) rfl
  have p1_:=hall 1 (by decide) rfl
  have p2_:=hall 2 (by decide) rfl
  have p3_:=hall 3 (by decide) rfl
  have p4_:=hall 4 (by decide) rfl
  have p5_:=hall 5 (by decide) rfl
  have p6_:=hall 6 (by decide) rfl
  have p7_:=hall 7 (by decide) rfl
  simp only [p0_,p1_,p2_,p3_,p4_,p5_,p6_,p7_,cq,oT] at ht hs
  subst ht
  obtain ⟨rest,rfl,hO6_⟩:=ord_one (m:=255) hO1_ rfl 8 (m':=511) (by decide+kernel) rfl
  clear hO1_
  refine QaI (B:=(rdL a1 x5 0) !=(rdL a3 x5 0)) rfl rfl rfl ?_ ?_
  ·
   intro hb
   rw [if_neg (b_bne_t hb)] at H
   show G _ _ _ _ [_,_,_,_,_,_,_,_,_,_,_,_,_,_,_,_,_,_,_,_,_,_,_,_,_,_] _
   obtain rfl:=ord_end hO6_ rfl (by decide+kernel)
   refine Qac (Qaq rfl (Qaj (Qan [0] rfl ?_)))
   refine Qab (v:=bool false) rfl rfl rfl (Qac ?_)
   obtain rfl:=QsJ H
   subst Hx1_
   have H:=QsJ Hr1_
   subst H
   refine QaB Tryz.func19 (v:=bool false) (res1 rfl rfl) ?_
   have hs:St _ [] _:=St.take (Γ':=[]) hs
   exact ⟨_,rfl,rfl,hs⟩
  intro hb
  rw [if_pos (b_bne_f hb)] at H
  show G _ _ _ _ [_,_,_,_,_,_,_,_,_,_,_,_,_,_,_,_,_,_,_,_,_,_,_,_,_,_] _
  obtain rfl:=ord_end hO6_ rfl (by decide+kernel)
  refine Qac (Qas rfl (QaK ?_))
  refine Qa0 (Qan [0,1,2] rfl ?_)
  refine Qab (v:=int .i64 x5) rfl rfl rfl ?_
  refine Qab (v:=int .i64 (i64w (x5+1))) rfl rfl rfl ?_
  refine Qab (v:=int .i64 (i64w (x5+1))) rfl rfl rfl (Qac ?_)
  obtain rfl:=QsJ H
  have hs:St _ [] _:=St.take (Γ':=[]) hs
  exact ih1_ _ _ ⟨i64w (x5+1),Hx1_,rfl,hs⟩
 intro hb
 rw [if_neg (b_dec_f hb)] at H
 refine Qac (Qas rfl ?_)
 obtain rfl:=QsJ H
 subst Hx1_
 have hs:St _ [] _:=St.take (Γ':=[]) hs
 refine QbE rfl ?_
 exact ha1_ _ _ ⟨Hr1_,rfl,hs⟩
def Qbn.post (w0:World) (r:(Qak×Int)) (v:Value) (w:World):Prop:=v=tuple #[agg (Qaa r.1).toArray,int .i64 r.2]∧St w0 [] w
theorem Qbn.calls {N:Nat} {a1:Qaf} {a4:(List Int)} {v2:Value} {v5:Value} {w0:World} {r:(Qak×Int)} (hr3:RdRow (K.int .u16) w0 v2 a1.Qal) (hr1:RdRow (K.int .u16) w0 v5 a4) (H:Qbn.f N a1 a4=some r):
 Calls Tryz.prog 20 #[agg (([int .i8 a1.Qad,int .i8 a1.Qag,v2]:List Value)).toArray,v5] w0 fun e w=>∃ v,e= .returned v∧Qbn.post w0 r v w:=by
 unfold Qbn.f at H
 have hs:St w0 [] w0:=St.refl w0
 refine calls_of_g (n:=40) Tryz.func20 rfl rfl ?_
 show G _ _ _ _ [_,_,_,_,_,_,_,_,_,_,_,_,_,_,_,_,_,_,_,_,_,_,_,_,_,_,_,_,_,_,_,_,_,_,_,_,_,_,_,_,_,_] _
 refine Qaj (Qan [0,1,2] rfl ?_)
 refine Qbw hs rfl rfl (cs:=(([int .i8 a1.Qad,int .i8 a1.Qag,v2]:List Value))) rfl rfl ?_
 intro b6 w hs
 refine QbI hs rfl rfl (z:=(agg #[int .u16 0,bool false])) (cs:=(Qaa Qa9)) rfl (fun _=>rfl) rfl ?_
 intro b8 w hs
 show G _ _ _ _ [_,_,_,_,_,_,_,_,_,_,_,_,_,_,_,_,_,_,_,_,_,_,_,_,_,_,_,_,_,_,_,_,_,_,_,_,_,_,_,_,_,_] _
 refine Qab (v:=int .i64 0) rfl rfl rfl (Qac (Qaj ?_))
 refine QbG (Qaj (Qan [0,1,2,3] rfl ?_))
 refine QaF rfl rfl (es:=(([int .i8 a1.Qad,int .i8 a1.Qag,v2]:List Value))) rfl rfl (fun _=>rfl) (n:=3) (fun _=>rfl) rfl (cells_all (hs.cells 1 rfl)) ?_
 obtain ⟨r10,Hr10,H⟩:=bind_get H
 refine Qaz (args:=[agg (([int .i8 a1.Qad,int .i8 a1.Qag,v2]:List Value)).toArray]) rfl rfl (QaA rfl (callFunc_enter Tryz.func17 rfl rfl) rfl) (QaX.calls (a1:=(⟨a1.Qad,a1.Qag,a1.Qal⟩:Qaf)) (hs.rd hr3) Hr10) ?_
 rintro _ w ⟨rfl,hs2⟩
 have hs:St _ [_,_] _:=hs.call hs2
 cases r10 with
 |true=>
  rw [if_pos rfl] at H
  refine Qab (v:=bool false) rfl rfl rfl ?_
  refine Qab (v:=bool false) rfl rfl rfl ?_
  show G _ _ _ _ [_,_,_,_,_,_,_,_,_,_,_,_,_,_,_,_,_,_,_,_,_,_,_,_,_,_,_,_,_,_,_,_,_,_,_,_,_,_,_,_,_,_] _
  refine Qac (Qas rfl (Qaj (Qan [0,1,2,3] rfl ?_)))
  refine Qab (v:=v5) rfl rfl rfl ?_
  refine QbC (hs.rd hr1) rfl rfl rfl rfl rfl ?_
  refine QaI (B:=decide ((a4.length:Int)>1000)) rfl rfl rfl ?_ ?_
  ·
   intro hb
   rw [if_pos (b_dec_t hb)] at H
   show G _ _ _ _ [_,_,_,_,_,_,_,_,_,_,_,_,_,_,_,_,_,_,_,_,_,_,_,_,_,_,_,_,_,_,_,_,_,_,_,_,_,_,_,_,_,_] _
   refine Qab (v:=bool true) rfl rfl rfl (Qac (Qaq rfl (Qaj (Qan [0,1,2] rfl ?_))))
   refine Qab (v:=agg (Qaa (⟨0,false⟩:Qak)).toArray) rfl rfl (Qbt (cs:=(Qaa (⟨0,false⟩:Qak))) (segs:=[[int .u16 0],[bool false]]) rfl rfl (fun _=>rfl) ⟨rfl,(fun _=>rfl),rfl,(fun _=>rfl),trivial⟩ (by simp) (by first|rfl|(simp [ev,Qaa];done)|(simp [ev,Qaa];rfl))) ?_
   refine QaY (n:=2) hs (Qam.len _) rfl rfl (vs:=(Qaa (⟨0,false⟩:Qak))) rfl rfl rfl (fun _=>rfl) (Qam.len _) (Qam.one _) ?_
   intro w hs
   refine Qab (v:=int .i64 2) rfl rfl rfl ?_
   show G _ _ _ _ [_,_,_,_,_,_,_,_,_,_,_,_,_,_,_,_,_,_,_,_,_,_,_,_,_,_,_,_,_,_,_,_,_,_,_,_,_,_,_,_,_,_] _
   refine Qac ?_
   obtain rfl:=QsJ H
   refine QaB Tryz.func20 (v:=tuple #[agg (Qaa (⟨0,false⟩:Qak)).toArray,int .i64 2]) (resN (l:=Tryz.f20.results.toList) (vs:=[agg (Qaa (⟨0,false⟩:Qak)).toArray,int .i64 2]) rfl ⟨⟨_,rfl,(run_loadVar_agg (es:=(Qaa (⟨0,false⟩:Qak))) rfl (congrArg (Result.ok · _) (Qam.len _).symm) (cells_all (hs.cells 0 rfl)))⟩,rfl,trivial⟩ (by simp)) ?_
   have hs:St _ [] _:=St.take (Γ':=[_,_]) hs
   exact ⟨_,rfl,rfl,hs⟩
  intro hb
  rw [if_neg (b_dec_f hb)] at H
  refine Qab (v:=bool false) rfl rfl rfl ?_
  show G _ _ _ _ [_,_,_,_,_,_,_,_,_,_,_,_,_,_,_,_,_,_,_,_,_,_,_,_,_,_,_,_,_,_,_,_,_,_,_,_,_,_,_,_,_,_] _
  refine Qac (Qas rfl (QaK ?_))
  refine Qa0 (Qaj (Qan [0,1,2,3,4] rfl ?_))
  refine QaF rfl rfl (es:=(([int .i8 a1.Qad,int .i8 a1.Qag,v2]:List Value))) rfl rfl (fun _=>rfl) (n:=3) (fun _=>rfl) rfl (cells_all (hs.cells 1 rfl)) ?_
  obtain ⟨r11,Hr11,H⟩:=bind_get H
  refine Qaz (args:=[agg (([int .i8 a1.Qad,int .i8 a1.Qag,v2]:List Value)).toArray]) rfl rfl (QaA rfl (callFunc_enter Tryz.func44 rfl rfl) rfl) (QaZ.calls (a1:=(⟨a1.Qad,a1.Qag,a1.Qal⟩:Qaf)) (hs.rd hr3) Hr11) ?_
  rintro _ w ⟨rfl,hs2⟩
  have hs:St _ [_,_] _:=hs.call hs2
  show G _ _ _ _ [_,_,_,_,_,_,_,_,_,_,_,_,_,_,_,_,_,_,_,_,_,_,_,_,_,_,_,_,_,_,_,_,_,_,_,_,_,_,_,_,_,_] _
  refine Qab (v:=agg (Qaa (⟨r11,false⟩:Qak)).toArray) rfl rfl (Qbt (cs:=(Qaa (⟨r11,false⟩:Qak))) (segs:=[[int .u16 0],[bool false]]) rfl rfl (fun _=>rfl) ⟨rfl,(fun _=>rfl),rfl,(fun _=>rfl),trivial⟩ (by simp only [List.map_cons,List.map_nil,List.forall_mem_cons,List.not_mem_nil,false_implies,implies_true,and_true];exact ⟨_,rfl,rfl⟩) (by first|rfl|(simp [ev,Qaa];done)|(simp [ev,Qaa];rfl))) ?_
  show G _ _ _ _ [_,_,_,_,_,_,_,_,_,_,_,_,_,_,_,_,_,_,_,_,_,_,_,_,_,_,_,_,_,_,_,_,_,_,_,_,_,_,_,_,_,_] _
  refine QbI hs rfl rfl (z:=(agg #[int .u16 0,bool false])) (cs:=(Qaa Qa9)) rfl (fun _=>rfl) rfl ?_
  intro b12 w hs
  refine QaY (n:=2) hs (Qam.len _) rfl rfl (vs:=(Qaa (⟨r11,false⟩:Qak))) rfl rfl rfl (fun _=>rfl) (Qam.len _) (Qam.one _) ?_
  intro w hs
  refine Qac (Qaj (Qaj (Qan [0,1,2] rfl ?_)))
  refine Qab (v:=v5) rfl rfl rfl ?_
  refine QbC (hs.rd hr1) rfl rfl rfl rfl rfl ?_
  refine Qab (v:=int .i64 0) rfl rfl rfl (Qac ?_)
  obtain ⟨o1_,Ho,Hr1_⟩:=bind_get H
  refine QaR (J:=fun t w=>∃ x23:Qak,Qbn.a0 N x23=some r∧Fr t (fun O=>([O 0,O 1,O 2,O 3,pointer (some ⟨b8,0,none⟩),O 5,pointer (some ⟨b12,0,none⟩),O 7,O 8,O 9,O 10,O 11,O 12,O 13,O 14,O 15,O 16,O 17,O 18,O 19,O 20,O 21,O 22,O 23,O 24,O 25,O 26,O 27,O 28,O 29,O 30,O 31,O 32,O 33,O 34,O 35,O 36,O 37,O 38,O 39,O 40,O 41]:List Value))∧St w0 [Cells b8 (Qaa Qa9) 48,Cells b12 (Qaa x23) 48] w) ?_ ?_
  ·
   rintro t w ⟨x23,H,hf,hs⟩
   obtain ⟨O,rfl⟩:=hf.open
   show G _ _ _ _ [_,_,_,_,_,_,_,_,_,_,_,_,_,_,_,_,_,_,_,_,_,_,_,_,_,_,_,_,_,_,_,_,_,_,_,_,_,_,_,_,_,_] _
   unfold Qbn.a0 at H
   refine Qaj (Qan [0,1,2] rfl ?_)
   refine QaF rfl rfl (es:=(Qaa x23)) rfl rfl (fun _=>rfl) (n:=2) (fun _=>rfl) (Qam.len _) (cells_all (hs.cells 1 rfl)) ?_
   refine QaY (n:=2) hs (Qam.len _) rfl rfl (vs:=(Qaa x23)) rfl rfl rfl (fun _=>rfl) (Qam.len _) (Qam.one _) ?_
   intro w hs
   refine Qab (v:=int .i64 0) rfl rfl rfl (Qac ?_)
   obtain rfl:=QsJ H
   refine QaB Tryz.func20 (v:=tuple #[agg (Qaa x23).toArray,int .i64 0]) (resN (l:=Tryz.f20.results.toList) (vs:=[agg (Qaa x23).toArray,int .i64 0]) rfl ⟨⟨_,rfl,(run_loadVar_agg (es:=(Qaa x23)) rfl (congrArg (Result.ok · _) (Qam.len _).symm) (cells_all (hs.cells 0 rfl)))⟩,rfl,trivial⟩ (by simp)) ?_
   have hs:St _ [] _:=St.take (Γ':=[_,_]) hs
   exact ⟨_,rfl,rfl,hs⟩
  intro ha1_
  have hs:=hs.pull 0 rfl
  have hs:=hs.pull 1 rfl
  have hs:=hs.pull 2 rfl
  have hs:St _ [_,_,_] _:=St.take (Γ':=[]) hs
  refine Qba (I:=fun n_ t w=>∃ x18:Qak,∃ x19:Int,rounds (fun s=>Qbn.b0 N a4 a1 s.1 s.2) n_ (x18,x19)=some o1_∧Fr t (fun O=>([O 0,O 1,pointer (some ⟨b6,0,none⟩),O 3,pointer (some ⟨b8,0,none⟩),O 5,pointer (some ⟨b12,0,none⟩),O 7,O 8,O 9,O 10,O 11,O 12,O 13,O 14,O 15,O 16,O 17,O 18,O 19,O 20,O 21,O 22,v5,int .i64 (a4.length:Int),int .i64 x19,O 26,O 27,O 28,O 29,O 30,O 31,O 32,O 33,O 34,O 35,O 36,O 37,O 38,O 39,O 40,O 41]:List Value))∧St w0 [Cells b6 (([int .i8 a1.Qad,int .i8 a1.Qag,v2]:List Value)) 27,Cells b8 (Qaa Qa9) 48,Cells b12 (Qaa x18) 48] w) N ⟨(⟨r11,false⟩:Qak),0,Ho,rfl,hs⟩ ?_ ?_
  ·
   rintro _ _ ⟨x18,x19,h,_⟩
   exact rounds_zero h
  intro n_ ih1_
  rintro t w ⟨x18,x19,Ho,hf,hs⟩
  obtain ⟨O,rfl⟩:=hf.open
  show G _ _ _ _ [_,_,_,_,_,_,_,_,_,_,_,_,_,_,_,_,_,_,_,_,_,_,_,_,_,_,_,_,_,_,_,_,_,_,_,_,_,_,_,_,_,_] _
  obtain ⟨x3_,H,Hx1_⟩:=rounds_succ Ho
  have H:Qbn.b0 N a4 a1 x18 x19=some x3_:=H
  unfold Qbn.b0 at H
  refine Qaj (Qan [0] rfl ?_)
  refine QaI (B:=decide (x19< (a4.length:Int))) rfl rfl rfl ?_ ?_
  ·
   intro hb
   rw [if_pos (b_dec_t hb)] at H
   refine Qac (Qaj (Qaq rfl (QaK (Qaj ?_))))
   refine QbG (Qaj (Qan [0,1,2] rfl ?_))
   obtain ⟨g2,H⟩:=ite_get H
   refine QbQ (fkI .u16) 0 (hs.rd hr1) rfl (fun _=>rfl) g2.1 g2.2 rfl rfl rfl rfl rfl ?_
   intro p20 hp20 lp20 op20
   refine Qaw rfl rfl (v:=int .u16 (rdL a4 x19 0)) rfl rfl (fun _=>rfl) hp20 ?_
   show G _ _ _ _ [_,_,_,_,_,_,_,_,_,_,_,_,_,_,_,_,_,_,_,_,_,_,_,_,_,_,_,_,_,_,_,_,_,_,_,_,_,_,_,_,_,_] _
   refine Qab (v:=int .u16 (rdL a4 x19 0)) rfl rfl rfl (Qac (Qaj (Qaj (Qan [0,1,2,3,4] rfl ?_))))
   refine QaF rfl rfl (es:=(([int .i8 a1.Qad,int .i8 a1.Qag,v2]:List Value))) rfl rfl (fun _=>rfl) (n:=3) (fun _=>rfl) rfl (cells_all (hs.cells 0 rfl)) ?_
   refine QaF rfl rfl (es:=(Qaa x18)) rfl rfl (fun _=>rfl) (n:=2) (fun _=>rfl) (Qam.len _) (cells_all (hs.cells 2 rfl)) ?_
   show G _ _ _ _ [_,_,_,_,_,_,_,_,_,_,_,_,_,_,_,_,_,_,_,_,_,_,_,_,_,_,_,_,_,_,_,_,_,_,_,_,_,_,_,_,_,_] _
   refine Qab (v:=int .u16 (rdL a4 x19 0)) rfl rfl rfl ?_
   obtain ⟨r21,Hr21,H⟩:=bind_get H
   refine Qaz (args:=[agg (([int .i8 a1.Qad,int .i8 a1.Qag,v2]:List Value)).toArray,agg (Qaa x18).toArray,int .u16 (rdL a4 x19 0)]) rfl rfl (QaA rfl (callFunc_enter Tryz.func55 rfl rfl) rfl) (Qbq.calls (a1:=(⟨a1.Qad,a1.Qag,a1.Qal⟩:Qaf)) (a4:=x18) (a5:=rdL a4 x19 0) (hs.rd hr3) Hr21) ?_
   rintro _ w ⟨rfl,hs2⟩
   have hs:St _ [_,_,_] _:=hs.call hs2
   refine Qab (v:=int .i64 r21) rfl rfl rfl (Qac (Qaj (Qan [0,1] rfl ?_)))
   refine Qab (v:=int .i64 r21) rfl rfl rfl ?_
   refine QaI (B:=r21 !=0) rfl rfl rfl ?_ ?_
   ·
    intro hb
    rw [if_neg (b_bne_t hb)] at H
    refine Qac (Qaq rfl (Qaj (Qan [0,1,2,3] rfl ?_)))
    refine Qab (v:=agg (Qaa (⟨0,false⟩:Qak)).toArray) rfl rfl (Qbt (cs:=(Qaa (⟨0,false⟩:Qak))) (segs:=[[int .u16 0],[bool false]]) rfl rfl (fun _=>rfl) ⟨rfl,(fun _=>rfl),rfl,(fun _=>rfl),trivial⟩ (by simp) (by first|rfl|(simp [ev,Qaa];done)|(simp [ev,Qaa];rfl))) ?_
    refine Qab (v:=int .i64 r21) rfl rfl rfl ?_
    have hs:St _ [_,_,_] _:=hs.pull 1 rfl
    refine QaY (n:=2) hs (Qam.len _) rfl rfl (vs:=(Qaa (⟨0,false⟩:Qak))) rfl rfl rfl (fun _=>rfl) (Qam.len _) (Qam.one _) ?_
    intro w hs
    refine Qab (v:=int .i64 r21) rfl rfl rfl ?_
    show G _ _ _ _ [_,_,_,_,_,_,_,_,_,_,_,_,_,_,_,_,_,_,_,_,_,_,_,_,_,_,_,_,_,_,_,_,_,_,_,_,_,_,_,_,_,_] _
    refine Qac ?_
    obtain rfl:=QsJ H
    subst Hx1_
    have H:=QsJ Hr1_
    subst H
    refine QaB Tryz.func20 (v:=tuple #[agg (Qaa (⟨0,false⟩:Qak)).toArray,int .i64 r21]) (resN (l:=Tryz.f20.results.toList) (vs:=[agg (Qaa (⟨0,false⟩:Qak)).toArray,int .i64 r21]) rfl ⟨⟨_,rfl,(run_loadVar_agg (es:=(Qaa (⟨0,false⟩:Qak))) rfl (congrArg (Result.ok · _) (Qam.len _).symm) (cells_all (hs.cells 0 rfl)))⟩,rfl,trivial⟩ (by simp)) ?_
    have hs:St _ [] _:=St.take (Γ':=[_,_,_]) hs
    exact ⟨_,rfl,rfl,hs⟩
   intro hb
   rw [if_pos (b_bne_f hb)] at H
   show G _ _ _ _ [_,_,_,_,_,_,_,_,_,_,_,_,_,_,_,_,_,_,_,_,_,_,_,_,_,_,_,_,_,_,_,_,_,_,_,_,_,_,_,_,_,_] _
   refine Qac (Qas rfl (QaK (Qan [0,1,2,3] rfl ?_)))
   refine QaF rfl rfl (es:=(Qaa x18)) rfl rfl (fun _=>rfl) (n:=2) (fun _=>rfl) (Qam.len _) (cells_all (hs.cells 2 rfl)) ?_
   refine Qab (v:=int .u16 (rdL a4 x19 0)) rfl rfl rfl ?_
   obtain ⟨r22,Hr22,H⟩:=bind_get H
   refine Qaz (args:=[agg (Qaa x18).toArray,int .u16 (rdL a4 x19 0)]) rfl rfl (QaA rfl (callFunc_enter Tryz.func46 rfl rfl) rfl) (Qbm.calls (a1:=x18) (a2:=rdL a4 x19 0) Hr22) ?_
   rintro _ w ⟨rfl,hs2⟩
   have hs:St _ [_,_,_] _:=hs.call hs2
   have hs:St _ [_,_,_] _:=hs.pull 2 rfl
   refine QaY (n:=2) hs (Qam.len _) rfl rfl (vs:=(Qaa r22)) rfl rfl rfl (fun _=>rfl) (Qam.len _) (Qam.one _) ?_
   intro w hs
   refine Qac ?_
   refine Qa0 (Qan [0,1] rfl ?_)
   refine Qab (v:=int .i64 (i64w (x19+1))) rfl rfl rfl ?_
   show G _ _ _ _ [_,_,_,_,_,_,_,_,_,_,_,_,_,_,_,_,_,_,_,_,_,_,_,_,_,_,_,_,_,_,_,_,_,_,_,_,_,_,_,_,_,_] _
   refine Qab (v:=int .i64 (i64w (x19+1))) rfl rfl rfl (Qac ?_)
   obtain rfl:=QsJ H
   have hs:=hs.pull 0 rfl
   have hs:=hs.pull 2 rfl
   have hs:=hs.pull 2 rfl
   have hs:St _ [_,_,_] _:=St.take (Γ':=[]) hs
   exact ih1_ _ _ ⟨r22,i64w (x19+1),Hx1_,rfl,hs⟩
  intro hb
  rw [if_neg (b_dec_f hb)] at H
  show G _ _ _ _ [_,_,_,_,_,_,_,_,_,_,_,_,_,_,_,_,_,_,_,_,_,_,_,_,_,_,_,_,_,_,_,_,_,_,_,_,_,_,_,_,_,_] _
  refine Qac (Qaj (Qas rfl ?_))
  obtain rfl:=QsJ H
  subst Hx1_
  have hs:=hs.pull 2 rfl
  have hs:=hs.pull 2 rfl
  have hs:St _ [_,_] _:=St.take (Γ':=[_]) hs
  refine QbE rfl ?_
  exact ha1_ _ _ ⟨x18,Hr1_,rfl,hs⟩
 |false=>
  rw [if_neg Bool.false_ne_true] at H
  show G _ _ _ _ [_,_,_,_,_,_,_,_,_,_,_,_,_,_,_,_,_,_,_,_,_,_,_,_,_,_,_,_,_,_,_,_,_,_,_,_,_,_,_,_,_,_] _
  refine Qab (v:=bool true) rfl rfl rfl ?_
  refine Qab (v:=bool true) rfl rfl rfl (Qac (Qaq rfl (Qaj (Qan [0,1,2] rfl ?_))))
  refine Qab (v:=agg (Qaa (⟨0,false⟩:Qak)).toArray) rfl rfl (Qbt (cs:=(Qaa (⟨0,false⟩:Qak))) (segs:=[[int .u16 0],[bool false]]) rfl rfl (fun _=>rfl) ⟨rfl,(fun _=>rfl),rfl,(fun _=>rfl),trivial⟩ (by simp) (by first|rfl|(simp [ev,Qaa];done)|(simp [ev,Qaa];rfl))) ?_
  show G _ _ _ _ [_,_,_,_,_,_,_,_,_,_,_,_,_,_,_,_,_,_,_,_,_,_,_,_,_,_,_,_,_,_,_,_,_,_,_,_,_,_,_,_,_,_] _
  refine QaY (n:=2) hs (Qam.len _) rfl rfl (vs:=(Qaa (⟨0,false⟩:Qak))) rfl rfl rfl (fun _=>rfl) (Qam.len _) (Qam.one _) ?_
  intro w hs
  refine Qab (v:=int .i64 1) rfl rfl rfl (Qac ?_)
  obtain rfl:=QsJ H
  refine QaB Tryz.func20 (v:=tuple #[agg (Qaa (⟨0,false⟩:Qak)).toArray,int .i64 1]) (resN (l:=Tryz.f20.results.toList) (vs:=[agg (Qaa (⟨0,false⟩:Qak)).toArray,int .i64 1]) rfl ⟨⟨_,rfl,(run_loadVar_agg (es:=(Qaa (⟨0,false⟩:Qak))) rfl (congrArg (Result.ok · _) (Qam.len _).symm) (cells_all (hs.cells 0 rfl)))⟩,rfl,trivial⟩ (by simp)) ?_
  have hs:St _ [] _:=St.take (Γ':=[_,_]) hs
  exact ⟨_,rfl,rfl,hs⟩
def QbK.post (w0:World) (r:Bool) (v:Value) (w:World):Prop:=v=bool r∧St w0 [] w
theorem QbK.calls {N:Nat} {a1:Qaf} {a4:Qak} {v2:Value} {w0:World} {r:Bool} (hr3:RdRow (K.int .u16) w0 v2 a1.Qal) (H:QbK.f N a1 a4=some r):
 Calls Tryz.prog 25 #[agg (([int .i8 a1.Qad,int .i8 a1.Qag,v2]:List Value)).toArray,agg (Qaa a4).toArray] w0 fun e w=>∃ v,e= .returned v∧QbK.post w0 r v w:=by
 unfold QbK.f at H
 have hs:St w0 [] w0:=St.refl w0
 refine calls_of_g (n:=10) Tryz.func25 rfl rfl ?_
 show G _ _ _ _ [_,_,_,_,_,_,_,_,_,_,_,_] _
 refine Qaj (Qan [0,1,2] rfl ?_)
 refine Qbw hs rfl rfl (cs:=(([int .i8 a1.Qad,int .i8 a1.Qag,v2]:List Value))) rfl rfl ?_
 intro b5 w hs
 show G _ _ _ _ [_,_,_,_,_,_,_,_,_,_,_,_] _
 refine Qbw hs rfl rfl (cs:=(Qaa a4)) rfl rfl ?_
 intro b7 w hs
 refine Qab (v:=bool false) rfl rfl rfl (Qac (Qaj (Qan [0,1,2,3,4,5,6,7] rfl ?_)))
 refine QaF rfl rfl (es:=(([int .i8 a1.Qad,int .i8 a1.Qag,v2]:List Value))) rfl rfl (fun _=>rfl) (n:=3) (fun _=>rfl) rfl (cells_all (hs.cells 1 rfl)) ?_
 show G _ _ _ _ [_,_,_,_,_,_,_,_,_,_,_,_] _
 obtain ⟨r9,Hr9,H⟩:=bind_get H
 refine Qaz (args:=[agg (([int .i8 a1.Qad,int .i8 a1.Qag,v2]:List Value)).toArray]) rfl rfl (QaA rfl (callFunc_enter Tryz.func17 rfl rfl) rfl) (QaX.calls (a1:=(⟨a1.Qad,a1.Qag,a1.Qal⟩:Qaf)) (hs.rd hr3) Hr9) ?_
 rintro _ w ⟨rfl,hs2⟩
 have hs:St _ [_,_] _:=hs.call hs2
 cases r9 with
 |true=>
  rw [if_pos rfl] at H
  refine Qab (v:=bool true) rfl rfl rfl ?_
  show G _ _ _ _ [_,_,_,_,_,_,_,_,_,_,_,_] _
  refine QaF rfl rfl (es:=(([int .i8 a1.Qad,int .i8 a1.Qag,v2]:List Value))) rfl rfl (fun _=>rfl) (n:=3) (fun _=>rfl) rfl (cells_all (hs.cells 1 rfl)) ?_
  refine QaF rfl rfl (es:=(Qaa a4)) rfl rfl (fun _=>rfl) (n:=2) (fun _=>rfl) (Qam.len _) (cells_all (hs.cells 0 rfl)) ?_
  obtain ⟨r10,Hr10,H⟩:=bind_get H
  refine Qaz (args:=[agg (([int .i8 a1.Qad,int .i8 a1.Qag,v2]:List Value)).toArray,agg (Qaa a4).toArray]) rfl rfl (QaA rfl (callFunc_enter Tryz.func60 rfl rfl) rfl) (Qbx.calls (a1:=(⟨a1.Qad,a1.Qag,a1.Qal⟩:Qaf)) (a4:=a4) (hs.rd hr3) Hr10) ?_
  rintro _ w ⟨rfl,hs2⟩
  have hs:St _ [_,_] _:=hs.call hs2
  show G _ _ _ _ [_,_,_,_,_,_,_,_,_,_,_,_] _
  refine Qab (v:=bool r10) rfl rfl rfl ?_
  refine Qab (v:=bool r10) rfl rfl rfl (Qac ?_)
  obtain rfl:=QsJ H
  refine QaB Tryz.func25 (v:=bool r10) (res1 rfl rfl) ?_
  have hs:St _ [] _:=St.take (Γ':=[_,_]) hs
  exact ⟨_,rfl,rfl,hs⟩
 |false=>
  rw [if_neg Bool.false_ne_true] at H
  refine Qab (v:=bool false) rfl rfl rfl (Qae rfl rfl ?_)
  show G _ _ _ _ [_,_,_,_,_,_,_,_,_,_,_,_] _
  refine Qae rfl rfl (Qae rfl rfl ?_)
  refine Qab (v:=bool false) rfl rfl rfl ?_
  show G _ _ _ _ [_,_,_,_,_,_,_,_,_,_,_,_] _
  refine Qab (v:=bool false) rfl rfl rfl (Qac ?_)
  obtain rfl:=QsJ H
  refine QaB Tryz.func25 (v:=bool false) (res1 rfl rfl) ?_
  have hs:St _ [] _:=St.take (Γ':=[_,_]) hs
  exact ⟨_,rfl,rfl,hs⟩
def Qb1.post (w0:World) (r:((List Int)×Int)) (v:Value) (w:World):Prop:=∃ u1:Value,v=tuple #[u1,int .i64 r.2]∧St w0 [Row 46 (K.int .u16) u1 r.1] w
theorem Qb1.calls {N:Nat} {a1:Qaf} {a4:Qak} {v2:Value} {w0:World} {r:((List Int)×Int)} (hr3:RdRow (K.int .u16) w0 v2 a1.Qal) (H:Qb1.f N a1 a4=some r):
 Calls Tryz.prog 21 #[agg (([int .i8 a1.Qad,int .i8 a1.Qag,v2]:List Value)).toArray,agg (Qaa a4).toArray] w0 fun e w=>∃ v,e= .returned v∧Qb1.post w0 r v w:=by
 unfold Qb1.f at H
 have hs:St w0 [] w0:=St.refl w0
 refine calls_of_g (n:=11) Tryz.func21 rfl rfl ?_
 show G _ _ _ _ [_,_,_,_,_,_,_,_,_,_,_,_,_] _
 refine Qaj (Qan [0,1,2,3] rfl ?_)
 refine Qbw hs rfl rfl (cs:=(([int .i8 a1.Qad,int .i8 a1.Qag,v2]:List Value))) rfl rfl ?_
 intro b5 w hs
 refine Qbw hs rfl rfl (cs:=(Qaa a4)) rfl rfl ?_
 intro b7 w hs
 refine Qab (v:=slice none 0 0) rfl rfl rfl ?_
 show G _ _ _ _ [_,_,_,_,_,_,_,_,_,_,_,_,_] _
 refine Qab (v:=int .i64 0) rfl rfl rfl (Qac (Qaj (Qaj (Qan [0,1,2,3] rfl ?_))))
 refine QaF rfl rfl (es:=(([int .i8 a1.Qad,int .i8 a1.Qag,v2]:List Value))) rfl rfl (fun _=>rfl) (n:=3) (fun _=>rfl) rfl (cells_all (hs.cells 1 rfl)) ?_
 refine QaF rfl rfl (es:=(Qaa a4)) rfl rfl (fun _=>rfl) (n:=2) (fun _=>rfl) (Qam.len _) (cells_all (hs.cells 0 rfl)) ?_
 show G _ _ _ _ [_,_,_,_,_,_,_,_,_,_,_,_,_] _
 obtain ⟨r9,Hr9,H⟩:=bind_get H
 refine Qaz (args:=[agg (([int .i8 a1.Qad,int .i8 a1.Qag,v2]:List Value)).toArray,agg (Qaa a4).toArray]) rfl rfl (QaA rfl (callFunc_enter Tryz.func25 rfl rfl) rfl) (QbK.calls (a1:=(⟨a1.Qad,a1.Qag,a1.Qal⟩:Qaf)) (a4:=a4) (hs.rd hr3) Hr9) ?_
 rintro _ w ⟨rfl,hs2⟩
 have hs:St _ [_,_] _:=hs.call hs2
 cases r9 with
 |true=>
  rw [if_pos rfl] at H
  refine Qab (v:=bool false) rfl rfl rfl (Qac (Qas rfl (QaK (Qaj (Qan [0,1,2,3,4] rfl ?_)))))
  refine QaF rfl rfl (es:=(([int .i8 a1.Qad,int .i8 a1.Qag,v2]:List Value))) rfl rfl (fun _=>rfl) (n:=3) (fun _=>rfl) rfl (cells_all (hs.cells 1 rfl)) ?_
  show G _ _ _ _ [_,_,_,_,_,_,_,_,_,_,_,_,_] _
  refine QaF rfl rfl (es:=(Qaa a4)) rfl rfl (fun _=>rfl) (n:=2) (fun _=>rfl) (Qam.len _) (cells_all (hs.cells 0 rfl)) ?_
  obtain ⟨r10,Hr10,H⟩:=bind_get H
  refine Qaz (args:=[agg (([int .i8 a1.Qad,int .i8 a1.Qag,v2]:List Value)).toArray,agg (Qaa a4).toArray]) rfl rfl (QaA rfl (callFunc_enter Tryz.func45 rfl rfl) rfl) (QaN.calls (a1:=(⟨a1.Qad,a1.Qag,a1.Qal⟩:Qaf)) (a4:=a4) (hs.rd hr3) Hr10) ?_
  intro v11 w hs2
  have hs:St _ [_,_,_] _:=hs.call hs2
  refine Qab (v:=v11) rfl rfl rfl ?_
  show G _ _ _ _ [_,_,_,_,_,_,_,_,_,_,_,_,_] _
  refine Qab (v:=int .i64 0) rfl rfl rfl (Qac ?_)
  obtain rfl:=QsJ H
  refine QaB Tryz.func21 (v:=tuple #[v11,int .i64 0]) (resN (l:=Tryz.f21.results.toList) (vs:=[v11,int .i64 0]) rfl ⟨rfl,rfl,trivial⟩ (by simp)) ?_
  have hs:=hs.pull 0 rfl
  have hs:St _ [_] _:=St.take (Γ':=[_,_]) hs
  exact ⟨_,rfl,v11,rfl,hs⟩
 |false=>
  rw [if_neg Bool.false_ne_true] at H
  refine Qab (v:=bool true) rfl rfl rfl (Qac (Qaq rfl (Qaj (Qan [0,1] rfl ?_))))
  refine Qab (v:=slice none 0 0) rfl rfl rfl ?_
  show G _ _ _ _ [_,_,_,_,_,_,_,_,_,_,_,_,_] _
  refine Qab (v:=int .i64 1) rfl rfl rfl (Qac ?_)
  obtain rfl:=QsJ H
  refine QaB Tryz.func21 (v:=tuple #[slice none 0 0,int .i64 1]) (resN (l:=Tryz.f21.results.toList) (vs:=[slice none 0 0,int .i64 1]) rfl ⟨rfl,rfl,trivial⟩ (by simp)) ?_
  have hs:=hs.nil 46 (K.int .u16)
  have hs:=hs.pull 0 rfl
  have hs:St _ [_] _:=St.take (Γ':=[_,_]) hs
  exact ⟨_,rfl,(slice none 0 0),rfl,hs⟩
def Qb0.post (w0:World) (r:(Qak×Int)) (v:Value) (w:World):Prop:=v=tuple #[agg (Qaa r.1).toArray,int .i64 r.2]∧St w0 [] w
theorem Qb0.calls {N:Nat} {a1:Qaf} {a4:Qak} {a5:Int} {v2:Value} {w0:World} {r:(Qak×Int)} (hr3:RdRow (K.int .u16) w0 v2 a1.Qal) (H:Qb0.f N a1 a4 a5=some r):
 Calls Tryz.prog 22 #[agg (([int .i8 a1.Qad,int .i8 a1.Qag,v2]:List Value)).toArray,agg (Qaa a4).toArray,int .u16 a5] w0 fun e w=>∃ v,e= .returned v∧Qb0.post w0 r v w:=by
 unfold Qb0.f at H
 have hs:St w0 [] w0:=St.refl w0
 refine calls_of_g (n:=22) Tryz.func22 rfl rfl ?_
 show G _ _ _ _ [_,_,_,_,_,_,_,_,_,_,_,_,_,_,_,_,_,_,_,_,_,_,_,_,_] _
 refine Qaj (Qan [0,1,2,3] rfl ?_)
 refine Qbw hs rfl rfl (cs:=(([int .i8 a1.Qad,int .i8 a1.Qag,v2]:List Value))) rfl rfl ?_
 intro b6 w hs
 refine Qbw hs rfl rfl (cs:=(Qaa a4)) rfl rfl ?_
 intro b8 w hs
 show G _ _ _ _ [_,_,_,_,_,_,_,_,_,_,_,_,_,_,_,_,_,_,_,_,_,_,_,_,_] _
 refine QbI hs rfl rfl (z:=(agg #[int .u16 0,bool false])) (cs:=(Qaa Qa9)) rfl (fun _=>rfl) rfl ?_
 intro b10 w hs
 refine Qab (v:=int .i64 0) rfl rfl rfl (Qac (Qaj (Qaj (Qan [0,1,2,3] rfl ?_))))
 refine QaF rfl rfl (es:=(([int .i8 a1.Qad,int .i8 a1.Qag,v2]:List Value))) rfl rfl (fun _=>rfl) (n:=3) (fun _=>rfl) rfl (cells_all (hs.cells 2 rfl)) ?_
 show G _ _ _ _ [_,_,_,_,_,_,_,_,_,_,_,_,_,_,_,_,_,_,_,_,_,_,_,_,_] _
 refine QaF rfl rfl (es:=(Qaa a4)) rfl rfl (fun _=>rfl) (n:=2) (fun _=>rfl) (Qam.len _) (cells_all (hs.cells 1 rfl)) ?_
 obtain ⟨r12,Hr12,H⟩:=bind_get H
 refine Qaz (args:=[agg (([int .i8 a1.Qad,int .i8 a1.Qag,v2]:List Value)).toArray,agg (Qaa a4).toArray]) rfl rfl (QaA rfl (callFunc_enter Tryz.func25 rfl rfl) rfl) (QbK.calls (a1:=(⟨a1.Qad,a1.Qag,a1.Qal⟩:Qaf)) (a4:=a4) (hs.rd hr3) Hr12) ?_
 rintro _ w ⟨rfl,hs2⟩
 have hs:St _ [_,_,_] _:=hs.call hs2
 cases r12 with
 |true=>
  rw [if_pos rfl] at H
  refine Qab (v:=bool false) rfl rfl rfl ?_
  show G _ _ _ _ [_,_,_,_,_,_,_,_,_,_,_,_,_,_,_,_,_,_,_,_,_,_,_,_,_] _
  refine Qac (Qas rfl (QaK (Qaj (Qaj (Qan [0,1,2,3,4] rfl ?_)))))
  refine QaF rfl rfl (es:=(([int .i8 a1.Qad,int .i8 a1.Qag,v2]:List Value))) rfl rfl (fun _=>rfl) (n:=3) (fun _=>rfl) rfl (cells_all (hs.cells 2 rfl)) ?_
  refine QaF rfl rfl (es:=(Qaa a4)) rfl rfl (fun _=>rfl) (n:=2) (fun _=>rfl) (Qam.len _) (cells_all (hs.cells 1 rfl)) ?_
  refine Qab (v:=int .u16 a5) rfl rfl rfl ?_
  show G _ _ _ _ [_,_,_,_,_,_,_,_,_,_,_,_,_,_,_,_,_,_,_,_,_,_,_,_,_] _
  obtain ⟨r13,Hr13,H⟩:=bind_get H
  refine Qaz (args:=[agg (([int .i8 a1.Qad,int .i8 a1.Qag,v2]:List Value)).toArray,agg (Qaa a4).toArray,int .u16 a5]) rfl rfl (QaA rfl (callFunc_enter Tryz.func55 rfl rfl) rfl) (Qbq.calls (a1:=(⟨a1.Qad,a1.Qag,a1.Qal⟩:Qaf)) (a4:=a4) (a5:=a5) (hs.rd hr3) Hr13) ?_
  rintro _ w ⟨rfl,hs2⟩
  have hs:St _ [_,_,_] _:=hs.call hs2
  refine Qab (v:=int .i64 r13) rfl rfl rfl (Qac (Qaj (Qan [0,1] rfl ?_)))
  refine Qab (v:=int .i64 r13) rfl rfl rfl ?_
  show G _ _ _ _ [_,_,_,_,_,_,_,_,_,_,_,_,_,_,_,_,_,_,_,_,_,_,_,_,_] _
  refine QaI (B:=r13 !=0) rfl rfl rfl ?_ ?_
  ·
   intro hb
   rw [if_neg (b_bne_t hb)] at H
   refine Qac (Qaq rfl (Qaj (Qan [0,1,2,3] rfl ?_)))
   refine Qab (v:=agg (Qaa (⟨0,false⟩:Qak)).toArray) rfl rfl (Qbt (cs:=(Qaa (⟨0,false⟩:Qak))) (segs:=[[int .u16 0],[bool false]]) rfl rfl (fun _=>rfl) ⟨rfl,(fun _=>rfl),rfl,(fun _=>rfl),trivial⟩ (by simp) (by first|rfl|(simp [ev,Qaa];done)|(simp [ev,Qaa];rfl))) ?_
   refine Qab (v:=int .i64 r13) rfl rfl rfl ?_
   show G _ _ _ _ [_,_,_,_,_,_,_,_,_,_,_,_,_,_,_,_,_,_,_,_,_,_,_,_,_] _
   refine QaY (n:=2) hs (Qam.len _) rfl rfl (vs:=(Qaa (⟨0,false⟩:Qak))) rfl rfl rfl (fun _=>rfl) (Qam.len _) (Qam.one _) ?_
   intro w hs
   refine Qab (v:=int .i64 r13) rfl rfl rfl (Qac ?_)
   obtain rfl:=QsJ H
   refine QaB Tryz.func22 (v:=tuple #[agg (Qaa (⟨0,false⟩:Qak)).toArray,int .i64 r13]) (resN (l:=Tryz.f22.results.toList) (vs:=[agg (Qaa (⟨0,false⟩:Qak)).toArray,int .i64 r13]) rfl ⟨⟨_,rfl,(run_loadVar_agg (es:=(Qaa (⟨0,false⟩:Qak))) rfl (congrArg (Result.ok · _) (Qam.len _).symm) (cells_all (hs.cells 0 rfl)))⟩,rfl,trivial⟩ (by simp)) ?_
   have hs:St _ [] _:=St.take (Γ':=[_,_,_]) hs
   exact ⟨_,rfl,rfl,hs⟩
  intro hb
  rw [if_pos (b_bne_f hb)] at H
  refine Qac (Qas rfl (QaK (Qaj (Qan [0,1,2,3,4] rfl ?_))))
  refine QaF rfl rfl (es:=(Qaa a4)) rfl rfl (fun _=>rfl) (n:=2) (fun _=>rfl) (Qam.len _) (cells_all (hs.cells 1 rfl)) ?_
  refine Qab (v:=int .u16 a5) rfl rfl rfl ?_
  show G _ _ _ _ [_,_,_,_,_,_,_,_,_,_,_,_,_,_,_,_,_,_,_,_,_,_,_,_,_] _
  obtain ⟨r14,Hr14,H⟩:=bind_get H
  refine Qaz (args:=[agg (Qaa a4).toArray,int .u16 a5]) rfl rfl (QaA rfl (callFunc_enter Tryz.func46 rfl rfl) rfl) (Qbm.calls (a1:=a4) (a2:=a5) Hr14) ?_
  rintro _ w ⟨rfl,hs2⟩
  have hs:St _ [_,_,_] _:=hs.call hs2
  refine QaY (n:=2) hs (Qam.len _) rfl rfl (vs:=(Qaa r14)) rfl rfl rfl (fun _=>rfl) (Qam.len _) (Qam.one _) ?_
  intro w hs
  refine Qab (v:=int .i64 0) rfl rfl rfl (Qac ?_)
  obtain rfl:=QsJ H
  refine QaB Tryz.func22 (v:=tuple #[agg (Qaa r14).toArray,int .i64 0]) (resN (l:=Tryz.f22.results.toList) (vs:=[agg (Qaa r14).toArray,int .i64 0]) rfl ⟨⟨_,rfl,(run_loadVar_agg (es:=(Qaa r14)) rfl (congrArg (Result.ok · _) (Qam.len _).symm) (cells_all (hs.cells 0 rfl)))⟩,rfl,trivial⟩ (by simp)) ?_
  have hs:St _ [] _:=St.take (Γ':=[_,_,_]) hs
  exact ⟨_,rfl,rfl,hs⟩
 |false=>
  rw [if_neg Bool.false_ne_true] at H
  refine Qab (v:=bool true) rfl rfl rfl ?_
  show G _ _ _ _ [_,_,_,_,_,_,_,_,_,_,_,_,_,_,_,_,_,_,_,_,_,_,_,_,_] _
  refine Qac (Qaq rfl (Qaj (Qan [0,1,2] rfl ?_)))
  refine Qab (v:=agg (Qaa (⟨0,false⟩:Qak)).toArray) rfl rfl (Qbt (cs:=(Qaa (⟨0,false⟩:Qak))) (segs:=[[int .u16 0],[bool false]]) rfl rfl (fun _=>rfl) ⟨rfl,(fun _=>rfl),rfl,(fun _=>rfl),trivial⟩ (by simp) (by first|rfl|(simp [ev,Qaa];done)|(simp [ev,Qaa];rfl))) ?_
  refine QaY (n:=2) hs (Qam.len _) rfl rfl (vs:=(Qaa (⟨0,false⟩:Qak))) rfl rfl rfl (fun _=>rfl) (Qam.len _) (Qam.one _) ?_
  intro w hs
  refine Qab (v:=int .i64 1) rfl rfl rfl (Qac ?_)
  obtain rfl:=QsJ H
  refine QaB Tryz.func22 (v:=tuple #[agg (Qaa (⟨0,false⟩:Qak)).toArray,int .i64 1]) (resN (l:=Tryz.f22.results.toList) (vs:=[agg (Qaa (⟨0,false⟩:Qak)).toArray,int .i64 1]) rfl ⟨⟨_,rfl,(run_loadVar_agg (es:=(Qaa (⟨0,false⟩:Qak))) rfl (congrArg (Result.ok · _) (Qam.len _).symm) (cells_all (hs.cells 0 rfl)))⟩,rfl,trivial⟩ (by simp)) ?_
  have hs:St _ [] _:=St.take (Γ':=[_,_,_]) hs
  exact ⟨_,rfl,rfl,hs⟩
def Qb3.post (w0:World) (r:(Qak×Int)) (v:Value) (w:World):Prop:=v=tuple #[agg (Qaa r.1).toArray,int .i64 r.2]∧St w0 [] w
theorem Qb3.calls {N:Nat} {a1:Qaf} {a4:Qak} {a5:Int} {v2:Value} {w0:World} {r:(Qak×Int)} (hr3:RdRow (K.int .u16) w0 v2 a1.Qal) (H:Qb3.f N a1 a4 a5=some r):
 Calls Tryz.prog 23 #[agg (([int .i8 a1.Qad,int .i8 a1.Qag,v2]:List Value)).toArray,agg (Qaa a4).toArray,int .u16 a5] w0 fun e w=>∃ v,e= .returned v∧Qb3.post w0 r v w:=by
 unfold Qb3.f at H
 have hs:St w0 [] w0:=St.refl w0
 refine calls_of_g (n:=18) Tryz.func23 rfl rfl ?_
 show G _ _ _ _ [_,_,_,_,_,_,_,_,_,_,_,_,_,_,_,_,_,_,_,_,_] _
 refine Qaj (Qan [0,1,2,3] rfl ?_)
 refine Qbw hs rfl rfl (cs:=(([int .i8 a1.Qad,int .i8 a1.Qag,v2]:List Value))) rfl rfl ?_
 intro b6 w hs
 refine Qbw hs rfl rfl (cs:=(Qaa a4)) rfl rfl ?_
 intro b8 w hs
 show G _ _ _ _ [_,_,_,_,_,_,_,_,_,_,_,_,_,_,_,_,_,_,_,_,_] _
 refine QbI hs rfl rfl (z:=(agg #[int .u16 0,bool false])) (cs:=(Qaa Qa9)) rfl (fun _=>rfl) rfl ?_
 intro b10 w hs
 refine Qab (v:=int .i64 0) rfl rfl rfl (Qac (Qaj (Qaj (Qan [0,1,2,3,4,5,6] rfl ?_))))
 obtain ⟨r12,Hr12,H⟩:=bind_get H
 refine Qaz (args:=[pointer (some ⟨b6,0,none⟩)]) rfl rfl (QaA rfl (callFunc_enter Tryz.func36 rfl rfl) rfl) (Qbr.calls (a1:=(⟨a1.Qad,a1.Qag,a1.Qal⟩:Qaf)) (hs.rd hr3) (hs.cells 2 rfl) Hr12) ?_
 rintro _ w ⟨rfl,hs2⟩
 have hs:St _ [_,_,_] _:=hs.call hs2
 cases r12 with
 |true=>
  rw [if_pos rfl] at H
  refine Qab (v:=bool false) rfl rfl rfl ?_
  show G _ _ _ _ [_,_,_,_,_,_,_,_,_,_,_,_,_,_,_,_,_,_,_,_,_] _
  refine Qab (v:=bool false) rfl rfl rfl ?_
  refine QaF rfl rfl (es:=(Qaa a4)) rfl rfl (fun _=>rfl) (n:=2) (fun _=>rfl) (Qam.len _) (cells_all (hs.cells 1 rfl)) ?_
  obtain ⟨r13,Hr13,H⟩:=bind_get H
  refine Qaz (args:=[pointer (some ⟨b6,0,none⟩),agg (Qaa a4).toArray]) rfl rfl (QaA rfl (callFunc_enter Tryz.func56 rfl rfl) rfl) (QbY.calls (a1:=(⟨a1.Qad,a1.Qag,a1.Qal⟩:Qaf)) (a6:=a4) (hs.rd hr3) (hs.cells 2 rfl) Hr13) ?_
  rintro _ w ⟨rfl,hs2⟩
  have hs:St _ [_,_,_] _:=hs.call hs2
  cases r13 with
  |true=>
   rw [if_pos rfl] at H
   refine Qab (v:=bool false) rfl rfl rfl ?_
   refine Qab (v:=bool false) rfl rfl rfl ?_
   show G _ _ _ _ [_,_,_,_,_,_,_,_,_,_,_,_,_,_,_,_,_,_,_,_,_] _
   refine Qac (Qas rfl (QaK (Qaj (Qan [0,1,2,3,4,5,6] rfl ?_))))
   refine QaF rfl rfl (es:=(Qaa a4)) rfl rfl (fun _=>rfl) (n:=2) (fun _=>rfl) (Qam.len _) (cells_all (hs.cells 1 rfl)) ?_
   refine Qab (v:=int .u16 a5) rfl rfl rfl ?_
   obtain ⟨r14,Hr14,H⟩:=bind_get H
   refine Qaz (args:=[pointer (some ⟨b6,0,none⟩),agg (Qaa a4).toArray,int .u16 a5]) rfl rfl (QaA rfl (callFunc_enter Tryz.func57 rfl rfl) rfl) (QbO.calls (a1:=(⟨a1.Qad,a1.Qag,a1.Qal⟩:Qaf)) (a6:=a4) (a7:=a5) (hs.rd hr3) (hs.cells 2 rfl) Hr14) ?_
   rintro _ w ⟨rfl,hs2⟩
   have hs:St _ [_,_,_] _:=hs.call hs2
   show G _ _ _ _ [_,_,_,_,_,_,_,_,_,_,_,_,_,_,_,_,_,_,_,_,_] _
   refine Qab (v:=agg (Qaa r14.1).toArray) rfl rfl rfl ?_
   refine Qab (v:=int .i64 r14.2) rfl rfl rfl ?_
   refine QaY (n:=2) hs (Qam.len _) rfl rfl (vs:=(Qaa r14.1)) rfl rfl rfl (fun _=>rfl) (Qam.len _) (Qam.one _) ?_
   intro w hs
   refine Qab (v:=int .i64 r14.2) rfl rfl rfl ?_
   show G _ _ _ _ [_,_,_,_,_,_,_,_,_,_,_,_,_,_,_,_,_,_,_,_,_] _
   refine Qac ?_
   obtain rfl:=QsJ H
   refine QaB Tryz.func23 (v:=tuple #[agg (Qaa r14.1).toArray,int .i64 r14.2]) (resN (l:=Tryz.f23.results.toList) (vs:=[agg (Qaa r14.1).toArray,int .i64 r14.2]) rfl ⟨⟨_,rfl,(run_loadVar_agg (es:=(Qaa r14.1)) rfl (congrArg (Result.ok · _) (Qam.len _).symm) (cells_all (hs.cells 0 rfl)))⟩,rfl,trivial⟩ (by simp)) ?_
   have hs:St _ [] _:=St.take (Γ':=[_,_,_]) hs
   exact ⟨_,rfl,rfl,hs⟩
  |false=>
   rw [if_neg Bool.false_ne_true] at H
   show G _ _ _ _ [_,_,_,_,_,_,_,_,_,_,_,_,_,_,_,_,_,_,_,_,_] _
   refine Qab (v:=bool true) rfl rfl rfl ?_
   refine Qab (v:=bool true) rfl rfl rfl (Qac (Qaq rfl (Qaj (Qan [0,1,2] rfl ?_))))
   refine Qab (v:=agg (Qaa (⟨0,false⟩:Qak)).toArray) rfl rfl (Qbt (cs:=(Qaa (⟨0,false⟩:Qak))) (segs:=[[int .u16 0],[bool false]]) rfl rfl (fun _=>rfl) ⟨rfl,(fun _=>rfl),rfl,(fun _=>rfl),trivial⟩ (by simp) (by first|rfl|(simp [ev,Qaa];done)|(simp [ev,Qaa];rfl))) ?_
   show G _ _ _ _ [_,_,_,_,_,_,_,_,_,_,_,_,_,_,_,_,_,_,_,_,_] _
   refine QaY (n:=2) hs (Qam.len _) rfl rfl (vs:=(Qaa (⟨0,false⟩:Qak))) rfl rfl rfl (fun _=>rfl) (Qam.len _) (Qam.one _) ?_
   intro w hs
   refine Qab (v:=int .i64 1) rfl rfl rfl (Qac ?_)
   obtain rfl:=QsJ H
   refine QaB Tryz.func23 (v:=tuple #[agg (Qaa (⟨0,false⟩:Qak)).toArray,int .i64 1]) (resN (l:=Tryz.f23.results.toList) (vs:=[agg (Qaa (⟨0,false⟩:Qak)).toArray,int .i64 1]) rfl ⟨⟨_,rfl,(run_loadVar_agg (es:=(Qaa (⟨0,false⟩:Qak))) rfl (congrArg (Result.ok · _) (Qam.len _).symm) (cells_all (hs.cells 0 rfl)))⟩,rfl,trivial⟩ (by simp)) ?_
   have hs:St _ [] _:=St.take (Γ':=[_,_,_]) hs
   exact ⟨_,rfl,rfl,hs⟩
 |false=>
  rw [if_neg Bool.false_ne_true] at H
  show G _ _ _ _ [_,_,_,_,_,_,_,_,_,_,_,_,_,_,_,_,_,_,_,_,_] _
  refine Qab (v:=bool true) rfl rfl rfl ?_
  refine Qab (v:=bool true) rfl rfl rfl (Qae rfl rfl ?_)
  show G _ _ _ _ [_,_,_,_,_,_,_,_,_,_,_,_,_,_,_,_,_,_,_,_,_] _
  refine Qae rfl rfl (Qae rfl rfl ?_)
  refine Qab (v:=bool true) rfl rfl rfl ?_
  show G _ _ _ _ [_,_,_,_,_,_,_,_,_,_,_,_,_,_,_,_,_,_,_,_,_] _
  refine Qac (Qaq rfl (Qaj (Qan [0,1,2] rfl ?_)))
  refine Qab (v:=agg (Qaa (⟨0,false⟩:Qak)).toArray) rfl rfl (Qbt (cs:=(Qaa (⟨0,false⟩:Qak))) (segs:=[[int .u16 0],[bool false]]) rfl rfl (fun _=>rfl) ⟨rfl,(fun _=>rfl),rfl,(fun _=>rfl),trivial⟩ (by simp) (by first|rfl|(simp [ev,Qaa];done)|(simp [ev,Qaa];rfl))) ?_
  refine QaY (n:=2) hs (Qam.len _) rfl rfl (vs:=(Qaa (⟨0,false⟩:Qak))) rfl rfl rfl (fun _=>rfl) (Qam.len _) (Qam.one _) ?_
  intro w hs
  refine Qab (v:=int .i64 1) rfl rfl rfl (Qac ?_)
  obtain rfl:=QsJ H
  refine QaB Tryz.func23 (v:=tuple #[agg (Qaa (⟨0,false⟩:Qak)).toArray,int .i64 1]) (resN (l:=Tryz.f23.results.toList) (vs:=[agg (Qaa (⟨0,false⟩:Qak)).toArray,int .i64 1]) rfl ⟨⟨_,rfl,(run_loadVar_agg (es:=(Qaa (⟨0,false⟩:Qak))) rfl (congrArg (Result.ok · _) (Qam.len _).symm) (cells_all (hs.cells 0 rfl)))⟩,rfl,trivial⟩ (by simp)) ?_
  have hs:St _ [] _:=St.take (Γ':=[_,_,_]) hs
  exact ⟨_,rfl,rfl,hs⟩
def Qcb.post (w0:World) (r:Int) (v:Value) (w:World):Prop:=v=int .i64 r∧St w0 [] w
theorem Qcb.calls {N:Nat} {a1:Qaf} {a4:Int} {v2:Value} {w0:World} {r:Int} (hr3:RdRow (K.int .u16) w0 v2 a1.Qal) (H:Qcb.f N a1 a4=some r):
 Calls Tryz.prog 58 #[agg (([int .i8 a1.Qad,int .i8 a1.Qag,v2]:List Value)).toArray,int .u16 a4] w0 fun e w=>∃ v,e= .returned v∧Qcb.post w0 r v w:=by
 unfold Qcb.f at H
 have hs:St w0 [] w0:=St.refl w0
 refine calls_of_g (n:=11) Tryz.func58 rfl rfl ?_
 show G _ _ _ _ [_,_,_,_,_,_,_,_,_,_,_,_,_] _
 refine Qaj (Qan [0,1] rfl ?_)
 refine Qbw hs rfl rfl (cs:=(([int .i8 a1.Qad,int .i8 a1.Qag,v2]:List Value))) rfl rfl ?_
 intro b5 w hs
 show G _ _ _ _ [_,_,_,_,_,_,_,_,_,_,_,_,_] _
 refine Qab (v:=int .i64 0) rfl rfl rfl (Qac (Qaj (Qaj (Qan [0,1,2] rfl ?_))))
 refine QaF rfl rfl (es:=(([int .i8 a1.Qad,int .i8 a1.Qag,v2]:List Value))) rfl rfl (fun _=>rfl) (n:=3) (fun _=>rfl) rfl (cells_all (hs.cells 0 rfl)) ?_
 obtain ⟨r7,Hr7,H⟩:=bind_get H
 refine Qaz (args:=[agg (([int .i8 a1.Qad,int .i8 a1.Qag,v2]:List Value)).toArray]) rfl rfl (QaA rfl (callFunc_enter Tryz.func17 rfl rfl) rfl) (QaX.calls (a1:=(⟨a1.Qad,a1.Qag,a1.Qal⟩:Qaf)) (hs.rd hr3) Hr7) ?_
 rintro _ w ⟨rfl,hs2⟩
 have hs:St _ [_] _:=hs.call hs2
 cases r7 with
 |true=>
  rw [if_pos rfl] at H
  refine Qab (v:=bool false) rfl rfl rfl (Qac (Qas rfl (QaK (Qaj (Qan [0,1,2,3,4,5] rfl ?_)))))
  refine Qab (v:=int .u16 a4) rfl rfl rfl ?_
  show G _ _ _ _ [_,_,_,_,_,_,_,_,_,_,_,_,_] _
  refine QaF rfl rfl (es:=(([int .i8 a1.Qad,int .i8 a1.Qag,v2]:List Value))) rfl rfl (fun _=>rfl) (n:=3) (fun _=>rfl) rfl (cells_all (hs.cells 0 rfl)) ?_
  obtain ⟨r8,Hr8,H⟩:=bind_get H
  refine Qaz (args:=[agg (([int .i8 a1.Qad,int .i8 a1.Qag,v2]:List Value)).toArray]) rfl rfl (QaA rfl (callFunc_enter Tryz.func44 rfl rfl) rfl) (QaZ.calls (a1:=(⟨a1.Qad,a1.Qag,a1.Qal⟩:Qaf)) (hs.rd hr3) Hr8) ?_
  rintro _ w ⟨rfl,hs2⟩
  have hs:St _ [_] _:=hs.call hs2
  obtain ⟨r9,Hr9,H⟩:=bind_get H
  refine Qaz (args:=[int .u16 a4,int .u16 r8]) rfl rfl (QaA rfl (callFunc_enter Tryz.func53 rfl rfl) rfl) (Qby.calls (a1:=a4) (a2:=r8) Hr9) ?_
  rintro _ w ⟨rfl,hs2⟩
  have hs:St _ [_] _:=hs.call hs2
  show G _ _ _ _ [_,_,_,_,_,_,_,_,_,_,_,_,_] _
  obtain ⟨r10,Hr10,H⟩:=bind_get H
  refine Qaz (args:=[bool r9,int .i64 2]) rfl rfl (QaA rfl (callFunc_enter Tryz.func81 rfl rfl) rfl) (Qb7.calls (a1:=r9) (a2:=2) Hr10) ?_
  rintro _ w ⟨rfl,hs2⟩
  have hs:St _ [_] _:=hs.call hs2
  refine Qab (v:=int .i64 r10) rfl rfl rfl (Qac ?_)
  obtain rfl:=QsJ H
  refine QaB Tryz.func58 (v:=int .i64 r10) (res1 rfl rfl) ?_
  have hs:St _ [] _:=St.take (Γ':=[_]) hs
  exact ⟨_,rfl,rfl,hs⟩
 |false=>
  rw [if_neg Bool.false_ne_true] at H
  show G _ _ _ _ [_,_,_,_,_,_,_,_,_,_,_,_,_] _
  refine Qab (v:=bool true) rfl rfl rfl (Qac (Qaq rfl (Qaj (Qan [0] rfl ?_))))
  refine Qab (v:=int .i64 1) rfl rfl rfl (Qac ?_)
  obtain rfl:=QsJ H
  refine QaB Tryz.func58 (v:=int .i64 1) (res1 rfl rfl) ?_
  have hs:St _ [] _:=St.take (Γ':=[_]) hs
  exact ⟨_,rfl,rfl,hs⟩
def Qca.post (w0:World) (r:(Bool×Int)) (v:Value) (w:World):Prop:=v=tuple #[bool r.1,int .i64 r.2]∧St w0 [] w
theorem Qca.calls {N:Nat} {a1:Qaf} {a4:Int} {v2:Value} {w0:World} {r:(Bool×Int)} (hr3:RdRow (K.int .u16) w0 v2 a1.Qal) (H:Qca.f N a1 a4=some r):
 Calls Tryz.prog 24 #[agg (([int .i8 a1.Qad,int .i8 a1.Qag,v2]:List Value)).toArray,int .u16 a4] w0 fun e w=>∃ v,e= .returned v∧Qca.post w0 r v w:=by
 unfold Qca.f at H
 have hs:St w0 [] w0:=St.refl w0
 refine calls_of_g (n:=14) Tryz.func24 rfl rfl ?_
 show G _ _ _ _ [_,_,_,_,_,_,_,_,_,_,_,_,_,_,_,_] _
 refine Qaj (Qan [0,1,2] rfl ?_)
 refine Qbw hs rfl rfl (cs:=(([int .i8 a1.Qad,int .i8 a1.Qag,v2]:List Value))) rfl rfl ?_
 intro b5 w hs
 show G _ _ _ _ [_,_,_,_,_,_,_,_,_,_,_,_,_,_,_,_] _
 refine Qab (v:=bool false) rfl rfl rfl ?_
 refine Qab (v:=int .i64 0) rfl rfl rfl (Qac (Qaj (Qaj (Qan [0,1,2,3] rfl ?_))))
 refine QaF rfl rfl (es:=(([int .i8 a1.Qad,int .i8 a1.Qag,v2]:List Value))) rfl rfl (fun _=>rfl) (n:=3) (fun _=>rfl) rfl (cells_all (hs.cells 0 rfl)) ?_
 show G _ _ _ _ [_,_,_,_,_,_,_,_,_,_,_,_,_,_,_,_] _
 refine Qab (v:=int .u16 a4) rfl rfl rfl ?_
 obtain ⟨r7,Hr7,H⟩:=bind_get H
 refine Qaz (args:=[agg (([int .i8 a1.Qad,int .i8 a1.Qag,v2]:List Value)).toArray,int .u16 a4]) rfl rfl (QaA rfl (callFunc_enter Tryz.func58 rfl rfl) rfl) (Qcb.calls (a1:=(⟨a1.Qad,a1.Qag,a1.Qal⟩:Qaf)) (a4:=a4) (hs.rd hr3) Hr7) ?_
 rintro _ w ⟨rfl,hs2⟩
 have hs:St _ [_] _:=hs.call hs2
 refine Qab (v:=int .i64 r7) rfl rfl rfl ?_
 show G _ _ _ _ [_,_,_,_,_,_,_,_,_,_,_,_,_,_,_,_] _
 refine Qac (Qaj (Qan [0,1] rfl ?_))
 refine Qab (v:=int .i64 r7) rfl rfl rfl ?_
 refine QaI (B:=r7 !=0) rfl rfl rfl ?_ ?_
 ·
  intro hb
  rw [if_neg (b_bne_t hb)] at H
  refine Qac (Qaq rfl (Qaj (Qan [0,1,2] rfl ?_)))
  refine Qab (v:=int .i64 r7) rfl rfl rfl ?_
  refine Qab (v:=bool false) rfl rfl rfl ?_
  show G _ _ _ _ [_,_,_,_,_,_,_,_,_,_,_,_,_,_,_,_] _
  refine Qab (v:=int .i64 r7) rfl rfl rfl (Qac ?_)
  obtain rfl:=QsJ H
  refine QaB Tryz.func24 (v:=tuple #[bool false,int .i64 r7]) (resN (l:=Tryz.f24.results.toList) (vs:=[bool false,int .i64 r7]) rfl ⟨rfl,rfl,trivial⟩ (by simp)) ?_
  have hs:St _ [] _:=St.take (Γ':=[_]) hs
  exact ⟨_,rfl,rfl,hs⟩
 intro hb
 rw [if_pos (b_bne_f hb)] at H
 refine Qac (Qas rfl (QaK (Qaj (Qan [0,1,2,3,4] rfl ?_))))
 refine QaF rfl rfl (es:=(([int .i8 a1.Qad,int .i8 a1.Qag,v2]:List Value))) rfl rfl (fun _=>rfl) (n:=3) (fun _=>rfl) rfl (cells_all (hs.cells 0 rfl)) ?_
 show G _ _ _ _ [_,_,_,_,_,_,_,_,_,_,_,_,_,_,_,_] _
 refine Qab (v:=int .u16 a4) rfl rfl rfl ?_
 obtain ⟨r8,Hr8,H⟩:=bind_get H
 refine Qaz (args:=[agg (([int .i8 a1.Qad,int .i8 a1.Qag,v2]:List Value)).toArray,int .u16 a4]) rfl rfl (QaA rfl (callFunc_enter Tryz.func59 rfl rfl) rfl) (QbH.calls (a1:=(⟨a1.Qad,a1.Qag,a1.Qal⟩:Qaf)) (a4:=a4) (hs.rd hr3) Hr8) ?_
 rintro _ w ⟨rfl,hs2⟩
 have hs:St _ [_] _:=hs.call hs2
 refine Qab (v:=bool r8) rfl rfl rfl ?_
 show G _ _ _ _ [_,_,_,_,_,_,_,_,_,_,_,_,_,_,_,_] _
 refine Qab (v:=int .i64 0) rfl rfl rfl (Qac ?_)
 obtain rfl:=QsJ H
 refine QaB Tryz.func24 (v:=tuple #[bool r8,int .i64 0]) (resN (l:=Tryz.f24.results.toList) (vs:=[bool r8,int .i64 0]) rfl ⟨rfl,rfl,trivial⟩ (by simp)) ?_
 have hs:St _ [] _:=St.take (Γ':=[_]) hs
 exact ⟨_,rfl,rfl,hs⟩
def Qcd.post (w0:World) (r:Int) (v:Value) (w:World):Prop:=v=int .i64 r∧St w0 [] w
theorem Qcd.calls {N:Nat} {a1:Int} {w0:World} {r:Int} (H:Qcd.f N a1=some r):
 Calls Tryz.prog 26 #[int .u16 a1] w0 fun e w=>∃ v,e= .returned v∧Qcd.post w0 r v w:=by
 unfold Qcd.f at H
 have hs:St w0 [] w0:=St.refl w0
 refine calls_of_g (n:=4) Tryz.func26 rfl rfl ?_
 show G _ _ _ _ [_,_,_,_,_] _
 refine Qaj (Qan [0] rfl ?_)
 refine Qab (v:=int .i64 0) rfl rfl rfl (Qac (Qaj (Qan [0,1,2] rfl ?_)))
 refine Qab (v:=int .u16 a1) rfl rfl rfl ?_
 obtain ⟨r2,Hr2,H⟩:=bind_get H
 refine Qaz (args:=[int .u16 a1]) rfl rfl (QaA rfl (callFunc_enter Tryz.func61 rfl rfl) rfl) (Qbk.calls (a1:=a1) Hr2) ?_
 rintro _ w ⟨rfl,hs2⟩
 have hs:St _ [] _:=hs.call hs2
 show G _ _ _ _ [_,_,_,_,_] _
 refine Qab (v:=int .i64 r2) rfl rfl rfl (Qac ?_)
 obtain rfl:=QsJ H
 refine QaB Tryz.func26 (v:=int .i64 r2) (res1 rfl rfl) ?_
 have hs:St _ [] _:=St.take (Γ':=[]) hs
 exact ⟨_,rfl,rfl,hs⟩
def Qar.post (w0:World) (r:Bool) (v:Value) (w:World):Prop:=v=bool r∧St w0 [] w
theorem Qar.seg0 {N : Nat} {a1 : (List Int)} {a3 : (List Int)} {v2 : Value} {v4 : Value} {r61 : (Qak × Int)} {b62 : Nat} {b66 : Nat} {w0 : World} {r : Bool} (htab : Lib.TabIs Tryz.prog w0 "internal/strconv.uint64pow10" .u64 Lib.pow10Tab) (hmax : CellI w0 0) (hsyn : CellE w0 1) (hrng : CellE w0 2) (hr0 : RdRow (K.int .u8) w0 v2 a1) (hr1 : RdRow (K.int .u8) w0 v4 a3) :
 ∀ t w,(fun t w=>∃ x123:Qak,Qar.a5 N r61 x123=some r∧Fr t (fun O=>(oT O 0 (oT O 1 (O 20::O 21::pointer (some ⟨b62,0,none⟩)::O 23::O 24::pointer (some ⟨b66,0,none⟩)::O 26::O 27::O 28::O 29::oT O 3 (oT O 4 (oT O 5 (oT O 6 (oT O 7 (oT O 8 (oT O 9 (oT O 10 (oT O 11 (oT O 12 (oT O 13 (oT O 14 (oT O 15 (oT O 16 (oT O 17 (oT O 18 (oT O 19 (oT O 20 (oT O 21 (oT O 22 (oT O 23 (oT O 24 (oT O 25 (oT O 26 (oT O 27 (oT O 28 (oT O 29 (O 300::O 301::O 302::O 303::O 304::O 305::O 306::[]))))))))))))))))))))))))))))):List Value))∧St w0 [Cells b62 (Qaa r61.1) 48,Cells b66 (Qaa x123) 48] w) t w→G Tryz.prog 3 (fun e w=>∃ v,e= .returned v∧Qar.post w0 r v w) [.code (Code.at_ (Tryz.f3.body.getD .skip) [1,1,1,1,1,1,1,1,1,1,1,1,1,1,1,1,1,1])] t w:=by
 rintro t w ⟨x123,H,hf,hs⟩
 obtain ⟨O,rfl⟩:=hf.open
 try dsimp only [oT]
 unfold Qar.a5 at H
 refine Qaj (Qan [0,1,2,3] rfl ?_)
 refine QaF rfl rfl (es:=(Qaa x123)) rfl rfl (fun _=>rfl) (n:=2) (fun _=>rfl) (Qam.len _) (cells_all (hs.cells 1 rfl)) (g_d rfl ?_)
 refine QaF rfl rfl (es:=(Qaa r61.1)) rfl rfl (fun _=>rfl) (n:=2) (fun _=>rfl) (Qam.len _) (cells_all (hs.cells 0 rfl)) (g_d rfl ?_)
 try dsimp only [Qah,Qai]
 refine Qab (v:=bool (decide (x123=r61.1))) rfl rfl (Qc9 rfl rfl rfl Qcu (Qco _ _ _)) (g_d rfl ?_)
 refine Qab (v:=bool (decide (x123=r61.1))) rfl rfl rfl (g_d rfl ?_)
 try dsimp only [Qah,Qai]
 refine Qac ?_
 obtain rfl:=QsJ H
 refine QaB Tryz.func3 (v:=bool (decide (x123=r61.1))) (res1 rfl rfl) ?_
 have hs:St _ [] _:=St.take (Γ':=[_,_]) hs
 exact ⟨_,rfl,rfl,hs⟩
end Go.Proofs.YtblbfnngmeoipaaGreatDoorX
