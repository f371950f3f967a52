import Derived.Test.YtmineidejeacnaaGreatDoorP10
namespace Go.Proofs.YtmineidejeacnaaGreatDoorX
open Go Go.RowKit Go.Proofs
open Go.Value (int pointer bool agg slice string tuple)
set_option maxHeartbeats 8000000
set_option maxRecDepth 100000
set_option linter.unusedVariables false
set_option linter.unusedSimpArgs false
def QaK.post (w0:World) (r:(List Int)) (v:Value) (w:World):Prop:=St w0 [Row 2 (K.int .i64) v r] w
theorem QaK.calls {N:Nat} {a1:(List Int)} {a3:Int} {a4:Bool} {v2:Value} {w0:World} {r:(List Int)} (hr0:RdRow (K.int .i16) w0 v2 a1) (H:QaK.f N a1 a3 a4=some r):
 Calls Tryz.prog 57 #[v2,int .i64 a3,bool a4] w0 fun e w=>∃ v,e= .returned v∧QaK.post w0 r v w:=by
 unfold QaK.f at H
 have hs:St w0 [] w0:=St.refl w0
 refine calls_of_g (n:=29) Tryz.func57 rfl rfl ?_
 show G _ _ _ _ [_,_,_,_,_,_,_,_,_,_,_,_,_,_,_,_,_,_,_,_,_,_,_,_,_,_,_,_,_,_,_,_] _
 refine Qad (Qag [0] rfl ?_)
 refine Qaa (v:=slice none 0 0) rfl rfl rfl (Qac (Qad (Qag [0,1,2,3] rfl ?_)))
 refine Qaa (v:=v2) rfl rfl rfl ?_
 refine Qaa (v:=bool a4) rfl rfl rfl ?_
 obtain ⟨r5,Hr5,H⟩:=bind_get H
 refine Qaw (args:=[v2,bool a4]) rfl rfl (Qax rfl (callFunc_enter Tryz.func36 rfl rfl) rfl) (Qaj.calls (a1:=a1) (a3:=a4) (hs.rd hr0) Hr5) ?_
 rintro v6 w ⟨_,ms7,rfl,hs2⟩
 have hs:St _ [_] _:=hs.call hs2
 refine Qaa (v:=v6) rfl rfl rfl ?_
 show G _ _ _ _ [_,_,_,_,_,_,_,_,_,_,_,_,_,_,_,_,_,_,_,_,_,_,_,_,_,_,_,_,_,_,_,_] _
 refine Qac (Qad (Qag [0,1] rfl ?_))
 refine QbJ (κ:=(K.int .i64)) hs rfl rfl rfl rfl (fun _=>rfl) ?_
 intro v9 w hs
 refine Qaa (v:=v9) rfl rfl rfl (Qac (Qad (Qad (Qag [0] rfl ?_))))
 refine Qaa (v:=int .i64 1) rfl rfl rfl ?_
 show G _ _ _ _ [_,_,_,_,_,_,_,_,_,_,_,_,_,_,_,_,_,_,_,_,_,_,_,_,_,_,_,_,_,_,_,_] _
 refine Qac ?_
 obtain ⟨o1_,Ho,Hr1_⟩:=bind_get H
 refine QaC (J:=fun t w=>∃ v24:Value,∃ x25:(List Int),QaK.a0 N x25=some r∧Fr t (fun O=>([O 0,O 1,O 2,O 3,O 4,O 5,O 6,O 7,v24,O 9,O 10,O 11,O 12,O 13,O 14,O 15,O 16,O 17,O 18,O 19,O 20,O 21,O 22,O 23,O 24,O 25,O 26,O 27,O 28,O 29,O 30,O 31]:List Value))∧St w0 [Row 2 (K.int .i64) v24 x25] w) ?_ ?_
 ·
  rintro t w ⟨v24,x25,H,hf,hs⟩
  obtain ⟨O,rfl⟩:=hf.open
  show G _ _ _ _ [_,_,_,_,_,_,_,_,_,_,_,_,_,_,_,_,_,_,_,_,_,_,_,_,_,_,_,_,_,_,_,_] _
  unfold QaK.a0 at H
  refine Qad (Qag [0,1] rfl ?_)
  refine Qaa (v:=v24) rfl rfl rfl ?_
  refine Qaa (v:=v24) rfl rfl rfl (Qac ?_)
  obtain rfl:=QsJ H
  refine Qaq Tryz.func57 (v:=v24) (res1 rfl rfl) ?_
  have hs:=hs.pull 0 rfl
  have hs:St _ [_] _:=St.take (Γ':=[]) hs
  exact ⟨_,rfl,hs⟩
 intro ha1_
 have hs:=hs.pull 0 rfl
 have hs:=hs.pull 1 rfl
 have hs:St _ [_,_] _:=St.take (Γ':=[]) hs
 refine QaP (I:=fun n_ t w=>∃ v12:Value,∃ x13:(List Int),∃ x14:Int,rounds (fun s=>QaK.b0 N a3 r5 s.1 s.2) n_ (x13,x14)=some o1_∧Fr t (fun O=>([O 0,int .i64 a3,O 2,O 3,O 4,O 5,O 6,v6,v12,int .i64 x14,O 10,O 11,O 12,O 13,O 14,O 15,O 16,O 17,O 18,O 19,O 20,O 21,O 22,O 23,O 24,O 25,O 26,O 27,O 28,O 29,O 30,O 31]:List Value))∧St w0 [Rows2 50 kHS (RowO 2 (K.int .i64)) v6 ms7 r5,Row 2 (K.int .i64) v12 x13] w) N ⟨v9,([]:List Int),1,Ho,rfl,hs⟩ ?_ ?_
 ·
  rintro _ _ ⟨v12,x13,x14,h,_⟩
  exact rounds_zero h
 intro n_ ih1_
 rintro t w ⟨v12,x13,x14,Ho,hf,hs⟩
 obtain ⟨O,rfl⟩:=hf.open
 show G _ _ _ _ [_,_,_,_,_,_,_,_,_,_,_,_,_,_,_,_,_,_,_,_,_,_,_,_,_,_,_,_,_,_,_,_] _
 obtain ⟨x3_,H,Hx1_⟩:=rounds_succ Ho
 have H:QaK.b0 N a3 r5 x13 x14=some x3_:=H
 unfold QaK.b0 at H
 refine Qad (Qad (Qag [0,1,2] rfl ?_))
 refine Qaa (v:=int .i64 x14) rfl rfl rfl ?_
 refine Qaa (v:=int .i64 a3) rfl rfl rfl ?_
 refine Qas (B:=decide (x14≤a3)) rfl rfl rfl ?_ ?_
 ·
  intro hb
  rw [if_pos (b_dec_t hb)] at H
  refine Qac (Qai rfl (Qay (Qad ?_)))
  refine QaC (J:=(fun t w=>∃ v21:Value,∃ x22:(List Int),QaK.j2 N x14 x22=some x3_∧Fr t (fun O=>([O 0,int .i64 a3,O 2,O 3,O 4,O 5,O 6,v6,v21,int .i64 x14,O 10,O 11,O 12,O 13,O 14,O 15,O 16,O 17,O 18,O 19,O 20,O 21,O 22,O 23,O 24,O 25,O 26,O 27,O 28,O 29,O 30,O 31]:List Value))∧St w0 [Rows2 50 kHS (RowO 2 (K.int .i64)) v6 ms7 r5,Row 2 (K.int .i64) v21 x22] w)) ?_ ?_
  ·
   rintro t w ⟨v21,x22,H,hf,hs⟩
   obtain ⟨O,rfl⟩:=hf.open
   show G _ _ _ _ [_,_,_,_,_,_,_,_,_,_,_,_,_,_,_,_,_,_,_,_,_,_,_,_,_,_,_,_,_,_,_,_] _
   unfold QaK.j2 at H
   refine Qag [0,1,2] rfl ?_
   refine Qaa (v:=int .i64 x14) rfl rfl rfl ?_
   refine Qaa (v:=int .i64 (i64w (x14+1))) rfl rfl rfl ?_
   refine Qaa (v:=int .i64 (i64w (x14+1))) rfl rfl rfl (Qac ?_)
   obtain rfl:=QsJ H
   have hs:=hs.pull 1 rfl
   have hs:=hs.pull 1 rfl
   have hs:St _ [_,_] _:=St.take (Γ':=[]) hs
   exact ih1_ _ _ ⟨v21,x22,i64w (x14+1),Hx1_,rfl,hs⟩
  intro ha
  refine Qad (Qag [0,1,2,3,4,5,6,7] rfl ?_)
  refine Qaa (v:=v6) rfl rfl rfl ?_
  obtain ⟨g1,H⟩:=ite_get H
  refine Qa6 fkHS zHS (hs.r2row 0 rfl) rfl (fun _=>rfl) g1.1 (hs.r2lt 0 rfl g1.2) rfl rfl rfl rfl rfl ?_
  intro p15 hp15 lp15 op15
  show G _ _ _ _ [_,_,_,_,_,_,_,_,_,_,_,_,_,_,_,_,_,_,_,_,_,_,_,_,_,_,_,_,_,_,_,_] _
  refine QaA rfl rfl (v:=slice (rdL ms7 0 zHS).a (rdL ms7 0 zHS).n (rdL ms7 0 zHS).c) rfl rfl (fun _=>rfl) hp15 ?_
  refine Qaa (v:=int .i64 x14) rfl rfl rfl ?_
  refine Qaa (v:=int .i64 (i64w (2000+x14))) rfl rfl rfl ?_
  obtain ⟨g2,H⟩:=ite_get H
  refine Qa6 (fkI .i64) 0 (hs.r2rd 0 rfl g1.1 g1.2) rfl (fun _=>rfl) g2.1 g2.2 rfl rfl rfl rfl rfl ?_
  intro p16 hp16 lp16 op16
  show G _ _ _ _ [_,_,_,_,_,_,_,_,_,_,_,_,_,_,_,_,_,_,_,_,_,_,_,_,_,_,_,_,_,_,_,_] _
  refine QaA rfl rfl (v:=int .i64 (rdL (rdL r5 0 []) (i64w (2000+x14)) 0)) rfl rfl (fun _=>rfl) hp16 ?_
  refine Qas (B:=decide ((rdL (rdL r5 0 []) (i64w (2000+x14)) 0)< 0)) rfl rfl rfl ?_ ?_
  ·
   intro hb
   rw [if_pos (b_dec_t hb)] at H
   show G _ _ _ _ [_,_,_,_,_,_,_,_,_,_,_,_,_,_,_,_,_,_,_,_,_,_,_,_,_,_,_,_,_,_,_,_] _
   refine Qac (Qai rfl (Qag [0,1,2,3,4] rfl ?_))
   refine Qaa (v:=v12) rfl rfl rfl ?_
   refine Qaa (v:=int .i64 x14) rfl rfl rfl ?_
   show G _ _ _ _ [_,_,_,_,_,_,_,_,_,_,_,_,_,_,_,_,_,_,_,_,_,_,_,_,_,_,_,_,_,_,_,_] _
   refine QbL (fkI .i64) (y:=x14) hs rfl rfl rfl rfl (fun _=>rfl) (zv:=(int .i64 0)) (fun _=>rfl) rfl (by decide) (by decide) rfl ?_
   intro v17 w hs
   have hs:St _ [_,_,_] _:=hs.pull 2 rfl
   obtain ⟨g,H⟩:=ite_get H
   refine QbI (fkI .i64) (zv:=(int .i64 0)) (B:=8) hs (hs.row 1 rfl) rfl rfl rfl rfl rfl rfl rfl rfl rfl (by decide) rfl rfl (by decide) (by omega) ?_
   intro v19 w hs
   show G _ _ _ _ [_,_,_,_,_,_,_,_,_,_,_,_,_,_,_,_,_,_,_,_,_,_,_,_,_,_,_,_,_,_,_,_] _
   refine Qaa (v:=v19) rfl rfl rfl (Qac ?_)
   refine QaH ?_
   have hs:=hs.pull 0 rfl
   have hs:=hs.pull 2 rfl
   have hs:St _ [_,_] _:=St.take (Γ':=[_]) hs
   exact ha _ _ ⟨v19,x13++([x14]),H,rfl,hs⟩
  intro hb
  rw [if_neg (b_dec_f hb)] at H
  refine Qac (Qal rfl (Qay ?_))
  refine QaH ?_
  have hs:=hs.pull 1 rfl
  have hs:=hs.pull 1 rfl
  have hs:St _ [_,_] _:=St.take (Γ':=[]) hs
  exact ha _ _ ⟨v12,x13,H,rfl,hs⟩
 intro hb
 rw [if_neg (b_dec_f hb)] at H
 refine Qac (Qal rfl ?_)
 obtain rfl:=QsJ H
 subst Hx1_
 have hs:=hs.pull 1 rfl
 have hs:St _ [_] _:=St.take (Γ':=[_]) hs
 refine Qbc rfl ?_
 exact ha1_ _ _ ⟨v12,x13,Hr1_,rfl,hs⟩
def Qbp.post (w0:World) (r:((List Int)×Int)) (v:Value) (w:World):Prop:=∃ u1:Value,v=tuple #[u1,int .i64 r.2]∧St w0 [Row 2 (K.int .i64) u1 r.1] w
theorem Qbp.calls {N:Nat} {a1:(List Int)} {a3:Bool} {v2:Value} {w0:World} {r:((List Int)×Int)} (hr0:RdRow (K.int .i16) w0 v2 a1) (H:Qbp.f N a1 a3=some r):
 Calls Tryz.prog 26 #[v2,bool a3] w0 fun e w=>∃ v,e= .returned v∧Qbp.post w0 r v w:=by
 unfold Qbp.f at H
 have hs:St w0 [] w0:=St.refl w0
 refine calls_of_g (n:=13) Tryz.func26 rfl rfl ?_
 show G _ _ _ _ [_,_,_,_,_,_,_,_,_,_,_,_,_,_,_] _
 refine Qad (Qag [0,1] rfl ?_)
 refine Qaa (v:=slice none 0 0) rfl rfl rfl ?_
 refine Qaa (v:=int .i64 0) rfl rfl rfl ?_
 show G _ _ _ _ [_,_,_,_,_,_,_,_,_,_,_,_,_,_,_] _
 refine Qac (Qad (Qad (Qag [0,1,2] rfl ?_)))
 refine Qaa (v:=v2) rfl rfl rfl ?_
 obtain ⟨r4,Hr4,H⟩:=bind_get H
 refine Qaw (args:=[v2]) rfl rfl (Qax rfl (callFunc_enter Tryz.func56 rfl rfl) rfl) (QaU.calls (a1:=a1) (hs.rd hr0) Hr4) ?_
 rintro _ w ⟨rfl,hs2⟩
 have hs:St _ [] _:=hs.call hs2
 cases r4 with
 |true=>
  rw [if_pos rfl] at H
  refine Qaa (v:=bool false) rfl rfl rfl (Qac (Qal rfl (Qay (Qad (Qag [0,1,2,3,4,5,6] rfl ?_)))))
  refine Qaa (v:=v2) rfl rfl rfl ?_
  show G _ _ _ _ [_,_,_,_,_,_,_,_,_,_,_,_,_,_,_] _
  refine Qaa (v:=v2) rfl rfl rfl ?_
  obtain ⟨r5,Hr5,H⟩:=bind_get H
  refine Qaw (args:=[v2]) rfl rfl (Qax rfl (callFunc_enter Tryz.func58 rfl rfl) rfl) (QaS.calls (a1:=a1) (hs.rd hr0) Hr5) ?_
  rintro _ w ⟨rfl,hs2⟩
  have hs:St _ [] _:=hs.call hs2
  refine Qaa (v:=bool a3) rfl rfl rfl ?_
  show G _ _ _ _ [_,_,_,_,_,_,_,_,_,_,_,_,_,_,_] _
  obtain ⟨r6,Hr6,H⟩:=bind_get H
  refine Qaw (args:=[v2,int .i64 r5,bool a3]) rfl rfl (Qax rfl (callFunc_enter Tryz.func57 rfl rfl) rfl) (QaK.calls (a1:=a1) (a3:=r5) (a4:=a3) (hs.rd hr0) Hr6) ?_
  intro v7 w hs2
  have hs:St _ [_] _:=hs.call hs2
  refine Qaa (v:=v7) rfl rfl rfl ?_
  refine Qaa (v:=int .i64 0) rfl rfl rfl ?_
  show G _ _ _ _ [_,_,_,_,_,_,_,_,_,_,_,_,_,_,_] _
  refine Qac ?_
  obtain rfl:=QsJ H
  refine Qaq Tryz.func26 (v:=tuple #[v7,int .i64 0]) (resN (l:=Tryz.f26.results.toList) (vs:=[v7,int .i64 0]) rfl ⟨rfl,rfl,trivial⟩ (by simp)) ?_
  have hs:=hs.pull 0 rfl
  have hs:St _ [_] _:=St.take (Γ':=[]) hs
  exact ⟨_,rfl,v7,rfl,hs⟩
 |false=>
  rw [if_neg Bool.false_ne_true] at H
  refine Qaa (v:=bool true) rfl rfl rfl ?_
  show G _ _ _ _ [_,_,_,_,_,_,_,_,_,_,_,_,_,_,_] _
  refine Qac (Qai rfl (Qad (Qag [0,1,2] rfl ?_)))
  refine QbJ (κ:=(K.int .i64)) hs rfl rfl rfl rfl (fun _=>rfl) ?_
  intro v9 w hs
  refine Qaa (v:=v9) rfl rfl rfl ?_
  refine Qaa (v:=int .i64 1) rfl rfl rfl ?_
  show G _ _ _ _ [_,_,_,_,_,_,_,_,_,_,_,_,_,_,_] _
  refine Qac ?_
  obtain rfl:=QsJ H
  refine Qaq Tryz.func26 (v:=tuple #[v9,int .i64 1]) (resN (l:=Tryz.f26.results.toList) (vs:=[v9,int .i64 1]) rfl ⟨rfl,rfl,trivial⟩ (by simp)) ?_
  have hs:=hs.pull 0 rfl
  have hs:St _ [_] _:=St.take (Γ':=[]) hs
  exact ⟨_,rfl,v9,rfl,hs⟩
def Qa7.post (w0:World) (r:Bool) (v:Value) (w:World):Prop:=v=bool r∧St w0 [] w
theorem Qa7.calls {N:Nat} {a1:(List Int)} {a3:(List Int)} {v2:Value} {v4:Value} {w0:World} {r:Bool} (hr0:RdRow (K.int .i64) w0 v2 a1) (hr1:RdRow (K.int .i64) w0 v4 a3) (H:Qa7.f N a1 a3=some r):
 Calls Tryz.prog 59 #[v2,v4] w0 fun e w=>∃ v,e= .returned v∧Qa7.post w0 r v w:=by
 unfold Qa7.f at H
 have hs:St w0 [] w0:=St.refl w0
 refine calls_of_g (n:=24) Tryz.func59 rfl rfl ?_
 show G _ _ _ _ [_,_,_,_,_,_,_,_,_,_,_,_,_,_,_,_,_,_,_,_,_,_,_,_,_,_] _
 refine Qad (Qag [0] rfl ?_)
 refine Qaa (v:=bool false) rfl rfl rfl (Qac (Qad (Qad (Qag [0,1,2,3,4] rfl ?_))))
 refine Qaa (v:=v2) rfl rfl rfl ?_
 refine Qba (hs.rd hr0) rfl rfl rfl rfl rfl ?_
 refine Qaa (v:=v4) rfl rfl rfl ?_
 refine Qba (hs.rd hr1) rfl rfl rfl rfl rfl ?_
 show G _ _ _ _ [_,_,_,_,_,_,_,_,_,_,_,_,_,_,_,_,_,_,_,_,_,_,_,_,_,_] _
 refine Qas (B:=(a1.length:Int) !=(a3.length:Int)) rfl rfl rfl ?_ ?_
 ·
  intro hb
  rw [if_neg (b_bne_t hb)] at H
  show G _ _ _ _ [_,_,_,_,_,_,_,_,_,_,_,_,_,_,_,_,_,_,_,_,_,_,_,_,_,_] _
  refine Qac (Qai rfl (Qad (Qag [0] rfl ?_)))
  refine Qaa (v:=bool false) rfl rfl rfl (Qac ?_)
  obtain rfl:=QsJ H
  refine Qaq Tryz.func59 (v:=bool false) (res1 rfl rfl) ?_
  have hs:St _ [] _:=St.take (Γ':=[]) hs
  exact ⟨_,rfl,rfl,hs⟩
 intro hb
 rw [if_pos (b_bne_f hb)] at H
 refine Qac (Qal rfl (Qay (Qad (Qad (Qag [0] rfl ?_)))))
 refine Qaa (v:=int .i64 0) rfl rfl rfl (Qac ?_)
 obtain ⟨o1_,Ho,Hr1_⟩:=bind_get H
 refine QaC (J:=fun t w=>Qa7.a0 N=some r∧Fr t (fun O=>([O 0,O 1,O 2,O 3,O 4,O 5,O 6,O 7,O 8,O 9,O 10,O 11,O 12,O 13,O 14,O 15,O 16,O 17,O 18,O 19,O 20,O 21,O 22,O 23,O 24,O 25]:List Value))∧St w0 [] w) ?_ ?_
 ·
  rintro t w ⟨H,hf,hs⟩
  obtain ⟨O,rfl⟩:=hf.open
  show G _ _ _ _ [_,_,_,_,_,_,_,_,_,_,_,_,_,_,_,_,_,_,_,_,_,_,_,_,_,_] _
  unfold Qa7.a0 at H
  refine Qad (Qag [0] rfl ?_)
  refine Qaa (v:=bool true) rfl rfl rfl (Qac ?_)
  obtain rfl:=QsJ H
  refine Qaq Tryz.func59 (v:=bool true) (res1 rfl rfl) ?_
  have hs:St _ [] _:=St.take (Γ':=[]) hs
  exact ⟨_,rfl,rfl,hs⟩
 intro ha1_
 have hs:St _ [] _:=St.take (Γ':=[]) hs
 refine QaP (I:=fun n_ t w=>∃ x5:Int,rounds (fun s=>Qa7.b0 N a1 a3 s) n_ x5=some o1_∧Fr t (fun O=>([v2,v4,O 2,O 3,O 4,int .i64 x5,O 6,O 7,O 8,O 9,O 10,O 11,O 12,O 13,O 14,O 15,O 16,O 17,O 18,O 19,O 20,O 21,O 22,O 23,O 24,O 25]:List Value))∧St w0 [] w) N ⟨0,Ho,rfl,hs⟩ ?_ ?_
 ·
  rintro _ _ ⟨x5,h,_⟩
  exact rounds_zero h
 intro n_ ih1_
 rintro t w ⟨x5,Ho,hf,hs⟩
 obtain ⟨O,rfl⟩:=hf.open
 show G _ _ _ _ [_,_,_,_,_,_,_,_,_,_,_,_,_,_,_,_,_,_,_,_,_,_,_,_,_,_] _
 obtain ⟨x7_,H,Hx1_⟩:=rounds_succ Ho
 have H:Qa7.b0 N a1 a3 x5=some x7_:=H
 unfold Qa7.b0 at H
 refine Qad (Qad (Qag [0,1,2,3] rfl ?_))
 refine Qaa (v:=int .i64 x5) rfl rfl rfl ?_
 refine Qaa (v:=v2) rfl rfl rfl ?_
 refine Qba (hs.rd hr0) rfl rfl rfl rfl rfl ?_
 show G _ _ _ _ [_,_,_,_,_,_,_,_,_,_,_,_,_,_,_,_,_,_,_,_,_,_,_,_,_,_] _
 refine Qas (B:=decide (x5< (a1.length:Int))) rfl rfl rfl ?_ ?_
 ·
  intro hb
  rw [if_pos (b_dec_t hb)] at H
  refine Qac (Qai rfl (Qay (Qad ?_)))
  refine Qbe (Qad ?_)
  refine QbP (n:=9) rfl [0,1,2,3,4,5,6,7,8] [0,1,2,3,4,5,6,7,8] rfl rfl ?_
  intro rest w hh hbw hO
  have hs:=hs.samew hh hbw
  show G _ _ _ _ [_,_,_,_,_,_,_,_,_,_,_,_,_,_,_,_,_,_,_,_,_,_,_,_,_,_] _
  obtain ⟨gd2,H⟩:=ite_get H
  obtain ⟨ad3_,ad3_N,ad3_C,had3_⟩:=sl_at (hs.rd hr0) gd2.1 gd2.2
  obtain ⟨gd4,H⟩:=ite_get H
  obtain ⟨ad5_,ad5_N,ad5_C,had5_⟩:=sl_at (hs.rd hr1) gd4.1 gd4.2
  refine Qbz ?_
  intro T hT
  refine QbA (m0:=0) hO rfl 255 [0,1,2,3,4,5,6,7] [0,0,3,7,0,0,48,112,255] (by decide+kernel) (fun D t w=>∃ O:Nat→Value,t=[v2,v4,O 2,O 3,O 4,int .i64 x5,O 6,O 7,O 8,O 9,O 10,int .i64 x5,v2,int .i64 (a1.length:Int),bool true,O 15,O 16,cnd (D 0) v2 (O 17),cnd (D 1) (int .i64 x5) (O 18),cnd (D 2) (pointer (some (ad3_.add (x5.toNat*1)))) (O 19),cnd (D 3) (int .i64 (rdL a1 x5 0)) (O 20),cnd (D 4) v4 (O 21),cnd (D 5) (int .i64 x5) (O 22),cnd (D 6) (pointer (some (ad5_.add (x5.toNat*1)))) (O 23),cnd (D 7) (int .i64 (rdL a3 x5 0)) (O 24),O 25]∧St w0 [] w) ?_ ⟨?_,⟨?_,⟨?_,⟨?_,⟨?_,⟨?_,⟨?_,⟨?_,trivial⟩⟩⟩⟩⟩⟩⟩⟩ ?_
  ·exact ⟨fun i=>T.getD i undef,(by subst hT;rfl),hs⟩
  ·
   rintro D t w hD hp hcl ⟨O,ht,hs⟩ rest hk
   have hp:AllDone D []:=hp
   have q2_:=ny hcl 2 0 hD
   have q3_:=ny hcl 3 0 q2_
   simp only [hD,q2_,q3_,cq,oT] at ht hs
   subst ht
   refine Qaa (v:=v2) rfl rfl rfl ?_
   show G _ _ _ _ [_,_,_,_,_,_,_,_,_,_,_,_,_,_,_,_,_,_,_,_,_,_,_,_,_,_] _
   refine hk _ _ ⟨O,?_,hs.cast ?_⟩<;>simp only [oT,lq,cq,Nat.reduceBEq,q2_,q3_]
  ·
   rintro D t w hD hp hcl ⟨O,ht,hs⟩ rest hk
   have hp:AllDone D []:=hp
   have q2_:=ny hcl 2 1 hD
   have q3_:=ny hcl 3 0 q2_
   simp only [hD,q2_,q3_,cq,oT] at ht hs
   subst ht
   refine Qaa (v:=int .i64 x5) rfl rfl rfl ?_
   show G _ _ _ _ [_,_,_,_,_,_,_,_,_,_,_,_,_,_,_,_,_,_,_,_,_,_,_,_,_,_] _
   refine hk _ _ ⟨O,?_,hs.cast ?_⟩<;>simp only [oT,lq,cq,Nat.reduceBEq,q2_,q3_]
  ·
   rintro D t w hD hp hcl ⟨O,ht,hs⟩ rest hk
   have hp:AllDone D [0,1]:=hp
   obtain ⟨p0_,p1_,_⟩:=hp
   have q3_:=ny hcl 3 0 hD
   simp only [hD,p0_,p1_,q3_,cq,oT] at ht hs
   subst ht
   refine QbG (κ:=(K.int .i64)) (m:=1) rfl (hs.rd hr0) rfl (fun _=>rfl) gd2.1 gd2.2 had3_ rfl rfl rfl rfl rfl ?_
   show G _ _ _ _ [_,_,_,_,_,_,_,_,_,_,_,_,_,_,_,_,_,_,_,_,_,_,_,_,_,_] _
   refine hk _ _ ⟨O,?_,hs.cast ?_⟩<;>simp only [oT,lq,cq,Nat.reduceBEq,p0_,p1_,q3_]
  ·
   rintro D t w hD hp hcl ⟨O,ht,hs⟩ rest hk
   have hp:AllDone D [2]:=hp
   obtain ⟨p2_,_⟩:=hp
   obtain ⟨p0_,p1_,_⟩:=(show D 2=true→AllDone D [0,1] from hcl 2 (by decide)) p2_
   simp only [hD,p0_,p1_,p2_,cq,oT] at ht hs
   subst ht
   refine QaA rfl rfl (v:=int .i64 (rdL a1 x5 0)) rfl rfl (fun _=>rfl) (cellsAt_of (fkI .i64) 0 (hs.rd hr0) had3_ gd2.1 gd2.2) ?_
   show G _ _ _ _ [_,_,_,_,_,_,_,_,_,_,_,_,_,_,_,_,_,_,_,_,_,_,_,_,_,_] _
   refine hk _ _ ⟨O,?_,hs.cast ?_⟩<;>simp only [oT,lq,cq,Nat.reduceBEq,p0_,p1_,p2_]
  ·
   rintro D t w hD hp hcl ⟨O,ht,hs⟩ rest hk
   have hp:AllDone D []:=hp
   have q6_:=ny hcl 6 0 hD
   have q7_:=ny hcl 7 0 q6_
   simp only [hD,q6_,q7_,cq,oT] at ht hs
   subst ht
   refine Qaa (v:=v4) rfl rfl rfl ?_
   show G _ _ _ _ [_,_,_,_,_,_,_,_,_,_,_,_,_,_,_,_,_,_,_,_,_,_,_,_,_,_] _
   refine hk _ _ ⟨O,?_,hs.cast ?_⟩<;>simp only [oT,lq,cq,Nat.reduceBEq,q6_,q7_]
  ·
   rintro D t w hD hp hcl ⟨O,ht,hs⟩ rest hk
   have hp:AllDone D []:=hp
   have q6_:=ny hcl 6 1 hD
   have q7_:=ny hcl 7 0 q6_
   simp only [hD,q6_,q7_,cq,oT] at ht hs
   subst ht
   refine Qaa (v:=int .i64 x5) rfl rfl rfl ?_
   show G _ _ _ _ [_,_,_,_,_,_,_,_,_,_,_,_,_,_,_,_,_,_,_,_,_,_,_,_,_,_] _
   refine hk _ _ ⟨O,?_,hs.cast ?_⟩<;>simp only [oT,lq,cq,Nat.reduceBEq,q6_,q7_]
  ·
   rintro D t w hD hp hcl ⟨O,ht,hs⟩ rest hk
   have hp:AllDone D [4,5]:=hp
   obtain ⟨p4_,p5_,_⟩:=hp
   have q7_:=ny hcl 7 0 hD
   simp only [hD,p4_,p5_,q7_,cq,oT] at ht hs
   subst ht
   refine QbG (κ:=(K.int .i64)) (m:=1) rfl (hs.rd hr1) rfl (fun _=>rfl) gd4.1 gd4.2 had5_ rfl rfl rfl rfl rfl ?_
   show G _ _ _ _ [_,_,_,_,_,_,_,_,_,_,_,_,_,_,_,_,_,_,_,_,_,_,_,_,_,_] _
   refine hk _ _ ⟨O,?_,hs.cast ?_⟩<;>simp only [oT,lq,cq,Nat.reduceBEq,p4_,p5_,q7_]
  ·
   rintro D t w hD hp hcl ⟨O,ht,hs⟩ rest hk
   have hp:AllDone D [6]:=hp
   obtain ⟨p6_,_⟩:=hp
   obtain ⟨p4_,p5_,_⟩:=(show D 6=true→AllDone D [4,5] from hcl 6 (by decide)) p6_
   simp only [hD,p4_,p5_,p6_,cq,oT] at ht hs
   subst ht
   refine QaA rfl rfl (v:=int .i64 (rdL a3 x5 0)) rfl rfl (fun _=>rfl) (cellsAt_of (fkI .i64) 0 (hs.rd hr1) had5_ gd4.1 gd4.2) ?_
   show G _ _ _ _ [_,_,_,_,_,_,_,_,_,_,_,_,_,_,_,_,_,_,_,_,_,_,_,_,_,_] _
   refine hk _ _ ⟨O,?_,hs.cast ?_⟩<;>simp only [oT,lq,cq,Nat.reduceBEq,p4_,p5_,p6_]
  intro D t w rest hall hO1_ hI
  obtain ⟨O,ht,hs⟩:=hI
  have p0_:=hall 0 (by decide) rfl
  have p1_:=hall 1 (by decide) rfl
  have p2_:=hall 2 (by decide) rfl
  have p3_:=hall 3 (by decide) rfl
  have p4_:=hall 4 (by decide) rfl
  have p5_:=hall 5 (by decide) rfl
  have p6_:=hall 6 (by decide) rfl
  have p7_:=hall 7 (by decide) rfl
  simp only [p0_,p1_,p2_,p3_,p4_,p5_,p6_,p7_,cq,oT] at ht hs
  subst ht
  obtain ⟨rest,rfl,hO6_⟩:=ord_one (m:=255) hO1_ rfl 8 (m':=511) (by decide+kernel) rfl
  clear hO1_
  refine Qas (B:=(rdL a1 x5 0) !=(rdL a3 x5 0)) rfl rfl rfl ?_ ?_
  ·
   intro hb
   rw [if_neg (b_bne_t hb)] at H
   show G _ _ _ _ [_,_,_,_,_,_,_,_,_,_,_,_,_,_,_,_,_,_,_,_,_,_,_,_,_,_] _
   obtain rfl:=ord_end hO6_ rfl (by decide+kernel)
   refine Qac (Qai rfl (Qad (Qag [0] rfl ?_)))
   refine Qaa (v:=bool false) rfl rfl rfl (Qac ?_)
   obtain rfl:=QsJ H
   subst Hx1_
   have H:=QsJ Hr1_
   subst H
   refine Qaq Tryz.func59 (v:=bool false) (res1 rfl rfl) ?_
   have hs:St _ [] _:=St.take (Γ':=[]) hs
   exact ⟨_,rfl,rfl,hs⟩
  intro hb
  rw [if_pos (b_bne_f hb)] at H
  show G _ _ _ _ [_,_,_,_,_,_,_,_,_,_,_,_,_,_,_,_,_,_,_,_,_,_,_,_,_,_] _
  obtain rfl:=ord_end hO6_ rfl (by decide+kernel)
  refine Qac (Qal rfl (Qay ?_))
  refine QaH (Qag [0,1,2] rfl ?_)
  refine Qaa (v:=int .i64 x5) rfl rfl rfl ?_
  refine Qaa (v:=int .i64 (i64w (x5+1))) rfl rfl rfl ?_
  refine Qaa (v:=int .i64 (i64w (x5+1))) rfl rfl rfl (Qac ?_)
  obtain rfl:=QsJ H
  have hs:St _ [] _:=St.take (Γ':=[]) hs
  exact ih1_ _ _ ⟨i64w (x5+1),Hx1_,rfl,hs⟩
 intro hb
 rw [if_neg (b_dec_f hb)] at H
 refine Qac (Qal rfl ?_)
 obtain rfl:=QsJ H
 subst Hx1_
 have hs:St _ [] _:=St.take (Γ':=[]) hs
 refine Qbc rfl ?_
 exact ha1_ _ _ ⟨Hr1_,rfl,hs⟩
def QbD.post (w0:World) (r:Bool) (v:Value) (w:World):Prop:=v=bool r∧St w0 [] w
theorem QbD.calls {N:Nat} {a1:(List Int)} {a3:(List Int)} {v2:Value} {v4:Value} {w0:World} {r:Bool} (hr0:RdRow (K.int .i64) w0 v2 a1) (hr1:RdRow (K.int .i64) w0 v4 a3) (H:QbD.f N a1 a3=some r):
 Calls Tryz.prog 27 #[v2,v4] w0 fun e w=>∃ v,e= .returned v∧QbD.post w0 r v w:=by
 unfold QbD.f at H
 have hs:St w0 [] w0:=St.refl w0
 refine calls_of_g (n:=6) Tryz.func27 rfl rfl ?_
 show G _ _ _ _ [_,_,_,_,_,_,_,_] _
 refine Qad (Qag [0] rfl ?_)
 refine Qaa (v:=bool false) rfl rfl rfl (Qac (Qad (Qag [0,1,2,3] rfl ?_)))
 refine Qaa (v:=v2) rfl rfl rfl ?_
 show G _ _ _ _ [_,_,_,_,_,_,_,_] _
 refine Qaa (v:=v4) rfl rfl rfl ?_
 obtain ⟨r5,Hr5,H⟩:=bind_get H
 refine Qaw (args:=[v2,v4]) rfl rfl (Qax rfl (callFunc_enter Tryz.func59 rfl rfl) rfl) (Qa7.calls (a1:=a1) (a3:=a3) (hs.rd hr0) (hs.rd hr1) Hr5) ?_
 rintro _ w ⟨rfl,hs2⟩
 have hs:St _ [] _:=hs.call hs2
 refine Qaa (v:=bool r5) rfl rfl rfl ?_
 show G _ _ _ _ [_,_,_,_,_,_,_,_] _
 refine Qac ?_
 obtain rfl:=QsJ H
 refine Qaq Tryz.func27 (v:=bool r5) (res1 rfl rfl) ?_
 have hs:St _ [] _:=St.take (Γ':=[]) hs
 exact ⟨_,rfl,rfl,hs⟩
def Qbb.post (w0:World) (r:Bool) (v:Value) (w:World):Prop:=v=bool r∧St w0 [] w
theorem Qbb.calls {N:Nat} {a1:(List Int)} {a3:Int} {v2:Value} {w0:World} {r:Bool} (hr0:RdRow (K.int .i64) w0 v2 a1) (H:Qbb.f N a1 a3=some r):
 Calls Tryz.prog 28 #[v2,int .i64 a3] w0 fun e w=>∃ v,e= .returned v∧Qbb.post w0 r v w:=by
 unfold Qbb.f at H
 have hs:St w0 [] w0:=St.refl w0
 refine calls_of_g (n:=16) Tryz.func28 rfl rfl ?_
 show G _ _ _ _ [_,_,_,_,_,_,_,_,_,_,_,_,_,_,_,_,_,_] _
 refine Qad (Qag [0] rfl ?_)
 refine Qaa (v:=bool false) rfl rfl rfl ?_
 show G _ _ _ _ [_,_,_,_,_,_,_,_,_,_,_,_,_,_,_,_,_,_] _
 refine Qac (Qad (Qad (Qag [0] rfl ?_)))
 refine Qaa (v:=int .i64 0) rfl rfl rfl (Qac ?_)
 obtain ⟨o1_,Ho,Hr1_⟩:=bind_get H
 refine QaC (J:=fun t w=>Qbb.a0 N=some r∧Fr t (fun O=>([O 0,O 1,O 2,O 3,O 4,O 5,O 6,O 7,O 8,O 9,O 10,O 11,O 12,O 13,O 14,O 15,O 16,O 17]:List Value))∧St w0 [] w) ?_ ?_
 ·
  rintro t w ⟨H,hf,hs⟩
  obtain ⟨O,rfl⟩:=hf.open
  show G _ _ _ _ [_,_,_,_,_,_,_,_,_,_,_,_,_,_,_,_,_,_] _
  unfold Qbb.a0 at H
  refine Qad (Qag [0] rfl ?_)
  refine Qaa (v:=bool false) rfl rfl rfl ?_
  show G _ _ _ _ [_,_,_,_,_,_,_,_,_,_,_,_,_,_,_,_,_,_] _
  refine Qac ?_
  obtain rfl:=QsJ H
  refine Qaq Tryz.func28 (v:=bool false) (res1 rfl rfl) ?_
  have hs:St _ [] _:=St.take (Γ':=[]) hs
  exact ⟨_,rfl,rfl,hs⟩
 intro ha1_
 have hs:St _ [] _:=St.take (Γ':=[]) hs
 refine QaP (I:=fun n_ t w=>∃ x4:Int,rounds (fun s=>Qbb.b0 N a1 a3 s) n_ x4=some o1_∧Fr t (fun O=>([v2,int .i64 a3,O 2,O 3,O 4,int .i64 x4,O 6,O 7,O 8,O 9,O 10,O 11,O 12,O 13,O 14,O 15,O 16,O 17]:List Value))∧St w0 [] w) N ⟨0,Ho,rfl,hs⟩ ?_ ?_
 ·
  rintro _ _ ⟨x4,h,_⟩
  exact rounds_zero h
 intro n_ ih1_
 rintro t w ⟨x4,Ho,hf,hs⟩
 obtain ⟨O,rfl⟩:=hf.open
 show G _ _ _ _ [_,_,_,_,_,_,_,_,_,_,_,_,_,_,_,_,_,_] _
 obtain ⟨x2_,H,Hx1_⟩:=rounds_succ Ho
 have H:Qbb.b0 N a1 a3 x4=some x2_:=H
 unfold Qbb.b0 at H
 refine Qad (Qad (Qag [0,1,2,3] rfl ?_))
 refine Qaa (v:=int .i64 x4) rfl rfl rfl ?_
 refine Qaa (v:=v2) rfl rfl rfl ?_
 show G _ _ _ _ [_,_,_,_,_,_,_,_,_,_,_,_,_,_,_,_,_,_] _
 refine Qba (hs.rd hr0) rfl rfl rfl rfl rfl ?_
 refine Qas (B:=decide (x4< (a1.length:Int))) rfl rfl rfl ?_ ?_
 ·
  intro hb
  rw [if_pos (b_dec_t hb)] at H
  show G _ _ _ _ [_,_,_,_,_,_,_,_,_,_,_,_,_,_,_,_,_,_] _
  refine Qac (Qai rfl (Qay (Qad ?_)))
  refine Qbe (Qad (Qag [0,1,2,3,4,5] rfl ?_))
  refine Qaa (v:=v2) rfl rfl rfl ?_
  refine Qaa (v:=int .i64 x4) rfl rfl rfl ?_
  obtain ⟨g1,H⟩:=ite_get H
  refine Qa6 (fkI .i64) 0 (hs.rd hr0) rfl (fun _=>rfl) g1.1 g1.2 rfl rfl rfl rfl rfl ?_
  intro p5 hp5 lp5 op5
  show G _ _ _ _ [_,_,_,_,_,_,_,_,_,_,_,_,_,_,_,_,_,_] _
  refine QaA rfl rfl (v:=int .i64 (rdL a1 x4 0)) rfl rfl (fun _=>rfl) hp5 ?_
  refine Qaa (v:=int .i64 a3) rfl rfl rfl ?_
  refine Qas (B:=(rdL a1 x4 0)==a3) rfl rfl rfl ?_ ?_
  ·
   intro hb
   rw [if_pos (b_beq_t hb)] at H
   refine Qac (Qai rfl (Qad (Qag [0] rfl ?_)))
   refine Qaa (v:=bool true) rfl rfl rfl (Qac ?_)
   obtain rfl:=QsJ H
   subst Hx1_
   have H:=QsJ Hr1_
   subst H
   refine Qaq Tryz.func28 (v:=bool true) (res1 rfl rfl) ?_
   have hs:St _ [] _:=St.take (Γ':=[]) hs
   exact ⟨_,rfl,rfl,hs⟩
  intro hb
  rw [if_neg (b_beq_f hb)] at H
  show G _ _ _ _ [_,_,_,_,_,_,_,_,_,_,_,_,_,_,_,_,_,_] _
  refine Qac (Qal rfl (Qay ?_))
  refine QaH (Qag [0,1,2] rfl ?_)
  refine Qaa (v:=int .i64 x4) rfl rfl rfl ?_
  refine Qaa (v:=int .i64 (i64w (x4+1))) rfl rfl rfl ?_
  refine Qaa (v:=int .i64 (i64w (x4+1))) rfl rfl rfl ?_
  show G _ _ _ _ [_,_,_,_,_,_,_,_,_,_,_,_,_,_,_,_,_,_] _
  refine Qac ?_
  obtain rfl:=QsJ H
  have hs:St _ [] _:=St.take (Γ':=[]) hs
  exact ih1_ _ _ ⟨i64w (x4+1),Hx1_,rfl,hs⟩
 intro hb
 rw [if_neg (b_dec_f hb)] at H
 refine Qac (Qal rfl ?_)
 obtain rfl:=QsJ H
 subst Hx1_
 have hs:St _ [] _:=St.take (Γ':=[]) hs
 refine Qbc rfl ?_
 exact ha1_ _ _ ⟨Hr1_,rfl,hs⟩
end Go.Proofs.YtmineidejeacnaaGreatDoorX
