import Derived.Test.YtgoninfjneepfaaGreatDoorP7
namespace Go.Proofs.YtgoninfjneepfaaGreatDoorX
open Go Go.RowKit Go.Proofs
open Go.Value (int pointer bool agg slice string tuple)
set_option maxHeartbeats 8000000
set_option maxRecDepth 100000
set_option linter.unusedVariables false
set_option linter.unusedSimpArgs false
def Qak.post (w0:World) (r:Int) (v:Value) (w:World):Prop:=v=int .i64 r∧St w0 [] w
theorem Qak.calls {N:Nat} {a1:(List Int)} {v2:Value} {w0:World} {r:Int} (hr0:RdRow (K.int .i16) w0 v2 a1) (H:Qak.f N a1=some r):
 Calls Tryz.prog 58 #[v2,Value.func (Fn.func 36) #[] #[]] w0 fun e w=>∃ v,e= .returned v∧Qak.post w0 r v w:=by
 unfold Qak.f at H
 have hs:St w0 [] w0:=St.refl w0
 refine calls_of_g (n:=17) Tryz.func58 rfl rfl ?_
 show G _ _ _ _ [_,_,_,_,_,_,_,_,_,_,_,_,_,_,_,_,_,_,_] _
 refine Qad (Qag [0] rfl ?_)
 refine Qaa (v:=int .i64 0) rfl rfl rfl (Qab (Qad (Qad (Qag [0,1,2] rfl ?_))))
 refine Qaa (v:=v2) rfl rfl rfl ?_
 show G _ _ _ _ [_,_,_,_,_,_,_,_,_,_,_,_,_,_,_,_,_,_,_] _
 refine Qbc (hs.rd hr0) rfl rfl rfl rfl rfl ?_
 refine Qaa (v:=int .i64 0) rfl rfl rfl (Qab ?_)
 obtain ⟨o1_,Ho,Hr1_⟩:=bind_get H
 refine Qax (J:=fun t w=>Qak.a0 N=some r∧Fr t (fun O=>([O 0,O 1,O 2,O 3,O 4,O 5,O 6,O 7,O 8,O 9,O 10,O 11,O 12,O 13,O 14,O 15,O 16,O 17,O 18]:List Value))∧St w0 [] w) ?_ ?_
 ·
  rintro t w ⟨H,hf,hs⟩
  obtain ⟨O,rfl⟩:=hf.open
  show G _ _ _ _ [_,_,_,_,_,_,_,_,_,_,_,_,_,_,_,_,_,_,_] _
  unfold Qak.a0 at H
  refine Qad (Qag [0] rfl ?_)
  refine Qaa (v:=int .i64 (-1)) rfl rfl rfl ?_
  show G _ _ _ _ [_,_,_,_,_,_,_,_,_,_,_,_,_,_,_,_,_,_,_] _
  refine Qab ?_
  obtain rfl:=QsJ H
  refine Qas Tryz.func58 (v:=int .i64 (-1)) (res1 rfl rfl) ?_
  have hs:St _ [] _:=St.take (Γ':=[]) hs
  exact ⟨_,rfl,rfl,hs⟩
 intro ha1_
 have hs:St _ [] _:=St.take (Γ':=[]) hs
 refine QaL (I:=fun n_ t w=>∃ x3:Int,rounds (fun s=>Qak.b0 N a1 s) n_ x3=some o1_∧Fr t (fun O=>([v2,Value.func (Fn.func 36) #[] #[],O 2,O 3,O 4,O 5,O 6,int .i64 (a1.length:Int),int .i64 x3,O 9,O 10,O 11,O 12,O 13,O 14,O 15,O 16,O 17,O 18]:List Value))∧St w0 [] w) N ⟨0,Ho,rfl,hs⟩ ?_ ?_
 ·
  rintro _ _ ⟨x3,h,_⟩
  exact rounds_zero h
 intro n_ ih1_
 rintro t w ⟨x3,Ho,hf,hs⟩
 obtain ⟨O,rfl⟩:=hf.open
 show G _ _ _ _ [_,_,_,_,_,_,_,_,_,_,_,_,_,_,_,_,_,_,_] _
 obtain ⟨x2_,H,Hx1_⟩:=rounds_succ Ho
 have H:Qak.b0 N a1 x3=some x2_:=H
 unfold Qak.b0 at H
 refine Qad (Qag [0] rfl ?_)
 refine Qap (B:=decide (x3< (a1.length:Int))) rfl rfl rfl ?_ ?_
 ·
  intro hb
  rw [if_pos (b_dec_t hb)] at H
  refine Qab (Qad (Qah rfl (Qay (Qad ?_))))
  refine Qbh (Qad (Qag [0,1] rfl ?_))
  refine Qaa (v:=int .i64 x3) rfl rfl rfl ?_
  refine Qaa (v:=int .i64 x3) rfl rfl rfl ?_
  show G _ _ _ _ [_,_,_,_,_,_,_,_,_,_,_,_,_,_,_,_,_,_,_] _
  refine Qab (Qad (Qag [0,1,2,3,4,5] rfl ?_))
  refine Qaa (v:=Value.func (Fn.func 36) #[] #[]) rfl rfl rfl ?_
  refine Qaa (v:=v2) rfl rfl rfl ?_
  refine Qaa (v:=int .i64 x3) rfl rfl rfl ?_
  show G _ _ _ _ [_,_,_,_,_,_,_,_,_,_,_,_,_,_,_,_,_,_,_] _
  obtain ⟨g1,H⟩:=ite_get H
  refine Qbb (fkI .i16) 0 (hs.rd hr0) rfl (fun _=>rfl) g1.1 g1.2 rfl rfl rfl rfl rfl ?_
  intro p4 hp4 lp4 op4
  refine Qat rfl rfl (v:=int .i16 (rdL a1 x3 0)) rfl rfl (fun _=>rfl) hp4 ?_
  obtain ⟨r5,Hr5,H⟩:=bind_get H
  refine QaB (args:=[int .i16 (rdL a1 x3 0)]) rfl rfl (QcH rfl (callFunc_enter Tryz.func36 rfl rfl) rfl rfl) (Qbj.calls (a1:=rdL a1 x3 0) Hr5) ?_
  rintro _ w ⟨rfl,hs2⟩
  have hs:St _ [] _:=hs.call hs2
  cases r5 with
  |true=>
   rw [if_pos rfl] at H
   show G _ _ _ _ [_,_,_,_,_,_,_,_,_,_,_,_,_,_,_,_,_,_,_] _
   refine Qab (Qah rfl (Qad (Qag [0,1] rfl ?_)))
   refine Qaa (v:=int .i64 x3) rfl rfl rfl ?_
   refine Qaa (v:=int .i64 x3) rfl rfl rfl (Qab ?_)
   obtain rfl:=QsJ H
   subst Hx1_
   have H:=QsJ Hr1_
   subst H
   refine Qas Tryz.func58 (v:=int .i64 x3) (res1 rfl rfl) ?_
   have hs:St _ [] _:=St.take (Γ':=[]) hs
   exact ⟨_,rfl,rfl,hs⟩
  |false=>
   rw [if_neg Bool.false_ne_true] at H
   show G _ _ _ _ [_,_,_,_,_,_,_,_,_,_,_,_,_,_,_,_,_,_,_] _
   refine Qab (Qal rfl (Qay ?_))
   refine QaE (Qag [0,1] rfl ?_)
   refine Qaa (v:=int .i64 (i64w (x3+1))) rfl rfl rfl ?_
   refine Qaa (v:=int .i64 (i64w (x3+1))) rfl rfl rfl (Qab ?_)
   obtain rfl:=QsJ H
   have hs:St _ [] _:=St.take (Γ':=[]) hs
   exact ih1_ _ _ ⟨i64w (x3+1),Hx1_,rfl,hs⟩
 intro hb
 rw [if_neg (b_dec_f hb)] at H
 show G _ _ _ _ [_,_,_,_,_,_,_,_,_,_,_,_,_,_,_,_,_,_,_] _
 refine Qab (Qad (Qal rfl ?_))
 obtain rfl:=QsJ H
 subst Hx1_
 have hs:St _ [] _:=St.take (Γ':=[]) hs
 refine Qa7 rfl ?_
 exact ha1_ _ _ ⟨Hr1_,rfl,hs⟩
def QaA.post (w0:World) (r:Bool) (v:Value) (w:World):Prop:=v=bool r∧St w0 [] w
theorem QaA.calls {N:Nat} {a1:(List Int)} {v2:Value} {w0:World} {r:Bool} (hr0:RdRow (K.int .i16) w0 v2 a1) (H:QaA.f N a1=some r):
 Calls Tryz.prog 35 #[v2,Value.func (Fn.func 36) #[] #[]] w0 fun e w=>∃ v,e= .returned v∧QaA.post w0 r v w:=by
 unfold QaA.f at H
 have hs:St w0 [] w0:=St.refl w0
 refine calls_of_g (n:=7) Tryz.func35 rfl rfl ?_
 show G _ _ _ _ [_,_,_,_,_,_,_,_,_] _
 refine Qad (Qag [0] rfl ?_)
 refine Qaa (v:=bool false) rfl rfl rfl ?_
 show G _ _ _ _ [_,_,_,_,_,_,_,_,_] _
 refine Qab (Qad (Qag [0,1,2,3,4] rfl ?_))
 refine Qaa (v:=v2) rfl rfl rfl ?_
 refine Qaa (v:=Value.func (Fn.func 36) #[] #[]) rfl rfl rfl ?_
 obtain ⟨r3,Hr3,H⟩:=bind_get H
 refine QaB (args:=[v2,Value.func (Fn.func 36) #[] #[]]) rfl rfl (QaC rfl (callFunc_enter Tryz.func58 rfl rfl) rfl) (Qak.calls (a1:=a1) (hs.rd hr0) Hr3) ?_
 rintro _ w ⟨rfl,hs2⟩
 have hs:St _ [] _:=hs.call hs2
 show G _ _ _ _ [_,_,_,_,_,_,_,_,_] _
 refine Qaa (v:=bool (decide (r3≥0))) rfl rfl rfl ?_
 refine Qaa (v:=bool (decide (r3≥0))) rfl rfl rfl (Qab ?_)
 obtain rfl:=QsJ H
 refine Qas Tryz.func35 (v:=bool (decide (r3≥0))) (res1 rfl rfl) ?_
 have hs:St _ [] _:=St.take (Γ':=[]) hs
 exact ⟨_,rfl,rfl,hs⟩
def QaO.post (w0:World) (r:Int) (v:Value) (w:World):Prop:=v=int .i64 r∧St w0 [] w
theorem QaO.calls {N:Nat} {a1:(List Int)} {v2:Value} {w0:World} {r:Int} (hr0:RdRow (K.int .i16) w0 v2 a1) (H:QaO.f N a1=some r):
 Calls Tryz.prog 37 #[v2] w0 fun e w=>∃ v,e= .returned v∧QaO.post w0 r v w:=by
 unfold QaO.f at H
 have hs:St w0 [] w0:=St.refl w0
 refine calls_of_g (n:=18) Tryz.func37 rfl rfl ?_
 show G _ _ _ _ [_,_,_,_,_,_,_,_,_,_,_,_,_,_,_,_,_,_,_] _
 refine Qad (Qag [0] rfl ?_)
 refine Qaa (v:=int .i64 0) rfl rfl rfl ?_
 show G _ _ _ _ [_,_,_,_,_,_,_,_,_,_,_,_,_,_,_,_,_,_,_] _
 refine Qab (Qad (Qag [0] rfl ?_))
 refine Qaa (v:=int .i64 1) rfl rfl rfl (Qab (Qad (Qad (Qag [0,1,2] rfl ?_))))
 refine Qaa (v:=v2) rfl rfl rfl ?_
 refine Qbc (hs.rd hr0) rfl rfl rfl rfl rfl ?_
 show G _ _ _ _ [_,_,_,_,_,_,_,_,_,_,_,_,_,_,_,_,_,_,_] _
 refine Qaa (v:=int .i64 0) rfl rfl rfl (Qab ?_)
 obtain ⟨o1_,Ho,Hr1_⟩:=bind_get H
 refine Qax (J:=fun t w=>∃ x6:Int,QaO.a0 N x6=some r∧Fr t (fun O=>([O 0,O 1,O 2,int .i64 x6,O 4,O 5,O 6,O 7,O 8,O 9,O 10,O 11,O 12,O 13,O 14,O 15,O 16,O 17,O 18]:List Value))∧St w0 [] w) ?_ ?_
 ·
  rintro t w ⟨x6,H,hf,hs⟩
  obtain ⟨O,rfl⟩:=hf.open
  show G _ _ _ _ [_,_,_,_,_,_,_,_,_,_,_,_,_,_,_,_,_,_,_] _
  unfold QaO.a0 at H
  refine Qad (Qag [0,1] rfl ?_)
  refine Qaa (v:=int .i64 x6) rfl rfl rfl ?_
  show G _ _ _ _ [_,_,_,_,_,_,_,_,_,_,_,_,_,_,_,_,_,_,_] _
  refine Qaa (v:=int .i64 x6) rfl rfl rfl (Qab ?_)
  obtain rfl:=QsJ H
  refine Qas Tryz.func37 (v:=int .i64 x6) (res1 rfl rfl) ?_
  have hs:St _ [] _:=St.take (Γ':=[]) hs
  exact ⟨_,rfl,rfl,hs⟩
 intro ha1_
 have hs:St _ [] _:=St.take (Γ':=[]) hs
 refine QaL (I:=fun n_ t w=>∃ x3:Int,∃ x4:Int,rounds (fun s=>QaO.b0 N a1 s.1 s.2) n_ (x3,x4)=some o1_∧Fr t (fun O=>([O 0,O 1,O 2,int .i64 x3,O 4,O 5,v2,int .i64 (a1.length:Int),int .i64 x4,O 9,O 10,O 11,O 12,O 13,O 14,O 15,O 16,O 17,O 18]:List Value))∧St w0 [] w) N ⟨1,0,Ho,rfl,hs⟩ ?_ ?_
 ·
  rintro _ _ ⟨x3,x4,h,_⟩
  exact rounds_zero h
 intro n_ ih1_
 rintro t w ⟨x3,x4,Ho,hf,hs⟩
 obtain ⟨O,rfl⟩:=hf.open
 show G _ _ _ _ [_,_,_,_,_,_,_,_,_,_,_,_,_,_,_,_,_,_,_] _
 obtain ⟨x2_,H,Hx1_⟩:=rounds_succ Ho
 have H:QaO.b0 N a1 x3 x4=some x2_:=H
 unfold QaO.b0 at H
 refine Qad (Qag [0] rfl ?_)
 refine Qap (B:=decide (x4< (a1.length:Int))) rfl rfl rfl ?_ ?_
 ·
  intro hb
  rw [if_pos (b_dec_t hb)] at H
  show G _ _ _ _ [_,_,_,_,_,_,_,_,_,_,_,_,_,_,_,_,_,_,_] _
  refine Qab (Qad (Qah rfl (Qay (Qad ?_))))
  refine Qbh (Qad (Qag [0,1,2] rfl ?_))
  obtain ⟨g1,H⟩:=ite_get H
  refine Qbb (fkI .i16) 0 (hs.rd hr0) rfl (fun _=>rfl) g1.1 g1.2 rfl rfl rfl rfl rfl ?_
  intro p5 hp5 lp5 op5
  refine Qat rfl rfl (v:=int .i16 (rdL a1 x4 0)) rfl rfl (fun _=>rfl) hp5 ?_
  refine Qaa (v:=int .i16 (rdL a1 x4 0)) rfl rfl rfl ?_
  show G _ _ _ _ [_,_,_,_,_,_,_,_,_,_,_,_,_,_,_,_,_,_,_] _
  refine Qab (Qag [0,1,2,3,4,5] rfl ?_)
  refine Qaa (v:=int .i64 x3) rfl rfl rfl ?_
  refine Qaa (v:=int .i16 (rdL a1 x4 0)) rfl rfl rfl ?_
  refine Qaa (v:=int .i64 (i64w (rdL a1 x4 0))) rfl rfl rfl ?_
  show G _ _ _ _ [_,_,_,_,_,_,_,_,_,_,_,_,_,_,_,_,_,_,_] _
  refine Qaa (v:=int .i64 (i64w ((i64w (rdL a1 x4 0))+1))) rfl rfl rfl ?_
  refine Qaa (v:=int .i64 (i64w (x3*(i64w ((i64w (rdL a1 x4 0))+1))))) rfl rfl rfl ?_
  refine Qaa (v:=int .i64 (i64w (x3*(i64w ((i64w (rdL a1 x4 0))+1))))) rfl rfl rfl ?_
  show G _ _ _ _ [_,_,_,_,_,_,_,_,_,_,_,_,_,_,_,_,_,_,_] _
  refine Qab ?_
  refine QaE (Qag [0,1] rfl ?_)
  refine Qaa (v:=int .i64 (i64w (x4+1))) rfl rfl rfl ?_
  refine Qaa (v:=int .i64 (i64w (x4+1))) rfl rfl rfl (Qab ?_)
  obtain rfl:=QsJ H
  have hs:St _ [] _:=St.take (Γ':=[]) hs
  exact ih1_ _ _ ⟨i64w (x3*(i64w ((i64w (rdL a1 x4 0))+1))),i64w (x4+1),Hx1_,rfl,hs⟩
 intro hb
 rw [if_neg (b_dec_f hb)] at H
 refine Qab (Qad (Qal rfl ?_))
 obtain rfl:=QsJ H
 subst Hx1_
 have hs:St _ [] _:=St.take (Γ':=[]) hs
 refine Qa7 rfl ?_
 exact ha1_ _ _ ⟨x3,Hr1_,rfl,hs⟩
def Qa9.post (w0:World) (r:Bool) (v:Value) (w:World):Prop:=v=bool r∧St w0 [] w
theorem Qa9.calls {N:Nat} {a1:(List Int)} {v2:Value} {w0:World} {r:Bool} (hr0:RdRow (K.int .i16) w0 v2 a1) (H:Qa9.f N a1=some r):
 Calls Tryz.prog 11 #[v2] w0 fun e w=>∃ v,e= .returned v∧Qa9.post w0 r v w:=by
 unfold Qa9.f at H
 have hs:St w0 [] w0:=St.refl w0
 refine calls_of_g (n:=15) Tryz.func11 rfl rfl ?_
 show G _ _ _ _ [_,_,_,_,_,_,_,_,_,_,_,_,_,_,_,_] _
 refine Qad (Qag [0] rfl ?_)
 refine Qaa (v:=bool false) rfl rfl rfl (Qab (Qad (Qag [0,1,2,3,4,5,6,7,8,9,10,11,12,13] rfl ?_)))
 refine Qaa (v:=v2) rfl rfl rfl ?_
 obtain ⟨r3,Hr3,H⟩:=bind_get H
 refine QaB (args:=[v2]) rfl rfl (QaC rfl (callFunc_enter Tryz.func34 rfl rfl) rfl) (Qbw.calls (a1:=a1) (hs.rd hr0) Hr3) ?_
 rintro _ w ⟨rfl,hs2⟩
 have hs:St _ [] _:=hs.call hs2
 show G _ _ _ _ [_,_,_,_,_,_,_,_,_,_,_,_,_,_,_,_] _
 obtain ⟨r4,Hr4,H⟩:=bind_get H
 refine QaB (args:=[int .i64 r3,int .i64 1,int .i64 4]) rfl rfl (QaC rfl (callFunc_enter Tryz.func33 rfl rfl) rfl) (Qbl.calls (a1:=r3) (a2:=1) (a3:=4) Hr4) ?_
 rintro _ w ⟨rfl,hs2⟩
 have hs:St _ [] _:=hs.call hs2
 cases r4 with
 |true=>
  rw [if_pos rfl] at H
  refine Qaa (v:=bool true) rfl rfl rfl ?_
  refine Qaa (v:=v2) rfl rfl rfl ?_
  show G _ _ _ _ [_,_,_,_,_,_,_,_,_,_,_,_,_,_,_,_] _
  obtain ⟨r5,Hr5,H⟩:=bind_get H
  refine QaB (args:=[v2,Value.func (Fn.func 36) #[] #[]]) rfl rfl (QaC rfl (callFunc_enter Tryz.func35 rfl rfl) rfl) (QaA.calls (a1:=a1) (hs.rd hr0) Hr5) ?_
  rintro _ w ⟨rfl,hs2⟩
  have hs:St _ [] _:=hs.call hs2
  refine Qaa (v:=bool (!r5)) rfl rfl rfl ?_
  refine Qap (B:=!r5) rfl rfl rfl ?_ ?_
  ·
   intro hb
   rw [if_neg (b_not_t hb)] at H
   refine Qaa (v:=bool true) rfl rfl rfl ?_
   refine Qaa (v:=v2) rfl rfl rfl ?_
   show G _ _ _ _ [_,_,_,_,_,_,_,_,_,_,_,_,_,_,_,_] _
   obtain ⟨r6,Hr6,H⟩:=bind_get H
   refine QaB (args:=[v2]) rfl rfl (QaC rfl (callFunc_enter Tryz.func37 rfl rfl) rfl) (QaO.calls (a1:=a1) (hs.rd hr0) Hr6) ?_
   rintro _ w ⟨rfl,hs2⟩
   have hs:St _ [] _:=hs.call hs2
   refine Qaa (v:=bool (decide (r6≤3000))) rfl rfl rfl ?_
   refine Qaa (v:=bool (decide (r6≤3000))) rfl rfl rfl ?_
   show G _ _ _ _ [_,_,_,_,_,_,_,_,_,_,_,_,_,_,_,_] _
   refine Qaa (v:=bool (decide (r6≤3000))) rfl rfl rfl (Qab ?_)
   obtain rfl:=QsJ H
   refine Qas Tryz.func11 (v:=bool (decide (r6≤3000))) (res1 rfl rfl) ?_
   have hs:St _ [] _:=St.take (Γ':=[]) hs
   exact ⟨_,rfl,rfl,hs⟩
  intro hb
  rw [if_pos (b_not_f hb)] at H
  show G _ _ _ _ [_,_,_,_,_,_,_,_,_,_,_,_,_,_,_,_] _
  refine Qaa (v:=bool false) rfl rfl rfl (Qac rfl rfl (Qac rfl rfl ?_))
  show G _ _ _ _ [_,_,_,_,_,_,_,_,_,_,_,_,_,_,_,_] _
  refine Qac rfl rfl ?_
  refine Qaa (v:=bool false) rfl rfl rfl ?_
  refine Qaa (v:=bool false) rfl rfl rfl ?_
  show G _ _ _ _ [_,_,_,_,_,_,_,_,_,_,_,_,_,_,_,_] _
  refine Qab ?_
  obtain rfl:=QsJ H
  refine Qas Tryz.func11 (v:=bool false) (res1 rfl rfl) ?_
  have hs:St _ [] _:=St.take (Γ':=[]) hs
  exact ⟨_,rfl,rfl,hs⟩
 |false=>
  rw [if_neg Bool.false_ne_true] at H
  refine Qaa (v:=bool false) rfl rfl rfl (Qac rfl rfl ?_)
  show G _ _ _ _ [_,_,_,_,_,_,_,_,_,_,_,_,_,_,_,_] _
  refine Qac rfl rfl (Qac rfl rfl ?_)
  refine Qaa (v:=bool false) rfl rfl rfl ?_
  show G _ _ _ _ [_,_,_,_,_,_,_,_,_,_,_,_,_,_,_,_] _
  refine Qaa (v:=bool false) rfl rfl rfl (Qac rfl rfl (Qac rfl rfl ?_))
  show G _ _ _ _ [_,_,_,_,_,_,_,_,_,_,_,_,_,_,_,_] _
  refine Qac rfl rfl ?_
  refine Qaa (v:=bool false) rfl rfl rfl ?_
  refine Qaa (v:=bool false) rfl rfl rfl ?_
  show G _ _ _ _ [_,_,_,_,_,_,_,_,_,_,_,_,_,_,_,_] _
  refine Qab ?_
  obtain rfl:=QsJ H
  refine Qas Tryz.func11 (v:=bool false) (res1 rfl rfl) ?_
  have hs:St _ [] _:=St.take (Γ':=[]) hs
  exact ⟨_,rfl,rfl,hs⟩
def QaF.post (w0:World) (r:Bool) (v:Value) (w:World):Prop:=v=bool r∧St w0 [] w
theorem QaF.calls {N:Nat} {a1:QbE} {a4:(Ar Int 4)} {v2:Value} {w0:World} {r:Bool} (hr3:RdRow (K.int .i16) w0 v2 a1.QbS) (H:QaF.f N a1 a4=some r):
 Calls Tryz.prog 38 #[agg (([v2]:List Value)++((encA (encI .i16)) a1.Qb0++(([bool a1.Qcb]:List Value)))).toArray,agg ((encA (encI .i16)) a4).toArray] w0 fun e w=>∃ v,e= .returned v∧QaF.post w0 r v w:=by
 unfold QaF.f at H
 have hs:St w0 [] w0:=St.refl w0
 refine calls_of_g (n:=29) Tryz.func38 rfl rfl ?_
 show G _ _ _ _ [_,_,_,_,_,_,_,_,_,_,_,_,_,_,_,_,_,_,_,_,_,_,_,_,_,_,_,_,_,_,_] _
 refine Qad (Qag [0,1,2] rfl ?_)
 refine Qbq hs rfl rfl (cs:=(([v2]:List Value)++((encA (encI .i16)) a1.Qb0++(([bool a1.Qcb]:List Value))))) rfl rfl ?_
 intro b5 w hs
 show G _ _ _ _ [_,_,_,_,_,_,_,_,_,_,_,_,_,_,_,_,_,_,_,_,_,_,_,_,_,_,_,_,_,_,_] _
 refine Qbq hs rfl rfl (cs:=((encA (encI .i16)) a4)) rfl rfl ?_
 intro b7 w hs
 refine Qaa (v:=bool false) rfl rfl rfl (Qab (Qad (Qad (Qag [0,1] rfl ?_))))
 refine QaG rfl rfl (es:=((encA (encI .i16)) a4)) rfl rfl (fun _=>rfl) (n:=4) (fun _=>rfl) ((fkA (n:=4) (he:=(fkI .i16).len) (h1:=(fkI .i16).one)).len _) (cells_all (hs.cells 0 rfl)) ?_
 show G _ _ _ _ [_,_,_,_,_,_,_,_,_,_,_,_,_,_,_,_,_,_,_,_,_,_,_,_,_,_,_,_,_,_,_] _
 refine Qaa (v:=int .i64 0) rfl rfl rfl (Qab ?_)
 obtain ⟨o1_,Ho,Hr1_⟩:=bind_get H
 refine Qax (J:=fun t w=>QaF.a0 N=some r∧Fr t (fun O=>([O 0,O 1,O 2,O 3,O 4,O 5,O 6,O 7,O 8,O 9,O 10,O 11,O 12,O 13,O 14,O 15,O 16,O 17,O 18,O 19,O 20,O 21,O 22,O 23,O 24,O 25,O 26,O 27,O 28,O 29,O 30]:List Value))∧St w0 [] w) ?_ ?_
 ·
  rintro t w ⟨H,hf,hs⟩
  obtain ⟨O,rfl⟩:=hf.open
  show G _ _ _ _ [_,_,_,_,_,_,_,_,_,_,_,_,_,_,_,_,_,_,_,_,_,_,_,_,_,_,_,_,_,_,_] _
  unfold QaF.a0 at H
  refine Qad (Qag [0] rfl ?_)
  refine Qaa (v:=bool true) rfl rfl rfl (Qab ?_)
  obtain rfl:=QsJ H
  refine Qas Tryz.func38 (v:=bool true) (res1 rfl rfl) ?_
  have hs:St _ [] _:=St.take (Γ':=[]) hs
  exact ⟨_,rfl,rfl,hs⟩
 intro ha1_
 have hs:=hs.pull 1 rfl
 have hs:St _ [_] _:=St.take (Γ':=[_]) hs
 refine QaL (I:=fun n_ t w=>∃ x9:Int,rounds (fun s=>QaF.b0 N a1 a4 s) n_ x9=some o1_∧Fr t (fun O=>([O 0,O 1,pointer (some ⟨b5,0,none⟩),O 3,O 4,O 5,O 6,O 7,agg ((encA (encI .i16)) a4).toArray,int .i64 x9,O 10,O 11,O 12,O 13,O 14,O 15,O 16,O 17,O 18,O 19,O 20,O 21,O 22,O 23,O 24,O 25,O 26,O 27,O 28,O 29,O 30]:List Value))∧St w0 [Cells b5 (([v2]:List Value)++((encA (encI .i16)) a1.Qb0++(([bool a1.Qcb]:List Value)))) 69] w) N ⟨0,Ho,rfl,hs⟩ ?_ ?_
 ·
  rintro _ _ ⟨x9,h,_⟩
  exact rounds_zero h
 intro n_ ih1_
 rintro t w ⟨x9,Ho,hf,hs⟩
 obtain ⟨O,rfl⟩:=hf.open
 show G _ _ _ _ [_,_,_,_,_,_,_,_,_,_,_,_,_,_,_,_,_,_,_,_,_,_,_,_,_,_,_,_,_,_,_] _
 obtain ⟨x3_,H,Hx1_⟩:=rounds_succ Ho
 have H:QaF.b0 N a1 a4 x9=some x3_:=H
 unfold QaF.b0 at H
 refine Qad (Qag [0] rfl ?_)
 refine Qap (B:=decide (x9< 4)) rfl rfl rfl ?_ ?_
 ·
  intro hb
  rw [if_pos (b_dec_t hb)] at H
  refine Qab (Qad (Qah rfl (Qay (Qad ?_))))
  refine Qbh (Qad (Qag [0,1,2,3] rfl ?_))
  refine Qaa (v:=int .i64 x9) rfl rfl rfl ?_
  obtain ⟨g1,H⟩:=ite_get H
  refine Qcf (enc:=(encI .i16)) (c:=int .i16) (fun _=>rfl) 0 rfl (fun _=>rfl) (fun _=>rfl) g1.1 g1.2 rfl rfl rfl rfl rfl ?_
  show G _ _ _ _ [_,_,_,_,_,_,_,_,_,_,_,_,_,_,_,_,_,_,_,_,_,_,_,_,_,_,_,_,_,_,_] _
  refine Qaa (v:=int .i64 x9) rfl rfl rfl ?_
  refine Qaa (v:=int .i16 (a4.get x9 0)) rfl rfl rfl (Qab (Qad (Qag [0] rfl ?_)))
  refine Qaa (v:=int .i16 0) rfl rfl rfl ?_
  show G _ _ _ _ [_,_,_,_,_,_,_,_,_,_,_,_,_,_,_,_,_,_,_,_,_,_,_,_,_,_,_,_,_,_,_] _
  refine Qab (Qad (Qad ?_))
  refine Qb1 (J:=(fun t w=>∃ x11:Int,QaF.j2 N a4 x9 x11=some x3_∧Fr t (fun O=>([O 0,O 1,pointer (some ⟨b5,0,none⟩),O 3,O 4,O 5,int .i16 (a4.get x9 0),int .i16 x11,agg ((encA (encI .i16)) a4).toArray,int .i64 x9,O 10,O 11,O 12,O 13,O 14,O 15,O 16,O 17,O 18,O 19,O 20,O 21,O 22,O 23,O 24,O 25,O 26,O 27,O 28,O 29,O 30]:List Value))∧St w0 [Cells b5 (([v2]:List Value)++((encA (encI .i16)) a1.Qb0++(([bool a1.Qcb]:List Value)))) 69] w)) ?_ ?_
  ·
   rintro t w ⟨x11,H,hf,hs⟩
   obtain ⟨O,rfl⟩:=hf.open
   show G _ _ _ _ [_,_,_,_,_,_,_,_,_,_,_,_,_,_,_,_,_,_,_,_,_,_,_,_,_,_,_,_,_,_,_] _
   unfold QaF.j2 at H
   refine Qad (Qag [0,1,2,3,4,5,6] rfl ?_)
   refine Qaa (v:=int .i16 (a4.get x9 0)) rfl rfl rfl ?_
   refine Qap (B:=decide ((a4.get x9 0)< 0)) rfl rfl rfl ?_ ?_
   ·
    intro hb
    rw [if_pos (b_dec_t hb)] at H
    refine Qaa (v:=bool true) rfl rfl rfl (Qac rfl rfl (Qac rfl rfl (Qac rfl rfl ?_)))
    refine Qaa (v:=bool true) rfl rfl rfl ?_
    show G _ _ _ _ [_,_,_,_,_,_,_,_,_,_,_,_,_,_,_,_,_,_,_,_,_,_,_,_,_,_,_,_,_,_,_] _
    refine Qab (Qah rfl (Qad (Qag [0] rfl ?_)))
    refine Qaa (v:=bool false) rfl rfl rfl (Qab ?_)
    obtain rfl:=QsJ H
    subst Hx1_
    have H:=QsJ Hr1_
    subst H
    refine Qas Tryz.func38 (v:=bool false) (res1 rfl rfl) ?_
    have hs:St _ [] _:=St.take (Γ':=[_]) hs
    exact ⟨_,rfl,rfl,hs⟩
   intro hb
   rw [if_neg (b_dec_f hb)] at H
   show G _ _ _ _ [_,_,_,_,_,_,_,_,_,_,_,_,_,_,_,_,_,_,_,_,_,_,_,_,_,_,_,_,_,_,_] _
   refine Qaa (v:=bool false) rfl rfl rfl ?_
   refine Qaa (v:=int .i16 (a4.get x9 0)) rfl rfl rfl ?_
   refine Qaa (v:=int .i16 x11) rfl rfl rfl ?_
   refine Qap (B:=decide ((a4.get x9 0)>x11)) rfl rfl rfl ?_ ?_
   ·
    intro hb
    rw [if_pos (b_dec_t hb)] at H
    refine Qaa (v:=bool true) rfl rfl rfl (Qab (Qah rfl (Qad (Qag [0] rfl ?_))))
    refine Qaa (v:=bool false) rfl rfl rfl ?_
    show G _ _ _ _ [_,_,_,_,_,_,_,_,_,_,_,_,_,_,_,_,_,_,_,_,_,_,_,_,_,_,_,_,_,_,_] _
    refine Qab ?_
    obtain rfl:=QsJ H
    subst Hx1_
    have H:=QsJ Hr1_
    subst H
    refine Qas Tryz.func38 (v:=bool false) (res1 rfl rfl) ?_
    have hs:St _ [] _:=St.take (Γ':=[_]) hs
    exact ⟨_,rfl,rfl,hs⟩
   intro hb
   rw [if_neg (b_dec_f hb)] at H
   refine Qaa (v:=bool false) rfl rfl rfl (Qab (Qal rfl (Qay ?_)))
   refine QaE (Qag [0,1] rfl ?_)
   refine Qaa (v:=int .i64 (i64w (x9+1))) rfl rfl rfl ?_
   show G _ _ _ _ [_,_,_,_,_,_,_,_,_,_,_,_,_,_,_,_,_,_,_,_,_,_,_,_,_,_,_,_,_,_,_] _
   refine Qaa (v:=int .i64 (i64w (x9+1))) rfl rfl rfl (Qab ?_)
   obtain rfl:=QsJ H
   have hs:=hs.pull 0 rfl
   have hs:St _ [_] _:=St.take (Γ':=[]) hs
   exact ih1_ _ _ ⟨i64w (x9+1),Hx1_,rfl,hs⟩
  intro ha
  refine Qag [0,1,2,3,4] rfl ?_
  refine Qaa (v:=int .i64 x9) rfl rfl rfl ?_
  refine Qaa (v:=pointer (some ⟨b5,0,none⟩)) rfl rfl rfl ?_
  refine Qat rfl rfl (v:=v2) rfl rfl (fun _=>rfl) (cells_load (hs.cells 0 rfl) 0 1 rfl) ?_
  refine Qbc (hs.rd hr3) rfl rfl rfl rfl rfl ?_
  refine Qap (B:=decide (x9< (a1.QbS.length:Int))) rfl rfl rfl ?_ ?_
  ·
   intro hb
   rw [if_pos (b_dec_t hb)] at H
   refine Qab (Qah rfl (Qag [0,1,2,3,4,5] rfl ?_))
   refine Qaa (v:=pointer (some ⟨b5,0,none⟩)) rfl rfl rfl ?_
   refine Qat rfl rfl (v:=v2) rfl rfl (fun _=>rfl) (cells_load (hs.cells 0 rfl) 0 1 rfl) ?_
   refine Qaa (v:=int .i64 x9) rfl rfl rfl ?_
   obtain ⟨g2,H⟩:=ite_get H
   refine Qbb (fkI .i16) 0 (hs.rd hr3) rfl (fun _=>rfl) g2.1 g2.2 rfl rfl rfl rfl rfl ?_
   intro p10 hp10 lp10 op10
   show G _ _ _ _ [_,_,_,_,_,_,_,_,_,_,_,_,_,_,_,_,_,_,_,_,_,_,_,_,_,_,_,_,_,_,_] _
   refine Qat rfl rfl (v:=int .i16 (rdL a1.QbS x9 0)) rfl rfl (fun _=>rfl) hp10 ?_
   refine Qaa (v:=int .i16 (rdL a1.QbS x9 0)) rfl rfl rfl (Qab ?_)
   have hs:=hs.pull 0 rfl
   have hs:St _ [_] _:=St.take (Γ':=[]) hs
   exact ha _ _ ⟨rdL a1.QbS x9 0,H,rfl,hs⟩
  intro hb
  rw [if_neg (b_dec_f hb)] at H
  show G _ _ _ _ [_,_,_,_,_,_,_,_,_,_,_,_,_,_,_,_,_,_,_,_,_,_,_,_,_,_,_,_,_,_,_] _
  refine Qab (Qal rfl (Qay ?_))
  have hs:=hs.pull 0 rfl
  have hs:St _ [_] _:=St.take (Γ':=[]) hs
  exact ha _ _ ⟨0,H,rfl,hs⟩
 intro hb
 rw [if_neg (b_dec_f hb)] at H
 refine Qab (Qad (Qal rfl ?_))
 obtain rfl:=QsJ H
 subst Hx1_
 have hs:St _ [] _:=St.take (Γ':=[_]) hs
 refine Qa7 rfl ?_
 exact ha1_ _ _ ⟨Hr1_,rfl,hs⟩
def QaM.post (w0:World) (r:Bool) (v:Value) (w:World):Prop:=v=bool r∧St w0 [] w
theorem QaM.calls {N:Nat} {a1:(List Int)} {a3:(Ar Int 4)} {v2:Value} {w0:World} {r:Bool} (hr0:RdRow (K.int .i16) w0 v2 a1) (H:QaM.f N a1 a3=some r):
 Calls Tryz.prog 12 #[v2,agg ((encA (encI .i16)) a3).toArray] w0 fun e w=>∃ v,e= .returned v∧QaM.post w0 r v w:=by
 unfold QaM.f at H
 have hs:St w0 [] w0:=St.refl w0
 refine calls_of_g (n:=11) Tryz.func12 rfl rfl ?_
 show G _ _ _ _ [_,_,_,_,_,_,_,_,_,_,_,_,_] _
 refine Qad (Qag [0,1] rfl ?_)
 refine Qbq hs rfl rfl (cs:=((encA (encI .i16)) a3)) rfl rfl ?_
 intro b4 w hs
 refine Qaa (v:=bool false) rfl rfl rfl (Qab (Qad (Qag [0,1,2,3,4,5,6,7,8] rfl ?_)))
 refine Qaa (v:=v2) rfl rfl rfl ?_
 show G _ _ _ _ [_,_,_,_,_,_,_,_,_,_,_,_,_] _
 obtain ⟨r6,Hr6,H⟩:=bind_get H
 refine QaB (args:=[v2]) rfl rfl (QaC rfl (callFunc_enter Tryz.func11 rfl rfl) rfl) (Qa9.calls (a1:=a1) (hs.rd hr0) Hr6) ?_
 rintro _ w ⟨rfl,hs2⟩
 have hs:St _ [_] _:=hs.call hs2
 cases r6 with
 |true=>
  rw [if_pos rfl] at H
  show G _ _ _ _ [_,_,_,_,_,_,_,_,_,_,_,_,_] _
  refine Qaa (v:=bool true) rfl rfl rfl ?_
  refine Qaa (v:=v2) rfl rfl rfl ?_
  show G _ _ _ _ [_,_,_,_,_,_,_,_,_,_,_,_,_] _
  refine Qaa (v:=agg (([v2]:List Value)++((encA (encI .i16)) (Ar.rep 4 0)++(([bool false]:List Value)))).toArray) rfl rfl (QbW (cs:=(([v2]:List Value)++((encA (encI .i16)) (Ar.rep 4 0)++(([bool false]:List Value))))) (segs:=[[slice none 0 0],[int .i16 0,int .i16 0,int .i16 0,int .i16 0],[bool false]]) rfl rfl (fun _=>rfl) ⟨rfl,(fun _=>rfl),rfl,(fun _=>rfl),rfl,(fun _=>rfl),trivial⟩ (by simp only [List.map_cons,List.map_nil,List.forall_mem_cons,List.not_mem_nil,false_implies,implies_true,and_true];exact ⟨_,rfl,slSize (hs.rd hr0)⟩) (by first|rfl|(simp [ev,encA,slCells (hs.rd hr0)];done)|(simp [ev,encA,slCells (hs.rd hr0)];rfl))) ?_
  show G _ _ _ _ [_,_,_,_,_,_,_,_,_,_,_,_,_] _
  refine QaG rfl rfl (es:=((encA (encI .i16)) a3)) rfl rfl (fun _=>rfl) (n:=4) (fun _=>rfl) ((fkA (n:=4) (he:=(fkI .i16).len) (h1:=(fkI .i16).one)).len _) (cells_all (hs.cells 0 rfl)) ?_
  obtain ⟨r7,Hr7,H⟩:=bind_get H
  refine QaB (args:=[agg (([v2]:List Value)++((encA (encI .i16)) (Ar.rep 4 0)++(([bool false]:List Value)))).toArray,agg ((encA (encI .i16)) a3).toArray]) rfl rfl (QaC rfl (callFunc_enter Tryz.func38 rfl rfl) rfl) (QaF.calls (a1:=(⟨a1,(Ar.rep 4 0),false⟩:QbE)) (a4:=a3) (hs.rd hr0) Hr7) ?_
  rintro _ w ⟨rfl,hs2⟩
  have hs:St _ [_] _:=hs.call hs2
  refine Qaa (v:=bool r7) rfl rfl rfl ?_
  show G _ _ _ _ [_,_,_,_,_,_,_,_,_,_,_,_,_] _
  refine Qaa (v:=bool r7) rfl rfl rfl (Qab ?_)
  obtain rfl:=QsJ H
  refine Qas Tryz.func12 (v:=bool r7) (res1 rfl rfl) ?_
  have hs:St _ [] _:=St.take (Γ':=[_]) hs
  exact ⟨_,rfl,rfl,hs⟩
 |false=>
  rw [if_neg Bool.false_ne_true] at H
  refine Qaa (v:=bool false) rfl rfl rfl (Qac rfl rfl ?_)
  show G _ _ _ _ [_,_,_,_,_,_,_,_,_,_,_,_,_] _
  refine Qac rfl rfl (Qac rfl rfl (Qac rfl rfl ?_))
  show G _ _ _ _ [_,_,_,_,_,_,_,_,_,_,_,_,_] _
  refine Qaa (v:=bool false) rfl rfl rfl ?_
  refine Qaa (v:=bool false) rfl rfl rfl (Qab ?_)
  obtain rfl:=QsJ H
  refine Qas Tryz.func12 (v:=bool false) (res1 rfl rfl) ?_
  have hs:St _ [] _:=St.take (Γ':=[_]) hs
  exact ⟨_,rfl,rfl,hs⟩
def Qba.post (w0:World) (r:Bool) (v:Value) (w:World):Prop:=v=bool r∧St w0 [] w
theorem Qba.calls {N:Nat} {a1:(List Int)} {a3:Int} {v2:Value} {w0:World} {r:Bool} (hr0:RdRow (K.int .i16) w0 v2 a1) (H:Qba.f N a1 a3=some r):
 Calls Tryz.prog 24 #[v2,int .u8 a3] w0 fun e w=>∃ v,e= .returned v∧Qba.post w0 r v w:=by
 unfold Qba.f at H
 have hs:St w0 [] w0:=St.refl w0
 refine calls_of_g (n:=9) Tryz.func24 rfl rfl ?_
 show G _ _ _ _ [_,_,_,_,_,_,_,_,_,_,_] _
 refine Qad (Qag [0] rfl ?_)
 refine Qaa (v:=bool false) rfl rfl rfl (Qab (Qad (Qag [0,1,2,3,4,5,6] rfl ?_)))
 refine Qaa (v:=int .u8 a3) rfl rfl rfl ?_
 show G _ _ _ _ [_,_,_,_,_,_,_,_,_,_,_] _
 refine Qaa (v:=int .i64 (i64w a3)) rfl rfl rfl ?_
 refine Qaa (v:=v2) rfl rfl rfl ?_
 refine Qbc (hs.rd hr0) rfl rfl rfl rfl rfl ?_
 show G _ _ _ _ [_,_,_,_,_,_,_,_,_,_,_] _
 obtain ⟨g1,H⟩:=ite_get H
 refine Qaa (v:=int .i64 (shlI .i64 1 (a1.length:Int))) rfl rfl (Qce rfl rfl rfl g1) ?_
 refine Qaa (v:=bool (decide ((i64w a3)< (shlI .i64 1 (a1.length:Int))))) rfl rfl rfl ?_
 refine Qaa (v:=bool (decide ((i64w a3)< (shlI .i64 1 (a1.length:Int))))) rfl rfl rfl ?_
 show G _ _ _ _ [_,_,_,_,_,_,_,_,_,_,_] _
 refine Qab ?_
 obtain rfl:=QsJ H
 refine Qas Tryz.func24 (v:=bool (decide ((i64w a3)< (shlI .i64 1 (a1.length:Int))))) (res1 rfl rfl) ?_
 have hs:St _ [] _:=St.take (Γ':=[]) hs
 exact ⟨_,rfl,rfl,hs⟩
def Qao.post (w0:World) (r:(Ar Int 4)) (v:Value) (w:World):Prop:=v=agg ((encA (encI .i16)) r).toArray∧St w0 [] w
theorem Qao.calls {N:Nat} {a1:(List Int)} {a3:(Ar Int 4)} {a4:Int} {v2:Value} {w0:World} {r:(Ar Int 4)} (hr0:RdRow (K.int .i16) w0 v2 a1) (H:Qao.f N a1 a3 a4=some r):
 Calls Tryz.prog 25 #[v2,agg ((encA (encI .i16)) a3).toArray,int .u8 a4] w0 fun e w=>∃ v,e= .returned v∧Qao.post w0 r v w:=by
 unfold Qao.f at H
 have hs:St w0 [] w0:=St.refl w0
 refine calls_of_g (n:=27) Tryz.func25 rfl rfl ?_
 show G _ _ _ _ [_,_,_,_,_,_,_,_,_,_,_,_,_,_,_,_,_,_,_,_,_,_,_,_,_,_,_,_,_,_] _
 refine Qad (Qag [0,1] rfl ?_)
 refine Qbq hs rfl rfl (cs:=((encA (encI .i16)) a3)) rfl rfl ?_
 intro b5 w hs
 refine Qa8 hs rfl rfl (z:=(agg #[int .i16 0,int .i16 0,int .i16 0,int .i16 0])) (cs:=((encA (encI .i16)) (Ar.rep 4 0))) rfl (fun _=>rfl) rfl ?_
 intro b7 w hs
 refine Qab (Qad (Qad (Qag [0,1,2] rfl ?_)))
 refine Qaa (v:=v2) rfl rfl rfl ?_
 refine Qbc (hs.rd hr0) rfl rfl rfl rfl rfl ?_
 show G _ _ _ _ [_,_,_,_,_,_,_,_,_,_,_,_,_,_,_,_,_,_,_,_,_,_,_,_,_,_,_,_,_,_] _
 refine Qaa (v:=int .i64 0) rfl rfl rfl (Qab ?_)
 obtain ⟨o1_,Ho,Hr1_⟩:=bind_get H
 refine Qax (J:=fun t w=>∃ x16:(Ar Int 4),Qao.a0 N x16=some r∧Fr t (fun O=>([O 0,O 1,O 2,O 3,pointer (some ⟨b5,0,none⟩),O 5,pointer (some ⟨b7,0,none⟩),O 7,O 8,O 9,O 10,O 11,O 12,O 13,O 14,O 15,O 16,O 17,O 18,O 19,O 20,O 21,O 22,O 23,O 24,O 25,O 26,O 27,O 28,O 29]:List Value))∧St w0 [Cells b5 ((encA (encI .i16)) x16) 28,Cells b7 ((encA (encI .i16)) (Ar.rep 4 0)) 28] w) ?_ ?_
 ·
  rintro t w ⟨x16,H,hf,hs⟩
  obtain ⟨O,rfl⟩:=hf.open
  show G _ _ _ _ [_,_,_,_,_,_,_,_,_,_,_,_,_,_,_,_,_,_,_,_,_,_,_,_,_,_,_,_,_,_] _
  unfold Qao.a0 at H
  refine Qad (Qag [0,1] rfl ?_)
  refine QaG rfl rfl (es:=((encA (encI .i16)) x16)) rfl rfl (fun _=>rfl) (n:=4) (fun _=>rfl) ((fkA (n:=4) (he:=(fkI .i16).len) (h1:=(fkI .i16).one)).len _) (cells_all (hs.cells 0 rfl)) ?_
  have hs:St _ [_,_] _:=hs.pull 1 rfl
  refine QaH (n:=4) hs ((fkA (n:=4) (he:=(fkI .i16).len) (h1:=(fkI .i16).one)).len _) rfl rfl (vs:=((encA (encI .i16)) x16)) rfl rfl rfl (fun _=>rfl) ((fkA (n:=4) (he:=(fkI .i16).len) (h1:=(fkI .i16).one)).len _) ((fkA (n:=4) (he:=(fkI .i16).len) (h1:=(fkI .i16).one)).one _) ?_
  intro w hs
  refine Qab ?_
  obtain rfl:=QsJ H
  refine Qas Tryz.func25 (v:=agg ((encA (encI .i16)) x16).toArray) (resC rfl ⟨⟨_,rfl,(run_loadVar_agg (es:=((encA (encI .i16)) x16)) rfl (congrArg (Result.ok · _) ((fkA (n:=4) (he:=(fkI .i16).len) (h1:=(fkI .i16).one)).len _).symm) (cells_all (hs.cells 0 rfl)))⟩,trivial⟩) ?_
  have hs:St _ [] _:=St.take (Γ':=[_,_]) hs
  exact ⟨_,rfl,rfl,hs⟩
 intro ha1_
 have hs:=hs.pull 0 rfl
 have hs:=hs.pull 1 rfl
 have hs:St _ [_,_] _:=St.take (Γ':=[]) hs
 refine QaL (I:=fun n_ t w=>∃ x12:(Ar Int 4),∃ x13:Int,rounds (fun s=>Qao.b0 N a1 a4 s.1 s.2) n_ (x12,x13)=some o1_∧Fr t (fun O=>([O 0,O 1,int .u8 a4,O 3,pointer (some ⟨b5,0,none⟩),O 5,pointer (some ⟨b7,0,none⟩),O 7,O 8,v2,int .i64 (a1.length:Int),int .i64 x13,O 12,O 13,O 14,O 15,O 16,O 17,O 18,O 19,O 20,O 21,O 22,O 23,O 24,O 25,O 26,O 27,O 28,O 29]:List Value))∧St w0 [Cells b5 ((encA (encI .i16)) x12) 28,Cells b7 ((encA (encI .i16)) (Ar.rep 4 0)) 28] w) N ⟨a3,0,Ho,rfl,hs⟩ ?_ ?_
 ·
  rintro _ _ ⟨x12,x13,h,_⟩
  exact rounds_zero h
 intro n_ ih1_
 rintro t w ⟨x12,x13,Ho,hf,hs⟩
 obtain ⟨O,rfl⟩:=hf.open
 show G _ _ _ _ [_,_,_,_,_,_,_,_,_,_,_,_,_,_,_,_,_,_,_,_,_,_,_,_,_,_,_,_,_,_] _
 obtain ⟨x9_,H,Hx1_⟩:=rounds_succ Ho
 have H:Qao.b0 N a1 a4 x12 x13=some x9_:=H
 unfold Qao.b0 at H
 refine Qad (Qag [0] rfl ?_)
 refine Qap (B:=decide (x13< (a1.length:Int))) rfl rfl rfl ?_ ?_
 ·
  intro hb
  rw [if_pos (b_dec_t hb)] at H
  refine Qab (Qad (Qah rfl (Qay (Qad ?_))))
  refine Qax (J:=(fun t w=>∃ x15:(Ar Int 4),Qao.j2 N x13 x15=some x9_∧Fr t (fun O=>([O 0,O 1,int .u8 a4,O 3,pointer (some ⟨b5,0,none⟩),O 5,pointer (some ⟨b7,0,none⟩),O 7,O 8,v2,int .i64 (a1.length:Int),int .i64 x13,O 12,O 13,O 14,O 15,O 16,O 17,O 18,O 19,O 20,O 21,O 22,O 23,O 24,O 25,O 26,O 27,O 28,O 29]:List Value))∧St w0 [Cells b5 ((encA (encI .i16)) x15) 28,Cells b7 ((encA (encI .i16)) (Ar.rep 4 0)) 28] w)) ?_ ?_
  ·
   rintro t w ⟨x15,H,hf,hs⟩
   obtain ⟨O,rfl⟩:=hf.open
   show G _ _ _ _ [_,_,_,_,_,_,_,_,_,_,_,_,_,_,_,_,_,_,_,_,_,_,_,_,_,_,_,_,_,_] _
   unfold Qao.j2 at H
   refine Qag [0,1] rfl ?_
   refine Qaa (v:=int .i64 (i64w (x13+1))) rfl rfl rfl ?_
   refine Qaa (v:=int .i64 (i64w (x13+1))) rfl rfl rfl (Qab ?_)
   obtain rfl:=QsJ H
   have hs:=hs.pull 1 rfl
   have hs:=hs.pull 1 rfl
   have hs:St _ [_,_] _:=St.take (Γ':=[]) hs
   exact ih1_ _ _ ⟨x15,i64w (x13+1),Hx1_,rfl,hs⟩
  intro ha
  refine Qad (Qag [0,1,2,3,4] rfl ?_)
  refine Qaa (v:=int .i64 x13) rfl rfl rfl ?_
  obtain ⟨g5,H⟩:=ite_get H
  refine Qbb (fkI .i16) 0 (hs.rd hr0) rfl (fun _=>rfl) g5.1 g5.2 rfl rfl rfl rfl rfl ?_
  intro p14 hp14 lp14 op14
  show G _ _ _ _ [_,_,_,_,_,_,_,_,_,_,_,_,_,_,_,_,_,_,_,_,_,_,_,_,_,_,_,_,_,_] _
  refine Qat rfl rfl (v:=int .i16 (rdL a1 x13 0)) rfl rfl (fun _=>rfl) hp14 ?_
  refine Qaa (v:=int .i64 x13) rfl rfl rfl ?_
  refine Qaa (v:=int .i16 (rdL a1 x13 0)) rfl rfl rfl ?_
  show G _ _ _ _ [_,_,_,_,_,_,_,_,_,_,_,_,_,_,_,_,_,_,_,_,_,_,_,_,_,_,_,_,_,_] _
  refine Qab (Qad (Qag [0,1,2,3,4] rfl ?_))
  refine Qaa (v:=int .u8 a4) rfl rfl rfl ?_
  refine Qaa (v:=int .i64 x13) rfl rfl rfl ?_
  obtain ⟨g6,H⟩:=ite_get H
  refine Qaa (v:=int .u8 (shrI .u8 a4 x13)) rfl rfl (QcC rfl rfl rfl g6) ?_
  refine Qaa (v:=int .u8 (bAnd .u8 (shrI .u8 a4 x13) 1)) rfl rfl rfl ?_
  refine Qap (B:=(bAnd .u8 (shrI .u8 a4 x13) 1)==1) rfl rfl rfl ?_ ?_
  ·
   intro hb
   rw [if_pos (b_beq_t hb)] at H
   refine Qab (Qah rfl (Qag [0,1,2,3,4,5,6,7] rfl ?_))
   refine Qaa (v:=int .i64 x13) rfl rfl rfl ?_
   refine Qaa (v:=int .i16 (rdL a1 x13 0)) rfl rfl rfl ?_
   refine Qaa (v:=int .i64 x13) rfl rfl rfl ?_
   obtain ⟨g7,H⟩:=ite_get H
   refine Qbp (n:=x13) (m:=1) rfl (fun _=>rfl) g7.1 g7.2 rfl rfl rfl rfl rfl ?_
   refine Qat rfl rfl (v:=int .i16 (x12.get x13 0)) rfl rfl (fun _=>rfl) (by rw [Nat.zero_add];exact cells_load (hs.cells 0 rfl) _ _ (encA_at (fkI .i16).len _ _ 0 g7.1 g7.2)) ?_
   show G _ _ _ _ [_,_,_,_,_,_,_,_,_,_,_,_,_,_,_,_,_,_,_,_,_,_,_,_,_,_,_,_,_,_] _
   refine Qaa (v:=int .i16 (i16w ((rdL a1 x13 0) - (x12.get x13 0)))) rfl rfl rfl ?_
   obtain ⟨g8,H⟩:=ite_get H
   refine Qbp (n:=x13) (m:=1) rfl (fun _=>rfl) g8.1 g8.2 rfl rfl rfl rfl rfl ?_
   refine QbN (y:=i16w ((rdL a1 x13 0) - (x12.get x13 0))) (fkI .i16).len (fkI .i16).one g8.1 g8.2 hs rfl rfl rfl rfl rfl (fun _=>rfl) ?_
   intro w hs
   refine Qab ?_
   refine QaE ?_
   have hs:=hs.pull 1 rfl
   have hs:=hs.pull 1 rfl
   have hs:St _ [_,_] _:=St.take (Γ':=[]) hs
   exact ha _ _ ⟨x12.set x13 (i16w ((rdL a1 x13 0) - (x12.get x13 0))),H,rfl,hs⟩
  intro hb
  rw [if_neg (b_beq_f hb)] at H
  show G _ _ _ _ [_,_,_,_,_,_,_,_,_,_,_,_,_,_,_,_,_,_,_,_,_,_,_,_,_,_,_,_,_,_] _
  refine Qab (Qal rfl (Qay ?_))
  refine QaE ?_
  have hs:=hs.pull 1 rfl
  have hs:=hs.pull 1 rfl
  have hs:St _ [_,_] _:=St.take (Γ':=[]) hs
  exact ha _ _ ⟨x12,H,rfl,hs⟩
 intro hb
 rw [if_neg (b_dec_f hb)] at H
 refine Qab (Qad (Qal rfl ?_))
 obtain rfl:=QsJ H
 subst Hx1_
 have hs:=hs.pull 1 rfl
 have hs:=hs.pull 1 rfl
 have hs:St _ [_,_] _:=St.take (Γ':=[]) hs
 refine Qa7 rfl ?_
 exact ha1_ _ _ ⟨x12,Hr1_,rfl,hs⟩
def Qbf.post (w0:World) (r:((Ar Int 4)×Int)) (v:Value) (w:World):Prop:=v=tuple #[agg ((encA (encI .i16)) r.1).toArray,int .i64 r.2]∧St w0 [] w
theorem Qbf.calls {N:Nat} {a1:(List Int)} {a3:(Ar Int 4)} {a4:Int} {v2:Value} {w0:World} {r:((Ar Int 4)×Int)} (hr0:RdRow (K.int .i16) w0 v2 a1) (H:Qbf.f N a1 a3 a4=some r):
 Calls Tryz.prog 7 #[v2,agg ((encA (encI .i16)) a3).toArray,int .u8 a4] w0 fun e w=>∃ v,e= .returned v∧Qbf.post w0 r v w:=by
 unfold Qbf.f at H
 have hs:St w0 [] w0:=St.refl w0
 refine calls_of_g (n:=21) Tryz.func7 rfl rfl ?_
 show G _ _ _ _ [_,_,_,_,_,_,_,_,_,_,_,_,_,_,_,_,_,_,_,_,_,_,_,_] _
 refine Qad (Qag [0,1,2] rfl ?_)
 refine Qbq hs rfl rfl (cs:=((encA (encI .i16)) a3)) rfl rfl ?_
 intro b5 w hs
 show G _ _ _ _ [_,_,_,_,_,_,_,_,_,_,_,_,_,_,_,_,_,_,_,_,_,_,_,_] _
 refine Qa8 hs rfl rfl (z:=(agg #[int .i16 0,int .i16 0,int .i16 0,int .i16 0])) (cs:=((encA (encI .i16)) (Ar.rep 4 0))) rfl (fun _=>rfl) rfl ?_
 intro b7 w hs
 refine Qaa (v:=int .i64 0) rfl rfl rfl (Qab (Qad ?_))
 refine Qbh (Qad (Qag [0,1,2,3,4] rfl ?_))
 refine Qaa (v:=v2) rfl rfl rfl ?_
 show G _ _ _ _ [_,_,_,_,_,_,_,_,_,_,_,_,_,_,_,_,_,_,_,_,_,_,_,_] _
 refine QaG rfl rfl (es:=((encA (encI .i16)) a3)) rfl rfl (fun _=>rfl) (n:=4) (fun _=>rfl) ((fkA (n:=4) (he:=(fkI .i16).len) (h1:=(fkI .i16).one)).len _) (cells_all (hs.cells 1 rfl)) ?_
 obtain ⟨r9,Hr9,H⟩:=bind_get H
 refine QaB (args:=[v2,agg ((encA (encI .i16)) a3).toArray]) rfl rfl (QaC rfl (callFunc_enter Tryz.func12 rfl rfl) rfl) (QaM.calls (a1:=a1) (a3:=a3) (hs.rd hr0) Hr9) ?_
 rintro _ w ⟨rfl,hs2⟩
 have hs:St _ [_,_] _:=hs.call hs2
 cases r9 with
 |true=>
  rw [if_pos rfl] at H
  show G _ _ _ _ [_,_,_,_,_,_,_,_,_,_,_,_,_,_,_,_,_,_,_,_,_,_,_,_] _
  refine Qaa (v:=bool false) rfl rfl rfl ?_
  refine Qaa (v:=bool false) rfl rfl rfl (Qab (Qal rfl (Qad (Qag [0,1,2,3,4] rfl ?_))))
  refine Qaa (v:=v2) rfl rfl rfl ?_
  show G _ _ _ _ [_,_,_,_,_,_,_,_,_,_,_,_,_,_,_,_,_,_,_,_,_,_,_,_] _
  refine Qaa (v:=int .u8 a4) rfl rfl rfl ?_
  obtain ⟨r10,Hr10,H⟩:=bind_get H
  refine QaB (args:=[v2,int .u8 a4]) rfl rfl (QaC rfl (callFunc_enter Tryz.func24 rfl rfl) rfl) (Qba.calls (a1:=a1) (a3:=a4) (hs.rd hr0) Hr10) ?_
  rintro _ w ⟨rfl,hs2⟩
  have hs:St _ [_,_] _:=hs.call hs2
  cases r10 with
  |true=>
   rw [if_pos rfl] at H
   show G _ _ _ _ [_,_,_,_,_,_,_,_,_,_,_,_,_,_,_,_,_,_,_,_,_,_,_,_] _
   refine Qaa (v:=bool false) rfl rfl rfl ?_
   refine Qaa (v:=bool false) rfl rfl rfl (Qab (Qal rfl (Qay ?_)))
   refine QaE (Qad (Qag [0,1,2,3,4,5] rfl ?_))
   refine Qaa (v:=v2) rfl rfl rfl ?_
   show G _ _ _ _ [_,_,_,_,_,_,_,_,_,_,_,_,_,_,_,_,_,_,_,_,_,_,_,_] _
   refine QaG rfl rfl (es:=((encA (encI .i16)) a3)) rfl rfl (fun _=>rfl) (n:=4) (fun _=>rfl) ((fkA (n:=4) (he:=(fkI .i16).len) (h1:=(fkI .i16).one)).len _) (cells_all (hs.cells 1 rfl)) ?_
   refine Qaa (v:=int .u8 a4) rfl rfl rfl ?_
   obtain ⟨r11,Hr11,H⟩:=bind_get H
   refine QaB (args:=[v2,agg ((encA (encI .i16)) a3).toArray,int .u8 a4]) rfl rfl (QaC rfl (callFunc_enter Tryz.func25 rfl rfl) rfl) (Qao.calls (a1:=a1) (a3:=a3) (a4:=a4) (hs.rd hr0) Hr11) ?_
   rintro _ w ⟨rfl,hs2⟩
   have hs:St _ [_,_] _:=hs.call hs2
   show G _ _ _ _ [_,_,_,_,_,_,_,_,_,_,_,_,_,_,_,_,_,_,_,_,_,_,_,_] _
   refine QaH (n:=4) hs ((fkA (n:=4) (he:=(fkI .i16).len) (h1:=(fkI .i16).one)).len _) rfl rfl (vs:=((encA (encI .i16)) r11)) rfl rfl rfl (fun _=>rfl) ((fkA (n:=4) (he:=(fkI .i16).len) (h1:=(fkI .i16).one)).len _) ((fkA (n:=4) (he:=(fkI .i16).len) (h1:=(fkI .i16).one)).one _) ?_
   intro w hs
   refine Qaa (v:=int .i64 0) rfl rfl rfl (Qab ?_)
   obtain rfl:=QsJ H
   refine Qas Tryz.func7 (v:=tuple #[agg ((encA (encI .i16)) r11).toArray,int .i64 0]) (resN (l:=Tryz.f7.results.toList) (vs:=[agg ((encA (encI .i16)) r11).toArray,int .i64 0]) rfl ⟨⟨_,rfl,(run_loadVar_agg (es:=((encA (encI .i16)) r11)) rfl (congrArg (Result.ok · _) ((fkA (n:=4) (he:=(fkI .i16).len) (h1:=(fkI .i16).one)).len _).symm) (cells_all (hs.cells 0 rfl)))⟩,rfl,trivial⟩ (by simp)) ?_
   have hs:St _ [] _:=St.take (Γ':=[_,_]) hs
   exact ⟨_,rfl,rfl,hs⟩
  |false=>
   rw [if_neg Bool.false_ne_true] at H
   refine Qaa (v:=bool true) rfl rfl rfl ?_
   show G _ _ _ _ [_,_,_,_,_,_,_,_,_,_,_,_,_,_,_,_,_,_,_,_,_,_,_,_] _
   refine Qaa (v:=bool true) rfl rfl rfl (Qab (Qah rfl (Qad (Qag [0,1,2] rfl ?_))))
   refine Qaa (v:=agg ((encA (encI .i16)) (Ar.rep 4 0)).toArray) rfl rfl (QbK rfl rfl) ?_
   refine QaH (n:=4) hs ((fkA (n:=4) (he:=(fkI .i16).len) (h1:=(fkI .i16).one)).len _) rfl rfl (vs:=((encA (encI .i16)) (Ar.rep 4 0))) rfl rfl rfl (fun _=>rfl) ((fkA (n:=4) (he:=(fkI .i16).len) (h1:=(fkI .i16).one)).len _) ((fkA (n:=4) (he:=(fkI .i16).len) (h1:=(fkI .i16).one)).one _) ?_
   intro w hs
   refine Qaa (v:=int .i64 2) rfl rfl rfl ?_
   show G _ _ _ _ [_,_,_,_,_,_,_,_,_,_,_,_,_,_,_,_,_,_,_,_,_,_,_,_] _
   refine Qab ?_
   obtain rfl:=QsJ H
   refine Qas Tryz.func7 (v:=tuple #[agg ((encA (encI .i16)) (Ar.rep 4 0)).toArray,int .i64 2]) (resN (l:=Tryz.f7.results.toList) (vs:=[agg ((encA (encI .i16)) (Ar.rep 4 0)).toArray,int .i64 2]) rfl ⟨⟨_,rfl,(run_loadVar_agg (es:=((encA (encI .i16)) (Ar.rep 4 0))) rfl (congrArg (Result.ok · _) ((fkA (n:=4) (he:=(fkI .i16).len) (h1:=(fkI .i16).one)).len _).symm) (cells_all (hs.cells 0 rfl)))⟩,rfl,trivial⟩ (by simp)) ?_
   have hs:St _ [] _:=St.take (Γ':=[_,_]) hs
   exact ⟨_,rfl,rfl,hs⟩
 |false=>
  rw [if_neg Bool.false_ne_true] at H
  refine Qaa (v:=bool true) rfl rfl rfl ?_
  show G _ _ _ _ [_,_,_,_,_,_,_,_,_,_,_,_,_,_,_,_,_,_,_,_,_,_,_,_] _
  refine Qaa (v:=bool true) rfl rfl rfl (Qab (Qah rfl (Qad (Qag [0,1,2] rfl ?_))))
  refine Qaa (v:=agg ((encA (encI .i16)) (Ar.rep 4 0)).toArray) rfl rfl (QbK rfl rfl) ?_
  refine QaH (n:=4) hs ((fkA (n:=4) (he:=(fkI .i16).len) (h1:=(fkI .i16).one)).len _) rfl rfl (vs:=((encA (encI .i16)) (Ar.rep 4 0))) rfl rfl rfl (fun _=>rfl) ((fkA (n:=4) (he:=(fkI .i16).len) (h1:=(fkI .i16).one)).len _) ((fkA (n:=4) (he:=(fkI .i16).len) (h1:=(fkI .i16).one)).one _) ?_
  intro w hs
  refine Qaa (v:=int .i64 1) rfl rfl rfl ?_
  show G _ _ _ _ [_,_,_,_,_,_,_,_,_,_,_,_,_,_,_,_,_,_,_,_,_,_,_,_] _
  refine Qab ?_
  obtain rfl:=QsJ H
  refine Qas Tryz.func7 (v:=tuple #[agg ((encA (encI .i16)) (Ar.rep 4 0)).toArray,int .i64 1]) (resN (l:=Tryz.f7.results.toList) (vs:=[agg ((encA (encI .i16)) (Ar.rep 4 0)).toArray,int .i64 1]) rfl ⟨⟨_,rfl,(run_loadVar_agg (es:=((encA (encI .i16)) (Ar.rep 4 0))) rfl (congrArg (Result.ok · _) ((fkA (n:=4) (he:=(fkI .i16).len) (h1:=(fkI .i16).one)).len _).symm) (cells_all (hs.cells 0 rfl)))⟩,rfl,trivial⟩ (by simp)) ?_
  have hs:St _ [] _:=St.take (Γ':=[_,_]) hs
  exact ⟨_,rfl,rfl,hs⟩
def QbD.post (w0:World) (r:Bool) (v:Value) (w:World):Prop:=v=bool r∧St w0 [] w
theorem QbD.calls {N:Nat} {a1:Int} {a2:Int} {a3:Int} {w0:World} {r:Bool} (H:QbD.f N a1 a2 a3=some r):
 Calls Tryz.prog 61 #[int .i64 a1,int .i64 a2,int .i64 a3] w0 fun e w=>∃ v,e= .returned v∧QbD.post w0 r v w:=by
 unfold QbD.f at H
 have hs:St w0 [] w0:=St.refl w0
 refine calls_of_g (n:=12) Tryz.func61 rfl rfl ?_
 show G _ _ _ _ [_,_,_,_,_,_,_,_,_,_,_,_,_,_,_] _
 refine Qad (Qag [0] rfl ?_)
 refine Qaa (v:=bool false) rfl rfl rfl (Qab (Qad (Qag [0,1,2,3,4,5,6,7,8] rfl ?_)))
 refine Qaa (v:=int .i64 a1) rfl rfl rfl ?_
 show G _ _ _ _ [_,_,_,_,_,_,_,_,_,_,_,_,_,_,_] _
 refine Qaa (v:=int .i64 a2) rfl rfl rfl ?_
 refine Qap (B:=decide (a1≥a2)) rfl rfl rfl ?_ ?_
 ·
  intro hb
  rw [if_pos (b_dec_t hb)] at H
  show G _ _ _ _ [_,_,_,_,_,_,_,_,_,_,_,_,_,_,_] _
  refine Qaa (v:=bool true) rfl rfl rfl ?_
  refine Qaa (v:=int .i64 a1) rfl rfl rfl ?_
  refine Qaa (v:=int .i64 a3) rfl rfl rfl ?_
  show G _ _ _ _ [_,_,_,_,_,_,_,_,_,_,_,_,_,_,_] _
  refine Qaa (v:=bool (decide (a1≤a3))) rfl rfl rfl ?_
  refine Qaa (v:=bool (decide (a1≤a3))) rfl rfl rfl ?_
  refine Qaa (v:=bool (decide (a1≤a3))) rfl rfl rfl ?_
  show G _ _ _ _ [_,_,_,_,_,_,_,_,_,_,_,_,_,_,_] _
  refine Qab ?_
  obtain rfl:=QsJ H
  refine Qas Tryz.func61 (v:=bool (decide (a1≤a3))) (res1 rfl rfl) ?_
  have hs:St _ [] _:=St.take (Γ':=[]) hs
  exact ⟨_,rfl,rfl,hs⟩
 intro hb
 rw [if_neg (b_dec_f hb)] at H
 refine Qaa (v:=bool false) rfl rfl rfl ?_
 show G _ _ _ _ [_,_,_,_,_,_,_,_,_,_,_,_,_,_,_] _
 refine Qac rfl rfl (Qac rfl rfl (Qac rfl rfl ?_))
 show G _ _ _ _ [_,_,_,_,_,_,_,_,_,_,_,_,_,_,_] _
 refine Qaa (v:=bool false) rfl rfl rfl ?_
 refine Qaa (v:=bool false) rfl rfl rfl (Qab ?_)
 obtain rfl:=QsJ H
 refine Qas Tryz.func61 (v:=bool false) (res1 rfl rfl) ?_
 have hs:St _ [] _:=St.take (Γ':=[]) hs
 exact ⟨_,rfl,rfl,hs⟩
def QaS.post (w0:World) (r:Int) (v:Value) (w:World):Prop:=v=int .i64 r∧St w0 [] w
theorem QaS.calls {N:Nat} {a1:(List Int)} {v2:Value} {w0:World} {r:Int} (hr0:RdRow (K.int .i16) w0 v2 a1) (H:QaS.f N a1=some r):
 Calls Tryz.prog 50 #[v2] w0 fun e w=>∃ v,e= .returned v∧QaS.post w0 r v w:=by
 unfold QaS.f at H
 have hs:St w0 [] w0:=St.refl w0
 refine calls_of_g (n:=37) Tryz.func50 rfl rfl ?_
 show G _ _ _ _ [_,_,_,_,_,_,_,_,_,_,_,_,_,_,_,_,_,_,_,_,_,_,_,_,_,_,_,_,_,_,_,_,_,_,_,_,_,_] _
 refine Qad (Qag [0] rfl ?_)
 refine Qaa (v:=int .i64 0) rfl rfl rfl ?_
 show G _ _ _ _ [_,_,_,_,_,_,_,_,_,_,_,_,_,_,_,_,_,_,_,_,_,_,_,_,_,_,_,_,_,_,_,_,_,_,_,_,_,_] _
 refine Qab (Qad (Qad (Qag [0,1,2,3] rfl ?_)))
 refine Qaa (v:=v2) rfl rfl rfl ?_
 refine Qbc (hs.rd hr0) rfl rfl rfl rfl rfl ?_
 obtain ⟨r3,Hr3,H⟩:=bind_get H
 refine QaB (args:=[int .i64 (a1.length:Int),int .i64 1,int .i64 4]) rfl rfl (QaC rfl (callFunc_enter Tryz.func61 rfl rfl) rfl) (QbD.calls (a1:=(a1.length:Int)) (a2:=1) (a3:=4) Hr3) ?_
 rintro _ w ⟨rfl,hs2⟩
 have hs:St _ [] _:=hs.call hs2
 cases r3 with
 |true=>
  rw [if_pos rfl] at H
  show G _ _ _ _ [_,_,_,_,_,_,_,_,_,_,_,_,_,_,_,_,_,_,_,_,_,_,_,_,_,_,_,_,_,_,_,_,_,_,_,_,_,_] _
  refine Qaa (v:=bool false) rfl rfl rfl (Qab (Qal rfl (Qay (Qad (Qag [0] rfl ?_)))))
  refine Qaa (v:=int .i64 1) rfl rfl rfl (Qab (Qad (Qad (Qag [0] rfl ?_))))
  refine Qaa (v:=int .i64 0) rfl rfl rfl ?_
  show G _ _ _ _ [_,_,_,_,_,_,_,_,_,_,_,_,_,_,_,_,_,_,_,_,_,_,_,_,_,_,_,_,_,_,_,_,_,_,_,_,_,_] _
  refine Qab ?_
  obtain ⟨o1_,Ho,Hr1_⟩:=bind_get H
  refine Qax (J:=fun t w=>∃ x9:Int,QaS.a0 N x9=some r∧Fr t (fun O=>([O 0,O 1,O 2,int .i64 x9,O 4,O 5,O 6,O 7,O 8,O 9,O 10,O 11,O 12,O 13,O 14,O 15,O 16,O 17,O 18,O 19,O 20,O 21,O 22,O 23,O 24,O 25,O 26,O 27,O 28,O 29,O 30,O 31,O 32,O 33,O 34,O 35,O 36,O 37]:List Value))∧St w0 [] w) ?_ ?_
  ·
   rintro t w ⟨x9,H,hf,hs⟩
   obtain ⟨O,rfl⟩:=hf.open
   show G _ _ _ _ [_,_,_,_,_,_,_,_,_,_,_,_,_,_,_,_,_,_,_,_,_,_,_,_,_,_,_,_,_,_,_,_,_,_,_,_,_,_] _
   unfold QaS.a0 at H
   refine Qad (Qad (Qag [0,1] rfl ?_))
   refine Qaa (v:=int .i64 x9) rfl rfl rfl ?_
   refine Qap (B:=decide (x9>3000)) rfl rfl rfl ?_ ?_
   ·
    intro hb
    rw [if_pos (b_dec_t hb)] at H
    show G _ _ _ _ [_,_,_,_,_,_,_,_,_,_,_,_,_,_,_,_,_,_,_,_,_,_,_,_,_,_,_,_,_,_,_,_,_,_,_,_,_,_] _
    refine Qab (Qah rfl (Qad (Qag [0] rfl ?_)))
    refine Qaa (v:=int .i64 0) rfl rfl rfl (Qab ?_)
    obtain rfl:=QsJ H
    refine Qas Tryz.func50 (v:=int .i64 0) (res1 rfl rfl) ?_
    have hs:St _ [] _:=St.take (Γ':=[]) hs
    exact ⟨_,rfl,rfl,hs⟩
   intro hb
   rw [if_neg (b_dec_f hb)] at H
   show G _ _ _ _ [_,_,_,_,_,_,_,_,_,_,_,_,_,_,_,_,_,_,_,_,_,_,_,_,_,_,_,_,_,_,_,_,_,_,_,_,_,_] _
   refine Qab (Qal rfl (Qay (Qad (Qag [0,1] rfl ?_))))
   refine Qaa (v:=int .i64 x9) rfl rfl rfl ?_
   refine Qaa (v:=int .i64 x9) rfl rfl rfl (Qab ?_)
   obtain rfl:=QsJ H
   refine Qas Tryz.func50 (v:=int .i64 x9) (res1 rfl rfl) ?_
   have hs:St _ [] _:=St.take (Γ':=[]) hs
   exact ⟨_,rfl,rfl,hs⟩
  intro ha1_
  have hs:St _ [] _:=St.take (Γ':=[]) hs
  refine QaL (I:=fun n_ t w=>∃ x4:Int,∃ x5:Int,rounds (fun s=>QaS.b0 N a1 s.1 s.2) n_ (x4,x5)=some o1_∧Fr t (fun O=>([v2,O 1,O 2,int .i64 x4,int .i64 x5,O 5,O 6,O 7,O 8,O 9,O 10,O 11,O 12,O 13,O 14,O 15,O 16,O 17,O 18,O 19,O 20,O 21,O 22,O 23,O 24,O 25,O 26,O 27,O 28,O 29,O 30,O 31,O 32,O 33,O 34,O 35,O 36,O 37]:List Value))∧St w0 [] w) N ⟨1,0,Ho,rfl,hs⟩ ?_ ?_
  ·
   rintro _ _ ⟨x4,x5,h,_⟩
   exact rounds_zero h
  intro n_ ih1_
  rintro t w ⟨x4,x5,Ho,hf,hs⟩
  obtain ⟨O,rfl⟩:=hf.open
  show G _ _ _ _ [_,_,_,_,_,_,_,_,_,_,_,_,_,_,_,_,_,_,_,_,_,_,_,_,_,_,_,_,_,_,_,_,_,_,_,_,_,_] _
  obtain ⟨x4_,H,Hx1_⟩:=rounds_succ Ho
  have H:QaS.b0 N a1 x4 x5=some x4_:=H
  unfold QaS.b0 at H
  refine Qad (Qad (Qag [0,1,2,3] rfl ?_))
  refine Qaa (v:=int .i64 x5) rfl rfl rfl ?_
  refine Qaa (v:=v2) rfl rfl rfl ?_
  refine Qbc (hs.rd hr0) rfl rfl rfl rfl rfl ?_
  refine Qap (B:=decide (x5< (a1.length:Int))) rfl rfl rfl ?_ ?_
  ·
   intro hb
   rw [if_pos (b_dec_t hb)] at H
   show G _ _ _ _ [_,_,_,_,_,_,_,_,_,_,_,_,_,_,_,_,_,_,_,_,_,_,_,_,_,_,_,_,_,_,_,_,_,_,_,_,_,_] _
   refine Qab (Qah rfl (Qay (Qad ?_)))
   refine Qbh (Qad (Qad (Qag [0,1,2,3,4,5,6,7,8,9,10,11] rfl ?_)))
   refine Qaa (v:=v2) rfl rfl rfl ?_
   refine Qaa (v:=int .i64 x5) rfl rfl rfl ?_
   obtain ⟨g1,H⟩:=ite_get H
   refine Qbb (fkI .i16) 0 (hs.rd hr0) rfl (fun _=>rfl) g1.1 g1.2 rfl rfl rfl rfl rfl ?_
   intro p6 hp6 lp6 op6
   refine Qat rfl rfl (v:=int .i16 (rdL a1 x5 0)) rfl rfl (fun _=>rfl) hp6 ?_
   refine Qap (B:=decide ((rdL a1 x5 0)< 1)) rfl rfl rfl ?_ ?_
   ·
    intro hb
    rw [if_pos (b_dec_t hb)] at H
    show G _ _ _ _ [_,_,_,_,_,_,_,_,_,_,_,_,_,_,_,_,_,_,_,_,_,_,_,_,_,_,_,_,_,_,_,_,_,_,_,_,_,_] _
    refine Qaa (v:=bool true) rfl rfl rfl (Qac rfl rfl (Qac rfl rfl (Qac rfl rfl (Qac rfl rfl (Qac rfl rfl ?_)))))
    show G _ _ _ _ [_,_,_,_,_,_,_,_,_,_,_,_,_,_,_,_,_,_,_,_,_,_,_,_,_,_,_,_,_,_,_,_,_,_,_,_,_,_] _
    refine Qaa (v:=bool true) rfl rfl rfl (Qab (Qah rfl (Qad (Qag [0] rfl ?_))))
    refine Qaa (v:=int .i64 0) rfl rfl rfl (Qab ?_)
    obtain rfl:=QsJ H
    subst Hx1_
    have H:=QsJ Hr1_
    subst H
    refine Qas Tryz.func50 (v:=int .i64 0) (res1 rfl rfl) ?_
    have hs:St _ [] _:=St.take (Γ':=[]) hs
    exact ⟨_,rfl,rfl,hs⟩
   intro hb
   rw [if_neg (b_dec_f hb)] at H
   show G _ _ _ _ [_,_,_,_,_,_,_,_,_,_,_,_,_,_,_,_,_,_,_,_,_,_,_,_,_,_,_,_,_,_,_,_,_,_,_,_,_,_] _
   refine Qaa (v:=bool false) rfl rfl rfl ?_
   refine Qaa (v:=v2) rfl rfl rfl ?_
   refine Qaa (v:=int .i64 x5) rfl rfl rfl ?_
   obtain ⟨g2,H⟩:=ite_get H
   refine Qbb (fkI .i16) 0 (hs.rd hr0) rfl (fun _=>rfl) g2.1 g2.2 rfl rfl rfl rfl rfl ?_
   intro p7 hp7 lp7 op7
   refine Qat rfl rfl (v:=int .i16 (rdL a1 x5 0)) rfl rfl (fun _=>rfl) hp7 ?_
   refine Qap (B:=decide ((rdL a1 x5 0)>40)) rfl rfl rfl ?_ ?_
   ·
    intro hb
    rw [if_pos (b_dec_t hb)] at H
    show G _ _ _ _ [_,_,_,_,_,_,_,_,_,_,_,_,_,_,_,_,_,_,_,_,_,_,_,_,_,_,_,_,_,_,_,_,_,_,_,_,_,_] _
    refine Qaa (v:=bool true) rfl rfl rfl (Qab (Qah rfl (Qad (Qag [0] rfl ?_))))
    refine Qaa (v:=int .i64 0) rfl rfl rfl (Qab ?_)
    obtain rfl:=QsJ H
    subst Hx1_
    have H:=QsJ Hr1_
    subst H
    refine Qas Tryz.func50 (v:=int .i64 0) (res1 rfl rfl) ?_
    have hs:St _ [] _:=St.take (Γ':=[]) hs
    exact ⟨_,rfl,rfl,hs⟩
   intro hb
   rw [if_neg (b_dec_f hb)] at H
   show G _ _ _ _ [_,_,_,_,_,_,_,_,_,_,_,_,_,_,_,_,_,_,_,_,_,_,_,_,_,_,_,_,_,_,_,_,_,_,_,_,_,_] _
   refine Qaa (v:=bool false) rfl rfl rfl (Qab (Qal rfl (Qay (Qag [0,1,2,3,4,5,6,7,8] rfl ?_))))
   refine Qaa (v:=int .i64 x4) rfl rfl rfl ?_
   refine Qaa (v:=v2) rfl rfl rfl ?_
   refine Qaa (v:=int .i64 x5) rfl rfl rfl ?_
   obtain ⟨g3,H⟩:=ite_get H
   refine Qbb (fkI .i16) 0 (hs.rd hr0) rfl (fun _=>rfl) g3.1 g3.2 rfl rfl rfl rfl rfl ?_
   intro p8 hp8 lp8 op8
   refine Qat rfl rfl (v:=int .i16 (rdL a1 x5 0)) rfl rfl (fun _=>rfl) hp8 ?_
   show G _ _ _ _ [_,_,_,_,_,_,_,_,_,_,_,_,_,_,_,_,_,_,_,_,_,_,_,_,_,_,_,_,_,_,_,_,_,_,_,_,_,_] _
   refine Qaa (v:=int .i64 (i64w (rdL a1 x5 0))) rfl rfl rfl ?_
   refine Qaa (v:=int .i64 (i64w ((i64w (rdL a1 x5 0))+1))) rfl rfl rfl ?_
   refine Qaa (v:=int .i64 (i64w (x4*(i64w ((i64w (rdL a1 x5 0))+1))))) rfl rfl rfl ?_
   refine Qaa (v:=int .i64 (i64w (x4*(i64w ((i64w (rdL a1 x5 0))+1))))) rfl rfl rfl ?_
   show G _ _ _ _ [_,_,_,_,_,_,_,_,_,_,_,_,_,_,_,_,_,_,_,_,_,_,_,_,_,_,_,_,_,_,_,_,_,_,_,_,_,_] _
   refine Qab ?_
   refine QaE (Qag [0,1,2] rfl ?_)
   refine Qaa (v:=int .i64 x5) rfl rfl rfl ?_
   refine Qaa (v:=int .i64 (i64w (x5+1))) rfl rfl rfl ?_
   refine Qaa (v:=int .i64 (i64w (x5+1))) rfl rfl rfl (Qab ?_)
   obtain rfl:=QsJ H
   have hs:St _ [] _:=St.take (Γ':=[]) hs
   exact ih1_ _ _ ⟨i64w (x4*(i64w ((i64w (rdL a1 x5 0))+1))),i64w (x5+1),Hx1_,rfl,hs⟩
  intro hb
  rw [if_neg (b_dec_f hb)] at H
  refine Qab (Qal rfl ?_)
  obtain rfl:=QsJ H
  subst Hx1_
  have hs:St _ [] _:=St.take (Γ':=[]) hs
  refine Qa7 rfl ?_
  exact ha1_ _ _ ⟨x4,Hr1_,rfl,hs⟩
 |false=>
  rw [if_neg Bool.false_ne_true] at H
  refine Qaa (v:=bool true) rfl rfl rfl ?_
  show G _ _ _ _ [_,_,_,_,_,_,_,_,_,_,_,_,_,_,_,_,_,_,_,_,_,_,_,_,_,_,_,_,_,_,_,_,_,_,_,_,_,_] _
  refine Qab (Qah rfl (Qad (Qag [0] rfl ?_)))
  refine Qaa (v:=int .i64 0) rfl rfl rfl (Qab ?_)
  obtain rfl:=QsJ H
  refine Qas Tryz.func50 (v:=int .i64 0) (res1 rfl rfl) ?_
  have hs:St _ [] _:=St.take (Γ':=[]) hs
  exact ⟨_,rfl,rfl,hs⟩
def QaY.post (w0:World) (r:Bool) (v:Value) (w:World):Prop:=v=bool r∧St w0 [] w
theorem QaY.calls {N:Nat} {a1:(List Int)} {a3:(Ar Int 4)} {v2:Value} {w0:World} {r:Bool} (hr0:RdRow (K.int .i16) w0 v2 a1) (H:QaY.f N a1 a3=some r):
 Calls Tryz.prog 26 #[v2,agg ((encA (encI .i16)) a3).toArray] w0 fun e w=>∃ v,e= .returned v∧QaY.post w0 r v w:=by
 unfold QaY.f at H
 have hs:St w0 [] w0:=St.refl w0
 refine calls_of_g (n:=31) Tryz.func26 rfl rfl ?_
 show G _ _ _ _ [_,_,_,_,_,_,_,_,_,_,_,_,_,_,_,_,_,_,_,_,_,_,_,_,_,_,_,_,_,_,_,_,_] _
 refine Qad (Qag [0,1] rfl ?_)
 refine Qbq hs rfl rfl (cs:=((encA (encI .i16)) a3)) rfl rfl ?_
 intro b4 w hs
 refine Qaa (v:=bool false) rfl rfl rfl (Qab (Qad (Qad (Qag [0,1,2] rfl ?_))))
 refine Qaa (v:=v2) rfl rfl rfl ?_
 obtain ⟨r6,Hr6,H⟩:=bind_get H
 refine QaB (args:=[v2]) rfl rfl (QaC rfl (callFunc_enter Tryz.func50 rfl rfl) rfl) (QaS.calls (a1:=a1) (hs.rd hr0) Hr6) ?_
 rintro _ w ⟨rfl,hs2⟩
 have hs:St _ [_] _:=hs.call hs2
 show G _ _ _ _ [_,_,_,_,_,_,_,_,_,_,_,_,_,_,_,_,_,_,_,_,_,_,_,_,_,_,_,_,_,_,_,_,_] _
 refine Qap (B:=r6==0) rfl rfl rfl ?_ ?_
 ·
  intro hb
  rw [if_pos (b_beq_t hb)] at H
  show G _ _ _ _ [_,_,_,_,_,_,_,_,_,_,_,_,_,_,_,_,_,_,_,_,_,_,_,_,_,_,_,_,_,_,_,_,_] _
  refine Qab (Qah rfl (Qad (Qag [0] rfl ?_)))
  refine Qaa (v:=bool false) rfl rfl rfl (Qab ?_)
  obtain rfl:=QsJ H
  refine Qas Tryz.func26 (v:=bool false) (res1 rfl rfl) ?_
  have hs:St _ [] _:=St.take (Γ':=[_]) hs
  exact ⟨_,rfl,rfl,hs⟩
 intro hb
 rw [if_neg (b_beq_f hb)] at H
 refine Qab (Qal rfl (Qay (Qad (Qad (Qag [0] rfl ?_)))))
 refine Qaa (v:=int .i64 0) rfl rfl rfl (Qab ?_)
 obtain ⟨o1_,Ho,Hr1_⟩:=bind_get H
 refine Qax (J:=fun t w=>QaY.a0 N=some r∧Fr t (fun O=>([O 0,O 1,O 2,O 3,O 4,O 5,O 6,O 7,O 8,O 9,O 10,O 11,O 12,O 13,O 14,O 15,O 16,O 17,O 18,O 19,O 20,O 21,O 22,O 23,O 24,O 25,O 26,O 27,O 28,O 29,O 30,O 31,O 32]:List Value))∧St w0 [] w) ?_ ?_
 ·
  rintro t w ⟨H,hf,hs⟩
  obtain ⟨O,rfl⟩:=hf.open
  show G _ _ _ _ [_,_,_,_,_,_,_,_,_,_,_,_,_,_,_,_,_,_,_,_,_,_,_,_,_,_,_,_,_,_,_,_,_] _
  unfold QaY.a0 at H
  refine Qad (Qag [0] rfl ?_)
  refine Qaa (v:=bool true) rfl rfl rfl ?_
  show G _ _ _ _ [_,_,_,_,_,_,_,_,_,_,_,_,_,_,_,_,_,_,_,_,_,_,_,_,_,_,_,_,_,_,_,_,_] _
  refine Qab ?_
  obtain rfl:=QsJ H
  refine Qas Tryz.func26 (v:=bool true) (res1 rfl rfl) ?_
  have hs:St _ [] _:=St.take (Γ':=[]) hs
  exact ⟨_,rfl,rfl,hs⟩
 intro ha1_
 have hs:=hs.pull 0 rfl
 have hs:St _ [_] _:=St.take (Γ':=[]) hs
 refine QaL (I:=fun n_ t w=>∃ x7:Int,rounds (fun s=>QaY.b0 N a1 a3 s) n_ x7=some o1_∧Fr t (fun O=>([v2,O 1,O 2,pointer (some ⟨b4,0,none⟩),O 4,int .i64 x7,O 6,O 7,O 8,O 9,O 10,O 11,O 12,O 13,O 14,O 15,O 16,O 17,O 18,O 19,O 20,O 21,O 22,O 23,O 24,O 25,O 26,O 27,O 28,O 29,O 30,O 31,O 32]:List Value))∧St w0 [Cells b4 ((encA (encI .i16)) a3) 28] w) N ⟨0,Ho,rfl,hs⟩ ?_ ?_
 ·
  rintro _ _ ⟨x7,h,_⟩
  exact rounds_zero h
 intro n_ ih1_
 rintro t w ⟨x7,Ho,hf,hs⟩
 obtain ⟨O,rfl⟩:=hf.open
 show G _ _ _ _ [_,_,_,_,_,_,_,_,_,_,_,_,_,_,_,_,_,_,_,_,_,_,_,_,_,_,_,_,_,_,_,_,_] _
 obtain ⟨x4_,H,Hx1_⟩:=rounds_succ Ho
 have H:QaY.b0 N a1 a3 x7=some x4_:=H
 unfold QaY.b0 at H
 refine Qad (Qad (Qag [0,1] rfl ?_))
 refine Qaa (v:=int .i64 x7) rfl rfl rfl ?_
 refine Qap (B:=decide (x7< 4)) rfl rfl rfl ?_ ?_
 ·
  intro hb
  rw [if_pos (b_dec_t hb)] at H
  refine Qab (Qah rfl (Qay (Qad ?_)))
  refine Qbh (Qad (Qag [0] rfl ?_))
  refine Qaa (v:=int .i16 0) rfl rfl rfl (Qab (Qad (Qad ?_)))
  refine Qb1 (J:=(fun t w=>∃ x9:Int,QaY.j2 N x7 a3 x9=some x4_∧Fr t (fun O=>([v2,O 1,O 2,pointer (some ⟨b4,0,none⟩),O 4,int .i64 x7,int .i16 x9,O 7,O 8,O 9,O 10,O 11,O 12,O 13,O 14,O 15,O 16,O 17,O 18,O 19,O 20,O 21,O 22,O 23,O 24,O 25,O 26,O 27,O 28,O 29,O 30,O 31,O 32]:List Value))∧St w0 [Cells b4 ((encA (encI .i16)) a3) 28] w)) ?_ ?_
  ·
   rintro t w ⟨x9,H,hf,hs⟩
   obtain ⟨O,rfl⟩:=hf.open
   show G _ _ _ _ [_,_,_,_,_,_,_,_,_,_,_,_,_,_,_,_,_,_,_,_,_,_,_,_,_,_,_,_,_,_,_,_,_] _
   unfold QaY.j2 at H
   refine Qad (Qag [0,1,2,3,4,5,6,7,8,9,10] rfl ?_)
   refine Qaa (v:=int .i64 x7) rfl rfl rfl ?_
   obtain ⟨g2,H⟩:=ite_get H
   refine Qbp (n:=x7) (m:=1) rfl (fun _=>rfl) g2.1 g2.2 rfl rfl rfl rfl rfl ?_
   show G _ _ _ _ [_,_,_,_,_,_,_,_,_,_,_,_,_,_,_,_,_,_,_,_,_,_,_,_,_,_,_,_,_,_,_,_,_] _
   refine Qat rfl rfl (v:=int .i16 (a3.get x7 0)) rfl rfl (fun _=>rfl) (by rw [Nat.zero_add];exact cells_load (hs.cells 0 rfl) _ _ (encA_at (fkI .i16).len _ _ 0 g2.1 g2.2)) ?_
   refine Qap (B:=decide ((a3.get x7 0)< 0)) rfl rfl rfl ?_ ?_
   ·
    intro hb
    rw [if_pos (b_dec_t hb)] at H
    show G _ _ _ _ [_,_,_,_,_,_,_,_,_,_,_,_,_,_,_,_,_,_,_,_,_,_,_,_,_,_,_,_,_,_,_,_,_] _
    refine Qaa (v:=bool true) rfl rfl rfl (Qac rfl rfl (Qac rfl rfl (Qac rfl rfl (Qac rfl rfl (Qac rfl rfl ?_)))))
    show G _ _ _ _ [_,_,_,_,_,_,_,_,_,_,_,_,_,_,_,_,_,_,_,_,_,_,_,_,_,_,_,_,_,_,_,_,_] _
    refine Qaa (v:=bool true) rfl rfl rfl (Qab (Qah rfl (Qad (Qag [0] rfl ?_))))
    refine Qaa (v:=bool false) rfl rfl rfl (Qab ?_)
    obtain rfl:=QsJ H
    subst Hx1_
    have H:=QsJ Hr1_
    subst H
    refine Qas Tryz.func26 (v:=bool false) (res1 rfl rfl) ?_
    have hs:St _ [] _:=St.take (Γ':=[_]) hs
    exact ⟨_,rfl,rfl,hs⟩
   intro hb
   rw [if_neg (b_dec_f hb)] at H
   refine Qaa (v:=bool false) rfl rfl rfl ?_
   refine Qaa (v:=int .i64 x7) rfl rfl rfl ?_
   obtain ⟨g3,H⟩:=ite_get H
   refine Qbp (n:=x7) (m:=1) rfl (fun _=>rfl) g3.1 g3.2 rfl rfl rfl rfl rfl ?_
   show G _ _ _ _ [_,_,_,_,_,_,_,_,_,_,_,_,_,_,_,_,_,_,_,_,_,_,_,_,_,_,_,_,_,_,_,_,_] _
   refine Qat rfl rfl (v:=int .i16 (a3.get x7 0)) rfl rfl (fun _=>rfl) (by rw [Nat.zero_add];exact cells_load (hs.cells 0 rfl) _ _ (encA_at (fkI .i16).len _ _ 0 g3.1 g3.2)) ?_
   refine Qaa (v:=int .i16 x9) rfl rfl rfl ?_
   refine Qap (B:=decide ((a3.get x7 0)>x9)) rfl rfl rfl ?_ ?_
   ·
    intro hb
    rw [if_pos (b_dec_t hb)] at H
    show G _ _ _ _ [_,_,_,_,_,_,_,_,_,_,_,_,_,_,_,_,_,_,_,_,_,_,_,_,_,_,_,_,_,_,_,_,_] _
    refine Qaa (v:=bool true) rfl rfl rfl (Qab (Qah rfl (Qad (Qag [0] rfl ?_))))
    refine Qaa (v:=bool false) rfl rfl rfl (Qab ?_)
    obtain rfl:=QsJ H
    subst Hx1_
    have H:=QsJ Hr1_
    subst H
    refine Qas Tryz.func26 (v:=bool false) (res1 rfl rfl) ?_
    have hs:St _ [] _:=St.take (Γ':=[_]) hs
    exact ⟨_,rfl,rfl,hs⟩
   intro hb
   rw [if_neg (b_dec_f hb)] at H
   refine Qaa (v:=bool false) rfl rfl rfl ?_
   show G _ _ _ _ [_,_,_,_,_,_,_,_,_,_,_,_,_,_,_,_,_,_,_,_,_,_,_,_,_,_,_,_,_,_,_,_,_] _
   refine Qab (Qal rfl (Qay ?_))
   refine QaE (Qag [0,1,2] rfl ?_)
   refine Qaa (v:=int .i64 x7) rfl rfl rfl ?_
   refine Qaa (v:=int .i64 (i64w (x7+1))) rfl rfl rfl ?_
   refine Qaa (v:=int .i64 (i64w (x7+1))) rfl rfl rfl (Qab ?_)
   obtain rfl:=QsJ H
   have hs:=hs.pull 0 rfl
   have hs:St _ [_] _:=St.take (Γ':=[]) hs
   exact ih1_ _ _ ⟨i64w (x7+1),Hx1_,rfl,hs⟩
  intro ha
  refine Qag [0,1,2,3] rfl ?_
  refine Qaa (v:=int .i64 x7) rfl rfl rfl ?_
  refine Qaa (v:=v2) rfl rfl rfl ?_
  refine Qbc (hs.rd hr0) rfl rfl rfl rfl rfl ?_
  show G _ _ _ _ [_,_,_,_,_,_,_,_,_,_,_,_,_,_,_,_,_,_,_,_,_,_,_,_,_,_,_,_,_,_,_,_,_] _
  refine Qap (B:=decide (x7< (a1.length:Int))) rfl rfl rfl ?_ ?_
  ·
   intro hb
   rw [if_pos (b_dec_t hb)] at H
   refine Qab (Qah rfl (Qag [0,1,2,3,4] rfl ?_))
   refine Qaa (v:=v2) rfl rfl rfl ?_
   refine Qaa (v:=int .i64 x7) rfl rfl rfl ?_
   obtain ⟨g1,H⟩:=ite_get H
   refine Qbb (fkI .i16) 0 (hs.rd hr0) rfl (fun _=>rfl) g1.1 g1.2 rfl rfl rfl rfl rfl ?_
   intro p8 hp8 lp8 op8
   show G _ _ _ _ [_,_,_,_,_,_,_,_,_,_,_,_,_,_,_,_,_,_,_,_,_,_,_,_,_,_,_,_,_,_,_,_,_] _
   refine Qat rfl rfl (v:=int .i16 (rdL a1 x7 0)) rfl rfl (fun _=>rfl) hp8 ?_
   refine Qaa (v:=int .i16 (rdL a1 x7 0)) rfl rfl rfl (Qab ?_)
   have hs:=hs.pull 0 rfl
   have hs:St _ [_] _:=St.take (Γ':=[]) hs
   exact ha _ _ ⟨rdL a1 x7 0,H,rfl,hs⟩
  intro hb
  rw [if_neg (b_dec_f hb)] at H
  refine Qab (Qal rfl (Qay ?_))
  have hs:=hs.pull 0 rfl
  have hs:St _ [_] _:=St.take (Γ':=[]) hs
  exact ha _ _ ⟨0,H,rfl,hs⟩
 intro hb
 rw [if_neg (b_dec_f hb)] at H
 show G _ _ _ _ [_,_,_,_,_,_,_,_,_,_,_,_,_,_,_,_,_,_,_,_,_,_,_,_,_,_,_,_,_,_,_,_,_] _
 refine Qab (Qal rfl ?_)
 obtain rfl:=QsJ H
 subst Hx1_
 have hs:St _ [] _:=St.take (Γ':=[_]) hs
 refine Qa7 rfl ?_
 exact ha1_ _ _ ⟨Hr1_,rfl,hs⟩
def Qbt.post (w0:World) (r:Int) (v:Value) (w:World):Prop:=v=int .i64 r∧St w0 [] w
theorem Qbt.calls {N:Nat} {a1:(List Int)} {v2:Value} {w0:World} {r:Int} (hr0:RdRow (K.int .i16) w0 v2 a1) (H:Qbt.f N a1=some r):
 Calls Tryz.prog 27 #[v2] w0 fun e w=>∃ v,e= .returned v∧Qbt.post w0 r v w:=by
 unfold Qbt.f at H
 have hs:St w0 [] w0:=St.refl w0
 refine calls_of_g (n:=6) Tryz.func27 rfl rfl ?_
 show G _ _ _ _ [_,_,_,_,_,_,_] _
 refine Qad (Qag [0] rfl ?_)
 refine Qaa (v:=int .i64 0) rfl rfl rfl ?_
 show G _ _ _ _ [_,_,_,_,_,_,_] _
 refine Qab (Qad (Qag [0,1,2,3,4] rfl ?_))
 refine Qaa (v:=v2) rfl rfl rfl ?_
 refine Qbc (hs.rd hr0) rfl rfl rfl rfl rfl ?_
 refine Qaa (v:=int .u64 (u64w (a1.length:Int))) rfl rfl rfl ?_
 show G _ _ _ _ [_,_,_,_,_,_,_] _
 obtain ⟨g1,H⟩:=ite_get H
 refine Qaa (v:=int .i64 (shlI .i64 1 (u64w (a1.length:Int)))) rfl rfl (Qce rfl rfl rfl g1) ?_
 refine Qaa (v:=int .i64 (shlI .i64 1 (u64w (a1.length:Int)))) rfl rfl rfl (Qab ?_)
 obtain rfl:=QsJ H
 refine Qas Tryz.func27 (v:=int .i64 (shlI .i64 1 (u64w (a1.length:Int)))) (res1 rfl rfl) ?_
 have hs:St _ [] _:=St.take (Γ':=[]) hs
 exact ⟨_,rfl,rfl,hs⟩
end Go.Proofs.YtgoninfjneepfaaGreatDoorX
