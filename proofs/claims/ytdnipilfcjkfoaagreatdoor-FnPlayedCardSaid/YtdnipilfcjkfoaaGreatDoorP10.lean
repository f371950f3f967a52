import Derived.Test.YtdnipilfcjkfoaaGreatDoorP9
namespace Go.Proofs.YtdnipilfcjkfoaaGreatDoorX
open Go Go.RowKit Go.Proofs
open Go.Value (int pointer bool agg slice string tuple)
set_option maxHeartbeats 8000000
set_option maxRecDepth 100000
set_option linter.unusedVariables false
set_option linter.unusedSimpArgs false
def Qa2.post (w0:World) (r:Int) (v:Value) (w:World):Prop:=v=int .i64 r∧St w0 [] w
theorem Qa2.calls {N:Nat} {a1:Qag} {a6:Int} {b2:Nat} {v3:Value} {w0:World} {r:Int} (hr4:RdRow Qao w0 v3 a1.Qah) (hp0:w0.heap[b2]?=some (.cells ((([int .i8 a1.Qac,int .i8 a1.Qae,v3]:List Value)):List Value).toArray 30 (0,0))) (H:Qa2.f N a1 a6=some r):
 Calls Tryz.prog 94 #[pointer (some ⟨b2,0,none⟩),int .i64 a6] w0 fun e w=>∃ v,e= .returned v∧Qa2.post w0 r v w:=by
 unfold Qa2.f at H
 have hs:St w0 [] w0:=St.refl w0
 refine calls_of_g (n:=26) Tryz.func94 rfl rfl ?_
 show G _ _ _ _ [_,_,_,_,_,_,_,_,_,_,_,_,_,_,_,_,_,_,_,_,_,_,_,_,_,_,_,_] _
 refine Qaf (Qak [0] rfl ?_)
 refine Qaa (v:=int .i64 0) rfl rfl rfl ?_
 show G _ _ _ _ [_,_,_,_,_,_,_,_,_,_,_,_,_,_,_,_,_,_,_,_,_,_,_,_,_,_,_,_] _
 refine Qab (Qaf (Qak [0] rfl ?_))
 refine Qaa (v:=int .i64 0) rfl rfl rfl (Qab (Qaf (Qaf (Qak [0] rfl ?_))))
 refine Qaa (v:=int .i64 0) rfl rfl rfl (Qab ?_)
 obtain ⟨o1_,Ho,Hr1_⟩:=bind_get H
 refine QaF (J:=fun t w=>∃ x12:Int,Qa2.a0 N x12=some r∧Fr t (fun O=>([O 0,O 1,O 2,O 3,O 4,int .i64 x12,O 6,O 7,O 8,O 9,O 10,O 11,O 12,O 13,O 14,O 15,O 16,O 17,O 18,O 19,O 20,O 21,O 22,O 23,O 24,O 25,O 26,O 27]:List Value))∧St w0 [] w) ?_ ?_
 ·
  rintro t w ⟨x12,H,hf,hs⟩
  obtain ⟨O,rfl⟩:=hf.open
  show G _ _ _ _ [_,_,_,_,_,_,_,_,_,_,_,_,_,_,_,_,_,_,_,_,_,_,_,_,_,_,_,_] _
  unfold Qa2.a0 at H
  refine Qaf (Qak [0,1] rfl ?_)
  refine Qaa (v:=int .i64 x12) rfl rfl rfl ?_
  refine Qaa (v:=int .i64 x12) rfl rfl rfl (Qab ?_)
  obtain rfl:=QsJ H
  refine Qax Tryz.func94 (v:=int .i64 x12) (res1 rfl rfl) ?_
  have hs:St _ [] _:=St.take (Γ':=[]) hs
  exact ⟨_,rfl,rfl,hs⟩
 intro ha1_
 have hs:St _ [] _:=St.take (Γ':=[]) hs
 refine QaZ (I:=fun n_ t w=>∃ x7:Int,∃ x8:Int,rounds (fun s=>Qa2.b0 N a1 a6 s.1 s.2) n_ (x7,x8)=some o1_∧Fr t (fun O=>([pointer (some ⟨b2,0,none⟩),int .i64 a6,O 2,O 3,O 4,int .i64 x7,int .i64 x8,O 7,O 8,O 9,O 10,O 11,O 12,O 13,O 14,O 15,O 16,O 17,O 18,O 19,O 20,O 21,O 22,O 23,O 24,O 25,O 26,O 27]:List Value))∧St w0 [] w) N ⟨0,0,Ho,rfl,hs⟩ ?_ ?_
 ·
  rintro _ _ ⟨x7,x8,h,_⟩
  exact rounds_zero h
 intro n_ ih1_
 rintro t w ⟨x7,x8,Ho,hf,hs⟩
 obtain ⟨O,rfl⟩:=hf.open
 show G _ _ _ _ [_,_,_,_,_,_,_,_,_,_,_,_,_,_,_,_,_,_,_,_,_,_,_,_,_,_,_,_] _
 obtain ⟨x2_,H,Hx1_⟩:=rounds_succ Ho
 have H:Qa2.b0 N a1 a6 x7 x8=some x2_:=H
 unfold Qa2.b0 at H
 refine Qaf (Qaf (Qak [0,1,2,3,4,5,6] rfl ?_))
 refine Qaa (v:=int .i64 x8) rfl rfl rfl ?_
 refine Qaa (v:=pointer (some ⟨b2,0,none⟩)) rfl rfl rfl ?_
 refine Qaa (v:=pointer (some ⟨b2,0,none⟩)) rfl rfl rfl ?_
 refine Qaa (v:=pointer (some ⟨b2,2,none⟩)) rfl rfl rfl ?_
 refine Qaw rfl rfl (v:=v3) rfl rfl (fun _=>rfl) (cells_load (hs.box hp0) 2 1 rfl) ?_
 show G _ _ _ _ [_,_,_,_,_,_,_,_,_,_,_,_,_,_,_,_,_,_,_,_,_,_,_,_,_,_,_,_] _
 refine Qbp (hs.rd hr4) rfl rfl rfl rfl rfl ?_
 refine QaA (B:=decide (x8< (a1.Qah.length:Int))) rfl rfl rfl ?_ ?_
 ·
  intro hb
  rw [if_pos (b_dec_t hb)] at H
  show G _ _ _ _ [_,_,_,_,_,_,_,_,_,_,_,_,_,_,_,_,_,_,_,_,_,_,_,_,_,_,_,_] _
  refine Qab (Qam rfl (QaE (Qaf ?_)))
  refine QaF (J:=(fun t w=>∃ x11:Int,Qa2.j2 N x8 x11=some x2_∧Fr t (fun O=>([pointer (some ⟨b2,0,none⟩),int .i64 a6,O 2,O 3,O 4,int .i64 x11,int .i64 x8,O 7,O 8,O 9,O 10,O 11,O 12,O 13,O 14,O 15,O 16,O 17,O 18,O 19,O 20,O 21,O 22,O 23,O 24,O 25,O 26,O 27]:List Value))∧St w0 [] w)) ?_ ?_
  ·
   rintro t w ⟨x11,H,hf,hs⟩
   obtain ⟨O,rfl⟩:=hf.open
   show G _ _ _ _ [_,_,_,_,_,_,_,_,_,_,_,_,_,_,_,_,_,_,_,_,_,_,_,_,_,_,_,_] _
   unfold Qa2.j2 at H
   refine Qak [0,1,2] rfl ?_
   refine Qaa (v:=int .i64 x8) rfl rfl rfl ?_
   refine Qaa (v:=int .i64 (i64w (x8+1))) rfl rfl rfl ?_
   show G _ _ _ _ [_,_,_,_,_,_,_,_,_,_,_,_,_,_,_,_,_,_,_,_,_,_,_,_,_,_,_,_] _
   refine Qaa (v:=int .i64 (i64w (x8+1))) rfl rfl rfl (Qab ?_)
   obtain rfl:=QsJ H
   have hs:St _ [] _:=St.take (Γ':=[]) hs
   exact ih1_ _ _ ⟨x11,i64w (x8+1),Hx1_,rfl,hs⟩
  intro ha
  refine Qaf (Qak [0,1,2,3,4,5,6,7,8] rfl ?_)
  refine Qaa (v:=pointer (some ⟨b2,0,none⟩)) rfl rfl rfl ?_
  refine Qaa (v:=pointer (some ⟨b2,0,none⟩)) rfl rfl rfl ?_
  refine Qaa (v:=pointer (some ⟨b2,2,none⟩)) rfl rfl rfl ?_
  refine Qaw rfl rfl (v:=v3) rfl rfl (fun _=>rfl) (cells_load (hs.box hp0) 2 1 rfl) ?_
  refine Qaa (v:=int .i64 x8) rfl rfl rfl ?_
  obtain ⟨g1,H⟩:=ite_get H
  refine Qcm QaX Qau (hs.rd hr4) rfl (fun _=>rfl) g1.1 g1.2 rfl rfl rfl rfl rfl ?_
  intro p9 hp9 lp9 op9
  refine QaG rfl rfl (es:=(QaC (rdL a1.Qah x8 Qau))) rfl rfl (fun _=>rfl) (n:=2) (fun _=>rfl) (QaX.len _) hp9 ?_
  show G _ _ _ _ [_,_,_,_,_,_,_,_,_,_,_,_,_,_,_,_,_,_,_,_,_,_,_,_,_,_,_,_] _
  refine Qaa (v:=int .i64 a6) rfl rfl rfl ?_
  obtain ⟨r10,Hr10,H⟩:=bind_get H
  refine Qas (args:=[agg (QaC (rdL a1.Qah x8 Qau)).toArray,int .i64 a6]) rfl rfl (Qat rfl (callFunc_enter Tryz.func116 rfl rfl) rfl) (Qcd.calls (a1:=rdL a1.Qah x8 Qau) (a2:=a6) Hr10) ?_
  rintro _ w ⟨rfl,hs2⟩
  have hs:St _ [] _:=hs.call hs2
  cases r10 with
  |true=>
   rw [if_pos rfl] at H
   refine Qab (Qam rfl (Qak [0,1,2] rfl ?_))
   refine Qaa (v:=int .i64 x7) rfl rfl rfl ?_
   refine Qaa (v:=int .i64 (i64w (x7+1))) rfl rfl rfl ?_
   show G _ _ _ _ [_,_,_,_,_,_,_,_,_,_,_,_,_,_,_,_,_,_,_,_,_,_,_,_,_,_,_,_] _
   refine Qaa (v:=int .i64 (i64w (x7+1))) rfl rfl rfl (Qab ?_)
   refine QaH ?_
   have hs:St _ [] _:=St.take (Γ':=[]) hs
   exact ha _ _ ⟨i64w (x7+1),H,rfl,hs⟩
  |false=>
   rw [if_neg Bool.false_ne_true] at H
   refine Qab (Qap rfl (QaE ?_))
   refine QaH ?_
   have hs:St _ [] _:=St.take (Γ':=[]) hs
   exact ha _ _ ⟨x7,H,rfl,hs⟩
 intro hb
 rw [if_neg (b_dec_f hb)] at H
 refine Qab (Qap rfl ?_)
 obtain rfl:=QsJ H
 subst Hx1_
 have hs:St _ [] _:=St.take (Γ':=[]) hs
 refine Qbq rfl ?_
 exact ha1_ _ _ ⟨x7,Hr1_,rfl,hs⟩
def QaN.post (w0:World) (r:(List Int)) (v:Value) (w:World):Prop:=St w0 [Row 2 (K.int .i64) v r] w
theorem QaN.calls {N:Nat} {a1:Qag} {b2:Nat} {v3:Value} {w0:World} {r:(List Int)} (hr4:RdRow Qao w0 v3 a1.Qah) (hp0:w0.heap[b2]?=some (.cells ((([int .i8 a1.Qac,int .i8 a1.Qae,v3]:List Value)):List Value).toArray 30 (0,0))) (H:QaN.f N a1=some r):
 Calls Tryz.prog 57 #[pointer (some ⟨b2,0,none⟩)] w0 fun e w=>∃ v,e= .returned v∧QaN.post w0 r v w:=by
 unfold QaN.f at H
 have hs:St w0 [] w0:=St.refl w0
 refine calls_of_g (n:=28) Tryz.func57 rfl rfl ?_
 show G _ _ _ _ [_,_,_,_,_,_,_,_,_,_,_,_,_,_,_,_,_,_,_,_,_,_,_,_,_,_,_,_,_] _
 refine Qaf (Qak [0] rfl ?_)
 refine Qaa (v:=slice none 0 0) rfl rfl rfl ?_
 show G _ _ _ _ [_,_,_,_,_,_,_,_,_,_,_,_,_,_,_,_,_,_,_,_,_,_,_,_,_,_,_,_,_] _
 refine Qab (Qaf (Qak [0,1] rfl ?_))
 refine QcB (κ:=(K.int .i64)) hs rfl rfl rfl rfl (fun _=>rfl) ?_
 intro v6 w hs
 refine Qaa (v:=v6) rfl rfl rfl (Qab (Qaf (Qaf (Qak [0] rfl ?_))))
 refine Qaa (v:=int .i64 0) rfl rfl rfl ?_
 show G _ _ _ _ [_,_,_,_,_,_,_,_,_,_,_,_,_,_,_,_,_,_,_,_,_,_,_,_,_,_,_,_,_] _
 refine Qab ?_
 obtain ⟨o1_,Ho,Hr1_⟩:=bind_get H
 refine QaF (J:=fun t w=>∃ v20:Value,∃ x21:(List Int),QaN.a0 N x21=some r∧Fr t (fun O=>([O 0,O 1,O 2,v20,O 4,O 5,O 6,O 7,O 8,O 9,O 10,O 11,O 12,O 13,O 14,O 15,O 16,O 17,O 18,O 19,O 20,O 21,O 22,O 23,O 24,O 25,O 26,O 27,O 28]:List Value))∧St w0 [Row 2 (K.int .i64) v20 x21] w) ?_ ?_
 ·
  rintro t w ⟨v20,x21,H,hf,hs⟩
  obtain ⟨O,rfl⟩:=hf.open
  show G _ _ _ _ [_,_,_,_,_,_,_,_,_,_,_,_,_,_,_,_,_,_,_,_,_,_,_,_,_,_,_,_,_] _
  unfold QaN.a0 at H
  refine Qaf (Qak [0,1] rfl ?_)
  refine Qaa (v:=v20) rfl rfl rfl ?_
  refine Qaa (v:=v20) rfl rfl rfl ?_
  show G _ _ _ _ [_,_,_,_,_,_,_,_,_,_,_,_,_,_,_,_,_,_,_,_,_,_,_,_,_,_,_,_,_] _
  refine Qab ?_
  obtain rfl:=QsJ H
  refine Qax Tryz.func57 (v:=v20) (res1 rfl rfl) ?_
  have hs:=hs.pull 0 rfl
  have hs:St _ [_] _:=St.take (Γ':=[]) hs
  exact ⟨_,rfl,hs⟩
 intro ha1_
 have hs:=hs.pull 0 rfl
 have hs:St _ [_] _:=St.take (Γ':=[]) hs
 refine QaZ (I:=fun n_ t w=>∃ v9:Value,∃ x10:(List Int),∃ x11:Int,rounds (fun s=>QaN.b0 N a1 s.1 s.2) n_ (x10,x11)=some o1_∧Fr t (fun O=>([pointer (some ⟨b2,0,none⟩),O 1,O 2,v9,int .i64 x11,O 5,O 6,O 7,O 8,O 9,O 10,O 11,O 12,O 13,O 14,O 15,O 16,O 17,O 18,O 19,O 20,O 21,O 22,O 23,O 24,O 25,O 26,O 27,O 28]:List Value))∧St w0 [Row 2 (K.int .i64) v9 x10] w) N ⟨v6,([]:List Int),0,Ho,rfl,hs⟩ ?_ ?_
 ·
  rintro _ _ ⟨v9,x10,x11,h,_⟩
  exact rounds_zero h
 intro n_ ih1_
 rintro t w ⟨v9,x10,x11,Ho,hf,hs⟩
 obtain ⟨O,rfl⟩:=hf.open
 show G _ _ _ _ [_,_,_,_,_,_,_,_,_,_,_,_,_,_,_,_,_,_,_,_,_,_,_,_,_,_,_,_,_] _
 obtain ⟨x3_,H,Hx1_⟩:=rounds_succ Ho
 have H:QaN.b0 N a1 x10 x11=some x3_:=H
 unfold QaN.b0 at H
 refine Qaf (Qaf (Qak [0,1,2,3,4,5,6] rfl ?_))
 refine Qaa (v:=int .i64 x11) rfl rfl rfl ?_
 refine Qaa (v:=pointer (some ⟨b2,0,none⟩)) rfl rfl rfl ?_
 refine Qaa (v:=pointer (some ⟨b2,0,none⟩)) rfl rfl rfl ?_
 refine Qaa (v:=pointer (some ⟨b2,0,none⟩)) rfl rfl rfl ?_
 refine Qaw rfl rfl (v:=int .i8 a1.Qac) rfl rfl (fun _=>rfl) (cells_load (hs.box hp0) 0 1 rfl) ?_
 refine Qaa (v:=int .i64 (i64w a1.Qac)) rfl rfl rfl ?_
 refine QaA (B:=decide (x11< (i64w a1.Qac))) rfl rfl rfl ?_ ?_
 ·
  intro hb
  rw [if_pos (b_dec_t hb)] at H
  show G _ _ _ _ [_,_,_,_,_,_,_,_,_,_,_,_,_,_,_,_,_,_,_,_,_,_,_,_,_,_,_,_,_] _
  refine Qab (Qam rfl (QaE (Qaf ?_)))
  refine QaF (J:=(fun t w=>∃ v17:Value,∃ x18:(List Int),QaN.j2 N x11 x18=some x3_∧Fr t (fun O=>([pointer (some ⟨b2,0,none⟩),O 1,O 2,v17,int .i64 x11,O 5,O 6,O 7,O 8,O 9,O 10,O 11,O 12,O 13,O 14,O 15,O 16,O 17,O 18,O 19,O 20,O 21,O 22,O 23,O 24,O 25,O 26,O 27,O 28]:List Value))∧St w0 [Row 2 (K.int .i64) v17 x18] w)) ?_ ?_
  ·
   rintro t w ⟨v17,x18,H,hf,hs⟩
   obtain ⟨O,rfl⟩:=hf.open
   show G _ _ _ _ [_,_,_,_,_,_,_,_,_,_,_,_,_,_,_,_,_,_,_,_,_,_,_,_,_,_,_,_,_] _
   unfold QaN.j2 at H
   refine Qak [0,1,2] rfl ?_
   refine Qaa (v:=int .i64 x11) rfl rfl rfl ?_
   refine Qaa (v:=int .i64 (i64w (x11+1))) rfl rfl rfl ?_
   refine Qaa (v:=int .i64 (i64w (x11+1))) rfl rfl rfl (Qab ?_)
   obtain rfl:=QsJ H
   have hs:=hs.pull 0 rfl
   have hs:St _ [_] _:=St.take (Γ':=[]) hs
   exact ih1_ _ _ ⟨v17,x18,i64w (x11+1),Hx1_,rfl,hs⟩
  intro ha
  refine Qaf ?_
  refine Qcj (n:=9) rfl [0,1,2,3,4,5,6,7,8] [0,1,2,3,4,5,6,7,8] rfl rfl ?_
  intro rest w hh hbw hO
  have hs:=hs.samew hh hbw
  show G _ _ _ _ [_,_,_,_,_,_,_,_,_,_,_,_,_,_,_,_,_,_,_,_,_,_,_,_,_,_,_,_,_] _
  obtain ⟨r12,Hr12,H⟩:=bind_get H
  refine Qbu ?_
  intro T hT
  refine QbV (m0:=0) hO rfl 255 [0,1,2,3,4,5,6,7] [0,0,3,0,8,24,56,120,255] (by decide+kernel) (fun D t w=>∃ O:Nat→Value,t=[pointer (some ⟨b2,0,none⟩),O 1,O 2,v9,int .i64 x11,O 5,int .i64 x11,pointer (some ⟨b2,0,none⟩),pointer (some ⟨b2,0,none⟩),pointer (some ⟨b2,0,none⟩),int .i8 a1.Qac,int .i64 (i64w a1.Qac),bool true,O 13,O 14,cnd (D 0) (pointer (some ⟨b2,0,none⟩)) (O 15),cnd (D 1) (int .i64 x11) (O 16),cnd (D 2) (int .i64 r12) (O 17),cnd (D 3) (pointer (some ⟨b2,0,none⟩)) (O 18),cnd (D 4) (pointer (some ⟨b2,0,none⟩)) (O 19),cnd (D 5) (pointer (some ⟨b2,1,none⟩)) (O 20),cnd (D 6) (int .i8 a1.Qae) (O 21),cnd (D 7) (int .i64 (i64w a1.Qae)) (O 22),O 23,O 24,O 25,O 26,O 27,O 28]∧St w0 [Row 2 (K.int .i64) v9 x10] w) ?_ ⟨?_,⟨?_,⟨?_,⟨?_,⟨?_,⟨?_,⟨?_,⟨?_,trivial⟩⟩⟩⟩⟩⟩⟩⟩ ?_
  ·exact ⟨fun i=>T.getD i undef,(by subst hT;rfl),hs⟩
  ·
   rintro D t w hD hp hcl ⟨O,ht,hs⟩ rest hk
   have hp:AllDone D []:=hp
   have q2_:=ny hcl 2 0 hD
   simp only [hD,q2_,cq,oT] at ht hs
   subst ht
   refine Qaa (v:=pointer (some ⟨b2,0,none⟩)) rfl rfl rfl ?_
   show G _ _ _ _ [_,_,_,_,_,_,_,_,_,_,_,_,_,_,_,_,_,_,_,_,_,_,_,_,_,_,_,_,_] _
   refine hk _ _ ⟨O,?_,hs.cast ?_⟩<;>simp only [oT,lq,cq,Nat.reduceBEq,q2_]
  ·
   rintro D t w hD hp hcl ⟨O,ht,hs⟩ rest hk
   have hp:AllDone D []:=hp
   have q2_:=ny hcl 2 1 hD
   simp only [hD,q2_,cq,oT] at ht hs
   subst ht
   refine Qaa (v:=int .i64 x11) rfl rfl rfl ?_
   show G _ _ _ _ [_,_,_,_,_,_,_,_,_,_,_,_,_,_,_,_,_,_,_,_,_,_,_,_,_,_,_,_,_] _
   refine hk _ _ ⟨O,?_,hs.cast ?_⟩<;>simp only [oT,lq,cq,Nat.reduceBEq,q2_]
  ·
   rintro D t w hD hp hcl ⟨O,ht,hs⟩ rest hk
   have hp:AllDone D [0,1]:=hp
   obtain ⟨p0_,p1_,_⟩:=hp
   simp only [hD,p0_,p1_,cq,oT] at ht hs
   subst ht
   refine Qas (args:=[pointer (some ⟨b2,0,none⟩),int .i64 x11]) rfl rfl (Qat rfl (callFunc_enter Tryz.func94 rfl rfl) rfl) (Qa2.calls (a1:=(⟨a1.Qac,a1.Qae,a1.Qah⟩:Qag)) (a6:=x11) (hs.rd hr4) (hs.box hp0) Hr12) ?_
   rintro _ w ⟨rfl,hs2⟩
   have hs:St _ [_] _:=hs.call hs2
   show G _ _ _ _ [_,_,_,_,_,_,_,_,_,_,_,_,_,_,_,_,_,_,_,_,_,_,_,_,_,_,_,_,_] _
   refine hk _ _ ⟨O,?_,hs.cast ?_⟩<;>simp only [oT,lq,cq,Nat.reduceBEq,p0_,p1_]
  ·
   rintro D t w hD hp hcl ⟨O,ht,hs⟩ rest hk
   have hp:AllDone D []:=hp
   have q4_:=ny hcl 4 0 hD
   have q5_:=ny hcl 5 0 q4_
   have q6_:=ny hcl 6 0 q5_
   have q7_:=ny hcl 7 0 q6_
   simp only [hD,q4_,q5_,q6_,q7_,cq,oT] at ht hs
   subst ht
   refine Qaa (v:=pointer (some ⟨b2,0,none⟩)) rfl rfl rfl ?_
   show G _ _ _ _ [_,_,_,_,_,_,_,_,_,_,_,_,_,_,_,_,_,_,_,_,_,_,_,_,_,_,_,_,_] _
   refine hk _ _ ⟨O,?_,hs.cast ?_⟩<;>simp only [oT,lq,cq,Nat.reduceBEq,q4_,q5_,q6_,q7_]
  ·
   rintro D t w hD hp hcl ⟨O,ht,hs⟩ rest hk
   have hp:AllDone D [3]:=hp
   obtain ⟨p3_,_⟩:=hp
   have q5_:=ny hcl 5 0 hD
   have q6_:=ny hcl 6 0 q5_
   have q7_:=ny hcl 7 0 q6_
   simp only [hD,p3_,q5_,q6_,q7_,cq,oT] at ht hs
   subst ht
   refine Qaa (v:=pointer (some ⟨b2,0,none⟩)) rfl rfl rfl ?_
   show G _ _ _ _ [_,_,_,_,_,_,_,_,_,_,_,_,_,_,_,_,_,_,_,_,_,_,_,_,_,_,_,_,_] _
   refine hk _ _ ⟨O,?_,hs.cast ?_⟩<;>simp only [oT,lq,cq,Nat.reduceBEq,p3_,q5_,q6_,q7_]
  ·
   rintro D t w hD hp hcl ⟨O,ht,hs⟩ rest hk
   have hp:AllDone D [4]:=hp
   obtain ⟨p4_,_⟩:=hp
   obtain ⟨p3_,_⟩:=(show D 4=true→AllDone D [3] from hcl 4 (by decide)) p4_
   have q6_:=ny hcl 6 0 hD
   have q7_:=ny hcl 7 0 q6_
   simp only [hD,p3_,p4_,q6_,q7_,cq,oT] at ht hs
   subst ht
   refine Qaa (v:=pointer (some ⟨b2,1,none⟩)) rfl rfl rfl ?_
   show G _ _ _ _ [_,_,_,_,_,_,_,_,_,_,_,_,_,_,_,_,_,_,_,_,_,_,_,_,_,_,_,_,_] _
   refine hk _ _ ⟨O,?_,hs.cast ?_⟩<;>simp only [oT,lq,cq,Nat.reduceBEq,p3_,p4_,q6_,q7_]
  ·
   rintro D t w hD hp hcl ⟨O,ht,hs⟩ rest hk
   have hp:AllDone D [5]:=hp
   obtain ⟨p5_,_⟩:=hp
   obtain ⟨p4_,_⟩:=(show D 5=true→AllDone D [4] from hcl 5 (by decide)) p5_
   obtain ⟨p3_,_⟩:=(show D 4=true→AllDone D [3] from hcl 4 (by decide)) p4_
   have q7_:=ny hcl 7 0 hD
   simp only [hD,p3_,p4_,p5_,q7_,cq,oT] at ht hs
   subst ht
   refine Qaw rfl rfl (v:=int .i8 a1.Qae) rfl rfl (fun _=>rfl) (cells_load (hs.box hp0) 1 1 rfl) ?_
   show G _ _ _ _ [_,_,_,_,_,_,_,_,_,_,_,_,_,_,_,_,_,_,_,_,_,_,_,_,_,_,_,_,_] _
   refine hk _ _ ⟨O,?_,hs.cast ?_⟩<;>simp only [oT,lq,cq,Nat.reduceBEq,p3_,p4_,p5_,q7_]
  ·
   rintro D t w hD hp hcl ⟨O,ht,hs⟩ rest hk
   have hp:AllDone D [6]:=hp
   obtain ⟨p6_,_⟩:=hp
   obtain ⟨p5_,_⟩:=(show D 6=true→AllDone D [5] from hcl 6 (by decide)) p6_
   obtain ⟨p4_,_⟩:=(show D 5=true→AllDone D [4] from hcl 5 (by decide)) p5_
   obtain ⟨p3_,_⟩:=(show D 4=true→AllDone D [3] from hcl 4 (by decide)) p4_
   simp only [hD,p3_,p4_,p5_,p6_,cq,oT] at ht hs
   subst ht
   refine Qaa (v:=int .i64 (i64w a1.Qae)) rfl rfl rfl ?_
   show G _ _ _ _ [_,_,_,_,_,_,_,_,_,_,_,_,_,_,_,_,_,_,_,_,_,_,_,_,_,_,_,_,_] _
   refine hk _ _ ⟨O,?_,hs.cast ?_⟩<;>simp only [oT,lq,cq,Nat.reduceBEq,p3_,p4_,p5_,p6_]
  intro D t w rest hall hO1_ hI
  obtain ⟨O,ht,hs⟩:=hI
  have p0_:=hall 0 (by decide) rfl
  have p1_:=hall 1 (by decide) rfl
  have p2_:=hall 2 (by decide) rfl
  have p3_:=hall 3 (by decide) rfl
  have p4_:=hall 4 (by decide) rfl
  have p5_:=hall 5 (by decide) rfl
  have p6_:=hall 6 (by decide) rfl
  have p7_:=hall 7 (by decide) rfl
  simp only [p0_,p1_,p2_,p3_,p4_,p5_,p6_,p7_,cq,oT] at ht hs
  subst ht
  obtain ⟨rest,rfl,hO2_⟩:=ord_one (m:=255) hO1_ rfl 8 (m':=511) (by decide+kernel) rfl
  clear hO1_
  refine QaA (B:=decide (r12≤(i64w a1.Qae))) rfl rfl rfl ?_ ?_
  ·
   intro hb
   rw [if_pos (b_dec_t hb)] at H
   obtain rfl:=ord_end hO2_ rfl (by decide+kernel)
   refine Qab (Qam rfl (Qak [0,1,2,3,4] rfl ?_))
   refine Qaa (v:=v9) rfl rfl rfl ?_
   refine Qaa (v:=int .i64 x11) rfl rfl rfl ?_
   show G _ _ _ _ [_,_,_,_,_,_,_,_,_,_,_,_,_,_,_,_,_,_,_,_,_,_,_,_,_,_,_,_,_] _
   refine Qcr (fkI .i64) (y:=x11) hs rfl rfl rfl rfl (fun _=>rfl) (zv:=(int .i64 0)) (fun _=>rfl) rfl (by decide) (by decide) rfl ?_
   intro v13 w hs
   have hs:St _ [_,_] _:=hs.pull 1 rfl
   obtain ⟨g,H⟩:=ite_get H
   refine Qci (fkI .i64) (zv:=(int .i64 0)) (B:=8) hs (hs.row 1 rfl) rfl rfl rfl rfl rfl rfl rfl rfl rfl (by decide) rfl rfl (by decide) (by omega) ?_
   intro v15 w hs
   refine Qaa (v:=v15) rfl rfl rfl ?_
   show G _ _ _ _ [_,_,_,_,_,_,_,_,_,_,_,_,_,_,_,_,_,_,_,_,_,_,_,_,_,_,_,_,_] _
   refine Qab ?_
   refine QaH ?_
   have hs:=hs.pull 0 rfl
   have hs:St _ [_] _:=St.take (Γ':=[_]) hs
   exact ha _ _ ⟨v15,x10++([x11]),H,rfl,hs⟩
  intro hb
  rw [if_neg (b_dec_f hb)] at H
  obtain rfl:=ord_end hO2_ rfl (by decide+kernel)
  refine Qab (Qap rfl (QaE ?_))
  refine QaH ?_
  have hs:=hs.pull 0 rfl
  have hs:St _ [_] _:=St.take (Γ':=[]) hs
  exact ha _ _ ⟨v9,x10,H,rfl,hs⟩
 intro hb
 rw [if_neg (b_dec_f hb)] at H
 refine Qab (Qap rfl ?_)
 obtain rfl:=QsJ H
 subst Hx1_
 have hs:=hs.pull 0 rfl
 have hs:St _ [_] _:=St.take (Γ':=[]) hs
 refine Qbq rfl ?_
 exact ha1_ _ _ ⟨v9,x10,Hr1_,rfl,hs⟩
def Qb6.post (w0:World) (r:(Int×Int)) (v:Value) (w:World):Prop:=v=tuple #[int .i64 r.1,int .i64 r.2]∧St w0 [] w
theorem Qb6.calls {N:Nat} {a1:Qag} {b2:Nat} {v3:Value} {w0:World} {r:(Int×Int)} (hr4:RdRow Qao w0 v3 a1.Qah) (hp0:w0.heap[b2]?=some (.cells ((([int .i8 a1.Qac,int .i8 a1.Qae,v3]:List Value)):List Value).toArray 30 (0,0))) (H:Qb6.f N a1=some r):
 Calls Tryz.prog 76 #[pointer (some ⟨b2,0,none⟩)] w0 fun e w=>∃ v,e= .returned v∧Qb6.post w0 r v w:=by
 unfold Qb6.f at H
 have hs:St w0 [] w0:=St.refl w0
 refine calls_of_g (n:=15) Tryz.func76 rfl rfl ?_
 show G _ _ _ _ [_,_,_,_,_,_,_,_,_,_,_,_,_,_,_,_] _
 refine Qaf (Qak [0,1] rfl ?_)
 refine Qaa (v:=int .i64 0) rfl rfl rfl ?_
 refine Qaa (v:=int .i64 0) rfl rfl rfl ?_
 show G _ _ _ _ [_,_,_,_,_,_,_,_,_,_,_,_,_,_,_,_] _
 refine Qab (Qaf (Qak [0,1,2] rfl ?_))
 refine Qaa (v:=pointer (some ⟨b2,0,none⟩)) rfl rfl rfl ?_
 obtain ⟨r6,Hr6,H⟩:=bind_get H
 refine Qas (args:=[pointer (some ⟨b2,0,none⟩)]) rfl rfl (Qat rfl (callFunc_enter Tryz.func57 rfl rfl) rfl) (QaN.calls (a1:=(⟨a1.Qac,a1.Qae,a1.Qah⟩:Qag)) (hs.rd hr4) (hs.box hp0) Hr6) ?_
 intro v7 w hs2
 have hs:St _ [_] _:=hs.call hs2
 refine Qaa (v:=v7) rfl rfl rfl ?_
 show G _ _ _ _ [_,_,_,_,_,_,_,_,_,_,_,_,_,_,_,_] _
 refine Qab (Qaf (Qaf (Qak [0,1] rfl ?_)))
 refine Qaa (v:=v7) rfl rfl rfl ?_
 refine Qbp (hs.row 0 rfl) rfl rfl rfl rfl rfl (Qab ?_)
 refine Qbz (Qaf (Qak [0,1] rfl ?_))
 refine QaA (B:=(r6.length:Int)==0) rfl rfl rfl ?_ ?_
 ·
  intro hb
  rw [if_pos (b_beq_t hb)] at H
  show G _ _ _ _ [_,_,_,_,_,_,_,_,_,_,_,_,_,_,_,_] _
  refine Qaa (v:=bool true) rfl rfl rfl (Qab (Qam rfl (Qaf (Qak [0,1] rfl ?_))))
  refine Qaa (v:=int .i64 0) rfl rfl rfl ?_
  refine Qaa (v:=int .i64 8) rfl rfl rfl ?_
  show G _ _ _ _ [_,_,_,_,_,_,_,_,_,_,_,_,_,_,_,_] _
  refine Qab ?_
  obtain rfl:=QsJ H
  refine Qax Tryz.func76 (v:=tuple #[int .i64 0,int .i64 8]) (resN (l:=Tryz.f76.results.toList) (vs:=[int .i64 0,int .i64 8]) rfl ⟨rfl,rfl,trivial⟩ (by simp)) ?_
  have hs:St _ [] _:=St.take (Γ':=[_]) hs
  exact ⟨_,rfl,rfl,hs⟩
 intro hb
 rw [if_neg (b_beq_f hb)] at H
 show G _ _ _ _ [_,_,_,_,_,_,_,_,_,_,_,_,_,_,_,_] _
 refine Qaa (v:=bool false) rfl rfl rfl (Qab (Qap rfl (Qaf (Qak [0,1] rfl ?_))))
 refine QaA (B:=(r6.length:Int)==1) rfl rfl rfl ?_ ?_
 ·
  intro hb
  rw [if_pos (b_beq_t hb)] at H
  refine Qaa (v:=bool true) rfl rfl rfl ?_
  show G _ _ _ _ [_,_,_,_,_,_,_,_,_,_,_,_,_,_,_,_] _
  refine Qab (Qam rfl (Qaf (Qak [0,1,2,3,4] rfl ?_)))
  refine Qaa (v:=v7) rfl rfl rfl ?_
  obtain ⟨g1,H⟩:=ite_get H
  refine Qcm (fkI .i64) 0 (hs.row 0 rfl) rfl (fun _=>rfl) g1.1 g1.2 rfl rfl rfl rfl rfl ?_
  intro p9 hp9 lp9 op9
  refine Qaw rfl rfl (v:=int .i64 (rdL r6 0 0)) rfl rfl (fun _=>rfl) hp9 ?_
  show G _ _ _ _ [_,_,_,_,_,_,_,_,_,_,_,_,_,_,_,_] _
  refine Qaa (v:=int .i64 (rdL r6 0 0)) rfl rfl rfl ?_
  refine Qaa (v:=int .i64 0) rfl rfl rfl (Qab ?_)
  obtain rfl:=QsJ H
  refine Qax Tryz.func76 (v:=tuple #[int .i64 (rdL r6 0 0),int .i64 0]) (resN (l:=Tryz.f76.results.toList) (vs:=[int .i64 (rdL r6 0 0),int .i64 0]) rfl ⟨rfl,rfl,trivial⟩ (by simp)) ?_
  have hs:St _ [] _:=St.take (Γ':=[_]) hs
  exact ⟨_,rfl,rfl,hs⟩
 intro hb
 rw [if_neg (b_beq_f hb)] at H
 refine Qaa (v:=bool false) rfl rfl rfl ?_
 show G _ _ _ _ [_,_,_,_,_,_,_,_,_,_,_,_,_,_,_,_] _
 refine Qab (Qap rfl (QaE ?_))
 refine QaH (Qaf (Qak [0,1] rfl ?_))
 refine Qaa (v:=int .i64 0) rfl rfl rfl ?_
 refine Qaa (v:=int .i64 4) rfl rfl rfl (Qab ?_)
 obtain rfl:=QsJ H
 refine Qax Tryz.func76 (v:=tuple #[int .i64 0,int .i64 4]) (resN (l:=Tryz.f76.results.toList) (vs:=[int .i64 0,int .i64 4]) rfl ⟨rfl,rfl,trivial⟩ (by simp)) ?_
 have hs:St _ [] _:=St.take (Γ':=[_]) hs
 exact ⟨_,rfl,rfl,hs⟩
def QaU.post (w0:World) (r:(Ar Int 4)) (v:Value) (w:World):Prop:=v=agg ((encA (encI .i64)) r).toArray∧St w0 [] w
theorem QaU.calls {N:Nat} {a1:Qag} {b2:Nat} {v3:Value} {w0:World} {r:(Ar Int 4)} (hr4:RdRow Qao w0 v3 a1.Qah) (hp0:w0.heap[b2]?=some (.cells ((([int .i8 a1.Qac,int .i8 a1.Qae,v3]:List Value)):List Value).toArray 30 (0,0))) (H:QaU.f N a1=some r):
 Calls Tryz.prog 59 #[pointer (some ⟨b2,0,none⟩)] w0 fun e w=>∃ v,e= .returned v∧QaU.post w0 r v w:=by
 unfold QaU.f at H
 have hs:St w0 [] w0:=St.refl w0
 refine calls_of_g (n:=31) Tryz.func59 rfl rfl ?_
 show G _ _ _ _ [_,_,_,_,_,_,_,_,_,_,_,_,_,_,_,_,_,_,_,_,_,_,_,_,_,_,_,_,_,_,_,_] _
 refine Qaf (Qak [0] rfl ?_)
 refine Qa5 hs rfl rfl (z:=(agg #[int .i64 0,int .i64 0,int .i64 0,int .i64 0])) (cs:=((encA (encI .i64)) (Ar.rep 4 0))) rfl (fun _=>rfl) rfl ?_
 intro b6 w hs
 show G _ _ _ _ [_,_,_,_,_,_,_,_,_,_,_,_,_,_,_,_,_,_,_,_,_,_,_,_,_,_,_,_,_,_,_,_] _
 refine Qab (Qaf (Qak [0,1,2] rfl ?_))
 refine Qaa (v:=agg ((encA (encI .i64)) (Ar.rep 4 0)).toArray) rfl rfl (Qb7 rfl rfl) ?_
 refine Qa5 hs rfl rfl (z:=(agg #[int .i64 0,int .i64 0,int .i64 0,int .i64 0])) (cs:=((encA (encI .i64)) (Ar.rep 4 0))) rfl (fun _=>rfl) rfl ?_
 intro b8 w hs
 refine QaB (n:=4) hs ((fkA (n:=4) (he:=(fkI .i64).len) (h1:=(fkI .i64).one)).len _) rfl rfl (vs:=((encA (encI .i64)) (Ar.rep 4 0))) rfl rfl rfl (fun _=>rfl) ((fkA (n:=4) (he:=(fkI .i64).len) (h1:=(fkI .i64).one)).len _) ((fkA (n:=4) (he:=(fkI .i64).len) (h1:=(fkI .i64).one)).one _) ?_
 intro w hs
 refine Qab (Qaf (Qaf (Qak [0] rfl ?_)))
 refine Qaa (v:=int .i64 0) rfl rfl rfl ?_
 show G _ _ _ _ [_,_,_,_,_,_,_,_,_,_,_,_,_,_,_,_,_,_,_,_,_,_,_,_,_,_,_,_,_,_,_,_] _
 refine Qab ?_
 obtain ⟨o1_,Ho,Hr1_⟩:=bind_get H
 refine QaF (J:=fun t w=>∃ x17:(Ar Int 4),QaU.a0 N x17=some r∧Fr t (fun O=>([O 0,O 1,pointer (some ⟨b6,0,none⟩),pointer (some ⟨b8,0,none⟩),O 4,O 5,O 6,O 7,O 8,O 9,O 10,O 11,O 12,O 13,O 14,O 15,O 16,O 17,O 18,O 19,O 20,O 21,O 22,O 23,O 24,O 25,O 26,O 27,O 28,O 29,O 30,O 31]:List Value))∧St w0 [Cells b6 ((encA (encI .i64)) (Ar.rep 4 0)) 47,Cells b8 ((encA (encI .i64)) x17) 47] w) ?_ ?_
 ·
  rintro t w ⟨x17,H,hf,hs⟩
  obtain ⟨O,rfl⟩:=hf.open
  show G _ _ _ _ [_,_,_,_,_,_,_,_,_,_,_,_,_,_,_,_,_,_,_,_,_,_,_,_,_,_,_,_,_,_,_,_] _
  unfold QaU.a0 at H
  refine Qaf (Qak [0,1] rfl ?_)
  refine QaG rfl rfl (es:=((encA (encI .i64)) x17)) rfl rfl (fun _=>rfl) (n:=4) (fun _=>rfl) ((fkA (n:=4) (he:=(fkI .i64).len) (h1:=(fkI .i64).one)).len _) (cells_all (hs.cells 1 rfl)) ?_
  refine QaB (n:=4) hs ((fkA (n:=4) (he:=(fkI .i64).len) (h1:=(fkI .i64).one)).len _) rfl rfl (vs:=((encA (encI .i64)) x17)) rfl rfl rfl (fun _=>rfl) ((fkA (n:=4) (he:=(fkI .i64).len) (h1:=(fkI .i64).one)).len _) ((fkA (n:=4) (he:=(fkI .i64).len) (h1:=(fkI .i64).one)).one _) ?_
  intro w hs
  refine Qab ?_
  obtain rfl:=QsJ H
  refine Qax Tryz.func59 (v:=agg ((encA (encI .i64)) x17).toArray) (resC rfl ⟨⟨_,rfl,(run_loadVar_agg (es:=((encA (encI .i64)) x17)) rfl (congrArg (Result.ok · _) ((fkA (n:=4) (he:=(fkI .i64).len) (h1:=(fkI .i64).one)).len _).symm) (cells_all (hs.cells 0 rfl)))⟩,trivial⟩) ?_
  have hs:St _ [] _:=St.take (Γ':=[_,_]) hs
  exact ⟨_,rfl,rfl,hs⟩
 intro ha1_
 have hs:=hs.pull 0 rfl
 have hs:=hs.pull 1 rfl
 have hs:St _ [_,_] _:=St.take (Γ':=[]) hs
 refine QaZ (I:=fun n_ t w=>∃ x13:(Ar Int 4),∃ x14:Int,rounds (fun s=>QaU.b0 N a1 s.1 s.2) n_ (x13,x14)=some o1_∧Fr t (fun O=>([pointer (some ⟨b2,0,none⟩),O 1,pointer (some ⟨b6,0,none⟩),pointer (some ⟨b8,0,none⟩),int .i64 x14,O 5,O 6,O 7,O 8,O 9,O 10,O 11,O 12,O 13,O 14,O 15,O 16,O 17,O 18,O 19,O 20,O 21,O 22,O 23,O 24,O 25,O 26,O 27,O 28,O 29,O 30,O 31]:List Value))∧St w0 [Cells b6 ((encA (encI .i64)) (Ar.rep 4 0)) 47,Cells b8 ((encA (encI .i64)) x13) 47] w) N ⟨(Ar.rep 4 0),0,Ho,rfl,hs⟩ ?_ ?_
 ·
  rintro _ _ ⟨x13,x14,h,_⟩
  exact rounds_zero h
 intro n_ ih1_
 rintro t w ⟨x13,x14,Ho,hf,hs⟩
 obtain ⟨O,rfl⟩:=hf.open
 show G _ _ _ _ [_,_,_,_,_,_,_,_,_,_,_,_,_,_,_,_,_,_,_,_,_,_,_,_,_,_,_,_,_,_,_,_] _
 obtain ⟨x5_,H,Hx1_⟩:=rounds_succ Ho
 have H:QaU.b0 N a1 x13 x14=some x5_:=H
 unfold QaU.b0 at H
 refine Qaf (Qaf (Qak [0,1,2,3,4,5,6] rfl ?_))
 refine Qaa (v:=int .i64 x14) rfl rfl rfl ?_
 refine Qaa (v:=pointer (some ⟨b2,0,none⟩)) rfl rfl rfl ?_
 refine Qaa (v:=pointer (some ⟨b2,0,none⟩)) rfl rfl rfl ?_
 refine Qaa (v:=pointer (some ⟨b2,0,none⟩)) rfl rfl rfl ?_
 refine Qaw rfl rfl (v:=int .i8 a1.Qac) rfl rfl (fun _=>rfl) (cells_load (hs.box hp0) 0 1 rfl) ?_
 refine Qaa (v:=int .i64 (i64w a1.Qac)) rfl rfl rfl ?_
 refine QaA (B:=decide (x14< (i64w a1.Qac))) rfl rfl rfl ?_ ?_
 ·
  intro hb
  rw [if_pos (b_dec_t hb)] at H
  show G _ _ _ _ [_,_,_,_,_,_,_,_,_,_,_,_,_,_,_,_,_,_,_,_,_,_,_,_,_,_,_,_,_,_,_,_] _
  refine Qab (Qam rfl (QaE (Qaf ?_)))
  refine QaF (J:=(fun t w=>∃ x16:(Ar Int 4),QaU.j2 N x14 x16=some x5_∧Fr t (fun O=>([pointer (some ⟨b2,0,none⟩),O 1,pointer (some ⟨b6,0,none⟩),pointer (some ⟨b8,0,none⟩),int .i64 x14,O 5,O 6,O 7,O 8,O 9,O 10,O 11,O 12,O 13,O 14,O 15,O 16,O 17,O 18,O 19,O 20,O 21,O 22,O 23,O 24,O 25,O 26,O 27,O 28,O 29,O 30,O 31]:List Value))∧St w0 [Cells b6 ((encA (encI .i64)) (Ar.rep 4 0)) 47,Cells b8 ((encA (encI .i64)) x16) 47] w)) ?_ ?_
  ·
   rintro t w ⟨x16,H,hf,hs⟩
   obtain ⟨O,rfl⟩:=hf.open
   show G _ _ _ _ [_,_,_,_,_,_,_,_,_,_,_,_,_,_,_,_,_,_,_,_,_,_,_,_,_,_,_,_,_,_,_,_] _
   unfold QaU.j2 at H
   refine Qak [0,1,2] rfl ?_
   refine Qaa (v:=int .i64 x14) rfl rfl rfl ?_
   refine Qaa (v:=int .i64 (i64w (x14+1))) rfl rfl rfl ?_
   refine Qaa (v:=int .i64 (i64w (x14+1))) rfl rfl rfl ?_
   show G _ _ _ _ [_,_,_,_,_,_,_,_,_,_,_,_,_,_,_,_,_,_,_,_,_,_,_,_,_,_,_,_,_,_,_,_] _
   refine Qab ?_
   obtain rfl:=QsJ H
   have hs:=hs.pull 1 rfl
   have hs:=hs.pull 1 rfl
   have hs:St _ [_,_] _:=St.take (Γ':=[]) hs
   exact ih1_ _ _ ⟨x16,i64w (x14+1),Hx1_,rfl,hs⟩
  intro ha
  refine Qaf (Qak [0,1,2,3] rfl ?_)
  refine Qaa (v:=pointer (some ⟨b2,0,none⟩)) rfl rfl rfl ?_
  refine Qaa (v:=int .i64 x14) rfl rfl rfl ?_
  obtain ⟨r15,Hr15,H⟩:=bind_get H
  refine Qas (args:=[pointer (some ⟨b2,0,none⟩),int .i64 x14]) rfl rfl (Qat rfl (callFunc_enter Tryz.func94 rfl rfl) rfl) (Qa2.calls (a1:=(⟨a1.Qac,a1.Qae,a1.Qah⟩:Qag)) (a6:=x14) (hs.rd hr4) (hs.box hp0) Hr15) ?_
  rintro _ w ⟨rfl,hs2⟩
  have hs:St _ [_,_] _:=hs.call hs2
  refine Qaa (v:=int .i64 r15) rfl rfl rfl (Qab (Qaf (Qak [0,1,2,3,4,5,6] rfl ?_)))
  refine Qaa (v:=int .i64 r15) rfl rfl rfl ?_
  refine Qaa (v:=pointer (some ⟨b2,0,none⟩)) rfl rfl rfl ?_
  refine Qaa (v:=pointer (some ⟨b2,0,none⟩)) rfl rfl rfl ?_
  refine Qaa (v:=pointer (some ⟨b2,1,none⟩)) rfl rfl rfl ?_
  refine Qaw rfl rfl (v:=int .i8 a1.Qae) rfl rfl (fun _=>rfl) (cells_load (hs.box hp0) 1 1 rfl) ?_
  show G _ _ _ _ [_,_,_,_,_,_,_,_,_,_,_,_,_,_,_,_,_,_,_,_,_,_,_,_,_,_,_,_,_,_,_,_] _
  refine Qaa (v:=int .i64 (i64w a1.Qae)) rfl rfl rfl ?_
  refine QaA (B:=decide (r15≤(i64w a1.Qae))) rfl rfl rfl ?_ ?_
  ·
   intro hb
   rw [if_pos (b_dec_t hb)] at H
   refine Qab (Qam rfl (Qak [0,1,2,3,4,5] rfl ?_))
   refine Qaa (v:=int .i64 r15) rfl rfl rfl ?_
   obtain ⟨g3,H⟩:=ite_get H
   refine Qba (n:=r15) (m:=1) rfl (fun _=>rfl) g3.1 g3.2 rfl rfl rfl rfl rfl ?_
   show G _ _ _ _ [_,_,_,_,_,_,_,_,_,_,_,_,_,_,_,_,_,_,_,_,_,_,_,_,_,_,_,_,_,_,_,_] _
   refine Qaw rfl rfl (v:=int .i64 (x13.get r15 0)) rfl rfl (fun _=>rfl) (by rw [Nat.zero_add];exact cells_load (hs.cells 1 rfl) _ _ (encA_at (fkI .i64).len _ _ 0 g3.1 g3.2)) ?_
   refine Qaa (v:=int .i64 (i64w ((x13.get r15 0)+1))) rfl rfl rfl ?_
   obtain ⟨g4,H⟩:=ite_get H
   refine Qba (n:=r15) (m:=1) rfl (fun _=>rfl) g4.1 g4.2 rfl rfl rfl rfl rfl ?_
   show G _ _ _ _ [_,_,_,_,_,_,_,_,_,_,_,_,_,_,_,_,_,_,_,_,_,_,_,_,_,_,_,_,_,_,_,_] _
   have hs:St _ [_,_] _:=hs.pull 1 rfl
   refine QbN (y:=i64w ((x13.get r15 0)+1)) (fkI .i64).len (fkI .i64).one g4.1 g4.2 hs rfl rfl rfl rfl rfl (fun _=>rfl) ?_
   intro w hs
   refine Qab ?_
   refine QaH ?_
   have hs:=hs.pull 0 rfl
   have hs:=hs.pull 1 rfl
   have hs:St _ [_,_] _:=St.take (Γ':=[]) hs
   exact ha _ _ ⟨x13.set r15 (i64w ((x13.get r15 0)+1)),H,rfl,hs⟩
  intro hb
  rw [if_neg (b_dec_f hb)] at H
  refine Qab (Qap rfl (QaE ?_))
  refine QaH ?_
  have hs:=hs.pull 1 rfl
  have hs:=hs.pull 1 rfl
  have hs:St _ [_,_] _:=St.take (Γ':=[]) hs
  exact ha _ _ ⟨x13,H,rfl,hs⟩
 intro hb
 rw [if_neg (b_dec_f hb)] at H
 refine Qab (Qap rfl ?_)
 obtain rfl:=QsJ H
 subst Hx1_
 have hs:=hs.pull 1 rfl
 have hs:=hs.pull 1 rfl
 have hs:St _ [_,_] _:=St.take (Γ':=[]) hs
 refine Qbq rfl ?_
 exact ha1_ _ _ ⟨x13,Hr1_,rfl,hs⟩
def QaQ.post (w0:World) (r:(Ar Int 4)) (v:Value) (w:World):Prop:=v=agg ((encA (encI .i64)) r).toArray∧St w0 [] w
theorem QaQ.calls {N:Nat} {a1:(Ar Int 4)} {w0:World} {r:(Ar Int 4)} (H:QaQ.f N a1=some r):
 Calls Tryz.prog 63 #[agg ((encA (encI .i64)) a1).toArray] w0 fun e w=>∃ v,e= .returned v∧QaQ.post w0 r v w:=by
 unfold QaQ.f at H
 have hs:St w0 [] w0:=St.refl w0
 refine calls_of_g (n:=30) Tryz.func63 rfl rfl ?_
 show G _ _ _ _ [_,_,_,_,_,_,_,_,_,_,_,_,_,_,_,_,_,_,_,_,_,_,_,_,_,_,_,_,_,_,_] _
 refine Qaf (Qak [0,1] rfl ?_)
 refine Qbx hs rfl rfl (cs:=((encA (encI .i64)) a1)) rfl rfl ?_
 intro b2 w hs
 show G _ _ _ _ [_,_,_,_,_,_,_,_,_,_,_,_,_,_,_,_,_,_,_,_,_,_,_,_,_,_,_,_,_,_,_] _
 refine Qa5 hs rfl rfl (z:=(agg #[int .i64 0,int .i64 0,int .i64 0,int .i64 0])) (cs:=((encA (encI .i64)) (Ar.rep 4 0))) rfl (fun _=>rfl) rfl ?_
 intro b4 w hs
 refine Qab (Qaf (Qak [0,1,2] rfl ?_))
 refine Qaa (v:=agg ((encA (encI .i64)) (Ar.rep 4 0)).toArray) rfl rfl (Qb7 rfl rfl) ?_
 refine Qa5 hs rfl rfl (z:=(agg #[int .i64 0,int .i64 0,int .i64 0,int .i64 0])) (cs:=((encA (encI .i64)) (Ar.rep 4 0))) rfl (fun _=>rfl) rfl ?_
 intro b6 w hs
 show G _ _ _ _ [_,_,_,_,_,_,_,_,_,_,_,_,_,_,_,_,_,_,_,_,_,_,_,_,_,_,_,_,_,_,_] _
 refine QaB (n:=4) hs ((fkA (n:=4) (he:=(fkI .i64).len) (h1:=(fkI .i64).one)).len _) rfl rfl (vs:=((encA (encI .i64)) (Ar.rep 4 0))) rfl rfl rfl (fun _=>rfl) ((fkA (n:=4) (he:=(fkI .i64).len) (h1:=(fkI .i64).one)).len _) ((fkA (n:=4) (he:=(fkI .i64).len) (h1:=(fkI .i64).one)).one _) ?_
 intro w hs
 refine Qab (Qaf (Qak [0] rfl ?_))
 refine Qaa (v:=int .i64 1) rfl rfl rfl (Qab (Qaf (Qaf (Qak [0] rfl ?_))))
 refine Qaa (v:=int .i64 0) rfl rfl rfl (Qab ?_)
 obtain ⟨o1_,Ho,Hr1_⟩:=bind_get H
 refine QaF (J:=fun t w=>∃ x17:(Ar Int 4),QaQ.a0 N x17=some r∧Fr t (fun O=>([O 0,O 1,pointer (some ⟨b4,0,none⟩),pointer (some ⟨b6,0,none⟩),O 4,O 5,O 6,O 7,O 8,O 9,O 10,O 11,O 12,O 13,O 14,O 15,O 16,O 17,O 18,O 19,O 20,O 21,O 22,O 23,O 24,O 25,O 26,O 27,O 28,O 29,O 30]:List Value))∧St w0 [Cells b4 ((encA (encI .i64)) (Ar.rep 4 0)) 47,Cells b6 ((encA (encI .i64)) x17) 47] w) ?_ ?_
 ·
  rintro t w ⟨x17,H,hf,hs⟩
  obtain ⟨O,rfl⟩:=hf.open
  show G _ _ _ _ [_,_,_,_,_,_,_,_,_,_,_,_,_,_,_,_,_,_,_,_,_,_,_,_,_,_,_,_,_,_,_] _
  unfold QaQ.a0 at H
  refine Qaf (Qak [0,1] rfl ?_)
  refine QaG rfl rfl (es:=((encA (encI .i64)) x17)) rfl rfl (fun _=>rfl) (n:=4) (fun _=>rfl) ((fkA (n:=4) (he:=(fkI .i64).len) (h1:=(fkI .i64).one)).len _) (cells_all (hs.cells 1 rfl)) ?_
  refine QaB (n:=4) hs ((fkA (n:=4) (he:=(fkI .i64).len) (h1:=(fkI .i64).one)).len _) rfl rfl (vs:=((encA (encI .i64)) x17)) rfl rfl rfl (fun _=>rfl) ((fkA (n:=4) (he:=(fkI .i64).len) (h1:=(fkI .i64).one)).len _) ((fkA (n:=4) (he:=(fkI .i64).len) (h1:=(fkI .i64).one)).one _) ?_
  intro w hs
  refine Qab ?_
  obtain rfl:=QsJ H
  refine Qax Tryz.func63 (v:=agg ((encA (encI .i64)) x17).toArray) (resC rfl ⟨⟨_,rfl,(run_loadVar_agg (es:=((encA (encI .i64)) x17)) rfl (congrArg (Result.ok · _) ((fkA (n:=4) (he:=(fkI .i64).len) (h1:=(fkI .i64).one)).len _).symm) (cells_all (hs.cells 0 rfl)))⟩,trivial⟩) ?_
  have hs:St _ [] _:=St.take (Γ':=[_,_]) hs
  exact ⟨_,rfl,rfl,hs⟩
 intro ha1_
 have hs:=hs.pull 0 rfl
 have hs:=hs.pull 1 rfl
 have hs:=hs.pull 2 rfl
 have hs:St _ [_,_,_] _:=St.take (Γ':=[]) hs
 refine QaZ (I:=fun n_ t w=>∃ x12:(Ar Int 4),∃ x13:Int,∃ x14:Int,rounds (fun s=>QaQ.b0 N a1 s.1 s.2.1 s.2.2) n_ (x12,x13,x14)=some o1_∧Fr t (fun O=>([O 0,pointer (some ⟨b2,0,none⟩),pointer (some ⟨b4,0,none⟩),pointer (some ⟨b6,0,none⟩),int .i64 x13,int .i64 x14,O 6,O 7,O 8,O 9,O 10,O 11,O 12,O 13,O 14,O 15,O 16,O 17,O 18,O 19,O 20,O 21,O 22,O 23,O 24,O 25,O 26,O 27,O 28,O 29,O 30]:List Value))∧St w0 [Cells b2 ((encA (encI .i64)) a1) 47,Cells b4 ((encA (encI .i64)) (Ar.rep 4 0)) 47,Cells b6 ((encA (encI .i64)) x12) 47] w) N ⟨(Ar.rep 4 0),1,0,Ho,rfl,hs⟩ ?_ ?_
 ·
  rintro _ _ ⟨x12,x13,x14,h,_⟩
  exact rounds_zero h
 intro n_ ih1_
 rintro t w ⟨x12,x13,x14,Ho,hf,hs⟩
 obtain ⟨O,rfl⟩:=hf.open
 show G _ _ _ _ [_,_,_,_,_,_,_,_,_,_,_,_,_,_,_,_,_,_,_,_,_,_,_,_,_,_,_,_,_,_,_] _
 obtain ⟨x11_,H,Hx1_⟩:=rounds_succ Ho
 have H:QaQ.b0 N a1 x12 x13 x14=some x11_:=H
 unfold QaQ.b0 at H
 refine Qaf (Qaf (Qak [0,1] rfl ?_))
 refine Qaa (v:=int .i64 x14) rfl rfl rfl ?_
 refine QaA (B:=decide (x14< 4)) rfl rfl rfl ?_ ?_
 ·
  intro hb
  rw [if_pos (b_dec_t hb)] at H
  refine Qab (Qam rfl (QaE (Qaf ?_)))
  refine QaF (J:=(fun t w=>∃ x15:(Ar Int 4),∃ x16:Int,QaQ.j2 N x14 x15 x16=some x11_∧Fr t (fun O=>([O 0,pointer (some ⟨b2,0,none⟩),pointer (some ⟨b4,0,none⟩),pointer (some ⟨b6,0,none⟩),int .i64 x16,int .i64 x14,O 6,O 7,O 8,O 9,O 10,O 11,O 12,O 13,O 14,O 15,O 16,O 17,O 18,O 19,O 20,O 21,O 22,O 23,O 24,O 25,O 26,O 27,O 28,O 29,O 30]:List Value))∧St w0 [Cells b2 ((encA (encI .i64)) a1) 47,Cells b4 ((encA (encI .i64)) (Ar.rep 4 0)) 47,Cells b6 ((encA (encI .i64)) x15) 47] w)) ?_ ?_
  ·
   rintro t w ⟨x15,x16,H,hf,hs⟩
   obtain ⟨O,rfl⟩:=hf.open
   show G _ _ _ _ [_,_,_,_,_,_,_,_,_,_,_,_,_,_,_,_,_,_,_,_,_,_,_,_,_,_,_,_,_,_,_] _
   unfold QaQ.j2 at H
   refine Qak [0,1,2] rfl ?_
   refine Qaa (v:=int .i64 x14) rfl rfl rfl ?_
   refine Qaa (v:=int .i64 (i64w (x14+1))) rfl rfl rfl ?_
   refine Qaa (v:=int .i64 (i64w (x14+1))) rfl rfl rfl (Qab ?_)
   obtain rfl:=QsJ H
   have hs:=hs.pull 2 rfl
   have hs:=hs.pull 2 rfl
   have hs:=hs.pull 2 rfl
   have hs:St _ [_,_,_] _:=St.take (Γ':=[]) hs
   exact ih1_ _ _ ⟨x15,x16,i64w (x14+1),Hx1_,rfl,hs⟩
  intro ha
  refine Qaf (Qak [0,1,2,3,4,5,6] rfl ?_)
  refine Qaa (v:=int .i64 x14) rfl rfl rfl ?_
  refine Qaa (v:=int .i64 x14) rfl rfl rfl ?_
  obtain ⟨g6,H⟩:=ite_get H
  refine Qba (n:=x14) (m:=1) rfl (fun _=>rfl) g6.1 g6.2 rfl rfl rfl rfl rfl ?_
  refine Qaw rfl rfl (v:=int .i64 (a1.get x14 0)) rfl rfl (fun _=>rfl) (by rw [Nat.zero_add];exact cells_load (hs.cells 0 rfl) _ _ (encA_at (fkI .i64).len _ _ 0 g6.1 g6.2)) ?_
  show G _ _ _ _ [_,_,_,_,_,_,_,_,_,_,_,_,_,_,_,_,_,_,_,_,_,_,_,_,_,_,_,_,_,_,_] _
  refine Qaa (v:=int .i64 (i64w ((a1.get x14 0).tdiv 2))) rfl rfl rfl ?_
  obtain ⟨g7,H⟩:=ite_get H
  refine Qba (n:=x14) (m:=1) rfl (fun _=>rfl) g7.1 g7.2 rfl rfl rfl rfl rfl ?_
  have hs:St _ [_,_,_] _:=hs.pull 2 rfl
  refine QbN (y:=i64w ((a1.get x14 0).tdiv 2)) (fkI .i64).len (fkI .i64).one g7.1 g7.2 hs rfl rfl rfl rfl rfl (fun _=>rfl) ?_
  intro w hs
  refine Qab (Qaf (Qak [0,1,2,3,4] rfl ?_))
  refine Qaa (v:=int .i64 x14) rfl rfl rfl ?_
  obtain ⟨g8,H⟩:=ite_get H
  refine Qba (n:=x14) (m:=1) rfl (fun _=>rfl) g8.1 g8.2 rfl rfl rfl rfl rfl ?_
  show G _ _ _ _ [_,_,_,_,_,_,_,_,_,_,_,_,_,_,_,_,_,_,_,_,_,_,_,_,_,_,_,_,_,_,_] _
  refine Qaw rfl rfl (v:=int .i64 (a1.get x14 0)) rfl rfl (fun _=>rfl) (by rw [Nat.zero_add];exact cells_load (hs.cells 1 rfl) _ _ (encA_at (fkI .i64).len _ _ 0 g8.1 g8.2)) ?_
  refine Qaa (v:=int .i64 ((a1.get x14 0).tmod 2)) rfl rfl rfl ?_
  refine QaA (B:=((a1.get x14 0).tmod 2)==1) rfl rfl rfl ?_ ?_
  ·
   intro hb
   rw [if_pos (b_beq_t hb)] at H
   refine Qab (Qam rfl (Qaf (Qak [0,1,2,3,4,5,6] rfl ?_)))
   refine Qaa (v:=int .i64 x14) rfl rfl rfl ?_
   obtain ⟨g9,H⟩:=ite_get H
   refine Qba (n:=x14) (m:=1) rfl (fun _=>rfl) g9.1 g9.2 rfl rfl rfl rfl rfl ?_
   refine Qaw rfl rfl (v:=int .i64 ((x12.set x14 (i64w ((a1.get x14 0).tdiv 2))).get x14 0)) rfl rfl (fun _=>rfl) (by rw [Nat.zero_add];exact cells_load (hs.cells 0 rfl) _ _ (encA_at (fkI .i64).len _ _ 0 g9.1 g9.2)) ?_
   show G _ _ _ _ [_,_,_,_,_,_,_,_,_,_,_,_,_,_,_,_,_,_,_,_,_,_,_,_,_,_,_,_,_,_,_] _
   refine Qaa (v:=int .i64 x13) rfl rfl rfl ?_
   refine Qaa (v:=int .i64 (i64w (((x12.set x14 (i64w ((a1.get x14 0).tdiv 2))).get x14 0)+x13))) rfl rfl rfl ?_
   obtain ⟨g10,H⟩:=ite_get H
   refine Qba (n:=x14) (m:=1) rfl (fun _=>rfl) g10.1 g10.2 rfl rfl rfl rfl rfl ?_
   refine QbN (y:=i64w (((x12.set x14 (i64w ((a1.get x14 0).tdiv 2))).get x14 0)+x13)) (fkI .i64).len (fkI .i64).one g10.1 g10.2 hs rfl rfl rfl rfl rfl (fun _=>rfl) ?_
   intro w hs
   refine Qab (Qak [0,1,2] rfl ?_)
   refine Qaa (v:=int .i64 x13) rfl rfl rfl ?_
   refine Qaa (v:=int .i64 (i64w (1 - x13))) rfl rfl rfl ?_
   show G _ _ _ _ [_,_,_,_,_,_,_,_,_,_,_,_,_,_,_,_,_,_,_,_,_,_,_,_,_,_,_,_,_,_,_] _
   refine Qaa (v:=int .i64 (i64w (1 - x13))) rfl rfl rfl (Qab ?_)
   refine QaH ?_
   have hs:=hs.pull 0 rfl
   have hs:=hs.pull 2 rfl
   have hs:=hs.pull 2 rfl
   have hs:St _ [_,_,_] _:=St.take (Γ':=[]) hs
   exact ha _ _ ⟨(x12.set x14 (i64w ((a1.get x14 0).tdiv 2))).set x14 (i64w (((x12.set x14 (i64w ((a1.get x14 0).tdiv 2))).get x14 0)+x13)),i64w (1 - x13),H,rfl,hs⟩
  intro hb
  rw [if_neg (b_beq_f hb)] at H
  show G _ _ _ _ [_,_,_,_,_,_,_,_,_,_,_,_,_,_,_,_,_,_,_,_,_,_,_,_,_,_,_,_,_,_,_] _
  refine Qab (Qap rfl (QaE ?_))
  refine QaH ?_
  have hs:=hs.pull 0 rfl
  have hs:=hs.pull 2 rfl
  have hs:=hs.pull 2 rfl
  have hs:St _ [_,_,_] _:=St.take (Γ':=[]) hs
  exact ha _ _ ⟨x12.set x14 (i64w ((a1.get x14 0).tdiv 2)),x13,H,rfl,hs⟩
 intro hb
 rw [if_neg (b_dec_f hb)] at H
 show G _ _ _ _ [_,_,_,_,_,_,_,_,_,_,_,_,_,_,_,_,_,_,_,_,_,_,_,_,_,_,_,_,_,_,_] _
 refine Qab (Qap rfl ?_)
 obtain rfl:=QsJ H
 subst Hx1_
 have hs:=hs.pull 2 rfl
 have hs:=hs.pull 2 rfl
 have hs:St _ [_,_] _:=St.take (Γ':=[_]) hs
 refine Qbq rfl ?_
 exact ha1_ _ _ ⟨x12,Hr1_,rfl,hs⟩
def Qa6.post (w0:World) (r:Int) (v:Value) (w:World):Prop:=v=int .u64 r∧St w0 [] w
theorem Qa6.calls {N:Nat} {a1:Qag} {a6:(Ar Int 4)} {b2:Nat} {v3:Value} {w0:World} {r:Int} (hr4:RdRow Qao w0 v3 a1.Qah) (hp0:w0.heap[b2]?=some (.cells ((([int .i8 a1.Qac,int .i8 a1.Qae,v3]:List Value)):List Value).toArray 30 (0,0))) (H:Qa6.f N a1 a6=some r):
 Calls Tryz.prog 77 #[pointer (some ⟨b2,0,none⟩),agg ((encA (encI .i64)) a6).toArray] w0 fun e w=>∃ v,e= .returned v∧Qa6.post w0 r v w:=by
 unfold Qa6.f at H
 have hs:St w0 [] w0:=St.refl w0
 refine calls_of_g (n:=42) Tryz.func77 rfl rfl ?_
 show G _ _ _ _ [_,_,_,_,_,_,_,_,_,_,_,_,_,_,_,_,_,_,_,_,_,_,_,_,_,_,_,_,_,_,_,_,_,_,_,_,_,_,_,_,_,_,_,_] _
 refine Qaf (Qak [0,1] rfl ?_)
 refine Qbx hs rfl rfl (cs:=((encA (encI .i64)) a6)) rfl rfl ?_
 intro b7 w hs
 show G _ _ _ _ [_,_,_,_,_,_,_,_,_,_,_,_,_,_,_,_,_,_,_,_,_,_,_,_,_,_,_,_,_,_,_,_,_,_,_,_,_,_,_,_,_,_,_,_] _
 refine Qaa (v:=int .u64 0) rfl rfl rfl (Qab (Qaf (Qak [0] rfl ?_)))
 refine Qaa (v:=int .u64 0) rfl rfl rfl (Qab (Qaf (Qaf (Qak [0] rfl ?_))))
 refine Qaa (v:=int .i64 0) rfl rfl rfl ?_
 show G _ _ _ _ [_,_,_,_,_,_,_,_,_,_,_,_,_,_,_,_,_,_,_,_,_,_,_,_,_,_,_,_,_,_,_,_,_,_,_,_,_,_,_,_,_,_,_,_] _
 refine Qab ?_
 obtain ⟨o1_,Ho,Hr1_⟩:=bind_get H
 refine QaF (J:=fun t w=>∃ x20:Int,Qa6.a0 N x20=some r∧Fr t (fun O=>([O 0,O 1,O 2,O 3,O 4,int .u64 x20,O 6,O 7,O 8,O 9,O 10,O 11,O 12,O 13,O 14,O 15,O 16,O 17,O 18,O 19,O 20,O 21,O 22,O 23,O 24,O 25,O 26,O 27,O 28,O 29,O 30,O 31,O 32,O 33,O 34,O 35,O 36,O 37,O 38,O 39,O 40,O 41,O 42,O 43]:List Value))∧St w0 [] w) ?_ ?_
 ·
  rintro t w ⟨x20,H,hf,hs⟩
  obtain ⟨O,rfl⟩:=hf.open
  show G _ _ _ _ [_,_,_,_,_,_,_,_,_,_,_,_,_,_,_,_,_,_,_,_,_,_,_,_,_,_,_,_,_,_,_,_,_,_,_,_,_,_,_,_,_,_,_,_] _
  unfold Qa6.a0 at H
  refine Qaf (Qak [0,1] rfl ?_)
  refine Qaa (v:=int .u64 x20) rfl rfl rfl ?_
  refine Qaa (v:=int .u64 x20) rfl rfl rfl ?_
  show G _ _ _ _ [_,_,_,_,_,_,_,_,_,_,_,_,_,_,_,_,_,_,_,_,_,_,_,_,_,_,_,_,_,_,_,_,_,_,_,_,_,_,_,_,_,_,_,_] _
  refine Qab ?_
  obtain rfl:=QsJ H
  refine Qax Tryz.func77 (v:=int .u64 x20) (res1 rfl rfl) ?_
  have hs:St _ [] _:=St.take (Γ':=[]) hs
  exact ⟨_,rfl,rfl,hs⟩
 intro ha1_
 have hs:=hs.pull 0 rfl
 have hs:St _ [_] _:=St.take (Γ':=[]) hs
 refine QaZ (I:=fun n_ t w=>∃ x14:(Ar Int 4),∃ x15:Int,∃ x16:Int,rounds (fun s=>Qa6.b0 N a1 s.1 s.2.1 s.2.2) n_ (x14,x15,x16)=some o1_∧Fr t (fun O=>([pointer (some ⟨b2,0,none⟩),O 1,O 2,pointer (some ⟨b7,0,none⟩),O 4,int .u64 x15,int .i64 x16,O 7,O 8,O 9,O 10,O 11,O 12,O 13,O 14,O 15,O 16,O 17,O 18,O 19,O 20,O 21,O 22,O 23,O 24,O 25,O 26,O 27,O 28,O 29,O 30,O 31,O 32,O 33,O 34,O 35,O 36,O 37,O 38,O 39,O 40,O 41,O 42,O 43]:List Value))∧St w0 [Cells b7 ((encA (encI .i64)) x14) 47] w) N ⟨a6,0,0,Ho,rfl,hs⟩ ?_ ?_
 ·
  rintro _ _ ⟨x14,x15,x16,h,_⟩
  exact rounds_zero h
 intro n_ ih1_
 rintro t w ⟨x14,x15,x16,Ho,hf,hs⟩
 obtain ⟨O,rfl⟩:=hf.open
 show G _ _ _ _ [_,_,_,_,_,_,_,_,_,_,_,_,_,_,_,_,_,_,_,_,_,_,_,_,_,_,_,_,_,_,_,_,_,_,_,_,_,_,_,_,_,_,_,_] _
 obtain ⟨x9_,H,Hx1_⟩:=rounds_succ Ho
 have H:Qa6.b0 N a1 x14 x15 x16=some x9_:=H
 unfold Qa6.b0 at H
 refine Qaf (Qaf (Qak [0,1,2,3,4,5,6] rfl ?_))
 refine Qaa (v:=int .i64 x16) rfl rfl rfl ?_
 refine Qaa (v:=pointer (some ⟨b2,0,none⟩)) rfl rfl rfl ?_
 refine Qaa (v:=pointer (some ⟨b2,0,none⟩)) rfl rfl rfl ?_
 refine Qaa (v:=pointer (some ⟨b2,0,none⟩)) rfl rfl rfl ?_
 refine Qaw rfl rfl (v:=int .i8 a1.Qac) rfl rfl (fun _=>rfl) (cells_load (hs.box hp0) 0 1 rfl) ?_
 refine Qaa (v:=int .i64 (i64w a1.Qac)) rfl rfl rfl ?_
 refine QaA (B:=decide (x16< (i64w a1.Qac))) rfl rfl rfl ?_ ?_
 ·
  intro hb
  rw [if_pos (b_dec_t hb)] at H
  show G _ _ _ _ [_,_,_,_,_,_,_,_,_,_,_,_,_,_,_,_,_,_,_,_,_,_,_,_,_,_,_,_,_,_,_,_,_,_,_,_,_,_,_,_,_,_,_,_] _
  refine Qab (Qam rfl (QaE (Qaf ?_)))
  refine QaF (J:=(fun t w=>∃ x18:(Ar Int 4),∃ x19:Int,Qa6.j2 N x16 x18 x19=some x9_∧Fr t (fun O=>([pointer (some ⟨b2,0,none⟩),O 1,O 2,pointer (some ⟨b7,0,none⟩),O 4,int .u64 x19,int .i64 x16,O 7,O 8,O 9,O 10,O 11,O 12,O 13,O 14,O 15,O 16,O 17,O 18,O 19,O 20,O 21,O 22,O 23,O 24,O 25,O 26,O 27,O 28,O 29,O 30,O 31,O 32,O 33,O 34,O 35,O 36,O 37,O 38,O 39,O 40,O 41,O 42,O 43]:List Value))∧St w0 [Cells b7 ((encA (encI .i64)) x18) 47] w)) ?_ ?_
  ·
   rintro t w ⟨x18,x19,H,hf,hs⟩
   obtain ⟨O,rfl⟩:=hf.open
   show G _ _ _ _ [_,_,_,_,_,_,_,_,_,_,_,_,_,_,_,_,_,_,_,_,_,_,_,_,_,_,_,_,_,_,_,_,_,_,_,_,_,_,_,_,_,_,_,_] _
   unfold Qa6.j2 at H
   refine Qak [0,1,2] rfl ?_
   refine Qaa (v:=int .i64 x16) rfl rfl rfl ?_
   refine Qaa (v:=int .i64 (i64w (x16+1))) rfl rfl rfl ?_
   refine Qaa (v:=int .i64 (i64w (x16+1))) rfl rfl rfl (Qab ?_)
   obtain rfl:=QsJ H
   have hs:=hs.pull 0 rfl
   have hs:St _ [_] _:=St.take (Γ':=[]) hs
   exact ih1_ _ _ ⟨x18,x19,i64w (x16+1),Hx1_,rfl,hs⟩
  intro ha
  refine Qaf (Qak [0,1,2,3] rfl ?_)
  refine Qaa (v:=pointer (some ⟨b2,0,none⟩)) rfl rfl rfl ?_
  refine Qaa (v:=int .i64 x16) rfl rfl rfl ?_
  obtain ⟨r17,Hr17,H⟩:=bind_get H
  refine Qas (args:=[pointer (some ⟨b2,0,none⟩),int .i64 x16]) rfl rfl (Qat rfl (callFunc_enter Tryz.func94 rfl rfl) rfl) (Qa2.calls (a1:=(⟨a1.Qac,a1.Qae,a1.Qah⟩:Qag)) (a6:=x16) (hs.rd hr4) (hs.box hp0) Hr17) ?_
  rintro _ w ⟨rfl,hs2⟩
  have hs:St _ [_] _:=hs.call hs2
  refine Qaa (v:=int .i64 r17) rfl rfl rfl (Qab (Qaf (Qak [0,1,2,3,4,5,6,7,8,9,10,11,12] rfl ?_)))
  refine Qaa (v:=int .i64 r17) rfl rfl rfl ?_
  refine Qaa (v:=pointer (some ⟨b2,0,none⟩)) rfl rfl rfl ?_
  refine Qaa (v:=pointer (some ⟨b2,0,none⟩)) rfl rfl rfl ?_
  refine Qaa (v:=pointer (some ⟨b2,1,none⟩)) rfl rfl rfl ?_
  refine Qaw rfl rfl (v:=int .i8 a1.Qae) rfl rfl (fun _=>rfl) (cells_load (hs.box hp0) 1 1 rfl) ?_
  show G _ _ _ _ [_,_,_,_,_,_,_,_,_,_,_,_,_,_,_,_,_,_,_,_,_,_,_,_,_,_,_,_,_,_,_,_,_,_,_,_,_,_,_,_,_,_,_,_] _
  refine Qaa (v:=int .i64 (i64w a1.Qae)) rfl rfl rfl ?_
  refine QaA (B:=decide (r17≤(i64w a1.Qae))) rfl rfl rfl ?_ ?_
  ·
   intro hb
   rw [if_pos (b_dec_t hb)] at H
   show G _ _ _ _ [_,_,_,_,_,_,_,_,_,_,_,_,_,_,_,_,_,_,_,_,_,_,_,_,_,_,_,_,_,_,_,_,_,_,_,_,_,_,_,_,_,_,_,_] _
   refine Qaa (v:=bool true) rfl rfl rfl ?_
   refine Qaa (v:=int .i64 r17) rfl rfl rfl ?_
   obtain ⟨g5,H⟩:=ite_get H
   refine Qba (n:=r17) (m:=1) rfl (fun _=>rfl) g5.1 g5.2 rfl rfl rfl rfl rfl ?_
   refine Qaw rfl rfl (v:=int .i64 (x14.get r17 0)) rfl rfl (fun _=>rfl) (by rw [Nat.zero_add];exact cells_load (hs.cells 0 rfl) _ _ (encA_at (fkI .i64).len _ _ 0 g5.1 g5.2)) ?_
   refine QaA (B:=decide ((x14.get r17 0)>0)) rfl rfl rfl ?_ ?_
   ·
    intro hb
    rw [if_pos (b_dec_t hb)] at H
    refine Qaa (v:=bool true) rfl rfl rfl ?_
    show G _ _ _ _ [_,_,_,_,_,_,_,_,_,_,_,_,_,_,_,_,_,_,_,_,_,_,_,_,_,_,_,_,_,_,_,_,_,_,_,_,_,_,_,_,_,_,_,_] _
    refine Qab (Qam rfl (Qaf (Qak [0,1,2,3,4,5] rfl ?_)))
    refine Qaa (v:=int .i64 r17) rfl rfl rfl ?_
    obtain ⟨g6,H⟩:=ite_get H
    refine Qba (n:=r17) (m:=1) rfl (fun _=>rfl) g6.1 g6.2 rfl rfl rfl rfl rfl ?_
    refine Qaw rfl rfl (v:=int .i64 (x14.get r17 0)) rfl rfl (fun _=>rfl) (by rw [Nat.zero_add];exact cells_load (hs.cells 0 rfl) _ _ (encA_at (fkI .i64).len _ _ 0 g6.1 g6.2)) ?_
    refine Qaa (v:=int .i64 (i64w ((x14.get r17 0) - 1))) rfl rfl rfl ?_
    show G _ _ _ _ [_,_,_,_,_,_,_,_,_,_,_,_,_,_,_,_,_,_,_,_,_,_,_,_,_,_,_,_,_,_,_,_,_,_,_,_,_,_,_,_,_,_,_,_] _
    obtain ⟨g7,H⟩:=ite_get H
    refine Qba (n:=r17) (m:=1) rfl (fun _=>rfl) g7.1 g7.2 rfl rfl rfl rfl rfl ?_
    refine QbN (y:=i64w ((x14.get r17 0) - 1)) (fkI .i64).len (fkI .i64).one g7.1 g7.2 hs rfl rfl rfl rfl rfl (fun _=>rfl) ?_
    intro w hs
    refine Qab (Qak [0,1,2,3,4,5] rfl ?_)
    refine Qaa (v:=int .u64 x15) rfl rfl rfl ?_
    refine Qaa (v:=int .i64 x16) rfl rfl rfl ?_
    refine Qaa (v:=int .u64 (u64w x16)) rfl rfl rfl ?_
    obtain ⟨g8,H⟩:=ite_get H
    refine Qaa (v:=int .u64 (shlI .u64 1 (u64w x16))) rfl rfl (QcG rfl rfl rfl g8) ?_
    refine Qaa (v:=int .u64 (bOr .u64 x15 (shlI .u64 1 (u64w x16)))) rfl rfl rfl ?_
    show G _ _ _ _ [_,_,_,_,_,_,_,_,_,_,_,_,_,_,_,_,_,_,_,_,_,_,_,_,_,_,_,_,_,_,_,_,_,_,_,_,_,_,_,_,_,_,_,_] _
    refine Qaa (v:=int .u64 (bOr .u64 x15 (shlI .u64 1 (u64w x16)))) rfl rfl rfl (Qab ?_)
    refine QaH ?_
    have hs:=hs.pull 0 rfl
    have hs:St _ [_] _:=St.take (Γ':=[]) hs
    exact ha _ _ ⟨x14.set r17 (i64w ((x14.get r17 0) - 1)),bOr .u64 x15 (shlI .u64 1 (u64w x16)),H,rfl,hs⟩
   intro hb
   rw [if_neg (b_dec_f hb)] at H
   show G _ _ _ _ [_,_,_,_,_,_,_,_,_,_,_,_,_,_,_,_,_,_,_,_,_,_,_,_,_,_,_,_,_,_,_,_,_,_,_,_,_,_,_,_,_,_,_,_] _
   refine Qaa (v:=bool false) rfl rfl rfl (Qab (Qap rfl (QaE ?_)))
   refine QaH ?_
   have hs:=hs.pull 0 rfl
   have hs:St _ [_] _:=St.take (Γ':=[]) hs
   exact ha _ _ ⟨x14,x15,H,rfl,hs⟩
  intro hb
  rw [if_neg (b_dec_f hb)] at H
  refine Qaa (v:=bool false) rfl rfl rfl (Qad rfl rfl (Qad rfl rfl (Qad rfl rfl ?_)))
  show G _ _ _ _ [_,_,_,_,_,_,_,_,_,_,_,_,_,_,_,_,_,_,_,_,_,_,_,_,_,_,_,_,_,_,_,_,_,_,_,_,_,_,_,_,_,_,_,_] _
  refine Qad rfl rfl ?_
  refine Qaa (v:=bool false) rfl rfl rfl (Qab (Qap rfl (QaE ?_)))
  refine QaH ?_
  have hs:=hs.pull 0 rfl
  have hs:St _ [_] _:=St.take (Γ':=[]) hs
  exact ha _ _ ⟨x14,x15,H,rfl,hs⟩
 intro hb
 rw [if_neg (b_dec_f hb)] at H
 refine Qab (Qap rfl ?_)
 obtain rfl:=QsJ H
 subst Hx1_
 have hs:St _ [] _:=St.take (Γ':=[_]) hs
 refine Qbq rfl ?_
 exact ha1_ _ _ ⟨x15,Hr1_,rfl,hs⟩
def QbA.post (w0:World) (r:Bool) (v:Value) (w:World):Prop:=v=bool r∧St w0 [] w
theorem QbA.calls {N:Nat} {a1:Int} {a2:Int} {a3:Bool} {w0:World} {r:Bool} (H:QbA.f N a1 a2 a3=some r):
 Calls Tryz.prog 79 #[int .u64 a1,int .i64 a2,bool a3] w0 fun e w=>∃ v,e= .returned v∧QbA.post w0 r v w:=by
 unfold QbA.f at H
 have hs:St w0 [] w0:=St.refl w0
 refine calls_of_g (n:=17) Tryz.func79 rfl rfl ?_
 show G _ _ _ _ [_,_,_,_,_,_,_,_,_,_,_,_,_,_,_,_,_,_,_,_] _
 refine Qaf (Qak [0] rfl ?_)
 refine Qaa (v:=bool false) rfl rfl rfl (Qab (Qaf (Qak [0,1,2,3,4,5,6,7,8,9,10,11,12,13] rfl ?_)))
 refine Qaa (v:=int .i64 a2) rfl rfl rfl ?_
 obtain ⟨r4,Hr4,H⟩:=bind_get H
 refine Qas (args:=[int .i64 a2,int .i64 0,int .i64 63]) rfl rfl (Qat rfl (callFunc_enter Tryz.func39 rfl rfl) rfl) (Qbs.calls (a1:=a2) (a2:=0) (a3:=63) Hr4) ?_
 rintro _ w ⟨rfl,hs2⟩
 have hs:St _ [] _:=hs.call hs2
 cases r4 with
 |true=>
  rw [if_pos rfl] at H
  refine Qaa (v:=bool true) rfl rfl rfl ?_
  refine Qaa (v:=int .u64 a1) rfl rfl rfl ?_
  show G _ _ _ _ [_,_,_,_,_,_,_,_,_,_,_,_,_,_,_,_,_,_,_,_] _
  refine Qaa (v:=int .i64 a2) rfl rfl rfl ?_
  refine Qaa (v:=int .i64 (bAnd .i64 a2 63)) rfl rfl rfl ?_
  refine Qaa (v:=int .u64 (u64w (bAnd .i64 a2 63))) rfl rfl rfl ?_
  show G _ _ _ _ [_,_,_,_,_,_,_,_,_,_,_,_,_,_,_,_,_,_,_,_] _
  obtain ⟨g1,H⟩:=ite_get H
  refine Qaa (v:=int .u64 (shrI .u64 a1 (u64w (bAnd .i64 a2 63)))) rfl rfl (QcC rfl rfl rfl g1) ?_
  refine Qaa (v:=int .u64 (bAnd .u64 (shrI .u64 a1 (u64w (bAnd .i64 a2 63))) 1)) rfl rfl rfl ?_
  refine Qaa (v:=bool ((bAnd .u64 (shrI .u64 a1 (u64w (bAnd .i64 a2 63))) 1)==1)) rfl rfl rfl ?_
  show G _ _ _ _ [_,_,_,_,_,_,_,_,_,_,_,_,_,_,_,_,_,_,_,_] _
  refine Qaa (v:=bool ((bAnd .u64 (shrI .u64 a1 (u64w (bAnd .i64 a2 63))) 1)==1)) rfl rfl rfl ?_
  refine Qaa (v:=bool a3) rfl rfl rfl ?_
  refine Qaa (v:=bool (((bAnd .u64 (shrI .u64 a1 (u64w (bAnd .i64 a2 63))) 1)==1) !=a3)) rfl rfl rfl ?_
  show G _ _ _ _ [_,_,_,_,_,_,_,_,_,_,_,_,_,_,_,_,_,_,_,_] _
  refine Qaa (v:=bool (((bAnd .u64 (shrI .u64 a1 (u64w (bAnd .i64 a2 63))) 1)==1) !=a3)) rfl rfl rfl (Qab ?_)
  obtain rfl:=QsJ H
  refine Qax Tryz.func79 (v:=bool (((bAnd .u64 (shrI .u64 a1 (u64w (bAnd .i64 a2 63))) 1)==1) !=a3)) (res1 rfl rfl) ?_
  have hs:St _ [] _:=St.take (Γ':=[]) hs
  exact ⟨_,rfl,rfl,hs⟩
 |false=>
  rw [if_neg Bool.false_ne_true] at H
  show G _ _ _ _ [_,_,_,_,_,_,_,_,_,_,_,_,_,_,_,_,_,_,_,_] _
  refine Qaa (v:=bool false) rfl rfl rfl (Qad rfl rfl (Qad rfl rfl ?_))
  show G _ _ _ _ [_,_,_,_,_,_,_,_,_,_,_,_,_,_,_,_,_,_,_,_] _
  refine Qad rfl rfl (Qad rfl rfl (Qad rfl rfl ?_))
  show G _ _ _ _ [_,_,_,_,_,_,_,_,_,_,_,_,_,_,_,_,_,_,_,_] _
  refine Qad rfl rfl (Qad rfl rfl ?_)
  refine Qaa (v:=bool false) rfl rfl rfl ?_
  show G _ _ _ _ [_,_,_,_,_,_,_,_,_,_,_,_,_,_,_,_,_,_,_,_] _
  refine Qaa (v:=bool a3) rfl rfl rfl ?_
  refine Qaa (v:=bool (false !=a3)) rfl rfl rfl ?_
  refine Qaa (v:=bool (false !=a3)) rfl rfl rfl ?_
  show G _ _ _ _ [_,_,_,_,_,_,_,_,_,_,_,_,_,_,_,_,_,_,_,_] _
  refine Qab ?_
  obtain rfl:=QsJ H
  refine Qax Tryz.func79 (v:=bool (false !=a3)) (res1 rfl rfl) ?_
  have hs:St _ [] _:=St.take (Γ':=[]) hs
  exact ⟨_,rfl,rfl,hs⟩
end Go.Proofs.YtdnipilfcjkfoaaGreatDoorX
