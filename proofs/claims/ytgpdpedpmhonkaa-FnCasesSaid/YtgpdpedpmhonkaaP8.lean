import Derived.Test.YtgpdpedpmhonkaaProg
import Derived.Test.YtgpdpedpmhonkaaP3
import Derived.Test.YtgpdpedpmhonkaaP4
import Derived.Test.YtgpdpedpmhonkaaP5
import Derived.Test.YtgpdpedpmhonkaaP6
import Derived.Test.YtgpdpedpmhonkaaP7
namespace Go.Proofs.YtgpdpedpmhonkaaX
open Go Go.RowKit Go.Proofs
open Go.Value (int pointer bool agg slice string tuple)
set_option maxHeartbeats 8000000
set_option maxRecDepth 100000
set_option linter.unusedVariables false
set_option linter.unusedSimpArgs false
def Qbx.post (w0:World) (r:(Ar (List Qai) 3)) (v:Value) (w:World):Prop:=∃ u1:Value,∃ u2:Value,∃ u3:Value,v=agg (([u1,u2,u3]:List Value)).toArray∧St w0 [Row 53 Qah u1 (r.get 0 []),Row 53 Qah u2 (r.get 1 []),Row 53 Qah u3 (r.get 2 [])] w
theorem Qbx.calls {N:Nat} {a1:(Ar Int 14)} {a2:(List Qai)} {v3:Value} {w0:World} {r:(Ar (List Qai) 3)} (hr1:RdRow Qah w0 v3 a2) (H:Qbx.f N a1 a2=some r):
 Calls Try.prog 42 #[agg ((encA (encI .i8)) a1).toArray,v3] w0 fun e w=>∃ v,e= .returned v∧Qbx.post w0 r v w:=by
 unfold Qbx.f at H
 have hs:St w0 [] w0:=St.refl w0
 refine calls_of_g (n:=28) Try.func42 rfl rfl ?_
 show G _ _ _ _ [_,_,_,_,_,_,_,_,_,_,_,_,_,_,_,_,_,_,_,_,_,_,_,_,_,_,_,_,_,_] _
 refine Qag (Qan [0,1] rfl ?_)
 refine Qbw hs rfl rfl (cs:=((encA (encI .i8)) a1)) rfl rfl ?_
 intro b4 w hs
 refine QbH hs rfl rfl (z:=(agg #[slice none 0 0,slice none 0 0,slice none 0 0])) (cs:=(([slice none 0 0,slice none 0 0,slice none 0 0]:List Value))) rfl (fun _=>rfl) rfl ?_
 intro b6 w hs
 refine Qaa (Qag (Qan [0,1,2] rfl ?_))
 refine Qab (v:=agg (([slice none 0 0,slice none 0 0,slice none 0 0]:List Value)).toArray) rfl rfl (Qcr rfl rfl) ?_
 show G _ _ _ _ [_,_,_,_,_,_,_,_,_,_,_,_,_,_,_,_,_,_,_,_,_,_,_,_,_,_,_,_,_,_] _
 refine QbH hs rfl rfl (z:=(agg #[slice none 0 0,slice none 0 0,slice none 0 0])) (cs:=(([slice none 0 0,slice none 0 0,slice none 0 0]:List Value))) rfl (fun _=>rfl) rfl ?_
 intro b8 w hs
 refine Qa9 (n:=3) hs rfl rfl rfl (vs:=(([slice none 0 0,slice none 0 0,slice none 0 0]:List Value))) rfl rfl rfl (fun _=>rfl) rfl (by simp [Value.oneCell']) ?_
 intro w hs
 refine Qaa (Qag (Qag (Qan [0,1,2] rfl ?_)))
 refine Qab (v:=v3) rfl rfl rfl ?_
 refine Qb1 (hs.rd hr1) rfl rfl rfl rfl rfl ?_
 refine Qab (v:=int .i64 0) rfl rfl rfl (Qaa ?_)
 obtain ⟨o1_,Ho,Hr1_⟩:=bind_get H
 refine Qa2 (J:=fun t w=>∃ v89:Value,∃ x90:(List Qai),∃ v92:Value,∃ x93:(List Qai),∃ v95:Value,∃ x96:(List Qai),Qbx.a0 N x90 x93 x96=some r∧Fr t (fun O=>([O 0,O 1,O 2,O 3,pointer (some ⟨b6,0,none⟩),pointer (some ⟨b8,0,none⟩),O 6,O 7,O 8,O 9,O 10,O 11,O 12,O 13,O 14,O 15,O 16,O 17,O 18,O 19,O 20,O 21,O 22,O 23,O 24,O 25,O 26,O 27,O 28,O 29]:List Value))∧St w0 [Cells b6 (([slice none 0 0,slice none 0 0,slice none 0 0]:List Value)) 42,Cells b8 (([v89,v92,v95]:List Value)) 42,Row 53 Qah v89 x90,Row 53 Qah v92 x93,Row 53 Qah v95 x96] w) ?_ ?_
 ·
  rintro t w ⟨v89,x90,v92,x93,v95,x96,H,hf,hs⟩
  obtain ⟨O,rfl⟩:=hf.open
  show G _ _ _ _ [_,_,_,_,_,_,_,_,_,_,_,_,_,_,_,_,_,_,_,_,_,_,_,_,_,_,_,_,_,_] _
  unfold Qbx.a0 at H
  refine Qag (Qan [0,1] rfl ?_)
  refine QaG rfl rfl (es:=(([v89,v92,v95]:List Value))) rfl rfl (fun _=>rfl) (n:=3) (fun _=>rfl) rfl (cells_all (hs.cells 1 rfl)) ?_
  refine Qa9 (n:=3) hs rfl rfl rfl (vs:=(([v89,v92,v95]:List Value))) rfl rfl rfl (fun _=>rfl) rfl (by intro v hv;simp only [List.mem_append,List.mem_cons,List.not_mem_nil,or_false] at hv;repeat (first|(subst hv;first|rfl|exact slOne (hs.row 2 rfl)|exact slOne (hs.row 3 rfl)|exact slOne (hs.row 4 rfl))|(rcases hv with hv|hv))) ?_
  intro w hs
  refine Qaa ?_
  obtain rfl:=QsJ H
  refine QaK Try.func42 (v:=agg (([v89,v92,v95]:List Value)).toArray) (resC rfl ⟨⟨_,rfl,(run_loadVar_agg (es:=(([v89,v92,v95]:List Value))) rfl rfl (cells_all (hs.cells 0 rfl)))⟩,trivial⟩) ?_
  have hs:=hs.pull 4 rfl
  have hs:=hs.pull 4 rfl
  have hs:=hs.pull 4 rfl
  have hs:St _ [_,_,_] _:=St.take (Γ':=[_,_]) hs
  exact ⟨_,rfl,v89,v92,v95,rfl,hs⟩
 intro ha1_
 have hs:=hs.nil 53 Qah
 have hs:=hs.nil 53 Qah
 have hs:=hs.nil 53 Qah
 have hs:=hs.pull 3 rfl
 have hs:=hs.pull 1 rfl
 have hs:=hs.pull 2 rfl
 have hs:=hs.pull 3 rfl
 have hs:=hs.pull 4 rfl
 have hs:=hs.pull 5 rfl
 have hs:St _ [_,_,_,_,_,_] _:=St.take (Γ':=[]) hs
 refine Qbk (I:=fun n_ t w=>∃ v49:Value,∃ x50:(List Qai),∃ v52:Value,∃ x53:(List Qai),∃ v55:Value,∃ x56:(List Qai),∃ x57:Int,rounds (fun s=>Qbx.b0 N a2 a1 s.1 s.2.1 s.2.2.1 s.2.2.2) n_ (x50,x53,x56,x57)=some o1_∧Fr t (fun O=>([O 0,O 1,pointer (some ⟨b4,0,none⟩),O 3,pointer (some ⟨b6,0,none⟩),pointer (some ⟨b8,0,none⟩),O 6,O 7,O 8,O 9,v3,int .i64 (a2.length:Int),int .i64 x57,O 13,O 14,O 15,O 16,O 17,O 18,O 19,O 20,O 21,O 22,O 23,O 24,O 25,O 26,O 27,O 28,O 29]:List Value))∧St w0 [Cells b4 ((encA (encI .i8)) a1) 37,Cells b6 (([slice none 0 0,slice none 0 0,slice none 0 0]:List Value)) 42,Row 53 Qah v49 x50,Row 53 Qah v52 x53,Row 53 Qah v55 x56,Cells b8 (([v49,v52,v55]:List Value)) 42] w) N ⟨slice none 0 0,[],slice none 0 0,[],slice none 0 0,[],0,Ho,rfl,hs⟩ ?_ ?_
 ·
  rintro _ _ ⟨v49,x50,v52,x53,v55,x56,x57,h,_⟩
  exact rounds_zero h
 intro n_ ih1_
 rintro t w ⟨v49,x50,v52,x53,v55,x56,x57,Ho,hf,hs⟩
 obtain ⟨O,rfl⟩:=hf.open
 show G _ _ _ _ [_,_,_,_,_,_,_,_,_,_,_,_,_,_,_,_,_,_,_,_,_,_,_,_,_,_,_,_,_,_] _
 obtain ⟨x9_,H,Hx1_⟩:=rounds_succ Ho
 have H:Qbx.b0 N a2 a1 x50 x53 x56 x57=some x9_:=H
 unfold Qbx.b0 at H
 refine Qag (Qan [0] rfl ?_)
 refine QaR (B:=decide (x57< (a2.length:Int))) rfl rfl rfl ?_ ?_
 ·
  intro hb
  rw [if_pos (b_dec_t hb)] at H
  refine Qaa (Qag (Qaw rfl (QaS (Qag ?_))))
  refine Qa2 (J:=(fun t w=>∃ v80:Value,∃ x81:(List Qai),∃ v83:Value,∃ x84:(List Qai),∃ v86:Value,∃ x87:(List Qai),Qbx.j2 N x57 x81 x84 x87=some x9_∧Fr t (fun O=>([O 0,O 1,pointer (some ⟨b4,0,none⟩),O 3,pointer (some ⟨b6,0,none⟩),pointer (some ⟨b8,0,none⟩),O 6,O 7,O 8,O 9,v3,int .i64 (a2.length:Int),int .i64 x57,O 13,O 14,O 15,O 16,O 17,O 18,O 19,O 20,O 21,O 22,O 23,O 24,O 25,O 26,O 27,O 28,O 29]:List Value))∧St w0 [Cells b4 ((encA (encI .i8)) a1) 37,Cells b6 (([slice none 0 0,slice none 0 0,slice none 0 0]:List Value)) 42,Cells b8 (([v80,v83,v86]:List Value)) 42,Row 53 Qah v80 x81,Row 53 Qah v83 x84,Row 53 Qah v86 x87] w)) ?_ ?_
  ·
   rintro t w ⟨v80,x81,v83,x84,v86,x87,H,hf,hs⟩
   obtain ⟨O,rfl⟩:=hf.open
   show G _ _ _ _ [_,_,_,_,_,_,_,_,_,_,_,_,_,_,_,_,_,_,_,_,_,_,_,_,_,_,_,_,_,_] _
   unfold Qbx.j2 at H
   refine Qan [0,1] rfl ?_
   refine Qab (v:=int .i64 (i64w (x57+1))) rfl rfl rfl ?_
   refine Qab (v:=int .i64 (i64w (x57+1))) rfl rfl rfl (Qaa ?_)
   obtain rfl:=QsJ H
   have hs:=hs.pull 2 rfl
   have hs:=hs.pull 5 rfl
   have hs:=hs.pull 5 rfl
   have hs:=hs.pull 5 rfl
   have hs:=hs.pull 5 rfl
   have hs:=hs.pull 5 rfl
   have hs:St _ [_,_,_,_,_,_] _:=St.take (Γ':=[]) hs
   exact ih1_ _ _ ⟨v80,x81,v83,x84,v86,x87,i64w (x57+1),Hx1_,rfl,hs⟩
  intro ha
  refine Qag (Qan [0,1,2,3] rfl ?_)
  obtain ⟨g5,H⟩:=ite_get H
  refine QcS QaL Qay (hs.rd hr1) rfl (fun _=>rfl) g5.1 g5.2 rfl rfl rfl rfl rfl ?_
  intro p58 hp58 lp58 op58
  refine QaG rfl rfl (es:=(Qau (rdL a2 x57 Qay))) rfl rfl (fun _=>rfl) (n:=2) (fun _=>rfl) (QaL.len _) hp58 ?_
  show G _ _ _ _ [_,_,_,_,_,_,_,_,_,_,_,_,_,_,_,_,_,_,_,_,_,_,_,_,_,_,_,_,_,_] _
  refine QbH hs rfl rfl (z:=(agg #[int .i8 0,bool false])) (cs:=(Qau Qay)) rfl (fun _=>rfl) rfl ?_
  intro b59 w hs
  refine Qa9 (n:=2) hs (QaL.len _) rfl rfl (vs:=(Qau (rdL a2 x57 Qay))) rfl rfl rfl (fun _=>rfl) (QaL.len _) (QaL.one _) ?_
  intro w hs
  refine Qaa (Qag (Qan [0,1,2,3,4] rfl ?_))
  refine QaG rfl rfl (es:=((encA (encI .i8)) a1)) rfl rfl (fun _=>rfl) (n:=14) (fun _=>rfl) ((fkA (n:=14) (he:=(fkI .i8).len) (h1:=(fkI .i8).one)).len _) (cells_all (hs.cells 1 rfl)) ?_
  refine QaG rfl rfl (es:=(Qau (rdL a2 x57 Qay))) rfl rfl (fun _=>rfl) (n:=2) (fun _=>rfl) (QaL.len _) (cells_all (hs.cells 0 rfl)) ?_
  show G _ _ _ _ [_,_,_,_,_,_,_,_,_,_,_,_,_,_,_,_,_,_,_,_,_,_,_,_,_,_,_,_,_,_] _
  obtain ⟨r61,Hr61,H⟩:=bind_get H
  refine QaP (args:=[agg ((encA (encI .i8)) a1).toArray,agg (Qau (rdL a2 x57 Qay)).toArray]) rfl rfl (QaT rfl (callFunc_enter Try.func51 rfl rfl) rfl) (Qcb.calls (a1:=a1) (a2:=rdL a2 x57 Qay) Hr61) ?_
  rintro _ w ⟨rfl,hs2⟩
  have hs:St _ [_,_,_,_,_,_,_] _:=hs.call hs2
  refine Qab (v:=int .i64 (i64w (r61+1))) rfl rfl rfl ?_
  refine Qab (v:=int .i64 (i64w (r61+1))) rfl rfl rfl ?_
  show G _ _ _ _ [_,_,_,_,_,_,_,_,_,_,_,_,_,_,_,_,_,_,_,_,_,_,_,_,_,_,_,_,_,_] _
  refine Qaa ?_
  by_cases hk6_:i64w (r61+1)=0
  ·
   rw [if_pos hk6_] at H
   obtain ⟨gq6_,H⟩:=ite_get H
   refine QbT ?_
   intro T hT
   refine Qcg (n:=9) rfl [0,1,2,3,4,5,6,7,8] [0,1,2,3,4,5,6,7,8] rfl rfl (Inv:=fun D t w=>∃ v62:Value,∃ v64:Value,∃ O:Nat→Value,t=[O 0,O 1,pointer (some ⟨b4,0,none⟩),O 3,pointer (some ⟨b6,0,none⟩),pointer (some ⟨b8,0,none⟩),O 6,pointer (some ⟨b59,0,none⟩),int .i64 (i64w (r61+1)),O 9,v3,int .i64 (a2.length:Int),int .i64 x57,bool true,pointer (some p58),agg (Qau (rdL a2 x57 Qay)).toArray,agg ((encA (encI .i8)) a1).toArray,agg (Qau (rdL a2 x57 Qay)).toArray,int .i64 r61,int .i64 (i64w (r61+1)),cnd (D 0) (int .i64 (i64w (r61+1))) (O 20),cnd (D 1) (int .i64 (i64w (r61+1))) (O 21),cnd (D 2) (pointer (some ⟨b8,0+0*1,none⟩)) (O 22),cnd (D 3) v49 (O 23),cnd (D 4) (agg (Qau (rdL a2 x57 Qay)).toArray) (O 24),cnd (D 5) v62 (O 25),cnd (D 6) v64 (O 26),cnd (D 7) (pointer (some ⟨b8,0+0*1,none⟩)) (O 27),O 28,O 29]∧St w0 [Asc (D 5) (Row 53 Qah v62 ([rdL a2 x57 Qay])),Cells b59 (Qau (rdL a2 x57 Qay)) 53,Cells b4 ((encA (encI .i8)) a1) 37,Cells b6 (([slice none 0 0,slice none 0 0,slice none 0 0]:List Value)) 42,Row 53 Qah (cnd (D 6) v64 v49) (cnd (D 6) (x50++([rdL a2 x57 Qay])) x50),Row 53 Qah v52 x53,Row 53 Qah v55 x56,Cells b8 (cnd (D 8) (([v64,v52,v55]:List Value)) (([v49,v52,v55]:List Value))) 42] w) ?_ ⟨⟨⟨⟨⟨⟨⟨⟨⟨trivial,?_⟩,?_⟩,?_⟩,?_⟩,?_⟩,?_⟩,?_⟩,?_⟩,?_⟩ ?_
   ·
    intro w hh hbw
    have hs:=hs.samew hh hbw
    have hs:=hs.emp
    exact ⟨undef,undef,fun i=>T.getD i undef,(by subst hT;rfl),hs⟩
   ·
    rintro D t w hD hp hcl ⟨v62,v64,O,ht,hs⟩ rest hk
    have q7_:=nz hcl 7 0 hD
    have q8_:=nz hcl 8 0 q7_
    simp only [hD,q7_,q8_,cq,oT] at ht hs
    subst ht
    refine Qab (v:=int .i64 (i64w (r61+1))) rfl rfl rfl ?_
    show G _ _ _ _ [_,_,_,_,_,_,_,_,_,_,_,_,_,_,_,_,_,_,_,_,_,_,_,_,_,_,_,_,_,_] _
    refine hk _ _ ⟨v62,v64,O,?_,hs.cast ?_⟩<;>simp only [oT,lq,cq,Nat.reduceBEq,q7_,q8_]
   ·
    rintro D t w hD hp hcl ⟨v62,v64,O,ht,hs⟩ rest hk
    have q2_:=nz hcl 2 0 hD
    have q3_:=nz hcl 3 0 q2_
    have q6_:=nz hcl 6 0 q3_
    have q7_:=nz hcl 7 2 hD
    have q8_:=nz hcl 8 0 q7_
    simp only [hD,q2_,q3_,q6_,q7_,q8_,cq,oT] at ht hs
    subst ht
    refine Qab (v:=int .i64 (i64w (r61+1))) rfl rfl rfl ?_
    show G _ _ _ _ [_,_,_,_,_,_,_,_,_,_,_,_,_,_,_,_,_,_,_,_,_,_,_,_,_,_,_,_,_,_] _
    refine hk _ _ ⟨v62,v64,O,?_,hs.cast ?_⟩<;>simp only [oT,lq,cq,Nat.reduceBEq,q2_,q3_,q6_,q7_,q8_]
   ·
    rintro D t w hD hp hcl ⟨v62,v64,O,ht,hs⟩ rest hk
    obtain ⟨p1_,_⟩:=hp
    have q3_:=nz hcl 3 0 hD
    have q6_:=nz hcl 6 0 q3_
    have q7_:=nz hcl 7 3 hD
    have q8_:=nz hcl 8 0 q7_
    simp only [hD,p1_,q3_,q6_,q7_,q8_,cq,oT] at ht hs
    subst ht
    refine QbR (m:=1) 0 hk6_ (by decide) rfl (fun _=>rfl) rfl rfl rfl rfl rfl ?_
    show G _ _ _ _ [_,_,_,_,_,_,_,_,_,_,_,_,_,_,_,_,_,_,_,_,_,_,_,_,_,_,_,_,_,_] _
    refine hk _ _ ⟨v62,v64,O,?_,hs.cast ?_⟩<;>simp only [oT,lq,cq,Nat.reduceBEq,p1_,q3_,q6_,q7_,q8_]
   ·
    rintro D t w hD hp hcl ⟨v62,v64,O,ht,hs⟩ rest hk
    obtain ⟨p2_,_⟩:=hp
    obtain ⟨p1_,_⟩:=(hcl.get 2 (by decide)) p2_
    have q6_:=nz hcl 6 0 hD
    have q7_:=nz hcl 7 4 hD
    have q8_:=nz hcl 8 0 q7_
    simp only [hD,p1_,p2_,q6_,q7_,q8_,cq,oT] at ht hs
    subst ht
    refine Qaz rfl rfl (v:=v49) rfl rfl (fun _=>rfl) (cells_load (hs.cells 7 rfl) 0 1 rfl) ?_
    show G _ _ _ _ [_,_,_,_,_,_,_,_,_,_,_,_,_,_,_,_,_,_,_,_,_,_,_,_,_,_,_,_,_,_] _
    refine hk _ _ ⟨v62,v64,O,?_,hs.cast ?_⟩<;>simp only [oT,lq,cq,Nat.reduceBEq,p1_,p2_,q6_,q7_,q8_]
   ·
    rintro D t w hD hp hcl ⟨v62,v64,O,ht,hs⟩ rest hk
    have q5_:=nz hcl 5 0 hD
    have q6_:=nz hcl 6 1 q5_
    have q7_:=nz hcl 7 5 hD
    have q8_:=nz hcl 8 0 q7_
    simp only [hD,q5_,q6_,q7_,q8_,cq,oT] at ht hs
    subst ht
    refine QaG rfl rfl (es:=(Qau (rdL a2 x57 Qay))) rfl rfl (fun _=>rfl) (n:=2) (fun _=>rfl) (QaL.len _) (cells_all (hs.cells 1 rfl)) ?_
    show G _ _ _ _ [_,_,_,_,_,_,_,_,_,_,_,_,_,_,_,_,_,_,_,_,_,_,_,_,_,_,_,_,_,_] _
    refine hk _ _ ⟨v62,v64,O,?_,hs.cast ?_⟩<;>simp only [oT,lq,cq,Nat.reduceBEq,q5_,q6_,q7_,q8_]
   ·
    rintro D t w hD hp hcl ⟨v62,v64,O,ht,hs⟩ rest hk
    obtain ⟨p4_,_⟩:=hp
    have q6_:=nz hcl 6 1 hD
    have q7_:=nz hcl 7 6 hD
    have q8_:=nz hcl 8 0 q7_
    simp only [hD,p4_,q6_,q7_,q8_,cq,oT] at ht hs
    subst ht
    refine Qcx QaL (y:=rdL a2 x57 Qay) hs rfl rfl rfl rfl (fun _=>rfl) (zv:=(agg #[int .i8 0,bool false])) (fun _=>rfl) rfl (by decide) (by decide) rfl ?_
    intro v62 w hs
    show G _ _ _ _ [_,_,_,_,_,_,_,_,_,_,_,_,_,_,_,_,_,_,_,_,_,_,_,_,_,_,_,_,_,_] _
    have hs:=hs.fill 0 rfl
    refine hk _ _ ⟨v62,v64,O,?_,hs.cast ?_⟩<;>simp only [oT,lq,cq,Nat.reduceBEq,p4_,q6_,q7_,q8_]
   ·
    rintro D t w hD hp hcl ⟨v62,v64,O,ht,hs⟩ rest hk
    obtain ⟨p3_,p5_,_⟩:=hp
    obtain ⟨p4_,_⟩:=(hcl.get 5 (by decide)) p5_
    obtain ⟨p2_,_⟩:=(hcl.get 3 (by decide)) p3_
    obtain ⟨p1_,_⟩:=(hcl.get 2 (by decide)) p2_
    have q7_:=nz hcl 7 7 hD
    have q8_:=nz hcl 8 0 q7_
    simp only [hD,p1_,p2_,p3_,p4_,p5_,q7_,q8_,cq,oT] at ht hs
    subst ht
    have hs:St _ [_,_,_,_,_,_,_,_] _:=hs.pull 4 rfl
    refine Qcf QaL (zv:=(agg #[int .i8 0,bool false])) (B:=2) hs (hs.row 1 rfl) rfl rfl rfl rfl rfl rfl rfl rfl rfl (by decide) rfl rfl (by decide) (by have:=gq6_;omega) ?_
    intro v64 w hs
    show G _ _ _ _ [_,_,_,_,_,_,_,_,_,_,_,_,_,_,_,_,_,_,_,_,_,_,_,_,_,_,_,_,_,_] _
    have hs:=hs.push 4 (by simp)
    refine hk _ _ ⟨v62,v64,O,?_,hs.cast ?_⟩<;>simp only [oT,lq,cq,Nat.reduceBEq,p1_,p2_,p3_,p4_,p5_,q7_,q8_]
   ·
    rintro D t w hD hp hcl ⟨v62,v64,O,ht,hs⟩ rest hk
    obtain ⟨p0_,_,p1_,p2_,p3_,p4_,p5_,p6_,_⟩:=hp
    have q8_:=nz hcl 8 0 hD
    simp only [hD,p0_,p1_,p2_,p3_,p4_,p5_,p6_,q8_,cq,oT] at ht hs
    subst ht
    refine QbR (m:=1) 0 hk6_ (by decide) rfl (fun _=>rfl) rfl rfl rfl rfl rfl ?_
    show G _ _ _ _ [_,_,_,_,_,_,_,_,_,_,_,_,_,_,_,_,_,_,_,_,_,_,_,_,_,_,_,_,_,_] _
    refine hk _ _ ⟨v62,v64,O,?_,hs.cast ?_⟩<;>simp only [oT,lq,cq,Nat.reduceBEq,p0_,p1_,p2_,p3_,p4_,p5_,p6_,q8_]
   ·
    rintro D t w hD hp hcl ⟨v62,v64,O,ht,hs⟩ rest hk
    obtain ⟨p7_,p6_,_,p0_,p1_,p2_,p3_,p4_,p5_,_,_⟩:=hp
    simp only [hD,p0_,p1_,p2_,p3_,p4_,p5_,p6_,p7_,cq,oT] at ht hs
    subst ht
    have hs:St _ [_,_,_,_,_,_,_,_] _:=hs.pull 7 rfl
    refine Qb8 hs rfl rfl (vs:=[v64]) (cs':=(([v64,v52,v55]:List Value))) rfl rfl (slCells (hs.row 5 rfl)) (n:=1) (fun _=>rfl) rfl (by first|exact Nat.le_of_ble_eq_true rfl|simp [encAI_len,encAB_len,encA_len]) (by intro v hv;simp only [List.mem_cons,List.not_mem_nil,or_false] at hv;subst hv;exact slOne (hs.row 5 rfl)) rfl ?_
    intro w hs
    show G _ _ _ _ [_,_,_,_,_,_,_,_,_,_,_,_,_,_,_,_,_,_,_,_,_,_,_,_,_,_,_,_,_,_] _
    have hs:=hs.push 7 (by simp)
    refine hk _ _ ⟨v62,v64,O,?_,hs.cast ?_⟩<;>simp only [oT,lq,cq,Nat.reduceBEq,p0_,p1_,p2_,p3_,p4_,p5_,p6_,p7_]
   intro D t w hall hI
   obtain ⟨v62,v64,O,ht,hs⟩:=hI
   have p0_:=hall 0 (by decide)
   have p1_:=hall 1 (by decide)
   have p2_:=hall 2 (by decide)
   have p3_:=hall 3 (by decide)
   have p4_:=hall 4 (by decide)
   have p5_:=hall 5 (by decide)
   have p6_:=hall 6 (by decide)
   have p7_:=hall 7 (by decide)
   have p8_:=hall 8 (by decide)
   simp only [p0_,p1_,p2_,p3_,p4_,p5_,p6_,p7_,p8_,cq,oT] at ht hs
   subst ht
   refine Qa5 ?_
   have hs:=hs.pull 6 rfl
   have hs:=hs.pull 6 rfl
   have hs:=hs.pull 6 rfl
   have hs:=hs.pull 7 rfl
   have hs:=hs.pull 7 rfl
   have hs:=hs.pull 7 rfl
   have hs:St _ [_,_,_,_,_,_] _:=St.take (Γ':=[_,_]) hs
   exact ha _ _ ⟨v64,x50++([rdL a2 x57 Qay]),v52,x53,v55,x56,H,rfl,hs⟩
  rw [if_neg hk6_] at H
  by_cases hk7_:i64w (r61+1)=1
  ·
   rw [if_pos hk7_] at H
   obtain ⟨gq6_,H⟩:=ite_get H
   refine QbT ?_
   intro T hT
   refine Qcg (n:=9) rfl [0,1,2,3,4,5,6,7,8] [0,1,2,3,4,5,6,7,8] rfl rfl (Inv:=fun D t w=>∃ v68:Value,∃ v70:Value,∃ O:Nat→Value,t=[O 0,O 1,pointer (some ⟨b4,0,none⟩),O 3,pointer (some ⟨b6,0,none⟩),pointer (some ⟨b8,0,none⟩),O 6,pointer (some ⟨b59,0,none⟩),int .i64 (i64w (r61+1)),O 9,v3,int .i64 (a2.length:Int),int .i64 x57,bool true,pointer (some p58),agg (Qau (rdL a2 x57 Qay)).toArray,agg ((encA (encI .i8)) a1).toArray,agg (Qau (rdL a2 x57 Qay)).toArray,int .i64 r61,int .i64 (i64w (r61+1)),cnd (D 0) (int .i64 (i64w (r61+1))) (O 20),cnd (D 1) (int .i64 (i64w (r61+1))) (O 21),cnd (D 2) (pointer (some ⟨b8,0+1*1,none⟩)) (O 22),cnd (D 3) v52 (O 23),cnd (D 4) (agg (Qau (rdL a2 x57 Qay)).toArray) (O 24),cnd (D 5) v68 (O 25),cnd (D 6) v70 (O 26),cnd (D 7) (pointer (some ⟨b8,0+1*1,none⟩)) (O 27),O 28,O 29]∧St w0 [Asc (D 5) (Row 53 Qah v68 ([rdL a2 x57 Qay])),Cells b59 (Qau (rdL a2 x57 Qay)) 53,Cells b4 ((encA (encI .i8)) a1) 37,Cells b6 (([slice none 0 0,slice none 0 0,slice none 0 0]:List Value)) 42,Row 53 Qah v49 x50,Row 53 Qah (cnd (D 6) v70 v52) (cnd (D 6) (x53++([rdL a2 x57 Qay])) x53),Row 53 Qah v55 x56,Cells b8 (cnd (D 8) (([v49,v70,v55]:List Value)) (([v49,v52,v55]:List Value))) 42] w) ?_ ⟨⟨⟨⟨⟨⟨⟨⟨⟨trivial,?_⟩,?_⟩,?_⟩,?_⟩,?_⟩,?_⟩,?_⟩,?_⟩,?_⟩ ?_
   ·
    intro w hh hbw
    have hs:=hs.samew hh hbw
    have hs:=hs.emp
    exact ⟨undef,undef,fun i=>T.getD i undef,(by subst hT;rfl),hs⟩
   ·
    rintro D t w hD hp hcl ⟨v68,v70,O,ht,hs⟩ rest hk
    have q7_:=nz hcl 7 0 hD
    have q8_:=nz hcl 8 0 q7_
    simp only [hD,q7_,q8_,cq,oT] at ht hs
    subst ht
    refine Qab (v:=int .i64 (i64w (r61+1))) rfl rfl rfl ?_
    show G _ _ _ _ [_,_,_,_,_,_,_,_,_,_,_,_,_,_,_,_,_,_,_,_,_,_,_,_,_,_,_,_,_,_] _
    refine hk _ _ ⟨v68,v70,O,?_,hs.cast ?_⟩<;>simp only [oT,lq,cq,Nat.reduceBEq,q7_,q8_]
   ·
    rintro D t w hD hp hcl ⟨v68,v70,O,ht,hs⟩ rest hk
    have q2_:=nz hcl 2 0 hD
    have q3_:=nz hcl 3 0 q2_
    have q6_:=nz hcl 6 0 q3_
    have q7_:=nz hcl 7 2 hD
    have q8_:=nz hcl 8 0 q7_
    simp only [hD,q2_,q3_,q6_,q7_,q8_,cq,oT] at ht hs
    subst ht
    refine Qab (v:=int .i64 (i64w (r61+1))) rfl rfl rfl ?_
    show G _ _ _ _ [_,_,_,_,_,_,_,_,_,_,_,_,_,_,_,_,_,_,_,_,_,_,_,_,_,_,_,_,_,_] _
    refine hk _ _ ⟨v68,v70,O,?_,hs.cast ?_⟩<;>simp only [oT,lq,cq,Nat.reduceBEq,q2_,q3_,q6_,q7_,q8_]
   ·
    rintro D t w hD hp hcl ⟨v68,v70,O,ht,hs⟩ rest hk
    obtain ⟨p1_,_⟩:=hp
    have q3_:=nz hcl 3 0 hD
    have q6_:=nz hcl 6 0 q3_
    have q7_:=nz hcl 7 3 hD
    have q8_:=nz hcl 8 0 q7_
    simp only [hD,p1_,q3_,q6_,q7_,q8_,cq,oT] at ht hs
    subst ht
    refine QbR (m:=1) 1 hk7_ (by decide) rfl (fun _=>rfl) rfl rfl rfl rfl rfl ?_
    show G _ _ _ _ [_,_,_,_,_,_,_,_,_,_,_,_,_,_,_,_,_,_,_,_,_,_,_,_,_,_,_,_,_,_] _
    refine hk _ _ ⟨v68,v70,O,?_,hs.cast ?_⟩<;>simp only [oT,lq,cq,Nat.reduceBEq,p1_,q3_,q6_,q7_,q8_]
   ·
    rintro D t w hD hp hcl ⟨v68,v70,O,ht,hs⟩ rest hk
    obtain ⟨p2_,_⟩:=hp
    obtain ⟨p1_,_⟩:=(hcl.get 2 (by decide)) p2_
    have q6_:=nz hcl 6 0 hD
    have q7_:=nz hcl 7 4 hD
    have q8_:=nz hcl 8 0 q7_
    simp only [hD,p1_,p2_,q6_,q7_,q8_,cq,oT] at ht hs
    subst ht
    refine Qaz rfl rfl (v:=v52) rfl rfl (fun _=>rfl) (cells_load (hs.cells 7 rfl) 1 1 rfl) ?_
    show G _ _ _ _ [_,_,_,_,_,_,_,_,_,_,_,_,_,_,_,_,_,_,_,_,_,_,_,_,_,_,_,_,_,_] _
    refine hk _ _ ⟨v68,v70,O,?_,hs.cast ?_⟩<;>simp only [oT,lq,cq,Nat.reduceBEq,p1_,p2_,q6_,q7_,q8_]
   ·
    rintro D t w hD hp hcl ⟨v68,v70,O,ht,hs⟩ rest hk
    have q5_:=nz hcl 5 0 hD
    have q6_:=nz hcl 6 1 q5_
    have q7_:=nz hcl 7 5 hD
    have q8_:=nz hcl 8 0 q7_
    simp only [hD,q5_,q6_,q7_,q8_,cq,oT] at ht hs
    subst ht
    refine QaG rfl rfl (es:=(Qau (rdL a2 x57 Qay))) rfl rfl (fun _=>rfl) (n:=2) (fun _=>rfl) (QaL.len _) (cells_all (hs.cells 1 rfl)) ?_
    show G _ _ _ _ [_,_,_,_,_,_,_,_,_,_,_,_,_,_,_,_,_,_,_,_,_,_,_,_,_,_,_,_,_,_] _
    refine hk _ _ ⟨v68,v70,O,?_,hs.cast ?_⟩<;>simp only [oT,lq,cq,Nat.reduceBEq,q5_,q6_,q7_,q8_]
   ·
    rintro D t w hD hp hcl ⟨v68,v70,O,ht,hs⟩ rest hk
    obtain ⟨p4_,_⟩:=hp
    have q6_:=nz hcl 6 1 hD
    have q7_:=nz hcl 7 6 hD
    have q8_:=nz hcl 8 0 q7_
    simp only [hD,p4_,q6_,q7_,q8_,cq,oT] at ht hs
    subst ht
    refine Qcx QaL (y:=rdL a2 x57 Qay) hs rfl rfl rfl rfl (fun _=>rfl) (zv:=(agg #[int .i8 0,bool false])) (fun _=>rfl) rfl (by decide) (by decide) rfl ?_
    intro v68 w hs
    show G _ _ _ _ [_,_,_,_,_,_,_,_,_,_,_,_,_,_,_,_,_,_,_,_,_,_,_,_,_,_,_,_,_,_] _
    have hs:=hs.fill 0 rfl
    refine hk _ _ ⟨v68,v70,O,?_,hs.cast ?_⟩<;>simp only [oT,lq,cq,Nat.reduceBEq,p4_,q6_,q7_,q8_]
   ·
    rintro D t w hD hp hcl ⟨v68,v70,O,ht,hs⟩ rest hk
    obtain ⟨p3_,p5_,_⟩:=hp
    obtain ⟨p4_,_⟩:=(hcl.get 5 (by decide)) p5_
    obtain ⟨p2_,_⟩:=(hcl.get 3 (by decide)) p3_
    obtain ⟨p1_,_⟩:=(hcl.get 2 (by decide)) p2_
    have q7_:=nz hcl 7 7 hD
    have q8_:=nz hcl 8 0 q7_
    simp only [hD,p1_,p2_,p3_,p4_,p5_,q7_,q8_,cq,oT] at ht hs
    subst ht
    have hs:St _ [_,_,_,_,_,_,_,_] _:=hs.pull 5 rfl
    refine Qcf QaL (zv:=(agg #[int .i8 0,bool false])) (B:=2) hs (hs.row 1 rfl) rfl rfl rfl rfl rfl rfl rfl rfl rfl (by decide) rfl rfl (by decide) (by have:=gq6_;omega) ?_
    intro v70 w hs
    show G _ _ _ _ [_,_,_,_,_,_,_,_,_,_,_,_,_,_,_,_,_,_,_,_,_,_,_,_,_,_,_,_,_,_] _
    have hs:=hs.push 5 (by simp)
    refine hk _ _ ⟨v68,v70,O,?_,hs.cast ?_⟩<;>simp only [oT,lq,cq,Nat.reduceBEq,p1_,p2_,p3_,p4_,p5_,q7_,q8_]
   ·
    rintro D t w hD hp hcl ⟨v68,v70,O,ht,hs⟩ rest hk
    obtain ⟨p0_,_,p1_,p2_,p3_,p4_,p5_,p6_,_⟩:=hp
    have q8_:=nz hcl 8 0 hD
    simp only [hD,p0_,p1_,p2_,p3_,p4_,p5_,p6_,q8_,cq,oT] at ht hs
    subst ht
    refine QbR (m:=1) 1 hk7_ (by decide) rfl (fun _=>rfl) rfl rfl rfl rfl rfl ?_
    show G _ _ _ _ [_,_,_,_,_,_,_,_,_,_,_,_,_,_,_,_,_,_,_,_,_,_,_,_,_,_,_,_,_,_] _
    refine hk _ _ ⟨v68,v70,O,?_,hs.cast ?_⟩<;>simp only [oT,lq,cq,Nat.reduceBEq,p0_,p1_,p2_,p3_,p4_,p5_,p6_,q8_]
   ·
    rintro D t w hD hp hcl ⟨v68,v70,O,ht,hs⟩ rest hk
    obtain ⟨p7_,p6_,_,p0_,p1_,p2_,p3_,p4_,p5_,_,_⟩:=hp
    simp only [hD,p0_,p1_,p2_,p3_,p4_,p5_,p6_,p7_,cq,oT] at ht hs
    subst ht
    have hs:St _ [_,_,_,_,_,_,_,_] _:=hs.pull 7 rfl
    refine Qb8 hs rfl rfl (vs:=[v70]) (cs':=(([v49,v70,v55]:List Value))) rfl rfl (slCells (hs.row 6 rfl)) (n:=1) (fun _=>rfl) rfl (by first|exact Nat.le_of_ble_eq_true rfl|simp [encAI_len,encAB_len,encA_len]) (by intro v hv;simp only [List.mem_cons,List.not_mem_nil,or_false] at hv;subst hv;exact slOne (hs.row 6 rfl)) rfl ?_
    intro w hs
    show G _ _ _ _ [_,_,_,_,_,_,_,_,_,_,_,_,_,_,_,_,_,_,_,_,_,_,_,_,_,_,_,_,_,_] _
    have hs:=hs.push 7 (by simp)
    refine hk _ _ ⟨v68,v70,O,?_,hs.cast ?_⟩<;>simp only [oT,lq,cq,Nat.reduceBEq,p0_,p1_,p2_,p3_,p4_,p5_,p6_,p7_]
   intro D t w hall hI
   obtain ⟨v68,v70,O,ht,hs⟩:=hI
   have p0_:=hall 0 (by decide)
   have p1_:=hall 1 (by decide)
   have p2_:=hall 2 (by decide)
   have p3_:=hall 3 (by decide)
   have p4_:=hall 4 (by decide)
   have p5_:=hall 5 (by decide)
   have p6_:=hall 6 (by decide)
   have p7_:=hall 7 (by decide)
   have p8_:=hall 8 (by decide)
   simp only [p0_,p1_,p2_,p3_,p4_,p5_,p6_,p7_,p8_,cq,oT] at ht hs
   subst ht
   refine Qa5 ?_
   have hs:=hs.pull 6 rfl
   have hs:=hs.pull 6 rfl
   have hs:=hs.pull 6 rfl
   have hs:=hs.pull 7 rfl
   have hs:=hs.pull 7 rfl
   have hs:=hs.pull 7 rfl
   have hs:St _ [_,_,_,_,_,_] _:=St.take (Γ':=[_,_]) hs
   exact ha _ _ ⟨v49,x50,v70,x53++([rdL a2 x57 Qay]),v55,x56,H,rfl,hs⟩
  rw [if_neg hk7_] at H
  by_cases hk8_:i64w (r61+1)=2
  ·
   rw [if_pos hk8_] at H
   obtain ⟨gq6_,H⟩:=ite_get H
   refine QbT ?_
   intro T hT
   refine Qcg (n:=9) rfl [0,1,2,3,4,5,6,7,8] [0,1,2,3,4,5,6,7,8] rfl rfl (Inv:=fun D t w=>∃ v74:Value,∃ v76:Value,∃ O:Nat→Value,t=[O 0,O 1,pointer (some ⟨b4,0,none⟩),O 3,pointer (some ⟨b6,0,none⟩),pointer (some ⟨b8,0,none⟩),O 6,pointer (some ⟨b59,0,none⟩),int .i64 (i64w (r61+1)),O 9,v3,int .i64 (a2.length:Int),int .i64 x57,bool true,pointer (some p58),agg (Qau (rdL a2 x57 Qay)).toArray,agg ((encA (encI .i8)) a1).toArray,agg (Qau (rdL a2 x57 Qay)).toArray,int .i64 r61,int .i64 (i64w (r61+1)),cnd (D 0) (int .i64 (i64w (r61+1))) (O 20),cnd (D 1) (int .i64 (i64w (r61+1))) (O 21),cnd (D 2) (pointer (some ⟨b8,0+2*1,none⟩)) (O 22),cnd (D 3) v55 (O 23),cnd (D 4) (agg (Qau (rdL a2 x57 Qay)).toArray) (O 24),cnd (D 5) v74 (O 25),cnd (D 6) v76 (O 26),cnd (D 7) (pointer (some ⟨b8,0+2*1,none⟩)) (O 27),O 28,O 29]∧St w0 [Asc (D 5) (Row 53 Qah v74 ([rdL a2 x57 Qay])),Cells b59 (Qau (rdL a2 x57 Qay)) 53,Cells b4 ((encA (encI .i8)) a1) 37,Cells b6 (([slice none 0 0,slice none 0 0,slice none 0 0]:List Value)) 42,Row 53 Qah v49 x50,Row 53 Qah v52 x53,Row 53 Qah (cnd (D 6) v76 v55) (cnd (D 6) (x56++([rdL a2 x57 Qay])) x56),Cells b8 (cnd (D 8) (([v49,v52,v76]:List Value)) (([v49,v52,v55]:List Value))) 42] w) ?_ ⟨⟨⟨⟨⟨⟨⟨⟨⟨trivial,?_⟩,?_⟩,?_⟩,?_⟩,?_⟩,?_⟩,?_⟩,?_⟩,?_⟩ ?_
   ·
    intro w hh hbw
    have hs:=hs.samew hh hbw
    have hs:=hs.emp
    exact ⟨undef,undef,fun i=>T.getD i undef,(by subst hT;rfl),hs⟩
   ·
    rintro D t w hD hp hcl ⟨v74,v76,O,ht,hs⟩ rest hk
    have q7_:=nz hcl 7 0 hD
    have q8_:=nz hcl 8 0 q7_
    simp only [hD,q7_,q8_,cq,oT] at ht hs
    subst ht
    refine Qab (v:=int .i64 (i64w (r61+1))) rfl rfl rfl ?_
    show G _ _ _ _ [_,_,_,_,_,_,_,_,_,_,_,_,_,_,_,_,_,_,_,_,_,_,_,_,_,_,_,_,_,_] _
    refine hk _ _ ⟨v74,v76,O,?_,hs.cast ?_⟩<;>simp only [oT,lq,cq,Nat.reduceBEq,q7_,q8_]
   ·
    rintro D t w hD hp hcl ⟨v74,v76,O,ht,hs⟩ rest hk
    have q2_:=nz hcl 2 0 hD
    have q3_:=nz hcl 3 0 q2_
    have q6_:=nz hcl 6 0 q3_
    have q7_:=nz hcl 7 2 hD
    have q8_:=nz hcl 8 0 q7_
    simp only [hD,q2_,q3_,q6_,q7_,q8_,cq,oT] at ht hs
    subst ht
    refine Qab (v:=int .i64 (i64w (r61+1))) rfl rfl rfl ?_
    show G _ _ _ _ [_,_,_,_,_,_,_,_,_,_,_,_,_,_,_,_,_,_,_,_,_,_,_,_,_,_,_,_,_,_] _
    refine hk _ _ ⟨v74,v76,O,?_,hs.cast ?_⟩<;>simp only [oT,lq,cq,Nat.reduceBEq,q2_,q3_,q6_,q7_,q8_]
   ·
    rintro D t w hD hp hcl ⟨v74,v76,O,ht,hs⟩ rest hk
    obtain ⟨p1_,_⟩:=hp
    have q3_:=nz hcl 3 0 hD
    have q6_:=nz hcl 6 0 q3_
    have q7_:=nz hcl 7 3 hD
    have q8_:=nz hcl 8 0 q7_
    simp only [hD,p1_,q3_,q6_,q7_,q8_,cq,oT] at ht hs
    subst ht
    refine QbR (m:=1) 2 hk8_ (by decide) rfl (fun _=>rfl) rfl rfl rfl rfl rfl ?_
    show G _ _ _ _ [_,_,_,_,_,_,_,_,_,_,_,_,_,_,_,_,_,_,_,_,_,_,_,_,_,_,_,_,_,_] _
    refine hk _ _ ⟨v74,v76,O,?_,hs.cast ?_⟩<;>simp only [oT,lq,cq,Nat.reduceBEq,p1_,q3_,q6_,q7_,q8_]
   ·
    rintro D t w hD hp hcl ⟨v74,v76,O,ht,hs⟩ rest hk
    obtain ⟨p2_,_⟩:=hp
    obtain ⟨p1_,_⟩:=(hcl.get 2 (by decide)) p2_
    have q6_:=nz hcl 6 0 hD
    have q7_:=nz hcl 7 4 hD
    have q8_:=nz hcl 8 0 q7_
    simp only [hD,p1_,p2_,q6_,q7_,q8_,cq,oT] at ht hs
    subst ht
    refine Qaz rfl rfl (v:=v55) rfl rfl (fun _=>rfl) (cells_load (hs.cells 7 rfl) 2 1 rfl) ?_
    show G _ _ _ _ [_,_,_,_,_,_,_,_,_,_,_,_,_,_,_,_,_,_,_,_,_,_,_,_,_,_,_,_,_,_] _
    refine hk _ _ ⟨v74,v76,O,?_,hs.cast ?_⟩<;>simp only [oT,lq,cq,Nat.reduceBEq,p1_,p2_,q6_,q7_,q8_]
   ·
    rintro D t w hD hp hcl ⟨v74,v76,O,ht,hs⟩ rest hk
    have q5_:=nz hcl 5 0 hD
    have q6_:=nz hcl 6 1 q5_
    have q7_:=nz hcl 7 5 hD
    have q8_:=nz hcl 8 0 q7_
    simp only [hD,q5_,q6_,q7_,q8_,cq,oT] at ht hs
    subst ht
    refine QaG rfl rfl (es:=(Qau (rdL a2 x57 Qay))) rfl rfl (fun _=>rfl) (n:=2) (fun _=>rfl) (QaL.len _) (cells_all (hs.cells 1 rfl)) ?_
    show G _ _ _ _ [_,_,_,_,_,_,_,_,_,_,_,_,_,_,_,_,_,_,_,_,_,_,_,_,_,_,_,_,_,_] _
    refine hk _ _ ⟨v74,v76,O,?_,hs.cast ?_⟩<;>simp only [oT,lq,cq,Nat.reduceBEq,q5_,q6_,q7_,q8_]
   ·
    rintro D t w hD hp hcl ⟨v74,v76,O,ht,hs⟩ rest hk
    obtain ⟨p4_,_⟩:=hp
    have q6_:=nz hcl 6 1 hD
    have q7_:=nz hcl 7 6 hD
    have q8_:=nz hcl 8 0 q7_
    simp only [hD,p4_,q6_,q7_,q8_,cq,oT] at ht hs
    subst ht
    refine Qcx QaL (y:=rdL a2 x57 Qay) hs rfl rfl rfl rfl (fun _=>rfl) (zv:=(agg #[int .i8 0,bool false])) (fun _=>rfl) rfl (by decide) (by decide) rfl ?_
    intro v74 w hs
    show G _ _ _ _ [_,_,_,_,_,_,_,_,_,_,_,_,_,_,_,_,_,_,_,_,_,_,_,_,_,_,_,_,_,_] _
    have hs:=hs.fill 0 rfl
    refine hk _ _ ⟨v74,v76,O,?_,hs.cast ?_⟩<;>simp only [oT,lq,cq,Nat.reduceBEq,p4_,q6_,q7_,q8_]
   ·
    rintro D t w hD hp hcl ⟨v74,v76,O,ht,hs⟩ rest hk
    obtain ⟨p3_,p5_,_⟩:=hp
    obtain ⟨p4_,_⟩:=(hcl.get 5 (by decide)) p5_
    obtain ⟨p2_,_⟩:=(hcl.get 3 (by decide)) p3_
    obtain ⟨p1_,_⟩:=(hcl.get 2 (by decide)) p2_
    have q7_:=nz hcl 7 7 hD
    have q8_:=nz hcl 8 0 q7_
    simp only [hD,p1_,p2_,p3_,p4_,p5_,q7_,q8_,cq,oT] at ht hs
    subst ht
    have hs:St _ [_,_,_,_,_,_,_,_] _:=hs.pull 6 rfl
    refine Qcf QaL (zv:=(agg #[int .i8 0,bool false])) (B:=2) hs (hs.row 1 rfl) rfl rfl rfl rfl rfl rfl rfl rfl rfl (by decide) rfl rfl (by decide) (by have:=gq6_;omega) ?_
    intro v76 w hs
    show G _ _ _ _ [_,_,_,_,_,_,_,_,_,_,_,_,_,_,_,_,_,_,_,_,_,_,_,_,_,_,_,_,_,_] _
    have hs:=hs.push 6 (by simp)
    refine hk _ _ ⟨v74,v76,O,?_,hs.cast ?_⟩<;>simp only [oT,lq,cq,Nat.reduceBEq,p1_,p2_,p3_,p4_,p5_,q7_,q8_]
   ·
    rintro D t w hD hp hcl ⟨v74,v76,O,ht,hs⟩ rest hk
    obtain ⟨p0_,_,p1_,p2_,p3_,p4_,p5_,p6_,_⟩:=hp
    have q8_:=nz hcl 8 0 hD
    simp only [hD,p0_,p1_,p2_,p3_,p4_,p5_,p6_,q8_,cq,oT] at ht hs
    subst ht
    refine QbR (m:=1) 2 hk8_ (by decide) rfl (fun _=>rfl) rfl rfl rfl rfl rfl ?_
    show G _ _ _ _ [_,_,_,_,_,_,_,_,_,_,_,_,_,_,_,_,_,_,_,_,_,_,_,_,_,_,_,_,_,_] _
    refine hk _ _ ⟨v74,v76,O,?_,hs.cast ?_⟩<;>simp only [oT,lq,cq,Nat.reduceBEq,p0_,p1_,p2_,p3_,p4_,p5_,p6_,q8_]
   ·
    rintro D t w hD hp hcl ⟨v74,v76,O,ht,hs⟩ rest hk
    obtain ⟨p7_,p6_,_,p0_,p1_,p2_,p3_,p4_,p5_,_,_⟩:=hp
    simp only [hD,p0_,p1_,p2_,p3_,p4_,p5_,p6_,p7_,cq,oT] at ht hs
    subst ht
    have hs:St _ [_,_,_,_,_,_,_,_] _:=hs.pull 7 rfl
    refine Qb8 hs rfl rfl (vs:=[v76]) (cs':=(([v49,v52,v76]:List Value))) rfl rfl (slCells (hs.row 7 rfl)) (n:=1) (fun _=>rfl) rfl (by first|exact Nat.le_of_ble_eq_true rfl|simp [encAI_len,encAB_len,encA_len]) (by intro v hv;simp only [List.mem_cons,List.not_mem_nil,or_false] at hv;subst hv;exact slOne (hs.row 7 rfl)) rfl ?_
    intro w hs
    show G _ _ _ _ [_,_,_,_,_,_,_,_,_,_,_,_,_,_,_,_,_,_,_,_,_,_,_,_,_,_,_,_,_,_] _
    have hs:=hs.push 7 (by simp)
    refine hk _ _ ⟨v74,v76,O,?_,hs.cast ?_⟩<;>simp only [oT,lq,cq,Nat.reduceBEq,p0_,p1_,p2_,p3_,p4_,p5_,p6_,p7_]
   intro D t w hall hI
   obtain ⟨v74,v76,O,ht,hs⟩:=hI
   have p0_:=hall 0 (by decide)
   have p1_:=hall 1 (by decide)
   have p2_:=hall 2 (by decide)
   have p3_:=hall 3 (by decide)
   have p4_:=hall 4 (by decide)
   have p5_:=hall 5 (by decide)
   have p6_:=hall 6 (by decide)
   have p7_:=hall 7 (by decide)
   have p8_:=hall 8 (by decide)
   simp only [p0_,p1_,p2_,p3_,p4_,p5_,p6_,p7_,p8_,cq,oT] at ht hs
   subst ht
   refine Qa5 ?_
   have hs:=hs.pull 6 rfl
   have hs:=hs.pull 6 rfl
   have hs:=hs.pull 6 rfl
   have hs:=hs.pull 7 rfl
   have hs:=hs.pull 7 rfl
   have hs:=hs.pull 7 rfl
   have hs:St _ [_,_,_,_,_,_] _:=St.take (Γ':=[_,_]) hs
   exact ha _ _ ⟨v49,x50,v52,x53,v76,x56++([rdL a2 x57 Qay]),H,rfl,hs⟩
  rw [if_neg hk8_] at H
  cases H
 intro hb
 rw [if_neg (b_dec_f hb)] at H
 show G _ _ _ _ [_,_,_,_,_,_,_,_,_,_,_,_,_,_,_,_,_,_,_,_,_,_,_,_,_,_,_,_,_,_] _
 refine Qaa (Qag (Qax rfl ?_))
 obtain rfl:=QsJ H
 subst Hx1_
 have hs:=hs.pull 4 rfl
 have hs:=hs.pull 4 rfl
 have hs:=hs.pull 4 rfl
 have hs:=hs.pull 5 rfl
 have hs:=hs.pull 5 rfl
 have hs:St _ [_,_,_,_,_] _:=St.take (Γ':=[_]) hs
 refine QbG rfl ?_
 exact ha1_ _ _ ⟨v49,x50,v52,x53,v55,x56,Hr1_,rfl,hs⟩
def Qch.post (w0:World) (r:((Ar (List Qai) 3)×Int)) (v:Value) (w:World):Prop:=∃ u1:Value,∃ u2:Value,∃ u3:Value,v=tuple #[agg (([u1,u2,u3]:List Value)).toArray,int .i64 r.2]∧St w0 [Row 53 Qah u1 (r.1.get 0 []),Row 53 Qah u2 (r.1.get 1 []),Row 53 Qah u3 (r.1.get 2 [])] w
theorem Qch.calls {N:Nat} {a1:Qaq} {a2:(Ar Int 14)} {a3:(List Qai)} {v4:Value} {w0:World} {r:((Ar (List Qai) 3)×Int)} (hr2:RdRow Qah w0 v4 a3) (H:Qch.f N a1 a2 a3=some r):
 Calls Try.prog 16 #[agg (Qae a1).toArray,agg ((encA (encI .i8)) a2).toArray,v4] w0 fun e w=>∃ v,e= .returned v∧Qch.post w0 r v w:=by
 unfold Qch.f at H
 have hs:St w0 [] w0:=St.refl w0
 refine calls_of_g (n:=18) Try.func16 rfl rfl ?_
 show G _ _ _ _ [_,_,_,_,_,_,_,_,_,_,_,_,_,_,_,_,_,_,_,_,_] _
 refine Qag (Qan [0,1,2,3] rfl ?_)
 refine Qbw hs rfl rfl (cs:=(Qae a1)) rfl rfl ?_
 intro b5 w hs
 refine Qbw hs rfl rfl (cs:=((encA (encI .i8)) a2)) rfl rfl ?_
 intro b7 w hs
 show G _ _ _ _ [_,_,_,_,_,_,_,_,_,_,_,_,_,_,_,_,_,_,_,_,_] _
 refine QbH hs rfl rfl (z:=(agg #[slice none 0 0,slice none 0 0,slice none 0 0])) (cs:=(([slice none 0 0,slice none 0 0,slice none 0 0]:List Value))) rfl (fun _=>rfl) rfl ?_
 intro b9 w hs
 refine Qab (v:=int .i64 0) rfl rfl rfl (Qaa (Qag (Qag (Qan [0,1,2,3,4,5] rfl ?_))))
 refine QaG rfl rfl (es:=(Qae a1)) rfl rfl (fun _=>rfl) (n:=4) (fun _=>rfl) (QaJ.len _) (cells_all (hs.cells 2 rfl)) ?_
 show G _ _ _ _ [_,_,_,_,_,_,_,_,_,_,_,_,_,_,_,_,_,_,_,_,_] _
 refine QaG rfl rfl (es:=((encA (encI .i8)) a2)) rfl rfl (fun _=>rfl) (n:=14) (fun _=>rfl) ((fkA (n:=14) (he:=(fkI .i8).len) (h1:=(fkI .i8).one)).len _) (cells_all (hs.cells 1 rfl)) ?_
 show G _ _ _ _ [_,_,_,_,_,_,_,_,_,_,_,_,_,_,_,_,_,_,_,_,_] _
 refine Qcx (fkA (n:=14) (he:=(fkI .i8).len) (h1:=(fkI .i8).one)) (y:=a2) hs rfl rfl rfl rfl (fun _=>rfl) (zv:=(agg #[int .i8 0,int .i8 0,int .i8 0,int .i8 0,int .i8 0,int .i8 0,int .i8 0,int .i8 0,int .i8 0,int .i8 0,int .i8 0,int .i8 0,int .i8 0,int .i8 0])) (fun _=>rfl) rfl (by decide) (by decide) rfl ?_
 intro v11 w hs
 refine Qab (v:=v4) rfl rfl rfl ?_
 show G _ _ _ _ [_,_,_,_,_,_,_,_,_,_,_,_,_,_,_,_,_,_,_,_,_] _
 obtain ⟨r13,Hr13,H⟩:=bind_get H
 refine QaP (args:=[agg (Qae a1).toArray,v11,v4]) rfl rfl (QaT rfl (callFunc_enter Try.func41 rfl rfl) rfl) (Qb6.calls (a1:=a1) (a2:=[a2]) (a4:=a3) (hs.row 0 rfl) (hs.rd hr2) Hr13) ?_
 rintro _ w ⟨rfl,hs2⟩
 have hs:St _ [_,_,_,_] _:=hs.call hs2
 refine Qab (v:=int .i64 r13) rfl rfl rfl (Qaa (Qag (Qan [0,1] rfl ?_)))
 refine Qab (v:=int .i64 r13) rfl rfl rfl ?_
 show G _ _ _ _ [_,_,_,_,_,_,_,_,_,_,_,_,_,_,_,_,_,_,_,_,_] _
 refine QaR (B:=r13 !=0) rfl rfl rfl ?_ ?_
 ·
  intro hb
  rw [if_neg (b_bne_t hb)] at H
  refine Qaa (Qaw rfl (Qag (Qan [0,1,2,3] rfl ?_)))
  refine Qab (v:=agg (([slice none 0 0,slice none 0 0,slice none 0 0]:List Value)).toArray) rfl rfl (Qcr rfl rfl) ?_
  refine Qab (v:=int .i64 r13) rfl rfl rfl ?_
  show G _ _ _ _ [_,_,_,_,_,_,_,_,_,_,_,_,_,_,_,_,_,_,_,_,_] _
  have hs:St _ [_,_,_,_] _:=hs.pull 1 rfl
  refine Qa9 (n:=3) hs rfl rfl rfl (vs:=(([slice none 0 0,slice none 0 0,slice none 0 0]:List Value))) rfl rfl rfl (fun _=>rfl) rfl (by simp [Value.oneCell']) ?_
  intro w hs
  refine Qab (v:=int .i64 r13) rfl rfl rfl (Qaa ?_)
  obtain rfl:=QsJ H
  refine QaK Try.func16 (v:=tuple #[agg (([slice none 0 0,slice none 0 0,slice none 0 0]:List Value)).toArray,int .i64 r13]) (resN (l:=Try.f16.results.toList) (vs:=[agg (([slice none 0 0,slice none 0 0,slice none 0 0]:List Value)).toArray,int .i64 r13]) rfl ⟨⟨_,rfl,(run_loadVar_agg (es:=(([slice none 0 0,slice none 0 0,slice none 0 0]:List Value))) rfl rfl (cells_all (hs.cells 0 rfl)))⟩,rfl,trivial⟩ (by simp)) ?_
  have hs:=hs.nil 53 Qah
  have hs:=hs.nil 53 Qah
  have hs:=hs.nil 53 Qah
  have hs:=hs.pull 0 rfl
  have hs:=hs.pull 1 rfl
  have hs:=hs.pull 2 rfl
  have hs:St _ [_,_,_] _:=St.take (Γ':=[_,_,_,_]) hs
  exact ⟨_,rfl,(slice none 0 0),(slice none 0 0),(slice none 0 0),rfl,hs⟩
 intro hb
 rw [if_pos (b_bne_f hb)] at H
 refine Qaa (Qax rfl (QaS (Qag (Qan [0,1,2,3,4] rfl ?_))))
 refine QaG rfl rfl (es:=((encA (encI .i8)) a2)) rfl rfl (fun _=>rfl) (n:=14) (fun _=>rfl) ((fkA (n:=14) (he:=(fkI .i8).len) (h1:=(fkI .i8).one)).len _) (cells_all (hs.cells 2 rfl)) ?_
 refine Qab (v:=v4) rfl rfl rfl ?_
 show G _ _ _ _ [_,_,_,_,_,_,_,_,_,_,_,_,_,_,_,_,_,_,_,_,_] _
 obtain ⟨r14,Hr14,H⟩:=bind_get H
 refine QaP (args:=[agg ((encA (encI .i8)) a2).toArray,v4]) rfl rfl (QaT rfl (callFunc_enter Try.func42 rfl rfl) rfl) (Qbx.calls (a1:=a2) (a2:=a3) (hs.rd hr2) Hr14) ?_
 rintro _ w ⟨v15,v16,v17,rfl,hs2⟩
 have hs:St _ [_,_,_,_,_,_,_] _:=hs.call hs2
 have hs:St _ [_,_,_,_,_,_,_] _:=hs.pull 4 rfl
 refine Qa9 (n:=3) hs rfl rfl rfl (vs:=(([v15,v16,v17]:List Value))) rfl rfl rfl (fun _=>rfl) rfl (by intro v hv;simp only [List.mem_append,List.mem_cons,List.not_mem_nil,or_false] at hv;repeat (first|(subst hv;first|rfl|exact slOne (hs.row 1 rfl)|exact slOne (hs.row 2 rfl)|exact slOne (hs.row 3 rfl))|(rcases hv with hv|hv))) ?_
 intro w hs
 refine Qab (v:=int .i64 0) rfl rfl rfl (Qaa ?_)
 obtain rfl:=QsJ H
 refine QaK Try.func16 (v:=tuple #[agg (([v15,v16,v17]:List Value)).toArray,int .i64 0]) (resN (l:=Try.f16.results.toList) (vs:=[agg (([v15,v16,v17]:List Value)).toArray,int .i64 0]) rfl ⟨⟨_,rfl,(run_loadVar_agg (es:=(([v15,v16,v17]:List Value))) rfl rfl (cells_all (hs.cells 0 rfl)))⟩,rfl,trivial⟩ (by simp)) ?_
 have hs:=hs.pull 3 rfl
 have hs:=hs.pull 3 rfl
 have hs:=hs.pull 3 rfl
 have hs:St _ [_,_,_] _:=St.take (Γ':=[_,_,_,_]) hs
 exact ⟨_,rfl,v15,v16,v17,rfl,hs⟩
def Qcd.post (w0:World) (r:Bool) (v:Value) (w:World):Prop:=v=bool r∧St w0 [] w
theorem Qcd.calls {N:Nat} {a1:Qaq} {a2:(Ar Int 14)} {w0:World} {r:Bool} (H:Qcd.f N a1 a2=some r):
 Calls Try.prog 43 #[agg (Qae a1).toArray,agg ((encA (encI .i8)) a2).toArray] w0 fun e w=>∃ v,e= .returned v∧Qcd.post w0 r v w:=by
 unfold Qcd.f at H
 have hs:St w0 [] w0:=St.refl w0
 refine calls_of_g (n:=10) Try.func43 rfl rfl ?_
 show G _ _ _ _ [_,_,_,_,_,_,_,_,_,_,_,_] _
 refine Qag (Qan [0,1,2] rfl ?_)
 refine Qbw hs rfl rfl (cs:=(Qae a1)) rfl rfl ?_
 intro b3 w hs
 show G _ _ _ _ [_,_,_,_,_,_,_,_,_,_,_,_] _
 refine Qbw hs rfl rfl (cs:=((encA (encI .i8)) a2)) rfl rfl ?_
 intro b5 w hs
 refine Qab (v:=bool false) rfl rfl rfl (Qaa (Qag (Qan [0,1,2,3,4,5,6,7] rfl ?_)))
 refine QaG rfl rfl (es:=(Qae a1)) rfl rfl (fun _=>rfl) (n:=4) (fun _=>rfl) (QaJ.len _) (cells_all (hs.cells 1 rfl)) ?_
 show G _ _ _ _ [_,_,_,_,_,_,_,_,_,_,_,_] _
 obtain ⟨r7,Hr7,H⟩:=bind_get H
 refine QaP (args:=[agg (Qae a1).toArray]) rfl rfl (QaT rfl (callFunc_enter Try.func27 rfl rfl) rfl) (Qce.calls (a1:=a1) Hr7) ?_
 rintro _ w ⟨rfl,hs2⟩
 have hs:St _ [_,_] _:=hs.call hs2
 cases r7 with
 |true=>
  rw [if_pos rfl] at H
  refine Qab (v:=bool true) rfl rfl rfl ?_
  show G _ _ _ _ [_,_,_,_,_,_,_,_,_,_,_,_] _
  refine QaG rfl rfl (es:=(Qae a1)) rfl rfl (fun _=>rfl) (n:=4) (fun _=>rfl) (QaJ.len _) (cells_all (hs.cells 1 rfl)) ?_
  refine QaG rfl rfl (es:=((encA (encI .i8)) a2)) rfl rfl (fun _=>rfl) (n:=14) (fun _=>rfl) ((fkA (n:=14) (he:=(fkI .i8).len) (h1:=(fkI .i8).one)).len _) (cells_all (hs.cells 0 rfl)) ?_
  obtain ⟨r8,Hr8,H⟩:=bind_get H
  refine QaP (args:=[agg (Qae a1).toArray,agg ((encA (encI .i8)) a2).toArray]) rfl rfl (QaT rfl (callFunc_enter Try.func38 rfl rfl) rfl) (Qbb.calls (a1:=a1) (a2:=a2) Hr8) ?_
  rintro _ w ⟨rfl,hs2⟩
  have hs:St _ [_,_] _:=hs.call hs2
  show G _ _ _ _ [_,_,_,_,_,_,_,_,_,_,_,_] _
  refine Qab (v:=bool r8) rfl rfl rfl ?_
  refine Qab (v:=bool r8) rfl rfl rfl (Qaa ?_)
  obtain rfl:=QsJ H
  refine QaK Try.func43 (v:=bool r8) (res1 rfl rfl) ?_
  have hs:St _ [] _:=St.take (Γ':=[_,_]) hs
  exact ⟨_,rfl,rfl,hs⟩
 |false=>
  rw [if_neg Bool.false_ne_true] at H
  refine Qab (v:=bool false) rfl rfl rfl (Qal rfl rfl ?_)
  show G _ _ _ _ [_,_,_,_,_,_,_,_,_,_,_,_] _
  refine Qal rfl rfl (Qal rfl rfl ?_)
  refine Qab (v:=bool false) rfl rfl rfl ?_
  show G _ _ _ _ [_,_,_,_,_,_,_,_,_,_,_,_] _
  refine Qab (v:=bool false) rfl rfl rfl (Qaa ?_)
  obtain rfl:=QsJ H
  refine QaK Try.func43 (v:=bool false) (res1 rfl rfl) ?_
  have hs:St _ [] _:=St.take (Γ':=[_,_]) hs
  exact ⟨_,rfl,rfl,hs⟩
def QbQ.post (w0:World) (r:Int) (v:Value) (w:World):Prop:=v=int .i64 r∧St w0 [] w
theorem QbQ.calls {N:Nat} {a1:Qaq} {a2:Qai} {w0:World} {r:Int} (H:QbQ.f N a1 a2=some r):
 Calls Try.prog 72 #[agg (Qae a1).toArray,agg (Qau a2).toArray] w0 fun e w=>∃ v,e= .returned v∧QbQ.post w0 r v w:=by
 unfold QbQ.f at H
 have hs:St w0 [] w0:=St.refl w0
 refine calls_of_g (n:=20) Try.func72 rfl rfl ?_
 show G _ _ _ _ [_,_,_,_,_,_,_,_,_,_,_,_,_,_,_,_,_,_,_,_,_,_] _
 refine Qag (Qan [0,1,2] rfl ?_)
 refine Qbw hs rfl rfl (cs:=(Qae a1)) rfl rfl ?_
 intro b3 w hs
 refine Qbw hs rfl rfl (cs:=(Qau a2)) rfl rfl ?_
 intro b5 w hs
 refine Qab (v:=int .i64 0) rfl rfl rfl ?_
 show G _ _ _ _ [_,_,_,_,_,_,_,_,_,_,_,_,_,_,_,_,_,_,_,_,_,_] _
 refine Qaa (Qag (Qan [0,1,2] rfl ?_))
 refine QaG rfl rfl (es:=(Qae a1)) rfl rfl (fun _=>rfl) (n:=4) (fun _=>rfl) (QaJ.len _) (cells_all (hs.cells 1 rfl)) ?_
 obtain ⟨r7,Hr7,H⟩:=bind_get H
 refine QaP (args:=[agg (Qae a1).toArray]) rfl rfl (QaT rfl (callFunc_enter Try.func40 rfl rfl) rfl) (Qbd.calls (a1:=a1) Hr7) ?_
 intro v8 w hs2
 have hs:St _ [_,_,_] _:=hs.call hs2
 refine Qab (v:=v8) rfl rfl rfl ?_
 show G _ _ _ _ [_,_,_,_,_,_,_,_,_,_,_,_,_,_,_,_,_,_,_,_,_,_] _
 refine Qaa (Qag (Qag (Qan [0] rfl ?_)))
 refine Qab (v:=int .i64 0) rfl rfl rfl (Qaa ?_)
 obtain ⟨o1_,Ho,Hr1_⟩:=bind_get H
 refine Qa2 (J:=fun t w=>QbQ.a0 N=some r∧Fr t (fun O=>([O 0,O 1,O 2,O 3,O 4,O 5,O 6,O 7,O 8,O 9,O 10,O 11,O 12,O 13,O 14,O 15,O 16,O 17,O 18,O 19,O 20,O 21]:List Value))∧St w0 [] w) ?_ ?_
 ·
  rintro t w ⟨H,hf,hs⟩
  obtain ⟨O,rfl⟩:=hf.open
  show G _ _ _ _ [_,_,_,_,_,_,_,_,_,_,_,_,_,_,_,_,_,_,_,_,_,_] _
  unfold QbQ.a0 at H
  refine Qag (Qan [0] rfl ?_)
  refine Qab (v:=int .i64 (-1)) rfl rfl rfl (Qaa ?_)
  obtain rfl:=QsJ H
  refine QaK Try.func72 (v:=int .i64 (-1)) (res1 rfl rfl) ?_
  have hs:St _ [] _:=St.take (Γ':=[]) hs
  exact ⟨_,rfl,rfl,hs⟩
 intro ha1_
 have hs:=hs.pull 0 rfl
 have hs:=hs.pull 1 rfl
 have hs:St _ [_,_] _:=St.take (Γ':=[_]) hs
 refine Qbk (I:=fun n_ t w=>∃ x10:Int,rounds (fun s=>QbQ.b0 N r7 a2 s) n_ x10=some o1_∧Fr t (fun O=>([O 0,O 1,O 2,pointer (some ⟨b5,0,none⟩),O 4,v8,int .i64 x10,O 7,O 8,O 9,O 10,O 11,O 12,O 13,O 14,O 15,O 16,O 17,O 18,O 19,O 20,O 21]:List Value))∧St w0 [Cells b5 (Qau a2) 53,Row 53 Qah v8 r7] w) N ⟨0,Ho,rfl,hs⟩ ?_ ?_
 ·
  rintro _ _ ⟨x10,h,_⟩
  exact rounds_zero h
 intro n_ ih1_
 rintro t w ⟨x10,Ho,hf,hs⟩
 obtain ⟨O,rfl⟩:=hf.open
 show G _ _ _ _ [_,_,_,_,_,_,_,_,_,_,_,_,_,_,_,_,_,_,_,_,_,_] _
 obtain ⟨x5_,H,Hx1_⟩:=rounds_succ Ho
 have H:QbQ.b0 N r7 a2 x10=some x5_:=H
 unfold QbQ.b0 at H
 refine Qag (Qag (Qan [0,1,2,3] rfl ?_))
 refine Qab (v:=int .i64 x10) rfl rfl rfl ?_
 refine Qab (v:=v8) rfl rfl rfl ?_
 show G _ _ _ _ [_,_,_,_,_,_,_,_,_,_,_,_,_,_,_,_,_,_,_,_,_,_] _
 refine Qb1 (hs.row 1 rfl) rfl rfl rfl rfl rfl ?_
 refine QaR (B:=decide (x10< (r7.length:Int))) rfl rfl rfl ?_ ?_
 ·
  intro hb
  rw [if_pos (b_dec_t hb)] at H
  show G _ _ _ _ [_,_,_,_,_,_,_,_,_,_,_,_,_,_,_,_,_,_,_,_,_,_] _
  refine Qaa (Qaw rfl (QaS (Qag ?_)))
  refine QbP (Qag ?_)
  refine QcQ (n:=6) rfl [0,1,2,3,4,5] [0,1,2,3,4,5] rfl rfl ?_
  intro rest w hh hbw hO
  have hs:=hs.samew hh hbw
  show G _ _ _ _ [_,_,_,_,_,_,_,_,_,_,_,_,_,_,_,_,_,_,_,_,_,_] _
  obtain ⟨gd2,H⟩:=ite_get H
  obtain ⟨ad3_,ad3_N,ad3_C,had3_⟩:=sl_at (hs.row 1 rfl) gd2.1 gd2.2
  refine QbT ?_
  intro T hT
  refine QcJ (m0:=0) hO rfl 31 [0,1,2,3,4] [0,0,3,7,0,31] (by decide+kernel) (fun D t w=>∃ O:Nat→Value,t=[O 0,O 1,O 2,pointer (some ⟨b5,0,none⟩),O 4,v8,int .i64 x10,O 7,O 8,int .i64 x10,v8,int .i64 (r7.length:Int),bool true,O 13,O 14,cnd (D 0) v8 (O 15),cnd (D 1) (int .i64 x10) (O 16),cnd (D 2) (pointer (some (ad3_.add (x10.toNat*2)))) (O 17),cnd (D 3) (agg (Qau (rdL r7 x10 Qay)).toArray) (O 18),cnd (D 4) (agg (Qau a2).toArray) (O 19),O 20,O 21]∧St w0 [Cells b5 (Qau a2) 53,Row 53 Qah v8 r7] w) ?_ ⟨?_,⟨?_,⟨?_,⟨?_,⟨?_,trivial⟩⟩⟩⟩⟩ ?_
  ·exact ⟨fun i=>T.getD i undef,(by subst hT;rfl),hs⟩
  ·
   rintro D t w hD hp hcl ⟨O,ht,hs⟩ rest hk
   have hp:AllDone D []:=hp
   have q2_:=ny hcl 2 0 hD
   have q3_:=ny hcl 3 0 q2_
   simp only [hD,q2_,q3_,cq,oT] at ht hs
   subst ht
   refine Qab (v:=v8) rfl rfl rfl ?_
   show G _ _ _ _ [_,_,_,_,_,_,_,_,_,_,_,_,_,_,_,_,_,_,_,_,_,_] _
   refine hk _ _ ⟨O,?_,hs.cast ?_⟩<;>simp only [oT,lq,cq,Nat.reduceBEq,q2_,q3_]
  ·
   rintro D t w hD hp hcl ⟨O,ht,hs⟩ rest hk
   have hp:AllDone D []:=hp
   have q2_:=ny hcl 2 1 hD
   have q3_:=ny hcl 3 0 q2_
   simp only [hD,q2_,q3_,cq,oT] at ht hs
   subst ht
   refine Qab (v:=int .i64 x10) rfl rfl rfl ?_
   show G _ _ _ _ [_,_,_,_,_,_,_,_,_,_,_,_,_,_,_,_,_,_,_,_,_,_] _
   refine hk _ _ ⟨O,?_,hs.cast ?_⟩<;>simp only [oT,lq,cq,Nat.reduceBEq,q2_,q3_]
  ·
   rintro D t w hD hp hcl ⟨O,ht,hs⟩ rest hk
   have hp:AllDone D [0,1]:=hp
   obtain ⟨p0_,p1_,_⟩:=hp
   have q3_:=ny hcl 3 0 hD
   simp only [hD,p0_,p1_,q3_,cq,oT] at ht hs
   subst ht
   refine QcI (κ:=Qah) (m:=2) rfl (hs.row 1 rfl) rfl (fun _=>rfl) gd2.1 gd2.2 had3_ rfl rfl rfl rfl rfl ?_
   show G _ _ _ _ [_,_,_,_,_,_,_,_,_,_,_,_,_,_,_,_,_,_,_,_,_,_] _
   refine hk _ _ ⟨O,?_,hs.cast ?_⟩<;>simp only [oT,lq,cq,Nat.reduceBEq,p0_,p1_,q3_]
  ·
   rintro D t w hD hp hcl ⟨O,ht,hs⟩ rest hk
   have hp:AllDone D [2]:=hp
   obtain ⟨p2_,_⟩:=hp
   obtain ⟨p0_,p1_,_⟩:=(show D 2=true→AllDone D [0,1] from hcl 2 (by decide)) p2_
   simp only [hD,p0_,p1_,p2_,cq,oT] at ht hs
   subst ht
   refine QaG rfl rfl (es:=(Qau (rdL r7 x10 Qay))) rfl rfl (fun _=>rfl) (n:=2) (fun _=>rfl) (QaL.len _) (cellsAt_of QaL Qay (hs.row 1 rfl) had3_ gd2.1 gd2.2) ?_
   show G _ _ _ _ [_,_,_,_,_,_,_,_,_,_,_,_,_,_,_,_,_,_,_,_,_,_] _
   refine hk _ _ ⟨O,?_,hs.cast ?_⟩<;>simp only [oT,lq,cq,Nat.reduceBEq,p0_,p1_,p2_]
  ·
   rintro D t w hD hp hcl ⟨O,ht,hs⟩ rest hk
   have hp:AllDone D []:=hp
   simp only [hD,cq,oT] at ht hs
   subst ht
   refine QaG rfl rfl (es:=(Qau a2)) rfl rfl (fun _=>rfl) (n:=2) (fun _=>rfl) (QaL.len _) (cells_all (hs.cells 0 rfl)) ?_
   show G _ _ _ _ [_,_,_,_,_,_,_,_,_,_,_,_,_,_,_,_,_,_,_,_,_,_] _
   refine hk _ _ ⟨O,?_,hs.cast ?_⟩<;>simp only [oT,lq,cq,Nat.reduceBEq]
  intro D t w rest hall hO1_ hI
  obtain ⟨O,ht,hs⟩:=hI
  have p0_:=hall 0 (by decide) rfl
  have p1_:=hall 1 (by decide) rfl
  have p2_:=hall 2 (by decide) rfl
  have p3_:=hall 3 (by decide) rfl
  have p4_:=hall 4 (by decide) rfl
  simp only [p0_,p1_,p2_,p3_,p4_,cq,oT] at ht hs
  subst ht
  obtain ⟨rest,rfl,hO4_⟩:=ord_one (m:=31) hO1_ rfl 5 (m':=63) (by decide+kernel) rfl
  clear hO1_
  refine QaR (B:=decide ((rdL r7 x10 Qay)=a2)) rfl rfl (Qdu rfl rfl rfl QcN (QcO _ _ _)) ?_ ?_
  ·
   intro hb
   rw [if_pos (b_dec_t hb)] at H
   obtain rfl:=ord_end hO4_ rfl (by decide+kernel)
   refine Qaa (Qaw rfl (Qag (Qan [0,1] rfl ?_)))
   refine Qab (v:=int .i64 x10) rfl rfl rfl ?_
   show G _ _ _ _ [_,_,_,_,_,_,_,_,_,_,_,_,_,_,_,_,_,_,_,_,_,_] _
   refine Qab (v:=int .i64 x10) rfl rfl rfl (Qaa ?_)
   obtain rfl:=QsJ H
   subst Hx1_
   have H:=QsJ Hr1_
   subst H
   refine QaK Try.func72 (v:=int .i64 x10) (res1 rfl rfl) ?_
   have hs:St _ [] _:=St.take (Γ':=[_,_]) hs
   exact ⟨_,rfl,rfl,hs⟩
  intro hb
  rw [if_neg (b_dec_f hb)] at H
  obtain rfl:=ord_end hO4_ rfl (by decide+kernel)
  refine Qaa (Qax rfl (QaS ?_))
  refine Qa5 (Qan [0,1,2] rfl ?_)
  refine Qab (v:=int .i64 x10) rfl rfl rfl ?_
  refine Qab (v:=int .i64 (i64w (x10+1))) rfl rfl rfl ?_
  show G _ _ _ _ [_,_,_,_,_,_,_,_,_,_,_,_,_,_,_,_,_,_,_,_,_,_] _
  refine Qab (v:=int .i64 (i64w (x10+1))) rfl rfl rfl (Qaa ?_)
  obtain rfl:=QsJ H
  have hs:=hs.pull 1 rfl
  have hs:=hs.pull 1 rfl
  have hs:St _ [_,_] _:=St.take (Γ':=[]) hs
  exact ih1_ _ _ ⟨i64w (x10+1),Hx1_,rfl,hs⟩
 intro hb
 rw [if_neg (b_dec_f hb)] at H
 refine Qaa (Qax rfl ?_)
 obtain rfl:=QsJ H
 subst Hx1_
 have hs:St _ [] _:=St.take (Γ':=[_,_]) hs
 refine QbG rfl ?_
 exact ha1_ _ _ ⟨Hr1_,rfl,hs⟩
def QbK.post (w0:World) (r:Int) (v:Value) (w:World):Prop:=v=int .i64 r∧St w0 [] w
theorem QbK.calls {N:Nat} {a1:Qaq} {a2:(List Qai)} {v3:Value} {w0:World} {r:Int} (hr1:RdRow Qah w0 v3 a2) (H:QbK.f N a1 a2=some r):
 Calls Try.prog 44 #[agg (Qae a1).toArray,v3] w0 fun e w=>∃ v,e= .returned v∧QbK.post w0 r v w:=by
 unfold QbK.f at H
 have hs:St w0 [] w0:=St.refl w0
 refine calls_of_g (n:=20) Try.func44 rfl rfl ?_
 show G _ _ _ _ [_,_,_,_,_,_,_,_,_,_,_,_,_,_,_,_,_,_,_,_,_,_] _
 refine Qag (Qan [0,1] rfl ?_)
 refine Qbw hs rfl rfl (cs:=(Qae a1)) rfl rfl ?_
 intro b4 w hs
 refine Qab (v:=int .i64 0) rfl rfl rfl ?_
 show G _ _ _ _ [_,_,_,_,_,_,_,_,_,_,_,_,_,_,_,_,_,_,_,_,_,_] _
 refine Qaa (Qag (Qag (Qan [0] rfl ?_)))
 refine Qab (v:=int .i64 0) rfl rfl rfl (Qaa ?_)
 obtain ⟨o1_,Ho,Hr1_⟩:=bind_get H
 refine Qa2 (J:=fun t w=>QbK.a0 N a2=some r∧Fr t (fun O=>([O 0,v3,O 2,O 3,O 4,O 5,O 6,O 7,O 8,O 9,O 10,O 11,O 12,O 13,O 14,O 15,O 16,O 17,O 18,O 19,O 20,O 21]:List Value))∧St w0 [] w) ?_ ?_
 ·
  rintro t w ⟨H,hf,hs⟩
  obtain ⟨O,rfl⟩:=hf.open
  show G _ _ _ _ [_,_,_,_,_,_,_,_,_,_,_,_,_,_,_,_,_,_,_,_,_,_] _
  unfold QbK.a0 at H
  refine Qag (Qag (Qan [0,1,2] rfl ?_))
  refine Qab (v:=v3) rfl rfl rfl ?_
  refine Qb1 (hs.rd hr1) rfl rfl rfl rfl rfl ?_
  show G _ _ _ _ [_,_,_,_,_,_,_,_,_,_,_,_,_,_,_,_,_,_,_,_,_,_] _
  refine QaR (B:=decide ((a2.length:Int)>27)) rfl rfl rfl ?_ ?_
  ·
   intro hb
   rw [if_pos (b_dec_t hb)] at H
   refine Qaa (Qaw rfl (Qag (Qan [0] rfl ?_)))
   refine Qab (v:=int .i64 2) rfl rfl rfl (Qaa ?_)
   obtain rfl:=QsJ H
   refine QaK Try.func44 (v:=int .i64 2) (res1 rfl rfl) ?_
   have hs:St _ [] _:=St.take (Γ':=[]) hs
   exact ⟨_,rfl,rfl,hs⟩
  intro hb
  rw [if_neg (b_dec_f hb)] at H
  refine Qaa (Qax rfl (QaS (Qag (Qan [0] rfl ?_))))
  refine Qab (v:=int .i64 0) rfl rfl rfl (Qaa ?_)
  obtain rfl:=QsJ H
  refine QaK Try.func44 (v:=int .i64 0) (res1 rfl rfl) ?_
  have hs:St _ [] _:=St.take (Γ':=[]) hs
  exact ⟨_,rfl,rfl,hs⟩
 intro ha1_
 have hs:=hs.pull 0 rfl
 have hs:St _ [_] _:=St.take (Γ':=[]) hs
 refine Qbk (I:=fun n_ t w=>∃ x6:Int,rounds (fun s=>QbK.b0 N a2 a1 s) n_ x6=some o1_∧Fr t (fun O=>([O 0,v3,pointer (some ⟨b4,0,none⟩),O 3,O 4,int .i64 x6,O 6,O 7,O 8,O 9,O 10,O 11,O 12,O 13,O 14,O 15,O 16,O 17,O 18,O 19,O 20,O 21]:List Value))∧St w0 [Cells b4 (Qae a1) 27] w) N ⟨0,Ho,rfl,hs⟩ ?_ ?_
 ·
  rintro _ _ ⟨x6,h,_⟩
  exact rounds_zero h
 intro n_ ih1_
 rintro t w ⟨x6,Ho,hf,hs⟩
 obtain ⟨O,rfl⟩:=hf.open
 show G _ _ _ _ [_,_,_,_,_,_,_,_,_,_,_,_,_,_,_,_,_,_,_,_,_,_] _
 obtain ⟨x6_,H,Hx1_⟩:=rounds_succ Ho
 have H:QbK.b0 N a2 a1 x6=some x6_:=H
 unfold QbK.b0 at H
 refine Qag (Qag (Qan [0,1,2,3] rfl ?_))
 refine Qab (v:=int .i64 x6) rfl rfl rfl ?_
 refine Qab (v:=v3) rfl rfl rfl ?_
 show G _ _ _ _ [_,_,_,_,_,_,_,_,_,_,_,_,_,_,_,_,_,_,_,_,_,_] _
 refine Qb1 (hs.rd hr1) rfl rfl rfl rfl rfl ?_
 refine QaR (B:=decide (x6< (a2.length:Int))) rfl rfl rfl ?_ ?_
 ·
  intro hb
  rw [if_pos (b_dec_t hb)] at H
  show G _ _ _ _ [_,_,_,_,_,_,_,_,_,_,_,_,_,_,_,_,_,_,_,_,_,_] _
  refine Qaa (Qaw rfl (QaS (Qag ?_)))
  refine QbP (Qag ?_)
  refine QcQ (n:=7) rfl [0,1,2,3,4,5,6] [0,1,2,3,4,5,6] rfl rfl ?_
  intro rest w hh hbw hO
  have hs:=hs.samew hh hbw
  show G _ _ _ _ [_,_,_,_,_,_,_,_,_,_,_,_,_,_,_,_,_,_,_,_,_,_] _
  obtain ⟨gd2,H⟩:=ite_get H
  obtain ⟨ad3_,ad3_N,ad3_C,had3_⟩:=sl_at (hs.rd hr1) gd2.1 gd2.2
  refine QbT ?_
  intro T hT
  refine QcJ (m0:=0) hO rfl 31 [0,1,2,3,4] [0,0,0,6,14,31,63] (by decide+kernel) (fun D t w=>∃ O:Nat→Value,t=[O 0,v3,pointer (some ⟨b4,0,none⟩),O 3,O 4,int .i64 x6,int .i64 x6,v3,int .i64 (a2.length:Int),bool true,O 10,O 11,cnd (D 0) (agg (Qae a1).toArray) (O 12),cnd (D 1) v3 (O 13),cnd (D 2) (int .i64 x6) (O 14),cnd (D 3) (pointer (some (ad3_.add (x6.toNat*2)))) (O 15),cnd (D 4) (agg (Qau (rdL a2 x6 Qay)).toArray) (O 16),O 17,O 18,O 19,O 20,O 21]∧St w0 [Cells b4 (Qae a1) 27] w) ?_ ⟨?_,⟨?_,⟨?_,⟨?_,⟨?_,trivial⟩⟩⟩⟩⟩ ?_
  ·exact ⟨fun i=>T.getD i undef,(by subst hT;rfl),hs⟩
  ·
   rintro D t w hD hp hcl ⟨O,ht,hs⟩ rest hk
   have hp:AllDone D []:=hp
   simp only [hD,cq,oT] at ht hs
   subst ht
   refine QaG rfl rfl (es:=(Qae a1)) rfl rfl (fun _=>rfl) (n:=4) (fun _=>rfl) (QaJ.len _) (cells_all (hs.cells 0 rfl)) ?_
   show G _ _ _ _ [_,_,_,_,_,_,_,_,_,_,_,_,_,_,_,_,_,_,_,_,_,_] _
   refine hk _ _ ⟨O,?_,hs.cast ?_⟩<;>simp only [oT,lq,cq,Nat.reduceBEq]
  ·
   rintro D t w hD hp hcl ⟨O,ht,hs⟩ rest hk
   have hp:AllDone D []:=hp
   have q3_:=ny hcl 3 0 hD
   have q4_:=ny hcl 4 0 q3_
   simp only [hD,q3_,q4_,cq,oT] at ht hs
   subst ht
   refine Qab (v:=v3) rfl rfl rfl ?_
   show G _ _ _ _ [_,_,_,_,_,_,_,_,_,_,_,_,_,_,_,_,_,_,_,_,_,_] _
   refine hk _ _ ⟨O,?_,hs.cast ?_⟩<;>simp only [oT,lq,cq,Nat.reduceBEq,q3_,q4_]
  ·
   rintro D t w hD hp hcl ⟨O,ht,hs⟩ rest hk
   have hp:AllDone D []:=hp
   have q3_:=ny hcl 3 1 hD
   have q4_:=ny hcl 4 0 q3_
   simp only [hD,q3_,q4_,cq,oT] at ht hs
   subst ht
   refine Qab (v:=int .i64 x6) rfl rfl rfl ?_
   show G _ _ _ _ [_,_,_,_,_,_,_,_,_,_,_,_,_,_,_,_,_,_,_,_,_,_] _
   refine hk _ _ ⟨O,?_,hs.cast ?_⟩<;>simp only [oT,lq,cq,Nat.reduceBEq,q3_,q4_]
  ·
   rintro D t w hD hp hcl ⟨O,ht,hs⟩ rest hk
   have hp:AllDone D [1,2]:=hp
   obtain ⟨p1_,p2_,_⟩:=hp
   have q4_:=ny hcl 4 0 hD
   simp only [hD,p1_,p2_,q4_,cq,oT] at ht hs
   subst ht
   refine QcI (κ:=Qah) (m:=2) rfl (hs.rd hr1) rfl (fun _=>rfl) gd2.1 gd2.2 had3_ rfl rfl rfl rfl rfl ?_
   show G _ _ _ _ [_,_,_,_,_,_,_,_,_,_,_,_,_,_,_,_,_,_,_,_,_,_] _
   refine hk _ _ ⟨O,?_,hs.cast ?_⟩<;>simp only [oT,lq,cq,Nat.reduceBEq,p1_,p2_,q4_]
  ·
   rintro D t w hD hp hcl ⟨O,ht,hs⟩ rest hk
   have hp:AllDone D [3]:=hp
   obtain ⟨p3_,_⟩:=hp
   obtain ⟨p1_,p2_,_⟩:=(show D 3=true→AllDone D [1,2] from hcl 3 (by decide)) p3_
   simp only [hD,p1_,p2_,p3_,cq,oT] at ht hs
   subst ht
   refine QaG rfl rfl (es:=(Qau (rdL a2 x6 Qay))) rfl rfl (fun _=>rfl) (n:=2) (fun _=>rfl) (QaL.len _) (cellsAt_of QaL Qay (hs.rd hr1) had3_ gd2.1 gd2.2) ?_
   show G _ _ _ _ [_,_,_,_,_,_,_,_,_,_,_,_,_,_,_,_,_,_,_,_,_,_] _
   refine hk _ _ ⟨O,?_,hs.cast ?_⟩<;>simp only [oT,lq,cq,Nat.reduceBEq,p1_,p2_,p3_]
  intro D t w rest hall hO1_ hI
  obtain ⟨O,ht,hs⟩:=hI
  have p0_:=hall 0 (by decide) rfl
  have p1_:=hall 1 (by decide) rfl
  have p2_:=hall 2 (by decide) rfl
  have p3_:=hall 3 (by decide) rfl
  have p4_:=hall 4 (by decide) rfl
  simp only [p0_,p1_,p2_,p3_,p4_,cq,oT] at ht hs
  subst ht
  obtain ⟨rest,rfl,hO4_⟩:=ord_one (m:=31) hO1_ rfl 5 (m':=63) (by decide+kernel) rfl
  clear hO1_
  obtain ⟨r7,Hr7,H⟩:=bind_get H
  refine QaP (args:=[agg (Qae a1).toArray,agg (Qau (rdL a2 x6 Qay)).toArray]) rfl rfl (QaT rfl (callFunc_enter Try.func72 rfl rfl) rfl) (QbQ.calls (a1:=a1) (a2:=rdL a2 x6 Qay) Hr7) ?_
  rintro _ w ⟨rfl,hs2⟩
  have hs:St _ [_] _:=hs.call hs2
  obtain ⟨rest,rfl,hO5_⟩:=ord_one (m:=63) hO4_ rfl 6 (m':=127) (by decide+kernel) rfl
  clear hO4_
  refine QaR (B:=decide (r7< 0)) rfl rfl rfl ?_ ?_
  ·
   intro hb
   rw [if_pos (b_dec_t hb)] at H
   show G _ _ _ _ [_,_,_,_,_,_,_,_,_,_,_,_,_,_,_,_,_,_,_,_,_,_] _
   obtain rfl:=ord_end hO5_ rfl (by decide+kernel)
   refine Qaa (Qaw rfl (Qag (Qan [0] rfl ?_)))
   refine Qab (v:=int .i64 6) rfl rfl rfl (Qaa ?_)
   obtain rfl:=QsJ H
   subst Hx1_
   have H:=QsJ Hr1_
   subst H
   refine QaK Try.func44 (v:=int .i64 6) (res1 rfl rfl) ?_
   have hs:St _ [] _:=St.take (Γ':=[_]) hs
   exact ⟨_,rfl,rfl,hs⟩
  intro hb
  rw [if_neg (b_dec_f hb)] at H
  obtain rfl:=ord_end hO5_ rfl (by decide+kernel)
  refine Qaa (Qax rfl (QaS ?_))
  refine Qa5 (Qan [0,1,2] rfl ?_)
  refine Qab (v:=int .i64 x6) rfl rfl rfl ?_
  show G _ _ _ _ [_,_,_,_,_,_,_,_,_,_,_,_,_,_,_,_,_,_,_,_,_,_] _
  refine Qab (v:=int .i64 (i64w (x6+1))) rfl rfl rfl ?_
  refine Qab (v:=int .i64 (i64w (x6+1))) rfl rfl rfl (Qaa ?_)
  obtain rfl:=QsJ H
  have hs:=hs.pull 0 rfl
  have hs:St _ [_] _:=St.take (Γ':=[]) hs
  exact ih1_ _ _ ⟨i64w (x6+1),Hx1_,rfl,hs⟩
 intro hb
 rw [if_neg (b_dec_f hb)] at H
 refine Qaa (Qax rfl ?_)
 obtain rfl:=QsJ H
 subst Hx1_
 have hs:St _ [] _:=St.take (Γ':=[_]) hs
 refine QbG rfl ?_
 exact ha1_ _ _ ⟨Hr1_,rfl,hs⟩
def Qcy.post (w0:World) (r:Int) (v:Value) (w:World):Prop:=v=int .i64 r∧St w0 [] w
theorem Qcy.calls {N:Nat} {a1:(Ar Int 14)} {a2:Qai} {w0:World} {r:Int} (H:Qcy.f N a1 a2=some r):
 Calls Try.prog 73 #[agg ((encA (encI .i8)) a1).toArray,agg (Qau a2).toArray] w0 fun e w=>∃ v,e= .returned v∧Qcy.post w0 r v w:=by
 unfold Qcy.f at H
 have hs:St w0 [] w0:=St.refl w0
 refine calls_of_g (n:=19) Try.func73 rfl rfl ?_
 show G _ _ _ _ [_,_,_,_,_,_,_,_,_,_,_,_,_,_,_,_,_,_,_,_,_] _
 refine Qag (Qan [0,1,2] rfl ?_)
 refine Qbw hs rfl rfl (cs:=((encA (encI .i8)) a1)) rfl rfl ?_
 intro b3 w hs
 refine Qbw hs rfl rfl (cs:=(Qau a2)) rfl rfl ?_
 intro b5 w hs
 show G _ _ _ _ [_,_,_,_,_,_,_,_,_,_,_,_,_,_,_,_,_,_,_,_,_] _
 refine Qab (v:=int .i64 0) rfl rfl rfl (Qaa (Qag (Qag (Qan [0,1,2] rfl ?_))))
 refine Qab (v:=pointer (some ⟨b5,0,none⟩)) rfl rfl rfl ?_
 refine Qaz rfl rfl (v:=int .i8 a2.Qbs) rfl rfl (fun _=>rfl) (cells_load (hs.cells 0 rfl) 0 1 rfl) ?_
 show G _ _ _ _ [_,_,_,_,_,_,_,_,_,_,_,_,_,_,_,_,_,_,_,_,_] _
 refine QaR (B:=decide (a2.Qbs< 0)) rfl rfl rfl ?_ ?_
 ·
  intro hb
  rw [if_pos (b_dec_t hb)] at H
  refine Qaa (Qaw rfl (Qag (Qan [0] rfl ?_)))
  refine Qab (v:=int .i64 0) rfl rfl rfl (Qaa ?_)
  obtain rfl:=QsJ H
  refine QaK Try.func73 (v:=int .i64 0) (res1 rfl rfl) ?_
  have hs:St _ [] _:=St.take (Γ':=[_,_]) hs
  exact ⟨_,rfl,rfl,hs⟩
 intro hb
 rw [if_neg (b_dec_f hb)] at H
 refine Qaa (Qax rfl (QaS (Qag (Qag (Qan [0,1] rfl ?_)))))
 refine Qab (v:=pointer (some ⟨b5,1,none⟩)) rfl rfl rfl ?_
 by_cases hb3_:a2.QcM=true
 ·
  rw [if_pos hb3_] at H
  refine Qaz rfl rfl (v:=bool true) rfl rfl (fun _=>rfl) (cells_load (hs.cells 0 rfl) 1 1 (Eq.trans (b:=[bool a2.QcM]) rfl (congrArg (fun b=>[bool b]) hb3_))) ?_
  show G _ _ _ _ [_,_,_,_,_,_,_,_,_,_,_,_,_,_,_,_,_,_,_,_,_] _
  refine Qaa (Qaw rfl (Qag (Qan [0,1,2,3,4,5] rfl ?_)))
  refine Qab (v:=pointer (some ⟨b5,0,none⟩)) rfl rfl rfl ?_
  refine Qaz rfl rfl (v:=int .i8 a2.Qbs) rfl rfl (fun _=>rfl) (cells_load (hs.cells 0 rfl) 0 1 rfl) ?_
  obtain ⟨g1,H⟩:=ite_get H
  refine Qa1 (n:=a2.Qbs) (m:=1) rfl (fun _=>rfl) g1.1 g1.2 rfl rfl rfl rfl rfl ?_
  show G _ _ _ _ [_,_,_,_,_,_,_,_,_,_,_,_,_,_,_,_,_,_,_,_,_] _
  refine Qaz rfl rfl (v:=int .i8 (a1.get a2.Qbs 0)) rfl rfl (fun _=>rfl) (by rw [Nat.zero_add];exact cells_load (hs.cells 1 rfl) _ _ (encA_at (fkI .i8).len _ _ 0 g1.1 g1.2)) ?_
  refine Qab (v:=int .i64 (i64w (a1.get a2.Qbs 0))) rfl rfl rfl ?_
  refine Qab (v:=int .i64 (i64w (a1.get a2.Qbs 0))) rfl rfl rfl ?_
  show G _ _ _ _ [_,_,_,_,_,_,_,_,_,_,_,_,_,_,_,_,_,_,_,_,_] _
  refine Qaa ?_
  obtain rfl:=QsJ H
  refine QaK Try.func73 (v:=int .i64 (i64w (a1.get a2.Qbs 0))) (res1 rfl rfl) ?_
  have hs:St _ [] _:=St.take (Γ':=[_,_]) hs
  exact ⟨_,rfl,rfl,hs⟩
 rw [if_neg hb3_] at H
 refine Qaz rfl rfl (v:=bool false) rfl rfl (fun _=>rfl) (cells_load (hs.cells 0 rfl) 1 1 (Eq.trans (b:=[bool a2.QcM]) rfl (congrArg (fun b=>[bool b]) (Bool.eq_false_iff.2 hb3_)))) ?_
 show G _ _ _ _ [_,_,_,_,_,_,_,_,_,_,_,_,_,_,_,_,_,_,_,_,_] _
 refine Qaa (Qax rfl (QaS (Qag (Qan [0,1,2,3,4,5,6] rfl ?_))))
 refine Qab (v:=pointer (some ⟨b5,0,none⟩)) rfl rfl rfl ?_
 refine Qaz rfl rfl (v:=int .i8 a2.Qbs) rfl rfl (fun _=>rfl) (cells_load (hs.cells 0 rfl) 0 1 rfl) ?_
 obtain ⟨g2,H⟩:=ite_get H
 refine Qa1 (n:=a2.Qbs) (m:=1) rfl (fun _=>rfl) g2.1 g2.2 rfl rfl rfl rfl rfl ?_
 show G _ _ _ _ [_,_,_,_,_,_,_,_,_,_,_,_,_,_,_,_,_,_,_,_,_] _
 refine Qaz rfl rfl (v:=int .i8 (a1.get a2.Qbs 0)) rfl rfl (fun _=>rfl) (by rw [Nat.zero_add];exact cells_load (hs.cells 1 rfl) _ _ (encA_at (fkI .i8).len _ _ 0 g2.1 g2.2)) ?_
 refine Qab (v:=int .i64 (i64w (a1.get a2.Qbs 0))) rfl rfl rfl ?_
 refine Qab (v:=int .i64 (i64w (0 - (i64w (a1.get a2.Qbs 0))))) rfl rfl rfl ?_
 show G _ _ _ _ [_,_,_,_,_,_,_,_,_,_,_,_,_,_,_,_,_,_,_,_,_] _
 refine Qab (v:=int .i64 (i64w (0 - (i64w (a1.get a2.Qbs 0))))) rfl rfl rfl (Qaa ?_)
 obtain rfl:=QsJ H
 refine QaK Try.func73 (v:=int .i64 (i64w (0 - (i64w (a1.get a2.Qbs 0))))) (res1 rfl rfl) ?_
 have hs:St _ [] _:=St.take (Γ':=[_,_]) hs
 exact ⟨_,rfl,rfl,hs⟩
end Go.Proofs.YtgpdpedpmhonkaaX
