import Derived.Test.YtgpdpedpmhonkaaProg
import Derived.Test.YtgpdpedpmhonkaaP3
import Derived.Test.YtgpdpedpmhonkaaP4
import Derived.Test.YtgpdpedpmhonkaaP8
namespace Go.Proofs.YtgpdpedpmhonkaaX
open Go Go.RowKit Go.Proofs
open Go.Value (int pointer bool agg slice string tuple)
set_option maxHeartbeats 8000000
set_option maxRecDepth 100000
set_option linter.unusedVariables false
set_option linter.unusedSimpArgs false
def Qby.post (w0:World) (r:(Ar (List Qai) 3)) (v:Value) (w:World):Prop:=∃ u1:Value,∃ u2:Value,∃ u3:Value,v=agg (([u1,u2,u3]:List Value)).toArray∧St w0 [Row 53 Qah u1 (r.get 0 []),Row 53 Qah u2 (r.get 1 []),Row 53 Qah u3 (r.get 2 [])] w
theorem Qby.calls {N:Nat} {a1:(Ar Int 14)} {a2:(List Qai)} {v3:Value} {w0:World} {r:(Ar (List Qai) 3)} (hr1:RdRow Qah w0 v3 a2) (H:Qby.f N a1 a2=some r):
 Calls Try.prog 45 #[agg ((encA (encI .i8)) a1).toArray,v3] w0 fun e w=>∃ v,e= .returned v∧Qby.post w0 r v w:=by
 unfold Qby.f at H
 have hs:St w0 [] w0:=St.refl w0
 refine calls_of_g (n:=35) Try.func45 rfl rfl ?_
 show G _ _ _ _ [_,_,_,_,_,_,_,_,_,_,_,_,_,_,_,_,_,_,_,_,_,_,_,_,_,_,_,_,_,_,_,_,_,_,_,_,_] _
 refine Qag (Qan [0,1] rfl ?_)
 refine Qbw hs rfl rfl (cs:=((encA (encI .i8)) a1)) rfl rfl ?_
 intro b4 w hs
 refine QbH hs rfl rfl (z:=(agg #[slice none 0 0,slice none 0 0,slice none 0 0])) (cs:=(([slice none 0 0,slice none 0 0,slice none 0 0]:List Value))) rfl (fun _=>rfl) rfl ?_
 intro b6 w hs
 refine Qaa (Qag (Qan [0,1,2,3,4,5] rfl ?_))
 refine QcU (κ:=Qah) hs rfl rfl rfl rfl (fun _=>rfl) ?_
 intro v8 w hs
 show G _ _ _ _ [_,_,_,_,_,_,_,_,_,_,_,_,_,_,_,_,_,_,_,_,_,_,_,_,_,_,_,_,_,_,_,_,_,_,_,_,_] _
 refine QcU (κ:=Qah) hs rfl rfl rfl rfl (fun _=>rfl) ?_
 intro v10 w hs
 show G _ _ _ _ [_,_,_,_,_,_,_,_,_,_,_,_,_,_,_,_,_,_,_,_,_,_,_,_,_,_,_,_,_,_,_,_,_,_,_,_,_] _
 refine QcU (κ:=Qah) hs rfl rfl rfl rfl (fun _=>rfl) ?_
 intro v12 w hs
 show G _ _ _ _ [_,_,_,_,_,_,_,_,_,_,_,_,_,_,_,_,_,_,_,_,_,_,_,_,_,_,_,_,_,_,_,_,_,_,_,_,_] _
 refine Qab (v:=agg (([v8,v10,v12]:List Value)).toArray) rfl rfl (QdD (cs:=([v8,v10,v12]:List Value)) (zs:=[slice none 0 0,slice none 0 0,slice none 0 0]) rfl rfl (fun _=>rfl) (fun _=>rfl) (by simp [ev,Instr.fill,slCells (hs.row 2 rfl),slCells (hs.row 1 rfl),slCells (hs.row 0 rfl)])) ?_
 show G _ _ _ _ [_,_,_,_,_,_,_,_,_,_,_,_,_,_,_,_,_,_,_,_,_,_,_,_,_,_,_,_,_,_,_,_,_,_,_,_,_] _
 refine QbH hs rfl rfl (z:=(agg #[slice none 0 0,slice none 0 0,slice none 0 0])) (cs:=(([slice none 0 0,slice none 0 0,slice none 0 0]:List Value))) rfl (fun _=>rfl) rfl ?_
 intro b14 w hs
 refine Qa9 (n:=3) hs rfl rfl rfl (vs:=(([v8,v10,v12]:List Value))) rfl rfl rfl (fun _=>rfl) rfl (by intro v hv;simp only [List.mem_append,List.mem_cons,List.not_mem_nil,or_false] at hv;repeat (first|(subst hv;first|rfl|exact slOne (hs.row 3 rfl)|exact slOne (hs.row 2 rfl)|exact slOne (hs.row 1 rfl))|(rcases hv with hv|hv))) ?_
 intro w hs
 refine Qaa (Qag (Qag (Qan [0] rfl ?_)))
 refine Qab (v:=int .i64 0) rfl rfl rfl (Qaa ?_)
 obtain ⟨o1_,Ho,Hr1_⟩:=bind_get H
 refine Qa2 (J:=fun t w=>∃ v83:Value,∃ x84:(List Qai),∃ v86:Value,∃ x87:(List Qai),∃ v89:Value,∃ x90:(List Qai),Qby.a0 N x84 x87 x90=some r∧Fr t (fun O=>([O 0,O 1,O 2,O 3,pointer (some ⟨b6,0,none⟩),pointer (some ⟨b14,0,none⟩),O 6,O 7,O 8,O 9,O 10,O 11,O 12,O 13,O 14,O 15,O 16,O 17,O 18,O 19,O 20,O 21,O 22,O 23,O 24,O 25,O 26,O 27,O 28,O 29,O 30,O 31,O 32,O 33,O 34,O 35,O 36]:List Value))∧St w0 [Cells b6 (([slice none 0 0,slice none 0 0,slice none 0 0]:List Value)) 42,Cells b14 (([v83,v86,v89]:List Value)) 42,Row 53 Qah v83 x84,Row 53 Qah v86 x87,Row 53 Qah v89 x90] w) ?_ ?_
 ·
  rintro t w ⟨v83,x84,v86,x87,v89,x90,H,hf,hs⟩
  obtain ⟨O,rfl⟩:=hf.open
  show G _ _ _ _ [_,_,_,_,_,_,_,_,_,_,_,_,_,_,_,_,_,_,_,_,_,_,_,_,_,_,_,_,_,_,_,_,_,_,_,_,_] _
  unfold Qby.a0 at H
  refine Qag (Qan [0,1] rfl ?_)
  refine QaG rfl rfl (es:=(([v83,v86,v89]:List Value))) rfl rfl (fun _=>rfl) (n:=3) (fun _=>rfl) rfl (cells_all (hs.cells 1 rfl)) ?_
  refine Qa9 (n:=3) hs rfl rfl rfl (vs:=(([v83,v86,v89]:List Value))) rfl rfl rfl (fun _=>rfl) rfl (by intro v hv;simp only [List.mem_append,List.mem_cons,List.not_mem_nil,or_false] at hv;repeat (first|(subst hv;first|rfl|exact slOne (hs.row 2 rfl)|exact slOne (hs.row 3 rfl)|exact slOne (hs.row 4 rfl))|(rcases hv with hv|hv))) ?_
  intro w hs
  refine Qaa ?_
  obtain rfl:=QsJ H
  refine QaK Try.func45 (v:=agg (([v83,v86,v89]:List Value)).toArray) (resC rfl ⟨⟨_,rfl,(run_loadVar_agg (es:=(([v83,v86,v89]:List Value))) rfl rfl (cells_all (hs.cells 0 rfl)))⟩,trivial⟩) ?_
  have hs:=hs.pull 4 rfl
  have hs:=hs.pull 4 rfl
  have hs:=hs.pull 4 rfl
  have hs:St _ [_,_,_] _:=St.take (Γ':=[_,_]) hs
  exact ⟨_,rfl,v83,v86,v89,rfl,hs⟩
 intro ha1_
 have hs:=hs.pull 0 rfl
 have hs:=hs.pull 1 rfl
 have hs:=hs.pull 2 rfl
 have hs:=hs.pull 3 rfl
 have hs:=hs.pull 4 rfl
 have hs:=hs.pull 5 rfl
 have hs:St _ [_,_,_,_,_,_] _:=St.take (Γ':=[]) hs
 refine Qbk (I:=fun n_ t w=>∃ v46:Value,∃ x47:(List Qai),∃ v49:Value,∃ x50:(List Qai),∃ v52:Value,∃ x53:(List Qai),∃ x54:Int,rounds (fun s=>Qby.b0 N a2 a1 s.1 s.2.1 s.2.2.1 s.2.2.2) n_ (x47,x50,x53,x54)=some o1_∧Fr t (fun O=>([O 0,v3,pointer (some ⟨b4,0,none⟩),O 3,pointer (some ⟨b6,0,none⟩),pointer (some ⟨b14,0,none⟩),int .i64 x54,O 7,O 8,O 9,O 10,O 11,O 12,O 13,O 14,O 15,O 16,O 17,O 18,O 19,O 20,O 21,O 22,O 23,O 24,O 25,O 26,O 27,O 28,O 29,O 30,O 31,O 32,O 33,O 34,O 35,O 36]:List Value))∧St w0 [Cells b4 ((encA (encI .i8)) a1) 37,Cells b6 (([slice none 0 0,slice none 0 0,slice none 0 0]:List Value)) 42,Row 53 Qah v46 x47,Row 53 Qah v49 x50,Row 53 Qah v52 x53,Cells b14 (([v46,v49,v52]:List Value)) 42] w) N ⟨v8,([]:List Qai),v10,([]:List Qai),v12,([]:List Qai),0,Ho,rfl,hs⟩ ?_ ?_
 ·
  rintro _ _ ⟨v46,x47,v49,x50,v52,x53,x54,h,_⟩
  exact rounds_zero h
 intro n_ ih1_
 rintro t w ⟨v46,x47,v49,x50,v52,x53,x54,Ho,hf,hs⟩
 obtain ⟨O,rfl⟩:=hf.open
 show G _ _ _ _ [_,_,_,_,_,_,_,_,_,_,_,_,_,_,_,_,_,_,_,_,_,_,_,_,_,_,_,_,_,_,_,_,_,_,_,_,_] _
 obtain ⟨x23_,H,Hx1_⟩:=rounds_succ Ho
 have H:Qby.b0 N a2 a1 x47 x50 x53 x54=some x23_:=H
 unfold Qby.b0 at H
 refine Qag (Qag (Qan [0,1,2,3] rfl ?_))
 refine Qab (v:=int .i64 x54) rfl rfl rfl ?_
 refine Qab (v:=v3) rfl rfl rfl ?_
 refine Qb1 (hs.rd hr1) rfl rfl rfl rfl rfl ?_
 show G _ _ _ _ [_,_,_,_,_,_,_,_,_,_,_,_,_,_,_,_,_,_,_,_,_,_,_,_,_,_,_,_,_,_,_,_,_,_,_,_,_] _
 refine QaR (B:=decide (x54< (a2.length:Int))) rfl rfl rfl ?_ ?_
 ·
  intro hb
  rw [if_pos (b_dec_t hb)] at H
  refine Qaa (Qaw rfl (QaS (Qag ?_)))
  refine Qa2 (J:=(fun t w=>∃ v74:Value,∃ x75:(List Qai),∃ v77:Value,∃ x78:(List Qai),∃ v80:Value,∃ x81:(List Qai),Qby.j2 N x54 x75 x78 x81=some x23_∧Fr t (fun O=>([O 0,v3,pointer (some ⟨b4,0,none⟩),O 3,pointer (some ⟨b6,0,none⟩),pointer (some ⟨b14,0,none⟩),int .i64 x54,O 7,O 8,O 9,O 10,O 11,O 12,O 13,O 14,O 15,O 16,O 17,O 18,O 19,O 20,O 21,O 22,O 23,O 24,O 25,O 26,O 27,O 28,O 29,O 30,O 31,O 32,O 33,O 34,O 35,O 36]:List Value))∧St w0 [Cells b4 ((encA (encI .i8)) a1) 37,Cells b6 (([slice none 0 0,slice none 0 0,slice none 0 0]:List Value)) 42,Cells b14 (([v74,v77,v80]:List Value)) 42,Row 53 Qah v74 x75,Row 53 Qah v77 x78,Row 53 Qah v80 x81] w)) ?_ ?_
  ·
   rintro t w ⟨v74,x75,v77,x78,v80,x81,H,hf,hs⟩
   obtain ⟨O,rfl⟩:=hf.open
   show G _ _ _ _ [_,_,_,_,_,_,_,_,_,_,_,_,_,_,_,_,_,_,_,_,_,_,_,_,_,_,_,_,_,_,_,_,_,_,_,_,_] _
   unfold Qby.j2 at H
   refine Qan [0,1,2] rfl ?_
   refine Qab (v:=int .i64 x54) rfl rfl rfl ?_
   refine Qab (v:=int .i64 (i64w (x54+1))) rfl rfl rfl ?_
   show G _ _ _ _ [_,_,_,_,_,_,_,_,_,_,_,_,_,_,_,_,_,_,_,_,_,_,_,_,_,_,_,_,_,_,_,_,_,_,_,_,_] _
   refine Qab (v:=int .i64 (i64w (x54+1))) rfl rfl rfl (Qaa ?_)
   obtain rfl:=QsJ H
   have hs:=hs.pull 2 rfl
   have hs:=hs.pull 5 rfl
   have hs:=hs.pull 5 rfl
   have hs:=hs.pull 5 rfl
   have hs:=hs.pull 5 rfl
   have hs:=hs.pull 5 rfl
   have hs:St _ [_,_,_,_,_,_] _:=St.take (Γ':=[]) hs
   exact ih1_ _ _ ⟨v74,x75,v77,x78,v80,x81,i64w (x54+1),Hx1_,rfl,hs⟩
  intro ha
  refine Qag ?_
  obtain ⟨gd12,H⟩:=ite_get H
  obtain ⟨ad13_,ad13_N,ad13_C,had13_⟩:=sl_at (hs.rd hr1) gd12.1 gd12.2
  obtain ⟨r55,Hr55,H⟩:=bind_get H
  refine QbT ?_
  intro T hT
  refine Qcg (n:=8) rfl [0,1,2,3,4,5,6,7] [0,1,2,3,4,5,6,7] rfl rfl (Inv:=fun D t w=>∃ O:Nat→Value,t=[O 0,v3,pointer (some ⟨b4,0,none⟩),O 3,pointer (some ⟨b6,0,none⟩),pointer (some ⟨b14,0,none⟩),int .i64 x54,cnd (D 7) (int .i64 (i64w (r55+1))) (O 7),O 8,O 9,O 10,O 11,int .i64 x54,v3,int .i64 (a2.length:Int),bool true,O 16,O 17,cnd (D 0) (agg ((encA (encI .i8)) a1).toArray) (O 18),cnd (D 1) v3 (O 19),cnd (D 2) (int .i64 x54) (O 20),cnd (D 3) (pointer (some (ad13_.add (x54.toNat*2)))) (O 21),cnd (D 4) (agg (Qau (rdL a2 x54 Qay)).toArray) (O 22),cnd (D 5) (int .i64 r55) (O 23),cnd (D 6) (int .i64 (i64w (r55+1))) (O 24),O 25,O 26,O 27,O 28,O 29,O 30,O 31,O 32,O 33,O 34,O 35,O 36]∧St w0 [Cells b4 ((encA (encI .i8)) a1) 37,Cells b6 (([slice none 0 0,slice none 0 0,slice none 0 0]:List Value)) 42,Row 53 Qah v46 x47,Row 53 Qah v49 x50,Row 53 Qah v52 x53,Cells b14 (([v46,v49,v52]:List Value)) 42] w) ?_ ⟨⟨⟨⟨⟨⟨⟨⟨trivial,?_⟩,?_⟩,?_⟩,?_⟩,?_⟩,?_⟩,?_⟩,?_⟩ ?_
  ·
   intro w hh hbw
   have hs:=hs.samew hh hbw
   exact ⟨fun i=>T.getD i undef,(by subst hT;rfl),hs⟩
  ·
   rintro D t w hD hp hcl ⟨O,ht,hs⟩ rest hk
   have q5_:=nz hcl 5 0 hD
   have q6_:=nz hcl 6 0 q5_
   have q7_:=nz hcl 7 0 q6_
   simp only [hD,q5_,q6_,q7_,cq,oT] at ht hs
   subst ht
   refine QaG rfl rfl (es:=((encA (encI .i8)) a1)) rfl rfl (fun _=>rfl) (n:=14) (fun _=>rfl) ((fkA (n:=14) (he:=(fkI .i8).len) (h1:=(fkI .i8).one)).len _) (cells_all (hs.cells 0 rfl)) ?_
   show G _ _ _ _ [_,_,_,_,_,_,_,_,_,_,_,_,_,_,_,_,_,_,_,_,_,_,_,_,_,_,_,_,_,_,_,_,_,_,_,_,_] _
   refine hk _ _ ⟨O,?_,hs.cast ?_⟩<;>simp only [oT,lq,cq,Nat.reduceBEq,q5_,q6_,q7_]
  ·
   rintro D t w hD hp hcl ⟨O,ht,hs⟩ rest hk
   have q3_:=nz hcl 3 0 hD
   have q4_:=nz hcl 4 0 q3_
   have q5_:=nz hcl 5 1 q4_
   have q6_:=nz hcl 6 0 q5_
   have q7_:=nz hcl 7 0 q6_
   simp only [hD,q3_,q4_,q5_,q6_,q7_,cq,oT] at ht hs
   subst ht
   refine Qab (v:=v3) rfl rfl rfl ?_
   show G _ _ _ _ [_,_,_,_,_,_,_,_,_,_,_,_,_,_,_,_,_,_,_,_,_,_,_,_,_,_,_,_,_,_,_,_,_,_,_,_,_] _
   refine hk _ _ ⟨O,?_,hs.cast ?_⟩<;>simp only [oT,lq,cq,Nat.reduceBEq,q3_,q4_,q5_,q6_,q7_]
  ·
   rintro D t w hD hp hcl ⟨O,ht,hs⟩ rest hk
   have q3_:=nz hcl 3 1 hD
   have q4_:=nz hcl 4 0 q3_
   have q5_:=nz hcl 5 1 q4_
   have q6_:=nz hcl 6 0 q5_
   have q7_:=nz hcl 7 0 q6_
   simp only [hD,q3_,q4_,q5_,q6_,q7_,cq,oT] at ht hs
   subst ht
   refine Qab (v:=int .i64 x54) rfl rfl rfl ?_
   show G _ _ _ _ [_,_,_,_,_,_,_,_,_,_,_,_,_,_,_,_,_,_,_,_,_,_,_,_,_,_,_,_,_,_,_,_,_,_,_,_,_] _
   refine hk _ _ ⟨O,?_,hs.cast ?_⟩<;>simp only [oT,lq,cq,Nat.reduceBEq,q3_,q4_,q5_,q6_,q7_]
  ·
   rintro D t w hD hp hcl ⟨O,ht,hs⟩ rest hk
   obtain ⟨p1_,p2_,_⟩:=hp
   have q4_:=nz hcl 4 0 hD
   have q5_:=nz hcl 5 1 q4_
   have q6_:=nz hcl 6 0 q5_
   have q7_:=nz hcl 7 0 q6_
   simp only [hD,p1_,p2_,q4_,q5_,q6_,q7_,cq,oT] at ht hs
   subst ht
   refine QcI (κ:=Qah) (m:=2) rfl (hs.rd hr1) rfl (fun _=>rfl) gd12.1 gd12.2 had13_ rfl rfl rfl rfl rfl ?_
   show G _ _ _ _ [_,_,_,_,_,_,_,_,_,_,_,_,_,_,_,_,_,_,_,_,_,_,_,_,_,_,_,_,_,_,_,_,_,_,_,_,_] _
   refine hk _ _ ⟨O,?_,hs.cast ?_⟩<;>simp only [oT,lq,cq,Nat.reduceBEq,p1_,p2_,q4_,q5_,q6_,q7_]
  ·
   rintro D t w hD hp hcl ⟨O,ht,hs⟩ rest hk
   obtain ⟨p3_,_⟩:=hp
   obtain ⟨p1_,p2_,_⟩:=(hcl.get 3 (by decide)) p3_
   have q5_:=nz hcl 5 1 hD
   have q6_:=nz hcl 6 0 q5_
   have q7_:=nz hcl 7 0 q6_
   simp only [hD,p1_,p2_,p3_,q5_,q6_,q7_,cq,oT] at ht hs
   subst ht
   refine QaG rfl rfl (es:=(Qau (rdL a2 x54 Qay))) rfl rfl (fun _=>rfl) (n:=2) (fun _=>rfl) (QaL.len _) (cellsAt_of QaL Qay (hs.rd hr1) had13_ gd12.1 gd12.2) ?_
   show G _ _ _ _ [_,_,_,_,_,_,_,_,_,_,_,_,_,_,_,_,_,_,_,_,_,_,_,_,_,_,_,_,_,_,_,_,_,_,_,_,_] _
   refine hk _ _ ⟨O,?_,hs.cast ?_⟩<;>simp only [oT,lq,cq,Nat.reduceBEq,p1_,p2_,p3_,q5_,q6_,q7_]
  ·
   rintro D t w hD hp hcl ⟨O,ht,hs⟩ rest hk
   obtain ⟨p0_,p4_,_⟩:=hp
   obtain ⟨p3_,_⟩:=(hcl.get 4 (by decide)) p4_
   obtain ⟨p1_,p2_,_⟩:=(hcl.get 3 (by decide)) p3_
   have q6_:=nz hcl 6 0 hD
   have q7_:=nz hcl 7 0 q6_
   simp only [hD,p0_,p1_,p2_,p3_,p4_,q6_,q7_,cq,oT] at ht hs
   subst ht
   refine QaP (args:=[agg ((encA (encI .i8)) a1).toArray,agg (Qau (rdL a2 x54 Qay)).toArray]) rfl rfl (QaT rfl (callFunc_enter Try.func73 rfl rfl) rfl) (Qcy.calls (a1:=a1) (a2:=rdL a2 x54 Qay) Hr55) ?_
   rintro _ w ⟨rfl,hs2⟩
   have hs:St _ [_,_,_,_,_,_] _:=hs.call hs2
   show G _ _ _ _ [_,_,_,_,_,_,_,_,_,_,_,_,_,_,_,_,_,_,_,_,_,_,_,_,_,_,_,_,_,_,_,_,_,_,_,_,_] _
   refine hk _ _ ⟨O,?_,hs.cast ?_⟩<;>simp only [oT,lq,cq,Nat.reduceBEq,p0_,p1_,p2_,p3_,p4_,q6_,q7_]
  ·
   rintro D t w hD hp hcl ⟨O,ht,hs⟩ rest hk
   obtain ⟨p5_,_⟩:=hp
   obtain ⟨p0_,p4_,_⟩:=(hcl.get 5 (by decide)) p5_
   obtain ⟨p3_,_⟩:=(hcl.get 4 (by decide)) p4_
   obtain ⟨p1_,p2_,_⟩:=(hcl.get 3 (by decide)) p3_
   have q7_:=nz hcl 7 0 hD
   simp only [hD,p0_,p1_,p2_,p3_,p4_,p5_,q7_,cq,oT] at ht hs
   subst ht
   refine Qab (v:=int .i64 (i64w (r55+1))) rfl rfl rfl ?_
   show G _ _ _ _ [_,_,_,_,_,_,_,_,_,_,_,_,_,_,_,_,_,_,_,_,_,_,_,_,_,_,_,_,_,_,_,_,_,_,_,_,_] _
   refine hk _ _ ⟨O,?_,hs.cast ?_⟩<;>simp only [oT,lq,cq,Nat.reduceBEq,p0_,p1_,p2_,p3_,p4_,p5_,q7_]
  ·
   rintro D t w hD hp hcl ⟨O,ht,hs⟩ rest hk
   obtain ⟨p6_,p5_,p0_,p1_,p2_,p3_,p4_,_,_,_⟩:=hp
   simp only [hD,p0_,p1_,p2_,p3_,p4_,p5_,p6_,cq,oT] at ht hs
   subst ht
   refine Qab (v:=int .i64 (i64w (r55+1))) rfl rfl rfl ?_
   show G _ _ _ _ [_,_,_,_,_,_,_,_,_,_,_,_,_,_,_,_,_,_,_,_,_,_,_,_,_,_,_,_,_,_,_,_,_,_,_,_,_] _
   refine hk _ _ ⟨O,?_,hs.cast ?_⟩<;>simp only [oT,lq,cq,Nat.reduceBEq,p0_,p1_,p2_,p3_,p4_,p5_,p6_]
  intro D t w hall hI
  obtain ⟨O,ht,hs⟩:=hI
  have p0_:=hall 0 (by decide)
  have p1_:=hall 1 (by decide)
  have p2_:=hall 2 (by decide)
  have p3_:=hall 3 (by decide)
  have p4_:=hall 4 (by decide)
  have p5_:=hall 5 (by decide)
  have p6_:=hall 6 (by decide)
  have p7_:=hall 7 (by decide)
  simp only [p0_,p1_,p2_,p3_,p4_,p5_,p6_,p7_,cq,oT] at ht hs
  subst ht
  by_cases hk14_:i64w (r55+1)=0
  ·
   rw [if_pos hk14_] at H
   obtain ⟨gd15,H⟩:=ite_get H
   obtain ⟨ad16_,ad16_N,ad16_C,had16_⟩:=sl_at (hs.rd hr1) gd15.1 gd15.2
   obtain ⟨gq9_,H⟩:=ite_get H
   refine QbT ?_
   intro T hT
   refine Qcg (n:=12) rfl [0,1,2,3,4,5,6,7,8,9,10,11] [0,1,2,3,4,5,6,7,8,9,10,11] rfl rfl (Inv:=fun D t w=>∃ v56:Value,∃ v58:Value,∃ O:Nat→Value,t=[O 0,v3,pointer (some ⟨b4,0,none⟩),O 3,pointer (some ⟨b6,0,none⟩),pointer (some ⟨b14,0,none⟩),int .i64 x54,int .i64 (i64w (r55+1)),O 8,O 9,O 10,O 11,int .i64 x54,v3,int .i64 (a2.length:Int),bool true,O 16,O 17,agg ((encA (encI .i8)) a1).toArray,v3,int .i64 x54,pointer (some (ad13_.add (x54.toNat*2))),agg (Qau (rdL a2 x54 Qay)).toArray,int .i64 r55,int .i64 (i64w (r55+1)),cnd (D 0) (int .i64 (i64w (r55+1))) (O 25),cnd (D 1) (int .i64 (i64w (r55+1))) (O 26),cnd (D 2) (pointer (some ⟨b14,0+0*1,none⟩)) (O 27),cnd (D 3) v46 (O 28),cnd (D 4) v3 (O 29),cnd (D 5) (int .i64 x54) (O 30),cnd (D 6) (pointer (some (ad16_.add (x54.toNat*2)))) (O 31),cnd (D 7) (agg (Qau (rdL a2 x54 Qay)).toArray) (O 32),cnd (D 8) v56 (O 33),cnd (D 9) v58 (O 34),cnd (D 10) (pointer (some ⟨b14,0+0*1,none⟩)) (O 35),O 36]∧St w0 [Asc (D 8) (Row 53 Qah v56 ([rdL a2 x54 Qay])),Cells b4 ((encA (encI .i8)) a1) 37,Cells b6 (([slice none 0 0,slice none 0 0,slice none 0 0]:List Value)) 42,Row 53 Qah (cnd (D 9) v58 v46) (cnd (D 9) (x47++([rdL a2 x54 Qay])) x47),Row 53 Qah v49 x50,Row 53 Qah v52 x53,Cells b14 (cnd (D 11) (([v58,v49,v52]:List Value)) (([v46,v49,v52]:List Value))) 42] w) ?_ ⟨⟨⟨⟨⟨⟨⟨⟨⟨⟨⟨⟨trivial,?_⟩,?_⟩,?_⟩,?_⟩,?_⟩,?_⟩,?_⟩,?_⟩,?_⟩,?_⟩,?_⟩,?_⟩ ?_
   ·
    intro w hh hbw
    have hs:=hs.samew hh hbw
    have hs:=hs.emp
    exact ⟨undef,undef,fun i=>T.getD i undef,(by subst hT;rfl),hs⟩
   ·
    rintro D t w hD hp hcl ⟨v56,v58,O,ht,hs⟩ rest hk
    have q10_:=nz hcl 10 0 hD
    have q11_:=nz hcl 11 0 q10_
    simp only [hD,q10_,q11_,cq,oT] at ht hs
    subst ht
    refine Qab (v:=int .i64 (i64w (r55+1))) rfl rfl rfl ?_
    show G _ _ _ _ [_,_,_,_,_,_,_,_,_,_,_,_,_,_,_,_,_,_,_,_,_,_,_,_,_,_,_,_,_,_,_,_,_,_,_,_,_] _
    refine hk _ _ ⟨v56,v58,O,?_,hs.cast ?_⟩<;>simp only [oT,lq,cq,Nat.reduceBEq,q10_,q11_]
   ·
    rintro D t w hD hp hcl ⟨v56,v58,O,ht,hs⟩ rest hk
    have q2_:=nz hcl 2 0 hD
    have q3_:=nz hcl 3 0 q2_
    have q9_:=nz hcl 9 0 q3_
    have q10_:=nz hcl 10 2 hD
    have q11_:=nz hcl 11 0 q10_
    simp only [hD,q2_,q3_,q9_,q10_,q11_,cq,oT] at ht hs
    subst ht
    refine Qab (v:=int .i64 (i64w (r55+1))) rfl rfl rfl ?_
    show G _ _ _ _ [_,_,_,_,_,_,_,_,_,_,_,_,_,_,_,_,_,_,_,_,_,_,_,_,_,_,_,_,_,_,_,_,_,_,_,_,_] _
    refine hk _ _ ⟨v56,v58,O,?_,hs.cast ?_⟩<;>simp only [oT,lq,cq,Nat.reduceBEq,q2_,q3_,q9_,q10_,q11_]
   ·
    rintro D t w hD hp hcl ⟨v56,v58,O,ht,hs⟩ rest hk
    obtain ⟨p1_,_⟩:=hp
    have q3_:=nz hcl 3 0 hD
    have q9_:=nz hcl 9 0 q3_
    have q10_:=nz hcl 10 3 hD
    have q11_:=nz hcl 11 0 q10_
    simp only [hD,p1_,q3_,q9_,q10_,q11_,cq,oT] at ht hs
    subst ht
    refine QbR (m:=1) 0 hk14_ (by decide) rfl (fun _=>rfl) rfl rfl rfl rfl rfl ?_
    show G _ _ _ _ [_,_,_,_,_,_,_,_,_,_,_,_,_,_,_,_,_,_,_,_,_,_,_,_,_,_,_,_,_,_,_,_,_,_,_,_,_] _
    refine hk _ _ ⟨v56,v58,O,?_,hs.cast ?_⟩<;>simp only [oT,lq,cq,Nat.reduceBEq,p1_,q3_,q9_,q10_,q11_]
   ·
    rintro D t w hD hp hcl ⟨v56,v58,O,ht,hs⟩ rest hk
    obtain ⟨p2_,_⟩:=hp
    obtain ⟨p1_,_⟩:=(hcl.get 2 (by decide)) p2_
    have q9_:=nz hcl 9 0 hD
    have q10_:=nz hcl 10 4 hD
    have q11_:=nz hcl 11 0 q10_
    simp only [hD,p1_,p2_,q9_,q10_,q11_,cq,oT] at ht hs
    subst ht
    refine Qaz rfl rfl (v:=v46) rfl rfl (fun _=>rfl) (cells_load (hs.cells 6 rfl) 0 1 rfl) ?_
    show G _ _ _ _ [_,_,_,_,_,_,_,_,_,_,_,_,_,_,_,_,_,_,_,_,_,_,_,_,_,_,_,_,_,_,_,_,_,_,_,_,_] _
    refine hk _ _ ⟨v56,v58,O,?_,hs.cast ?_⟩<;>simp only [oT,lq,cq,Nat.reduceBEq,p1_,p2_,q9_,q10_,q11_]
   ·
    rintro D t w hD hp hcl ⟨v56,v58,O,ht,hs⟩ rest hk
    have q6_:=nz hcl 6 0 hD
    have q7_:=nz hcl 7 0 q6_
    have q8_:=nz hcl 8 0 q7_
    have q9_:=nz hcl 9 1 q8_
    have q10_:=nz hcl 10 5 hD
    have q11_:=nz hcl 11 0 q10_
    simp only [hD,q6_,q7_,q8_,q9_,q10_,q11_,cq,oT] at ht hs
    subst ht
    refine Qab (v:=v3) rfl rfl rfl ?_
    show G _ _ _ _ [_,_,_,_,_,_,_,_,_,_,_,_,_,_,_,_,_,_,_,_,_,_,_,_,_,_,_,_,_,_,_,_,_,_,_,_,_] _
    refine hk _ _ ⟨v56,v58,O,?_,hs.cast ?_⟩<;>simp only [oT,lq,cq,Nat.reduceBEq,q6_,q7_,q8_,q9_,q10_,q11_]
   ·
    rintro D t w hD hp hcl ⟨v56,v58,O,ht,hs⟩ rest hk
    have q6_:=nz hcl 6 1 hD
    have q7_:=nz hcl 7 0 q6_
    have q8_:=nz hcl 8 0 q7_
    have q9_:=nz hcl 9 1 q8_
    have q10_:=nz hcl 10 6 hD
    have q11_:=nz hcl 11 0 q10_
    simp only [hD,q6_,q7_,q8_,q9_,q10_,q11_,cq,oT] at ht hs
    subst ht
    refine Qab (v:=int .i64 x54) rfl rfl rfl ?_
    show G _ _ _ _ [_,_,_,_,_,_,_,_,_,_,_,_,_,_,_,_,_,_,_,_,_,_,_,_,_,_,_,_,_,_,_,_,_,_,_,_,_] _
    refine hk _ _ ⟨v56,v58,O,?_,hs.cast ?_⟩<;>simp only [oT,lq,cq,Nat.reduceBEq,q6_,q7_,q8_,q9_,q10_,q11_]
   ·
    rintro D t w hD hp hcl ⟨v56,v58,O,ht,hs⟩ rest hk
    obtain ⟨p4_,p5_,_⟩:=hp
    have q7_:=nz hcl 7 0 hD
    have q8_:=nz hcl 8 0 q7_
    have q9_:=nz hcl 9 1 q8_
    have q10_:=nz hcl 10 7 hD
    have q11_:=nz hcl 11 0 q10_
    simp only [hD,p4_,p5_,q7_,q8_,q9_,q10_,q11_,cq,oT] at ht hs
    subst ht
    refine QcI (κ:=Qah) (m:=2) rfl (hs.rd hr1) rfl (fun _=>rfl) gd15.1 gd15.2 had16_ rfl rfl rfl rfl rfl ?_
    show G _ _ _ _ [_,_,_,_,_,_,_,_,_,_,_,_,_,_,_,_,_,_,_,_,_,_,_,_,_,_,_,_,_,_,_,_,_,_,_,_,_] _
    refine hk _ _ ⟨v56,v58,O,?_,hs.cast ?_⟩<;>simp only [oT,lq,cq,Nat.reduceBEq,p4_,p5_,q7_,q8_,q9_,q10_,q11_]
   ·
    rintro D t w hD hp hcl ⟨v56,v58,O,ht,hs⟩ rest hk
    obtain ⟨p6_,_⟩:=hp
    obtain ⟨p4_,p5_,_⟩:=(hcl.get 6 (by decide)) p6_
    have q8_:=nz hcl 8 0 hD
    have q9_:=nz hcl 9 1 q8_
    have q10_:=nz hcl 10 8 hD
    have q11_:=nz hcl 11 0 q10_
    simp only [hD,p4_,p5_,p6_,q8_,q9_,q10_,q11_,cq,oT] at ht hs
    subst ht
    refine QaG rfl rfl (es:=(Qau (rdL a2 x54 Qay))) rfl rfl (fun _=>rfl) (n:=2) (fun _=>rfl) (QaL.len _) (cellsAt_of QaL Qay (hs.rd hr1) had16_ gd15.1 gd15.2) ?_
    show G _ _ _ _ [_,_,_,_,_,_,_,_,_,_,_,_,_,_,_,_,_,_,_,_,_,_,_,_,_,_,_,_,_,_,_,_,_,_,_,_,_] _
    refine hk _ _ ⟨v56,v58,O,?_,hs.cast ?_⟩<;>simp only [oT,lq,cq,Nat.reduceBEq,p4_,p5_,p6_,q8_,q9_,q10_,q11_]
   ·
    rintro D t w hD hp hcl ⟨v56,v58,O,ht,hs⟩ rest hk
    obtain ⟨p7_,_⟩:=hp
    obtain ⟨p6_,_⟩:=(hcl.get 7 (by decide)) p7_
    obtain ⟨p4_,p5_,_⟩:=(hcl.get 6 (by decide)) p6_
    have q9_:=nz hcl 9 1 hD
    have q10_:=nz hcl 10 9 hD
    have q11_:=nz hcl 11 0 q10_
    simp only [hD,p4_,p5_,p6_,p7_,q9_,q10_,q11_,cq,oT] at ht hs
    subst ht
    refine Qcx QaL (y:=rdL a2 x54 Qay) hs rfl rfl rfl rfl (fun _=>rfl) (zv:=(agg #[int .i8 0,bool false])) (fun _=>rfl) rfl (by decide) (by decide) rfl ?_
    intro v56 w hs
    show G _ _ _ _ [_,_,_,_,_,_,_,_,_,_,_,_,_,_,_,_,_,_,_,_,_,_,_,_,_,_,_,_,_,_,_,_,_,_,_,_,_] _
    have hs:=hs.fill 0 rfl
    refine hk _ _ ⟨v56,v58,O,?_,hs.cast ?_⟩<;>simp only [oT,lq,cq,Nat.reduceBEq,p4_,p5_,p6_,p7_,q9_,q10_,q11_]
   ·
    rintro D t w hD hp hcl ⟨v56,v58,O,ht,hs⟩ rest hk
    obtain ⟨p3_,p8_,_⟩:=hp
    obtain ⟨p7_,_⟩:=(hcl.get 8 (by decide)) p8_
    obtain ⟨p6_,_⟩:=(hcl.get 7 (by decide)) p7_
    obtain ⟨p4_,p5_,_⟩:=(hcl.get 6 (by decide)) p6_
    obtain ⟨p2_,_⟩:=(hcl.get 3 (by decide)) p3_
    obtain ⟨p1_,_⟩:=(hcl.get 2 (by decide)) p2_
    have q10_:=nz hcl 10 10 hD
    have q11_:=nz hcl 11 0 q10_
    simp only [hD,p1_,p2_,p3_,p4_,p5_,p6_,p7_,p8_,q10_,q11_,cq,oT] at ht hs
    subst ht
    have hs:St _ [_,_,_,_,_,_,_] _:=hs.pull 3 rfl
    refine Qcf QaL (zv:=(agg #[int .i8 0,bool false])) (B:=2) hs (hs.row 1 rfl) rfl rfl rfl rfl rfl rfl rfl rfl rfl (by decide) rfl rfl (by decide) (by have:=gq9_;omega) ?_
    intro v58 w hs
    show G _ _ _ _ [_,_,_,_,_,_,_,_,_,_,_,_,_,_,_,_,_,_,_,_,_,_,_,_,_,_,_,_,_,_,_,_,_,_,_,_,_] _
    have hs:=hs.push 3 (by simp)
    refine hk _ _ ⟨v56,v58,O,?_,hs.cast ?_⟩<;>simp only [oT,lq,cq,Nat.reduceBEq,p1_,p2_,p3_,p4_,p5_,p6_,p7_,p8_,q10_,q11_]
   ·
    rintro D t w hD hp hcl ⟨v56,v58,O,ht,hs⟩ rest hk
    obtain ⟨p0_,_,p1_,p2_,p3_,p4_,p5_,p6_,p7_,p8_,p9_,_⟩:=hp
    have q11_:=nz hcl 11 0 hD
    simp only [hD,p0_,p1_,p2_,p3_,p4_,p5_,p6_,p7_,p8_,p9_,q11_,cq,oT] at ht hs
    subst ht
    refine QbR (m:=1) 0 hk14_ (by decide) rfl (fun _=>rfl) rfl rfl rfl rfl rfl ?_
    show G _ _ _ _ [_,_,_,_,_,_,_,_,_,_,_,_,_,_,_,_,_,_,_,_,_,_,_,_,_,_,_,_,_,_,_,_,_,_,_,_,_] _
    refine hk _ _ ⟨v56,v58,O,?_,hs.cast ?_⟩<;>simp only [oT,lq,cq,Nat.reduceBEq,p0_,p1_,p2_,p3_,p4_,p5_,p6_,p7_,p8_,p9_,q11_]
   ·
    rintro D t w hD hp hcl ⟨v56,v58,O,ht,hs⟩ rest hk
    obtain ⟨p10_,p9_,_,p0_,p1_,p2_,p3_,p4_,p5_,p6_,p7_,p8_,_,_⟩:=hp
    simp only [hD,p0_,p1_,p2_,p3_,p4_,p5_,p6_,p7_,p8_,p9_,p10_,cq,oT] at ht hs
    subst ht
    have hs:St _ [_,_,_,_,_,_,_] _:=hs.pull 6 rfl
    refine Qb8 hs rfl rfl (vs:=[v58]) (cs':=(([v58,v49,v52]:List Value))) rfl rfl (slCells (hs.row 4 rfl)) (n:=1) (fun _=>rfl) rfl (by first|exact Nat.le_of_ble_eq_true rfl|simp [encAI_len,encAB_len,encA_len]) (by intro v hv;simp only [List.mem_cons,List.not_mem_nil,or_false] at hv;subst hv;exact slOne (hs.row 4 rfl)) rfl ?_
    intro w hs
    show G _ _ _ _ [_,_,_,_,_,_,_,_,_,_,_,_,_,_,_,_,_,_,_,_,_,_,_,_,_,_,_,_,_,_,_,_,_,_,_,_,_] _
    have hs:=hs.push 6 (by simp)
    refine hk _ _ ⟨v56,v58,O,?_,hs.cast ?_⟩<;>simp only [oT,lq,cq,Nat.reduceBEq,p0_,p1_,p2_,p3_,p4_,p5_,p6_,p7_,p8_,p9_,p10_]
   intro D t w hall hI
   obtain ⟨v56,v58,O,ht,hs⟩:=hI
   have p0_:=hall 0 (by decide)
   have p1_:=hall 1 (by decide)
   have p2_:=hall 2 (by decide)
   have p3_:=hall 3 (by decide)
   have p4_:=hall 4 (by decide)
   have p5_:=hall 5 (by decide)
   have p6_:=hall 6 (by decide)
   have p7_:=hall 7 (by decide)
   have p8_:=hall 8 (by decide)
   have p9_:=hall 9 (by decide)
   have p10_:=hall 10 (by decide)
   have p11_:=hall 11 (by decide)
   simp only [p0_,p1_,p2_,p3_,p4_,p5_,p6_,p7_,p8_,p9_,p10_,p11_,cq,oT] at ht hs
   subst ht
   refine Qa5 ?_
   have hs:=hs.pull 5 rfl
   have hs:=hs.pull 5 rfl
   have hs:=hs.pull 5 rfl
   have hs:=hs.pull 6 rfl
   have hs:=hs.pull 6 rfl
   have hs:=hs.pull 6 rfl
   have hs:St _ [_,_,_,_,_,_] _:=St.take (Γ':=[_]) hs
   exact ha _ _ ⟨v58,x47++([rdL a2 x54 Qay]),v49,x50,v52,x53,H,rfl,hs⟩
  rw [if_neg hk14_] at H
  by_cases hk17_:i64w (r55+1)=1
  ·
   rw [if_pos hk17_] at H
   obtain ⟨gd18,H⟩:=ite_get H
   obtain ⟨ad19_,ad19_N,ad19_C,had19_⟩:=sl_at (hs.rd hr1) gd18.1 gd18.2
   obtain ⟨gq9_,H⟩:=ite_get H
   refine QbT ?_
   intro T hT
   refine Qcg (n:=12) rfl [0,1,2,3,4,5,6,7,8,9,10,11] [0,1,2,3,4,5,6,7,8,9,10,11] rfl rfl (Inv:=fun D t w=>∃ v62:Value,∃ v64:Value,∃ O:Nat→Value,t=[O 0,v3,pointer (some ⟨b4,0,none⟩),O 3,pointer (some ⟨b6,0,none⟩),pointer (some ⟨b14,0,none⟩),int .i64 x54,int .i64 (i64w (r55+1)),O 8,O 9,O 10,O 11,int .i64 x54,v3,int .i64 (a2.length:Int),bool true,O 16,O 17,agg ((encA (encI .i8)) a1).toArray,v3,int .i64 x54,pointer (some (ad13_.add (x54.toNat*2))),agg (Qau (rdL a2 x54 Qay)).toArray,int .i64 r55,int .i64 (i64w (r55+1)),cnd (D 0) (int .i64 (i64w (r55+1))) (O 25),cnd (D 1) (int .i64 (i64w (r55+1))) (O 26),cnd (D 2) (pointer (some ⟨b14,0+1*1,none⟩)) (O 27),cnd (D 3) v49 (O 28),cnd (D 4) v3 (O 29),cnd (D 5) (int .i64 x54) (O 30),cnd (D 6) (pointer (some (ad19_.add (x54.toNat*2)))) (O 31),cnd (D 7) (agg (Qau (rdL a2 x54 Qay)).toArray) (O 32),cnd (D 8) v62 (O 33),cnd (D 9) v64 (O 34),cnd (D 10) (pointer (some ⟨b14,0+1*1,none⟩)) (O 35),O 36]∧St w0 [Asc (D 8) (Row 53 Qah v62 ([rdL a2 x54 Qay])),Cells b4 ((encA (encI .i8)) a1) 37,Cells b6 (([slice none 0 0,slice none 0 0,slice none 0 0]:List Value)) 42,Row 53 Qah v46 x47,Row 53 Qah (cnd (D 9) v64 v49) (cnd (D 9) (x50++([rdL a2 x54 Qay])) x50),Row 53 Qah v52 x53,Cells b14 (cnd (D 11) (([v46,v64,v52]:List Value)) (([v46,v49,v52]:List Value))) 42] w) ?_ ⟨⟨⟨⟨⟨⟨⟨⟨⟨⟨⟨⟨trivial,?_⟩,?_⟩,?_⟩,?_⟩,?_⟩,?_⟩,?_⟩,?_⟩,?_⟩,?_⟩,?_⟩,?_⟩ ?_
   ·
    intro w hh hbw
    have hs:=hs.samew hh hbw
    have hs:=hs.emp
    exact ⟨undef,undef,fun i=>T.getD i undef,(by subst hT;rfl),hs⟩
   ·
    rintro D t w hD hp hcl ⟨v62,v64,O,ht,hs⟩ rest hk
    have q10_:=nz hcl 10 0 hD
    have q11_:=nz hcl 11 0 q10_
    simp only [hD,q10_,q11_,cq,oT] at ht hs
    subst ht
    refine Qab (v:=int .i64 (i64w (r55+1))) rfl rfl rfl ?_
    show G _ _ _ _ [_,_,_,_,_,_,_,_,_,_,_,_,_,_,_,_,_,_,_,_,_,_,_,_,_,_,_,_,_,_,_,_,_,_,_,_,_] _
    refine hk _ _ ⟨v62,v64,O,?_,hs.cast ?_⟩<;>simp only [oT,lq,cq,Nat.reduceBEq,q10_,q11_]
   ·
    rintro D t w hD hp hcl ⟨v62,v64,O,ht,hs⟩ rest hk
    have q2_:=nz hcl 2 0 hD
    have q3_:=nz hcl 3 0 q2_
    have q9_:=nz hcl 9 0 q3_
    have q10_:=nz hcl 10 2 hD
    have q11_:=nz hcl 11 0 q10_
    simp only [hD,q2_,q3_,q9_,q10_,q11_,cq,oT] at ht hs
    subst ht
    refine Qab (v:=int .i64 (i64w (r55+1))) rfl rfl rfl ?_
    show G _ _ _ _ [_,_,_,_,_,_,_,_,_,_,_,_,_,_,_,_,_,_,_,_,_,_,_,_,_,_,_,_,_,_,_,_,_,_,_,_,_] _
    refine hk _ _ ⟨v62,v64,O,?_,hs.cast ?_⟩<;>simp only [oT,lq,cq,Nat.reduceBEq,q2_,q3_,q9_,q10_,q11_]
   ·
    rintro D t w hD hp hcl ⟨v62,v64,O,ht,hs⟩ rest hk
    obtain ⟨p1_,_⟩:=hp
    have q3_:=nz hcl 3 0 hD
    have q9_:=nz hcl 9 0 q3_
    have q10_:=nz hcl 10 3 hD
    have q11_:=nz hcl 11 0 q10_
    simp only [hD,p1_,q3_,q9_,q10_,q11_,cq,oT] at ht hs
    subst ht
    refine QbR (m:=1) 1 hk17_ (by decide) rfl (fun _=>rfl) rfl rfl rfl rfl rfl ?_
    show G _ _ _ _ [_,_,_,_,_,_,_,_,_,_,_,_,_,_,_,_,_,_,_,_,_,_,_,_,_,_,_,_,_,_,_,_,_,_,_,_,_] _
    refine hk _ _ ⟨v62,v64,O,?_,hs.cast ?_⟩<;>simp only [oT,lq,cq,Nat.reduceBEq,p1_,q3_,q9_,q10_,q11_]
   ·
    rintro D t w hD hp hcl ⟨v62,v64,O,ht,hs⟩ rest hk
    obtain ⟨p2_,_⟩:=hp
    obtain ⟨p1_,_⟩:=(hcl.get 2 (by decide)) p2_
    have q9_:=nz hcl 9 0 hD
    have q10_:=nz hcl 10 4 hD
    have q11_:=nz hcl 11 0 q10_
    simp only [hD,p1_,p2_,q9_,q10_,q11_,cq,oT] at ht hs
    subst ht
    refine Qaz rfl rfl (v:=v49) rfl rfl (fun _=>rfl) (cells_load (hs.cells 6 rfl) 1 1 rfl) ?_
    show G _ _ _ _ [_,_,_,_,_,_,_,_,_,_,_,_,_,_,_,_,_,_,_,_,_,_,_,_,_,_,_,_,_,_,_,_,_,_,_,_,_] _
    refine hk _ _ ⟨v62,v64,O,?_,hs.cast ?_⟩<;>simp only [oT,lq,cq,Nat.reduceBEq,p1_,p2_,q9_,q10_,q11_]
   ·
    rintro D t w hD hp hcl ⟨v62,v64,O,ht,hs⟩ rest hk
    have q6_:=nz hcl 6 0 hD
    have q7_:=nz hcl 7 0 q6_
    have q8_:=nz hcl 8 0 q7_
    have q9_:=nz hcl 9 1 q8_
    have q10_:=nz hcl 10 5 hD
    have q11_:=nz hcl 11 0 q10_
    simp only [hD,q6_,q7_,q8_,q9_,q10_,q11_,cq,oT] at ht hs
    subst ht
    refine Qab (v:=v3) rfl rfl rfl ?_
    show G _ _ _ _ [_,_,_,_,_,_,_,_,_,_,_,_,_,_,_,_,_,_,_,_,_,_,_,_,_,_,_,_,_,_,_,_,_,_,_,_,_] _
    refine hk _ _ ⟨v62,v64,O,?_,hs.cast ?_⟩<;>simp only [oT,lq,cq,Nat.reduceBEq,q6_,q7_,q8_,q9_,q10_,q11_]
   ·
    rintro D t w hD hp hcl ⟨v62,v64,O,ht,hs⟩ rest hk
    have q6_:=nz hcl 6 1 hD
    have q7_:=nz hcl 7 0 q6_
    have q8_:=nz hcl 8 0 q7_
    have q9_:=nz hcl 9 1 q8_
    have q10_:=nz hcl 10 6 hD
    have q11_:=nz hcl 11 0 q10_
    simp only [hD,q6_,q7_,q8_,q9_,q10_,q11_,cq,oT] at ht hs
    subst ht
    refine Qab (v:=int .i64 x54) rfl rfl rfl ?_
    show G _ _ _ _ [_,_,_,_,_,_,_,_,_,_,_,_,_,_,_,_,_,_,_,_,_,_,_,_,_,_,_,_,_,_,_,_,_,_,_,_,_] _
    refine hk _ _ ⟨v62,v64,O,?_,hs.cast ?_⟩<;>simp only [oT,lq,cq,Nat.reduceBEq,q6_,q7_,q8_,q9_,q10_,q11_]
   ·
    rintro D t w hD hp hcl ⟨v62,v64,O,ht,hs⟩ rest hk
    obtain ⟨p4_,p5_,_⟩:=hp
    have q7_:=nz hcl 7 0 hD
    have q8_:=nz hcl 8 0 q7_
    have q9_:=nz hcl 9 1 q8_
    have q10_:=nz hcl 10 7 hD
    have q11_:=nz hcl 11 0 q10_
    simp only [hD,p4_,p5_,q7_,q8_,q9_,q10_,q11_,cq,oT] at ht hs
    subst ht
    refine QcI (κ:=Qah) (m:=2) rfl (hs.rd hr1) rfl (fun _=>rfl) gd18.1 gd18.2 had19_ rfl rfl rfl rfl rfl ?_
    show G _ _ _ _ [_,_,_,_,_,_,_,_,_,_,_,_,_,_,_,_,_,_,_,_,_,_,_,_,_,_,_,_,_,_,_,_,_,_,_,_,_] _
    refine hk _ _ ⟨v62,v64,O,?_,hs.cast ?_⟩<;>simp only [oT,lq,cq,Nat.reduceBEq,p4_,p5_,q7_,q8_,q9_,q10_,q11_]
   ·
    rintro D t w hD hp hcl ⟨v62,v64,O,ht,hs⟩ rest hk
    obtain ⟨p6_,_⟩:=hp
    obtain ⟨p4_,p5_,_⟩:=(hcl.get 6 (by decide)) p6_
    have q8_:=nz hcl 8 0 hD
    have q9_:=nz hcl 9 1 q8_
    have q10_:=nz hcl 10 8 hD
    have q11_:=nz hcl 11 0 q10_
    simp only [hD,p4_,p5_,p6_,q8_,q9_,q10_,q11_,cq,oT] at ht hs
    subst ht
    refine QaG rfl rfl (es:=(Qau (rdL a2 x54 Qay))) rfl rfl (fun _=>rfl) (n:=2) (fun _=>rfl) (QaL.len _) (cellsAt_of QaL Qay (hs.rd hr1) had19_ gd18.1 gd18.2) ?_
    show G _ _ _ _ [_,_,_,_,_,_,_,_,_,_,_,_,_,_,_,_,_,_,_,_,_,_,_,_,_,_,_,_,_,_,_,_,_,_,_,_,_] _
    refine hk _ _ ⟨v62,v64,O,?_,hs.cast ?_⟩<;>simp only [oT,lq,cq,Nat.reduceBEq,p4_,p5_,p6_,q8_,q9_,q10_,q11_]
   ·
    rintro D t w hD hp hcl ⟨v62,v64,O,ht,hs⟩ rest hk
    obtain ⟨p7_,_⟩:=hp
    obtain ⟨p6_,_⟩:=(hcl.get 7 (by decide)) p7_
    obtain ⟨p4_,p5_,_⟩:=(hcl.get 6 (by decide)) p6_
    have q9_:=nz hcl 9 1 hD
    have q10_:=nz hcl 10 9 hD
    have q11_:=nz hcl 11 0 q10_
    simp only [hD,p4_,p5_,p6_,p7_,q9_,q10_,q11_,cq,oT] at ht hs
    subst ht
    refine Qcx QaL (y:=rdL a2 x54 Qay) hs rfl rfl rfl rfl (fun _=>rfl) (zv:=(agg #[int .i8 0,bool false])) (fun _=>rfl) rfl (by decide) (by decide) rfl ?_
    intro v62 w hs
    show G _ _ _ _ [_,_,_,_,_,_,_,_,_,_,_,_,_,_,_,_,_,_,_,_,_,_,_,_,_,_,_,_,_,_,_,_,_,_,_,_,_] _
    have hs:=hs.fill 0 rfl
    refine hk _ _ ⟨v62,v64,O,?_,hs.cast ?_⟩<;>simp only [oT,lq,cq,Nat.reduceBEq,p4_,p5_,p6_,p7_,q9_,q10_,q11_]
   ·
    rintro D t w hD hp hcl ⟨v62,v64,O,ht,hs⟩ rest hk
    obtain ⟨p3_,p8_,_⟩:=hp
    obtain ⟨p7_,_⟩:=(hcl.get 8 (by decide)) p8_
    obtain ⟨p6_,_⟩:=(hcl.get 7 (by decide)) p7_
    obtain ⟨p4_,p5_,_⟩:=(hcl.get 6 (by decide)) p6_
    obtain ⟨p2_,_⟩:=(hcl.get 3 (by decide)) p3_
    obtain ⟨p1_,_⟩:=(hcl.get 2 (by decide)) p2_
    have q10_:=nz hcl 10 10 hD
    have q11_:=nz hcl 11 0 q10_
    simp only [hD,p1_,p2_,p3_,p4_,p5_,p6_,p7_,p8_,q10_,q11_,cq,oT] at ht hs
    subst ht
    have hs:St _ [_,_,_,_,_,_,_] _:=hs.pull 4 rfl
    refine Qcf QaL (zv:=(agg #[int .i8 0,bool false])) (B:=2) hs (hs.row 1 rfl) rfl rfl rfl rfl rfl rfl rfl rfl rfl (by decide) rfl rfl (by decide) (by have:=gq9_;omega) ?_
    intro v64 w hs
    show G _ _ _ _ [_,_,_,_,_,_,_,_,_,_,_,_,_,_,_,_,_,_,_,_,_,_,_,_,_,_,_,_,_,_,_,_,_,_,_,_,_] _
    have hs:=hs.push 4 (by simp)
    refine hk _ _ ⟨v62,v64,O,?_,hs.cast ?_⟩<;>simp only [oT,lq,cq,Nat.reduceBEq,p1_,p2_,p3_,p4_,p5_,p6_,p7_,p8_,q10_,q11_]
   ·
    rintro D t w hD hp hcl ⟨v62,v64,O,ht,hs⟩ rest hk
    obtain ⟨p0_,_,p1_,p2_,p3_,p4_,p5_,p6_,p7_,p8_,p9_,_⟩:=hp
    have q11_:=nz hcl 11 0 hD
    simp only [hD,p0_,p1_,p2_,p3_,p4_,p5_,p6_,p7_,p8_,p9_,q11_,cq,oT] at ht hs
    subst ht
    refine QbR (m:=1) 1 hk17_ (by decide) rfl (fun _=>rfl) rfl rfl rfl rfl rfl ?_
    show G _ _ _ _ [_,_,_,_,_,_,_,_,_,_,_,_,_,_,_,_,_,_,_,_,_,_,_,_,_,_,_,_,_,_,_,_,_,_,_,_,_] _
    refine hk _ _ ⟨v62,v64,O,?_,hs.cast ?_⟩<;>simp only [oT,lq,cq,Nat.reduceBEq,p0_,p1_,p2_,p3_,p4_,p5_,p6_,p7_,p8_,p9_,q11_]
   ·
    rintro D t w hD hp hcl ⟨v62,v64,O,ht,hs⟩ rest hk
    obtain ⟨p10_,p9_,_,p0_,p1_,p2_,p3_,p4_,p5_,p6_,p7_,p8_,_,_⟩:=hp
    simp only [hD,p0_,p1_,p2_,p3_,p4_,p5_,p6_,p7_,p8_,p9_,p10_,cq,oT] at ht hs
    subst ht
    have hs:St _ [_,_,_,_,_,_,_] _:=hs.pull 6 rfl
    refine Qb8 hs rfl rfl (vs:=[v64]) (cs':=(([v46,v64,v52]:List Value))) rfl rfl (slCells (hs.row 5 rfl)) (n:=1) (fun _=>rfl) rfl (by first|exact Nat.le_of_ble_eq_true rfl|simp [encAI_len,encAB_len,encA_len]) (by intro v hv;simp only [List.mem_cons,List.not_mem_nil,or_false] at hv;subst hv;exact slOne (hs.row 5 rfl)) rfl ?_
    intro w hs
    show G _ _ _ _ [_,_,_,_,_,_,_,_,_,_,_,_,_,_,_,_,_,_,_,_,_,_,_,_,_,_,_,_,_,_,_,_,_,_,_,_,_] _
    have hs:=hs.push 6 (by simp)
    refine hk _ _ ⟨v62,v64,O,?_,hs.cast ?_⟩<;>simp only [oT,lq,cq,Nat.reduceBEq,p0_,p1_,p2_,p3_,p4_,p5_,p6_,p7_,p8_,p9_,p10_]
   intro D t w hall hI
   obtain ⟨v62,v64,O,ht,hs⟩:=hI
   have p0_:=hall 0 (by decide)
   have p1_:=hall 1 (by decide)
   have p2_:=hall 2 (by decide)
   have p3_:=hall 3 (by decide)
   have p4_:=hall 4 (by decide)
   have p5_:=hall 5 (by decide)
   have p6_:=hall 6 (by decide)
   have p7_:=hall 7 (by decide)
   have p8_:=hall 8 (by decide)
   have p9_:=hall 9 (by decide)
   have p10_:=hall 10 (by decide)
   have p11_:=hall 11 (by decide)
   simp only [p0_,p1_,p2_,p3_,p4_,p5_,p6_,p7_,p8_,p9_,p10_,p11_,cq,oT] at ht hs
   subst ht
   refine Qa5 ?_
   have hs:=hs.pull 5 rfl
   have hs:=hs.pull 5 rfl
   have hs:=hs.pull 5 rfl
   have hs:=hs.pull 6 rfl
   have hs:=hs.pull 6 rfl
   have hs:=hs.pull 6 rfl
   have hs:St _ [_,_,_,_,_,_] _:=St.take (Γ':=[_]) hs
   exact ha _ _ ⟨v46,x47,v64,x50++([rdL a2 x54 Qay]),v52,x53,H,rfl,hs⟩
  rw [if_neg hk17_] at H
  by_cases hk20_:i64w (r55+1)=2
  ·
   rw [if_pos hk20_] at H
   obtain ⟨gd21,H⟩:=ite_get H
   obtain ⟨ad22_,ad22_N,ad22_C,had22_⟩:=sl_at (hs.rd hr1) gd21.1 gd21.2
   obtain ⟨gq9_,H⟩:=ite_get H
   refine QbT ?_
   intro T hT
   refine Qcg (n:=12) rfl [0,1,2,3,4,5,6,7,8,9,10,11] [0,1,2,3,4,5,6,7,8,9,10,11] rfl rfl (Inv:=fun D t w=>∃ v68:Value,∃ v70:Value,∃ O:Nat→Value,t=[O 0,v3,pointer (some ⟨b4,0,none⟩),O 3,pointer (some ⟨b6,0,none⟩),pointer (some ⟨b14,0,none⟩),int .i64 x54,int .i64 (i64w (r55+1)),O 8,O 9,O 10,O 11,int .i64 x54,v3,int .i64 (a2.length:Int),bool true,O 16,O 17,agg ((encA (encI .i8)) a1).toArray,v3,int .i64 x54,pointer (some (ad13_.add (x54.toNat*2))),agg (Qau (rdL a2 x54 Qay)).toArray,int .i64 r55,int .i64 (i64w (r55+1)),cnd (D 0) (int .i64 (i64w (r55+1))) (O 25),cnd (D 1) (int .i64 (i64w (r55+1))) (O 26),cnd (D 2) (pointer (some ⟨b14,0+2*1,none⟩)) (O 27),cnd (D 3) v52 (O 28),cnd (D 4) v3 (O 29),cnd (D 5) (int .i64 x54) (O 30),cnd (D 6) (pointer (some (ad22_.add (x54.toNat*2)))) (O 31),cnd (D 7) (agg (Qau (rdL a2 x54 Qay)).toArray) (O 32),cnd (D 8) v68 (O 33),cnd (D 9) v70 (O 34),cnd (D 10) (pointer (some ⟨b14,0+2*1,none⟩)) (O 35),O 36]∧St w0 [Asc (D 8) (Row 53 Qah v68 ([rdL a2 x54 Qay])),Cells b4 ((encA (encI .i8)) a1) 37,Cells b6 (([slice none 0 0,slice none 0 0,slice none 0 0]:List Value)) 42,Row 53 Qah v46 x47,Row 53 Qah v49 x50,Row 53 Qah (cnd (D 9) v70 v52) (cnd (D 9) (x53++([rdL a2 x54 Qay])) x53),Cells b14 (cnd (D 11) (([v46,v49,v70]:List Value)) (([v46,v49,v52]:List Value))) 42] w) ?_ ⟨⟨⟨⟨⟨⟨⟨⟨⟨⟨⟨⟨trivial,?_⟩,?_⟩,?_⟩,?_⟩,?_⟩,?_⟩,?_⟩,?_⟩,?_⟩,?_⟩,?_⟩,?_⟩ ?_
   ·
    intro w hh hbw
    have hs:=hs.samew hh hbw
    have hs:=hs.emp
    exact ⟨undef,undef,fun i=>T.getD i undef,(by subst hT;rfl),hs⟩
   ·
    rintro D t w hD hp hcl ⟨v68,v70,O,ht,hs⟩ rest hk
    have q10_:=nz hcl 10 0 hD
    have q11_:=nz hcl 11 0 q10_
    simp only [hD,q10_,q11_,cq,oT] at ht hs
    subst ht
    refine Qab (v:=int .i64 (i64w (r55+1))) rfl rfl rfl ?_
    show G _ _ _ _ [_,_,_,_,_,_,_,_,_,_,_,_,_,_,_,_,_,_,_,_,_,_,_,_,_,_,_,_,_,_,_,_,_,_,_,_,_] _
    refine hk _ _ ⟨v68,v70,O,?_,hs.cast ?_⟩<;>simp only [oT,lq,cq,Nat.reduceBEq,q10_,q11_]
   ·
    rintro D t w hD hp hcl ⟨v68,v70,O,ht,hs⟩ rest hk
    have q2_:=nz hcl 2 0 hD
    have q3_:=nz hcl 3 0 q2_
    have q9_:=nz hcl 9 0 q3_
    have q10_:=nz hcl 10 2 hD
    have q11_:=nz hcl 11 0 q10_
    simp only [hD,q2_,q3_,q9_,q10_,q11_,cq,oT] at ht hs
    subst ht
    refine Qab (v:=int .i64 (i64w (r55+1))) rfl rfl rfl ?_
    show G _ _ _ _ [_,_,_,_,_,_,_,_,_,_,_,_,_,_,_,_,_,_,_,_,_,_,_,_,_,_,_,_,_,_,_,_,_,_,_,_,_] _
    refine hk _ _ ⟨v68,v70,O,?_,hs.cast ?_⟩<;>simp only [oT,lq,cq,Nat.reduceBEq,q2_,q3_,q9_,q10_,q11_]
   ·
    rintro D t w hD hp hcl ⟨v68,v70,O,ht,hs⟩ rest hk
    obtain ⟨p1_,_⟩:=hp
    have q3_:=nz hcl 3 0 hD
    have q9_:=nz hcl 9 0 q3_
    have q10_:=nz hcl 10 3 hD
    have q11_:=nz hcl 11 0 q10_
    simp only [hD,p1_,q3_,q9_,q10_,q11_,cq,oT] at ht hs
    subst ht
    refine QbR (m:=1) 2 hk20_ (by decide) rfl (fun _=>rfl) rfl rfl rfl rfl rfl ?_
    show G _ _ _ _ [_,_,_,_,_,_,_,_,_,_,_,_,_,_,_,_,_,_,_,_,_,_,_,_,_,_,_,_,_,_,_,_,_,_,_,_,_] _
    refine hk _ _ ⟨v68,v70,O,?_,hs.cast ?_⟩<;>simp only [oT,lq,cq,Nat.reduceBEq,p1_,q3_,q9_,q10_,q11_]
   ·
    rintro D t w hD hp hcl ⟨v68,v70,O,ht,hs⟩ rest hk
    obtain ⟨p2_,_⟩:=hp
    obtain ⟨p1_,_⟩:=(hcl.get 2 (by decide)) p2_
    have q9_:=nz hcl 9 0 hD
    have q10_:=nz hcl 10 4 hD
    have q11_:=nz hcl 11 0 q10_
    simp only [hD,p1_,p2_,q9_,q10_,q11_,cq,oT] at ht hs
    subst ht
    refine Qaz rfl rfl (v:=v52) rfl rfl (fun _=>rfl) (cells_load (hs.cells 6 rfl) 2 1 rfl) ?_
    show G _ _ _ _ [_,_,_,_,_,_,_,_,_,_,_,_,_,_,_,_,_,_,_,_,_,_,_,_,_,_,_,_,_,_,_,_,_,_,_,_,_] _
    refine hk _ _ ⟨v68,v70,O,?_,hs.cast ?_⟩<;>simp only [oT,lq,cq,Nat.reduceBEq,p1_,p2_,q9_,q10_,q11_]
   ·
    rintro D t w hD hp hcl ⟨v68,v70,O,ht,hs⟩ rest hk
    have q6_:=nz hcl 6 0 hD
    have q7_:=nz hcl 7 0 q6_
    have q8_:=nz hcl 8 0 q7_
    have q9_:=nz hcl 9 1 q8_
    have q10_:=nz hcl 10 5 hD
    have q11_:=nz hcl 11 0 q10_
    simp only [hD,q6_,q7_,q8_,q9_,q10_,q11_,cq,oT] at ht hs
    subst ht
    refine Qab (v:=v3) rfl rfl rfl ?_
    show G _ _ _ _ [_,_,_,_,_,_,_,_,_,_,_,_,_,_,_,_,_,_,_,_,_,_,_,_,_,_,_,_,_,_,_,_,_,_,_,_,_] _
    refine hk _ _ ⟨v68,v70,O,?_,hs.cast ?_⟩<;>simp only [oT,lq,cq,Nat.reduceBEq,q6_,q7_,q8_,q9_,q10_,q11_]
   ·
    rintro D t w hD hp hcl ⟨v68,v70,O,ht,hs⟩ rest hk
    have q6_:=nz hcl 6 1 hD
    have q7_:=nz hcl 7 0 q6_
    have q8_:=nz hcl 8 0 q7_
    have q9_:=nz hcl 9 1 q8_
    have q10_:=nz hcl 10 6 hD
    have q11_:=nz hcl 11 0 q10_
    simp only [hD,q6_,q7_,q8_,q9_,q10_,q11_,cq,oT] at ht hs
    subst ht
    refine Qab (v:=int .i64 x54) rfl rfl rfl ?_
    show G _ _ _ _ [_,_,_,_,_,_,_,_,_,_,_,_,_,_,_,_,_,_,_,_,_,_,_,_,_,_,_,_,_,_,_,_,_,_,_,_,_] _
    refine hk _ _ ⟨v68,v70,O,?_,hs.cast ?_⟩<;>simp only [oT,lq,cq,Nat.reduceBEq,q6_,q7_,q8_,q9_,q10_,q11_]
   ·
    rintro D t w hD hp hcl ⟨v68,v70,O,ht,hs⟩ rest hk
    obtain ⟨p4_,p5_,_⟩:=hp
    have q7_:=nz hcl 7 0 hD
    have q8_:=nz hcl 8 0 q7_
    have q9_:=nz hcl 9 1 q8_
    have q10_:=nz hcl 10 7 hD
    have q11_:=nz hcl 11 0 q10_
    simp only [hD,p4_,p5_,q7_,q8_,q9_,q10_,q11_,cq,oT] at ht hs
    subst ht
    refine QcI (κ:=Qah) (m:=2) rfl (hs.rd hr1) rfl (fun _=>rfl) gd21.1 gd21.2 had22_ rfl rfl rfl rfl rfl ?_
    show G _ _ _ _ [_,_,_,_,_,_,_,_,_,_,_,_,_,_,_,_,_,_,_,_,_,_,_,_,_,_,_,_,_,_,_,_,_,_,_,_,_] _
    refine hk _ _ ⟨v68,v70,O,?_,hs.cast ?_⟩<;>simp only [oT,lq,cq,Nat.reduceBEq,p4_,p5_,q7_,q8_,q9_,q10_,q11_]
   ·
    rintro D t w hD hp hcl ⟨v68,v70,O,ht,hs⟩ rest hk
    obtain ⟨p6_,_⟩:=hp
    obtain ⟨p4_,p5_,_⟩:=(hcl.get 6 (by decide)) p6_
    have q8_:=nz hcl 8 0 hD
    have q9_:=nz hcl 9 1 q8_
    have q10_:=nz hcl 10 8 hD
    have q11_:=nz hcl 11 0 q10_
    simp only [hD,p4_,p5_,p6_,q8_,q9_,q10_,q11_,cq,oT] at ht hs
    subst ht
    refine QaG rfl rfl (es:=(Qau (rdL a2 x54 Qay))) rfl rfl (fun _=>rfl) (n:=2) (fun _=>rfl) (QaL.len _) (cellsAt_of QaL Qay (hs.rd hr1) had22_ gd21.1 gd21.2) ?_
    show G _ _ _ _ [_,_,_,_,_,_,_,_,_,_,_,_,_,_,_,_,_,_,_,_,_,_,_,_,_,_,_,_,_,_,_,_,_,_,_,_,_] _
    refine hk _ _ ⟨v68,v70,O,?_,hs.cast ?_⟩<;>simp only [oT,lq,cq,Nat.reduceBEq,p4_,p5_,p6_,q8_,q9_,q10_,q11_]
   ·
    rintro D t w hD hp hcl ⟨v68,v70,O,ht,hs⟩ rest hk
    obtain ⟨p7_,_⟩:=hp
    obtain ⟨p6_,_⟩:=(hcl.get 7 (by decide)) p7_
    obtain ⟨p4_,p5_,_⟩:=(hcl.get 6 (by decide)) p6_
    have q9_:=nz hcl 9 1 hD
    have q10_:=nz hcl 10 9 hD
    have q11_:=nz hcl 11 0 q10_
    simp only [hD,p4_,p5_,p6_,p7_,q9_,q10_,q11_,cq,oT] at ht hs
    subst ht
    refine Qcx QaL (y:=rdL a2 x54 Qay) hs rfl rfl rfl rfl (fun _=>rfl) (zv:=(agg #[int .i8 0,bool false])) (fun _=>rfl) rfl (by decide) (by decide) rfl ?_
    intro v68 w hs
    show G _ _ _ _ [_,_,_,_,_,_,_,_,_,_,_,_,_,_,_,_,_,_,_,_,_,_,_,_,_,_,_,_,_,_,_,_,_,_,_,_,_] _
    have hs:=hs.fill 0 rfl
    refine hk _ _ ⟨v68,v70,O,?_,hs.cast ?_⟩<;>simp only [oT,lq,cq,Nat.reduceBEq,p4_,p5_,p6_,p7_,q9_,q10_,q11_]
   ·
    rintro D t w hD hp hcl ⟨v68,v70,O,ht,hs⟩ rest hk
    obtain ⟨p3_,p8_,_⟩:=hp
    obtain ⟨p7_,_⟩:=(hcl.get 8 (by decide)) p8_
    obtain ⟨p6_,_⟩:=(hcl.get 7 (by decide)) p7_
    obtain ⟨p4_,p5_,_⟩:=(hcl.get 6 (by decide)) p6_
    obtain ⟨p2_,_⟩:=(hcl.get 3 (by decide)) p3_
    obtain ⟨p1_,_⟩:=(hcl.get 2 (by decide)) p2_
    have q10_:=nz hcl 10 10 hD
    have q11_:=nz hcl 11 0 q10_
    simp only [hD,p1_,p2_,p3_,p4_,p5_,p6_,p7_,p8_,q10_,q11_,cq,oT] at ht hs
    subst ht
    have hs:St _ [_,_,_,_,_,_,_] _:=hs.pull 5 rfl
    refine Qcf QaL (zv:=(agg #[int .i8 0,bool false])) (B:=2) hs (hs.row 1 rfl) rfl rfl rfl rfl rfl rfl rfl rfl rfl (by decide) rfl rfl (by decide) (by have:=gq9_;omega) ?_
    intro v70 w hs
    show G _ _ _ _ [_,_,_,_,_,_,_,_,_,_,_,_,_,_,_,_,_,_,_,_,_,_,_,_,_,_,_,_,_,_,_,_,_,_,_,_,_] _
    have hs:=hs.push 5 (by simp)
    refine hk _ _ ⟨v68,v70,O,?_,hs.cast ?_⟩<;>simp only [oT,lq,cq,Nat.reduceBEq,p1_,p2_,p3_,p4_,p5_,p6_,p7_,p8_,q10_,q11_]
   ·
    rintro D t w hD hp hcl ⟨v68,v70,O,ht,hs⟩ rest hk
    obtain ⟨p0_,_,p1_,p2_,p3_,p4_,p5_,p6_,p7_,p8_,p9_,_⟩:=hp
    have q11_:=nz hcl 11 0 hD
    simp only [hD,p0_,p1_,p2_,p3_,p4_,p5_,p6_,p7_,p8_,p9_,q11_,cq,oT] at ht hs
    subst ht
    refine QbR (m:=1) 2 hk20_ (by decide) rfl (fun _=>rfl) rfl rfl rfl rfl rfl ?_
    show G _ _ _ _ [_,_,_,_,_,_,_,_,_,_,_,_,_,_,_,_,_,_,_,_,_,_,_,_,_,_,_,_,_,_,_,_,_,_,_,_,_] _
    refine hk _ _ ⟨v68,v70,O,?_,hs.cast ?_⟩<;>simp only [oT,lq,cq,Nat.reduceBEq,p0_,p1_,p2_,p3_,p4_,p5_,p6_,p7_,p8_,p9_,q11_]
   ·
    rintro D t w hD hp hcl ⟨v68,v70,O,ht,hs⟩ rest hk
    obtain ⟨p10_,p9_,_,p0_,p1_,p2_,p3_,p4_,p5_,p6_,p7_,p8_,_,_⟩:=hp
    simp only [hD,p0_,p1_,p2_,p3_,p4_,p5_,p6_,p7_,p8_,p9_,p10_,cq,oT] at ht hs
    subst ht
    have hs:St _ [_,_,_,_,_,_,_] _:=hs.pull 6 rfl
    refine Qb8 hs rfl rfl (vs:=[v70]) (cs':=(([v46,v49,v70]:List Value))) rfl rfl (slCells (hs.row 6 rfl)) (n:=1) (fun _=>rfl) rfl (by first|exact Nat.le_of_ble_eq_true rfl|simp [encAI_len,encAB_len,encA_len]) (by intro v hv;simp only [List.mem_cons,List.not_mem_nil,or_false] at hv;subst hv;exact slOne (hs.row 6 rfl)) rfl ?_
    intro w hs
    show G _ _ _ _ [_,_,_,_,_,_,_,_,_,_,_,_,_,_,_,_,_,_,_,_,_,_,_,_,_,_,_,_,_,_,_,_,_,_,_,_,_] _
    have hs:=hs.push 6 (by simp)
    refine hk _ _ ⟨v68,v70,O,?_,hs.cast ?_⟩<;>simp only [oT,lq,cq,Nat.reduceBEq,p0_,p1_,p2_,p3_,p4_,p5_,p6_,p7_,p8_,p9_,p10_]
   intro D t w hall hI
   obtain ⟨v68,v70,O,ht,hs⟩:=hI
   have p0_:=hall 0 (by decide)
   have p1_:=hall 1 (by decide)
   have p2_:=hall 2 (by decide)
   have p3_:=hall 3 (by decide)
   have p4_:=hall 4 (by decide)
   have p5_:=hall 5 (by decide)
   have p6_:=hall 6 (by decide)
   have p7_:=hall 7 (by decide)
   have p8_:=hall 8 (by decide)
   have p9_:=hall 9 (by decide)
   have p10_:=hall 10 (by decide)
   have p11_:=hall 11 (by decide)
   simp only [p0_,p1_,p2_,p3_,p4_,p5_,p6_,p7_,p8_,p9_,p10_,p11_,cq,oT] at ht hs
   subst ht
   refine Qa5 ?_
   have hs:=hs.pull 5 rfl
   have hs:=hs.pull 5 rfl
   have hs:=hs.pull 5 rfl
   have hs:=hs.pull 6 rfl
   have hs:=hs.pull 6 rfl
   have hs:=hs.pull 6 rfl
   have hs:St _ [_,_,_,_,_,_] _:=St.take (Γ':=[_]) hs
   exact ha _ _ ⟨v46,x47,v49,x50,v70,x53++([rdL a2 x54 Qay]),H,rfl,hs⟩
  rw [if_neg hk20_] at H
  cases H
 intro hb
 rw [if_neg (b_dec_f hb)] at H
 refine Qaa (Qax rfl ?_)
 obtain rfl:=QsJ H
 subst Hx1_
 have hs:=hs.pull 4 rfl
 have hs:=hs.pull 4 rfl
 have hs:=hs.pull 4 rfl
 have hs:=hs.pull 5 rfl
 have hs:=hs.pull 5 rfl
 have hs:St _ [_,_,_,_,_] _:=St.take (Γ':=[_]) hs
 refine QbG rfl ?_
 exact ha1_ _ _ ⟨v46,x47,v49,x50,v52,x53,Hr1_,rfl,hs⟩
def Qci.post (w0:World) (r:((Ar (List Qai) 3)×Int)) (v:Value) (w:World):Prop:=∃ u1:Value,∃ u2:Value,∃ u3:Value,v=tuple #[agg (([u1,u2,u3]:List Value)).toArray,int .i64 r.2]∧St w0 [Row 53 Qah u1 (r.1.get 0 []),Row 53 Qah u2 (r.1.get 1 []),Row 53 Qah u3 (r.1.get 2 [])] w
theorem Qci.calls {N:Nat} {a1:Qaq} {a2:(Ar Int 14)} {a3:(List Qai)} {v4:Value} {w0:World} {r:((Ar (List Qai) 3)×Int)} (hr2:RdRow Qah w0 v4 a3) (H:Qci.f N a1 a2 a3=some r):
 Calls Try.prog 17 #[agg (Qae a1).toArray,agg ((encA (encI .i8)) a2).toArray,v4] w0 fun e w=>∃ v,e= .returned v∧Qci.post w0 r v w:=by
 unfold Qci.f at H
 have hs:St w0 [] w0:=St.refl w0
 refine calls_of_g (n:=21) Try.func17 rfl rfl ?_
 show G _ _ _ _ [_,_,_,_,_,_,_,_,_,_,_,_,_,_,_,_,_,_,_,_,_,_,_,_] _
 refine Qag (Qan [0,1,2,3] rfl ?_)
 refine Qbw hs rfl rfl (cs:=(Qae a1)) rfl rfl ?_
 intro b5 w hs
 refine Qbw hs rfl rfl (cs:=((encA (encI .i8)) a2)) rfl rfl ?_
 intro b7 w hs
 refine QbH hs rfl rfl (z:=(agg #[slice none 0 0,slice none 0 0,slice none 0 0])) (cs:=(([slice none 0 0,slice none 0 0,slice none 0 0]:List Value))) rfl (fun _=>rfl) rfl ?_
 intro b9 w hs
 show G _ _ _ _ [_,_,_,_,_,_,_,_,_,_,_,_,_,_,_,_,_,_,_,_,_,_,_,_] _
 refine Qab (v:=int .i64 0) rfl rfl rfl (Qaa (Qag (Qag (Qan [0,1,2,3] rfl ?_))))
 refine QaG rfl rfl (es:=(Qae a1)) rfl rfl (fun _=>rfl) (n:=4) (fun _=>rfl) (QaJ.len _) (cells_all (hs.cells 2 rfl)) ?_
 refine QaG rfl rfl (es:=((encA (encI .i8)) a2)) rfl rfl (fun _=>rfl) (n:=14) (fun _=>rfl) ((fkA (n:=14) (he:=(fkI .i8).len) (h1:=(fkI .i8).one)).len _) (cells_all (hs.cells 1 rfl)) ?_
 show G _ _ _ _ [_,_,_,_,_,_,_,_,_,_,_,_,_,_,_,_,_,_,_,_,_,_,_,_] _
 obtain ⟨r11,Hr11,H⟩:=bind_get H
 refine QaP (args:=[agg (Qae a1).toArray,agg ((encA (encI .i8)) a2).toArray]) rfl rfl (QaT rfl (callFunc_enter Try.func43 rfl rfl) rfl) (Qcd.calls (a1:=a1) (a2:=a2) Hr11) ?_
 rintro _ w ⟨rfl,hs2⟩
 have hs:St _ [_,_,_] _:=hs.call hs2
 cases r11 with
 |true=>
  rw [if_pos rfl] at H
  refine Qab (v:=bool false) rfl rfl rfl (Qaa (Qax rfl (QaS (Qag (Qag (Qan [0,1,2,3] rfl ?_))))))
  refine QaG rfl rfl (es:=(Qae a1)) rfl rfl (fun _=>rfl) (n:=4) (fun _=>rfl) (QaJ.len _) (cells_all (hs.cells 2 rfl)) ?_
  show G _ _ _ _ [_,_,_,_,_,_,_,_,_,_,_,_,_,_,_,_,_,_,_,_,_,_,_,_] _
  refine Qab (v:=v4) rfl rfl rfl ?_
  obtain ⟨r12,Hr12,H⟩:=bind_get H
  refine QaP (args:=[agg (Qae a1).toArray,v4]) rfl rfl (QaT rfl (callFunc_enter Try.func44 rfl rfl) rfl) (QbK.calls (a1:=a1) (a2:=a3) (hs.rd hr2) Hr12) ?_
  rintro _ w ⟨rfl,hs2⟩
  have hs:St _ [_,_,_] _:=hs.call hs2
  refine Qab (v:=int .i64 r12) rfl rfl rfl ?_
  show G _ _ _ _ [_,_,_,_,_,_,_,_,_,_,_,_,_,_,_,_,_,_,_,_,_,_,_,_] _
  refine Qaa (Qag (Qan [0,1] rfl ?_))
  refine Qab (v:=int .i64 r12) rfl rfl rfl ?_
  refine QaR (B:=r12 !=0) rfl rfl rfl ?_ ?_
  ·
   intro hb
   rw [if_neg (b_bne_t hb)] at H
   refine Qaa (Qaw rfl (Qag (Qan [0,1,2,3] rfl ?_)))
   refine Qab (v:=agg (([slice none 0 0,slice none 0 0,slice none 0 0]:List Value)).toArray) rfl rfl (Qcr rfl rfl) ?_
   show G _ _ _ _ [_,_,_,_,_,_,_,_,_,_,_,_,_,_,_,_,_,_,_,_,_,_,_,_] _
   refine Qab (v:=int .i64 r12) rfl rfl rfl ?_
   refine Qa9 (n:=3) hs rfl rfl rfl (vs:=(([slice none 0 0,slice none 0 0,slice none 0 0]:List Value))) rfl rfl rfl (fun _=>rfl) rfl (by simp [Value.oneCell']) ?_
   intro w hs
   refine Qab (v:=int .i64 r12) rfl rfl rfl (Qaa ?_)
   obtain rfl:=QsJ H
   refine QaK Try.func17 (v:=tuple #[agg (([slice none 0 0,slice none 0 0,slice none 0 0]:List Value)).toArray,int .i64 r12]) (resN (l:=Try.f17.results.toList) (vs:=[agg (([slice none 0 0,slice none 0 0,slice none 0 0]:List Value)).toArray,int .i64 r12]) rfl ⟨⟨_,rfl,(run_loadVar_agg (es:=(([slice none 0 0,slice none 0 0,slice none 0 0]:List Value))) rfl rfl (cells_all (hs.cells 0 rfl)))⟩,rfl,trivial⟩ (by simp)) ?_
   have hs:=hs.nil 53 Qah
   have hs:=hs.nil 53 Qah
   have hs:=hs.nil 53 Qah
   have hs:=hs.pull 0 rfl
   have hs:=hs.pull 1 rfl
   have hs:=hs.pull 2 rfl
   have hs:St _ [_,_,_] _:=St.take (Γ':=[_,_,_]) hs
   exact ⟨_,rfl,(slice none 0 0),(slice none 0 0),(slice none 0 0),rfl,hs⟩
  intro hb
  rw [if_pos (b_bne_f hb)] at H
  refine Qaa (Qax rfl (QaS (Qag (Qan [0,1,2,3,4] rfl ?_))))
  refine QaG rfl rfl (es:=((encA (encI .i8)) a2)) rfl rfl (fun _=>rfl) (n:=14) (fun _=>rfl) ((fkA (n:=14) (he:=(fkI .i8).len) (h1:=(fkI .i8).one)).len _) (cells_all (hs.cells 1 rfl)) ?_
  show G _ _ _ _ [_,_,_,_,_,_,_,_,_,_,_,_,_,_,_,_,_,_,_,_,_,_,_,_] _
  refine Qab (v:=v4) rfl rfl rfl ?_
  obtain ⟨r13,Hr13,H⟩:=bind_get H
  refine QaP (args:=[agg ((encA (encI .i8)) a2).toArray,v4]) rfl rfl (QaT rfl (callFunc_enter Try.func45 rfl rfl) rfl) (Qby.calls (a1:=a2) (a2:=a3) (hs.rd hr2) Hr13) ?_
  rintro _ w ⟨v14,v15,v16,rfl,hs2⟩
  have hs:St _ [_,_,_,_,_,_] _:=hs.call hs2
  have hs:St _ [_,_,_,_,_,_] _:=hs.pull 3 rfl
  refine Qa9 (n:=3) hs rfl rfl rfl (vs:=(([v14,v15,v16]:List Value))) rfl rfl rfl (fun _=>rfl) rfl (by intro v hv;simp only [List.mem_append,List.mem_cons,List.not_mem_nil,or_false] at hv;repeat (first|(subst hv;first|rfl|exact slOne (hs.row 1 rfl)|exact slOne (hs.row 2 rfl)|exact slOne (hs.row 3 rfl))|(rcases hv with hv|hv))) ?_
  intro w hs
  refine Qab (v:=int .i64 0) rfl rfl rfl ?_
  show G _ _ _ _ [_,_,_,_,_,_,_,_,_,_,_,_,_,_,_,_,_,_,_,_,_,_,_,_] _
  refine Qaa ?_
  obtain rfl:=QsJ H
  refine QaK Try.func17 (v:=tuple #[agg (([v14,v15,v16]:List Value)).toArray,int .i64 0]) (resN (l:=Try.f17.results.toList) (vs:=[agg (([v14,v15,v16]:List Value)).toArray,int .i64 0]) rfl ⟨⟨_,rfl,(run_loadVar_agg (es:=(([v14,v15,v16]:List Value))) rfl rfl (cells_all (hs.cells 0 rfl)))⟩,rfl,trivial⟩ (by simp)) ?_
  have hs:=hs.pull 3 rfl
  have hs:=hs.pull 3 rfl
  have hs:=hs.pull 3 rfl
  have hs:St _ [_,_,_] _:=St.take (Γ':=[_,_,_]) hs
  exact ⟨_,rfl,v14,v15,v16,rfl,hs⟩
 |false=>
  rw [if_neg Bool.false_ne_true] at H
  refine Qab (v:=bool true) rfl rfl rfl (Qaa (Qaw rfl (Qag (Qan [0,1,2] rfl ?_))))
  refine Qab (v:=agg (([slice none 0 0,slice none 0 0,slice none 0 0]:List Value)).toArray) rfl rfl (Qcr rfl rfl) ?_
  show G _ _ _ _ [_,_,_,_,_,_,_,_,_,_,_,_,_,_,_,_,_,_,_,_,_,_,_,_] _
  refine Qa9 (n:=3) hs rfl rfl rfl (vs:=(([slice none 0 0,slice none 0 0,slice none 0 0]:List Value))) rfl rfl rfl (fun _=>rfl) rfl (by simp [Value.oneCell']) ?_
  intro w hs
  refine Qab (v:=int .i64 1) rfl rfl rfl (Qaa ?_)
  obtain rfl:=QsJ H
  refine QaK Try.func17 (v:=tuple #[agg (([slice none 0 0,slice none 0 0,slice none 0 0]:List Value)).toArray,int .i64 1]) (resN (l:=Try.f17.results.toList) (vs:=[agg (([slice none 0 0,slice none 0 0,slice none 0 0]:List Value)).toArray,int .i64 1]) rfl ⟨⟨_,rfl,(run_loadVar_agg (es:=(([slice none 0 0,slice none 0 0,slice none 0 0]:List Value))) rfl rfl (cells_all (hs.cells 0 rfl)))⟩,rfl,trivial⟩ (by simp)) ?_
  have hs:=hs.nil 53 Qah
  have hs:=hs.nil 53 Qah
  have hs:=hs.nil 53 Qah
  have hs:=hs.pull 0 rfl
  have hs:=hs.pull 1 rfl
  have hs:=hs.pull 2 rfl
  have hs:St _ [_,_,_] _:=St.take (Γ':=[_,_,_]) hs
  exact ⟨_,rfl,(slice none 0 0),(slice none 0 0),(slice none 0 0),rfl,hs⟩
def QbV.post (w0:World) (r:(ByteArray×Bool)) (v:Value) (w:World):Prop:=v=tuple #[string r.1,bool r.2]∧St w0 [] w
theorem QbV.calls {N:Nat} {a1:(List Int)} {v2:Value} {w0:World} {r:(ByteArray×Bool)} (hr0:RdRow (K.int .i8) w0 v2 a1) (H:QbV.f N a1=some r):
 Calls Try.prog 48 #[v2] w0 fun e w=>∃ v,e= .returned v∧QbV.post w0 r v w:=by
 unfold QbV.f at H
 have hs:St w0 [] w0:=St.refl w0
 refine calls_of_g (n:=28) Try.func48 rfl rfl ?_
 show G _ _ _ _ [_,_,_,_,_,_,_,_,_,_,_,_,_,_,_,_,_,_,_,_,_,_,_,_,_,_,_,_,_] _
 refine Qag (Qan [0,1] rfl ?_)
 refine Qab (v:=string (⟨#[]⟩:ByteArray)) rfl rfl rfl ?_
 show G _ _ _ _ [_,_,_,_,_,_,_,_,_,_,_,_,_,_,_,_,_,_,_,_,_,_,_,_,_,_,_,_,_] _
 refine Qab (v:=bool false) rfl rfl rfl (Qaa (Qag (Qan [0,1] rfl ?_)))
 refine QcU (κ:=(K.int .u8)) hs rfl rfl rfl rfl (fun _=>rfl) ?_
 intro v3 w hs
 refine Qab (v:=v3) rfl rfl rfl ?_
 show G _ _ _ _ [_,_,_,_,_,_,_,_,_,_,_,_,_,_,_,_,_,_,_,_,_,_,_,_,_,_,_,_,_] _
 refine Qaa (Qag (Qag (Qan [0,1,2] rfl ?_)))
 refine Qab (v:=v2) rfl rfl rfl ?_
 refine Qb1 (hs.rd hr0) rfl rfl rfl rfl rfl ?_
 refine Qab (v:=int .i64 0) rfl rfl rfl (Qaa ?_)
 obtain ⟨o1_,Ho,Hr1_⟩:=bind_get H
 refine Qa2 (J:=fun t w=>∃ v14:Value,∃ x15:(List Int),QbV.a0 N x15=some r∧Fr t (fun O=>([O 0,O 1,O 2,O 3,v14,O 5,O 6,O 7,O 8,O 9,O 10,O 11,O 12,O 13,O 14,O 15,O 16,O 17,O 18,O 19,O 20,O 21,O 22,O 23,O 24,O 25,O 26,O 27,O 28]:List Value))∧St w0 [Row 5 (K.int .u8) v14 x15] w) ?_ ?_
 ·
  rintro t w ⟨v14,x15,H,hf,hs⟩
  obtain ⟨O,rfl⟩:=hf.open
  show G _ _ _ _ [_,_,_,_,_,_,_,_,_,_,_,_,_,_,_,_,_,_,_,_,_,_,_,_,_,_,_,_,_] _
  unfold QbV.a0 at H
  refine Qag (Qan [0,1,2,3] rfl ?_)
  refine Qab (v:=v14) rfl rfl rfl ?_
  refine Qab (v:=string (bsOf x15)) rfl rfl (QdF rfl rfl rfl rfl rfl (hs.row 0 rfl)) ?_
  refine Qab (v:=string (bsOf x15)) rfl rfl rfl ?_
  refine Qab (v:=bool true) rfl rfl rfl (Qaa ?_)
  obtain rfl:=QsJ H
  refine QaK Try.func48 (v:=tuple #[string (bsOf x15),bool true]) (resN (l:=Try.f48.results.toList) (vs:=[string (bsOf x15),bool true]) rfl ⟨rfl,rfl,trivial⟩ (by simp)) ?_
  have hs:St _ [] _:=St.take (Γ':=[_]) hs
  exact ⟨_,rfl,rfl,hs⟩
 intro ha1_
 have hs:=hs.pull 0 rfl
 have hs:St _ [_] _:=St.take (Γ':=[]) hs
 refine Qbk (I:=fun n_ t w=>∃ v6:Value,∃ x7:(List Int),∃ x8:Int,rounds (fun s=>QbV.b0 N a1 s.1 s.2) n_ (x7,x8)=some o1_∧Fr t (fun O=>([O 0,O 1,O 2,O 3,v6,O 5,O 6,O 7,v2,int .i64 (a1.length:Int),int .i64 x8,O 11,O 12,O 13,O 14,O 15,O 16,O 17,O 18,O 19,O 20,O 21,O 22,O 23,O 24,O 25,O 26,O 27,O 28]:List Value))∧St w0 [Row 5 (K.int .u8) v6 x7] w) N ⟨v3,([]:List Int),0,Ho,rfl,hs⟩ ?_ ?_
 ·
  rintro _ _ ⟨v6,x7,x8,h,_⟩
  exact rounds_zero h
 intro n_ ih1_
 rintro t w ⟨v6,x7,x8,Ho,hf,hs⟩
 obtain ⟨O,rfl⟩:=hf.open
 show G _ _ _ _ [_,_,_,_,_,_,_,_,_,_,_,_,_,_,_,_,_,_,_,_,_,_,_,_,_,_,_,_,_] _
 obtain ⟨x3_,H,Hx1_⟩:=rounds_succ Ho
 have H:QbV.b0 N a1 x7 x8=some x3_:=H
 unfold QbV.b0 at H
 refine Qag (Qan [0] rfl ?_)
 refine QaR (B:=decide (x8< (a1.length:Int))) rfl rfl rfl ?_ ?_
 ·
  intro hb
  rw [if_pos (b_dec_t hb)] at H
  show G _ _ _ _ [_,_,_,_,_,_,_,_,_,_,_,_,_,_,_,_,_,_,_,_,_,_,_,_,_,_,_,_,_] _
  refine Qaa (Qag (Qaw rfl (QaS (Qag ?_))))
  refine QbP (Qag (Qan [0,1,2] rfl ?_))
  obtain ⟨g1,H⟩:=ite_get H
  refine QcS (fkI .i8) 0 (hs.rd hr0) rfl (fun _=>rfl) g1.1 g1.2 rfl rfl rfl rfl rfl ?_
  intro p9 hp9 lp9 op9
  refine Qaz rfl rfl (v:=int .i8 (rdL a1 x8 0)) rfl rfl (fun _=>rfl) hp9 ?_
  refine Qab (v:=int .i8 (rdL a1 x8 0)) rfl rfl rfl ?_
  show G _ _ _ _ [_,_,_,_,_,_,_,_,_,_,_,_,_,_,_,_,_,_,_,_,_,_,_,_,_,_,_,_,_] _
  refine Qaa (Qag (Qag (Qan [0,1,2,3,4,5] rfl ?_)))
  refine Qab (v:=int .i8 (rdL a1 x8 0)) rfl rfl rfl ?_
  refine QaR (B:=decide ((rdL a1 x8 0)< (-1))) rfl rfl rfl ?_ ?_
  ·
   intro hb
   rw [if_pos (b_dec_t hb)] at H
   refine Qab (v:=bool true) rfl rfl rfl (Qal rfl rfl (Qal rfl rfl ?_))
   show G _ _ _ _ [_,_,_,_,_,_,_,_,_,_,_,_,_,_,_,_,_,_,_,_,_,_,_,_,_,_,_,_,_] _
   refine Qab (v:=bool true) rfl rfl rfl (Qaa (Qaw rfl (Qag (Qan [0,1] rfl ?_))))
   refine Qab (v:=string (⟨#[]⟩:ByteArray)) rfl rfl rfl ?_
   refine Qab (v:=bool false) rfl rfl rfl ?_
   show G _ _ _ _ [_,_,_,_,_,_,_,_,_,_,_,_,_,_,_,_,_,_,_,_,_,_,_,_,_,_,_,_,_] _
   refine Qaa ?_
   obtain rfl:=QsJ H
   subst Hx1_
   have H:=QsJ Hr1_
   subst H
   refine QaK Try.func48 (v:=tuple #[string (⟨#[]⟩:ByteArray),bool false]) (resN (l:=Try.f48.results.toList) (vs:=[string (⟨#[]⟩:ByteArray),bool false]) rfl ⟨rfl,rfl,trivial⟩ (by simp)) ?_
   have hs:St _ [] _:=St.take (Γ':=[_]) hs
   exact ⟨_,rfl,rfl,hs⟩
  intro hb
  rw [if_neg (b_dec_f hb)] at H
  refine Qab (v:=bool false) rfl rfl rfl ?_
  refine Qab (v:=int .i8 (rdL a1 x8 0)) rfl rfl rfl ?_
  refine QaR (B:=decide ((rdL a1 x8 0)>1)) rfl rfl rfl ?_ ?_
  ·
   intro hb
   rw [if_pos (b_dec_t hb)] at H
   refine Qab (v:=bool true) rfl rfl rfl (Qaa (Qaw rfl (Qag (Qan [0,1] rfl ?_))))
   refine Qab (v:=string (⟨#[]⟩:ByteArray)) rfl rfl rfl ?_
   show G _ _ _ _ [_,_,_,_,_,_,_,_,_,_,_,_,_,_,_,_,_,_,_,_,_,_,_,_,_,_,_,_,_] _
   refine Qab (v:=bool false) rfl rfl rfl (Qaa ?_)
   obtain rfl:=QsJ H
   subst Hx1_
   have H:=QsJ Hr1_
   subst H
   refine QaK Try.func48 (v:=tuple #[string (⟨#[]⟩:ByteArray),bool false]) (resN (l:=Try.f48.results.toList) (vs:=[string (⟨#[]⟩:ByteArray),bool false]) rfl ⟨rfl,rfl,trivial⟩ (by simp)) ?_
   have hs:St _ [] _:=St.take (Γ':=[_]) hs
   exact ⟨_,rfl,rfl,hs⟩
  intro hb
  rw [if_neg (b_dec_f hb)] at H
  refine Qab (v:=bool false) rfl rfl rfl ?_
  show G _ _ _ _ [_,_,_,_,_,_,_,_,_,_,_,_,_,_,_,_,_,_,_,_,_,_,_,_,_,_,_,_,_] _
  refine Qaa (Qax rfl (QaS (Qan [0,1,2,3,4,5,6] rfl ?_)))
  refine Qab (v:=v6) rfl rfl rfl ?_
  refine Qab (v:=int .i8 (rdL a1 x8 0)) rfl rfl rfl ?_
  refine Qab (v:=int .i8 (i8w ((rdL a1 x8 0)+1))) rfl rfl rfl ?_
  obtain ⟨g2,H⟩:=ite_get H
  refine Qab (v:=int .u8 (btS (⟨#[45,48,43]⟩:ByteArray) (i8w ((rdL a1 x8 0)+1)))) rfl rfl (Qdo rfl rfl rfl rfl g2.1 g2.2) ?_
  show G _ _ _ _ [_,_,_,_,_,_,_,_,_,_,_,_,_,_,_,_,_,_,_,_,_,_,_,_,_,_,_,_,_] _
  refine Qcx (fkI .u8) (y:=btS (⟨#[45,48,43]⟩:ByteArray) (i8w ((rdL a1 x8 0)+1))) hs rfl rfl rfl rfl (fun _=>rfl) (zv:=(int .u8 0)) (fun _=>rfl) rfl (by decide) (by decide) rfl ?_
  intro v10 w hs
  show G _ _ _ _ [_,_,_,_,_,_,_,_,_,_,_,_,_,_,_,_,_,_,_,_,_,_,_,_,_,_,_,_,_] _
  have hs:St _ [_,_] _:=hs.pull 1 rfl
  obtain ⟨g,H⟩:=ite_get H
  refine Qcf (fkI .u8) (zv:=(int .u8 0)) (B:=1) hs (hs.row 1 rfl) rfl rfl rfl rfl rfl rfl rfl rfl rfl (by decide) rfl rfl (by decide) (by omega) ?_
  intro v12 w hs
  refine Qab (v:=v12) rfl rfl rfl (Qaa ?_)
  refine Qa5 (Qan [0,1] rfl ?_)
  refine Qab (v:=int .i64 (i64w (x8+1))) rfl rfl rfl ?_
  show G _ _ _ _ [_,_,_,_,_,_,_,_,_,_,_,_,_,_,_,_,_,_,_,_,_,_,_,_,_,_,_,_,_] _
  refine Qab (v:=int .i64 (i64w (x8+1))) rfl rfl rfl (Qaa ?_)
  obtain rfl:=QsJ H
  have hs:=hs.pull 0 rfl
  have hs:St _ [_] _:=St.take (Γ':=[_]) hs
  exact ih1_ _ _ ⟨v12,x7++([btS (⟨#[45,48,43]⟩:ByteArray) (i8w ((rdL a1 x8 0)+1))]),i64w (x8+1),Hx1_,rfl,hs⟩
 intro hb
 rw [if_neg (b_dec_f hb)] at H
 refine Qaa (Qag (Qax rfl ?_))
 obtain rfl:=QsJ H
 subst Hx1_
 have hs:=hs.pull 0 rfl
 have hs:St _ [_] _:=St.take (Γ':=[]) hs
 refine QbG rfl ?_
 exact ha1_ _ _ ⟨v6,x7,Hr1_,rfl,hs⟩
end Go.Proofs.YtgpdpedpmhonkaaX
