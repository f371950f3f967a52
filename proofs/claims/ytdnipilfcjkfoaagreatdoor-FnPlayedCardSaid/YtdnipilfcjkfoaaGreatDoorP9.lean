import Derived.Test.YtdnipilfcjkfoaaGreatDoorP8
namespace Go.Proofs.YtdnipilfcjkfoaaGreatDoorX
open Go Go.RowKit Go.Proofs
open Go.Value (int pointer bool agg slice string tuple)
set_option maxHeartbeats 8000000
set_option maxRecDepth 100000
set_option linter.unusedVariables false
set_option linter.unusedSimpArgs false
def QaP.post (w0:World) (r:(Qag×Int×Int)) (v:Value) (w:World):Prop:=∃ u1:Value,v=tuple #[agg (([int .i8 r.1.Qac,int .i8 r.1.Qae,u1]:List Value)).toArray,int .i64 r.2.1,int .i64 r.2.2]∧St w0 [Row 61 Qao u1 r.1.Qah] w
theorem QaP.calls {N:Nat} {a1:Int} {a2:Int} {a3:Int} {a4:(List Bool)} {v5:Value} {w0:World} {r:(Qag×Int×Int)} (hr3:RdRow K.bool w0 v5 a4) (H:QaP.f N a1 a2 a3 a4=some r):
 Calls Tryz.prog 7 #[int .i64 a1,int .i64 a2,int .i64 a3,v5] w0 fun e w=>∃ v,e= .returned v∧QaP.post w0 r v w:=by
 unfold QaP.f at H
 have hs:St w0 [] w0:=St.refl w0
 refine calls_of_g (n:=71) Tryz.func7 rfl rfl ?_
 show G _ _ _ _ (_::_::_::_::_::_::_::_::_::_::_::_::_::_::_::_::_::_::_::_::_::_::_::_::_::_::_::_::_::_::_::_::_::_::_::_::_::_::_::_::_::_::_::_::_::_::_::_::_::_::_::_::_::_::_::_::_::_::_::_::_::_::_::_::_::_::_::_::_::_::_::_::_::_::_::[]) _
 refine Qaf (Qak [0,1,2] rfl ?_)
 refine Qa5 hs rfl rfl (z:=(agg #[int .i8 0,int .i8 0,slice none 0 0])) (cs:=(([int .i8 0,int .i8 0,slice none 0 0]:List Value))) rfl (fun _=>rfl) rfl ?_
 intro b6 w hs
 refine g_d rfl ?_
 try dsimp only [Qai,Qaj]
 refine Qaa (v:=int .i64 0) rfl rfl rfl (g_d rfl ?_)
 refine Qaa (v:=int .i64 0) rfl rfl rfl (g_d rfl ?_)
 try dsimp only [Qai,Qaj]
 refine Qab (Qaf (Qaf (Qak [0,1,2,3,4,5,6,7,8,9,10] rfl ?_)))
 refine Qaa (v:=int .i64 a1) rfl rfl rfl (g_d rfl ?_)
 refine Qaa (v:=int .i64 a2) rfl rfl rfl (g_d rfl ?_)
 obtain ⟨r8,Hr8,H⟩:=bind_get H
 refine Qas (args:=[int .i64 a1,int .i64 a2]) rfl rfl (Qat rfl (callFunc_enter Tryz.func34 rfl rfl) rfl) (QbQ.calls (a1:=a1) (a2:=a2) Hr8) ?_
 rintro _ w ⟨rfl,hs2⟩
 have hs:St _ [_] _:=hs.call hs2
 cases r8 with
 |true=>
  rw [if_pos rfl] at H
  refine g_d rfl ?_
  refine Qaa (v:=bool false) rfl rfl rfl (g_d rfl ?_)
  try dsimp only [Qai,Qaj]
  refine Qaa (v:=bool false) rfl rfl rfl (g_d rfl ?_)
  refine Qaa (v:=int .i64 a3) rfl rfl rfl (g_d rfl ?_)
  refine Qaa (v:=int .i64 a1) rfl rfl rfl (g_d rfl ?_)
  refine Qaa (v:=int .i64 (i64w (a1 - 1))) rfl rfl rfl (g_d rfl ?_)
  obtain ⟨r9,Hr9,H⟩:=bind_get H
  refine Qas (args:=[int .i64 a3,int .i64 0,int .i64 (i64w (a1 - 1))]) rfl rfl (Qat rfl (callFunc_enter Tryz.func35 rfl rfl) rfl) (Qbg.calls (a1:=a3) (a2:=0) (a3:=i64w (a1 - 1)) Hr9) ?_
  rintro _ w ⟨rfl,hs2⟩
  have hs:St _ [_] _:=hs.call hs2
  cases r9 with
  |true=>
   rw [if_pos rfl] at H
   refine g_d rfl ?_
   refine Qaa (v:=bool false) rfl rfl rfl (g_d rfl ?_)
   try dsimp only [Qai,Qaj]
   refine Qaa (v:=bool false) rfl rfl rfl (g_d rfl (Qab (Qap rfl (QaE (Qaf (Qak [0,1,2,3,4,5,6] rfl ?_))))))
   refine Qaa (v:=int .i64 a1) rfl rfl rfl (g_d rfl ?_)
   refine Qaa (v:=int .i8 (i8w a1)) rfl rfl rfl (g_d rfl ?_)
   refine Qaa (v:=int .i64 a2) rfl rfl rfl (g_d rfl ?_)
   refine Qaa (v:=int .i8 (i8w a2)) rfl rfl rfl (g_d rfl ?_)
   try dsimp only [Qai,Qaj]
   refine Qaa (v:=agg (([int .i8 (i8w a1),int .i8 (i8w a2),slice none 0 0]:List Value)).toArray) rfl rfl (QbB (cs:=(([int .i8 (i8w a1),int .i8 (i8w a2),slice none 0 0]:List Value))) (segs:=[[int .i8 0],[int .i8 0],[slice none 0 0]]) rfl rfl (fun _=>rfl) ⟨rfl,(fun _=>rfl),rfl,(fun _=>rfl),rfl,(fun _=>rfl),trivial⟩ (by simp only [List.map_cons,List.map_nil,List.forall_mem_cons,List.not_mem_nil,false_implies,implies_true,and_true];exact ⟨⟨_,rfl,rfl⟩,⟨_,rfl,rfl⟩⟩) (by first|rfl|(simp [ev,encA];done)|(simp [ev,encA];rfl))) ?_
   refine g_d rfl ?_
   refine Qa5 hs rfl rfl (z:=(agg #[int .i8 0,int .i8 0,slice none 0 0])) (cs:=(([int .i8 0,int .i8 0,slice none 0 0]:List Value))) rfl (fun _=>rfl) rfl ?_
   intro b10 w hs
   refine g_d rfl ?_
   try dsimp only [Qai,Qaj]
   refine QaB (n:=3) hs rfl rfl rfl (vs:=(([int .i8 (i8w a1),int .i8 (i8w a2),slice none 0 0]:List Value))) rfl rfl rfl (fun _=>rfl) rfl (by simp [Value.oneCell']) ?_
   intro w hs
   refine g_n rfl (Qab (Qaf (Qak [0] rfl ?_)))
   refine Qaa (v:=int .i64 0) rfl rfl rfl (g_d rfl (Qab ?_))
   obtain ⟨o1_,Ho,Hr1_⟩:=bind_get H
   refine QaF (J:=fun t w=>QaP.a0 N=some r∧Fr t (fun O=>(oT O 0 (oT O 1 (oT O 2 (oT O 3 (oT O 4 (oT O 5 (oT O 6 (O 70::O 71::O 72::O 73::O 74::[]))))))):List Value))∧St w0 [] w) ?_ ?_
   ·
    rintro t w ⟨H,hf,hs⟩
    obtain ⟨O,rfl⟩:=hf.open
    try dsimp only [oT]
    unfold QaP.a0 at H
    cases H
   intro ha1_
   have hs:=hs.nil 61 Qao
   have hs:=hs.pull 1 rfl
   have hs:=hs.pull 1 rfl
   have hs:=hs.pull 2 rfl
   have hs:St _ [_,_,_] _:=St.take (Γ':=[]) hs
   refine QaZ (I:=fun n_ t w=>∃ x30:Int,∃ x31:Int,∃ v33:Value,∃ x34:(List Qav),∃ x35:Int,rounds (fun s=>QaP.b0 N a4 a3 s.1 s.2.1 s.2.2.1 s.2.2.2) n_ (x30,x31,x34,x35)=some o1_∧Fr t (fun O=>(O 0::O 1::int .i64 a3::v5::O 4::O 5::O 6::O 7::pointer (some ⟨b6,0,none⟩)::O 9::O 10::pointer (some ⟨b10,0,none⟩)::int .i64 x35::O 13::O 14::O 15::O 16::O 17::O 18::O 19::oT O 2 (oT O 3 (oT O 4 (oT O 5 (oT O 6 (O 70::O 71::O 72::O 73::O 74::[]))))):List Value))∧St w0 [Cells b6 (([int .i8 0,int .i8 0,slice none 0 0]:List Value)) 30,Row 61 Qao v33 x34,Cells b10 (([int .i8 x30,int .i8 x31,v33]:List Value)) 30] w) N ⟨i8w a1,i8w a2,slice none 0 0,[],0,Ho,rfl,hs⟩ ?_ ?_
   ·
    rintro _ _ ⟨x30,x31,v33,x34,x35,h,_⟩
    exact rounds_zero h
   intro n_ ih1_
   rintro t w ⟨x30,x31,v33,x34,x35,Ho,hf,hs⟩
   obtain ⟨O,rfl⟩:=hf.open
   try dsimp only [oT]
   obtain ⟨x23_,H,Hx1_⟩:=rounds_succ Ho
   have H:QaP.b0 N a4 a3 x30 x31 x34 x35=some x23_:=H
   unfold QaP.b0 at H
   refine Qaf ?_
   refine QaF (J:=(fun t w=>∃ x48:Int,∃ x49:Int,∃ v50:Value,∃ x51:(List Qav),QaP.j2 N x35 x48 x49 x51=some x23_∧Fr t (fun O=>(O 0::O 1::int .i64 a3::v5::O 4::O 5::O 6::O 7::pointer (some ⟨b6,0,none⟩)::O 9::O 10::pointer (some ⟨b10,0,none⟩)::int .i64 x35::O 13::O 14::O 15::O 16::O 17::O 18::O 19::oT O 2 (oT O 3 (oT O 4 (oT O 5 (oT O 6 (O 70::O 71::O 72::O 73::O 74::[]))))):List Value))∧St w0 [Cells b6 (([int .i8 0,int .i8 0,slice none 0 0]:List Value)) 30,Cells b10 (([int .i8 x48,int .i8 x49,v50]:List Value)) 30,Row 61 Qao v50 x51] w)) ?_ ?_
   ·
    rintro t w ⟨x48,x49,v50,x51,H,hf,hs⟩
    obtain ⟨O,rfl⟩:=hf.open
    try dsimp only [oT]
    unfold QaP.j2 at H
    refine Qak [0,1,2] rfl ?_
    refine Qaa (v:=int .i64 x35) rfl rfl rfl (g_d rfl ?_)
    refine Qaa (v:=int .i64 (i64w (x35+1))) rfl rfl rfl (g_d rfl ?_)
    refine Qaa (v:=int .i64 (i64w (x35+1))) rfl rfl rfl (g_d rfl ?_)
    try dsimp only [Qai,Qaj]
    refine Qab ?_
    obtain rfl:=QsJ H
    have hs:=hs.pull 1 rfl
    have hs:=hs.pull 2 rfl
    have hs:=hs.pull 2 rfl
    have hs:St _ [_,_,_] _:=St.take (Γ':=[]) hs
    exact ih1_ _ _ ⟨x48,x49,v50,x51,i64w (x35+1),Hx1_,rfl,hs⟩
   intro ha
   refine Qaf (Qak [0,1,2] rfl ?_)
   refine QaG rfl rfl (es:=(([int .i8 x30,int .i8 x31,v33]:List Value))) rfl rfl (fun _=>rfl) (n:=3) (fun _=>rfl) rfl (cells_all (hs.cells 2 rfl)) (g_d rfl ?_)
   try dsimp only [Qai,Qaj]
   obtain ⟨r36,Hr36,H⟩:=bind_get H
   refine Qas (args:=[agg (([int .i8 x30,int .i8 x31,v33]:List Value)).toArray]) rfl rfl (Qat rfl (callFunc_enter Tryz.func36 rfl rfl) rfl) (Qbf.calls (a1:=(⟨x30,x31,x34⟩:Qag)) (hs.row 1 rfl) Hr36) ?_
   intro v37 w hs2
   have hs:St _ [_,_,_,_] _:=hs.call hs2
   refine g_d rfl ?_
   refine Qaa (v:=v37) rfl rfl rfl (g_d rfl ?_)
   try dsimp only [Qai,Qaj]
   refine Qab (Qaf ?_)
   refine Qbz (Qaf (Qak [0,1,2,3] rfl ?_))
   refine Qaa (v:=v37) rfl rfl rfl (g_d rfl ?_)
   refine Qbp (hs.row 0 rfl) rfl rfl rfl rfl rfl (g_d rfl ?_)
   refine QaA (B:=(r36.length:Int)==0) rfl rfl rfl ?_ ?_
   ·
    intro hb
    rw [if_pos (b_beq_t hb)] at H
    refine g_d rfl ?_
    try dsimp only [Qai,Qaj]
    refine Qaa (v:=bool true) rfl rfl rfl (g_d rfl (Qab (Qam rfl (Qaf (Qak [0,1,2,3] rfl ?_)))))
    refine Qaa (v:=agg (([int .i8 0,int .i8 0,slice none 0 0]:List Value)).toArray) rfl rfl (QbB (cs:=(([int .i8 0,int .i8 0,slice none 0 0]:List Value))) (segs:=[[int .i8 0],[int .i8 0],[slice none 0 0]]) rfl rfl (fun _=>rfl) ⟨rfl,(fun _=>rfl),rfl,(fun _=>rfl),rfl,(fun _=>rfl),trivial⟩ (by simp) (by first|rfl|(simp [ev,encA];done)|(simp [ev,encA];rfl))) ?_
    refine g_d rfl ?_
    try dsimp only [Qai,Qaj]
    have hs:St _ [_,_,_,_] _:=hs.pull 1 rfl
    refine QaB (n:=3) hs rfl rfl rfl (vs:=(([int .i8 0,int .i8 0,slice none 0 0]:List Value))) rfl rfl rfl (fun _=>rfl) rfl (by simp [Value.oneCell']) ?_
    intro w hs
    refine g_n rfl ?_
    refine Qaa (v:=int .i64 0) rfl rfl rfl (g_d rfl ?_)
    refine Qaa (v:=int .i64 8) rfl rfl rfl (g_d rfl ?_)
    try dsimp only [Qai,Qaj]
    refine Qab ?_
    obtain rfl:=QsJ H
    subst Hx1_
    have H:=QsJ Hr1_
    subst H
    refine Qax Tryz.func7 (v:=tuple #[agg (([int .i8 0,int .i8 0,slice none 0 0]:List Value)).toArray,int .i64 0,int .i64 8]) (resN (l:=Tryz.f7.results.toList) (vs:=[agg (([int .i8 0,int .i8 0,slice none 0 0]:List Value)).toArray,int .i64 0,int .i64 8]) rfl ⟨⟨_,rfl,(run_loadVar_agg (es:=(([int .i8 0,int .i8 0,slice none 0 0]:List Value))) rfl rfl (cells_all (hs.cells 0 rfl)))⟩,rfl,rfl,trivial⟩ (by simp)) ?_
    have hs:=hs.nil 61 Qao
    have hs:=hs.pull 0 rfl
    have hs:St _ [_] _:=St.take (Γ':=[_,_,_,_]) hs
    exact ⟨_,rfl,(slice none 0 0),rfl,hs⟩
   intro hb
   rw [if_neg (b_beq_f hb)] at H
   refine g_d rfl ?_
   try dsimp only [Qai,Qaj]
   refine Qaa (v:=bool false) rfl rfl rfl (g_d rfl (Qab (Qap rfl (Qaf (Qak [0,1,2,3] rfl ?_)))))
   refine Qaa (v:=v37) rfl rfl rfl (g_d rfl ?_)
   refine Qbp (hs.row 0 rfl) rfl rfl rfl rfl rfl (g_d rfl ?_)
   try dsimp only [Qai,Qaj]
   refine QaA (B:=(r36.length:Int)==1) rfl rfl rfl ?_ ?_
   ·
    intro hb
    rw [if_pos (b_beq_t hb)] at H
    refine g_d rfl ?_
    try dsimp only [Qai,Qaj]
    refine Qaa (v:=bool true) rfl rfl rfl (g_d rfl (Qab (Qam rfl (Qaf ?_))))
    obtain ⟨gd12,H⟩:=ite_get H
    obtain ⟨ad13_,ad13_N,ad13_C,had13_⟩:=sl_at (hs.row 0 rfl) gd12.1 gd12.2
    refine Qbu ?_
    intro T hT
    refine Qcl (n:=7) rfl [0,1,2,3,4,5,6] [0,2,3,4,1,5,6] rfl rfl (Inv:=fun D t w=>∃ O:Nat→Value,t=(O 0::O 1::int .i64 a3::v5::O 4::O 5::O 6::O 7::pointer (some ⟨b6,0,none⟩)::cnd (D 5) (int .i64 (rdL r36 0 0)) (O 9)::cnd (D 6) (int .i64 0) (O 10)::pointer (some ⟨b10,0,none⟩)::int .i64 x35::v37::O 14::O 15::O 16::O 17::O 18::O 19::oT O 2 (O 30::O 31::O 32::O 33::O 34::agg (([int .i8 x30,int .i8 x31,v33]:List Value)).toArray::v37::bool false::v37::int .i64 (r36.length:Int)::bool false::O 41::bool true::v37::int .i64 (r36.length:Int)::bool true::cnd (D 0) (agg (([int .i8 x30,int .i8 x31,v33]:List Value)).toArray) (O 46)::cnd (D 1) v37 (O 47)::cnd (D 2) (pointer (some (ad13_.add ((0:Int).toNat*1)))) (O 48)::cnd (D 3) (int .i64 (rdL r36 0 0)) (O 49)::oT O 5 (oT O 6 (O 70::O 71::O 72::O 73::O 74::[]))))∧St w0 [Row 2 (K.int .i64) v37 r36,Cells b6 (cnd (D 4) (([int .i8 x30,int .i8 x31,v33]:List Value)) (([int .i8 0,int .i8 0,slice none 0 0]:List Value))) 30,Row 61 Qao v33 x34,Cells b10 (([int .i8 x30,int .i8 x31,v33]:List Value)) 30] w) ?_ ⟨⟨⟨⟨⟨⟨⟨trivial,?_⟩,?_⟩,?_⟩,?_⟩,?_⟩,?_⟩,?_⟩ ?_
    ·
     intro w hh hbw
     have hs:=hs.samew hh hbw
     exact ⟨fun i=>T.getD i undef,(by subst hT;rfl),hs⟩
    ·
     rintro D t w hD hp hcl ⟨O,ht,hs⟩ rest hk
     have q4_:=nz hcl 4 0 hD
     have q5_:=nz hcl 5 1 q4_
     have q6_:=nz hcl 6 0 q5_
     simp only [hD,q4_,q5_,q6_,cq,oT] at ht hs
     subst ht
     refine QaG rfl rfl (es:=(([int .i8 x30,int .i8 x31,v33]:List Value))) rfl rfl (fun _=>rfl) (n:=3) (fun _=>rfl) rfl (cells_all (hs.cells 3 rfl)) (g_d rfl ?_)
     try dsimp only [Qai,Qaj]
     refine hk _ _ ⟨O,?_,hs.cast ?_⟩<;>simp only [oT,lq,cq,Nat.reduceBEq,q4_,q5_,q6_]
    ·
     rintro D t w hD hp hcl ⟨O,ht,hs⟩ rest hk
     have q2_:=nz hcl 2 0 hD
     have q3_:=nz hcl 3 0 q2_
     have q5_:=nz hcl 5 0 q3_
     have q6_:=nz hcl 6 0 q5_
     simp only [hD,q2_,q3_,q5_,q6_,cq,oT] at ht hs
     subst ht
     refine Qaa (v:=v37) rfl rfl rfl (g_d rfl ?_)
     try dsimp only [Qai,Qaj]
     refine hk _ _ ⟨O,?_,hs.cast ?_⟩<;>simp only [oT,lq,cq,Nat.reduceBEq,q2_,q3_,q5_,q6_]
    ·
     rintro D t w hD hp hcl ⟨O,ht,hs⟩ rest hk
     obtain ⟨p1_,_⟩:=hp
     have q3_:=nz hcl 3 0 hD
     have q5_:=nz hcl 5 0 q3_
     have q6_:=nz hcl 6 0 q5_
     simp only [hD,p1_,q3_,q5_,q6_,cq,oT] at ht hs
     subst ht
     refine Qcn (κ:=(K.int .i64)) (m:=1) rfl (hs.row 0 rfl) rfl (fun _=>rfl) gd12.1 gd12.2 had13_ rfl rfl rfl rfl rfl (g_d rfl ?_)
     try dsimp only [Qai,Qaj]
     refine hk _ _ ⟨O,?_,hs.cast ?_⟩<;>simp only [oT,lq,cq,Nat.reduceBEq,p1_,q3_,q5_,q6_]
    ·
     rintro D t w hD hp hcl ⟨O,ht,hs⟩ rest hk
     obtain ⟨p2_,_⟩:=hp
     obtain ⟨p1_,_⟩:=(hcl.get 2 (by decide)) p2_
     have q5_:=nz hcl 5 0 hD
     have q6_:=nz hcl 6 0 q5_
     simp only [hD,p1_,p2_,q5_,q6_,cq,oT] at ht hs
     subst ht
     refine Qaw rfl rfl (v:=int .i64 (rdL r36 0 0)) rfl rfl (fun _=>rfl) (cellsAt_of (fkI .i64) 0 (hs.row 0 rfl) had13_ gd12.1 gd12.2) (g_d rfl ?_)
     try dsimp only [Qai,Qaj]
     refine hk _ _ ⟨O,?_,hs.cast ?_⟩<;>simp only [oT,lq,cq,Nat.reduceBEq,p1_,p2_,q5_,q6_]
    ·
     rintro D t w hD hp hcl ⟨O,ht,hs⟩ rest hk
     obtain ⟨p0_,_,_⟩:=hp
     have q5_:=nz hcl 5 1 hD
     have q6_:=nz hcl 6 0 q5_
     simp only [hD,p0_,q5_,q6_,cq,oT] at ht hs
     subst ht
     have hs:St _ [_,_,_,_] _:=hs.pull 1 rfl
     refine QaB (n:=3) hs rfl rfl rfl (vs:=(([int .i8 x30,int .i8 x31,v33]:List Value))) rfl rfl rfl (fun _=>rfl) rfl (by intro v hv;simp only [List.mem_append,List.mem_cons,List.not_mem_nil,or_false] at hv;repeat (first|(subst hv;first|rfl|exact slOne (hs.row 2 rfl))|(rcases hv with hv|hv))) ?_
     intro w hs
     refine g_n rfl ?_
     try dsimp only [Qai,Qaj]
     have hs:=hs.push 1 (by simp)
     refine hk _ _ ⟨O,?_,hs.cast ?_⟩<;>simp only [oT,lq,cq,Nat.reduceBEq,p0_,q5_,q6_]
    ·
     rintro D t w hD hp hcl ⟨O,ht,hs⟩ rest hk
     obtain ⟨p3_,p4_,p0_,p1_,p2_,_,_,_⟩:=hp
     have q6_:=nz hcl 6 0 hD
     simp only [hD,p0_,p1_,p2_,p3_,p4_,q6_,cq,oT] at ht hs
     subst ht
     refine Qaa (v:=int .i64 (rdL r36 0 0)) rfl rfl rfl (g_d rfl ?_)
     try dsimp only [Qai,Qaj]
     refine hk _ _ ⟨O,?_,hs.cast ?_⟩<;>simp only [oT,lq,cq,Nat.reduceBEq,p0_,p1_,p2_,p3_,p4_,q6_]
    ·
     rintro D t w hD hp hcl ⟨O,ht,hs⟩ rest hk
     obtain ⟨p5_,p0_,p1_,p2_,p3_,p4_,_,_⟩:=hp
     simp only [hD,p0_,p1_,p2_,p3_,p4_,p5_,cq,oT] at ht hs
     subst ht
     refine Qaa (v:=int .i64 0) rfl rfl rfl (g_d rfl ?_)
     try dsimp only [Qai,Qaj]
     refine hk _ _ ⟨O,?_,hs.cast ?_⟩<;>simp only [oT,lq,cq,Nat.reduceBEq,p0_,p1_,p2_,p3_,p4_,p5_]
    intro D t w hall hI
    obtain ⟨O,ht,hs⟩:=hI
    have p0_:=hall 0 (by decide)
    have p1_:=hall 1 (by decide)
    have p2_:=hall 2 (by decide)
    have p3_:=hall 3 (by decide)
    have p4_:=hall 4 (by decide)
    have p5_:=hall 5 (by decide)
    have p6_:=hall 6 (by decide)
    simp only [p0_,p1_,p2_,p3_,p4_,p5_,p6_,cq,oT] at ht hs
    subst ht
    obtain rfl:=QsJ H
    subst Hx1_
    have H:=QsJ Hr1_
    subst H
    refine Qax Tryz.func7 (v:=tuple #[agg (([int .i8 x30,int .i8 x31,v33]:List Value)).toArray,int .i64 (rdL r36 0 0),int .i64 0]) (resN (l:=Tryz.f7.results.toList) (vs:=[agg (([int .i8 x30,int .i8 x31,v33]:List Value)).toArray,int .i64 (rdL r36 0 0),int .i64 0]) rfl ⟨⟨_,rfl,(run_loadVar_agg (es:=(([int .i8 x30,int .i8 x31,v33]:List Value))) rfl rfl (cells_all (hs.cells 1 rfl)))⟩,rfl,rfl,trivial⟩ (by simp)) ?_
    have hs:=hs.pull 2 rfl
    have hs:St _ [_] _:=St.take (Γ':=[_,_,_]) hs
    exact ⟨_,rfl,v33,rfl,hs⟩
   intro hb
   rw [if_neg (b_beq_f hb)] at H
   refine g_d rfl ?_
   refine Qaa (v:=bool false) rfl rfl rfl (g_d rfl ?_)
   try dsimp only [Qai,Qaj]
   refine Qab (Qap rfl (Qaf (Qak [0,1,2] rfl ?_)))
   refine Qaa (v:=int .i64 x35) rfl rfl rfl (g_d rfl ?_)
   refine QaA (B:=x35==60) rfl rfl rfl ?_ ?_
   ·
    intro hb
    rw [if_pos (b_beq_t hb)] at H
    refine g_d rfl ?_
    refine Qaa (v:=bool true) rfl rfl rfl (g_d rfl ?_)
    try dsimp only [Qai,Qaj]
    refine Qab (Qam rfl (Qaf (Qak [0,1,2,3] rfl ?_)))
    refine Qaa (v:=agg (([int .i8 0,int .i8 0,slice none 0 0]:List Value)).toArray) rfl rfl (QbB (cs:=(([int .i8 0,int .i8 0,slice none 0 0]:List Value))) (segs:=[[int .i8 0],[int .i8 0],[slice none 0 0]]) rfl rfl (fun _=>rfl) ⟨rfl,(fun _=>rfl),rfl,(fun _=>rfl),rfl,(fun _=>rfl),trivial⟩ (by simp) (by first|rfl|(simp [ev,encA];done)|(simp [ev,encA];rfl))) ?_
    refine g_d rfl ?_
    have hs:St _ [_,_,_,_] _:=hs.pull 1 rfl
    refine QaB (n:=3) hs rfl rfl rfl (vs:=(([int .i8 0,int .i8 0,slice none 0 0]:List Value))) rfl rfl rfl (fun _=>rfl) rfl (by simp [Value.oneCell']) ?_
    intro w hs
    refine g_n rfl ?_
    refine Qaa (v:=int .i64 0) rfl rfl rfl (g_d rfl ?_)
    try dsimp only [Qai,Qaj]
    refine Qaa (v:=int .i64 7) rfl rfl rfl (g_d rfl (Qab ?_))
    obtain rfl:=QsJ H
    subst Hx1_
    have H:=QsJ Hr1_
    subst H
    refine Qax Tryz.func7 (v:=tuple #[agg (([int .i8 0,int .i8 0,slice none 0 0]:List Value)).toArray,int .i64 0,int .i64 7]) (resN (l:=Tryz.f7.results.toList) (vs:=[agg (([int .i8 0,int .i8 0,slice none 0 0]:List Value)).toArray,int .i64 0,int .i64 7]) rfl ⟨⟨_,rfl,(run_loadVar_agg (es:=(([int .i8 0,int .i8 0,slice none 0 0]:List Value))) rfl rfl (cells_all (hs.cells 0 rfl)))⟩,rfl,rfl,trivial⟩ (by simp)) ?_
    have hs:=hs.nil 61 Qao
    have hs:=hs.pull 0 rfl
    have hs:St _ [_] _:=St.take (Γ':=[_,_,_,_]) hs
    exact ⟨_,rfl,(slice none 0 0),rfl,hs⟩
   intro hb
   rw [if_neg (b_beq_f hb)] at H
   refine g_d rfl ?_
   refine Qaa (v:=bool false) rfl rfl rfl (g_d rfl ?_)
   try dsimp only [Qai,Qaj]
   refine Qab (Qap rfl (QaE ?_))
   refine QaH (Qaf (Qak [0,1,2,3,4,5,6] rfl ?_))
   refine QaG rfl rfl (es:=(([int .i8 x30,int .i8 x31,v33]:List Value))) rfl rfl (fun _=>rfl) (n:=3) (fun _=>rfl) rfl (cells_all (hs.cells 3 rfl)) (g_d rfl ?_)
   obtain ⟨r39,Hr39,H⟩:=bind_get H
   refine Qas (args:=[agg (([int .i8 x30,int .i8 x31,v33]:List Value)).toArray]) rfl rfl (Qat rfl (callFunc_enter Tryz.func22 rfl rfl) rfl) (QbM.calls (a1:=(⟨x30,x31,x34⟩:Qag)) (hs.row 2 rfl) Hr39) ?_
   rintro _ w ⟨rfl,hs2⟩
   have hs:St _ [_,_,_,_] _:=hs.call hs2
   refine g_d rfl ?_
   try dsimp only [Qai,Qaj]
   refine Qaa (v:=tuple #[int .u64 r39.1,int .i64 r39.2]) rfl rfl rfl (g_d rfl ?_)
   refine Qaa (v:=int .u64 r39.1) rfl rfl rfl (g_d rfl ?_)
   refine Qaa (v:=int .i64 r39.2) rfl rfl rfl (g_d rfl ?_)
   refine Qaa (v:=int .u64 r39.1) rfl rfl rfl (g_d rfl ?_)
   refine Qaa (v:=int .i64 r39.2) rfl rfl rfl (g_d rfl ?_)
   try dsimp only [Qai,Qaj]
   refine Qab ?_
   by_cases hb14_:x35< (a4.length:Int)
   ·
    rw [if_pos hb14_] at H
    refine Qcj (n:=17) rfl [0,1,2,3,4,5,6,7,8,9,10,11,12,13,14,15,16] [0,1,2,3,4,5,6,7,8,9,10,11,12,13,14,15,16] rfl rfl ?_
    intro rest w hh hbw hO
    have hs:=hs.samew hh hbw
    try dsimp only [Qai,Qaj]
    obtain ⟨gd16,H⟩:=ite_get H
    obtain ⟨ad17_,ad17_N,ad17_C,had17_⟩:=sl_at (hs.rd hr3) gd16.1 gd16.2
    obtain ⟨r40,Hr40,H⟩:=bind_get H
    refine Qbu ?_
    intro T hT
    refine QbV (m0:=0) hO rfl 32767 [0,1,2,3,4,5,6,7,8,9,10,11,12,13,14] [0,0,0,0,0,0,32,112,240,496,496,2032,4080,8176,16380,32767,65535] (by decide+kernel) (fun D t w=>∃ O:Nat→Value,t=(O 0::O 1::int .i64 a3::v5::O 4::O 5::O 6::O 7::pointer (some ⟨b6,0,none⟩)::O 9::O 10::pointer (some ⟨b10,0,none⟩)::int .i64 x35::v37::int .u64 r39.1::int .i64 r39.2::O 16::O 17::O 18::O 19::oT O 2 (O 30::O 31::O 32::O 33::O 34::agg (([int .i8 x30,int .i8 x31,v33]:List Value)).toArray::v37::bool false::v37::int .i64 (r36.length:Int)::bool false::O 41::bool false::v37::int .i64 (r36.length:Int)::bool false::O 46::O 47::O 48::O 49::bool false::int .i64 x35::bool false::O 53::tuple #[int .u64 r39.1,int .i64 r39.2]::agg (([int .i8 x30,int .i8 x31,v33]:List Value)).toArray::tuple #[int .u64 r39.1,int .i64 r39.2]::int .u64 r39.1::int .i64 r39.2::cnd (D 0) (agg (([int .i8 x30,int .i8 x31,v33]:List Value)).toArray) (O 59)::cnd (D 1) (int .u64 r39.1) (O 60)::cnd (D 2) (int .u64 r39.1) (O 61)::cnd (D 3) (int .i64 a3) (O 62)::cnd (D 4) (int .i64 x35) (O 63)::cnd (D 5) v5 (O 64)::cnd (D 6) (int .i64 (a4.length:Int)) (O 65)::cnd (D 7) (bool true) (O 66)::cnd (D 8) (bool true) (O 67)::cnd (D 9) v5 (O 68)::cnd (D 10) (int .i64 x35) (O 69)::cnd (D 11) (pointer (some (ad17_.add (x35.toNat*1)))) (O 70)::cnd (D 12) (bool (rdL a4 x35 false)) (O 71)::cnd (D 13) (bool (rdL a4 x35 false)) (O 72)::cnd (D 14) (bool r40) (O 73)::O 74::[]))∧St w0 [Row 2 (K.int .i64) v37 r36,Cells b6 (([int .i8 0,int .i8 0,slice none 0 0]:List Value)) 30,Row 61 Qao v33 x34,Cells b10 (([int .i8 x30,int .i8 x31,v33]:List Value)) 30] w) ?_ ⟨?_,⟨?_,⟨?_,⟨?_,⟨?_,⟨?_,⟨?_,⟨?_,⟨?_,⟨?_,⟨?_,⟨?_,⟨?_,⟨?_,⟨?_,trivial⟩⟩⟩⟩⟩⟩⟩⟩⟩⟩⟩⟩⟩⟩⟩ ?_
    ·exact ⟨fun i=>T.getD i undef,(by subst hT;rfl),hs⟩
    ·
     rintro D t w hD hp hcl ⟨O,ht,hs⟩ rest hk
     have hp:AllDone D []:=hp
     simp only [hD,cq,oT] at ht hs
     subst ht
     refine QaG rfl rfl (es:=(([int .i8 x30,int .i8 x31,v33]:List Value))) rfl rfl (fun _=>rfl) (n:=3) (fun _=>rfl) rfl (cells_all (hs.cells 3 rfl)) (g_d rfl ?_)
     try dsimp only [Qai,Qaj]
     refine hk _ _ ⟨O,?_,hs.cast ?_⟩<;>simp only [oT,lq,cq,Nat.reduceBEq]
    ·
     rintro D t w hD hp hcl ⟨O,ht,hs⟩ rest hk
     have hp:AllDone D []:=hp
     simp only [hD,cq,oT] at ht hs
     subst ht
     refine Qaa (v:=int .u64 r39.1) rfl rfl rfl (g_d rfl ?_)
     try dsimp only [Qai,Qaj]
     refine hk _ _ ⟨O,?_,hs.cast ?_⟩<;>simp only [oT,lq,cq,Nat.reduceBEq]
    ·
     rintro D t w hD hp hcl ⟨O,ht,hs⟩ rest hk
     have hp:AllDone D []:=hp
     have q14_:=ny hcl 14 0 hD
     simp only [hD,q14_,cq,oT] at ht hs
     subst ht
     refine Qaa (v:=int .u64 r39.1) rfl rfl rfl (g_d rfl ?_)
     try dsimp only [Qai,Qaj]
     refine hk _ _ ⟨O,?_,hs.cast ?_⟩<;>simp only [oT,lq,cq,Nat.reduceBEq,q14_]
    ·
     rintro D t w hD hp hcl ⟨O,ht,hs⟩ rest hk
     have hp:AllDone D []:=hp
     have q14_:=ny hcl 14 1 hD
     simp only [hD,q14_,cq,oT] at ht hs
     subst ht
     refine Qaa (v:=int .i64 a3) rfl rfl rfl (g_d rfl ?_)
     try dsimp only [Qai,Qaj]
     refine hk _ _ ⟨O,?_,hs.cast ?_⟩<;>simp only [oT,lq,cq,Nat.reduceBEq,q14_]
    ·
     rintro D t w hD hp hcl ⟨O,ht,hs⟩ rest hk
     have hp:AllDone D []:=hp
     have q7_:=ny hcl 7 0 hD
     have q8_:=ny hcl 8 0 q7_
     have q9_:=ny hcl 9 0 q8_
     have q10_:=ny hcl 10 0 q8_
     have q11_:=ny hcl 11 0 q9_
     have q12_:=ny hcl 12 0 q11_
     have q13_:=ny hcl 13 0 q8_
     have q14_:=ny hcl 14 2 q13_
     simp only [hD,q7_,q8_,q9_,q10_,q11_,q12_,q13_,q14_,cq,oT] at ht hs
     subst ht
     refine Qaa (v:=int .i64 x35) rfl rfl rfl (g_d rfl ?_)
     try dsimp only [Qai,Qaj]
     refine hk _ _ ⟨O,?_,hs.cast ?_⟩<;>simp only [oT,lq,cq,Nat.reduceBEq,q7_,q8_,q9_,q10_,q11_,q12_,q13_,q14_]
    ·
     rintro D t w hD hp hcl ⟨O,ht,hs⟩ rest hk
     have hp:AllDone D []:=hp
     have q6_:=ny hcl 6 0 hD
     have q7_:=ny hcl 7 1 q6_
     have q8_:=ny hcl 8 0 q7_
     have q9_:=ny hcl 9 0 q8_
     have q10_:=ny hcl 10 0 q8_
     have q11_:=ny hcl 11 0 q9_
     have q12_:=ny hcl 12 0 q11_
     have q13_:=ny hcl 13 0 q8_
     have q14_:=ny hcl 14 2 q13_
     simp only [hD,q6_,q7_,q8_,q9_,q10_,q11_,q12_,q13_,q14_,cq,oT] at ht hs
     subst ht
     refine Qaa (v:=v5) rfl rfl rfl (g_d rfl ?_)
     try dsimp only [Qai,Qaj]
     refine hk _ _ ⟨O,?_,hs.cast ?_⟩<;>simp only [oT,lq,cq,Nat.reduceBEq,q6_,q7_,q8_,q9_,q10_,q11_,q12_,q13_,q14_]
    ·
     rintro D t w hD hp hcl ⟨O,ht,hs⟩ rest hk
     have hp:AllDone D [5]:=hp
     obtain ⟨p5_,_⟩:=hp
     have q7_:=ny hcl 7 1 hD
     have q8_:=ny hcl 8 0 q7_
     have q9_:=ny hcl 9 0 q8_
     have q10_:=ny hcl 10 0 q8_
     have q11_:=ny hcl 11 0 q9_
     have q12_:=ny hcl 12 0 q11_
     have q13_:=ny hcl 13 0 q8_
     have q14_:=ny hcl 14 2 q13_
     simp only [hD,p5_,q7_,q8_,q9_,q10_,q11_,q12_,q13_,q14_,cq,oT] at ht hs
     subst ht
     refine Qbp (hs.rd hr3) rfl rfl rfl rfl rfl (g_d rfl ?_)
     try dsimp only [Qai,Qaj]
     refine hk _ _ ⟨O,?_,hs.cast ?_⟩<;>simp only [oT,lq,cq,Nat.reduceBEq,p5_,q7_,q8_,q9_,q10_,q11_,q12_,q13_,q14_]
    ·
     rintro D t w hD hp hcl ⟨O,ht,hs⟩ rest hk
     have hp:AllDone D [4,6]:=hp
     obtain ⟨p4_,p6_,_⟩:=hp
     obtain ⟨p5_,_⟩:=(show D 6=true→AllDone D [5] from hcl 6 (by decide)) p6_
     have q8_:=ny hcl 8 0 hD
     have q9_:=ny hcl 9 0 q8_
     have q10_:=ny hcl 10 0 q8_
     have q11_:=ny hcl 11 0 q9_
     have q12_:=ny hcl 12 0 q11_
     have q13_:=ny hcl 13 0 q8_
     have q14_:=ny hcl 14 2 q13_
     simp only [hD,p4_,p5_,p6_,q8_,q9_,q10_,q11_,q12_,q13_,q14_,cq,oT] at ht hs
     subst ht
     refine Qaa (v:=bool true) rfl rfl (run_bool (b:=decide (x35< (a4.length:Int))) rfl (by first|exact decide_eq_true hb14_|exact decide_eq_false hb14_|simp [hb14_])) (g_d rfl ?_)
     try dsimp only [Qai,Qaj]
     refine hk _ _ ⟨O,?_,hs.cast ?_⟩<;>simp only [oT,lq,cq,Nat.reduceBEq,p4_,p5_,p6_,q8_,q9_,q10_,q11_,q12_,q13_,q14_]
    ·
     rintro D t w hD hp hcl ⟨O,ht,hs⟩ rest hk
     have hp:AllDone D [7]:=hp
     obtain ⟨p7_,_⟩:=hp
     obtain ⟨p4_,p6_,_⟩:=(show D 7=true→AllDone D [4,6] from hcl 7 (by decide)) p7_
     obtain ⟨p5_,_⟩:=(show D 6=true→AllDone D [5] from hcl 6 (by decide)) p6_
     have q9_:=ny hcl 9 0 hD
     have q10_:=ny hcl 10 0 hD
     have q11_:=ny hcl 11 0 q9_
     have q12_:=ny hcl 12 0 q11_
     have q13_:=ny hcl 13 0 hD
     have q14_:=ny hcl 14 2 q13_
     simp only [hD,p4_,p5_,p6_,p7_,q9_,q10_,q11_,q12_,q13_,q14_,cq,oT] at ht hs
     subst ht
     refine Qaa (v:=bool true) rfl rfl rfl (g_d rfl ?_)
     try dsimp only [Qai,Qaj]
     refine hk _ _ ⟨O,?_,hs.cast ?_⟩<;>simp only [oT,lq,cq,Nat.reduceBEq,p4_,p5_,p6_,p7_,q9_,q10_,q11_,q12_,q13_,q14_]
    ·
     rintro D t w hD hp hcl ⟨O,ht,hs⟩ rest hk
     have hp:AllDone D [8]:=hp
     obtain ⟨p8_,_⟩:=hp
     obtain ⟨p7_,_⟩:=(show D 8=true→AllDone D [7] from hcl 8 (by decide)) p8_
     obtain ⟨p4_,p6_,_⟩:=(show D 7=true→AllDone D [4,6] from hcl 7 (by decide)) p7_
     obtain ⟨p5_,_⟩:=(show D 6=true→AllDone D [5] from hcl 6 (by decide)) p6_
     have q11_:=ny hcl 11 0 hD
     have q12_:=ny hcl 12 0 q11_
     have q13_:=ny hcl 13 1 q12_
     have q14_:=ny hcl 14 2 q13_
     simp only [hD,p4_,p5_,p6_,p7_,p8_,q11_,q12_,q13_,q14_,cq,oT] at ht hs
     subst ht
     refine Qaa (v:=v5) rfl rfl rfl (g_d rfl ?_)
     try dsimp only [Qai,Qaj]
     refine hk _ _ ⟨O,?_,hs.cast ?_⟩<;>simp only [oT,lq,cq,Nat.reduceBEq,p4_,p5_,p6_,p7_,p8_,q11_,q12_,q13_,q14_]
    ·
     rintro D t w hD hp hcl ⟨O,ht,hs⟩ rest hk
     have hp:AllDone D [8]:=hp
     obtain ⟨p8_,_⟩:=hp
     obtain ⟨p7_,_⟩:=(show D 8=true→AllDone D [7] from hcl 8 (by decide)) p8_
     obtain ⟨p4_,p6_,_⟩:=(show D 7=true→AllDone D [4,6] from hcl 7 (by decide)) p7_
     obtain ⟨p5_,_⟩:=(show D 6=true→AllDone D [5] from hcl 6 (by decide)) p6_
     have q11_:=ny hcl 11 1 hD
     have q12_:=ny hcl 12 0 q11_
     have q13_:=ny hcl 13 1 q12_
     have q14_:=ny hcl 14 2 q13_
     simp only [hD,p4_,p5_,p6_,p7_,p8_,q11_,q12_,q13_,q14_,cq,oT] at ht hs
     subst ht
     refine Qaa (v:=int .i64 x35) rfl rfl rfl (g_d rfl ?_)
     try dsimp only [Qai,Qaj]
     refine hk _ _ ⟨O,?_,hs.cast ?_⟩<;>simp only [oT,lq,cq,Nat.reduceBEq,p4_,p5_,p6_,p7_,p8_,q11_,q12_,q13_,q14_]
    ·
     rintro D t w hD hp hcl ⟨O,ht,hs⟩ rest hk
     have hp:AllDone D [9,10,8]:=hp
     obtain ⟨p9_,p10_,p8_,_⟩:=hp
     obtain ⟨p7_,_⟩:=(show D 8=true→AllDone D [7] from hcl 8 (by decide)) p8_
     obtain ⟨p4_,p6_,_⟩:=(show D 7=true→AllDone D [4,6] from hcl 7 (by decide)) p7_
     obtain ⟨p5_,_⟩:=(show D 6=true→AllDone D [5] from hcl 6 (by decide)) p6_
     have q12_:=ny hcl 12 0 hD
     have q13_:=ny hcl 13 1 q12_
     have q14_:=ny hcl 14 2 q13_
     simp only [hD,p4_,p5_,p6_,p7_,p8_,p9_,p10_,q12_,q13_,q14_,cq,oT] at ht hs
     subst ht
     refine Qcn (κ:=K.bool) (m:=1) rfl (hs.rd hr3) rfl (fun _=>rfl) gd16.1 gd16.2 had17_ rfl rfl rfl rfl rfl (g_d rfl ?_)
     try dsimp only [Qai,Qaj]
     refine hk _ _ ⟨O,?_,hs.cast ?_⟩<;>simp only [oT,lq,cq,Nat.reduceBEq,p4_,p5_,p6_,p7_,p8_,p9_,p10_,q12_,q13_,q14_]
    ·
     rintro D t w hD hp hcl ⟨O,ht,hs⟩ rest hk
     have hp:AllDone D [11,8]:=hp
     obtain ⟨p11_,p8_,_⟩:=hp
     obtain ⟨p9_,p10_,_,_⟩:=(show D 11=true→AllDone D [9,10,8] from hcl 11 (by decide)) p11_
     obtain ⟨p7_,_⟩:=(show D 8=true→AllDone D [7] from hcl 8 (by decide)) p8_
     obtain ⟨p4_,p6_,_⟩:=(show D 7=true→AllDone D [4,6] from hcl 7 (by decide)) p7_
     obtain ⟨p5_,_⟩:=(show D 6=true→AllDone D [5] from hcl 6 (by decide)) p6_
     have q13_:=ny hcl 13 1 hD
     have q14_:=ny hcl 14 2 q13_
     simp only [hD,p4_,p5_,p6_,p7_,p8_,p9_,p10_,p11_,q13_,q14_,cq,oT] at ht hs
     subst ht
     refine Qaw rfl rfl (v:=bool (rdL a4 x35 false)) rfl rfl (fun _=>rfl) (cellsAt_of fkB false (hs.rd hr3) had17_ gd16.1 gd16.2) (g_d rfl ?_)
     try dsimp only [Qai,Qaj]
     refine hk _ _ ⟨O,?_,hs.cast ?_⟩<;>simp only [oT,lq,cq,Nat.reduceBEq,p4_,p5_,p6_,p7_,p8_,p9_,p10_,p11_,q13_,q14_]
    ·
     rintro D t w hD hp hcl ⟨O,ht,hs⟩ rest hk
     have hp:AllDone D [8,12]:=hp
     obtain ⟨p8_,p12_,_⟩:=hp
     obtain ⟨p11_,_,_⟩:=(show D 12=true→AllDone D [11,8] from hcl 12 (by decide)) p12_
     obtain ⟨p9_,p10_,_,_⟩:=(show D 11=true→AllDone D [9,10,8] from hcl 11 (by decide)) p11_
     obtain ⟨p7_,_⟩:=(show D 8=true→AllDone D [7] from hcl 8 (by decide)) p8_
     obtain ⟨p4_,p6_,_⟩:=(show D 7=true→AllDone D [4,6] from hcl 7 (by decide)) p7_
     obtain ⟨p5_,_⟩:=(show D 6=true→AllDone D [5] from hcl 6 (by decide)) p6_
     have q14_:=ny hcl 14 2 hD
     simp only [hD,p4_,p5_,p6_,p7_,p8_,p9_,p10_,p11_,p12_,q14_,cq,oT] at ht hs
     subst ht
     refine Qaa (v:=bool (rdL a4 x35 false)) rfl rfl rfl (g_d rfl ?_)
     try dsimp only [Qai,Qaj]
     refine hk _ _ ⟨O,?_,hs.cast ?_⟩<;>simp only [oT,lq,cq,Nat.reduceBEq,p4_,p5_,p6_,p7_,p8_,p9_,p10_,p11_,p12_,q14_]
    ·
     rintro D t w hD hp hcl ⟨O,ht,hs⟩ rest hk
     have hp:AllDone D [2,3,13,8]:=hp
     obtain ⟨p2_,p3_,p13_,p8_,_⟩:=hp
     obtain ⟨_,p12_,_⟩:=(show D 13=true→AllDone D [8,12] from hcl 13 (by decide)) p13_
     obtain ⟨p11_,_,_⟩:=(show D 12=true→AllDone D [11,8] from hcl 12 (by decide)) p12_
     obtain ⟨p9_,p10_,_,_⟩:=(show D 11=true→AllDone D [9,10,8] from hcl 11 (by decide)) p11_
     obtain ⟨p7_,_⟩:=(show D 8=true→AllDone D [7] from hcl 8 (by decide)) p8_
     obtain ⟨p4_,p6_,_⟩:=(show D 7=true→AllDone D [4,6] from hcl 7 (by decide)) p7_
     obtain ⟨p5_,_⟩:=(show D 6=true→AllDone D [5] from hcl 6 (by decide)) p6_
     simp only [hD,p2_,p3_,p4_,p5_,p6_,p7_,p8_,p9_,p10_,p11_,p12_,p13_,cq,oT] at ht hs
     subst ht
     refine Qas (args:=[int .u64 r39.1,int .i64 a3,bool (rdL a4 x35 false)]) rfl rfl (Qat rfl (callFunc_enter Tryz.func29 rfl rfl) rfl) (Qbo.calls (a1:=r39.1) (a2:=a3) (a3:=rdL a4 x35 false) Hr40) ?_
     rintro _ w ⟨rfl,hs2⟩
     have hs:St _ [_,_,_,_] _:=hs.call hs2
     refine g_d rfl ?_
     try dsimp only [Qai,Qaj]
     refine hk _ _ ⟨O,?_,hs.cast ?_⟩<;>simp only [oT,lq,cq,Nat.reduceBEq,p2_,p3_,p4_,p5_,p6_,p7_,p8_,p9_,p10_,p11_,p12_,p13_]
    intro D t w rest hall hO15_ hI
    obtain ⟨O,ht,hs⟩:=hI
    have p0_:=hall 0 (by decide) rfl
    have p1_:=hall 1 (by decide) rfl
    have p2_:=hall 2 (by decide) rfl
    have p3_:=hall 3 (by decide) rfl
    have p4_:=hall 4 (by decide) rfl
    have p5_:=hall 5 (by decide) rfl
    have p6_:=hall 6 (by decide) rfl
    have p7_:=hall 7 (by decide) rfl
    have p8_:=hall 8 (by decide) rfl
    have p9_:=hall 9 (by decide) rfl
    have p10_:=hall 10 (by decide) rfl
    have p11_:=hall 11 (by decide) rfl
    have p12_:=hall 12 (by decide) rfl
    have p13_:=hall 13 (by decide) rfl
    have p14_:=hall 14 (by decide) rfl
    simp only [p0_,p1_,p2_,p3_,p4_,p5_,p6_,p7_,p8_,p9_,p10_,p11_,p12_,p13_,p14_,cq,oT] at ht hs
    subst ht
    obtain ⟨rest,rfl,hO18_⟩:=ord_one (m:=32767) hO15_ rfl 15 (m':=65535) (by decide+kernel) rfl
    clear hO15_
    obtain ⟨r41,Hr41,H⟩:=bind_get H
    refine Qas (args:=[agg (([int .i8 x30,int .i8 x31,v33]:List Value)).toArray,int .u64 r39.1,bool r40]) rfl rfl (Qat rfl (callFunc_enter Tryz.func37 rfl rfl) rfl) (Qby.calls (a1:=(⟨x30,x31,x34⟩:Qag)) (a4:=r39.1) (a5:=r40) (hs.row 2 rfl) Hr41) ?_
    rintro _ w ⟨v42,rfl,hs2⟩
    have hs:St _ [_,_,_,_,_] _:=hs.call hs2
    refine g_d rfl ?_
    try dsimp only [Qai,Qaj]
    obtain ⟨rest,rfl,hO19_⟩:=ord_one (m:=65535) hO18_ rfl 16 (m':=131071) (by decide+kernel) rfl
    clear hO18_
    have hs:St _ [_,_,_,_,_] _:=hs.pull 4 rfl
    refine QaB (n:=3) hs rfl rfl rfl (vs:=(([int .i8 r41.Qac,int .i8 r41.Qae,v42]:List Value))) rfl rfl rfl (fun _=>rfl) rfl (by intro v hv;simp only [List.mem_append,List.mem_cons,List.not_mem_nil,or_false] at hv;repeat (first|(subst hv;first|rfl|exact slOne (hs.row 1 rfl))|(rcases hv with hv|hv))) ?_
    intro w hs
    refine g_n rfl ?_
    obtain rfl:=ord_end hO19_ rfl (by decide+kernel)
    refine Qab ?_
    refine QaH ?_
    have hs:=hs.pull 1 rfl
    have hs:=hs.pull 1 rfl
    have hs:=hs.pull 3 rfl
    have hs:St _ [_,_,_] _:=St.take (Γ':=[_,_]) hs
    exact ha _ _ ⟨r41.Qac,r41.Qae,v42,r41.Qah,H,rfl,hs⟩
   rw [if_neg hb14_] at H
   refine Qcj (n:=17) rfl [0,1,2,3,4,5,6,7,8,9,10,11,12,13,14,15,16] [0,1,2,3,4,5,6,7,8,9,10,11,12,13,14,15,16] rfl rfl ?_
   intro rest w hh hbw hO
   have hs:=hs.samew hh hbw
   try dsimp only [Qai,Qaj]
   obtain ⟨r44,Hr44,H⟩:=bind_get H
   refine Qbu ?_
   intro T hT
   refine QbV (m0:=0) hO rfl 32767 [0,1,2,3,4,5,6,7,8,9,10,11,12,13,14] [0,0,0,0,0,0,32,112,240,496,496,2032,4080,8176,16380,32767,65535] (by decide+kernel) (fun D t w=>∃ O:Nat→Value,t=(O 0::O 1::int .i64 a3::v5::O 4::O 5::O 6::O 7::pointer (some ⟨b6,0,none⟩)::O 9::O 10::pointer (some ⟨b10,0,none⟩)::int .i64 x35::v37::int .u64 r39.1::int .i64 r39.2::O 16::O 17::O 18::O 19::oT O 2 (O 30::O 31::O 32::O 33::O 34::agg (([int .i8 x30,int .i8 x31,v33]:List Value)).toArray::v37::bool false::v37::int .i64 (r36.length:Int)::bool false::O 41::bool false::v37::int .i64 (r36.length:Int)::bool false::O 46::O 47::O 48::O 49::bool false::int .i64 x35::bool false::O 53::tuple #[int .u64 r39.1,int .i64 r39.2]::agg (([int .i8 x30,int .i8 x31,v33]:List Value)).toArray::tuple #[int .u64 r39.1,int .i64 r39.2]::int .u64 r39.1::int .i64 r39.2::cnd (D 0) (agg (([int .i8 x30,int .i8 x31,v33]:List Value)).toArray) (O 59)::cnd (D 1) (int .u64 r39.1) (O 60)::cnd (D 2) (int .u64 r39.1) (O 61)::cnd (D 3) (int .i64 a3) (O 62)::cnd (D 4) (int .i64 x35) (O 63)::cnd (D 5) v5 (O 64)::cnd (D 6) (int .i64 (a4.length:Int)) (O 65)::cnd (D 7) (bool false) (O 66)::cnd (D 8) (bool false) (O 67)::cnd (D 9) undef (O 68)::cnd (D 10) undef (O 69)::cnd (D 11) undef (O 70)::cnd (D 12) undef (O 71)::cnd (D 13) (bool false) (O 72)::cnd (D 14) (bool r44) (O 73)::O 74::[]))∧St w0 [Row 2 (K.int .i64) v37 r36,Cells b6 (([int .i8 0,int .i8 0,slice none 0 0]:List Value)) 30,Row 61 Qao v33 x34,Cells b10 (([int .i8 x30,int .i8 x31,v33]:List Value)) 30] w) ?_ ⟨?_,⟨?_,⟨?_,⟨?_,⟨?_,⟨?_,⟨?_,⟨?_,⟨?_,⟨?_,⟨?_,⟨?_,⟨?_,⟨?_,⟨?_,trivial⟩⟩⟩⟩⟩⟩⟩⟩⟩⟩⟩⟩⟩⟩⟩ ?_
   ·exact ⟨fun i=>T.getD i undef,(by subst hT;rfl),hs⟩
   ·
    rintro D t w hD hp hcl ⟨O,ht,hs⟩ rest hk
    have hp:AllDone D []:=hp
    simp only [hD,cq,oT] at ht hs
    subst ht
    refine QaG rfl rfl (es:=(([int .i8 x30,int .i8 x31,v33]:List Value))) rfl rfl (fun _=>rfl) (n:=3) (fun _=>rfl) rfl (cells_all (hs.cells 3 rfl)) (g_d rfl ?_)
    try dsimp only [Qai,Qaj]
    refine hk _ _ ⟨O,?_,hs.cast ?_⟩<;>simp only [oT,lq,cq,Nat.reduceBEq]
   ·
    rintro D t w hD hp hcl ⟨O,ht,hs⟩ rest hk
    have hp:AllDone D []:=hp
    simp only [hD,cq,oT] at ht hs
    subst ht
    refine Qaa (v:=int .u64 r39.1) rfl rfl rfl (g_d rfl ?_)
    try dsimp only [Qai,Qaj]
    refine hk _ _ ⟨O,?_,hs.cast ?_⟩<;>simp only [oT,lq,cq,Nat.reduceBEq]
   ·
    rintro D t w hD hp hcl ⟨O,ht,hs⟩ rest hk
    have hp:AllDone D []:=hp
    have q14_:=ny hcl 14 0 hD
    simp only [hD,q14_,cq,oT] at ht hs
    subst ht
    refine Qaa (v:=int .u64 r39.1) rfl rfl rfl (g_d rfl ?_)
    try dsimp only [Qai,Qaj]
    refine hk _ _ ⟨O,?_,hs.cast ?_⟩<;>simp only [oT,lq,cq,Nat.reduceBEq,q14_]
   ·
    rintro D t w hD hp hcl ⟨O,ht,hs⟩ rest hk
    have hp:AllDone D []:=hp
    have q14_:=ny hcl 14 1 hD
    simp only [hD,q14_,cq,oT] at ht hs
    subst ht
    refine Qaa (v:=int .i64 a3) rfl rfl rfl (g_d rfl ?_)
    try dsimp only [Qai,Qaj]
    refine hk _ _ ⟨O,?_,hs.cast ?_⟩<;>simp only [oT,lq,cq,Nat.reduceBEq,q14_]
   ·
    rintro D t w hD hp hcl ⟨O,ht,hs⟩ rest hk
    have hp:AllDone D []:=hp
    have q7_:=ny hcl 7 0 hD
    have q8_:=ny hcl 8 0 q7_
    have q9_:=ny hcl 9 0 q8_
    have q10_:=ny hcl 10 0 q8_
    have q11_:=ny hcl 11 0 q9_
    have q12_:=ny hcl 12 0 q11_
    have q13_:=ny hcl 13 0 q8_
    have q14_:=ny hcl 14 2 q13_
    simp only [hD,q7_,q8_,q9_,q10_,q11_,q12_,q13_,q14_,cq,oT] at ht hs
    subst ht
    refine Qaa (v:=int .i64 x35) rfl rfl rfl (g_d rfl ?_)
    try dsimp only [Qai,Qaj]
    refine hk _ _ ⟨O,?_,hs.cast ?_⟩<;>simp only [oT,lq,cq,Nat.reduceBEq,q7_,q8_,q9_,q10_,q11_,q12_,q13_,q14_]
   ·
    rintro D t w hD hp hcl ⟨O,ht,hs⟩ rest hk
    have hp:AllDone D []:=hp
    have q6_:=ny hcl 6 0 hD
    have q7_:=ny hcl 7 1 q6_
    have q8_:=ny hcl 8 0 q7_
    have q9_:=ny hcl 9 0 q8_
    have q10_:=ny hcl 10 0 q8_
    have q11_:=ny hcl 11 0 q9_
    have q12_:=ny hcl 12 0 q11_
    have q13_:=ny hcl 13 0 q8_
    have q14_:=ny hcl 14 2 q13_
    simp only [hD,q6_,q7_,q8_,q9_,q10_,q11_,q12_,q13_,q14_,cq,oT] at ht hs
    subst ht
    refine Qaa (v:=v5) rfl rfl rfl (g_d rfl ?_)
    try dsimp only [Qai,Qaj]
    refine hk _ _ ⟨O,?_,hs.cast ?_⟩<;>simp only [oT,lq,cq,Nat.reduceBEq,q6_,q7_,q8_,q9_,q10_,q11_,q12_,q13_,q14_]
   ·
    rintro D t w hD hp hcl ⟨O,ht,hs⟩ rest hk
    have hp:AllDone D [5]:=hp
    obtain ⟨p5_,_⟩:=hp
    have q7_:=ny hcl 7 1 hD
    have q8_:=ny hcl 8 0 q7_
    have q9_:=ny hcl 9 0 q8_
    have q10_:=ny hcl 10 0 q8_
    have q11_:=ny hcl 11 0 q9_
    have q12_:=ny hcl 12 0 q11_
    have q13_:=ny hcl 13 0 q8_
    have q14_:=ny hcl 14 2 q13_
    simp only [hD,p5_,q7_,q8_,q9_,q10_,q11_,q12_,q13_,q14_,cq,oT] at ht hs
    subst ht
    refine Qbp (hs.rd hr3) rfl rfl rfl rfl rfl (g_d rfl ?_)
    try dsimp only [Qai,Qaj]
    refine hk _ _ ⟨O,?_,hs.cast ?_⟩<;>simp only [oT,lq,cq,Nat.reduceBEq,p5_,q7_,q8_,q9_,q10_,q11_,q12_,q13_,q14_]
   ·
    rintro D t w hD hp hcl ⟨O,ht,hs⟩ rest hk
    have hp:AllDone D [4,6]:=hp
    obtain ⟨p4_,p6_,_⟩:=hp
    obtain ⟨p5_,_⟩:=(show D 6=true→AllDone D [5] from hcl 6 (by decide)) p6_
    have q8_:=ny hcl 8 0 hD
    have q9_:=ny hcl 9 0 q8_
    have q10_:=ny hcl 10 0 q8_
    have q11_:=ny hcl 11 0 q9_
    have q12_:=ny hcl 12 0 q11_
    have q13_:=ny hcl 13 0 q8_
    have q14_:=ny hcl 14 2 q13_
    simp only [hD,p4_,p5_,p6_,q8_,q9_,q10_,q11_,q12_,q13_,q14_,cq,oT] at ht hs
    subst ht
    refine Qaa (v:=bool false) rfl rfl (run_bool (b:=decide (x35< (a4.length:Int))) rfl (by first|exact decide_eq_true hb14_|exact decide_eq_false hb14_|simp [hb14_])) (g_d rfl ?_)
    try dsimp only [Qai,Qaj]
    refine hk _ _ ⟨O,?_,hs.cast ?_⟩<;>simp only [oT,lq,cq,Nat.reduceBEq,p4_,p5_,p6_,q8_,q9_,q10_,q11_,q12_,q13_,q14_]
   ·
    rintro D t w hD hp hcl ⟨O,ht,hs⟩ rest hk
    have hp:AllDone D [7]:=hp
    obtain ⟨p7_,_⟩:=hp
    obtain ⟨p4_,p6_,_⟩:=(show D 7=true→AllDone D [4,6] from hcl 7 (by decide)) p7_
    obtain ⟨p5_,_⟩:=(show D 6=true→AllDone D [5] from hcl 6 (by decide)) p6_
    have q9_:=ny hcl 9 0 hD
    have q10_:=ny hcl 10 0 hD
    have q11_:=ny hcl 11 0 q9_
    have q12_:=ny hcl 12 0 q11_
    have q13_:=ny hcl 13 0 hD
    have q14_:=ny hcl 14 2 q13_
    simp only [hD,p4_,p5_,p6_,p7_,q9_,q10_,q11_,q12_,q13_,q14_,cq,oT] at ht hs
    subst ht
    refine Qaa (v:=bool false) rfl rfl rfl (g_d rfl ?_)
    try dsimp only [Qai,Qaj]
    refine hk _ _ ⟨O,?_,hs.cast ?_⟩<;>simp only [oT,lq,cq,Nat.reduceBEq,p4_,p5_,p6_,p7_,q9_,q10_,q11_,q12_,q13_,q14_]
   ·
    rintro D t w hD hp hcl ⟨O,ht,hs⟩ rest hk
    have hp:AllDone D [8]:=hp
    obtain ⟨p8_,_⟩:=hp
    obtain ⟨p7_,_⟩:=(show D 8=true→AllDone D [7] from hcl 8 (by decide)) p8_
    obtain ⟨p4_,p6_,_⟩:=(show D 7=true→AllDone D [4,6] from hcl 7 (by decide)) p7_
    obtain ⟨p5_,_⟩:=(show D 6=true→AllDone D [5] from hcl 6 (by decide)) p6_
    have q11_:=ny hcl 11 0 hD
    have q12_:=ny hcl 12 0 q11_
    have q13_:=ny hcl 13 1 q12_
    have q14_:=ny hcl 14 2 q13_
    simp only [hD,p4_,p5_,p6_,p7_,p8_,q11_,q12_,q13_,q14_,cq,oT] at ht hs
    subst ht
    refine Qad rfl rfl (g_d rfl ?_)
    try dsimp only [Qai,Qaj]
    refine hk _ _ ⟨O,?_,hs.cast ?_⟩<;>simp only [oT,cq,Nat.reduceBEq,p4_,p5_,p6_,p7_,p8_,q11_,q12_,q13_,q14_]
   ·
    rintro D t w hD hp hcl ⟨O,ht,hs⟩ rest hk
    have hp:AllDone D [8]:=hp
    obtain ⟨p8_,_⟩:=hp
    obtain ⟨p7_,_⟩:=(show D 8=true→AllDone D [7] from hcl 8 (by decide)) p8_
    obtain ⟨p4_,p6_,_⟩:=(show D 7=true→AllDone D [4,6] from hcl 7 (by decide)) p7_
    obtain ⟨p5_,_⟩:=(show D 6=true→AllDone D [5] from hcl 6 (by decide)) p6_
    have q11_:=ny hcl 11 1 hD
    have q12_:=ny hcl 12 0 q11_
    have q13_:=ny hcl 13 1 q12_
    have q14_:=ny hcl 14 2 q13_
    simp only [hD,p4_,p5_,p6_,p7_,p8_,q11_,q12_,q13_,q14_,cq,oT] at ht hs
    subst ht
    refine Qad rfl rfl (g_d rfl ?_)
    try dsimp only [Qai,Qaj]
    refine hk _ _ ⟨O,?_,hs.cast ?_⟩<;>simp only [oT,cq,Nat.reduceBEq,p4_,p5_,p6_,p7_,p8_,q11_,q12_,q13_,q14_]
   ·
    rintro D t w hD hp hcl ⟨O,ht,hs⟩ rest hk
    have hp:AllDone D [9,10,8]:=hp
    obtain ⟨p9_,p10_,p8_,_⟩:=hp
    obtain ⟨p7_,_⟩:=(show D 8=true→AllDone D [7] from hcl 8 (by decide)) p8_
    obtain ⟨p4_,p6_,_⟩:=(show D 7=true→AllDone D [4,6] from hcl 7 (by decide)) p7_
    obtain ⟨p5_,_⟩:=(show D 6=true→AllDone D [5] from hcl 6 (by decide)) p6_
    have q12_:=ny hcl 12 0 hD
    have q13_:=ny hcl 13 1 q12_
    have q14_:=ny hcl 14 2 q13_
    simp only [hD,p4_,p5_,p6_,p7_,p8_,p9_,p10_,q12_,q13_,q14_,cq,oT] at ht hs
    subst ht
    refine Qad rfl rfl (g_d rfl ?_)
    try dsimp only [Qai,Qaj]
    refine hk _ _ ⟨O,?_,hs.cast ?_⟩<;>simp only [oT,cq,Nat.reduceBEq,p4_,p5_,p6_,p7_,p8_,p9_,p10_,q12_,q13_,q14_]
   ·
    rintro D t w hD hp hcl ⟨O,ht,hs⟩ rest hk
    have hp:AllDone D [11,8]:=hp
    obtain ⟨p11_,p8_,_⟩:=hp
    obtain ⟨p9_,p10_,_,_⟩:=(show D 11=true→AllDone D [9,10,8] from hcl 11 (by decide)) p11_
    obtain ⟨p7_,_⟩:=(show D 8=true→AllDone D [7] from hcl 8 (by decide)) p8_
    obtain ⟨p4_,p6_,_⟩:=(show D 7=true→AllDone D [4,6] from hcl 7 (by decide)) p7_
    obtain ⟨p5_,_⟩:=(show D 6=true→AllDone D [5] from hcl 6 (by decide)) p6_
    have q13_:=ny hcl 13 1 hD
    have q14_:=ny hcl 14 2 q13_
    simp only [hD,p4_,p5_,p6_,p7_,p8_,p9_,p10_,p11_,q13_,q14_,cq,oT] at ht hs
    subst ht
    refine Qad rfl rfl (g_d rfl ?_)
    try dsimp only [Qai,Qaj]
    refine hk _ _ ⟨O,?_,hs.cast ?_⟩<;>simp only [oT,cq,Nat.reduceBEq,p4_,p5_,p6_,p7_,p8_,p9_,p10_,p11_,q13_,q14_]
   ·
    rintro D t w hD hp hcl ⟨O,ht,hs⟩ rest hk
    have hp:AllDone D [8,12]:=hp
    obtain ⟨p8_,p12_,_⟩:=hp
    obtain ⟨p11_,_,_⟩:=(show D 12=true→AllDone D [11,8] from hcl 12 (by decide)) p12_
    obtain ⟨p9_,p10_,_,_⟩:=(show D 11=true→AllDone D [9,10,8] from hcl 11 (by decide)) p11_
    obtain ⟨p7_,_⟩:=(show D 8=true→AllDone D [7] from hcl 8 (by decide)) p8_
    obtain ⟨p4_,p6_,_⟩:=(show D 7=true→AllDone D [4,6] from hcl 7 (by decide)) p7_
    obtain ⟨p5_,_⟩:=(show D 6=true→AllDone D [5] from hcl 6 (by decide)) p6_
    have q14_:=ny hcl 14 2 hD
    simp only [hD,p4_,p5_,p6_,p7_,p8_,p9_,p10_,p11_,p12_,q14_,cq,oT] at ht hs
    subst ht
    refine Qaa (v:=bool false) rfl rfl rfl (g_d rfl ?_)
    try dsimp only [Qai,Qaj]
    refine hk _ _ ⟨O,?_,hs.cast ?_⟩<;>simp only [oT,lq,cq,Nat.reduceBEq,p4_,p5_,p6_,p7_,p8_,p9_,p10_,p11_,p12_,q14_]
   ·
    rintro D t w hD hp hcl ⟨O,ht,hs⟩ rest hk
    have hp:AllDone D [2,3,13,8]:=hp
    obtain ⟨p2_,p3_,p13_,p8_,_⟩:=hp
    obtain ⟨_,p12_,_⟩:=(show D 13=true→AllDone D [8,12] from hcl 13 (by decide)) p13_
    obtain ⟨p11_,_,_⟩:=(show D 12=true→AllDone D [11,8] from hcl 12 (by decide)) p12_
    obtain ⟨p9_,p10_,_,_⟩:=(show D 11=true→AllDone D [9,10,8] from hcl 11 (by decide)) p11_
    obtain ⟨p7_,_⟩:=(show D 8=true→AllDone D [7] from hcl 8 (by decide)) p8_
    obtain ⟨p4_,p6_,_⟩:=(show D 7=true→AllDone D [4,6] from hcl 7 (by decide)) p7_
    obtain ⟨p5_,_⟩:=(show D 6=true→AllDone D [5] from hcl 6 (by decide)) p6_
    simp only [hD,p2_,p3_,p4_,p5_,p6_,p7_,p8_,p9_,p10_,p11_,p12_,p13_,cq,oT] at ht hs
    subst ht
    refine Qas (args:=[int .u64 r39.1,int .i64 a3,bool false]) rfl rfl (Qat rfl (callFunc_enter Tryz.func29 rfl rfl) rfl) (Qbo.calls (a1:=r39.1) (a2:=a3) (a3:=false) Hr44) ?_
    rintro _ w ⟨rfl,hs2⟩
    have hs:St _ [_,_,_,_] _:=hs.call hs2
    refine g_d rfl ?_
    try dsimp only [Qai,Qaj]
    refine hk _ _ ⟨O,?_,hs.cast ?_⟩<;>simp only [oT,lq,cq,Nat.reduceBEq,p2_,p3_,p4_,p5_,p6_,p7_,p8_,p9_,p10_,p11_,p12_,p13_]
   intro D t w rest hall hO20_ hI
   obtain ⟨O,ht,hs⟩:=hI
   have p0_:=hall 0 (by decide) rfl
   have p1_:=hall 1 (by decide) rfl
   have p2_:=hall 2 (by decide) rfl
   have p3_:=hall 3 (by decide) rfl
   have p4_:=hall 4 (by decide) rfl
   have p5_:=hall 5 (by decide) rfl
   have p6_:=hall 6 (by decide) rfl
   have p7_:=hall 7 (by decide) rfl
   have p8_:=hall 8 (by decide) rfl
   have p9_:=hall 9 (by decide) rfl
   have p10_:=hall 10 (by decide) rfl
   have p11_:=hall 11 (by decide) rfl
   have p12_:=hall 12 (by decide) rfl
   have p13_:=hall 13 (by decide) rfl
   have p14_:=hall 14 (by decide) rfl
   simp only [p0_,p1_,p2_,p3_,p4_,p5_,p6_,p7_,p8_,p9_,p10_,p11_,p12_,p13_,p14_,cq,oT] at ht hs
   subst ht
   obtain ⟨rest,rfl,hO21_⟩:=ord_one (m:=32767) hO20_ rfl 15 (m':=65535) (by decide+kernel) rfl
   clear hO20_
   obtain ⟨r45,Hr45,H⟩:=bind_get H
   refine Qas (args:=[agg (([int .i8 x30,int .i8 x31,v33]:List Value)).toArray,int .u64 r39.1,bool r44]) rfl rfl (Qat rfl (callFunc_enter Tryz.func37 rfl rfl) rfl) (Qby.calls (a1:=(⟨x30,x31,x34⟩:Qag)) (a4:=r39.1) (a5:=r44) (hs.row 2 rfl) Hr45) ?_
   rintro _ w ⟨v46,rfl,hs2⟩
   have hs:St _ [_,_,_,_,_] _:=hs.call hs2
   refine g_d rfl ?_
   obtain ⟨rest,rfl,hO22_⟩:=ord_one (m:=65535) hO21_ rfl 16 (m':=131071) (by decide+kernel) rfl
   clear hO21_
   have hs:St _ [_,_,_,_,_] _:=hs.pull 4 rfl
   refine QaB (n:=3) hs rfl rfl rfl (vs:=(([int .i8 r45.Qac,int .i8 r45.Qae,v46]:List Value))) rfl rfl rfl (fun _=>rfl) rfl (by intro v hv;simp only [List.mem_append,List.mem_cons,List.not_mem_nil,or_false] at hv;repeat (first|(subst hv;first|rfl|exact slOne (hs.row 1 rfl))|(rcases hv with hv|hv))) ?_
   intro w hs
   refine g_n rfl ?_
   obtain rfl:=ord_end hO22_ rfl (by decide+kernel)
   refine Qab ?_
   refine QaH ?_
   have hs:=hs.pull 1 rfl
   have hs:=hs.pull 1 rfl
   have hs:=hs.pull 3 rfl
   have hs:St _ [_,_,_] _:=St.take (Γ':=[_,_]) hs
   exact ha _ _ ⟨r45.Qac,r45.Qae,v46,r45.Qah,H,rfl,hs⟩
  |false=>
   rw [if_neg Bool.false_ne_true] at H
   refine g_d rfl ?_
   try dsimp only [Qai,Qaj]
   refine Qaa (v:=bool true) rfl rfl rfl (g_d rfl ?_)
   refine Qaa (v:=bool true) rfl rfl rfl (g_d rfl ?_)
   try dsimp only [Qai,Qaj]
   refine Qab (Qam rfl (Qaf (Qak [0,1,2,3] rfl ?_)))
   refine Qaa (v:=agg (([int .i8 0,int .i8 0,slice none 0 0]:List Value)).toArray) rfl rfl (QbB (cs:=(([int .i8 0,int .i8 0,slice none 0 0]:List Value))) (segs:=[[int .i8 0],[int .i8 0],[slice none 0 0]]) rfl rfl (fun _=>rfl) ⟨rfl,(fun _=>rfl),rfl,(fun _=>rfl),rfl,(fun _=>rfl),trivial⟩ (by simp) (by first|rfl|(simp [ev,encA];done)|(simp [ev,encA];rfl))) ?_
   refine g_d rfl ?_
   refine QaB (n:=3) hs rfl rfl rfl (vs:=(([int .i8 0,int .i8 0,slice none 0 0]:List Value))) rfl rfl rfl (fun _=>rfl) rfl (by simp [Value.oneCell']) ?_
   intro w hs
   refine g_n rfl ?_
   refine Qaa (v:=int .i64 0) rfl rfl rfl (g_d rfl ?_)
   try dsimp only [Qai,Qaj]
   refine Qaa (v:=int .i64 2) rfl rfl rfl (g_d rfl (Qab ?_))
   obtain rfl:=QsJ H
   refine Qax Tryz.func7 (v:=tuple #[agg (([int .i8 0,int .i8 0,slice none 0 0]:List Value)).toArray,int .i64 0,int .i64 2]) (resN (l:=Tryz.f7.results.toList) (vs:=[agg (([int .i8 0,int .i8 0,slice none 0 0]:List Value)).toArray,int .i64 0,int .i64 2]) rfl ⟨⟨_,rfl,(run_loadVar_agg (es:=(([int .i8 0,int .i8 0,slice none 0 0]:List Value))) rfl rfl (cells_all (hs.cells 0 rfl)))⟩,rfl,rfl,trivial⟩ (by simp)) ?_
   have hs:=hs.nil 61 Qao
   have hs:=hs.pull 0 rfl
   have hs:St _ [_] _:=St.take (Γ':=[_]) hs
   exact ⟨_,rfl,(slice none 0 0),rfl,hs⟩
 |false=>
  rw [if_neg Bool.false_ne_true] at H
  refine g_d rfl ?_
  refine Qaa (v:=bool true) rfl rfl rfl (g_d rfl ?_)
  try dsimp only [Qai,Qaj]
  refine Qaa (v:=bool true) rfl rfl rfl (g_d rfl (Qad rfl rfl (g_d rfl (Qad rfl rfl (g_d rfl (Qad rfl rfl (g_d rfl ?_)))))))
  refine Qad rfl rfl (g_d rfl ?_)
  try dsimp only [Qai,Qaj]
  refine Qad rfl rfl (g_d rfl ?_)
  refine Qaa (v:=bool true) rfl rfl rfl (g_d rfl ?_)
  try dsimp only [Qai,Qaj]
  refine Qab (Qam rfl (Qaf (Qak [0,1,2,3] rfl ?_)))
  refine Qaa (v:=agg (([int .i8 0,int .i8 0,slice none 0 0]:List Value)).toArray) rfl rfl (QbB (cs:=(([int .i8 0,int .i8 0,slice none 0 0]:List Value))) (segs:=[[int .i8 0],[int .i8 0],[slice none 0 0]]) rfl rfl (fun _=>rfl) ⟨rfl,(fun _=>rfl),rfl,(fun _=>rfl),rfl,(fun _=>rfl),trivial⟩ (by simp) (by first|rfl|(simp [ev,encA];done)|(simp [ev,encA];rfl))) ?_
  refine g_d rfl ?_
  refine QaB (n:=3) hs rfl rfl rfl (vs:=(([int .i8 0,int .i8 0,slice none 0 0]:List Value))) rfl rfl rfl (fun _=>rfl) rfl (by simp [Value.oneCell']) ?_
  intro w hs
  refine g_n rfl ?_
  refine Qaa (v:=int .i64 0) rfl rfl rfl (g_d rfl ?_)
  try dsimp only [Qai,Qaj]
  refine Qaa (v:=int .i64 2) rfl rfl rfl (g_d rfl (Qab ?_))
  obtain rfl:=QsJ H
  refine Qax Tryz.func7 (v:=tuple #[agg (([int .i8 0,int .i8 0,slice none 0 0]:List Value)).toArray,int .i64 0,int .i64 2]) (resN (l:=Tryz.f7.results.toList) (vs:=[agg (([int .i8 0,int .i8 0,slice none 0 0]:List Value)).toArray,int .i64 0,int .i64 2]) rfl ⟨⟨_,rfl,(run_loadVar_agg (es:=(([int .i8 0,int .i8 0,slice none 0 0]:List Value))) rfl rfl (cells_all (hs.cells 0 rfl)))⟩,rfl,rfl,trivial⟩ (by simp)) ?_
  have hs:=hs.nil 61 Qao
  have hs:=hs.pull 0 rfl
  have hs:St _ [_] _:=St.take (Γ':=[_]) hs
  exact ⟨_,rfl,(slice none 0 0),rfl,hs⟩
def Qbs.post (w0:World) (r:Bool) (v:Value) (w:World):Prop:=v=bool r∧St w0 [] w
theorem Qbs.calls {N:Nat} {a1:Int} {a2:Int} {a3:Int} {w0:World} {r:Bool} (H:Qbs.f N a1 a2 a3=some r):
 Calls Tryz.prog 39 #[int .i64 a1,int .i64 a2,int .i64 a3] w0 fun e w=>∃ v,e= .returned v∧Qbs.post w0 r v w:=by
 unfold Qbs.f at H
 have hs:St w0 [] w0:=St.refl w0
 refine calls_of_g (n:=12) Tryz.func39 rfl rfl ?_
 show G _ _ _ _ [_,_,_,_,_,_,_,_,_,_,_,_,_,_,_] _
 refine Qaf (Qak [0] rfl ?_)
 refine Qaa (v:=bool false) rfl rfl rfl (Qab (Qaf (Qak [0,1,2,3,4,5,6,7,8] rfl ?_)))
 refine Qaa (v:=int .i64 a1) rfl rfl rfl ?_
 show G _ _ _ _ [_,_,_,_,_,_,_,_,_,_,_,_,_,_,_] _
 refine Qaa (v:=int .i64 a2) rfl rfl rfl ?_
 refine QaA (B:=decide (a1≥a2)) rfl rfl rfl ?_ ?_
 ·
  intro hb
  rw [if_pos (b_dec_t hb)] at H
  show G _ _ _ _ [_,_,_,_,_,_,_,_,_,_,_,_,_,_,_] _
  refine Qaa (v:=bool true) rfl rfl rfl ?_
  refine Qaa (v:=int .i64 a1) rfl rfl rfl ?_
  refine Qaa (v:=int .i64 a3) rfl rfl rfl ?_
  show G _ _ _ _ [_,_,_,_,_,_,_,_,_,_,_,_,_,_,_] _
  refine Qaa (v:=bool (decide (a1≤a3))) rfl rfl rfl ?_
  refine Qaa (v:=bool (decide (a1≤a3))) rfl rfl rfl ?_
  refine Qaa (v:=bool (decide (a1≤a3))) rfl rfl rfl ?_
  show G _ _ _ _ [_,_,_,_,_,_,_,_,_,_,_,_,_,_,_] _
  refine Qab ?_
  obtain rfl:=QsJ H
  refine Qax Tryz.func39 (v:=bool (decide (a1≤a3))) (res1 rfl rfl) ?_
  have hs:St _ [] _:=St.take (Γ':=[]) hs
  exact ⟨_,rfl,rfl,hs⟩
 intro hb
 rw [if_neg (b_dec_f hb)] at H
 refine Qaa (v:=bool false) rfl rfl rfl ?_
 show G _ _ _ _ [_,_,_,_,_,_,_,_,_,_,_,_,_,_,_] _
 refine Qad rfl rfl (Qad rfl rfl (Qad rfl rfl ?_))
 show G _ _ _ _ [_,_,_,_,_,_,_,_,_,_,_,_,_,_,_] _
 refine Qaa (v:=bool false) rfl rfl rfl ?_
 refine Qaa (v:=bool false) rfl rfl rfl (Qab ?_)
 obtain rfl:=QsJ H
 refine Qax Tryz.func39 (v:=bool false) (res1 rfl rfl) ?_
 have hs:St _ [] _:=St.take (Γ':=[]) hs
 exact ⟨_,rfl,rfl,hs⟩
def QbE.post (w0:World) (r:Bool) (v:Value) (w:World):Prop:=v=bool r∧St w0 [] w
theorem QbE.calls {N:Nat} {a1:Int} {a2:Int} {w0:World} {r:Bool} (H:QbE.f N a1 a2=some r):
 Calls Tryz.prog 38 #[int .i64 a1,int .i64 a2] w0 fun e w=>∃ v,e= .returned v∧QbE.post w0 r v w:=by
 unfold QbE.f at H
 have hs:St w0 [] w0:=St.refl w0
 refine calls_of_g (n:=9) Tryz.func38 rfl rfl ?_
 show G _ _ _ _ [_,_,_,_,_,_,_,_,_,_,_] _
 refine Qaf (Qak [0] rfl ?_)
 refine Qaa (v:=bool false) rfl rfl rfl (Qab (Qaf (Qak [0,1,2,3,4,5,6] rfl ?_)))
 refine Qaa (v:=int .i64 a1) rfl rfl rfl ?_
 show G _ _ _ _ [_,_,_,_,_,_,_,_,_,_,_] _
 obtain ⟨r3,Hr3,H⟩:=bind_get H
 refine Qas (args:=[int .i64 a1,int .i64 1,int .i64 60]) rfl rfl (Qat rfl (callFunc_enter Tryz.func39 rfl rfl) rfl) (Qbs.calls (a1:=a1) (a2:=1) (a3:=60) Hr3) ?_
 rintro _ w ⟨rfl,hs2⟩
 have hs:St _ [] _:=hs.call hs2
 cases r3 with
 |true=>
  rw [if_pos rfl] at H
  refine Qaa (v:=bool true) rfl rfl rfl ?_
  refine Qaa (v:=int .i64 a2) rfl rfl rfl ?_
  show G _ _ _ _ [_,_,_,_,_,_,_,_,_,_,_] _
  obtain ⟨r4,Hr4,H⟩:=bind_get H
  refine Qas (args:=[int .i64 a2,int .i64 0,int .i64 3]) rfl rfl (Qat rfl (callFunc_enter Tryz.func39 rfl rfl) rfl) (Qbs.calls (a1:=a2) (a2:=0) (a3:=3) Hr4) ?_
  rintro _ w ⟨rfl,hs2⟩
  have hs:St _ [] _:=hs.call hs2
  refine Qaa (v:=bool r4) rfl rfl rfl ?_
  refine Qaa (v:=bool r4) rfl rfl rfl ?_
  show G _ _ _ _ [_,_,_,_,_,_,_,_,_,_,_] _
  refine Qab ?_
  obtain rfl:=QsJ H
  refine Qax Tryz.func38 (v:=bool r4) (res1 rfl rfl) ?_
  have hs:St _ [] _:=St.take (Γ':=[]) hs
  exact ⟨_,rfl,rfl,hs⟩
 |false=>
  rw [if_neg Bool.false_ne_true] at H
  refine Qaa (v:=bool false) rfl rfl rfl (Qad rfl rfl ?_)
  show G _ _ _ _ [_,_,_,_,_,_,_,_,_,_,_] _
  refine Qad rfl rfl ?_
  refine Qaa (v:=bool false) rfl rfl rfl ?_
  refine Qaa (v:=bool false) rfl rfl rfl ?_
  show G _ _ _ _ [_,_,_,_,_,_,_,_,_,_,_] _
  refine Qab ?_
  obtain rfl:=QsJ H
  refine Qax Tryz.func38 (v:=bool false) (res1 rfl rfl) ?_
  have hs:St _ [] _:=St.take (Γ':=[]) hs
  exact ⟨_,rfl,rfl,hs⟩
def Qcd.post (w0:World) (r:Bool) (v:Value) (w:World):Prop:=v=bool r∧St w0 [] w
theorem Qcd.calls {N:Nat} {a1:Qav} {a2:Int} {w0:World} {r:Bool} (H:Qcd.f N a1 a2=some r):
 Calls Tryz.prog 116 #[agg (QaC a1).toArray,int .i64 a2] w0 fun e w=>∃ v,e= .returned v∧Qcd.post w0 r v w:=by
 unfold Qcd.f at H
 have hs:St w0 [] w0:=St.refl w0
 refine calls_of_g (n:=13) Tryz.func116 rfl rfl ?_
 show G _ _ _ _ [_,_,_,_,_,_,_,_,_,_,_,_,_,_,_] _
 refine Qaf (Qak [0,1] rfl ?_)
 refine Qbx hs rfl rfl (cs:=(QaC a1)) rfl rfl ?_
 intro b3 w hs
 refine Qaa (v:=bool false) rfl rfl rfl (Qab (Qaf (Qak [0,1,2,3,4,5,6,7,8,9,10] rfl ?_)))
 refine Qaa (v:=pointer (some ⟨b3,0,none⟩)) rfl rfl rfl ?_
 show G _ _ _ _ [_,_,_,_,_,_,_,_,_,_,_,_,_,_,_] _
 refine Qaw rfl rfl (v:=int .u64 a1.Qbh) rfl rfl (fun _=>rfl) (cells_load (hs.cells 0 rfl) 0 1 rfl) ?_
 refine Qaa (v:=int .i64 a2) rfl rfl rfl ?_
 refine Qaa (v:=int .u64 (u64w a2)) rfl rfl rfl ?_
 show G _ _ _ _ [_,_,_,_,_,_,_,_,_,_,_,_,_,_,_] _
 obtain ⟨g1,H⟩:=ite_get H
 refine Qaa (v:=int .u64 (shrI .u64 a1.Qbh (u64w a2))) rfl rfl (QcC rfl rfl rfl g1) ?_
 refine Qaa (v:=int .u64 (bAnd .u64 (shrI .u64 a1.Qbh (u64w a2)) 1)) rfl rfl rfl ?_
 refine Qaa (v:=bool ((bAnd .u64 (shrI .u64 a1.Qbh (u64w a2)) 1)==1)) rfl rfl rfl ?_
 show G _ _ _ _ [_,_,_,_,_,_,_,_,_,_,_,_,_,_,_] _
 refine Qaa (v:=pointer (some ⟨b3,1,none⟩)) rfl rfl rfl ?_
 refine Qaw rfl rfl (v:=bool a1.QbH) rfl rfl (fun _=>rfl) (cells_load (hs.cells 0 rfl) 1 1 rfl) ?_
 refine Qaa (v:=bool (((bAnd .u64 (shrI .u64 a1.Qbh (u64w a2)) 1)==1) !=a1.QbH)) rfl rfl rfl ?_
 show G _ _ _ _ [_,_,_,_,_,_,_,_,_,_,_,_,_,_,_] _
 refine Qaa (v:=bool (((bAnd .u64 (shrI .u64 a1.Qbh (u64w a2)) 1)==1) !=a1.QbH)) rfl rfl rfl (Qab ?_)
 obtain rfl:=QsJ H
 refine Qax Tryz.func116 (v:=bool (((bAnd .u64 (shrI .u64 a1.Qbh (u64w a2)) 1)==1) !=a1.QbH)) (res1 rfl rfl) ?_
 have hs:St _ [] _:=St.take (Γ':=[_]) hs
 exact ⟨_,rfl,rfl,hs⟩
end Go.Proofs.YtdnipilfcjkfoaaGreatDoorX
