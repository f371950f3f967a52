import Derived.Test.YtdnipilfcjkfoaaGreatDoorP5
namespace Go.Proofs.YtdnipilfcjkfoaaGreatDoorX
open Go Go.RowKit Go.Proofs
open Go.Value (int pointer bool agg slice string tuple)
set_option maxHeartbeats 8000000
set_option maxRecDepth 100000
set_option linter.unusedVariables false
set_option linter.unusedSimpArgs false
def Qcg.post (w0:World) (r:Bool) (v:Value) (w:World):Prop:=v=bool r∧St w0 [] w
theorem Qcg.calls {N:Nat} {a1:(List Int)} {v2:Value} {w0:World} {r:Bool} (hr0:RdRow (K.int .u8) w0 v2 a1) (H:Qcg.f N a1=some r):
 Calls Tryz.prog 4 #[v2] w0 fun e w=>∃ v,e= .returned v∧Qcg.post w0 r v w:=by
 unfold Qcg.f at H
 have hs:St w0 [] w0:=St.refl w0
 refine calls_of_g (n:=5) Tryz.func4 rfl rfl ?_
 show G _ _ _ _ [_,_,_,_,_,_] _
 refine Qaf (Qak [0] rfl ?_)
 refine Qaa (v:=bool false) rfl rfl rfl (Qab (Qaf (Qak [0,1,2,3] rfl ?_)))
 refine Qaa (v:=v2) rfl rfl rfl ?_
 show G _ _ _ _ [_,_,_,_,_,_] _
 refine Qbp (hs.rd hr0) rfl rfl rfl rfl rfl ?_
 refine Qaa (v:=bool (decide ((a1.length:Int)>4096))) rfl rfl rfl ?_
 refine Qaa (v:=bool (decide ((a1.length:Int)>4096))) rfl rfl rfl ?_
 show G _ _ _ _ [_,_,_,_,_,_] _
 refine Qab ?_
 obtain rfl:=QsJ H
 refine Qax Tryz.func4 (v:=bool (decide ((a1.length:Int)>4096))) (res1 rfl rfl) ?_
 have hs:St _ [] _:=St.take (Γ':=[]) hs
 exact ⟨_,rfl,rfl,hs⟩
def QbF.post (w0:World) (v2:Value) (r:Qaz) (v:Value) (w:World):Prop:=∃ b1:Nat,v=pointer (some ⟨b1,0,none⟩)∧St w0 [Cells b1 (([v2,int .i64 r.Qa3,int .u64 r.QaT]:List Value)) 112] w
theorem QbF.calls {N:Nat} {a1:(List Int)} {v2:Value} {w0:World} {r:Qaz} (hr0:RdRow (K.int .u8) w0 v2 a1) (H:QbF.f N a1=some r):
 Calls Tryz.prog 32 #[v2] w0 fun e w=>∃ v,e= .returned v∧QbF.post w0 v2 r v w:=by
 unfold QbF.f at H
 have hs:St w0 [] w0:=St.refl w0
 refine calls_of_g (n:=5) Tryz.func32 rfl rfl ?_
 show G _ _ _ _ [_,_,_,_,_,_] _
 refine Qaf (Qak [0] rfl ?_)
 refine Qaa (v:=pointer none) rfl rfl rfl (Qab (Qaf (Qak [0,1,2,3] rfl ?_)))
 refine Qaa (v:=v2) rfl rfl rfl ?_
 show G _ _ _ _ [_,_,_,_,_,_] _
 refine Qaa (v:=agg (([v2,int .i64 0,int .u64 0]:List Value)).toArray) rfl rfl (QbB (cs:=(([v2,int .i64 0,int .u64 0]:List Value))) (segs:=[[slice none 0 0],[int .i64 0],[int .u64 0]]) rfl rfl (fun _=>rfl) ⟨rfl,(fun _=>rfl),rfl,(fun _=>rfl),rfl,(fun _=>rfl),trivial⟩ (by simp only [List.map_cons,List.map_nil,List.forall_mem_cons,List.not_mem_nil,false_implies,implies_true,and_true];exact ⟨_,rfl,slSize (hs.rd hr0)⟩) (by first|rfl|(simp [ev,encA,slCells (hs.rd hr0)];done)|(simp [ev,encA,slCells (hs.rd hr0)];rfl))) ?_
 refine Qbx hs rfl rfl (cs:=(([v2,int .i64 0,int .u64 0]:List Value))) rfl rfl ?_
 intro b3 w hs
 refine Qaa (v:=pointer (some ⟨b3,0,none⟩)) rfl rfl rfl ?_
 show G _ _ _ _ [_,_,_,_,_,_] _
 refine Qab ?_
 obtain rfl:=QsJ H
 refine Qax Tryz.func32 (v:=pointer (some ⟨b3,0,none⟩)) (res1 rfl rfl) ?_
 have hs:=hs.pull 0 rfl
 have hs:St _ [_] _:=St.take (Γ':=[]) hs
 exact ⟨_,rfl,b3,rfl,hs⟩
def Qa8.post (wb:World) (Z:As) (b2:Nat) (v3:Value) (r:(Int×Qaz)) (v:Value) (w:World):Prop:=v=int .i64 r.1∧St wb [Cells b2 (([v3,int .i64 r.2.Qa3,int .u64 r.2.QaT]:List Value)) 112,Z] w
theorem Qa8.calls {N:Nat} {a1:Qaz} {b2:Nat} {v3:Value} {wb:World} {Z:As} {w0:World} {r:(Int×Qaz)} (hs:St wb [Cells b2 (([v3,int .i64 a1.Qa3,int .u64 a1.QaT]:List Value)) 112,Z] w0) (hr4:RdRow (K.int .u8) wb v3 a1.Qa0) (H:Qa8.f N a1=some r):
 Calls Tryz.prog 71 #[pointer (some ⟨b2,0,none⟩)] w0 fun e w=>∃ v,e= .returned v∧Qa8.post wb Z b2 v3 r v w:=by
 unfold Qa8.f at H
 refine calls_of_g (n:=61) Tryz.func71 rfl rfl ?_
 show G _ _ _ _ (_::_::_::_::_::_::_::_::_::_::_::_::_::_::_::_::_::_::_::_::_::_::_::_::_::_::_::_::_::_::_::_::_::_::_::_::_::_::_::_::_::_::_::_::_::_::_::_::_::_::_::_::_::_::_::_::_::_::_::_::_::_::[]) _
 refine Qaf (Qak [0] rfl ?_)
 refine Qaa (v:=int .i64 0) rfl rfl rfl (g_d rfl (Qab (Qaf (Qak [0] rfl ?_))))
 refine Qaa (v:=int .i64 0) rfl rfl rfl (g_d rfl ?_)
 try dsimp only [Qai,Qaj]
 refine Qab (Qaf (Qaf ?_))
 refine Qcq (J:=(fun t w=>∃ x6:Int,Qa8.j0 N a1 x6=some r∧Fr t (fun O=>(pointer (some ⟨b2,0,none⟩)::O 1::O 2::int .i64 x6::O 4::O 5::O 6::O 7::O 8::O 9::oT O 1 (oT O 2 (oT O 3 (oT O 4 (oT O 5 (O 60::O 61::[]))))):List Value))∧St wb [Cells b2 (([v3,int .i64 a1.Qa3,int .u64 a1.QaT]:List Value)) 112,Z] w)) ?_ ?_
 ·
  rintro t w ⟨x6,H,hf,hs⟩
  obtain ⟨O,rfl⟩:=hf.open
  try dsimp only [oT]
  unfold Qa8.j0 at H
  refine Qaf (Qak [0,1,2,3,4,5,6,7] rfl ?_)
  refine Qaa (v:=pointer (some ⟨b2,0,none⟩)) rfl rfl rfl (g_d rfl ?_)
  refine Qaa (v:=pointer (some ⟨b2,0,none⟩)) rfl rfl rfl (g_d rfl ?_)
  refine Qaa (v:=pointer (some ⟨b2,1,none⟩)) rfl rfl rfl (g_d rfl ?_)
  refine Qaw rfl rfl (v:=int .i64 a1.Qa3) rfl rfl (fun _=>rfl) (cells_load (hs.cells 0 rfl) 1 1 rfl) (g_d rfl ?_)
  refine Qaa (v:=int .i64 (i64w (a1.Qa3+1))) rfl rfl rfl (g_d rfl ?_)
  try dsimp only [Qai,Qaj]
  refine Qaa (v:=pointer (some ⟨b2,0,none⟩)) rfl rfl rfl (g_d rfl ?_)
  refine Qaa (v:=pointer (some ⟨b2,1,none⟩)) rfl rfl rfl (g_d rfl ?_)
  refine Qck hs rfl rfl (vs:=((encI .i64) (i64w (a1.Qa3+1)))) (cs':=(([v3,int .i64 (i64w (a1.Qa3+1)),int .u64 a1.QaT]:List Value))) rfl rfl rfl (n:=1) (fun _=>rfl) ((fkI .i64).len _) (by first|exact Nat.le_of_ble_eq_true rfl|simp [encAI_len,encAB_len,encA_len]) ((fkI .i64).one _) rfl ?_
  intro w hs
  refine g_n rfl (Qab (Qaf (Qak [0,1,2,3,4,5,6,7,8,9,10,11,12] rfl ?_)))
  refine Qaa (v:=pointer (some ⟨b2,0,none⟩)) rfl rfl rfl (g_d rfl ?_)
  refine Qaa (v:=pointer (some ⟨b2,0,none⟩)) rfl rfl rfl (g_d rfl ?_)
  refine Qaa (v:=pointer (some ⟨b2,0,none⟩)) rfl rfl rfl (g_d rfl ?_)
  refine Qaa (v:=pointer (some ⟨b2,2,none⟩)) rfl rfl rfl (g_d rfl ?_)
  refine Qaw rfl rfl (v:=int .u64 a1.QaT) rfl rfl (fun _=>rfl) (cells_load (hs.cells 0 rfl) 2 1 rfl) (g_d rfl ?_)
  refine Qaa (v:=int .u64 (u64w (a1.QaT*6364136223846793005))) rfl rfl rfl (g_d rfl ?_)
  try dsimp only [Qai,Qaj]
  refine Qaa (v:=int .i64 x6) rfl rfl rfl (g_d rfl ?_)
  refine Qaa (v:=int .u64 (u64w x6)) rfl rfl rfl (g_d rfl ?_)
  refine Qaa (v:=int .u64 (u64w ((u64w (a1.QaT*6364136223846793005))+(u64w x6)))) rfl rfl rfl (g_d rfl ?_)
  refine Qaa (v:=int .u64 (u64w ((u64w ((u64w (a1.QaT*6364136223846793005))+(u64w x6)))+1442695040888963407))) rfl rfl rfl (g_d rfl ?_)
  try dsimp only [Qai,Qaj]
  refine Qaa (v:=pointer (some ⟨b2,0,none⟩)) rfl rfl rfl (g_d rfl ?_)
  refine Qaa (v:=pointer (some ⟨b2,2,none⟩)) rfl rfl rfl (g_d rfl ?_)
  refine Qck hs rfl rfl (vs:=((encI .u64) (u64w ((u64w ((u64w (a1.QaT*6364136223846793005))+(u64w x6)))+1442695040888963407)))) (cs':=(([v3,int .i64 (i64w (a1.Qa3+1)),int .u64 (u64w ((u64w ((u64w (a1.QaT*6364136223846793005))+(u64w x6)))+1442695040888963407))]:List Value))) rfl rfl rfl (n:=1) (fun _=>rfl) ((fkI .u64).len _) (by first|exact Nat.le_of_ble_eq_true rfl|simp [encAI_len,encAB_len,encA_len]) ((fkI .u64).one _) rfl ?_
  intro w hs
  refine g_n rfl (Qab (Qaf (Qaf ?_)))
  refine Qcj (n:=10) rfl [0,1,2,3,4,5,6,7,8,9] [0,1,2,3,4,5,6,7,8,9] rfl rfl ?_
  intro rest w hh hbw hO
  have hs:=hs.samew hh hbw
  try dsimp only [Qai,Qaj]
  refine Qbu ?_
  intro T hT
  refine QbV (m0:=0) hO rfl 511 [0,1,2,3,4,5,6,7,8] [0,1,3,7,0,16,48,112,240,511] (by decide+kernel) (fun D t w=>∃ O:Nat→Value,t=(pointer (some ⟨b2,0,none⟩)::O 1::O 2::int .i64 x6::O 4::O 5::O 6::O 7::O 8::O 9::oT O 1 (O 20::O 21::O 22::O 23::O 24::pointer (some ⟨b2,0,none⟩)::pointer (some ⟨b2,0,none⟩)::pointer (some ⟨b2,1,none⟩)::int .i64 a1.Qa3::int .i64 (i64w (a1.Qa3+1))::pointer (some ⟨b2,0,none⟩)::pointer (some ⟨b2,1,none⟩)::pointer (some ⟨b2,0,none⟩)::pointer (some ⟨b2,0,none⟩)::pointer (some ⟨b2,0,none⟩)::pointer (some ⟨b2,2,none⟩)::int .u64 a1.QaT::int .u64 (u64w (a1.QaT*6364136223846793005))::int .i64 x6::int .u64 (u64w x6)::int .u64 (u64w ((u64w (a1.QaT*6364136223846793005))+(u64w x6)))::int .u64 (u64w ((u64w ((u64w (a1.QaT*6364136223846793005))+(u64w x6)))+1442695040888963407))::pointer (some ⟨b2,0,none⟩)::pointer (some ⟨b2,2,none⟩)::cnd (D 0) (pointer (some ⟨b2,0,none⟩)) (O 44)::cnd (D 1) (pointer (some ⟨b2,0,none⟩)) (O 45)::cnd (D 2) (pointer (some ⟨b2,1,none⟩)) (O 46)::cnd (D 3) (int .i64 (i64w (a1.Qa3+1))) (O 47)::cnd (D 4) (pointer (some ⟨b2,0,none⟩)) (O 48)::cnd (D 5) (pointer (some ⟨b2,0,none⟩)) (O 49)::cnd (D 6) (pointer (some ⟨b2,0,none⟩)) (O 50)::cnd (D 7) v3 (O 51)::cnd (D 8) (int .i64 (a1.Qa0.length:Int)) (O 52)::O 53::O 54::O 55::O 56::O 57::O 58::O 59::O 60::O 61::[]))∧St wb [Cells b2 (([v3,int .i64 (i64w (a1.Qa3+1)),int .u64 (u64w ((u64w ((u64w (a1.QaT*6364136223846793005))+(u64w x6)))+1442695040888963407))]:List Value)) 112,Z] w) ?_ ⟨?_,⟨?_,⟨?_,⟨?_,⟨?_,⟨?_,⟨?_,⟨?_,⟨?_,trivial⟩⟩⟩⟩⟩⟩⟩⟩⟩ ?_
  ·exact ⟨fun i=>T.getD i undef,(by subst hT;rfl),hs⟩
  ·
   rintro D t w hD hp hcl ⟨O,ht,hs⟩ rest hk
   have hp:AllDone D []:=hp
   have q1_:=ny hcl 1 0 hD
   have q2_:=ny hcl 2 0 q1_
   have q3_:=ny hcl 3 0 q2_
   simp only [hD,q1_,q2_,q3_,cq,oT] at ht hs
   subst ht
   refine Qaa (v:=pointer (some ⟨b2,0,none⟩)) rfl rfl rfl (g_d rfl ?_)
   try dsimp only [Qai,Qaj]
   refine hk _ _ ⟨O,?_,hs.cast ?_⟩<;>simp only [oT,lq,cq,Nat.reduceBEq,q1_,q2_,q3_]
  ·
   rintro D t w hD hp hcl ⟨O,ht,hs⟩ rest hk
   have hp:AllDone D [0]:=hp
   obtain ⟨p0_,_⟩:=hp
   have q2_:=ny hcl 2 0 hD
   have q3_:=ny hcl 3 0 q2_
   simp only [hD,p0_,q2_,q3_,cq,oT] at ht hs
   subst ht
   refine Qaa (v:=pointer (some ⟨b2,0,none⟩)) rfl rfl rfl (g_d rfl ?_)
   try dsimp only [Qai,Qaj]
   refine hk _ _ ⟨O,?_,hs.cast ?_⟩<;>simp only [oT,lq,cq,Nat.reduceBEq,p0_,q2_,q3_]
  ·
   rintro D t w hD hp hcl ⟨O,ht,hs⟩ rest hk
   have hp:AllDone D [1]:=hp
   obtain ⟨p1_,_⟩:=hp
   obtain ⟨p0_,_⟩:=(show D 1=true→AllDone D [0] from hcl 1 (by decide)) p1_
   have q3_:=ny hcl 3 0 hD
   simp only [hD,p0_,p1_,q3_,cq,oT] at ht hs
   subst ht
   refine Qaa (v:=pointer (some ⟨b2,1,none⟩)) rfl rfl rfl (g_d rfl ?_)
   try dsimp only [Qai,Qaj]
   refine hk _ _ ⟨O,?_,hs.cast ?_⟩<;>simp only [oT,lq,cq,Nat.reduceBEq,p0_,p1_,q3_]
  ·
   rintro D t w hD hp hcl ⟨O,ht,hs⟩ rest hk
   have hp:AllDone D [2]:=hp
   obtain ⟨p2_,_⟩:=hp
   obtain ⟨p1_,_⟩:=(show D 2=true→AllDone D [1] from hcl 2 (by decide)) p2_
   obtain ⟨p0_,_⟩:=(show D 1=true→AllDone D [0] from hcl 1 (by decide)) p1_
   simp only [hD,p0_,p1_,p2_,cq,oT] at ht hs
   subst ht
   refine Qaw rfl rfl (v:=int .i64 (i64w (a1.Qa3+1))) rfl rfl (fun _=>rfl) (cells_load (hs.cells 0 rfl) 1 1 rfl) (g_d rfl ?_)
   try dsimp only [Qai,Qaj]
   refine hk _ _ ⟨O,?_,hs.cast ?_⟩<;>simp only [oT,lq,cq,Nat.reduceBEq,p0_,p1_,p2_]
  ·
   rintro D t w hD hp hcl ⟨O,ht,hs⟩ rest hk
   have hp:AllDone D []:=hp
   have q5_:=ny hcl 5 0 hD
   have q6_:=ny hcl 6 0 q5_
   have q7_:=ny hcl 7 0 q6_
   have q8_:=ny hcl 8 0 q7_
   simp only [hD,q5_,q6_,q7_,q8_,cq,oT] at ht hs
   subst ht
   refine Qaa (v:=pointer (some ⟨b2,0,none⟩)) rfl rfl rfl (g_d rfl ?_)
   try dsimp only [Qai,Qaj]
   refine hk _ _ ⟨O,?_,hs.cast ?_⟩<;>simp only [oT,lq,cq,Nat.reduceBEq,q5_,q6_,q7_,q8_]
  ·
   rintro D t w hD hp hcl ⟨O,ht,hs⟩ rest hk
   have hp:AllDone D [4]:=hp
   obtain ⟨p4_,_⟩:=hp
   have q6_:=ny hcl 6 0 hD
   have q7_:=ny hcl 7 0 q6_
   have q8_:=ny hcl 8 0 q7_
   simp only [hD,p4_,q6_,q7_,q8_,cq,oT] at ht hs
   subst ht
   refine Qaa (v:=pointer (some ⟨b2,0,none⟩)) rfl rfl rfl (g_d rfl ?_)
   try dsimp only [Qai,Qaj]
   refine hk _ _ ⟨O,?_,hs.cast ?_⟩<;>simp only [oT,lq,cq,Nat.reduceBEq,p4_,q6_,q7_,q8_]
  ·
   rintro D t w hD hp hcl ⟨O,ht,hs⟩ rest hk
   have hp:AllDone D [5]:=hp
   obtain ⟨p5_,_⟩:=hp
   obtain ⟨p4_,_⟩:=(show D 5=true→AllDone D [4] from hcl 5 (by decide)) p5_
   have q7_:=ny hcl 7 0 hD
   have q8_:=ny hcl 8 0 q7_
   simp only [hD,p4_,p5_,q7_,q8_,cq,oT] at ht hs
   subst ht
   refine Qaa (v:=pointer (some ⟨b2,0,none⟩)) rfl rfl rfl (g_d rfl ?_)
   try dsimp only [Qai,Qaj]
   refine hk _ _ ⟨O,?_,hs.cast ?_⟩<;>simp only [oT,lq,cq,Nat.reduceBEq,p4_,p5_,q7_,q8_]
  ·
   rintro D t w hD hp hcl ⟨O,ht,hs⟩ rest hk
   have hp:AllDone D [6]:=hp
   obtain ⟨p6_,_⟩:=hp
   obtain ⟨p5_,_⟩:=(show D 6=true→AllDone D [5] from hcl 6 (by decide)) p6_
   obtain ⟨p4_,_⟩:=(show D 5=true→AllDone D [4] from hcl 5 (by decide)) p5_
   have q8_:=ny hcl 8 0 hD
   simp only [hD,p4_,p5_,p6_,q8_,cq,oT] at ht hs
   subst ht
   refine Qaw rfl rfl (v:=v3) rfl rfl (fun _=>rfl) (cells_load (hs.cells 0 rfl) 0 1 rfl) (g_d rfl ?_)
   try dsimp only [Qai,Qaj]
   refine hk _ _ ⟨O,?_,hs.cast ?_⟩<;>simp only [oT,lq,cq,Nat.reduceBEq,p4_,p5_,p6_,q8_]
  ·
   rintro D t w hD hp hcl ⟨O,ht,hs⟩ rest hk
   have hp:AllDone D [7]:=hp
   obtain ⟨p7_,_⟩:=hp
   obtain ⟨p6_,_⟩:=(show D 7=true→AllDone D [6] from hcl 7 (by decide)) p7_
   obtain ⟨p5_,_⟩:=(show D 6=true→AllDone D [5] from hcl 6 (by decide)) p6_
   obtain ⟨p4_,_⟩:=(show D 5=true→AllDone D [4] from hcl 5 (by decide)) p5_
   simp only [hD,p4_,p5_,p6_,p7_,cq,oT] at ht hs
   subst ht
   refine Qbp (hs.rd hr4) rfl rfl rfl rfl rfl (g_d rfl ?_)
   try dsimp only [Qai,Qaj]
   refine hk _ _ ⟨O,?_,hs.cast ?_⟩<;>simp only [oT,lq,cq,Nat.reduceBEq,p4_,p5_,p6_,p7_]
  intro D t w rest hall hO5_ hI
  obtain ⟨O,ht,hs⟩:=hI
  have p0_:=hall 0 (by decide) rfl
  have p1_:=hall 1 (by decide) rfl
  have p2_:=hall 2 (by decide) rfl
  have p3_:=hall 3 (by decide) rfl
  have p4_:=hall 4 (by decide) rfl
  have p5_:=hall 5 (by decide) rfl
  have p6_:=hall 6 (by decide) rfl
  have p7_:=hall 7 (by decide) rfl
  have p8_:=hall 8 (by decide) rfl
  simp only [p0_,p1_,p2_,p3_,p4_,p5_,p6_,p7_,p8_,cq,oT] at ht hs
  subst ht
  obtain ⟨rest,rfl,hO6_⟩:=ord_one (m:=511) hO5_ rfl 9 (m':=1023) (by decide+kernel) rfl
  clear hO5_
  refine QaA (B:=decide ((i64w (a1.Qa3+1))≤(a1.Qa0.length:Int))) rfl rfl rfl ?_ ?_
  ·
   intro hb
   rw [if_pos (b_dec_t hb)] at H
   refine g_d rfl ?_
   try dsimp only [Qai,Qaj]
   obtain rfl:=ord_end hO6_ rfl (by decide+kernel)
   refine Qab (Qam rfl (Qaf (Qak [0,1] rfl ?_)))
   refine Qaa (v:=int .i64 x6) rfl rfl rfl (g_d rfl ?_)
   refine Qaa (v:=int .i64 x6) rfl rfl rfl (g_d rfl (Qab ?_))
   obtain rfl:=QsJ H
   refine Qax Tryz.func71 (v:=int .i64 x6) (res1 rfl rfl) ?_
   have hs:=hs.pull 1 rfl
   have hs:=hs.pull 1 rfl
   have hs:St _ [_,_] _:=St.take (Γ':=[]) hs
   exact ⟨_,rfl,rfl,hs⟩
  intro hb
  rw [if_neg (b_dec_f hb)] at H
  refine g_d rfl ?_
  obtain rfl:=ord_end hO6_ rfl (by decide+kernel)
  refine Qab (Qap rfl (QaE (Qaf (Qak [0,1,2,3,4,5,6,7] rfl ?_))))
  refine Qaa (v:=pointer (some ⟨b2,0,none⟩)) rfl rfl rfl (g_d rfl ?_)
  refine Qaa (v:=pointer (some ⟨b2,0,none⟩)) rfl rfl rfl (g_d rfl ?_)
  refine Qaa (v:=pointer (some ⟨b2,2,none⟩)) rfl rfl rfl (g_d rfl ?_)
  refine Qaw rfl rfl (v:=int .u64 (u64w ((u64w ((u64w (a1.QaT*6364136223846793005))+(u64w x6)))+1442695040888963407))) rfl rfl (fun _=>rfl) (cells_load (hs.cells 0 rfl) 2 1 rfl) (g_d rfl ?_)
  try dsimp only [Qai,Qaj]
  refine Qaa (v:=int .u64 (shrI .u64 (u64w ((u64w ((u64w (a1.QaT*6364136223846793005))+(u64w x6)))+1442695040888963407)) 40)) rfl rfl rfl (g_d rfl ?_)
  refine Qaa (v:=int .u64 (bAnd .u64 (shrI .u64 (u64w ((u64w ((u64w (a1.QaT*6364136223846793005))+(u64w x6)))+1442695040888963407)) 40) 255)) rfl rfl rfl (g_d rfl ?_)
  try dsimp only [Qai,Qaj]
  refine Qaa (v:=int .i64 (i64w (bAnd .u64 (shrI .u64 (u64w ((u64w ((u64w (a1.QaT*6364136223846793005))+(u64w x6)))+1442695040888963407)) 40) 255))) rfl rfl rfl (g_d rfl ?_)
  refine Qaa (v:=int .i64 (i64w (bAnd .u64 (shrI .u64 (u64w ((u64w ((u64w (a1.QaT*6364136223846793005))+(u64w x6)))+1442695040888963407)) 40) 255))) rfl rfl rfl (g_d rfl (Qab ?_))
  obtain rfl:=QsJ H
  refine Qax Tryz.func71 (v:=int .i64 (i64w (bAnd .u64 (shrI .u64 (u64w ((u64w ((u64w (a1.QaT*6364136223846793005))+(u64w x6)))+1442695040888963407)) 40) 255))) (res1 rfl rfl) ?_
  have hs:=hs.pull 1 rfl
  have hs:=hs.pull 1 rfl
  have hs:St _ [_,_] _:=St.take (Γ':=[]) hs
  exact ⟨_,rfl,rfl,hs⟩
 intro ha
 refine Qcj (n:=10) rfl [0,1,2,3,4,5,6,7,8,9] [0,1,2,3,4,5,6,7,8,9] rfl rfl ?_
 intro rest w hh hbw hO
 have hs:=hs.samew hh hbw
 try dsimp only [Qai,Qaj]
 refine Qbu ?_
 intro T hT
 refine QbV (m0:=0) hO rfl 511 [0,1,2,3,4,5,6,7,8] [0,1,3,7,0,16,48,112,240,511] (by decide+kernel) (fun D t w=>∃ O:Nat→Value,t=(pointer (some ⟨b2,0,none⟩)::O 1::int .i64 0::int .i64 0::cnd (D 0) (pointer (some ⟨b2,0,none⟩)) (O 4)::cnd (D 1) (pointer (some ⟨b2,0,none⟩)) (O 5)::cnd (D 2) (pointer (some ⟨b2,1,none⟩)) (O 6)::cnd (D 3) (int .i64 a1.Qa3) (O 7)::cnd (D 4) (pointer (some ⟨b2,0,none⟩)) (O 8)::cnd (D 5) (pointer (some ⟨b2,0,none⟩)) (O 9)::cnd (D 6) (pointer (some ⟨b2,0,none⟩)) (O 10)::cnd (D 7) v3 (O 11)::cnd (D 8) (int .i64 (a1.Qa0.length:Int)) (O 12)::O 13::O 14::O 15::O 16::O 17::O 18::O 19::oT O 2 (oT O 3 (oT O 4 (oT O 5 (O 60::O 61::[])))))∧St wb [Cells b2 (([v3,int .i64 a1.Qa3,int .u64 a1.QaT]:List Value)) 112,Z] w) ?_ ⟨?_,⟨?_,⟨?_,⟨?_,⟨?_,⟨?_,⟨?_,⟨?_,⟨?_,trivial⟩⟩⟩⟩⟩⟩⟩⟩⟩ ?_
 ·exact ⟨fun i=>T.getD i undef,(by subst hT;rfl),hs⟩
 ·
  rintro D t w hD hp hcl ⟨O,ht,hs⟩ rest hk
  have hp:AllDone D []:=hp
  have q1_:=ny hcl 1 0 hD
  have q2_:=ny hcl 2 0 q1_
  have q3_:=ny hcl 3 0 q2_
  simp only [hD,q1_,q2_,q3_,cq,oT] at ht hs
  subst ht
  refine Qaa (v:=pointer (some ⟨b2,0,none⟩)) rfl rfl rfl (g_d rfl ?_)
  try dsimp only [Qai,Qaj]
  refine hk _ _ ⟨O,?_,hs.cast ?_⟩<;>simp only [oT,lq,cq,Nat.reduceBEq,q1_,q2_,q3_]
 ·
  rintro D t w hD hp hcl ⟨O,ht,hs⟩ rest hk
  have hp:AllDone D [0]:=hp
  obtain ⟨p0_,_⟩:=hp
  have q2_:=ny hcl 2 0 hD
  have q3_:=ny hcl 3 0 q2_
  simp only [hD,p0_,q2_,q3_,cq,oT] at ht hs
  subst ht
  refine Qaa (v:=pointer (some ⟨b2,0,none⟩)) rfl rfl rfl (g_d rfl ?_)
  try dsimp only [Qai,Qaj]
  refine hk _ _ ⟨O,?_,hs.cast ?_⟩<;>simp only [oT,lq,cq,Nat.reduceBEq,p0_,q2_,q3_]
 ·
  rintro D t w hD hp hcl ⟨O,ht,hs⟩ rest hk
  have hp:AllDone D [1]:=hp
  obtain ⟨p1_,_⟩:=hp
  obtain ⟨p0_,_⟩:=(show D 1=true→AllDone D [0] from hcl 1 (by decide)) p1_
  have q3_:=ny hcl 3 0 hD
  simp only [hD,p0_,p1_,q3_,cq,oT] at ht hs
  subst ht
  refine Qaa (v:=pointer (some ⟨b2,1,none⟩)) rfl rfl rfl (g_d rfl ?_)
  try dsimp only [Qai,Qaj]
  refine hk _ _ ⟨O,?_,hs.cast ?_⟩<;>simp only [oT,lq,cq,Nat.reduceBEq,p0_,p1_,q3_]
 ·
  rintro D t w hD hp hcl ⟨O,ht,hs⟩ rest hk
  have hp:AllDone D [2]:=hp
  obtain ⟨p2_,_⟩:=hp
  obtain ⟨p1_,_⟩:=(show D 2=true→AllDone D [1] from hcl 2 (by decide)) p2_
  obtain ⟨p0_,_⟩:=(show D 1=true→AllDone D [0] from hcl 1 (by decide)) p1_
  simp only [hD,p0_,p1_,p2_,cq,oT] at ht hs
  subst ht
  refine Qaw rfl rfl (v:=int .i64 a1.Qa3) rfl rfl (fun _=>rfl) (cells_load (hs.cells 0 rfl) 1 1 rfl) (g_d rfl ?_)
  try dsimp only [Qai,Qaj]
  refine hk _ _ ⟨O,?_,hs.cast ?_⟩<;>simp only [oT,lq,cq,Nat.reduceBEq,p0_,p1_,p2_]
 ·
  rintro D t w hD hp hcl ⟨O,ht,hs⟩ rest hk
  have hp:AllDone D []:=hp
  have q5_:=ny hcl 5 0 hD
  have q6_:=ny hcl 6 0 q5_
  have q7_:=ny hcl 7 0 q6_
  have q8_:=ny hcl 8 0 q7_
  simp only [hD,q5_,q6_,q7_,q8_,cq,oT] at ht hs
  subst ht
  refine Qaa (v:=pointer (some ⟨b2,0,none⟩)) rfl rfl rfl (g_d rfl ?_)
  try dsimp only [Qai,Qaj]
  refine hk _ _ ⟨O,?_,hs.cast ?_⟩<;>simp only [oT,lq,cq,Nat.reduceBEq,q5_,q6_,q7_,q8_]
 ·
  rintro D t w hD hp hcl ⟨O,ht,hs⟩ rest hk
  have hp:AllDone D [4]:=hp
  obtain ⟨p4_,_⟩:=hp
  have q6_:=ny hcl 6 0 hD
  have q7_:=ny hcl 7 0 q6_
  have q8_:=ny hcl 8 0 q7_
  simp only [hD,p4_,q6_,q7_,q8_,cq,oT] at ht hs
  subst ht
  refine Qaa (v:=pointer (some ⟨b2,0,none⟩)) rfl rfl rfl (g_d rfl ?_)
  try dsimp only [Qai,Qaj]
  refine hk _ _ ⟨O,?_,hs.cast ?_⟩<;>simp only [oT,lq,cq,Nat.reduceBEq,p4_,q6_,q7_,q8_]
 ·
  rintro D t w hD hp hcl ⟨O,ht,hs⟩ rest hk
  have hp:AllDone D [5]:=hp
  obtain ⟨p5_,_⟩:=hp
  obtain ⟨p4_,_⟩:=(show D 5=true→AllDone D [4] from hcl 5 (by decide)) p5_
  have q7_:=ny hcl 7 0 hD
  have q8_:=ny hcl 8 0 q7_
  simp only [hD,p4_,p5_,q7_,q8_,cq,oT] at ht hs
  subst ht
  refine Qaa (v:=pointer (some ⟨b2,0,none⟩)) rfl rfl rfl (g_d rfl ?_)
  try dsimp only [Qai,Qaj]
  refine hk _ _ ⟨O,?_,hs.cast ?_⟩<;>simp only [oT,lq,cq,Nat.reduceBEq,p4_,p5_,q7_,q8_]
 ·
  rintro D t w hD hp hcl ⟨O,ht,hs⟩ rest hk
  have hp:AllDone D [6]:=hp
  obtain ⟨p6_,_⟩:=hp
  obtain ⟨p5_,_⟩:=(show D 6=true→AllDone D [5] from hcl 6 (by decide)) p6_
  obtain ⟨p4_,_⟩:=(show D 5=true→AllDone D [4] from hcl 5 (by decide)) p5_
  have q8_:=ny hcl 8 0 hD
  simp only [hD,p4_,p5_,p6_,q8_,cq,oT] at ht hs
  subst ht
  refine Qaw rfl rfl (v:=v3) rfl rfl (fun _=>rfl) (cells_load (hs.cells 0 rfl) 0 1 rfl) (g_d rfl ?_)
  try dsimp only [Qai,Qaj]
  refine hk _ _ ⟨O,?_,hs.cast ?_⟩<;>simp only [oT,lq,cq,Nat.reduceBEq,p4_,p5_,p6_,q8_]
 ·
  rintro D t w hD hp hcl ⟨O,ht,hs⟩ rest hk
  have hp:AllDone D [7]:=hp
  obtain ⟨p7_,_⟩:=hp
  obtain ⟨p6_,_⟩:=(show D 7=true→AllDone D [6] from hcl 7 (by decide)) p7_
  obtain ⟨p5_,_⟩:=(show D 6=true→AllDone D [5] from hcl 6 (by decide)) p6_
  obtain ⟨p4_,_⟩:=(show D 5=true→AllDone D [4] from hcl 5 (by decide)) p5_
  simp only [hD,p4_,p5_,p6_,p7_,cq,oT] at ht hs
  subst ht
  refine Qbp (hs.rd hr4) rfl rfl rfl rfl rfl (g_d rfl ?_)
  try dsimp only [Qai,Qaj]
  refine hk _ _ ⟨O,?_,hs.cast ?_⟩<;>simp only [oT,lq,cq,Nat.reduceBEq,p4_,p5_,p6_,p7_]
 intro D t w rest hall hO1_ hI
 obtain ⟨O,ht,hs⟩:=hI
 have p0_:=hall 0 (by decide) rfl
 have p1_:=hall 1 (by decide) rfl
 have p2_:=hall 2 (by decide) rfl
 have p3_:=hall 3 (by decide) rfl
 have p4_:=hall 4 (by decide) rfl
 have p5_:=hall 5 (by decide) rfl
 have p6_:=hall 6 (by decide) rfl
 have p7_:=hall 7 (by decide) rfl
 have p8_:=hall 8 (by decide) rfl
 simp only [p0_,p1_,p2_,p3_,p4_,p5_,p6_,p7_,p8_,cq,oT] at ht hs
 subst ht
 obtain ⟨rest,rfl,hO2_⟩:=ord_one (m:=511) hO1_ rfl 9 (m':=1023) (by decide+kernel) rfl
 clear hO1_
 refine QaA (B:=decide (a1.Qa3< (a1.Qa0.length:Int))) rfl rfl rfl ?_ ?_
 ·
  intro hb
  rw [if_pos (b_dec_t hb)] at H
  refine g_d rfl ?_
  try dsimp only [Qai,Qaj]
  obtain rfl:=ord_end hO2_ rfl (by decide+kernel)
  refine Qab (Qam rfl ?_)
  obtain ⟨gd3,H⟩:=ite_get H
  obtain ⟨ad4_,ad4_N,ad4_C,had4_⟩:=sl_at (hs.rd hr4) gd3.1 gd3.2
  refine Qbu ?_
  intro T hT
  refine Qcl (n:=12) rfl [0,1,2,3,4,5,6,7,8,9,10,11] [0,1,2,3,4,5,6,7,8,9,10,11] rfl rfl (Inv:=fun D t w=>∃ O:Nat→Value,t=(pointer (some ⟨b2,0,none⟩)::O 1::int .i64 0::cnd (D 11) (int .i64 (i64w (rdL a1.Qa0 a1.Qa3 0))) (int .i64 0)::pointer (some ⟨b2,0,none⟩)::pointer (some ⟨b2,0,none⟩)::pointer (some ⟨b2,1,none⟩)::int .i64 a1.Qa3::pointer (some ⟨b2,0,none⟩)::pointer (some ⟨b2,0,none⟩)::pointer (some ⟨b2,0,none⟩)::v3::int .i64 (a1.Qa0.length:Int)::bool true::cnd (D 0) (pointer (some ⟨b2,0,none⟩)) (O 14)::cnd (D 1) (pointer (some ⟨b2,0,none⟩)) (O 15)::cnd (D 2) (pointer (some ⟨b2,0,none⟩)) (O 16)::cnd (D 3) v3 (O 17)::cnd (D 4) (pointer (some ⟨b2,0,none⟩)) (O 18)::cnd (D 5) (pointer (some ⟨b2,0,none⟩)) (O 19)::cnd (D 6) (pointer (some ⟨b2,1,none⟩)) (O 20)::cnd (D 7) (int .i64 a1.Qa3) (O 21)::cnd (D 8) (pointer (some (ad4_.add (a1.Qa3.toNat*1)))) (O 22)::cnd (D 9) (int .u8 (rdL a1.Qa0 a1.Qa3 0)) (O 23)::cnd (D 10) (int .i64 (i64w (rdL a1.Qa0 a1.Qa3 0))) (O 24)::O 25::O 26::O 27::O 28::O 29::oT O 3 (oT O 4 (oT O 5 (O 60::O 61::[]))))∧St wb [Cells b2 (([v3,int .i64 a1.Qa3,int .u64 a1.QaT]:List Value)) 112,Z] w) ?_ ⟨⟨⟨⟨⟨⟨⟨⟨⟨⟨⟨⟨trivial,?_⟩,?_⟩,?_⟩,?_⟩,?_⟩,?_⟩,?_⟩,?_⟩,?_⟩,?_⟩,?_⟩,?_⟩ ?_
  ·
   intro w hh hbw
   have hs:=hs.samew hh hbw
   exact ⟨fun i=>T.getD i undef,(by subst hT;rfl),hs⟩
  ·
   rintro D t w hD hp hcl ⟨O,ht,hs⟩ rest hk
   have q1_:=nz hcl 1 0 hD
   have q2_:=nz hcl 2 0 q1_
   have q3_:=nz hcl 3 0 q2_
   have q8_:=nz hcl 8 0 q3_
   have q9_:=nz hcl 9 0 q8_
   have q10_:=nz hcl 10 0 q9_
   have q11_:=nz hcl 11 0 q10_
   simp only [hD,q1_,q2_,q3_,q8_,q9_,q10_,q11_,cq,oT] at ht hs
   subst ht
   refine Qaa (v:=pointer (some ⟨b2,0,none⟩)) rfl rfl rfl (g_d rfl ?_)
   try dsimp only [Qai,Qaj]
   refine hk _ _ ⟨O,?_,hs.cast ?_⟩<;>simp only [oT,lq,cq,Nat.reduceBEq,q1_,q2_,q3_,q8_,q9_,q10_,q11_]
  ·
   rintro D t w hD hp hcl ⟨O,ht,hs⟩ rest hk
   obtain ⟨p0_,_⟩:=hp
   have q2_:=nz hcl 2 0 hD
   have q3_:=nz hcl 3 0 q2_
   have q8_:=nz hcl 8 0 q3_
   have q9_:=nz hcl 9 0 q8_
   have q10_:=nz hcl 10 0 q9_
   have q11_:=nz hcl 11 0 q10_
   simp only [hD,p0_,q2_,q3_,q8_,q9_,q10_,q11_,cq,oT] at ht hs
   subst ht
   refine Qaa (v:=pointer (some ⟨b2,0,none⟩)) rfl rfl rfl (g_d rfl ?_)
   try dsimp only [Qai,Qaj]
   refine hk _ _ ⟨O,?_,hs.cast ?_⟩<;>simp only [oT,lq,cq,Nat.reduceBEq,p0_,q2_,q3_,q8_,q9_,q10_,q11_]
  ·
   rintro D t w hD hp hcl ⟨O,ht,hs⟩ rest hk
   obtain ⟨p1_,_⟩:=hp
   obtain ⟨p0_,_⟩:=(hcl.get 1 (by decide)) p1_
   have q3_:=nz hcl 3 0 hD
   have q8_:=nz hcl 8 0 q3_
   have q9_:=nz hcl 9 0 q8_
   have q10_:=nz hcl 10 0 q9_
   have q11_:=nz hcl 11 0 q10_
   simp only [hD,p0_,p1_,q3_,q8_,q9_,q10_,q11_,cq,oT] at ht hs
   subst ht
   refine Qaa (v:=pointer (some ⟨b2,0,none⟩)) rfl rfl rfl (g_d rfl ?_)
   try dsimp only [Qai,Qaj]
   refine hk _ _ ⟨O,?_,hs.cast ?_⟩<;>simp only [oT,lq,cq,Nat.reduceBEq,p0_,p1_,q3_,q8_,q9_,q10_,q11_]
  ·
   rintro D t w hD hp hcl ⟨O,ht,hs⟩ rest hk
   obtain ⟨p2_,_⟩:=hp
   obtain ⟨p1_,_⟩:=(hcl.get 2 (by decide)) p2_
   obtain ⟨p0_,_⟩:=(hcl.get 1 (by decide)) p1_
   have q8_:=nz hcl 8 0 hD
   have q9_:=nz hcl 9 0 q8_
   have q10_:=nz hcl 10 0 q9_
   have q11_:=nz hcl 11 0 q10_
   simp only [hD,p0_,p1_,p2_,q8_,q9_,q10_,q11_,cq,oT] at ht hs
   subst ht
   refine Qaw rfl rfl (v:=v3) rfl rfl (fun _=>rfl) (cells_load (hs.cells 0 rfl) 0 1 rfl) (g_d rfl ?_)
   try dsimp only [Qai,Qaj]
   refine hk _ _ ⟨O,?_,hs.cast ?_⟩<;>simp only [oT,lq,cq,Nat.reduceBEq,p0_,p1_,p2_,q8_,q9_,q10_,q11_]
  ·
   rintro D t w hD hp hcl ⟨O,ht,hs⟩ rest hk
   have q5_:=nz hcl 5 0 hD
   have q6_:=nz hcl 6 0 q5_
   have q7_:=nz hcl 7 0 q6_
   have q8_:=nz hcl 8 1 q7_
   have q9_:=nz hcl 9 0 q8_
   have q10_:=nz hcl 10 0 q9_
   have q11_:=nz hcl 11 0 q10_
   simp only [hD,q5_,q6_,q7_,q8_,q9_,q10_,q11_,cq,oT] at ht hs
   subst ht
   refine Qaa (v:=pointer (some ⟨b2,0,none⟩)) rfl rfl rfl (g_d rfl ?_)
   try dsimp only [Qai,Qaj]
   refine hk _ _ ⟨O,?_,hs.cast ?_⟩<;>simp only [oT,lq,cq,Nat.reduceBEq,q5_,q6_,q7_,q8_,q9_,q10_,q11_]
  ·
   rintro D t w hD hp hcl ⟨O,ht,hs⟩ rest hk
   obtain ⟨p4_,_⟩:=hp
   have q6_:=nz hcl 6 0 hD
   have q7_:=nz hcl 7 0 q6_
   have q8_:=nz hcl 8 1 q7_
   have q9_:=nz hcl 9 0 q8_
   have q10_:=nz hcl 10 0 q9_
   have q11_:=nz hcl 11 0 q10_
   simp only [hD,p4_,q6_,q7_,q8_,q9_,q10_,q11_,cq,oT] at ht hs
   subst ht
   refine Qaa (v:=pointer (some ⟨b2,0,none⟩)) rfl rfl rfl (g_d rfl ?_)
   try dsimp only [Qai,Qaj]
   refine hk _ _ ⟨O,?_,hs.cast ?_⟩<;>simp only [oT,lq,cq,Nat.reduceBEq,p4_,q6_,q7_,q8_,q9_,q10_,q11_]
  ·
   rintro D t w hD hp hcl ⟨O,ht,hs⟩ rest hk
   obtain ⟨p5_,_⟩:=hp
   obtain ⟨p4_,_⟩:=(hcl.get 5 (by decide)) p5_
   have q7_:=nz hcl 7 0 hD
   have q8_:=nz hcl 8 1 q7_
   have q9_:=nz hcl 9 0 q8_
   have q10_:=nz hcl 10 0 q9_
   have q11_:=nz hcl 11 0 q10_
   simp only [hD,p4_,p5_,q7_,q8_,q9_,q10_,q11_,cq,oT] at ht hs
   subst ht
   refine Qaa (v:=pointer (some ⟨b2,1,none⟩)) rfl rfl rfl (g_d rfl ?_)
   try dsimp only [Qai,Qaj]
   refine hk _ _ ⟨O,?_,hs.cast ?_⟩<;>simp only [oT,lq,cq,Nat.reduceBEq,p4_,p5_,q7_,q8_,q9_,q10_,q11_]
  ·
   rintro D t w hD hp hcl ⟨O,ht,hs⟩ rest hk
   obtain ⟨p6_,_⟩:=hp
   obtain ⟨p5_,_⟩:=(hcl.get 6 (by decide)) p6_
   obtain ⟨p4_,_⟩:=(hcl.get 5 (by decide)) p5_
   have q8_:=nz hcl 8 1 hD
   have q9_:=nz hcl 9 0 q8_
   have q10_:=nz hcl 10 0 q9_
   have q11_:=nz hcl 11 0 q10_
   simp only [hD,p4_,p5_,p6_,q8_,q9_,q10_,q11_,cq,oT] at ht hs
   subst ht
   refine Qaw rfl rfl (v:=int .i64 a1.Qa3) rfl rfl (fun _=>rfl) (cells_load (hs.cells 0 rfl) 1 1 rfl) (g_d rfl ?_)
   try dsimp only [Qai,Qaj]
   refine hk _ _ ⟨O,?_,hs.cast ?_⟩<;>simp only [oT,lq,cq,Nat.reduceBEq,p4_,p5_,p6_,q8_,q9_,q10_,q11_]
  ·
   rintro D t w hD hp hcl ⟨O,ht,hs⟩ rest hk
   obtain ⟨p3_,p7_,_⟩:=hp
   obtain ⟨p6_,_⟩:=(hcl.get 7 (by decide)) p7_
   obtain ⟨p5_,_⟩:=(hcl.get 6 (by decide)) p6_
   obtain ⟨p4_,_⟩:=(hcl.get 5 (by decide)) p5_
   obtain ⟨p2_,_⟩:=(hcl.get 3 (by decide)) p3_
   obtain ⟨p1_,_⟩:=(hcl.get 2 (by decide)) p2_
   obtain ⟨p0_,_⟩:=(hcl.get 1 (by decide)) p1_
   have q9_:=nz hcl 9 0 hD
   have q10_:=nz hcl 10 0 q9_
   have q11_:=nz hcl 11 0 q10_
   simp only [hD,p0_,p1_,p2_,p3_,p4_,p5_,p6_,p7_,q9_,q10_,q11_,cq,oT] at ht hs
   subst ht
   refine Qcn (κ:=(K.int .u8)) (m:=1) rfl (hs.rd hr4) rfl (fun _=>rfl) gd3.1 gd3.2 had4_ rfl rfl rfl rfl rfl (g_d rfl ?_)
   try dsimp only [Qai,Qaj]
   refine hk _ _ ⟨O,?_,hs.cast ?_⟩<;>simp only [oT,lq,cq,Nat.reduceBEq,p0_,p1_,p2_,p3_,p4_,p5_,p6_,p7_,q9_,q10_,q11_]
  ·
   rintro D t w hD hp hcl ⟨O,ht,hs⟩ rest hk
   obtain ⟨p8_,_⟩:=hp
   obtain ⟨p3_,p7_,_⟩:=(hcl.get 8 (by decide)) p8_
   obtain ⟨p6_,_⟩:=(hcl.get 7 (by decide)) p7_
   obtain ⟨p5_,_⟩:=(hcl.get 6 (by decide)) p6_
   obtain ⟨p4_,_⟩:=(hcl.get 5 (by decide)) p5_
   obtain ⟨p2_,_⟩:=(hcl.get 3 (by decide)) p3_
   obtain ⟨p1_,_⟩:=(hcl.get 2 (by decide)) p2_
   obtain ⟨p0_,_⟩:=(hcl.get 1 (by decide)) p1_
   have q10_:=nz hcl 10 0 hD
   have q11_:=nz hcl 11 0 q10_
   simp only [hD,p0_,p1_,p2_,p3_,p4_,p5_,p6_,p7_,p8_,q10_,q11_,cq,oT] at ht hs
   subst ht
   refine Qaw rfl rfl (v:=int .u8 (rdL a1.Qa0 a1.Qa3 0)) rfl rfl (fun _=>rfl) (cellsAt_of (fkI .u8) 0 (hs.rd hr4) had4_ gd3.1 gd3.2) (g_d rfl ?_)
   try dsimp only [Qai,Qaj]
   refine hk _ _ ⟨O,?_,hs.cast ?_⟩<;>simp only [oT,lq,cq,Nat.reduceBEq,p0_,p1_,p2_,p3_,p4_,p5_,p6_,p7_,p8_,q10_,q11_]
  ·
   rintro D t w hD hp hcl ⟨O,ht,hs⟩ rest hk
   obtain ⟨p9_,_⟩:=hp
   obtain ⟨p8_,_⟩:=(hcl.get 9 (by decide)) p9_
   obtain ⟨p3_,p7_,_⟩:=(hcl.get 8 (by decide)) p8_
   obtain ⟨p6_,_⟩:=(hcl.get 7 (by decide)) p7_
   obtain ⟨p5_,_⟩:=(hcl.get 6 (by decide)) p6_
   obtain ⟨p4_,_⟩:=(hcl.get 5 (by decide)) p5_
   obtain ⟨p2_,_⟩:=(hcl.get 3 (by decide)) p3_
   obtain ⟨p1_,_⟩:=(hcl.get 2 (by decide)) p2_
   obtain ⟨p0_,_⟩:=(hcl.get 1 (by decide)) p1_
   have q11_:=nz hcl 11 0 hD
   simp only [hD,p0_,p1_,p2_,p3_,p4_,p5_,p6_,p7_,p8_,p9_,q11_,cq,oT] at ht hs
   subst ht
   refine Qaa (v:=int .i64 (i64w (rdL a1.Qa0 a1.Qa3 0))) rfl rfl rfl (g_d rfl ?_)
   try dsimp only [Qai,Qaj]
   refine hk _ _ ⟨O,?_,hs.cast ?_⟩<;>simp only [oT,lq,cq,Nat.reduceBEq,p0_,p1_,p2_,p3_,p4_,p5_,p6_,p7_,p8_,p9_,q11_]
  ·
   rintro D t w hD hp hcl ⟨O,ht,hs⟩ rest hk
   obtain ⟨p10_,p0_,p1_,p2_,p3_,p4_,p5_,p6_,p7_,p8_,p9_,_,_⟩:=hp
   simp only [hD,p0_,p1_,p2_,p3_,p4_,p5_,p6_,p7_,p8_,p9_,p10_,cq,oT] at ht hs
   subst ht
   refine Qaa (v:=int .i64 (i64w (rdL a1.Qa0 a1.Qa3 0))) rfl rfl rfl (g_d rfl ?_)
   try dsimp only [Qai,Qaj]
   refine hk _ _ ⟨O,?_,hs.cast ?_⟩<;>simp only [oT,lq,cq,Nat.reduceBEq,p0_,p1_,p2_,p3_,p4_,p5_,p6_,p7_,p8_,p9_,p10_]
  intro D t w hall hI
  obtain ⟨O,ht,hs⟩:=hI
  have p0_:=hall 0 (by decide)
  have p1_:=hall 1 (by decide)
  have p2_:=hall 2 (by decide)
  have p3_:=hall 3 (by decide)
  have p4_:=hall 4 (by decide)
  have p5_:=hall 5 (by decide)
  have p6_:=hall 6 (by decide)
  have p7_:=hall 7 (by decide)
  have p8_:=hall 8 (by decide)
  have p9_:=hall 9 (by decide)
  have p10_:=hall 10 (by decide)
  have p11_:=hall 11 (by decide)
  simp only [p0_,p1_,p2_,p3_,p4_,p5_,p6_,p7_,p8_,p9_,p10_,p11_,cq,oT] at ht hs
  subst ht
  have hs:=hs.pull 1 rfl
  have hs:=hs.pull 1 rfl
  have hs:St _ [_,_] _:=St.take (Γ':=[]) hs
  exact ha _ _ ⟨i64w (rdL a1.Qa0 a1.Qa3 0),H,rfl,hs⟩
 intro hb
 rw [if_neg (b_dec_f hb)] at H
 refine g_d rfl ?_
 obtain rfl:=ord_end hO2_ rfl (by decide+kernel)
 refine Qab (Qap rfl (QaE ?_))
 have hs:=hs.pull 1 rfl
 have hs:=hs.pull 1 rfl
 have hs:St _ [_,_] _:=St.take (Γ':=[]) hs
 exact ha _ _ ⟨0,H,rfl,hs⟩
def QaJ.post (wb:World) (Z:As) (b2:Nat) (v3:Value) (r:(Int×Qaz)) (v:Value) (w:World):Prop:=v=int .i64 r.1∧St wb [Cells b2 (([v3,int .i64 r.2.Qa3,int .u64 r.2.QaT]:List Value)) 112,Z] w
theorem QaJ.calls {N:Nat} {a1:Qaz} {a6:Int} {b2:Nat} {v3:Value} {wb:World} {Z:As} {w0:World} {r:(Int×Qaz)} (hs:St wb [Cells b2 (([v3,int .i64 a1.Qa3,int .u64 a1.QaT]:List Value)) 112,Z] w0) (hr4:RdRow (K.int .u8) wb v3 a1.Qa0) (H:QaJ.f N a1 a6=some r):
 Calls Tryz.prog 33 #[pointer (some ⟨b2,0,none⟩),int .i64 a6] w0 fun e w=>∃ v,e= .returned v∧QaJ.post wb Z b2 v3 r v w:=by
 unfold QaJ.f at H
 refine calls_of_g (n:=18) Tryz.func33 rfl rfl ?_
 show G _ _ _ _ [_,_,_,_,_,_,_,_,_,_,_,_,_,_,_,_,_,_,_,_] _
 refine Qaf (Qak [0] rfl ?_)
 refine Qaa (v:=int .i64 0) rfl rfl rfl ?_
 show G _ _ _ _ [_,_,_,_,_,_,_,_,_,_,_,_,_,_,_,_,_,_,_,_] _
 refine Qab (Qaf (Qaf (Qak [0,1] rfl ?_)))
 refine Qaa (v:=int .i64 a6) rfl rfl rfl ?_
 refine QaA (B:=decide (a6≤1)) rfl rfl rfl ?_ ?_
 ·
  intro hb
  rw [if_pos (b_dec_t hb)] at H
  refine Qab (Qam rfl (Qaf (Qak [0] rfl ?_)))
  refine Qaa (v:=int .i64 0) rfl rfl rfl (Qab ?_)
  obtain rfl:=QsJ H
  refine Qax Tryz.func33 (v:=int .i64 0) (res1 rfl rfl) ?_
  have hs:=hs.pull 1 rfl
  have hs:=hs.pull 1 rfl
  have hs:St _ [_,_] _:=St.take (Γ':=[]) hs
  exact ⟨_,rfl,rfl,hs⟩
 intro hb
 rw [if_neg (b_dec_f hb)] at H
 refine Qab (Qap rfl (QaE (Qaf (Qak [0,1,2] rfl ?_))))
 refine Qaa (v:=pointer (some ⟨b2,0,none⟩)) rfl rfl rfl ?_
 show G _ _ _ _ [_,_,_,_,_,_,_,_,_,_,_,_,_,_,_,_,_,_,_,_] _
 obtain ⟨r7,Hr7,H⟩:=bind_get H
 have hs:St _ [_,_] _:=hs.pull 0 rfl
 have hs:=hs.pack 1
 refine Qas (args:=[pointer (some ⟨b2,0,none⟩)]) rfl rfl (Qat rfl (callFunc_enter Tryz.func71 rfl rfl) rfl) (Qa8.calls (a1:=(⟨a1.Qa0,a1.Qa3,a1.QaT⟩:Qaz)) hs hr4 Hr7) ?_
 rintro _ w ⟨rfl,hs⟩
 have hs:=St.unpack (Γ:=[_]) hs
 have hs:St _ [_,_] _:=hs
 refine Qaa (v:=int .i64 r7.1) rfl rfl rfl (Qab (Qaf (Qaf (Qak [0,1] rfl ?_))))
 refine Qaa (v:=int .i64 a6) rfl rfl rfl ?_
 show G _ _ _ _ [_,_,_,_,_,_,_,_,_,_,_,_,_,_,_,_,_,_,_,_] _
 refine QaA (B:=decide (a6>200)) rfl rfl rfl ?_ ?_
 ·
  intro hb
  rw [if_pos (b_dec_t hb)] at H
  refine Qab (Qam rfl (Qak [0,1,2,3,4,5] rfl ?_))
  refine Qaa (v:=int .i64 r7.1) rfl rfl rfl ?_
  refine Qaa (v:=int .i64 (i64w (r7.1*256))) rfl rfl rfl ?_
  show G _ _ _ _ [_,_,_,_,_,_,_,_,_,_,_,_,_,_,_,_,_,_,_,_] _
  refine Qaa (v:=pointer (some ⟨b2,0,none⟩)) rfl rfl rfl ?_
  obtain ⟨r8,Hr8,H⟩:=bind_get H
  have hs:St _ [_,_] _:=hs.pull 0 rfl
  have hs:=hs.pack 1
  refine Qas (args:=[pointer (some ⟨b2,0,none⟩)]) rfl rfl (Qat rfl (callFunc_enter Tryz.func71 rfl rfl) rfl) (Qa8.calls (a1:=(⟨a1.Qa0,r7.2.Qa3,r7.2.QaT⟩:Qaz)) hs hr4 Hr8) ?_
  rintro _ w ⟨rfl,hs⟩
  have hs:=St.unpack (Γ:=[_]) hs
  have hs:St _ [_,_] _:=hs
  refine Qaa (v:=int .i64 (i64w ((i64w (r7.1*256))+r8.1))) rfl rfl rfl ?_
  show G _ _ _ _ [_,_,_,_,_,_,_,_,_,_,_,_,_,_,_,_,_,_,_,_] _
  refine Qaa (v:=int .i64 (i64w ((i64w (r7.1*256))+r8.1))) rfl rfl rfl (Qab (Qaf (Qak [0,1,2,3] rfl ?_)))
  refine Qaa (v:=int .i64 (i64w ((i64w (r7.1*256))+r8.1))) rfl rfl rfl ?_
  refine Qaa (v:=int .i64 a6) rfl rfl rfl ?_
  show G _ _ _ _ [_,_,_,_,_,_,_,_,_,_,_,_,_,_,_,_,_,_,_,_] _
  obtain ⟨g1,H⟩:=ite_get H
  refine Qaa (v:=int .i64 ((i64w ((i64w (r7.1*256))+r8.1)).tmod a6)) rfl rfl (QcQ rfl rfl rfl g1) ?_
  refine Qaa (v:=int .i64 ((i64w ((i64w (r7.1*256))+r8.1)).tmod a6)) rfl rfl rfl (Qab ?_)
  obtain rfl:=QsJ H
  refine Qax Tryz.func33 (v:=int .i64 ((i64w ((i64w (r7.1*256))+r8.1)).tmod a6)) (res1 rfl rfl) ?_
  have hs:=hs.pull 1 rfl
  have hs:=hs.pull 1 rfl
  have hs:St _ [_,_] _:=St.take (Γ':=[]) hs
  exact ⟨_,rfl,rfl,hs⟩
 intro hb
 rw [if_neg (b_dec_f hb)] at H
 refine Qab (Qap rfl (QaE (Qaf (Qak [0,1,2,3] rfl ?_))))
 refine Qaa (v:=int .i64 r7.1) rfl rfl rfl ?_
 refine Qaa (v:=int .i64 a6) rfl rfl rfl ?_
 show G _ _ _ _ [_,_,_,_,_,_,_,_,_,_,_,_,_,_,_,_,_,_,_,_] _
 obtain ⟨g2,H⟩:=ite_get H
 refine Qaa (v:=int .i64 (r7.1.tmod a6)) rfl rfl (QcQ rfl rfl rfl g2) ?_
 refine Qaa (v:=int .i64 (r7.1.tmod a6)) rfl rfl rfl (Qab ?_)
 obtain rfl:=QsJ H
 refine Qax Tryz.func33 (v:=int .i64 (r7.1.tmod a6)) (res1 rfl rfl) ?_
 have hs:=hs.pull 1 rfl
 have hs:=hs.pull 1 rfl
 have hs:St _ [_,_] _:=St.take (Γ':=[]) hs
 exact ⟨_,rfl,rfl,hs⟩
def QbW.post (w0:World) (r:Int) (v:Value) (w:World):Prop:=v=int .i64 r∧St w0 [] w
theorem QbW.calls {N:Nat} {a1:(List Int)} {a3:Int} {v2:Value} {w0:World} {r:Int} (hr0:RdRow (K.int .u8) w0 v2 a1) (H:QbW.f N a1 a3=some r):
 Calls Tryz.prog 5 #[v2,int .i64 a3] w0 fun e w=>∃ v,e= .returned v∧QbW.post w0 r v w:=by
 unfold QbW.f at H
 have hs:St w0 [] w0:=St.refl w0
 refine calls_of_g (n:=7) Tryz.func5 rfl rfl ?_
 show G _ _ _ _ [_,_,_,_,_,_,_,_,_] _
 refine Qaf (Qak [0] rfl ?_)
 refine Qaa (v:=int .i64 0) rfl rfl rfl ?_
 show G _ _ _ _ [_,_,_,_,_,_,_,_,_] _
 refine Qab (Qaf (Qak [0,1,2,3,4] rfl ?_))
 refine Qaa (v:=v2) rfl rfl rfl ?_
 obtain ⟨r4,Hr4,H⟩:=bind_get H
 refine Qas (args:=[v2]) rfl rfl (Qat rfl (callFunc_enter Tryz.func32 rfl rfl) rfl) (QbF.calls (a1:=a1) (hs.rd hr0) Hr4) ?_
 rintro _ w ⟨b5,rfl,hs2⟩
 have hs:St _ [_] _:=hs.call hs2
 refine Qaa (v:=int .i64 a3) rfl rfl rfl ?_
 show G _ _ _ _ [_,_,_,_,_,_,_,_,_] _
 obtain ⟨r7,Hr7,H⟩:=bind_get H
 have hs:St _ [_] _:=hs.pull 0 rfl
 have hs:=hs.pack 1
 refine Qas (args:=[pointer (some ⟨b5,0,none⟩),int .i64 a3]) rfl rfl (Qat rfl (callFunc_enter Tryz.func33 rfl rfl) rfl) (QaJ.calls (a1:=(⟨a1,r4.Qa3,r4.QaT⟩:Qaz)) (a6:=a3) hs hr0 Hr7) ?_
 rintro _ w ⟨rfl,hs⟩
 have hs:=St.unpack (Γ:=[_]) hs
 have hs:St _ [_] _:=hs
 refine Qaa (v:=int .i64 r7.1) rfl rfl rfl (Qab ?_)
 obtain rfl:=QsJ H
 refine Qax Tryz.func5 (v:=int .i64 r7.1) (res1 rfl rfl) ?_
 have hs:St _ [] _:=St.take (Γ':=[_]) hs
 exact ⟨_,rfl,rfl,hs⟩
def Qbi.post (w0:World) (r:(List Bool)) (v:Value) (w:World):Prop:=St w0 [Row 4 K.bool v r] w
theorem Qbi.calls {N:Nat} {a1:(List Int)} {a3:Int} {v2:Value} {w0:World} {r:(List Bool)} (hr0:RdRow (K.int .u8) w0 v2 a1) (H:Qbi.f N a1 a3=some r):
 Calls Tryz.prog 6 #[v2,int .i64 a3] w0 fun e w=>∃ v,e= .returned v∧Qbi.post w0 r v w:=by
 unfold Qbi.f at H
 have hs:St w0 [] w0:=St.refl w0
 refine calls_of_g (n:=19) Tryz.func6 rfl rfl ?_
 show G _ _ _ _ [_,_,_,_,_,_,_,_,_,_,_,_,_,_,_,_,_,_,_,_,_] _
 refine Qaf (Qak [0] rfl ?_)
 refine Qaa (v:=slice none 0 0) rfl rfl rfl (Qab (Qaf (Qak [0,1,2] rfl ?_)))
 refine Qaa (v:=v2) rfl rfl rfl ?_
 show G _ _ _ _ [_,_,_,_,_,_,_,_,_,_,_,_,_,_,_,_,_,_,_,_,_] _
 obtain ⟨r4,Hr4,H⟩:=bind_get H
 refine Qas (args:=[v2]) rfl rfl (Qat rfl (callFunc_enter Tryz.func32 rfl rfl) rfl) (QbF.calls (a1:=a1) (hs.rd hr0) Hr4) ?_
 rintro _ w ⟨b5,rfl,hs2⟩
 have hs:St _ [_] _:=hs.call hs2
 refine Qaa (v:=pointer (some ⟨b5,0,none⟩)) rfl rfl rfl (Qab (Qaf (Qak [0,1] rfl ?_)))
 obtain ⟨g,H⟩:=ite_get H
 refine Qde (κ:=K.bool) (z:=false) (zc:=(encB false)) (zv:=(bool false)) (B:=1) hs rfl rfl rfl rfl rfl g.1 rfl rfl rfl rfl rfl (fun _=>⟨rfl,rfl⟩) rfl (by decide) (by have:=g.2;omega) ?_
 intro v7 w hs
 show G _ _ _ _ [_,_,_,_,_,_,_,_,_,_,_,_,_,_,_,_,_,_,_,_,_] _
 refine Qaa (v:=v7) rfl rfl rfl (Qab (Qaf (Qaf (Qak [0] rfl ?_))))
 refine Qaa (v:=int .i64 0) rfl rfl rfl (Qab ?_)
 obtain ⟨o1_,Ho,Hr1_⟩:=bind_get H
 refine QaF (J:=fun t w=>∃ x18:(List Bool),Qbi.a0 N x18=some r∧Fr t (fun O=>([O 0,O 1,O 2,O 3,O 4,O 5,v7,O 7,O 8,O 9,O 10,O 11,O 12,O 13,O 14,O 15,O 16,O 17,O 18,O 19,O 20]:List Value))∧St w0 [Row 4 K.bool v7 x18] w) ?_ ?_
 ·
  rintro t w ⟨x18,H,hf,hs⟩
  obtain ⟨O,rfl⟩:=hf.open
  show G _ _ _ _ [_,_,_,_,_,_,_,_,_,_,_,_,_,_,_,_,_,_,_,_,_] _
  unfold Qbi.a0 at H
  refine Qaf (Qak [0,1] rfl ?_)
  refine Qaa (v:=v7) rfl rfl rfl ?_
  refine Qaa (v:=v7) rfl rfl rfl ?_
  show G _ _ _ _ [_,_,_,_,_,_,_,_,_,_,_,_,_,_,_,_,_,_,_,_,_] _
  refine Qab ?_
  obtain rfl:=QsJ H
  refine Qax Tryz.func6 (v:=v7) (res1 rfl rfl) ?_
  have hs:=hs.pull 0 rfl
  have hs:St _ [_] _:=St.take (Γ':=[]) hs
  exact ⟨_,rfl,hs⟩
 intro ha1_
 have hs:=hs.pull 0 rfl
 have hs:=hs.pull 1 rfl
 have hs:St _ [_,_] _:=St.take (Γ':=[]) hs
 refine QaZ (I:=fun n_ t w=>∃ x12:Int,∃ x13:Int,∃ x14:(List Bool),∃ x15:Int,rounds (fun s=>Qbi.b0 N a3 a1 s.1 s.2.1 s.2.2.1 s.2.2.2) n_ (x12,x13,x14,x15)=some o1_∧Fr t (fun O=>([O 0,int .i64 a3,O 2,O 3,O 4,pointer (some ⟨b5,0,none⟩),v7,int .i64 x15,O 8,O 9,O 10,O 11,O 12,O 13,O 14,O 15,O 16,O 17,O 18,O 19,O 20]:List Value))∧St w0 [Cells b5 (([v2,int .i64 x12,int .u64 x13]:List Value)) 112,Row 4 K.bool v7 x14] w) N ⟨r4.Qa3,r4.QaT,List.replicate ((14:Int)).toNat false,0,Ho,rfl,hs⟩ ?_ ?_
 ·
  rintro _ _ ⟨x12,x13,x14,x15,h,_⟩
  exact rounds_zero h
 intro n_ ih1_
 rintro t w ⟨x12,x13,x14,x15,Ho,hf,hs⟩
 obtain ⟨O,rfl⟩:=hf.open
 show G _ _ _ _ [_,_,_,_,_,_,_,_,_,_,_,_,_,_,_,_,_,_,_,_,_] _
 obtain ⟨x3_,H,Hx1_⟩:=rounds_succ Ho
 have H:Qbi.b0 N a3 a1 x12 x13 x14 x15=some x3_:=H
 unfold Qbi.b0 at H
 refine Qaf (Qaf (Qak [0,1,2] rfl ?_))
 refine Qaa (v:=int .i64 x15) rfl rfl rfl ?_
 show G _ _ _ _ [_,_,_,_,_,_,_,_,_,_,_,_,_,_,_,_,_,_,_,_,_] _
 refine Qaa (v:=int .i64 a3) rfl rfl rfl ?_
 refine QaA (B:=decide (x15< a3)) rfl rfl rfl ?_ ?_
 ·
  intro hb
  rw [if_pos (b_dec_t hb)] at H
  show G _ _ _ _ [_,_,_,_,_,_,_,_,_,_,_,_,_,_,_,_,_,_,_,_,_] _
  refine Qab (Qam rfl (QaE (Qaf ?_)))
  refine Qbz (Qak [0,1,2,3,4] rfl ?_)
  refine Qaa (v:=v7) rfl rfl rfl ?_
  refine Qaa (v:=pointer (some ⟨b5,0,none⟩)) rfl rfl rfl ?_
  obtain ⟨r16,Hr16,H⟩:=bind_get H
  have hs:St _ [_,_] _:=hs.pull 0 rfl
  have hs:=hs.pack 1
  refine Qas (args:=[pointer (some ⟨b5,0,none⟩),int .i64 14]) rfl rfl (Qat rfl (callFunc_enter Tryz.func33 rfl rfl) rfl) (QaJ.calls (a1:=(⟨a1,x12,x13⟩:Qaz)) (a6:=14) hs hr0 Hr16) ?_
  rintro _ w ⟨rfl,hs⟩
  have hs:=St.unpack (Γ:=[_]) hs
  have hs:St _ [_,_] _:=hs
  show G _ _ _ _ [_,_,_,_,_,_,_,_,_,_,_,_,_,_,_,_,_,_,_,_,_] _
  obtain ⟨g2,H⟩:=ite_get H
  refine Qcm fkB false (hs.row 1 rfl) rfl (fun _=>rfl) g2.1 g2.2 rfl rfl rfl rfl rfl ?_
  intro p17 hp17 lp17 op17
  have hs:St _ [_,_] _:=hs.pull 1 rfl
  refine Qc7 (y:=true) fkB g2.1 g2.2 op17 hs rfl rfl rfl rfl rfl (fun _=>rfl) ?_
  intro w hs
  refine Qab ?_
  refine QaH (Qak [0,1,2] rfl ?_)
  refine Qaa (v:=int .i64 x15) rfl rfl rfl ?_
  refine Qaa (v:=int .i64 (i64w (x15+1))) rfl rfl rfl ?_
  show G _ _ _ _ [_,_,_,_,_,_,_,_,_,_,_,_,_,_,_,_,_,_,_,_,_] _
  refine Qaa (v:=int .i64 (i64w (x15+1))) rfl rfl rfl (Qab ?_)
  obtain rfl:=QsJ H
  have hs:=hs.pull 0 rfl
  have hs:=hs.pull 1 rfl
  have hs:St _ [_,_] _:=St.take (Γ':=[]) hs
  exact ih1_ _ _ ⟨r16.2.Qa3,r16.2.QaT,stL x14 r16.1 true,i64w (x15+1),Hx1_,rfl,hs⟩
 intro hb
 rw [if_neg (b_dec_f hb)] at H
 refine Qab (Qap rfl ?_)
 obtain rfl:=QsJ H
 subst Hx1_
 have hs:=hs.pull 1 rfl
 have hs:St _ [_] _:=St.take (Γ':=[_]) hs
 refine Qbq rfl ?_
 exact ha1_ _ _ ⟨x14,Hr1_,rfl,hs⟩
def Qbg.post (w0:World) (r:Bool) (v:Value) (w:World):Prop:=v=bool r∧St w0 [] w
theorem Qbg.calls {N:Nat} {a1:Int} {a2:Int} {a3:Int} {w0:World} {r:Bool} (H:Qbg.f N a1 a2 a3=some r):
 Calls Tryz.prog 35 #[int .i64 a1,int .i64 a2,int .i64 a3] w0 fun e w=>∃ v,e= .returned v∧Qbg.post w0 r v w:=by
 unfold Qbg.f at H
 have hs:St w0 [] w0:=St.refl w0
 refine calls_of_g (n:=12) Tryz.func35 rfl rfl ?_
 show G _ _ _ _ [_,_,_,_,_,_,_,_,_,_,_,_,_,_,_] _
 refine Qaf (Qak [0] rfl ?_)
 refine Qaa (v:=bool false) rfl rfl rfl (Qab (Qaf (Qak [0,1,2,3,4,5,6,7,8] rfl ?_)))
 refine Qaa (v:=int .i64 a2) rfl rfl rfl ?_
 show G _ _ _ _ [_,_,_,_,_,_,_,_,_,_,_,_,_,_,_] _
 refine Qaa (v:=int .i64 a1) rfl rfl rfl ?_
 refine QaA (B:=decide (a2≤a1)) rfl rfl rfl ?_ ?_
 ·
  intro hb
  rw [if_pos (b_dec_t hb)] at H
  show G _ _ _ _ [_,_,_,_,_,_,_,_,_,_,_,_,_,_,_] _
  refine Qaa (v:=bool true) rfl rfl rfl ?_
  refine Qaa (v:=int .i64 a1) rfl rfl rfl ?_
  refine Qaa (v:=int .i64 a3) rfl rfl rfl ?_
  show G _ _ _ _ [_,_,_,_,_,_,_,_,_,_,_,_,_,_,_] _
  refine Qaa (v:=bool (decide (a1≤a3))) rfl rfl rfl ?_
  refine Qaa (v:=bool (decide (a1≤a3))) rfl rfl rfl ?_
  refine Qaa (v:=bool (decide (a1≤a3))) rfl rfl rfl ?_
  show G _ _ _ _ [_,_,_,_,_,_,_,_,_,_,_,_,_,_,_] _
  refine Qab ?_
  obtain rfl:=QsJ H
  refine Qax Tryz.func35 (v:=bool (decide (a1≤a3))) (res1 rfl rfl) ?_
  have hs:St _ [] _:=St.take (Γ':=[]) hs
  exact ⟨_,rfl,rfl,hs⟩
 intro hb
 rw [if_neg (b_dec_f hb)] at H
 refine Qaa (v:=bool false) rfl rfl rfl ?_
 show G _ _ _ _ [_,_,_,_,_,_,_,_,_,_,_,_,_,_,_] _
 refine Qad rfl rfl (Qad rfl rfl (Qad rfl rfl ?_))
 show G _ _ _ _ [_,_,_,_,_,_,_,_,_,_,_,_,_,_,_] _
 refine Qaa (v:=bool false) rfl rfl rfl ?_
 refine Qaa (v:=bool false) rfl rfl rfl (Qab ?_)
 obtain rfl:=QsJ H
 refine Qax Tryz.func35 (v:=bool false) (res1 rfl rfl) ?_
 have hs:St _ [] _:=St.take (Γ':=[]) hs
 exact ⟨_,rfl,rfl,hs⟩
def QbQ.post (w0:World) (r:Bool) (v:Value) (w:World):Prop:=v=bool r∧St w0 [] w
theorem QbQ.calls {N:Nat} {a1:Int} {a2:Int} {w0:World} {r:Bool} (H:QbQ.f N a1 a2=some r):
 Calls Tryz.prog 34 #[int .i64 a1,int .i64 a2] w0 fun e w=>∃ v,e= .returned v∧QbQ.post w0 r v w:=by
 unfold QbQ.f at H
 have hs:St w0 [] w0:=St.refl w0
 refine calls_of_g (n:=9) Tryz.func34 rfl rfl ?_
 show G _ _ _ _ [_,_,_,_,_,_,_,_,_,_,_] _
 refine Qaf (Qak [0] rfl ?_)
 refine Qaa (v:=bool false) rfl rfl rfl (Qab (Qaf (Qak [0,1,2,3,4,5,6] rfl ?_)))
 refine Qaa (v:=int .i64 a1) rfl rfl rfl ?_
 show G _ _ _ _ [_,_,_,_,_,_,_,_,_,_,_] _
 obtain ⟨r3,Hr3,H⟩:=bind_get H
 refine Qas (args:=[int .i64 a1,int .i64 1,int .i64 60]) rfl rfl (Qat rfl (callFunc_enter Tryz.func35 rfl rfl) rfl) (Qbg.calls (a1:=a1) (a2:=1) (a3:=60) Hr3) ?_
 rintro _ w ⟨rfl,hs2⟩
 have hs:St _ [] _:=hs.call hs2
 cases r3 with
 |true=>
  rw [if_pos rfl] at H
  refine Qaa (v:=bool true) rfl rfl rfl ?_
  refine Qaa (v:=int .i64 a2) rfl rfl rfl ?_
  show G _ _ _ _ [_,_,_,_,_,_,_,_,_,_,_] _
  obtain ⟨r4,Hr4,H⟩:=bind_get H
  refine Qas (args:=[int .i64 a2,int .i64 0,int .i64 3]) rfl rfl (Qat rfl (callFunc_enter Tryz.func35 rfl rfl) rfl) (Qbg.calls (a1:=a2) (a2:=0) (a3:=3) Hr4) ?_
  rintro _ w ⟨rfl,hs2⟩
  have hs:St _ [] _:=hs.call hs2
  refine Qaa (v:=bool r4) rfl rfl rfl ?_
  refine Qaa (v:=bool r4) rfl rfl rfl ?_
  show G _ _ _ _ [_,_,_,_,_,_,_,_,_,_,_] _
  refine Qab ?_
  obtain rfl:=QsJ H
  refine Qax Tryz.func34 (v:=bool r4) (res1 rfl rfl) ?_
  have hs:St _ [] _:=St.take (Γ':=[]) hs
  exact ⟨_,rfl,rfl,hs⟩
 |false=>
  rw [if_neg Bool.false_ne_true] at H
  refine Qaa (v:=bool false) rfl rfl rfl (Qad rfl rfl ?_)
  show G _ _ _ _ [_,_,_,_,_,_,_,_,_,_,_] _
  refine Qad rfl rfl ?_
  refine Qaa (v:=bool false) rfl rfl rfl ?_
  refine Qaa (v:=bool false) rfl rfl rfl ?_
  show G _ _ _ _ [_,_,_,_,_,_,_,_,_,_,_] _
  refine Qab ?_
  obtain rfl:=QsJ H
  refine Qax Tryz.func34 (v:=bool false) (res1 rfl rfl) ?_
  have hs:St _ [] _:=St.take (Γ':=[]) hs
  exact ⟨_,rfl,rfl,hs⟩
def Qbo.post (w0:World) (r:Bool) (v:Value) (w:World):Prop:=v=bool r∧St w0 [] w
theorem Qbo.calls {N:Nat} {a1:Int} {a2:Int} {a3:Bool} {w0:World} {r:Bool} (H:Qbo.f N a1 a2 a3=some r):
 Calls Tryz.prog 29 #[int .u64 a1,int .i64 a2,bool a3] w0 fun e w=>∃ v,e= .returned v∧Qbo.post w0 r v w:=by
 unfold Qbo.f at H
 have hs:St w0 [] w0:=St.refl w0
 refine calls_of_g (n:=16) Tryz.func29 rfl rfl ?_
 show G _ _ _ _ [_,_,_,_,_,_,_,_,_,_,_,_,_,_,_,_,_,_,_] _
 refine Qaf (Qak [0] rfl ?_)
 refine Qaa (v:=bool false) rfl rfl rfl (Qab (Qaf (Qak [0,1,2,3,4,5,6,7,8,9,10,11,12] rfl ?_)))
 refine Qaa (v:=int .i64 a2) rfl rfl rfl ?_
 show G _ _ _ _ [_,_,_,_,_,_,_,_,_,_,_,_,_,_,_,_,_,_,_] _
 obtain ⟨r4,Hr4,H⟩:=bind_get H
 refine Qas (args:=[int .i64 a2,int .i64 0,int .i64 63]) rfl rfl (Qat rfl (callFunc_enter Tryz.func35 rfl rfl) rfl) (Qbg.calls (a1:=a2) (a2:=0) (a3:=63) Hr4) ?_
 rintro _ w ⟨rfl,hs2⟩
 have hs:St _ [] _:=hs.call hs2
 cases r4 with
 |true=>
  rw [if_pos rfl] at H
  refine Qaa (v:=bool true) rfl rfl rfl ?_
  refine Qaa (v:=int .u64 a1) rfl rfl rfl ?_
  show G _ _ _ _ [_,_,_,_,_,_,_,_,_,_,_,_,_,_,_,_,_,_,_] _
  refine Qaa (v:=int .i64 a2) rfl rfl rfl ?_
  refine Qaa (v:=int .i64 (mxI a2 0)) rfl rfl (Qc6 rfl rfl rfl) ?_
  obtain ⟨g1,H⟩:=ite_get H
  refine Qaa (v:=int .u64 (shrI .u64 a1 (mxI a2 0))) rfl rfl (QcC rfl rfl rfl g1) ?_
  show G _ _ _ _ [_,_,_,_,_,_,_,_,_,_,_,_,_,_,_,_,_,_,_] _
  refine Qaa (v:=int .u64 (bAnd .u64 (shrI .u64 a1 (mxI a2 0)) 1)) rfl rfl rfl ?_
  refine Qaa (v:=bool ((bAnd .u64 (shrI .u64 a1 (mxI a2 0)) 1)==1)) rfl rfl rfl ?_
  refine Qaa (v:=bool ((bAnd .u64 (shrI .u64 a1 (mxI a2 0)) 1)==1)) rfl rfl rfl ?_
  show G _ _ _ _ [_,_,_,_,_,_,_,_,_,_,_,_,_,_,_,_,_,_,_] _
  refine Qaa (v:=bool a3) rfl rfl rfl ?_
  refine Qaa (v:=bool (((bAnd .u64 (shrI .u64 a1 (mxI a2 0)) 1)==1) !=a3)) rfl rfl rfl ?_
  refine Qaa (v:=bool (((bAnd .u64 (shrI .u64 a1 (mxI a2 0)) 1)==1) !=a3)) rfl rfl rfl ?_
  show G _ _ _ _ [_,_,_,_,_,_,_,_,_,_,_,_,_,_,_,_,_,_,_] _
  refine Qab ?_
  obtain rfl:=QsJ H
  refine Qax Tryz.func29 (v:=bool (((bAnd .u64 (shrI .u64 a1 (mxI a2 0)) 1)==1) !=a3)) (res1 rfl rfl) ?_
  have hs:St _ [] _:=St.take (Γ':=[]) hs
  exact ⟨_,rfl,rfl,hs⟩
 |false=>
  rw [if_neg Bool.false_ne_true] at H
  refine Qaa (v:=bool false) rfl rfl rfl (Qad rfl rfl ?_)
  show G _ _ _ _ [_,_,_,_,_,_,_,_,_,_,_,_,_,_,_,_,_,_,_] _
  refine Qad rfl rfl (Qad rfl rfl (Qad rfl rfl ?_))
  show G _ _ _ _ [_,_,_,_,_,_,_,_,_,_,_,_,_,_,_,_,_,_,_] _
  refine Qad rfl rfl (Qad rfl rfl ?_)
  refine Qaa (v:=bool false) rfl rfl rfl ?_
  show G _ _ _ _ [_,_,_,_,_,_,_,_,_,_,_,_,_,_,_,_,_,_,_] _
  refine Qaa (v:=bool a3) rfl rfl rfl ?_
  refine Qaa (v:=bool (false !=a3)) rfl rfl rfl ?_
  refine Qaa (v:=bool (false !=a3)) rfl rfl rfl ?_
  show G _ _ _ _ [_,_,_,_,_,_,_,_,_,_,_,_,_,_,_,_,_,_,_] _
  refine Qab ?_
  obtain rfl:=QsJ H
  refine Qax Tryz.func29 (v:=bool (false !=a3)) (res1 rfl rfl) ?_
  have hs:St _ [] _:=St.take (Γ':=[]) hs
  exact ⟨_,rfl,rfl,hs⟩
def QaK.post (w0:World) (r:(List Int)) (v:Value) (w:World):Prop:=St w0 [Row 2 (K.int .i64) v r] w
theorem QaK.calls {N:Nat} {a1:Qag} {a4:Int} {v2:Value} {w0:World} {r:(List Int)} (hr3:RdRow Qao w0 v2 a1.Qah) (H:QaK.f N a1 a4=some r):
 Calls Tryz.prog 67 #[agg (([int .i8 a1.Qac,int .i8 a1.Qae,v2]:List Value)).toArray,int .i64 a4] w0 fun e w=>∃ v,e= .returned v∧QaK.post w0 r v w:=by
 unfold QaK.f at H
 have hs:St w0 [] w0:=St.refl w0
 refine calls_of_g (n:=28) Tryz.func67 rfl rfl ?_
 show G _ _ _ _ [_,_,_,_,_,_,_,_,_,_,_,_,_,_,_,_,_,_,_,_,_,_,_,_,_,_,_,_,_,_] _
 refine Qaf (Qak [0,1] rfl ?_)
 refine Qbx hs rfl rfl (cs:=(([int .i8 a1.Qac,int .i8 a1.Qae,v2]:List Value))) rfl rfl ?_
 intro b5 w hs
 refine Qaa (v:=slice none 0 0) rfl rfl rfl (Qab (Qaf (Qak [0,1] rfl ?_)))
 refine QcB (κ:=(K.int .i64)) hs rfl rfl rfl rfl (fun _=>rfl) ?_
 intro v7 w hs
 show G _ _ _ _ [_,_,_,_,_,_,_,_,_,_,_,_,_,_,_,_,_,_,_,_,_,_,_,_,_,_,_,_,_,_] _
 refine Qaa (v:=v7) rfl rfl rfl (Qab (Qaf (Qaf (Qak [0,1,2,3] rfl ?_))))
 refine Qaa (v:=pointer (some ⟨b5,2,none⟩)) rfl rfl rfl ?_
 refine Qaw rfl rfl (v:=v2) rfl rfl (fun _=>rfl) (cells_load (hs.cells 1 rfl) 2 1 rfl) ?_
 refine Qbp (hs.rd hr3) rfl rfl rfl rfl rfl ?_
 show G _ _ _ _ [_,_,_,_,_,_,_,_,_,_,_,_,_,_,_,_,_,_,_,_,_,_,_,_,_,_,_,_,_,_] _
 refine Qaa (v:=int .i64 0) rfl rfl rfl (Qab ?_)
 obtain ⟨o1_,Ho,Hr1_⟩:=bind_get H
 refine QaF (J:=fun t w=>∃ v24:Value,∃ x25:(List Int),QaK.a0 N x25=some r∧Fr t (fun O=>([O 0,O 1,O 2,O 3,O 4,v24,O 6,O 7,O 8,O 9,O 10,O 11,O 12,O 13,O 14,O 15,O 16,O 17,O 18,O 19,O 20,O 21,O 22,O 23,O 24,O 25,O 26,O 27,O 28,O 29]:List Value))∧St w0 [Row 2 (K.int .i64) v24 x25] w) ?_ ?_
 ·
  rintro t w ⟨v24,x25,H,hf,hs⟩
  obtain ⟨O,rfl⟩:=hf.open
  show G _ _ _ _ [_,_,_,_,_,_,_,_,_,_,_,_,_,_,_,_,_,_,_,_,_,_,_,_,_,_,_,_,_,_] _
  unfold QaK.a0 at H
  refine Qaf (Qak [0,1] rfl ?_)
  refine Qaa (v:=v24) rfl rfl rfl ?_
  refine Qaa (v:=v24) rfl rfl rfl ?_
  show G _ _ _ _ [_,_,_,_,_,_,_,_,_,_,_,_,_,_,_,_,_,_,_,_,_,_,_,_,_,_,_,_,_,_] _
  refine Qab ?_
  obtain rfl:=QsJ H
  refine Qax Tryz.func67 (v:=v24) (res1 rfl rfl) ?_
  have hs:=hs.pull 0 rfl
  have hs:St _ [_] _:=St.take (Γ':=[]) hs
  exact ⟨_,rfl,hs⟩
 intro ha1_
 have hs:=hs.pull 0 rfl
 have hs:St _ [_] _:=St.take (Γ':=[_]) hs
 refine QaZ (I:=fun n_ t w=>∃ v10:Value,∃ x11:(List Int),∃ x12:Int,rounds (fun s=>QaK.b0 N a1 a4 s.1 s.2) n_ (x11,x12)=some o1_∧Fr t (fun O=>([O 0,int .i64 a4,O 2,O 3,O 4,v10,O 6,O 7,O 8,O 9,v2,int .i64 (a1.Qah.length:Int),int .i64 x12,O 13,O 14,O 15,O 16,O 17,O 18,O 19,O 20,O 21,O 22,O 23,O 24,O 25,O 26,O 27,O 28,O 29]:List Value))∧St w0 [Row 2 (K.int .i64) v10 x11] w) N ⟨v7,([]:List Int),0,Ho,rfl,hs⟩ ?_ ?_
 ·
  rintro _ _ ⟨v10,x11,x12,h,_⟩
  exact rounds_zero h
 intro n_ ih1_
 rintro t w ⟨v10,x11,x12,Ho,hf,hs⟩
 obtain ⟨O,rfl⟩:=hf.open
 show G _ _ _ _ [_,_,_,_,_,_,_,_,_,_,_,_,_,_,_,_,_,_,_,_,_,_,_,_,_,_,_,_,_,_] _
 obtain ⟨x4_,H,Hx1_⟩:=rounds_succ Ho
 have H:QaK.b0 N a1 a4 x11 x12=some x4_:=H
 unfold QaK.b0 at H
 refine Qaf (Qak [0] rfl ?_)
 refine QaA (B:=decide (x12< (a1.Qah.length:Int))) rfl rfl rfl ?_ ?_
 ·
  intro hb
  rw [if_pos (b_dec_t hb)] at H
  refine Qab (Qaf (Qam rfl (QaE (Qaf ?_))))
  refine QaF (J:=(fun t w=>∃ v21:Value,∃ x22:(List Int),QaK.j2 N x12 x22=some x4_∧Fr t (fun O=>([O 0,int .i64 a4,O 2,O 3,O 4,v21,O 6,O 7,O 8,O 9,v2,int .i64 (a1.Qah.length:Int),int .i64 x12,O 13,O 14,O 15,O 16,O 17,O 18,O 19,O 20,O 21,O 22,O 23,O 24,O 25,O 26,O 27,O 28,O 29]:List Value))∧St w0 [Row 2 (K.int .i64) v21 x22] w)) ?_ ?_
  ·
   rintro t w ⟨v21,x22,H,hf,hs⟩
   obtain ⟨O,rfl⟩:=hf.open
   show G _ _ _ _ [_,_,_,_,_,_,_,_,_,_,_,_,_,_,_,_,_,_,_,_,_,_,_,_,_,_,_,_,_,_] _
   unfold QaK.j2 at H
   refine Qak [0,1] rfl ?_
   refine Qaa (v:=int .i64 (i64w (x12+1))) rfl rfl rfl ?_
   refine Qaa (v:=int .i64 (i64w (x12+1))) rfl rfl rfl (Qab ?_)
   obtain rfl:=QsJ H
   have hs:=hs.pull 0 rfl
   have hs:St _ [_] _:=St.take (Γ':=[]) hs
   exact ih1_ _ _ ⟨v21,x22,i64w (x12+1),Hx1_,rfl,hs⟩
  intro ha
  refine Qaf (Qak [0,1,2,3,4,5] rfl ?_)
  refine Qaa (v:=int .i64 x12) rfl rfl rfl ?_
  obtain ⟨g1,H⟩:=ite_get H
  refine Qcm QaX Qau (hs.rd hr3) rfl (fun _=>rfl) g1.1 g1.2 rfl rfl rfl rfl rfl ?_
  intro p13 hp13 lp13 op13
  show G _ _ _ _ [_,_,_,_,_,_,_,_,_,_,_,_,_,_,_,_,_,_,_,_,_,_,_,_,_,_,_,_,_,_] _
  refine QaG rfl rfl (es:=(QaC (rdL a1.Qah x12 Qau))) rfl rfl (fun _=>rfl) (n:=2) (fun _=>rfl) (QaX.len _) hp13 ?_
  refine Qa5 hs rfl rfl (z:=(agg #[int .u64 0,bool false])) (cs:=(QaC Qau)) rfl (fun _=>rfl) rfl ?_
  intro b14 w hs
  refine Qaa (v:=int .i64 x12) rfl rfl rfl ?_
  show G _ _ _ _ [_,_,_,_,_,_,_,_,_,_,_,_,_,_,_,_,_,_,_,_,_,_,_,_,_,_,_,_,_,_] _
  refine QaB (n:=2) hs (QaX.len _) rfl rfl (vs:=(QaC (rdL a1.Qah x12 Qau))) rfl rfl rfl (fun _=>rfl) (QaX.len _) (QaX.one _) ?_
  intro w hs
  refine Qab (Qaf ?_)
  refine Qcj (n:=7) rfl [0,1,2,3,4,5,6] [0,1,2,3,4,5,6] rfl rfl ?_
  intro rest w hh hbw hO
  have hs:=hs.samew hh hbw
  show G _ _ _ _ [_,_,_,_,_,_,_,_,_,_,_,_,_,_,_,_,_,_,_,_,_,_,_,_,_,_,_,_,_,_] _
  obtain ⟨r16,Hr16,H⟩:=bind_get H
  refine Qbu ?_
  intro T hT
  refine QbV (m0:=0) hO rfl 63 [0,1,2,3,4,5] [0,1,0,7,0,16,63] (by decide+kernel) (fun D t w=>∃ O:Nat→Value,t=[O 0,int .i64 a4,O 2,O 3,O 4,v10,int .i64 x12,pointer (some ⟨b14,0,none⟩),O 8,O 9,v2,int .i64 (a1.Qah.length:Int),int .i64 x12,bool true,int .i64 x12,pointer (some p13),agg (QaC (rdL a1.Qah x12 Qau)).toArray,cnd (D 0) (pointer (some ⟨b14,0,none⟩)) (O 17),cnd (D 1) (int .u64 ((rdL a1.Qah x12 Qau).Qbh)) (O 18),cnd (D 2) (int .i64 a4) (O 19),cnd (D 3) (bool r16) (O 20),cnd (D 4) (pointer (some ⟨b14,1,none⟩)) (O 21),cnd (D 5) (bool ((rdL a1.Qah x12 Qau).QbH)) (O 22),O 23,O 24,O 25,O 26,O 27,O 28,O 29]∧St w0 [Cells b14 (QaC (rdL a1.Qah x12 Qau)) 61,Row 2 (K.int .i64) v10 x11] w) ?_ ⟨?_,⟨?_,⟨?_,⟨?_,⟨?_,⟨?_,trivial⟩⟩⟩⟩⟩⟩ ?_
  ·exact ⟨fun i=>T.getD i undef,(by subst hT;rfl),hs⟩
  ·
   rintro D t w hD hp hcl ⟨O,ht,hs⟩ rest hk
   have hp:AllDone D []:=hp
   have q1_:=ny hcl 1 0 hD
   have q3_:=ny hcl 3 0 q1_
   simp only [hD,q1_,q3_,cq,oT] at ht hs
   subst ht
   refine Qaa (v:=pointer (some ⟨b14,0,none⟩)) rfl rfl rfl ?_
   show G _ _ _ _ [_,_,_,_,_,_,_,_,_,_,_,_,_,_,_,_,_,_,_,_,_,_,_,_,_,_,_,_,_,_] _
   refine hk _ _ ⟨O,?_,hs.cast ?_⟩<;>simp only [oT,lq,cq,Nat.reduceBEq,q1_,q3_]
  ·
   rintro D t w hD hp hcl ⟨O,ht,hs⟩ rest hk
   have hp:AllDone D [0]:=hp
   obtain ⟨p0_,_⟩:=hp
   have q3_:=ny hcl 3 0 hD
   simp only [hD,p0_,q3_,cq,oT] at ht hs
   subst ht
   refine Qaw rfl rfl (v:=int .u64 ((rdL a1.Qah x12 Qau).Qbh)) rfl rfl (fun _=>rfl) (cells_load (hs.cells 0 rfl) 0 1 rfl) ?_
   show G _ _ _ _ [_,_,_,_,_,_,_,_,_,_,_,_,_,_,_,_,_,_,_,_,_,_,_,_,_,_,_,_,_,_] _
   refine hk _ _ ⟨O,?_,hs.cast ?_⟩<;>simp only [oT,lq,cq,Nat.reduceBEq,p0_,q3_]
  ·
   rintro D t w hD hp hcl ⟨O,ht,hs⟩ rest hk
   have hp:AllDone D []:=hp
   have q3_:=ny hcl 3 1 hD
   simp only [hD,q3_,cq,oT] at ht hs
   subst ht
   refine Qaa (v:=int .i64 a4) rfl rfl rfl ?_
   show G _ _ _ _ [_,_,_,_,_,_,_,_,_,_,_,_,_,_,_,_,_,_,_,_,_,_,_,_,_,_,_,_,_,_] _
   refine hk _ _ ⟨O,?_,hs.cast ?_⟩<;>simp only [oT,lq,cq,Nat.reduceBEq,q3_]
  ·
   rintro D t w hD hp hcl ⟨O,ht,hs⟩ rest hk
   have hp:AllDone D [1,2]:=hp
   obtain ⟨p1_,p2_,_⟩:=hp
   obtain ⟨p0_,_⟩:=(show D 1=true→AllDone D [0] from hcl 1 (by decide)) p1_
   simp only [hD,p0_,p1_,p2_,cq,oT] at ht hs
   subst ht
   refine Qas (args:=[int .u64 ((rdL a1.Qah x12 Qau).Qbh),int .i64 a4,bool false]) rfl rfl (Qat rfl (callFunc_enter Tryz.func29 rfl rfl) rfl) (Qbo.calls (a1:=(rdL a1.Qah x12 Qau).Qbh) (a2:=a4) (a3:=false) Hr16) ?_
   rintro _ w ⟨rfl,hs2⟩
   have hs:St _ [_,_] _:=hs.call hs2
   show G _ _ _ _ [_,_,_,_,_,_,_,_,_,_,_,_,_,_,_,_,_,_,_,_,_,_,_,_,_,_,_,_,_,_] _
   refine hk _ _ ⟨O,?_,hs.cast ?_⟩<;>simp only [oT,lq,cq,Nat.reduceBEq,p0_,p1_,p2_]
  ·
   rintro D t w hD hp hcl ⟨O,ht,hs⟩ rest hk
   have hp:AllDone D []:=hp
   have q5_:=ny hcl 5 0 hD
   simp only [hD,q5_,cq,oT] at ht hs
   subst ht
   refine Qaa (v:=pointer (some ⟨b14,1,none⟩)) rfl rfl rfl ?_
   show G _ _ _ _ [_,_,_,_,_,_,_,_,_,_,_,_,_,_,_,_,_,_,_,_,_,_,_,_,_,_,_,_,_,_] _
   refine hk _ _ ⟨O,?_,hs.cast ?_⟩<;>simp only [oT,lq,cq,Nat.reduceBEq,q5_]
  ·
   rintro D t w hD hp hcl ⟨O,ht,hs⟩ rest hk
   have hp:AllDone D [4]:=hp
   obtain ⟨p4_,_⟩:=hp
   simp only [hD,p4_,cq,oT] at ht hs
   subst ht
   refine Qaw rfl rfl (v:=bool ((rdL a1.Qah x12 Qau).QbH)) rfl rfl (fun _=>rfl) (cells_load (hs.cells 0 rfl) 1 1 rfl) ?_
   show G _ _ _ _ [_,_,_,_,_,_,_,_,_,_,_,_,_,_,_,_,_,_,_,_,_,_,_,_,_,_,_,_,_,_] _
   refine hk _ _ ⟨O,?_,hs.cast ?_⟩<;>simp only [oT,lq,cq,Nat.reduceBEq,p4_]
  intro D t w rest hall hO2_ hI
  obtain ⟨O,ht,hs⟩:=hI
  have p0_:=hall 0 (by decide) rfl
  have p1_:=hall 1 (by decide) rfl
  have p2_:=hall 2 (by decide) rfl
  have p3_:=hall 3 (by decide) rfl
  have p4_:=hall 4 (by decide) rfl
  have p5_:=hall 5 (by decide) rfl
  simp only [p0_,p1_,p2_,p3_,p4_,p5_,cq,oT] at ht hs
  subst ht
  obtain ⟨rest,rfl,hO3_⟩:=ord_one (m:=63) hO2_ rfl 6 (m':=127) (by decide+kernel) rfl
  clear hO2_
  refine QaA (B:=r16 !=((rdL a1.Qah x12 Qau).QbH)) rfl rfl rfl ?_ ?_
  ·
   intro hb
   rw [if_neg (b_bne_t hb)] at H
   obtain rfl:=ord_end hO3_ rfl (by decide+kernel)
   refine Qab (Qam rfl (Qak [0,1,2,3,4] rfl ?_))
   refine Qaa (v:=v10) rfl rfl rfl ?_
   refine Qaa (v:=int .i64 x12) rfl rfl rfl ?_
   show G _ _ _ _ [_,_,_,_,_,_,_,_,_,_,_,_,_,_,_,_,_,_,_,_,_,_,_,_,_,_,_,_,_,_] _
   refine Qcr (fkI .i64) (y:=x12) hs rfl rfl rfl rfl (fun _=>rfl) (zv:=(int .i64 0)) (fun _=>rfl) rfl (by decide) (by decide) rfl ?_
   intro v17 w hs
   have hs:St _ [_,_,_] _:=hs.pull 2 rfl
   obtain ⟨g,H⟩:=ite_get H
   refine Qci (fkI .i64) (zv:=(int .i64 0)) (B:=8) hs (hs.row 1 rfl) rfl rfl rfl rfl rfl rfl rfl rfl rfl (by decide) rfl rfl (by decide) (by omega) ?_
   intro v19 w hs
   refine Qaa (v:=v19) rfl rfl rfl ?_
   show G _ _ _ _ [_,_,_,_,_,_,_,_,_,_,_,_,_,_,_,_,_,_,_,_,_,_,_,_,_,_,_,_,_,_] _
   refine Qab ?_
   refine QaH ?_
   have hs:=hs.pull 0 rfl
   have hs:St _ [_] _:=St.take (Γ':=[_,_]) hs
   exact ha _ _ ⟨v19,x11++([x12]),H,rfl,hs⟩
  intro hb
  rw [if_pos (b_bne_f hb)] at H
  obtain rfl:=ord_end hO3_ rfl (by decide+kernel)
  refine Qab (Qap rfl (QaE ?_))
  refine QaH ?_
  have hs:=hs.pull 1 rfl
  have hs:St _ [_] _:=St.take (Γ':=[_]) hs
  exact ha _ _ ⟨v10,x11,H,rfl,hs⟩
 intro hb
 rw [if_neg (b_dec_f hb)] at H
 refine Qab (Qaf (Qap rfl ?_))
 obtain rfl:=QsJ H
 subst Hx1_
 have hs:=hs.pull 0 rfl
 have hs:St _ [_] _:=St.take (Γ':=[]) hs
 refine Qbq rfl ?_
 exact ha1_ _ _ ⟨v10,x11,Hr1_,rfl,hs⟩
theorem Qcu:Tryz.prog.eqGuardType Tryz.prog.depth 61=false:=by kernel_rfl
theorem Qcy (a b:Qav) (w:World):(Op.equal 61 (.agg (QaC a).toArray) (.agg (QaC b).toArray)).run Tryz.prog w= .ok (decide (a=b)) w:=by
 have q:=equal_struct (w:=w) (xs:=(QaC a).toArray) (ys:=(QaC b).toArray) Tryz.underlying61 (by kernel_rfl) (eqFields_step (by decide) rfl rfl (equalIn_int (d:=9998) Tryz.underlying50) (eqFields_step (by decide) rfl rfl (equalIn_bool (d:=9998) Tryz.underlying4) eqFields_nil))
 rw [q]
 congr 1
 rw [Bool.eq_iff_iff,decide_eq_true_eq]
 cases a;cases b
 simp [Qav.mk.injEq]
theorem Qct:Tryz.prog.eqGuardType Tryz.prog.depth 47=false:=by kernel_rfl
theorem QcA (a b:Ar Int 4) (w:World):(Op.equal 47 (.agg (encA (encI .i64) a).toArray) (.agg (encA (encI .i64) b).toArray)).run Tryz.prog w= .ok (decide (a=b)) w:=by
 obtain ⟨a0,a1,a2,a3,rfl⟩:=ar4 a
 obtain ⟨b0,b1,b2,b3,rfl⟩:=ar4 b
 have q:=equalIn_arr4 (w:=w) (d:=9998) (xs:=#[int .i64 a0,int .i64 a1,int .i64 a2,int .i64 a3]) (ys:=#[int .i64 b0,int .i64 b1,int .i64 b2,int .i64 b3]) Tryz.underlying47 (by rfl) Tryz.underlying2 (by kernel_rfl) rfl rfl rfl rfl rfl rfl rfl rfl
 refine Eq.trans q ?_
 congr 1
 rw [Bool.eq_iff_iff,decide_eq_true_eq]
 simp [Ar.mk.injEq,and_assoc]
end Go.Proofs.YtdnipilfcjkfoaaGreatDoorX
