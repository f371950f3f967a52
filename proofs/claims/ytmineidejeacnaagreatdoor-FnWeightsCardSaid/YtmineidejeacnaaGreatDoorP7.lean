import Derived.Test.YtmineidejeacnaaGreatDoorP5
import Derived.Test.YtmineidejeacnaaGreatDoorP6
namespace Go.Proofs.YtmineidejeacnaaGreatDoorX
open Go Go.RowKit Go.Proofs
open Go.Value (int pointer bool agg slice string tuple)
set_option maxHeartbeats 8000000
set_option maxRecDepth 100000
set_option linter.unusedVariables false
set_option linter.unusedSimpArgs false
def Qbx.post (w0:World) (r:Bool) (v:Value) (w:World):Prop:=v=bool r∧St w0 [] w
theorem Qbx.calls {N:Nat} {a1:(List Int)} {a3:(List Int)} {v2:Value} {v4:Value} {w0:World} {r:Bool} (hr0:RdRow (K.int .u8) w0 v2 a1) (hr1:RdRow (K.int .u8) w0 v4 a3) (H:Qbx.f N a1 a3=some r):
 Calls Tryz.prog 4 #[v2,v4] w0 fun e w=>∃ v,e= .returned v∧Qbx.post w0 r v w:=by
 unfold Qbx.f at H
 have hs:St w0 [] w0:=St.refl w0
 refine calls_of_g (n:=11) Tryz.func4 rfl rfl ?_
 show G _ _ _ _ [_,_,_,_,_,_,_,_,_,_,_,_,_] _
 refine Qad (Qag [0] rfl ?_)
 refine Qaa (v:=bool false) rfl rfl rfl (Qac (Qad (Qag [0,1,2,3,4,5,6,7,8] rfl ?_)))
 refine Qaa (v:=v2) rfl rfl rfl ?_
 show G _ _ _ _ [_,_,_,_,_,_,_,_,_,_,_,_,_] _
 refine Qba (hs.rd hr0) rfl rfl rfl rfl rfl ?_
 refine Qas (B:=decide ((a1.length:Int)>3000)) rfl rfl rfl ?_ ?_
 ·
  intro hb
  rw [if_pos (b_dec_t hb)] at H
  show G _ _ _ _ [_,_,_,_,_,_,_,_,_,_,_,_,_] _
  refine Qaa (v:=bool true) rfl rfl rfl (Qab rfl rfl (Qab rfl rfl ?_))
  show G _ _ _ _ [_,_,_,_,_,_,_,_,_,_,_,_,_] _
  refine Qab rfl rfl ?_
  refine Qaa (v:=bool true) rfl rfl rfl ?_
  refine Qaa (v:=bool true) rfl rfl rfl ?_
  show G _ _ _ _ [_,_,_,_,_,_,_,_,_,_,_,_,_] _
  refine Qac ?_
  obtain rfl:=QsJ H
  refine Qaq Tryz.func4 (v:=bool true) (res1 rfl rfl) ?_
  have hs:St _ [] _:=St.take (Γ':=[]) hs
  exact ⟨_,rfl,rfl,hs⟩
 intro hb
 rw [if_neg (b_dec_f hb)] at H
 refine Qaa (v:=bool false) rfl rfl rfl ?_
 show G _ _ _ _ [_,_,_,_,_,_,_,_,_,_,_,_,_] _
 refine Qaa (v:=v4) rfl rfl rfl ?_
 refine Qba (hs.rd hr1) rfl rfl rfl rfl rfl ?_
 refine Qaa (v:=bool (decide ((a3.length:Int)>3000))) rfl rfl rfl ?_
 show G _ _ _ _ [_,_,_,_,_,_,_,_,_,_,_,_,_] _
 refine Qaa (v:=bool (decide ((a3.length:Int)>3000))) rfl rfl rfl ?_
 refine Qaa (v:=bool (decide ((a3.length:Int)>3000))) rfl rfl rfl (Qac ?_)
 obtain rfl:=QsJ H
 refine Qaq Tryz.func4 (v:=bool (decide ((a3.length:Int)>3000))) (res1 rfl rfl) ?_
 have hs:St _ [] _:=St.take (Γ':=[]) hs
 exact ⟨_,rfl,rfl,hs⟩
def Qbq.post (w0:World) (v2:Value) (r:Qav) (v:Value) (w:World):Prop:=∃ b1:Nat,v=pointer (some ⟨b1,0,none⟩)∧St w0 [Cells b1 (([v2,int .i64 r.QaY,int .u64 r.QaN]:List Value)) 96] w
theorem Qbq.calls {N:Nat} {a1:(List Int)} {v2:Value} {w0:World} {r:Qav} (hr0:RdRow (K.int .u8) w0 v2 a1) (H:Qbq.f N a1=some r):
 Calls Tryz.prog 30 #[v2] w0 fun e w=>∃ v,e= .returned v∧Qbq.post w0 v2 r v w:=by
 unfold Qbq.f at H
 have hs:St w0 [] w0:=St.refl w0
 refine calls_of_g (n:=5) Tryz.func30 rfl rfl ?_
 show G _ _ _ _ [_,_,_,_,_,_] _
 refine Qad (Qag [0] rfl ?_)
 refine Qaa (v:=pointer none) rfl rfl rfl (Qac (Qad (Qag [0,1,2,3] rfl ?_)))
 refine Qaa (v:=v2) rfl rfl rfl ?_
 show G _ _ _ _ [_,_,_,_,_,_] _
 refine Qaa (v:=agg (([v2,int .i64 0,int .u64 0]:List Value)).toArray) rfl rfl (Qca (cs:=(([v2,int .i64 0,int .u64 0]:List Value))) (segs:=[[slice none 0 0],[int .i64 0],[int .u64 0]]) rfl rfl (fun _=>rfl) ⟨rfl,(fun _=>rfl),rfl,(fun _=>rfl),rfl,(fun _=>rfl),trivial⟩ (by simp only [List.map_cons,List.map_nil,List.forall_mem_cons,List.not_mem_nil,false_implies,implies_true,and_true];exact ⟨_,rfl,slSize (hs.rd hr0)⟩) (by first|rfl|(simp [ev,encA,slCells (hs.rd hr0)];done)|(simp [ev,encA,slCells (hs.rd hr0)];rfl))) ?_
 refine QcE hs rfl rfl (cs:=(([v2,int .i64 0,int .u64 0]:List Value))) rfl rfl ?_
 intro b3 w hs
 refine Qaa (v:=pointer (some ⟨b3,0,none⟩)) rfl rfl rfl ?_
 show G _ _ _ _ [_,_,_,_,_,_] _
 refine Qac ?_
 obtain rfl:=QsJ H
 refine Qaq Tryz.func30 (v:=pointer (some ⟨b3,0,none⟩)) (res1 rfl rfl) ?_
 have hs:=hs.pull 0 rfl
 have hs:St _ [_] _:=St.take (Γ':=[]) hs
 exact ⟨_,rfl,b3,rfl,hs⟩
def QaX.post (wb:World) (Z:As) (b2:Nat) (v3:Value) (r:(Int×Qav)) (v:Value) (w:World):Prop:=v=int .i64 r.1∧St wb [Cells b2 (([v3,int .i64 r.2.QaY,int .u64 r.2.QaN]:List Value)) 96,Z] w
theorem QaX.calls {N:Nat} {a1:Qav} {b2:Nat} {v3:Value} {wb:World} {Z:As} {w0:World} {r:(Int×Qav)} (hs:St wb [Cells b2 (([v3,int .i64 a1.QaY,int .u64 a1.QaN]:List Value)) 96,Z] w0) (hr4:RdRow (K.int .u8) wb v3 a1.QaQ) (H:QaX.f N a1=some r):
 Calls Tryz.prog 60 #[pointer (some ⟨b2,0,none⟩)] w0 fun e w=>∃ v,e= .returned v∧QaX.post wb Z b2 v3 r v w:=by
 unfold QaX.f at H
 refine calls_of_g (n:=61) Tryz.func60 rfl rfl ?_
 show G _ _ _ _ (_::_::_::_::_::_::_::_::_::_::_::_::_::_::_::_::_::_::_::_::_::_::_::_::_::_::_::_::_::_::_::_::_::_::_::_::_::_::_::_::_::_::_::_::_::_::_::_::_::_::_::_::_::_::_::_::_::_::_::_::_::_::[]) _
 refine Qad (Qag [0] rfl ?_)
 refine Qaa (v:=int .i64 0) rfl rfl rfl (g_d rfl (Qac (Qad (Qag [0] rfl ?_))))
 refine Qaa (v:=int .i64 0) rfl rfl rfl (g_d rfl ?_)
 try dsimp only [Qae,Qaf]
 refine Qac (Qad (Qad ?_))
 refine QbR (J:=(fun t w=>∃ x6:Int,QaX.j0 N a1 x6=some r∧Fr t (fun O=>(pointer (some ⟨b2,0,none⟩)::O 1::O 2::int .i64 x6::O 4::O 5::O 6::O 7::O 8::O 9::oT O 1 (oT O 2 (oT O 3 (oT O 4 (oT O 5 (O 60::O 61::[]))))):List Value))∧St wb [Cells b2 (([v3,int .i64 a1.QaY,int .u64 a1.QaN]:List Value)) 96,Z] w)) ?_ ?_
 ·
  rintro t w ⟨x6,H,hf,hs⟩
  obtain ⟨O,rfl⟩:=hf.open
  try dsimp only [oT]
  unfold QaX.j0 at H
  refine Qad (Qag [0,1,2,3,4,5,6,7] rfl ?_)
  refine Qaa (v:=pointer (some ⟨b2,0,none⟩)) rfl rfl rfl (g_d rfl ?_)
  refine Qaa (v:=pointer (some ⟨b2,0,none⟩)) rfl rfl rfl (g_d rfl ?_)
  refine Qaa (v:=pointer (some ⟨b2,1,none⟩)) rfl rfl rfl (g_d rfl ?_)
  refine QaA rfl rfl (v:=int .i64 a1.QaY) rfl rfl (fun _=>rfl) (cells_load (hs.cells 0 rfl) 1 1 rfl) (g_d rfl ?_)
  refine Qaa (v:=int .i64 (i64w (a1.QaY+1))) rfl rfl rfl (g_d rfl ?_)
  try dsimp only [Qae,Qaf]
  refine Qaa (v:=pointer (some ⟨b2,0,none⟩)) rfl rfl rfl (g_d rfl ?_)
  refine Qaa (v:=pointer (some ⟨b2,1,none⟩)) rfl rfl rfl (g_d rfl ?_)
  refine QbO hs rfl rfl (vs:=((encI .i64) (i64w (a1.QaY+1)))) (cs':=(([v3,int .i64 (i64w (a1.QaY+1)),int .u64 a1.QaN]:List Value))) rfl rfl rfl (n:=1) (fun _=>rfl) ((fkI .i64).len _) (by first|exact Nat.le_of_ble_eq_true rfl|simp [encAI_len,encAB_len,encA_len]) ((fkI .i64).one _) rfl ?_
  intro w hs
  refine g_n rfl (Qac (Qad (Qag [0,1,2,3,4,5,6,7,8,9,10,11,12] rfl ?_)))
  refine Qaa (v:=pointer (some ⟨b2,0,none⟩)) rfl rfl rfl (g_d rfl ?_)
  refine Qaa (v:=pointer (some ⟨b2,0,none⟩)) rfl rfl rfl (g_d rfl ?_)
  refine Qaa (v:=pointer (some ⟨b2,0,none⟩)) rfl rfl rfl (g_d rfl ?_)
  refine Qaa (v:=pointer (some ⟨b2,2,none⟩)) rfl rfl rfl (g_d rfl ?_)
  refine QaA rfl rfl (v:=int .u64 a1.QaN) rfl rfl (fun _=>rfl) (cells_load (hs.cells 0 rfl) 2 1 rfl) (g_d rfl ?_)
  refine Qaa (v:=int .u64 (u64w (a1.QaN*6364136223846793005))) rfl rfl rfl (g_d rfl ?_)
  try dsimp only [Qae,Qaf]
  refine Qaa (v:=int .i64 x6) rfl rfl rfl (g_d rfl ?_)
  refine Qaa (v:=int .u64 (u64w x6)) rfl rfl rfl (g_d rfl ?_)
  refine Qaa (v:=int .u64 (u64w ((u64w (a1.QaN*6364136223846793005))+(u64w x6)))) rfl rfl rfl (g_d rfl ?_)
  refine Qaa (v:=int .u64 (u64w ((u64w ((u64w (a1.QaN*6364136223846793005))+(u64w x6)))+1442695040888963407))) rfl rfl rfl (g_d rfl ?_)
  try dsimp only [Qae,Qaf]
  refine Qaa (v:=pointer (some ⟨b2,0,none⟩)) rfl rfl rfl (g_d rfl ?_)
  refine Qaa (v:=pointer (some ⟨b2,2,none⟩)) rfl rfl rfl (g_d rfl ?_)
  refine QbO hs rfl rfl (vs:=((encI .u64) (u64w ((u64w ((u64w (a1.QaN*6364136223846793005))+(u64w x6)))+1442695040888963407)))) (cs':=(([v3,int .i64 (i64w (a1.QaY+1)),int .u64 (u64w ((u64w ((u64w (a1.QaN*6364136223846793005))+(u64w x6)))+1442695040888963407))]:List Value))) rfl rfl rfl (n:=1) (fun _=>rfl) ((fkI .u64).len _) (by first|exact Nat.le_of_ble_eq_true rfl|simp [encAI_len,encAB_len,encA_len]) ((fkI .u64).one _) rfl ?_
  intro w hs
  refine g_n rfl (Qac (Qad (Qad ?_)))
  refine QbP (n:=10) rfl [0,1,2,3,4,5,6,7,8,9] [0,1,2,3,4,5,6,7,8,9] rfl rfl ?_
  intro rest w hh hbw hO
  have hs:=hs.samew hh hbw
  try dsimp only [Qae,Qaf]
  refine Qbz ?_
  intro T hT
  refine QbA (m0:=0) hO rfl 511 [0,1,2,3,4,5,6,7,8] [0,1,3,7,0,16,48,112,240,511] (by decide+kernel) (fun D t w=>∃ O:Nat→Value,t=(pointer (some ⟨b2,0,none⟩)::O 1::O 2::int .i64 x6::O 4::O 5::O 6::O 7::O 8::O 9::oT O 1 (O 20::O 21::O 22::O 23::O 24::pointer (some ⟨b2,0,none⟩)::pointer (some ⟨b2,0,none⟩)::pointer (some ⟨b2,1,none⟩)::int .i64 a1.QaY::int .i64 (i64w (a1.QaY+1))::pointer (some ⟨b2,0,none⟩)::pointer (some ⟨b2,1,none⟩)::pointer (some ⟨b2,0,none⟩)::pointer (some ⟨b2,0,none⟩)::pointer (some ⟨b2,0,none⟩)::pointer (some ⟨b2,2,none⟩)::int .u64 a1.QaN::int .u64 (u64w (a1.QaN*6364136223846793005))::int .i64 x6::int .u64 (u64w x6)::int .u64 (u64w ((u64w (a1.QaN*6364136223846793005))+(u64w x6)))::int .u64 (u64w ((u64w ((u64w (a1.QaN*6364136223846793005))+(u64w x6)))+1442695040888963407))::pointer (some ⟨b2,0,none⟩)::pointer (some ⟨b2,2,none⟩)::cnd (D 0) (pointer (some ⟨b2,0,none⟩)) (O 44)::cnd (D 1) (pointer (some ⟨b2,0,none⟩)) (O 45)::cnd (D 2) (pointer (some ⟨b2,1,none⟩)) (O 46)::cnd (D 3) (int .i64 (i64w (a1.QaY+1))) (O 47)::cnd (D 4) (pointer (some ⟨b2,0,none⟩)) (O 48)::cnd (D 5) (pointer (some ⟨b2,0,none⟩)) (O 49)::cnd (D 6) (pointer (some ⟨b2,0,none⟩)) (O 50)::cnd (D 7) v3 (O 51)::cnd (D 8) (int .i64 (a1.QaQ.length:Int)) (O 52)::O 53::O 54::O 55::O 56::O 57::O 58::O 59::O 60::O 61::[]))∧St wb [Cells b2 (([v3,int .i64 (i64w (a1.QaY+1)),int .u64 (u64w ((u64w ((u64w (a1.QaN*6364136223846793005))+(u64w x6)))+1442695040888963407))]:List Value)) 96,Z] w) ?_ ⟨?_,⟨?_,⟨?_,⟨?_,⟨?_,⟨?_,⟨?_,⟨?_,⟨?_,trivial⟩⟩⟩⟩⟩⟩⟩⟩⟩ ?_
  ·exact ⟨fun i=>T.getD i undef,(by subst hT;rfl),hs⟩
  ·
   rintro D t w hD hp hcl ⟨O,ht,hs⟩ rest hk
   have hp:AllDone D []:=hp
   have q1_:=ny hcl 1 0 hD
   have q2_:=ny hcl 2 0 q1_
   have q3_:=ny hcl 3 0 q2_
   simp only [hD,q1_,q2_,q3_,cq,oT] at ht hs
   subst ht
   refine Qaa (v:=pointer (some ⟨b2,0,none⟩)) rfl rfl rfl (g_d rfl ?_)
   try dsimp only [Qae,Qaf]
   refine hk _ _ ⟨O,?_,hs.cast ?_⟩<;>simp only [oT,lq,cq,Nat.reduceBEq,q1_,q2_,q3_]
  ·
   rintro D t w hD hp hcl ⟨O,ht,hs⟩ rest hk
   have hp:AllDone D [0]:=hp
   obtain ⟨p0_,_⟩:=hp
   have q2_:=ny hcl 2 0 hD
   have q3_:=ny hcl 3 0 q2_
   simp only [hD,p0_,q2_,q3_,cq,oT] at ht hs
   subst ht
   refine Qaa (v:=pointer (some ⟨b2,0,none⟩)) rfl rfl rfl (g_d rfl ?_)
   try dsimp only [Qae,Qaf]
   refine hk _ _ ⟨O,?_,hs.cast ?_⟩<;>simp only [oT,lq,cq,Nat.reduceBEq,p0_,q2_,q3_]
  ·
   rintro D t w hD hp hcl ⟨O,ht,hs⟩ rest hk
   have hp:AllDone D [1]:=hp
   obtain ⟨p1_,_⟩:=hp
   obtain ⟨p0_,_⟩:=(show D 1=true→AllDone D [0] from hcl 1 (by decide)) p1_
   have q3_:=ny hcl 3 0 hD
   simp only [hD,p0_,p1_,q3_,cq,oT] at ht hs
   subst ht
   refine Qaa (v:=pointer (some ⟨b2,1,none⟩)) rfl rfl rfl (g_d rfl ?_)
   try dsimp only [Qae,Qaf]
   refine hk _ _ ⟨O,?_,hs.cast ?_⟩<;>simp only [oT,lq,cq,Nat.reduceBEq,p0_,p1_,q3_]
  ·
   rintro D t w hD hp hcl ⟨O,ht,hs⟩ rest hk
   have hp:AllDone D [2]:=hp
   obtain ⟨p2_,_⟩:=hp
   obtain ⟨p1_,_⟩:=(show D 2=true→AllDone D [1] from hcl 2 (by decide)) p2_
   obtain ⟨p0_,_⟩:=(show D 1=true→AllDone D [0] from hcl 1 (by decide)) p1_
   simp only [hD,p0_,p1_,p2_,cq,oT] at ht hs
   subst ht
   refine QaA rfl rfl (v:=int .i64 (i64w (a1.QaY+1))) rfl rfl (fun _=>rfl) (cells_load (hs.cells 0 rfl) 1 1 rfl) (g_d rfl ?_)
   try dsimp only [Qae,Qaf]
   refine hk _ _ ⟨O,?_,hs.cast ?_⟩<;>simp only [oT,lq,cq,Nat.reduceBEq,p0_,p1_,p2_]
  ·
   rintro D t w hD hp hcl ⟨O,ht,hs⟩ rest hk
   have hp:AllDone D []:=hp
   have q5_:=ny hcl 5 0 hD
   have q6_:=ny hcl 6 0 q5_
   have q7_:=ny hcl 7 0 q6_
   have q8_:=ny hcl 8 0 q7_
   simp only [hD,q5_,q6_,q7_,q8_,cq,oT] at ht hs
   subst ht
   refine Qaa (v:=pointer (some ⟨b2,0,none⟩)) rfl rfl rfl (g_d rfl ?_)
   try dsimp only [Qae,Qaf]
   refine hk _ _ ⟨O,?_,hs.cast ?_⟩<;>simp only [oT,lq,cq,Nat.reduceBEq,q5_,q6_,q7_,q8_]
  ·
   rintro D t w hD hp hcl ⟨O,ht,hs⟩ rest hk
   have hp:AllDone D [4]:=hp
   obtain ⟨p4_,_⟩:=hp
   have q6_:=ny hcl 6 0 hD
   have q7_:=ny hcl 7 0 q6_
   have q8_:=ny hcl 8 0 q7_
   simp only [hD,p4_,q6_,q7_,q8_,cq,oT] at ht hs
   subst ht
   refine Qaa (v:=pointer (some ⟨b2,0,none⟩)) rfl rfl rfl (g_d rfl ?_)
   try dsimp only [Qae,Qaf]
   refine hk _ _ ⟨O,?_,hs.cast ?_⟩<;>simp only [oT,lq,cq,Nat.reduceBEq,p4_,q6_,q7_,q8_]
  ·
   rintro D t w hD hp hcl ⟨O,ht,hs⟩ rest hk
   have hp:AllDone D [5]:=hp
   obtain ⟨p5_,_⟩:=hp
   obtain ⟨p4_,_⟩:=(show D 5=true→AllDone D [4] from hcl 5 (by decide)) p5_
   have q7_:=ny hcl 7 0 hD
   have q8_:=ny hcl 8 0 q7_
   simp only [hD,p4_,p5_,q7_,q8_,cq,oT] at ht hs
   subst ht
   refine Qaa (v:=pointer (some ⟨b2,0,none⟩)) rfl rfl rfl (g_d rfl ?_)
   try dsimp only [Qae,Qaf]
   refine hk _ _ ⟨O,?_,hs.cast ?_⟩<;>simp only [oT,lq,cq,Nat.reduceBEq,p4_,p5_,q7_,q8_]
  ·
   rintro D t w hD hp hcl ⟨O,ht,hs⟩ rest hk
   have hp:AllDone D [6]:=hp
   obtain ⟨p6_,_⟩:=hp
   obtain ⟨p5_,_⟩:=(show D 6=true→AllDone D [5] from hcl 6 (by decide)) p6_
   obtain ⟨p4_,_⟩:=(show D 5=true→AllDone D [4] from hcl 5 (by decide)) p5_
   have q8_:=ny hcl 8 0 hD
   simp only [hD,p4_,p5_,p6_,q8_,cq,oT] at ht hs
   subst ht
   refine QaA rfl rfl (v:=v3) rfl rfl (fun _=>rfl) (cells_load (hs.cells 0 rfl) 0 1 rfl) (g_d rfl ?_)
   try dsimp only [Qae,Qaf]
   refine hk _ _ ⟨O,?_,hs.cast ?_⟩<;>simp only [oT,lq,cq,Nat.reduceBEq,p4_,p5_,p6_,q8_]
  ·
   rintro D t w hD hp hcl ⟨O,ht,hs⟩ rest hk
   have hp:AllDone D [7]:=hp
   obtain ⟨p7_,_⟩:=hp
   obtain ⟨p6_,_⟩:=(show D 7=true→AllDone D [6] from hcl 7 (by decide)) p7_
   obtain ⟨p5_,_⟩:=(show D 6=true→AllDone D [5] from hcl 6 (by decide)) p6_
   obtain ⟨p4_,_⟩:=(show D 5=true→AllDone D [4] from hcl 5 (by decide)) p5_
   simp only [hD,p4_,p5_,p6_,p7_,cq,oT] at ht hs
   subst ht
   refine Qba (hs.rd hr4) rfl rfl rfl rfl rfl (g_d rfl ?_)
   try dsimp only [Qae,Qaf]
   refine hk _ _ ⟨O,?_,hs.cast ?_⟩<;>simp only [oT,lq,cq,Nat.reduceBEq,p4_,p5_,p6_,p7_]
  intro D t w rest hall hO5_ hI
  obtain ⟨O,ht,hs⟩:=hI
  have p0_:=hall 0 (by decide) rfl
  have p1_:=hall 1 (by decide) rfl
  have p2_:=hall 2 (by decide) rfl
  have p3_:=hall 3 (by decide) rfl
  have p4_:=hall 4 (by decide) rfl
  have p5_:=hall 5 (by decide) rfl
  have p6_:=hall 6 (by decide) rfl
  have p7_:=hall 7 (by decide) rfl
  have p8_:=hall 8 (by decide) rfl
  simp only [p0_,p1_,p2_,p3_,p4_,p5_,p6_,p7_,p8_,cq,oT] at ht hs
  subst ht
  obtain ⟨rest,rfl,hO6_⟩:=ord_one (m:=511) hO5_ rfl 9 (m':=1023) (by decide+kernel) rfl
  clear hO5_
  refine Qas (B:=decide ((i64w (a1.QaY+1))≤(a1.QaQ.length:Int))) rfl rfl rfl ?_ ?_
  ·
   intro hb
   rw [if_pos (b_dec_t hb)] at H
   refine g_d rfl ?_
   try dsimp only [Qae,Qaf]
   obtain rfl:=ord_end hO6_ rfl (by decide+kernel)
   refine Qac (Qai rfl (Qad (Qag [0,1] rfl ?_)))
   refine Qaa (v:=int .i64 x6) rfl rfl rfl (g_d rfl ?_)
   refine Qaa (v:=int .i64 x6) rfl rfl rfl (g_d rfl (Qac ?_))
   obtain rfl:=QsJ H
   refine Qaq Tryz.func60 (v:=int .i64 x6) (res1 rfl rfl) ?_
   have hs:=hs.pull 1 rfl
   have hs:=hs.pull 1 rfl
   have hs:St _ [_,_] _:=St.take (Γ':=[]) hs
   exact ⟨_,rfl,rfl,hs⟩
  intro hb
  rw [if_neg (b_dec_f hb)] at H
  refine g_d rfl ?_
  obtain rfl:=ord_end hO6_ rfl (by decide+kernel)
  refine Qac (Qal rfl (Qay (Qad (Qag [0,1,2,3,4,5,6,7] rfl ?_))))
  refine Qaa (v:=pointer (some ⟨b2,0,none⟩)) rfl rfl rfl (g_d rfl ?_)
  refine Qaa (v:=pointer (some ⟨b2,0,none⟩)) rfl rfl rfl (g_d rfl ?_)
  refine Qaa (v:=pointer (some ⟨b2,2,none⟩)) rfl rfl rfl (g_d rfl ?_)
  refine QaA rfl rfl (v:=int .u64 (u64w ((u64w ((u64w (a1.QaN*6364136223846793005))+(u64w x6)))+1442695040888963407))) rfl rfl (fun _=>rfl) (cells_load (hs.cells 0 rfl) 2 1 rfl) (g_d rfl ?_)
  try dsimp only [Qae,Qaf]
  refine Qaa (v:=int .u64 (shrI .u64 (u64w ((u64w ((u64w (a1.QaN*6364136223846793005))+(u64w x6)))+1442695040888963407)) 40)) rfl rfl rfl (g_d rfl ?_)
  refine Qaa (v:=int .u64 (bAnd .u64 (shrI .u64 (u64w ((u64w ((u64w (a1.QaN*6364136223846793005))+(u64w x6)))+1442695040888963407)) 40) 255)) rfl rfl rfl (g_d rfl ?_)
  try dsimp only [Qae,Qaf]
  refine Qaa (v:=int .i64 (i64w (bAnd .u64 (shrI .u64 (u64w ((u64w ((u64w (a1.QaN*6364136223846793005))+(u64w x6)))+1442695040888963407)) 40) 255))) rfl rfl rfl (g_d rfl ?_)
  refine Qaa (v:=int .i64 (i64w (bAnd .u64 (shrI .u64 (u64w ((u64w ((u64w (a1.QaN*6364136223846793005))+(u64w x6)))+1442695040888963407)) 40) 255))) rfl rfl rfl (g_d rfl (Qac ?_))
  obtain rfl:=QsJ H
  refine Qaq Tryz.func60 (v:=int .i64 (i64w (bAnd .u64 (shrI .u64 (u64w ((u64w ((u64w (a1.QaN*6364136223846793005))+(u64w x6)))+1442695040888963407)) 40) 255))) (res1 rfl rfl) ?_
  have hs:=hs.pull 1 rfl
  have hs:=hs.pull 1 rfl
  have hs:St _ [_,_] _:=St.take (Γ':=[]) hs
  exact ⟨_,rfl,rfl,hs⟩
 intro ha
 refine QbP (n:=10) rfl [0,1,2,3,4,5,6,7,8,9] [0,1,2,3,4,5,6,7,8,9] rfl rfl ?_
 intro rest w hh hbw hO
 have hs:=hs.samew hh hbw
 try dsimp only [Qae,Qaf]
 refine Qbz ?_
 intro T hT
 refine QbA (m0:=0) hO rfl 511 [0,1,2,3,4,5,6,7,8] [0,1,3,7,0,16,48,112,240,511] (by decide+kernel) (fun D t w=>∃ O:Nat→Value,t=(pointer (some ⟨b2,0,none⟩)::O 1::int .i64 0::int .i64 0::cnd (D 0) (pointer (some ⟨b2,0,none⟩)) (O 4)::cnd (D 1) (pointer (some ⟨b2,0,none⟩)) (O 5)::cnd (D 2) (pointer (some ⟨b2,1,none⟩)) (O 6)::cnd (D 3) (int .i64 a1.QaY) (O 7)::cnd (D 4) (pointer (some ⟨b2,0,none⟩)) (O 8)::cnd (D 5) (pointer (some ⟨b2,0,none⟩)) (O 9)::cnd (D 6) (pointer (some ⟨b2,0,none⟩)) (O 10)::cnd (D 7) v3 (O 11)::cnd (D 8) (int .i64 (a1.QaQ.length:Int)) (O 12)::O 13::O 14::O 15::O 16::O 17::O 18::O 19::oT O 2 (oT O 3 (oT O 4 (oT O 5 (O 60::O 61::[])))))∧St wb [Cells b2 (([v3,int .i64 a1.QaY,int .u64 a1.QaN]:List Value)) 96,Z] w) ?_ ⟨?_,⟨?_,⟨?_,⟨?_,⟨?_,⟨?_,⟨?_,⟨?_,⟨?_,trivial⟩⟩⟩⟩⟩⟩⟩⟩⟩ ?_
 ·exact ⟨fun i=>T.getD i undef,(by subst hT;rfl),hs⟩
 ·
  rintro D t w hD hp hcl ⟨O,ht,hs⟩ rest hk
  have hp:AllDone D []:=hp
  have q1_:=ny hcl 1 0 hD
  have q2_:=ny hcl 2 0 q1_
  have q3_:=ny hcl 3 0 q2_
  simp only [hD,q1_,q2_,q3_,cq,oT] at ht hs
  subst ht
  refine Qaa (v:=pointer (some ⟨b2,0,none⟩)) rfl rfl rfl (g_d rfl ?_)
  try dsimp only [Qae,Qaf]
  refine hk _ _ ⟨O,?_,hs.cast ?_⟩<;>simp only [oT,lq,cq,Nat.reduceBEq,q1_,q2_,q3_]
 ·
  rintro D t w hD hp hcl ⟨O,ht,hs⟩ rest hk
  have hp:AllDone D [0]:=hp
  obtain ⟨p0_,_⟩:=hp
  have q2_:=ny hcl 2 0 hD
  have q3_:=ny hcl 3 0 q2_
  simp only [hD,p0_,q2_,q3_,cq,oT] at ht hs
  subst ht
  refine Qaa (v:=pointer (some ⟨b2,0,none⟩)) rfl rfl rfl (g_d rfl ?_)
  try dsimp only [Qae,Qaf]
  refine hk _ _ ⟨O,?_,hs.cast ?_⟩<;>simp only [oT,lq,cq,Nat.reduceBEq,p0_,q2_,q3_]
 ·
  rintro D t w hD hp hcl ⟨O,ht,hs⟩ rest hk
  have hp:AllDone D [1]:=hp
  obtain ⟨p1_,_⟩:=hp
  obtain ⟨p0_,_⟩:=(show D 1=true→AllDone D [0] from hcl 1 (by decide)) p1_
  have q3_:=ny hcl 3 0 hD
  simp only [hD,p0_,p1_,q3_,cq,oT] at ht hs
  subst ht
  refine Qaa (v:=pointer (some ⟨b2,1,none⟩)) rfl rfl rfl (g_d rfl ?_)
  try dsimp only [Qae,Qaf]
  refine hk _ _ ⟨O,?_,hs.cast ?_⟩<;>simp only [oT,lq,cq,Nat.reduceBEq,p0_,p1_,q3_]
 ·
  rintro D t w hD hp hcl ⟨O,ht,hs⟩ rest hk
  have hp:AllDone D [2]:=hp
  obtain ⟨p2_,_⟩:=hp
  obtain ⟨p1_,_⟩:=(show D 2=true→AllDone D [1] from hcl 2 (by decide)) p2_
  obtain ⟨p0_,_⟩:=(show D 1=true→AllDone D [0] from hcl 1 (by decide)) p1_
  simp only [hD,p0_,p1_,p2_,cq,oT] at ht hs
  subst ht
  refine QaA rfl rfl (v:=int .i64 a1.QaY) rfl rfl (fun _=>rfl) (cells_load (hs.cells 0 rfl) 1 1 rfl) (g_d rfl ?_)
  try dsimp only [Qae,Qaf]
  refine hk _ _ ⟨O,?_,hs.cast ?_⟩<;>simp only [oT,lq,cq,Nat.reduceBEq,p0_,p1_,p2_]
 ·
  rintro D t w hD hp hcl ⟨O,ht,hs⟩ rest hk
  have hp:AllDone D []:=hp
  have q5_:=ny hcl 5 0 hD
  have q6_:=ny hcl 6 0 q5_
  have q7_:=ny hcl 7 0 q6_
  have q8_:=ny hcl 8 0 q7_
  simp only [hD,q5_,q6_,q7_,q8_,cq,oT] at ht hs
  subst ht
  refine Qaa (v:=pointer (some ⟨b2,0,none⟩)) rfl rfl rfl (g_d rfl ?_)
  try dsimp only [Qae,Qaf]
  refine hk _ _ ⟨O,?_,hs.cast ?_⟩<;>simp only [oT,lq,cq,Nat.reduceBEq,q5_,q6_,q7_,q8_]
 ·
  rintro D t w hD hp hcl ⟨O,ht,hs⟩ rest hk
  have hp:AllDone D [4]:=hp
  obtain ⟨p4_,_⟩:=hp
  have q6_:=ny hcl 6 0 hD
  have q7_:=ny hcl 7 0 q6_
  have q8_:=ny hcl 8 0 q7_
  simp only [hD,p4_,q6_,q7_,q8_,cq,oT] at ht hs
  subst ht
  refine Qaa (v:=pointer (some ⟨b2,0,none⟩)) rfl rfl rfl (g_d rfl ?_)
  try dsimp only [Qae,Qaf]
  refine hk _ _ ⟨O,?_,hs.cast ?_⟩<;>simp only [oT,lq,cq,Nat.reduceBEq,p4_,q6_,q7_,q8_]
 ·
  rintro D t w hD hp hcl ⟨O,ht,hs⟩ rest hk
  have hp:AllDone D [5]:=hp
  obtain ⟨p5_,_⟩:=hp
  obtain ⟨p4_,_⟩:=(show D 5=true→AllDone D [4] from hcl 5 (by decide)) p5_
  have q7_:=ny hcl 7 0 hD
  have q8_:=ny hcl 8 0 q7_
  simp only [hD,p4_,p5_,q7_,q8_,cq,oT] at ht hs
  subst ht
  refine Qaa (v:=pointer (some ⟨b2,0,none⟩)) rfl rfl rfl (g_d rfl ?_)
  try dsimp only [Qae,Qaf]
  refine hk _ _ ⟨O,?_,hs.cast ?_⟩<;>simp only [oT,lq,cq,Nat.reduceBEq,p4_,p5_,q7_,q8_]
 ·
  rintro D t w hD hp hcl ⟨O,ht,hs⟩ rest hk
  have hp:AllDone D [6]:=hp
  obtain ⟨p6_,_⟩:=hp
  obtain ⟨p5_,_⟩:=(show D 6=true→AllDone D [5] from hcl 6 (by decide)) p6_
  obtain ⟨p4_,_⟩:=(show D 5=true→AllDone D [4] from hcl 5 (by decide)) p5_
  have q8_:=ny hcl 8 0 hD
  simp only [hD,p4_,p5_,p6_,q8_,cq,oT] at ht hs
  subst ht
  refine QaA rfl rfl (v:=v3) rfl rfl (fun _=>rfl) (cells_load (hs.cells 0 rfl) 0 1 rfl) (g_d rfl ?_)
  try dsimp only [Qae,Qaf]
  refine hk _ _ ⟨O,?_,hs.cast ?_⟩<;>simp only [oT,lq,cq,Nat.reduceBEq,p4_,p5_,p6_,q8_]
 ·
  rintro D t w hD hp hcl ⟨O,ht,hs⟩ rest hk
  have hp:AllDone D [7]:=hp
  obtain ⟨p7_,_⟩:=hp
  obtain ⟨p6_,_⟩:=(show D 7=true→AllDone D [6] from hcl 7 (by decide)) p7_
  obtain ⟨p5_,_⟩:=(show D 6=true→AllDone D [5] from hcl 6 (by decide)) p6_
  obtain ⟨p4_,_⟩:=(show D 5=true→AllDone D [4] from hcl 5 (by decide)) p5_
  simp only [hD,p4_,p5_,p6_,p7_,cq,oT] at ht hs
  subst ht
  refine Qba (hs.rd hr4) rfl rfl rfl rfl rfl (g_d rfl ?_)
  try dsimp only [Qae,Qaf]
  refine hk _ _ ⟨O,?_,hs.cast ?_⟩<;>simp only [oT,lq,cq,Nat.reduceBEq,p4_,p5_,p6_,p7_]
 intro D t w rest hall hO1_ hI
 obtain ⟨O,ht,hs⟩:=hI
 have p0_:=hall 0 (by decide) rfl
 have p1_:=hall 1 (by decide) rfl
 have p2_:=hall 2 (by decide) rfl
 have p3_:=hall 3 (by decide) rfl
 have p4_:=hall 4 (by decide) rfl
 have p5_:=hall 5 (by decide) rfl
 have p6_:=hall 6 (by decide) rfl
 have p7_:=hall 7 (by decide) rfl
 have p8_:=hall 8 (by decide) rfl
 simp only [p0_,p1_,p2_,p3_,p4_,p5_,p6_,p7_,p8_,cq,oT] at ht hs
 subst ht
 obtain ⟨rest,rfl,hO2_⟩:=ord_one (m:=511) hO1_ rfl 9 (m':=1023) (by decide+kernel) rfl
 clear hO1_
 refine Qas (B:=decide (a1.QaY< (a1.QaQ.length:Int))) rfl rfl rfl ?_ ?_
 ·
  intro hb
  rw [if_pos (b_dec_t hb)] at H
  refine g_d rfl ?_
  try dsimp only [Qae,Qaf]
  obtain rfl:=ord_end hO2_ rfl (by decide+kernel)
  refine Qac (Qai rfl ?_)
  obtain ⟨gd3,H⟩:=ite_get H
  obtain ⟨ad4_,ad4_N,ad4_C,had4_⟩:=sl_at (hs.rd hr4) gd3.1 gd3.2
  refine Qbz ?_
  intro T hT
  refine Qcg (n:=12) rfl [0,1,2,3,4,5,6,7,8,9,10,11] [0,1,2,3,4,5,6,7,8,9,10,11] rfl rfl (Inv:=fun D t w=>∃ O:Nat→Value,t=(pointer (some ⟨b2,0,none⟩)::O 1::int .i64 0::cnd (D 11) (int .i64 (i64w (rdL a1.QaQ a1.QaY 0))) (int .i64 0)::pointer (some ⟨b2,0,none⟩)::pointer (some ⟨b2,0,none⟩)::pointer (some ⟨b2,1,none⟩)::int .i64 a1.QaY::pointer (some ⟨b2,0,none⟩)::pointer (some ⟨b2,0,none⟩)::pointer (some ⟨b2,0,none⟩)::v3::int .i64 (a1.QaQ.length:Int)::bool true::cnd (D 0) (pointer (some ⟨b2,0,none⟩)) (O 14)::cnd (D 1) (pointer (some ⟨b2,0,none⟩)) (O 15)::cnd (D 2) (pointer (some ⟨b2,0,none⟩)) (O 16)::cnd (D 3) v3 (O 17)::cnd (D 4) (pointer (some ⟨b2,0,none⟩)) (O 18)::cnd (D 5) (pointer (some ⟨b2,0,none⟩)) (O 19)::cnd (D 6) (pointer (some ⟨b2,1,none⟩)) (O 20)::cnd (D 7) (int .i64 a1.QaY) (O 21)::cnd (D 8) (pointer (some (ad4_.add (a1.QaY.toNat*1)))) (O 22)::cnd (D 9) (int .u8 (rdL a1.QaQ a1.QaY 0)) (O 23)::cnd (D 10) (int .i64 (i64w (rdL a1.QaQ a1.QaY 0))) (O 24)::O 25::O 26::O 27::O 28::O 29::oT O 3 (oT O 4 (oT O 5 (O 60::O 61::[]))))∧St wb [Cells b2 (([v3,int .i64 a1.QaY,int .u64 a1.QaN]:List Value)) 96,Z] w) ?_ ⟨⟨⟨⟨⟨⟨⟨⟨⟨⟨⟨⟨trivial,?_⟩,?_⟩,?_⟩,?_⟩,?_⟩,?_⟩,?_⟩,?_⟩,?_⟩,?_⟩,?_⟩,?_⟩ ?_
  ·
   intro w hh hbw
   have hs:=hs.samew hh hbw
   exact ⟨fun i=>T.getD i undef,(by subst hT;rfl),hs⟩
  ·
   rintro D t w hD hp hcl ⟨O,ht,hs⟩ rest hk
   have q1_:=nz hcl 1 0 hD
   have q2_:=nz hcl 2 0 q1_
   have q3_:=nz hcl 3 0 q2_
   have q8_:=nz hcl 8 0 q3_
   have q9_:=nz hcl 9 0 q8_
   have q10_:=nz hcl 10 0 q9_
   have q11_:=nz hcl 11 0 q10_
   simp only [hD,q1_,q2_,q3_,q8_,q9_,q10_,q11_,cq,oT] at ht hs
   subst ht
   refine Qaa (v:=pointer (some ⟨b2,0,none⟩)) rfl rfl rfl (g_d rfl ?_)
   try dsimp only [Qae,Qaf]
   refine hk _ _ ⟨O,?_,hs.cast ?_⟩<;>simp only [oT,lq,cq,Nat.reduceBEq,q1_,q2_,q3_,q8_,q9_,q10_,q11_]
  ·
   rintro D t w hD hp hcl ⟨O,ht,hs⟩ rest hk
   obtain ⟨p0_,_⟩:=hp
   have q2_:=nz hcl 2 0 hD
   have q3_:=nz hcl 3 0 q2_
   have q8_:=nz hcl 8 0 q3_
   have q9_:=nz hcl 9 0 q8_
   have q10_:=nz hcl 10 0 q9_
   have q11_:=nz hcl 11 0 q10_
   simp only [hD,p0_,q2_,q3_,q8_,q9_,q10_,q11_,cq,oT] at ht hs
   subst ht
   refine Qaa (v:=pointer (some ⟨b2,0,none⟩)) rfl rfl rfl (g_d rfl ?_)
   try dsimp only [Qae,Qaf]
   refine hk _ _ ⟨O,?_,hs.cast ?_⟩<;>simp only [oT,lq,cq,Nat.reduceBEq,p0_,q2_,q3_,q8_,q9_,q10_,q11_]
  ·
   rintro D t w hD hp hcl ⟨O,ht,hs⟩ rest hk
   obtain ⟨p1_,_⟩:=hp
   obtain ⟨p0_,_⟩:=(hcl.get 1 (by decide)) p1_
   have q3_:=nz hcl 3 0 hD
   have q8_:=nz hcl 8 0 q3_
   have q9_:=nz hcl 9 0 q8_
   have q10_:=nz hcl 10 0 q9_
   have q11_:=nz hcl 11 0 q10_
   simp only [hD,p0_,p1_,q3_,q8_,q9_,q10_,q11_,cq,oT] at ht hs
   subst ht
   refine Qaa (v:=pointer (some ⟨b2,0,none⟩)) rfl rfl rfl (g_d rfl ?_)
   try dsimp only [Qae,Qaf]
   refine hk _ _ ⟨O,?_,hs.cast ?_⟩<;>simp only [oT,lq,cq,Nat.reduceBEq,p0_,p1_,q3_,q8_,q9_,q10_,q11_]
  ·
   rintro D t w hD hp hcl ⟨O,ht,hs⟩ rest hk
   obtain ⟨p2_,_⟩:=hp
   obtain ⟨p1_,_⟩:=(hcl.get 2 (by decide)) p2_
   obtain ⟨p0_,_⟩:=(hcl.get 1 (by decide)) p1_
   have q8_:=nz hcl 8 0 hD
   have q9_:=nz hcl 9 0 q8_
   have q10_:=nz hcl 10 0 q9_
   have q11_:=nz hcl 11 0 q10_
   simp only [hD,p0_,p1_,p2_,q8_,q9_,q10_,q11_,cq,oT] at ht hs
   subst ht
   refine QaA rfl rfl (v:=v3) rfl rfl (fun _=>rfl) (cells_load (hs.cells 0 rfl) 0 1 rfl) (g_d rfl ?_)
   try dsimp only [Qae,Qaf]
   refine hk _ _ ⟨O,?_,hs.cast ?_⟩<;>simp only [oT,lq,cq,Nat.reduceBEq,p0_,p1_,p2_,q8_,q9_,q10_,q11_]
  ·
   rintro D t w hD hp hcl ⟨O,ht,hs⟩ rest hk
   have q5_:=nz hcl 5 0 hD
   have q6_:=nz hcl 6 0 q5_
   have q7_:=nz hcl 7 0 q6_
   have q8_:=nz hcl 8 1 q7_
   have q9_:=nz hcl 9 0 q8_
   have q10_:=nz hcl 10 0 q9_
   have q11_:=nz hcl 11 0 q10_
   simp only [hD,q5_,q6_,q7_,q8_,q9_,q10_,q11_,cq,oT] at ht hs
   subst ht
   refine Qaa (v:=pointer (some ⟨b2,0,none⟩)) rfl rfl rfl (g_d rfl ?_)
   try dsimp only [Qae,Qaf]
   refine hk _ _ ⟨O,?_,hs.cast ?_⟩<;>simp only [oT,lq,cq,Nat.reduceBEq,q5_,q6_,q7_,q8_,q9_,q10_,q11_]
  ·
   rintro D t w hD hp hcl ⟨O,ht,hs⟩ rest hk
   obtain ⟨p4_,_⟩:=hp
   have q6_:=nz hcl 6 0 hD
   have q7_:=nz hcl 7 0 q6_
   have q8_:=nz hcl 8 1 q7_
   have q9_:=nz hcl 9 0 q8_
   have q10_:=nz hcl 10 0 q9_
   have q11_:=nz hcl 11 0 q10_
   simp only [hD,p4_,q6_,q7_,q8_,q9_,q10_,q11_,cq,oT] at ht hs
   subst ht
   refine Qaa (v:=pointer (some ⟨b2,0,none⟩)) rfl rfl rfl (g_d rfl ?_)
   try dsimp only [Qae,Qaf]
   refine hk _ _ ⟨O,?_,hs.cast ?_⟩<;>simp only [oT,lq,cq,Nat.reduceBEq,p4_,q6_,q7_,q8_,q9_,q10_,q11_]
  ·
   rintro D t w hD hp hcl ⟨O,ht,hs⟩ rest hk
   obtain ⟨p5_,_⟩:=hp
   obtain ⟨p4_,_⟩:=(hcl.get 5 (by decide)) p5_
   have q7_:=nz hcl 7 0 hD
   have q8_:=nz hcl 8 1 q7_
   have q9_:=nz hcl 9 0 q8_
   have q10_:=nz hcl 10 0 q9_
   have q11_:=nz hcl 11 0 q10_
   simp only [hD,p4_,p5_,q7_,q8_,q9_,q10_,q11_,cq,oT] at ht hs
   subst ht
   refine Qaa (v:=pointer (some ⟨b2,1,none⟩)) rfl rfl rfl (g_d rfl ?_)
   try dsimp only [Qae,Qaf]
   refine hk _ _ ⟨O,?_,hs.cast ?_⟩<;>simp only [oT,lq,cq,Nat.reduceBEq,p4_,p5_,q7_,q8_,q9_,q10_,q11_]
  ·
   rintro D t w hD hp hcl ⟨O,ht,hs⟩ rest hk
   obtain ⟨p6_,_⟩:=hp
   obtain ⟨p5_,_⟩:=(hcl.get 6 (by decide)) p6_
   obtain ⟨p4_,_⟩:=(hcl.get 5 (by decide)) p5_
   have q8_:=nz hcl 8 1 hD
   have q9_:=nz hcl 9 0 q8_
   have q10_:=nz hcl 10 0 q9_
   have q11_:=nz hcl 11 0 q10_
   simp only [hD,p4_,p5_,p6_,q8_,q9_,q10_,q11_,cq,oT] at ht hs
   subst ht
   refine QaA rfl rfl (v:=int .i64 a1.QaY) rfl rfl (fun _=>rfl) (cells_load (hs.cells 0 rfl) 1 1 rfl) (g_d rfl ?_)
   try dsimp only [Qae,Qaf]
   refine hk _ _ ⟨O,?_,hs.cast ?_⟩<;>simp only [oT,lq,cq,Nat.reduceBEq,p4_,p5_,p6_,q8_,q9_,q10_,q11_]
  ·
   rintro D t w hD hp hcl ⟨O,ht,hs⟩ rest hk
   obtain ⟨p3_,p7_,_⟩:=hp
   obtain ⟨p6_,_⟩:=(hcl.get 7 (by decide)) p7_
   obtain ⟨p5_,_⟩:=(hcl.get 6 (by decide)) p6_
   obtain ⟨p4_,_⟩:=(hcl.get 5 (by decide)) p5_
   obtain ⟨p2_,_⟩:=(hcl.get 3 (by decide)) p3_
   obtain ⟨p1_,_⟩:=(hcl.get 2 (by decide)) p2_
   obtain ⟨p0_,_⟩:=(hcl.get 1 (by decide)) p1_
   have q9_:=nz hcl 9 0 hD
   have q10_:=nz hcl 10 0 q9_
   have q11_:=nz hcl 11 0 q10_
   simp only [hD,p0_,p1_,p2_,p3_,p4_,p5_,p6_,p7_,q9_,q10_,q11_,cq,oT] at ht hs
   subst ht
   refine QbG (κ:=(K.int .u8)) (m:=1) rfl (hs.rd hr4) rfl (fun _=>rfl) gd3.1 gd3.2 had4_ rfl rfl rfl rfl rfl (g_d rfl ?_)
   try dsimp only [Qae,Qaf]
   refine hk _ _ ⟨O,?_,hs.cast ?_⟩<;>simp only [oT,lq,cq,Nat.reduceBEq,p0_,p1_,p2_,p3_,p4_,p5_,p6_,p7_,q9_,q10_,q11_]
  ·
   rintro D t w hD hp hcl ⟨O,ht,hs⟩ rest hk
   obtain ⟨p8_,_⟩:=hp
   obtain ⟨p3_,p7_,_⟩:=(hcl.get 8 (by decide)) p8_
   obtain ⟨p6_,_⟩:=(hcl.get 7 (by decide)) p7_
   obtain ⟨p5_,_⟩:=(hcl.get 6 (by decide)) p6_
   obtain ⟨p4_,_⟩:=(hcl.get 5 (by decide)) p5_
   obtain ⟨p2_,_⟩:=(hcl.get 3 (by decide)) p3_
   obtain ⟨p1_,_⟩:=(hcl.get 2 (by decide)) p2_
   obtain ⟨p0_,_⟩:=(hcl.get 1 (by decide)) p1_
   have q10_:=nz hcl 10 0 hD
   have q11_:=nz hcl 11 0 q10_
   simp only [hD,p0_,p1_,p2_,p3_,p4_,p5_,p6_,p7_,p8_,q10_,q11_,cq,oT] at ht hs
   subst ht
   refine QaA rfl rfl (v:=int .u8 (rdL a1.QaQ a1.QaY 0)) rfl rfl (fun _=>rfl) (cellsAt_of (fkI .u8) 0 (hs.rd hr4) had4_ gd3.1 gd3.2) (g_d rfl ?_)
   try dsimp only [Qae,Qaf]
   refine hk _ _ ⟨O,?_,hs.cast ?_⟩<;>simp only [oT,lq,cq,Nat.reduceBEq,p0_,p1_,p2_,p3_,p4_,p5_,p6_,p7_,p8_,q10_,q11_]
  ·
   rintro D t w hD hp hcl ⟨O,ht,hs⟩ rest hk
   obtain ⟨p9_,_⟩:=hp
   obtain ⟨p8_,_⟩:=(hcl.get 9 (by decide)) p9_
   obtain ⟨p3_,p7_,_⟩:=(hcl.get 8 (by decide)) p8_
   obtain ⟨p6_,_⟩:=(hcl.get 7 (by decide)) p7_
   obtain ⟨p5_,_⟩:=(hcl.get 6 (by decide)) p6_
   obtain ⟨p4_,_⟩:=(hcl.get 5 (by decide)) p5_
   obtain ⟨p2_,_⟩:=(hcl.get 3 (by decide)) p3_
   obtain ⟨p1_,_⟩:=(hcl.get 2 (by decide)) p2_
   obtain ⟨p0_,_⟩:=(hcl.get 1 (by decide)) p1_
   have q11_:=nz hcl 11 0 hD
   simp only [hD,p0_,p1_,p2_,p3_,p4_,p5_,p6_,p7_,p8_,p9_,q11_,cq,oT] at ht hs
   subst ht
   refine Qaa (v:=int .i64 (i64w (rdL a1.QaQ a1.QaY 0))) rfl rfl rfl (g_d rfl ?_)
   try dsimp only [Qae,Qaf]
   refine hk _ _ ⟨O,?_,hs.cast ?_⟩<;>simp only [oT,lq,cq,Nat.reduceBEq,p0_,p1_,p2_,p3_,p4_,p5_,p6_,p7_,p8_,p9_,q11_]
  ·
   rintro D t w hD hp hcl ⟨O,ht,hs⟩ rest hk
   obtain ⟨p10_,p0_,p1_,p2_,p3_,p4_,p5_,p6_,p7_,p8_,p9_,_,_⟩:=hp
   simp only [hD,p0_,p1_,p2_,p3_,p4_,p5_,p6_,p7_,p8_,p9_,p10_,cq,oT] at ht hs
   subst ht
   refine Qaa (v:=int .i64 (i64w (rdL a1.QaQ a1.QaY 0))) rfl rfl rfl (g_d rfl ?_)
   try dsimp only [Qae,Qaf]
   refine hk _ _ ⟨O,?_,hs.cast ?_⟩<;>simp only [oT,lq,cq,Nat.reduceBEq,p0_,p1_,p2_,p3_,p4_,p5_,p6_,p7_,p8_,p9_,p10_]
  intro D t w hall hI
  obtain ⟨O,ht,hs⟩:=hI
  have p0_:=hall 0 (by decide)
  have p1_:=hall 1 (by decide)
  have p2_:=hall 2 (by decide)
  have p3_:=hall 3 (by decide)
  have p4_:=hall 4 (by decide)
  have p5_:=hall 5 (by decide)
  have p6_:=hall 6 (by decide)
  have p7_:=hall 7 (by decide)
  have p8_:=hall 8 (by decide)
  have p9_:=hall 9 (by decide)
  have p10_:=hall 10 (by decide)
  have p11_:=hall 11 (by decide)
  simp only [p0_,p1_,p2_,p3_,p4_,p5_,p6_,p7_,p8_,p9_,p10_,p11_,cq,oT] at ht hs
  subst ht
  have hs:=hs.pull 1 rfl
  have hs:=hs.pull 1 rfl
  have hs:St _ [_,_] _:=St.take (Γ':=[]) hs
  exact ha _ _ ⟨i64w (rdL a1.QaQ a1.QaY 0),H,rfl,hs⟩
 intro hb
 rw [if_neg (b_dec_f hb)] at H
 refine g_d rfl ?_
 obtain rfl:=ord_end hO2_ rfl (by decide+kernel)
 refine Qac (Qal rfl (Qay ?_))
 have hs:=hs.pull 1 rfl
 have hs:=hs.pull 1 rfl
 have hs:St _ [_,_] _:=St.take (Γ':=[]) hs
 exact ha _ _ ⟨0,H,rfl,hs⟩
def QaD.post (wb:World) (Z:As) (b2:Nat) (v3:Value) (r:(Int×Qav)) (v:Value) (w:World):Prop:=v=int .i64 r.1∧St wb [Cells b2 (([v3,int .i64 r.2.QaY,int .u64 r.2.QaN]:List Value)) 96,Z] w
theorem QaD.calls {N:Nat} {a1:Qav} {a6:Int} {b2:Nat} {v3:Value} {wb:World} {Z:As} {w0:World} {r:(Int×Qav)} (hs:St wb [Cells b2 (([v3,int .i64 a1.QaY,int .u64 a1.QaN]:List Value)) 96,Z] w0) (hr4:RdRow (K.int .u8) wb v3 a1.QaQ) (H:QaD.f N a1 a6=some r):
 Calls Tryz.prog 31 #[pointer (some ⟨b2,0,none⟩),int .i64 a6] w0 fun e w=>∃ v,e= .returned v∧QaD.post wb Z b2 v3 r v w:=by
 unfold QaD.f at H
 refine calls_of_g (n:=18) Tryz.func31 rfl rfl ?_
 show G _ _ _ _ [_,_,_,_,_,_,_,_,_,_,_,_,_,_,_,_,_,_,_,_] _
 refine Qad (Qag [0] rfl ?_)
 refine Qaa (v:=int .i64 0) rfl rfl rfl ?_
 show G _ _ _ _ [_,_,_,_,_,_,_,_,_,_,_,_,_,_,_,_,_,_,_,_] _
 refine Qac (Qad (Qad (Qag [0,1] rfl ?_)))
 refine Qaa (v:=int .i64 a6) rfl rfl rfl ?_
 refine Qas (B:=decide (a6≤1)) rfl rfl rfl ?_ ?_
 ·
  intro hb
  rw [if_pos (b_dec_t hb)] at H
  refine Qac (Qai rfl (Qad (Qag [0] rfl ?_)))
  refine Qaa (v:=int .i64 0) rfl rfl rfl (Qac ?_)
  obtain rfl:=QsJ H
  refine Qaq Tryz.func31 (v:=int .i64 0) (res1 rfl rfl) ?_
  have hs:=hs.pull 1 rfl
  have hs:=hs.pull 1 rfl
  have hs:St _ [_,_] _:=St.take (Γ':=[]) hs
  exact ⟨_,rfl,rfl,hs⟩
 intro hb
 rw [if_neg (b_dec_f hb)] at H
 refine Qac (Qal rfl (Qay (Qad (Qag [0,1,2] rfl ?_))))
 refine Qaa (v:=pointer (some ⟨b2,0,none⟩)) rfl rfl rfl ?_
 show G _ _ _ _ [_,_,_,_,_,_,_,_,_,_,_,_,_,_,_,_,_,_,_,_] _
 obtain ⟨r7,Hr7,H⟩:=bind_get H
 have hs:St _ [_,_] _:=hs.pull 0 rfl
 have hs:=hs.pack 1
 refine Qaw (args:=[pointer (some ⟨b2,0,none⟩)]) rfl rfl (Qax rfl (callFunc_enter Tryz.func60 rfl rfl) rfl) (QaX.calls (a1:=(⟨a1.QaQ,a1.QaY,a1.QaN⟩:Qav)) hs hr4 Hr7) ?_
 rintro _ w ⟨rfl,hs⟩
 have hs:=St.unpack (Γ:=[_]) hs
 have hs:St _ [_,_] _:=hs
 refine Qaa (v:=int .i64 r7.1) rfl rfl rfl (Qac (Qad (Qad (Qag [0,1] rfl ?_))))
 refine Qaa (v:=int .i64 a6) rfl rfl rfl ?_
 show G _ _ _ _ [_,_,_,_,_,_,_,_,_,_,_,_,_,_,_,_,_,_,_,_] _
 refine Qas (B:=decide (a6>200)) rfl rfl rfl ?_ ?_
 ·
  intro hb
  rw [if_pos (b_dec_t hb)] at H
  refine Qac (Qai rfl (Qag [0,1,2,3,4,5] rfl ?_))
  refine Qaa (v:=int .i64 r7.1) rfl rfl rfl ?_
  refine Qaa (v:=int .i64 (i64w (r7.1*256))) rfl rfl rfl ?_
  show G _ _ _ _ [_,_,_,_,_,_,_,_,_,_,_,_,_,_,_,_,_,_,_,_] _
  refine Qaa (v:=pointer (some ⟨b2,0,none⟩)) rfl rfl rfl ?_
  obtain ⟨r8,Hr8,H⟩:=bind_get H
  have hs:St _ [_,_] _:=hs.pull 0 rfl
  have hs:=hs.pack 1
  refine Qaw (args:=[pointer (some ⟨b2,0,none⟩)]) rfl rfl (Qax rfl (callFunc_enter Tryz.func60 rfl rfl) rfl) (QaX.calls (a1:=(⟨a1.QaQ,r7.2.QaY,r7.2.QaN⟩:Qav)) hs hr4 Hr8) ?_
  rintro _ w ⟨rfl,hs⟩
  have hs:=St.unpack (Γ:=[_]) hs
  have hs:St _ [_,_] _:=hs
  refine Qaa (v:=int .i64 (i64w ((i64w (r7.1*256))+r8.1))) rfl rfl rfl ?_
  show G _ _ _ _ [_,_,_,_,_,_,_,_,_,_,_,_,_,_,_,_,_,_,_,_] _
  refine Qaa (v:=int .i64 (i64w ((i64w (r7.1*256))+r8.1))) rfl rfl rfl (Qac (Qad (Qag [0,1,2,3] rfl ?_)))
  refine Qaa (v:=int .i64 (i64w ((i64w (r7.1*256))+r8.1))) rfl rfl rfl ?_
  refine Qaa (v:=int .i64 a6) rfl rfl rfl ?_
  show G _ _ _ _ [_,_,_,_,_,_,_,_,_,_,_,_,_,_,_,_,_,_,_,_] _
  obtain ⟨g1,H⟩:=ite_get H
  refine Qaa (v:=int .i64 ((i64w ((i64w (r7.1*256))+r8.1)).tmod a6)) rfl rfl (QbZ rfl rfl rfl g1) ?_
  refine Qaa (v:=int .i64 ((i64w ((i64w (r7.1*256))+r8.1)).tmod a6)) rfl rfl rfl (Qac ?_)
  obtain rfl:=QsJ H
  refine Qaq Tryz.func31 (v:=int .i64 ((i64w ((i64w (r7.1*256))+r8.1)).tmod a6)) (res1 rfl rfl) ?_
  have hs:=hs.pull 1 rfl
  have hs:=hs.pull 1 rfl
  have hs:St _ [_,_] _:=St.take (Γ':=[]) hs
  exact ⟨_,rfl,rfl,hs⟩
 intro hb
 rw [if_neg (b_dec_f hb)] at H
 refine Qac (Qal rfl (Qay (Qad (Qag [0,1,2,3] rfl ?_))))
 refine Qaa (v:=int .i64 r7.1) rfl rfl rfl ?_
 refine Qaa (v:=int .i64 a6) rfl rfl rfl ?_
 show G _ _ _ _ [_,_,_,_,_,_,_,_,_,_,_,_,_,_,_,_,_,_,_,_] _
 obtain ⟨g2,H⟩:=ite_get H
 refine Qaa (v:=int .i64 (r7.1.tmod a6)) rfl rfl (QbZ rfl rfl rfl g2) ?_
 refine Qaa (v:=int .i64 (r7.1.tmod a6)) rfl rfl rfl (Qac ?_)
 obtain rfl:=QsJ H
 refine Qaq Tryz.func31 (v:=int .i64 (r7.1.tmod a6)) (res1 rfl rfl) ?_
 have hs:=hs.pull 1 rfl
 have hs:=hs.pull 1 rfl
 have hs:St _ [_,_] _:=St.take (Γ':=[]) hs
 exact ⟨_,rfl,rfl,hs⟩
def Qa1.post (wb:World) (Z:As) (b2:Nat) (v3:Value) (r:((List Int)×Qav)) (v:Value) (w:World):Prop:=∃ u1:Value,v=u1∧St wb [Row 67 (K.int .i16) u1 r.1,Cells b2 (([v3,int .i64 r.2.QaY,int .u64 r.2.QaN]:List Value)) 96,Z] w
theorem Qa1.calls {N:Nat} {a1:Qav} {b2:Nat} {v3:Value} {wb:World} {Z:As} {w0:World} {r:((List Int)×Qav)} (hs:St wb [Cells b2 (([v3,int .i64 a1.QaY,int .u64 a1.QaN]:List Value)) 96,Z] w0) (hr4:RdRow (K.int .u8) wb v3 a1.QaQ) (H:Qa1.f N a1=some r):
 Calls Tryz.prog 29 #[pointer (some ⟨b2,0,none⟩)] w0 fun e w=>∃ v,e= .returned v∧Qa1.post wb Z b2 v3 r v w:=by
 unfold Qa1.f at H
 refine calls_of_g (n:=42) Tryz.func29 rfl rfl ?_
 show G _ _ _ _ [_,_,_,_,_,_,_,_,_,_,_,_,_,_,_,_,_,_,_,_,_,_,_,_,_,_,_,_,_,_,_,_,_,_,_,_,_,_,_,_,_,_,_] _
 refine Qad (Qag [0] rfl ?_)
 refine Qaa (v:=slice none 0 0) rfl rfl rfl (Qac (Qad (Qad (Qag [0,1] rfl ?_))))
 refine Qaa (v:=pointer (some ⟨b2,0,none⟩)) rfl rfl rfl ?_
 obtain ⟨r6,Hr6,H⟩:=bind_get H
 have hs:St _ [_,_] _:=hs.pull 0 rfl
 have hs:=hs.pack 1
 refine Qaw (args:=[pointer (some ⟨b2,0,none⟩),int .i64 4]) rfl rfl (Qax rfl (callFunc_enter Tryz.func31 rfl rfl) rfl) (QaD.calls (a1:=(⟨a1.QaQ,a1.QaY,a1.QaN⟩:Qav)) (a6:=4) hs hr4 Hr6) ?_
 rintro _ w ⟨rfl,hs⟩
 have hs:=St.unpack (Γ:=[_]) hs
 have hs:St _ [_,_] _:=hs
 refine Qac ?_
 refine Qbe (Qad (Qag [0,1] rfl ?_))
 refine Qas (B:=r6.1==0) rfl rfl rfl ?_ ?_
 ·
  intro hb
  rw [if_pos (b_beq_t hb)] at H
  refine Qaa (v:=bool true) rfl rfl rfl ?_
  show G _ _ _ _ [_,_,_,_,_,_,_,_,_,_,_,_,_,_,_,_,_,_,_,_,_,_,_,_,_,_,_,_,_,_,_,_,_,_,_,_,_,_,_,_,_,_,_] _
  refine Qac (Qai rfl (Qad (Qag [0,1,2,3,4,5] rfl ?_)))
  refine Qb0 (fkI .i16) (int .i16) (fun _=>rfl) rfl (ys:=[1,3,9,27]) rfl hs rfl rfl rfl rfl (fun _=>rfl) (zv:=(int .i16 0)) (zc:=(int .i16 0)) (fun _=>rfl) rfl (by simp) (by simp) rfl ?_
  intro v7 w hs
  refine Qaa (v:=pointer (some ⟨b2,0,none⟩)) rfl rfl rfl ?_
  obtain ⟨r9,Hr9,H⟩:=bind_get H
  have hs:St _ [_,_,_] _:=hs.pull 1 rfl
  have hs:=hs.pack 1
  refine Qaw (args:=[pointer (some ⟨b2,0,none⟩),int .i64 4]) rfl rfl (Qax rfl (callFunc_enter Tryz.func31 rfl rfl) rfl) (QaD.calls (a1:=(⟨a1.QaQ,r6.2.QaY,r6.2.QaN⟩:Qav)) (a6:=4) hs hr4 Hr9) ?_
  rintro _ w ⟨rfl,hs⟩
  have hs:=St.unpack (Γ:=[_]) hs
  have hs:St _ [_,_,_] _:=hs
  refine Qaa (v:=int .i64 (i64w (1+r9.1))) rfl rfl rfl ?_
  show G _ _ _ _ [_,_,_,_,_,_,_,_,_,_,_,_,_,_,_,_,_,_,_,_,_,_,_,_,_,_,_,_,_,_,_,_,_,_,_,_,_,_,_,_,_,_,_] _
  obtain ⟨g1,H⟩:=ite_get H
  refine Qaa (v:=subV v7 1 ((0:Int)).toNat ((i64w (1+r9.1))).toNat) rfl rfl (Qcf (hs.row 1 rfl) rfl rfl (fun _=>rfl) rfl (.inl ⟨rfl,rfl⟩) (.inr ⟨_,_,rfl,rfl⟩) g1.1 g1.2.1 g1.2.2) ?_
  refine Qaa (v:=subV v7 1 ((0:Int)).toNat ((i64w (1+r9.1))).toNat) rfl rfl rfl (Qac ?_)
  obtain rfl:=QsJ H
  have hs:St _ [_,_,_] _:=hs.pull 1 rfl
  have hs:=hs.prefix (fkI .i16) 1 g1.2.2
  refine Qaq Tryz.func29 (v:=subV v7 1 ((0:Int)).toNat ((i64w (1+r9.1))).toNat) (res1 rfl rfl) ?_
  have hs:=hs.pull 2 rfl
  have hs:=hs.pull 2 rfl
  have hs:=hs.pull 2 rfl
  have hs:St _ [_,_,_] _:=St.take (Γ':=[]) hs
  exact ⟨_,rfl,subV v7 1 ((0:Int)).toNat ((i64w (1+r9.1))).toNat,rfl,hs⟩
 intro hb
 rw [if_neg (b_beq_f hb)] at H
 show G _ _ _ _ [_,_,_,_,_,_,_,_,_,_,_,_,_,_,_,_,_,_,_,_,_,_,_,_,_,_,_,_,_,_,_,_,_,_,_,_,_,_,_,_,_,_,_] _
 refine Qaa (v:=bool false) rfl rfl rfl (Qac (Qal rfl (Qad (Qag [0,1] rfl ?_))))
 refine Qas (B:=r6.1==1) rfl rfl rfl ?_ ?_
 ·
  intro hb
  rw [if_pos (b_beq_t hb)] at H
  refine Qaa (v:=bool true) rfl rfl rfl (Qac (Qai rfl (Qad (Qag [0,1,2,3,4,5] rfl ?_))))
  refine Qb0 (fkI .i16) (int .i16) (fun _=>rfl) rfl (ys:=[1,2,4,8,16]) rfl hs rfl rfl rfl rfl (fun _=>rfl) (zv:=(int .i16 0)) (zc:=(int .i16 0)) (fun _=>rfl) rfl (by simp) (by simp) rfl ?_
  intro v10 w hs
  show G _ _ _ _ [_,_,_,_,_,_,_,_,_,_,_,_,_,_,_,_,_,_,_,_,_,_,_,_,_,_,_,_,_,_,_,_,_,_,_,_,_,_,_,_,_,_,_] _
  refine Qaa (v:=pointer (some ⟨b2,0,none⟩)) rfl rfl rfl ?_
  obtain ⟨r12,Hr12,H⟩:=bind_get H
  have hs:St _ [_,_,_] _:=hs.pull 1 rfl
  have hs:=hs.pack 1
  refine Qaw (args:=[pointer (some ⟨b2,0,none⟩),int .i64 5]) rfl rfl (Qax rfl (callFunc_enter Tryz.func31 rfl rfl) rfl) (QaD.calls (a1:=(⟨a1.QaQ,r6.2.QaY,r6.2.QaN⟩:Qav)) (a6:=5) hs hr4 Hr12) ?_
  rintro _ w ⟨rfl,hs⟩
  have hs:=St.unpack (Γ:=[_]) hs
  have hs:St _ [_,_,_] _:=hs
  refine Qaa (v:=int .i64 (i64w (1+r12.1))) rfl rfl rfl ?_
  obtain ⟨g2,H⟩:=ite_get H
  refine Qaa (v:=subV v10 1 ((0:Int)).toNat ((i64w (1+r12.1))).toNat) rfl rfl (Qcf (hs.row 1 rfl) rfl rfl (fun _=>rfl) rfl (.inl ⟨rfl,rfl⟩) (.inr ⟨_,_,rfl,rfl⟩) g2.1 g2.2.1 g2.2.2) ?_
  show G _ _ _ _ [_,_,_,_,_,_,_,_,_,_,_,_,_,_,_,_,_,_,_,_,_,_,_,_,_,_,_,_,_,_,_,_,_,_,_,_,_,_,_,_,_,_,_] _
  refine Qaa (v:=subV v10 1 ((0:Int)).toNat ((i64w (1+r12.1))).toNat) rfl rfl rfl (Qac ?_)
  obtain rfl:=QsJ H
  have hs:St _ [_,_,_] _:=hs.pull 1 rfl
  have hs:=hs.prefix (fkI .i16) 1 g2.2.2
  refine Qaq Tryz.func29 (v:=subV v10 1 ((0:Int)).toNat ((i64w (1+r12.1))).toNat) (res1 rfl rfl) ?_
  have hs:=hs.pull 2 rfl
  have hs:=hs.pull 2 rfl
  have hs:=hs.pull 2 rfl
  have hs:St _ [_,_,_] _:=St.take (Γ':=[]) hs
  exact ⟨_,rfl,subV v10 1 ((0:Int)).toNat ((i64w (1+r12.1))).toNat,rfl,hs⟩
 intro hb
 rw [if_neg (b_beq_f hb)] at H
 refine Qaa (v:=bool false) rfl rfl rfl ?_
 show G _ _ _ _ [_,_,_,_,_,_,_,_,_,_,_,_,_,_,_,_,_,_,_,_,_,_,_,_,_,_,_,_,_,_,_,_,_,_,_,_,_,_,_,_,_,_,_] _
 refine Qac (Qal rfl (Qay ?_))
 refine QaH (Qad (Qag [0,1] rfl ?_))
 refine QbJ (κ:=(K.int .i16)) hs rfl rfl rfl rfl (fun _=>rfl) ?_
 intro v13 w hs
 refine Qaa (v:=v13) rfl rfl rfl (Qac (Qad (Qag [0,1,2,3] rfl ?_)))
 refine Qaa (v:=pointer (some ⟨b2,0,none⟩)) rfl rfl rfl ?_
 obtain ⟨r15,Hr15,H⟩:=bind_get H
 have hs:St _ [_,_,_] _:=hs.pull 1 rfl
 have hs:=hs.pack 1
 refine Qaw (args:=[pointer (some ⟨b2,0,none⟩),int .i64 3]) rfl rfl (Qax rfl (callFunc_enter Tryz.func31 rfl rfl) rfl) (QaD.calls (a1:=(⟨a1.QaQ,r6.2.QaY,r6.2.QaN⟩:Qav)) (a6:=3) hs hr4 Hr15) ?_
 rintro _ w ⟨rfl,hs⟩
 have hs:=St.unpack (Γ:=[_]) hs
 have hs:St _ [_,_,_] _:=hs
 show G _ _ _ _ [_,_,_,_,_,_,_,_,_,_,_,_,_,_,_,_,_,_,_,_,_,_,_,_,_,_,_,_,_,_,_,_,_,_,_,_,_,_,_,_,_,_,_] _
 refine Qaa (v:=int .i64 (i64w (1+r15.1))) rfl rfl rfl ?_
 refine Qaa (v:=int .i64 (i64w (1+r15.1))) rfl rfl rfl (Qac (Qad (Qad (Qag [0,1,2,3] rfl ?_))))
 refine Qaa (v:=pointer (some ⟨b2,0,none⟩)) rfl rfl rfl ?_
 obtain ⟨r16,Hr16,H⟩:=bind_get H
 have hs:St _ [_,_,_] _:=hs.pull 0 rfl
 have hs:=hs.pack 1
 refine Qaw (args:=[pointer (some ⟨b2,0,none⟩),int .i64 5]) rfl rfl (Qax rfl (callFunc_enter Tryz.func31 rfl rfl) rfl) (QaD.calls (a1:=(⟨a1.QaQ,r15.2.QaY,r15.2.QaN⟩:Qav)) (a6:=5) hs hr4 Hr16) ?_
 rintro _ w ⟨rfl,hs⟩
 have hs:=St.unpack (Γ:=[_]) hs
 have hs:St _ [_,_,_] _:=hs
 show G _ _ _ _ [_,_,_,_,_,_,_,_,_,_,_,_,_,_,_,_,_,_,_,_,_,_,_,_,_,_,_,_,_,_,_,_,_,_,_,_,_,_,_,_,_,_,_] _
 refine Qaa (v:=int .i64 (i64w (1+r16.1))) rfl rfl rfl ?_
 refine Qaa (v:=int .i64 (i64w (1+r16.1))) rfl rfl rfl (Qac ?_)
 obtain ⟨o1_,Ho,Hr1_⟩:=bind_get H
 refine QaC (J:=fun t w=>∃ v39:Value,∃ x40:(List Int),∃ x42:Int,∃ x43:Int,Qa1.a0 N a1 x40 x42 x43=some r∧Fr t (fun O=>([O 0,O 1,O 2,v39,O 4,O 5,O 6,O 7,O 8,O 9,O 10,O 11,O 12,O 13,O 14,O 15,O 16,O 17,O 18,O 19,O 20,O 21,O 22,O 23,O 24,O 25,O 26,O 27,O 28,O 29,O 30,O 31,O 32,O 33,O 34,O 35,O 36,O 37,O 38,O 39,O 40,O 41,O 42]:List Value))∧St wb [Row 67 (K.int .i16) v39 x40,Cells b2 (([v3,int .i64 x42,int .u64 x43]:List Value)) 96,Z] w) ?_ ?_
 ·
  rintro t w ⟨v39,x40,x42,x43,H,hf,hs⟩
  obtain ⟨O,rfl⟩:=hf.open
  show G _ _ _ _ [_,_,_,_,_,_,_,_,_,_,_,_,_,_,_,_,_,_,_,_,_,_,_,_,_,_,_,_,_,_,_,_,_,_,_,_,_,_,_,_,_,_,_] _
  unfold Qa1.a0 at H
  refine Qad (Qag [0,1] rfl ?_)
  refine Qaa (v:=v39) rfl rfl rfl ?_
  refine Qaa (v:=v39) rfl rfl rfl (Qac ?_)
  obtain rfl:=QsJ H
  refine Qaq Tryz.func29 (v:=v39) (res1 rfl rfl) ?_
  have hs:=hs.pull 2 rfl
  have hs:=hs.pull 2 rfl
  have hs:=hs.pull 2 rfl
  have hs:St _ [_,_,_] _:=St.take (Γ':=[]) hs
  exact ⟨_,rfl,v39,rfl,hs⟩
 intro ha1_
 have hs:=hs.pull 2 rfl
 have hs:=hs.pull 2 rfl
 have hs:=hs.pull 2 rfl
 have hs:St _ [_,_,_] _:=St.take (Γ':=[]) hs
 refine QaP (I:=fun n_ t w=>∃ x27:Int,∃ x28:Int,∃ v30:Value,∃ x31:(List Int),∃ x32:Int,∃ x33:Int,rounds (fun s=>Qa1.b0 N a1 s.1 s.2.1 s.2.2.1 s.2.2.2.1 s.2.2.2.2) n_ (x27,x28,x31,x32,x33)=some o1_∧Fr t (fun O=>([pointer (some ⟨b2,0,none⟩),O 1,O 2,v30,int .i64 x32,int .i64 x33,O 6,O 7,O 8,O 9,O 10,O 11,O 12,O 13,O 14,O 15,O 16,O 17,O 18,O 19,O 20,O 21,O 22,O 23,O 24,O 25,O 26,O 27,O 28,O 29,O 30,O 31,O 32,O 33,O 34,O 35,O 36,O 37,O 38,O 39,O 40,O 41,O 42]:List Value))∧St wb [Cells b2 (([v3,int .i64 x27,int .u64 x28]:List Value)) 96,Row 67 (K.int .i16) v30 x31,Z] w) N ⟨r16.2.QaY,r16.2.QaN,v13,([]:List Int),i64w (1+r15.1),i64w (1+r16.1),Ho,rfl,hs⟩ ?_ ?_
 ·
  rintro _ _ ⟨x27,x28,v30,x31,x32,x33,h,_⟩
  exact rounds_zero h
 intro n_ ih1_
 rintro t w ⟨x27,x28,v30,x31,x32,x33,Ho,hf,hs⟩
 obtain ⟨O,rfl⟩:=hf.open
 show G _ _ _ _ [_,_,_,_,_,_,_,_,_,_,_,_,_,_,_,_,_,_,_,_,_,_,_,_,_,_,_,_,_,_,_,_,_,_,_,_,_,_,_,_,_,_,_] _
 obtain ⟨x3_,H,Hx1_⟩:=rounds_succ Ho
 have H:Qa1.b0 N a1 x27 x28 x31 x32 x33=some x3_:=H
 unfold Qa1.b0 at H
 refine Qad (Qad (Qag [0,1] rfl ?_))
 refine Qaa (v:=int .i64 x33) rfl rfl rfl ?_
 refine Qas (B:=decide (x33>0)) rfl rfl rfl ?_ ?_
 ·
  intro hb
  rw [if_pos (b_dec_t hb)] at H
  refine Qac (Qai rfl (Qay (Qad ?_)))
  refine Qbe (Qad (Qag [0,1,2,3,4,5] rfl ?_))
  refine Qaa (v:=v30) rfl rfl rfl ?_
  refine Qaa (v:=int .i64 x32) rfl rfl rfl ?_
  refine Qaa (v:=int .i16 (i16w x32)) rfl rfl rfl ?_
  show G _ _ _ _ [_,_,_,_,_,_,_,_,_,_,_,_,_,_,_,_,_,_,_,_,_,_,_,_,_,_,_,_,_,_,_,_,_,_,_,_,_,_,_,_,_,_,_] _
  refine QbL (fkI .i16) (y:=i16w x32) hs rfl rfl rfl rfl (fun _=>rfl) (zv:=(int .i16 0)) (fun _=>rfl) rfl (by decide) (by decide) rfl ?_
  intro v34 w hs
  show G _ _ _ _ [_,_,_,_,_,_,_,_,_,_,_,_,_,_,_,_,_,_,_,_,_,_,_,_,_,_,_,_,_,_,_,_,_,_,_,_,_,_,_,_,_,_,_] _
  have hs:St _ [_,_,_,_] _:=hs.pull 2 rfl
  obtain ⟨g,H⟩:=ite_get H
  refine QbI (fkI .i16) (zv:=(int .i16 0)) (B:=2) hs (hs.row 1 rfl) rfl rfl rfl rfl rfl rfl rfl rfl rfl (by decide) rfl rfl (by decide) (by omega) ?_
  intro v36 w hs
  refine Qaa (v:=v36) rfl rfl rfl (Qac (Qag [0,1,2,3,4] rfl ?_))
  refine Qaa (v:=int .i64 x32) rfl rfl rfl ?_
  refine Qaa (v:=pointer (some ⟨b2,0,none⟩)) rfl rfl rfl ?_
  obtain ⟨r38,Hr38,H⟩:=bind_get H
  have hs:St _ [_,_,_,_] _:=hs.pull 2 rfl
  have hs:=hs.pack 1
  refine Qaw (args:=[pointer (some ⟨b2,0,none⟩),int .i64 9]) rfl rfl (Qax rfl (callFunc_enter Tryz.func31 rfl rfl) rfl) (QaD.calls (a1:=(⟨a1.QaQ,x27,x28⟩:Qav)) (a6:=9) hs hr4 Hr38) ?_
  rintro _ w ⟨rfl,hs⟩
  have hs:=St.unpack (Γ:=[_]) hs
  have hs:St _ [_,_,_,_] _:=hs
  show G _ _ _ _ [_,_,_,_,_,_,_,_,_,_,_,_,_,_,_,_,_,_,_,_,_,_,_,_,_,_,_,_,_,_,_,_,_,_,_,_,_,_,_,_,_,_,_] _
  refine Qaa (v:=int .i64 (i64w (x32+r38.1))) rfl rfl rfl ?_
  refine Qaa (v:=int .i64 (i64w (x32+r38.1))) rfl rfl rfl (Qac ?_)
  refine QaH (Qag [0,1,2] rfl ?_)
  refine Qaa (v:=int .i64 x33) rfl rfl rfl ?_
  refine Qaa (v:=int .i64 (i64w (x33 - 1))) rfl rfl rfl ?_
  show G _ _ _ _ [_,_,_,_,_,_,_,_,_,_,_,_,_,_,_,_,_,_,_,_,_,_,_,_,_,_,_,_,_,_,_,_,_,_,_,_,_,_,_,_,_,_,_] _
  refine Qaa (v:=int .i64 (i64w (x33 - 1))) rfl rfl rfl (Qac ?_)
  obtain rfl:=QsJ H
  have hs:=hs.pull 3 rfl
  have hs:=hs.pull 2 rfl
  have hs:=hs.pull 2 rfl
  have hs:St _ [_,_,_] _:=St.take (Γ':=[_]) hs
  exact ih1_ _ _ ⟨r38.2.QaY,r38.2.QaN,v36,x31++([i16w x32]),i64w (x32+r38.1),i64w (x33 - 1),Hx1_,rfl,hs⟩
 intro hb
 rw [if_neg (b_dec_f hb)] at H
 show G _ _ _ _ [_,_,_,_,_,_,_,_,_,_,_,_,_,_,_,_,_,_,_,_,_,_,_,_,_,_,_,_,_,_,_,_,_,_,_,_,_,_,_,_,_,_,_] _
 refine Qac (Qal rfl ?_)
 obtain rfl:=QsJ H
 subst Hx1_
 have hs:=hs.pull 2 rfl
 have hs:=hs.pull 1 rfl
 have hs:=hs.pull 2 rfl
 have hs:St _ [_,_,_] _:=St.take (Γ':=[]) hs
 refine Qbc rfl ?_
 exact ha1_ _ _ ⟨v30,x31,x27,x28,Hr1_,rfl,hs⟩
def Qbt.post (w0:World) (r:(List Int)) (v:Value) (w:World):Prop:=St w0 [Row 67 (K.int .i16) v r] w
theorem Qbt.calls {N:Nat} {a1:(List Int)} {v2:Value} {w0:World} {r:(List Int)} (hr0:RdRow (K.int .u8) w0 v2 a1) (H:Qbt.f N a1=some r):
 Calls Tryz.prog 5 #[v2] w0 fun e w=>∃ v,e= .returned v∧Qbt.post w0 r v w:=by
 unfold Qbt.f at H
 have hs:St w0 [] w0:=St.refl w0
 refine calls_of_g (n:=5) Tryz.func5 rfl rfl ?_
 show G _ _ _ _ [_,_,_,_,_,_] _
 refine Qad (Qag [0] rfl ?_)
 refine Qaa (v:=slice none 0 0) rfl rfl rfl (Qac (Qad (Qag [0,1,2,3] rfl ?_)))
 refine Qaa (v:=v2) rfl rfl rfl ?_
 show G _ _ _ _ [_,_,_,_,_,_] _
 obtain ⟨r3,Hr3,H⟩:=bind_get H
 refine Qaw (args:=[v2]) rfl rfl (Qax rfl (callFunc_enter Tryz.func30 rfl rfl) rfl) (Qbq.calls (a1:=a1) (hs.rd hr0) Hr3) ?_
 rintro _ w ⟨b4,rfl,hs2⟩
 have hs:St _ [_] _:=hs.call hs2
 obtain ⟨r6,Hr6,H⟩:=bind_get H
 have hs:St _ [_] _:=hs.pull 0 rfl
 have hs:=hs.pack 1
 refine Qaw (args:=[pointer (some ⟨b4,0,none⟩)]) rfl rfl (Qax rfl (callFunc_enter Tryz.func29 rfl rfl) rfl) (Qa1.calls (a1:=(⟨a1,r3.QaY,r3.QaN⟩:Qav)) hs hr0 Hr6) ?_
 rintro v7 w ⟨_,rfl,hs⟩
 have hs:=St.unpack (Γ:=[_,_]) hs
 have hs:St _ [_,_] _:=hs
 refine Qaa (v:=v7) rfl rfl rfl ?_
 show G _ _ _ _ [_,_,_,_,_,_] _
 refine Qac ?_
 obtain rfl:=QsJ H
 refine Qaq Tryz.func5 (v:=v7) (res1 rfl rfl) ?_
 have hs:=hs.pull 0 rfl
 have hs:St _ [_] _:=St.take (Γ':=[_]) hs
 exact ⟨_,rfl,hs⟩
def Qa0.post (w0:World) (r:(List Int)) (v:Value) (w:World):Prop:=St w0 [Row 49 (K.int .i8) v r] w
theorem Qa0.calls {N:Nat} {a1:(List Int)} {a3:(List Int)} {v2:Value} {v4:Value} {w0:World} {r:(List Int)} (hr0:RdRow (K.int .u8) w0 v2 a1) (hr1:RdRow (K.int .i16) w0 v4 a3) (H:Qa0.f N a1 a3=some r):
 Calls Tryz.prog 6 #[v2,v4] w0 fun e w=>∃ v,e= .returned v∧Qa0.post w0 r v w:=by
 unfold Qa0.f at H
 have hs:St w0 [] w0:=St.refl w0
 refine calls_of_g (n:=23) Tryz.func6 rfl rfl ?_
 show G _ _ _ _ [_,_,_,_,_,_,_,_,_,_,_,_,_,_,_,_,_,_,_,_,_,_,_,_,_] _
 refine Qad (Qag [0] rfl ?_)
 refine Qaa (v:=slice none 0 0) rfl rfl rfl (Qac (Qad (Qag [0,1,2] rfl ?_)))
 refine Qaa (v:=v2) rfl rfl rfl ?_
 obtain ⟨r5,Hr5,H⟩:=bind_get H
 refine Qaw (args:=[v2]) rfl rfl (Qax rfl (callFunc_enter Tryz.func30 rfl rfl) rfl) (Qbq.calls (a1:=a1) (hs.rd hr0) Hr5) ?_
 rintro _ w ⟨b6,rfl,hs2⟩
 have hs:St _ [_] _:=hs.call hs2
 show G _ _ _ _ [_,_,_,_,_,_,_,_,_,_,_,_,_,_,_,_,_,_,_,_,_,_,_,_,_] _
 refine Qaa (v:=pointer (some ⟨b6,0,none⟩)) rfl rfl rfl (Qac (Qad (Qag [0,1] rfl ?_)))
 refine QbJ (κ:=(K.int .i8)) hs rfl rfl rfl rfl (fun _=>rfl) ?_
 intro v8 w hs
 refine Qaa (v:=v8) rfl rfl rfl ?_
 show G _ _ _ _ [_,_,_,_,_,_,_,_,_,_,_,_,_,_,_,_,_,_,_,_,_,_,_,_,_] _
 refine Qac (Qad (Qad (Qag [0] rfl ?_)))
 refine Qaa (v:=int .i64 0) rfl rfl rfl (Qac ?_)
 obtain ⟨o1_,Ho,Hr1_⟩:=bind_get H
 refine QaC (J:=fun t w=>∃ v30:Value,∃ x31:(List Int),Qa0.a0 N x31=some r∧Fr t (fun O=>([O 0,O 1,O 2,O 3,O 4,O 5,v30,O 7,O 8,O 9,O 10,O 11,O 12,O 13,O 14,O 15,O 16,O 17,O 18,O 19,O 20,O 21,O 22,O 23,O 24]:List Value))∧St w0 [Row 49 (K.int .i8) v30 x31] w) ?_ ?_
 ·
  rintro t w ⟨v30,x31,H,hf,hs⟩
  obtain ⟨O,rfl⟩:=hf.open
  show G _ _ _ _ [_,_,_,_,_,_,_,_,_,_,_,_,_,_,_,_,_,_,_,_,_,_,_,_,_] _
  unfold Qa0.a0 at H
  refine Qad (Qag [0,1] rfl ?_)
  refine Qaa (v:=v30) rfl rfl rfl ?_
  show G _ _ _ _ [_,_,_,_,_,_,_,_,_,_,_,_,_,_,_,_,_,_,_,_,_,_,_,_,_] _
  refine Qaa (v:=v30) rfl rfl rfl (Qac ?_)
  obtain rfl:=QsJ H
  refine Qaq Tryz.func6 (v:=v30) (res1 rfl rfl) ?_
  have hs:=hs.pull 0 rfl
  have hs:St _ [_] _:=St.take (Γ':=[]) hs
  exact ⟨_,rfl,hs⟩
 intro ha1_
 have hs:=hs.pull 0 rfl
 have hs:=hs.pull 1 rfl
 have hs:St _ [_,_] _:=St.take (Γ':=[]) hs
 refine QaP (I:=fun n_ t w=>∃ x19:Int,∃ x20:Int,∃ v22:Value,∃ x23:(List Int),∃ x24:Int,rounds (fun s=>Qa0.b0 N a3 a1 s.1 s.2.1 s.2.2.1 s.2.2.2) n_ (x19,x20,x23,x24)=some o1_∧Fr t (fun O=>([O 0,v4,O 2,O 3,O 4,pointer (some ⟨b6,0,none⟩),v22,int .i64 x24,O 8,O 9,O 10,O 11,O 12,O 13,O 14,O 15,O 16,O 17,O 18,O 19,O 20,O 21,O 22,O 23,O 24]:List Value))∧St w0 [Cells b6 (([v2,int .i64 x19,int .u64 x20]:List Value)) 96,Row 49 (K.int .i8) v22 x23] w) N ⟨r5.QaY,r5.QaN,v8,([]:List Int),0,Ho,rfl,hs⟩ ?_ ?_
 ·
  rintro _ _ ⟨x19,x20,v22,x23,x24,h,_⟩
  exact rounds_zero h
 intro n_ ih1_
 rintro t w ⟨x19,x20,v22,x23,x24,Ho,hf,hs⟩
 obtain ⟨O,rfl⟩:=hf.open
 show G _ _ _ _ [_,_,_,_,_,_,_,_,_,_,_,_,_,_,_,_,_,_,_,_,_,_,_,_,_] _
 obtain ⟨x1_,H,Hx1_⟩:=rounds_succ Ho
 have H:Qa0.b0 N a3 a1 x19 x20 x23 x24=some x1_:=H
 unfold Qa0.b0 at H
 refine Qad (Qad (Qag [0,1,2,3] rfl ?_))
 refine Qaa (v:=int .i64 x24) rfl rfl rfl ?_
 refine Qaa (v:=v4) rfl rfl rfl ?_
 show G _ _ _ _ [_,_,_,_,_,_,_,_,_,_,_,_,_,_,_,_,_,_,_,_,_,_,_,_,_] _
 refine Qba (hs.rd hr1) rfl rfl rfl rfl rfl ?_
 refine Qas (B:=decide (x24< (a3.length:Int))) rfl rfl rfl ?_ ?_
 ·
  intro hb
  rw [if_pos (b_dec_t hb)] at H
  show G _ _ _ _ [_,_,_,_,_,_,_,_,_,_,_,_,_,_,_,_,_,_,_,_,_,_,_,_,_] _
  refine Qac (Qai rfl (Qay (Qad ?_)))
  refine Qbe (Qag [0,1,2,3,4,5,6,7] rfl ?_)
  refine Qaa (v:=v22) rfl rfl rfl ?_
  refine Qaa (v:=pointer (some ⟨b6,0,none⟩)) rfl rfl rfl ?_
  obtain ⟨r25,Hr25,H⟩:=bind_get H
  have hs:St _ [_,_] _:=hs.pull 0 rfl
  have hs:=hs.pack 1
  refine Qaw (args:=[pointer (some ⟨b6,0,none⟩),int .i64 3]) rfl rfl (Qax rfl (callFunc_enter Tryz.func31 rfl rfl) rfl) (QaD.calls (a1:=(⟨a1,x19,x20⟩:Qav)) (a6:=3) hs hr0 Hr25) ?_
  rintro _ w ⟨rfl,hs⟩
  have hs:=St.unpack (Γ:=[_]) hs
  have hs:St _ [_,_] _:=hs
  show G _ _ _ _ [_,_,_,_,_,_,_,_,_,_,_,_,_,_,_,_,_,_,_,_,_,_,_,_,_] _
  refine Qaa (v:=int .i64 (i64w (r25.1 - 1))) rfl rfl rfl ?_
  refine Qaa (v:=int .i8 (i8w (i64w (r25.1 - 1)))) rfl rfl rfl ?_
  show G _ _ _ _ [_,_,_,_,_,_,_,_,_,_,_,_,_,_,_,_,_,_,_,_,_,_,_,_,_] _
  refine QbL (fkI .i8) (y:=i8w (i64w (r25.1 - 1))) hs rfl rfl rfl rfl (fun _=>rfl) (zv:=(int .i8 0)) (fun _=>rfl) rfl (by decide) (by decide) rfl ?_
  intro v26 w hs
  show G _ _ _ _ [_,_,_,_,_,_,_,_,_,_,_,_,_,_,_,_,_,_,_,_,_,_,_,_,_] _
  have hs:St _ [_,_,_] _:=hs.pull 2 rfl
  obtain ⟨g,H⟩:=ite_get H
  refine QbI (fkI .i8) (zv:=(int .i8 0)) (B:=1) hs (hs.row 1 rfl) rfl rfl rfl rfl rfl rfl rfl rfl rfl (by decide) rfl rfl (by decide) (by omega) ?_
  intro v28 w hs
  refine Qaa (v:=v28) rfl rfl rfl (Qac ?_)
  refine QaH (Qag [0,1,2] rfl ?_)
  refine Qaa (v:=int .i64 x24) rfl rfl rfl ?_
  show G _ _ _ _ [_,_,_,_,_,_,_,_,_,_,_,_,_,_,_,_,_,_,_,_,_,_,_,_,_] _
  refine Qaa (v:=int .i64 (i64w (x24+1))) rfl rfl rfl ?_
  refine Qaa (v:=int .i64 (i64w (x24+1))) rfl rfl rfl (Qac ?_)
  obtain rfl:=QsJ H
  have hs:=hs.pull 0 rfl
  have hs:=hs.pull 2 rfl
  have hs:St _ [_,_] _:=St.take (Γ':=[_]) hs
  exact ih1_ _ _ ⟨r25.2.QaY,r25.2.QaN,v28,x23++([i8w (i64w (r25.1 - 1))]),i64w (x24+1),Hx1_,rfl,hs⟩
 intro hb
 rw [if_neg (b_dec_f hb)] at H
 refine Qac (Qal rfl ?_)
 obtain rfl:=QsJ H
 subst Hx1_
 have hs:=hs.pull 1 rfl
 have hs:St _ [_] _:=St.take (Γ':=[_]) hs
 refine Qbc rfl ?_
 exact ha1_ _ _ ⟨v22,x23,Hr1_,rfl,hs⟩
def QbF.post (w0:World) (r:Int) (v:Value) (w:World):Prop:=v=int .i64 r∧St w0 [] w
theorem QbF.calls {N:Nat} {a1:(List Int)} {a3:Int} {a4:Int} {v2:Value} {w0:World} {r:Int} (hr0:RdRow (K.int .u8) w0 v2 a1) (H:QbF.f N a1 a3 a4=some r):
 Calls Tryz.prog 7 #[v2,int .i64 a3,int .i64 a4] w0 fun e w=>∃ v,e= .returned v∧QbF.post w0 r v w:=by
 unfold QbF.f at H
 have hs:St w0 [] w0:=St.refl w0
 refine calls_of_g (n:=19) Tryz.func7 rfl rfl ?_
 show G _ _ _ _ [_,_,_,_,_,_,_,_,_,_,_,_,_,_,_,_,_,_,_,_,_,_] _
 refine Qad (Qag [0] rfl ?_)
 refine Qaa (v:=int .i64 0) rfl rfl rfl ?_
 show G _ _ _ _ [_,_,_,_,_,_,_,_,_,_,_,_,_,_,_,_,_,_,_,_,_,_] _
 refine Qac (Qad (Qad (Qag [0,1,2,3,4,5,6,7] rfl ?_)))
 refine Qaa (v:=int .i64 a3) rfl rfl rfl ?_
 refine Qaa (v:=v2) rfl rfl rfl ?_
 refine Qba (hs.rd hr0) rfl rfl rfl rfl rfl ?_
 show G _ _ _ _ [_,_,_,_,_,_,_,_,_,_,_,_,_,_,_,_,_,_,_,_,_,_] _
 refine Qas (B:=decide (a3≥(a1.length:Int))) rfl rfl rfl ?_ ?_
 ·
  intro hb
  rw [if_pos (b_dec_t hb)] at H
  refine Qaa (v:=bool true) rfl rfl rfl (Qab rfl rfl ?_)
  show G _ _ _ _ [_,_,_,_,_,_,_,_,_,_,_,_,_,_,_,_,_,_,_,_,_,_] _
  refine Qab rfl rfl ?_
  refine Qaa (v:=bool true) rfl rfl rfl (Qac (Qai rfl (Qad (Qag [0] rfl ?_))))
  refine Qaa (v:=int .i64 0) rfl rfl rfl ?_
  show G _ _ _ _ [_,_,_,_,_,_,_,_,_,_,_,_,_,_,_,_,_,_,_,_,_,_] _
  refine Qac ?_
  obtain rfl:=QsJ H
  refine Qaq Tryz.func7 (v:=int .i64 0) (res1 rfl rfl) ?_
  have hs:St _ [] _:=St.take (Γ':=[]) hs
  exact ⟨_,rfl,rfl,hs⟩
 intro hb
 rw [if_neg (b_dec_f hb)] at H
 refine Qaa (v:=bool false) rfl rfl rfl ?_
 refine Qaa (v:=int .i64 a4) rfl rfl rfl ?_
 show G _ _ _ _ [_,_,_,_,_,_,_,_,_,_,_,_,_,_,_,_,_,_,_,_,_,_] _
 refine Qas (B:=decide (a4< 1)) rfl rfl rfl ?_ ?_
 ·
  intro hb
  rw [if_pos (b_dec_t hb)] at H
  refine Qaa (v:=bool true) rfl rfl rfl (Qac (Qai rfl (Qad (Qag [0] rfl ?_))))
  refine Qaa (v:=int .i64 0) rfl rfl rfl ?_
  show G _ _ _ _ [_,_,_,_,_,_,_,_,_,_,_,_,_,_,_,_,_,_,_,_,_,_] _
  refine Qac ?_
  obtain rfl:=QsJ H
  refine Qaq Tryz.func7 (v:=int .i64 0) (res1 rfl rfl) ?_
  have hs:St _ [] _:=St.take (Γ':=[]) hs
  exact ⟨_,rfl,rfl,hs⟩
 intro hb
 rw [if_neg (b_dec_f hb)] at H
 refine Qaa (v:=bool false) rfl rfl rfl (Qac (Qal rfl (Qay (Qad (Qag [0,1,2,3,4,5,6,7] rfl ?_)))))
 refine Qaa (v:=v2) rfl rfl rfl ?_
 show G _ _ _ _ [_,_,_,_,_,_,_,_,_,_,_,_,_,_,_,_,_,_,_,_,_,_] _
 refine Qaa (v:=int .i64 a3) rfl rfl rfl ?_
 obtain ⟨g1,H⟩:=ite_get H
 refine Qa6 (fkI .u8) 0 (hs.rd hr0) rfl (fun _=>rfl) g1.1 g1.2 rfl rfl rfl rfl rfl ?_
 intro p5 hp5 lp5 op5
 refine QaA rfl rfl (v:=int .u8 (rdL a1 a3 0)) rfl rfl (fun _=>rfl) hp5 ?_
 show G _ _ _ _ [_,_,_,_,_,_,_,_,_,_,_,_,_,_,_,_,_,_,_,_,_,_] _
 refine Qaa (v:=int .i64 (i64w (rdL a1 a3 0))) rfl rfl rfl ?_
 refine Qaa (v:=int .i64 a4) rfl rfl rfl ?_
 obtain ⟨g2,H⟩:=ite_get H
 refine Qaa (v:=int .i64 ((i64w (rdL a1 a3 0)).tmod a4)) rfl rfl (QbZ rfl rfl rfl g2) ?_
 show G _ _ _ _ [_,_,_,_,_,_,_,_,_,_,_,_,_,_,_,_,_,_,_,_,_,_] _
 refine Qaa (v:=int .i64 ((i64w (rdL a1 a3 0)).tmod a4)) rfl rfl rfl (Qac ?_)
 obtain rfl:=QsJ H
 refine Qaq Tryz.func7 (v:=int .i64 ((i64w (rdL a1 a3 0)).tmod a4)) (res1 rfl rfl) ?_
 have hs:St _ [] _:=St.take (Γ':=[]) hs
 exact ⟨_,rfl,rfl,hs⟩
def Qbl.post (w0:World) (r:Int) (v:Value) (w:World):Prop:=v=int .i64 r∧St w0 [] w
theorem Qbl.calls {N:Nat} {a1:(List Int)} {v2:Value} {w0:World} {r:Int} (hr0:RdRow (K.int .i16) w0 v2 a1) (H:Qbl.f N a1=some r):
 Calls Tryz.prog 50 #[v2] w0 fun e w=>∃ v,e= .returned v∧Qbl.post w0 r v w:=by
 unfold Qbl.f at H
 have hs:St w0 [] w0:=St.refl w0
 refine calls_of_g (n:=4) Tryz.func50 rfl rfl ?_
 show G _ _ _ _ [_,_,_,_,_] _
 refine Qad (Qag [0] rfl ?_)
 refine Qaa (v:=int .i64 0) rfl rfl rfl (Qac (Qad (Qag [0,1,2] rfl ?_)))
 refine Qaa (v:=v2) rfl rfl rfl ?_
 refine Qba (hs.rd hr0) rfl rfl rfl rfl rfl ?_
 show G _ _ _ _ [_,_,_,_,_] _
 refine Qaa (v:=int .i64 (a1.length:Int)) rfl rfl rfl (Qac ?_)
 obtain rfl:=QsJ H
 refine Qaq Tryz.func50 (v:=int .i64 (a1.length:Int)) (res1 rfl rfl) ?_
 have hs:St _ [] _:=St.take (Γ':=[]) hs
 exact ⟨_,rfl,rfl,hs⟩
def Qa5.post (w0:World) (r:Bool) (v:Value) (w:World):Prop:=v=bool r∧St w0 [] w
theorem Qa5.calls {N:Nat} {a1:Int} {a2:Int} {a3:Int} {w0:World} {r:Bool} (H:Qa5.f N a1 a2 a3=some r):
 Calls Tryz.prog 46 #[int .i64 a1,int .i64 a2,int .i64 a3] w0 fun e w=>∃ v,e= .returned v∧Qa5.post w0 r v w:=by
 unfold Qa5.f at H
 have hs:St w0 [] w0:=St.refl w0
 refine calls_of_g (n:=12) Tryz.func46 rfl rfl ?_
 show G _ _ _ _ [_,_,_,_,_,_,_,_,_,_,_,_,_,_,_] _
 refine Qad (Qag [0] rfl ?_)
 refine Qaa (v:=bool false) rfl rfl rfl (Qac (Qad (Qag [0,1,2,3,4,5,6,7,8] rfl ?_)))
 refine Qaa (v:=int .i64 a2) rfl rfl rfl ?_
 show G _ _ _ _ [_,_,_,_,_,_,_,_,_,_,_,_,_,_,_] _
 refine Qaa (v:=int .i64 a1) rfl rfl rfl ?_
 refine Qas (B:=decide (a2≤a1)) rfl rfl rfl ?_ ?_
 ·
  intro hb
  rw [if_pos (b_dec_t hb)] at H
  show G _ _ _ _ [_,_,_,_,_,_,_,_,_,_,_,_,_,_,_] _
  refine Qaa (v:=bool true) rfl rfl rfl ?_
  refine Qaa (v:=int .i64 a1) rfl rfl rfl ?_
  refine Qaa (v:=int .i64 a3) rfl rfl rfl ?_
  show G _ _ _ _ [_,_,_,_,_,_,_,_,_,_,_,_,_,_,_] _
  refine Qaa (v:=bool (decide (a1≤a3))) rfl rfl rfl ?_
  refine Qaa (v:=bool (decide (a1≤a3))) rfl rfl rfl ?_
  refine Qaa (v:=bool (decide (a1≤a3))) rfl rfl rfl ?_
  show G _ _ _ _ [_,_,_,_,_,_,_,_,_,_,_,_,_,_,_] _
  refine Qac ?_
  obtain rfl:=QsJ H
  refine Qaq Tryz.func46 (v:=bool (decide (a1≤a3))) (res1 rfl rfl) ?_
  have hs:St _ [] _:=St.take (Γ':=[]) hs
  exact ⟨_,rfl,rfl,hs⟩
 intro hb
 rw [if_neg (b_dec_f hb)] at H
 refine Qaa (v:=bool false) rfl rfl rfl ?_
 show G _ _ _ _ [_,_,_,_,_,_,_,_,_,_,_,_,_,_,_] _
 refine Qab rfl rfl (Qab rfl rfl (Qab rfl rfl ?_))
 show G _ _ _ _ [_,_,_,_,_,_,_,_,_,_,_,_,_,_,_] _
 refine Qaa (v:=bool false) rfl rfl rfl ?_
 refine Qaa (v:=bool false) rfl rfl rfl (Qac ?_)
 obtain rfl:=QsJ H
 refine Qaq Tryz.func46 (v:=bool false) (res1 rfl rfl) ?_
 have hs:St _ [] _:=St.take (Γ':=[]) hs
 exact ⟨_,rfl,rfl,hs⟩
def cmp_isNaN_int16.post (w0:World) (r:Bool) (v:Value) (w:World):Prop:=v=bool r∧St w0 [] w
theorem cmp_isNaN_int16.calls {N:Nat} {a1:Int} {w0:World} {r:Bool} (H:cmp_isNaN_int16.f N a1=some r):
 Calls Tryz.prog 82 #[int .i16 a1] w0 fun e w=>∃ v,e= .returned v∧cmp_isNaN_int16.post w0 r v w:=by
 unfold cmp_isNaN_int16.f at H
 have hs:St w0 [] w0:=St.refl w0
 refine calls_of_g (n:=5) Tryz.func82 rfl rfl ?_
 show G _ _ _ _ [_,_,_,_,_,_] _
 refine Qad (Qag [0] rfl ?_)
 refine Qaa (v:=bool false) rfl rfl rfl (Qac (Qad (Qag [0,1,2,3] rfl ?_)))
 refine Qaa (v:=int .i16 a1) rfl rfl rfl ?_
 show G _ _ _ _ [_,_,_,_,_,_] _
 refine Qaa (v:=int .i16 a1) rfl rfl rfl ?_
 refine Qaa (v:=bool (a1 !=a1)) rfl rfl rfl ?_
 refine Qaa (v:=bool (a1 !=a1)) rfl rfl rfl ?_
 show G _ _ _ _ [_,_,_,_,_,_] _
 refine Qac ?_
 obtain rfl:=QsJ H
 refine Qaq Tryz.func82 (v:=bool (a1 !=a1)) (res1 rfl rfl) ?_
 have hs:St _ [] _:=St.take (Γ':=[]) hs
 exact ⟨_,rfl,rfl,hs⟩
def cmp_Less_int16.post (w0:World) (r:Bool) (v:Value) (w:World):Prop:=v=bool r∧St w0 [] w
theorem cmp_Less_int16.calls {N:Nat} {a1:Int} {a2:Int} {w0:World} {r:Bool} (H:cmp_Less_int16.f N a1 a2=some r):
 Calls Tryz.prog 70 #[int .i16 a1,int .i16 a2] w0 fun e w=>∃ v,e= .returned v∧cmp_Less_int16.post w0 r v w:=by
 unfold cmp_Less_int16.f at H
 have hs:St w0 [] w0:=St.refl w0
 refine calls_of_g (n:=15) Tryz.func70 rfl rfl ?_
 show G _ _ _ _ [_,_,_,_,_,_,_,_,_,_,_,_,_,_,_,_,_] _
 refine Qad (Qag [0] rfl ?_)
 refine Qaa (v:=bool false) rfl rfl rfl ?_
 show G _ _ _ _ [_,_,_,_,_,_,_,_,_,_,_,_,_,_,_,_,_] _
 refine Qac (Qad (Qag [0,1,2,3,4,5,6,7,8,9,10,11,12] rfl ?_))
 refine Qaa (v:=int .i16 a1) rfl rfl rfl ?_
 obtain ⟨r3,Hr3,H⟩:=bind_get H
 refine Qaw (args:=[int .i16 a1]) rfl rfl (Qax rfl (callFunc_enter Tryz.func82 rfl rfl) rfl) (cmp_isNaN_int16.calls (a1:=a1) Hr3) ?_
 rintro _ w ⟨rfl,hs2⟩
 have hs:St _ [] _:=hs.call hs2
 cases r3 with
 |true=>
  rw [if_pos rfl] at H
  refine Qaa (v:=bool true) rfl rfl rfl ?_
  show G _ _ _ _ [_,_,_,_,_,_,_,_,_,_,_,_,_,_,_,_,_] _
  refine Qaa (v:=int .i16 a2) rfl rfl rfl ?_
  obtain ⟨r4,Hr4,H⟩:=bind_get H
  refine Qaw (args:=[int .i16 a2]) rfl rfl (Qax rfl (callFunc_enter Tryz.func82 rfl rfl) rfl) (cmp_isNaN_int16.calls (a1:=a2) Hr4) ?_
  rintro _ w ⟨rfl,hs2⟩
  have hs:St _ [] _:=hs.call hs2
  refine Qaa (v:=bool (!r4)) rfl rfl rfl ?_
  show G _ _ _ _ [_,_,_,_,_,_,_,_,_,_,_,_,_,_,_,_,_] _
  refine Qas (B:=!r4) rfl rfl rfl ?_ ?_
  ·
   intro hb
   rw [if_neg (b_not_t hb)] at H
   refine Qaa (v:=bool true) rfl rfl rfl ?_
   show G _ _ _ _ [_,_,_,_,_,_,_,_,_,_,_,_,_,_,_,_,_] _
   refine Qab rfl rfl (Qab rfl rfl (Qab rfl rfl ?_))
   show G _ _ _ _ [_,_,_,_,_,_,_,_,_,_,_,_,_,_,_,_,_] _
   refine Qaa (v:=bool true) rfl rfl rfl ?_
   refine Qaa (v:=bool true) rfl rfl rfl (Qac ?_)
   obtain rfl:=QsJ H
   refine Qaq Tryz.func70 (v:=bool true) (res1 rfl rfl) ?_
   have hs:St _ [] _:=St.take (Γ':=[]) hs
   exact ⟨_,rfl,rfl,hs⟩
  intro hb
  rw [if_pos (b_not_f hb)] at H
  refine Qaa (v:=bool false) rfl rfl rfl ?_
  refine Qaa (v:=int .i16 a1) rfl rfl rfl ?_
  show G _ _ _ _ [_,_,_,_,_,_,_,_,_,_,_,_,_,_,_,_,_] _
  refine Qaa (v:=int .i16 a2) rfl rfl rfl ?_
  refine Qaa (v:=bool (decide (a1< a2))) rfl rfl rfl ?_
  refine Qaa (v:=bool (decide (a1< a2))) rfl rfl rfl ?_
  show G _ _ _ _ [_,_,_,_,_,_,_,_,_,_,_,_,_,_,_,_,_] _
  refine Qaa (v:=bool (decide (a1< a2))) rfl rfl rfl (Qac ?_)
  obtain rfl:=QsJ H
  refine Qaq Tryz.func70 (v:=bool (decide (a1< a2))) (res1 rfl rfl) ?_
  have hs:St _ [] _:=St.take (Γ':=[]) hs
  exact ⟨_,rfl,rfl,hs⟩
 |false=>
  rw [if_neg Bool.false_ne_true] at H
  refine Qaa (v:=bool false) rfl rfl rfl ?_
  show G _ _ _ _ [_,_,_,_,_,_,_,_,_,_,_,_,_,_,_,_,_] _
  refine Qab rfl rfl (Qab rfl rfl (Qab rfl rfl ?_))
  show G _ _ _ _ [_,_,_,_,_,_,_,_,_,_,_,_,_,_,_,_,_] _
  refine Qaa (v:=bool false) rfl rfl rfl ?_
  refine Qaa (v:=bool false) rfl rfl rfl ?_
  refine Qaa (v:=int .i16 a1) rfl rfl rfl ?_
  show G _ _ _ _ [_,_,_,_,_,_,_,_,_,_,_,_,_,_,_,_,_] _
  refine Qaa (v:=int .i16 a2) rfl rfl rfl ?_
  refine Qaa (v:=bool (decide (a1< a2))) rfl rfl rfl ?_
  refine Qaa (v:=bool (decide (a1< a2))) rfl rfl rfl ?_
  show G _ _ _ _ [_,_,_,_,_,_,_,_,_,_,_,_,_,_,_,_,_] _
  refine Qaa (v:=bool (decide (a1< a2))) rfl rfl rfl (Qac ?_)
  obtain rfl:=QsJ H
  refine Qaq Tryz.func70 (v:=bool (decide (a1< a2))) (res1 rfl rfl) ?_
  have hs:St _ [] _:=St.take (Γ':=[]) hs
  exact ⟨_,rfl,rfl,hs⟩
end Go.Proofs.YtmineidejeacnaaGreatDoorX
