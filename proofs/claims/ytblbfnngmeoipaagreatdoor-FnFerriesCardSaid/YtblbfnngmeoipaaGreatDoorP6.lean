import Derived.Test.YtblbfnngmeoipaaGreatDoorP4
import Derived.Test.YtblbfnngmeoipaaGreatDoorP5
namespace Go.Proofs.YtblbfnngmeoipaaGreatDoorX
open Go Go.RowKit Go.Proofs
open Go.Value (int pointer bool agg slice string tuple)
set_option maxHeartbeats 8000000
set_option maxRecDepth 100000
set_option linter.unusedVariables false
set_option linter.unusedSimpArgs false
def Qb8.post (w0:World) (r:Bool) (v:Value) (w:World):Prop:=v=bool r∧St w0 [] w
theorem Qb8.calls {N:Nat} {a1:(List Int)} {a3:(List Int)} {v2:Value} {v4:Value} {w0:World} {r:Bool} (hr0:RdRow (K.int .u8) w0 v2 a1) (hr1:RdRow (K.int .u8) w0 v4 a3) (H:Qb8.f N a1 a3=some r):
 Calls Tryz.prog 4 #[v2,v4] w0 fun e w=>∃ v,e= .returned v∧Qb8.post w0 r v w:=by
 unfold Qb8.f at H
 have hs:St w0 [] w0:=St.refl w0
 refine calls_of_g (n:=11) Tryz.func4 rfl rfl ?_
 show G _ _ _ _ [_,_,_,_,_,_,_,_,_,_,_,_,_] _
 refine Qaj (Qan [0] rfl ?_)
 refine Qab (v:=bool false) rfl rfl rfl (Qac (Qaj (Qan [0,1,2,3,4,5,6,7,8] rfl ?_)))
 refine Qab (v:=v2) rfl rfl rfl ?_
 show G _ _ _ _ [_,_,_,_,_,_,_,_,_,_,_,_,_] _
 refine QbC (hs.rd hr0) rfl rfl rfl rfl rfl ?_
 refine QaI (B:=decide ((a1.length:Int)>3000)) rfl rfl rfl ?_ ?_
 ·
  intro hb
  rw [if_pos (b_dec_t hb)] at H
  show G _ _ _ _ [_,_,_,_,_,_,_,_,_,_,_,_,_] _
  refine Qab (v:=bool true) rfl rfl rfl (Qae rfl rfl (Qae rfl rfl ?_))
  show G _ _ _ _ [_,_,_,_,_,_,_,_,_,_,_,_,_] _
  refine Qae rfl rfl ?_
  refine Qab (v:=bool true) rfl rfl rfl ?_
  refine Qab (v:=bool true) rfl rfl rfl ?_
  show G _ _ _ _ [_,_,_,_,_,_,_,_,_,_,_,_,_] _
  refine Qac ?_
  obtain rfl:=QsJ H
  refine QaB Tryz.func4 (v:=bool true) (res1 rfl rfl) ?_
  have hs:St _ [] _:=St.take (Γ':=[]) hs
  exact ⟨_,rfl,rfl,hs⟩
 intro hb
 rw [if_neg (b_dec_f hb)] at H
 refine Qab (v:=bool false) rfl rfl rfl ?_
 show G _ _ _ _ [_,_,_,_,_,_,_,_,_,_,_,_,_] _
 refine Qab (v:=v4) rfl rfl rfl ?_
 refine QbC (hs.rd hr1) rfl rfl rfl rfl rfl ?_
 refine Qab (v:=bool (decide ((a3.length:Int)>3000))) rfl rfl rfl ?_
 show G _ _ _ _ [_,_,_,_,_,_,_,_,_,_,_,_,_] _
 refine Qab (v:=bool (decide ((a3.length:Int)>3000))) rfl rfl rfl ?_
 refine Qab (v:=bool (decide ((a3.length:Int)>3000))) rfl rfl rfl (Qac ?_)
 obtain rfl:=QsJ H
 refine QaB Tryz.func4 (v:=bool (decide ((a3.length:Int)>3000))) (res1 rfl rfl) ?_
 have hs:St _ [] _:=St.take (Γ':=[]) hs
 exact ⟨_,rfl,rfl,hs⟩
def Qcj.post (w0:World) (v2:Value) (r:QaH) (v:Value) (w:World):Prop:=∃ b1:Nat,v=pointer (some ⟨b1,0,none⟩)∧St w0 [Cells b1 (([v2,int .i64 r.Qbf,int .u64 r.Qa2]:List Value)) 107] w
theorem Qcj.calls {N:Nat} {a1:(List Int)} {v2:Value} {w0:World} {r:QaH} (hr0:RdRow (K.int .u8) w0 v2 a1) (H:Qcj.f N a1=some r):
 Calls Tryz.prog 28 #[v2] w0 fun e w=>∃ v,e= .returned v∧Qcj.post w0 v2 r v w:=by
 unfold Qcj.f at H
 have hs:St w0 [] w0:=St.refl w0
 refine calls_of_g (n:=5) Tryz.func28 rfl rfl ?_
 show G _ _ _ _ [_,_,_,_,_,_] _
 refine Qaj (Qan [0] rfl ?_)
 refine Qab (v:=pointer none) rfl rfl rfl (Qac (Qaj (Qan [0,1,2,3] rfl ?_)))
 refine Qab (v:=v2) rfl rfl rfl ?_
 show G _ _ _ _ [_,_,_,_,_,_] _
 refine Qab (v:=agg (([v2,int .i64 0,int .u64 0]:List Value)).toArray) rfl rfl (Qbt (cs:=(([v2,int .i64 0,int .u64 0]:List Value))) (segs:=[[slice none 0 0],[int .i64 0],[int .u64 0]]) rfl rfl (fun _=>rfl) ⟨rfl,(fun _=>rfl),rfl,(fun _=>rfl),rfl,(fun _=>rfl),trivial⟩ (by simp only [List.map_cons,List.map_nil,List.forall_mem_cons,List.not_mem_nil,false_implies,implies_true,and_true];exact ⟨_,rfl,slSize (hs.rd hr0)⟩) (by first|rfl|(simp [ev,encA,slCells (hs.rd hr0)];done)|(simp [ev,encA,slCells (hs.rd hr0)];rfl))) ?_
 refine Qbw hs rfl rfl (cs:=(([v2,int .i64 0,int .u64 0]:List Value))) rfl rfl ?_
 intro b3 w hs
 refine Qab (v:=pointer (some ⟨b3,0,none⟩)) rfl rfl rfl ?_
 show G _ _ _ _ [_,_,_,_,_,_] _
 refine Qac ?_
 obtain rfl:=QsJ H
 refine QaB Tryz.func28 (v:=pointer (some ⟨b3,0,none⟩)) (res1 rfl rfl) ?_
 have hs:=hs.pull 0 rfl
 have hs:St _ [_] _:=St.take (Γ':=[]) hs
 exact ⟨_,rfl,b3,rfl,hs⟩
def Qbl.post (wb:World) (Z:As) (b2:Nat) (v3:Value) (r:(Int×QaH)) (v:Value) (w:World):Prop:=v=int .i64 r.1∧St wb [Cells b2 (([v3,int .i64 r.2.Qbf,int .u64 r.2.Qa2]:List Value)) 107,Z] w
theorem Qbl.calls {N:Nat} {a1:QaH} {b2:Nat} {v3:Value} {wb:World} {Z:As} {w0:World} {r:(Int×QaH)} (hs:St wb [Cells b2 (([v3,int .i64 a1.Qbf,int .u64 a1.Qa2]:List Value)) 107,Z] w0) (hr4:RdRow (K.int .u8) wb v3 a1.Qa3) (H:Qbl.f N a1=some r):
 Calls Tryz.prog 85 #[pointer (some ⟨b2,0,none⟩)] w0 fun e w=>∃ v,e= .returned v∧Qbl.post wb Z b2 v3 r v w:=by
 unfold Qbl.f at H
 refine calls_of_g (n:=61) Tryz.func85 rfl rfl ?_
 show G _ _ _ _ (_::_::_::_::_::_::_::_::_::_::_::_::_::_::_::_::_::_::_::_::_::_::_::_::_::_::_::_::_::_::_::_::_::_::_::_::_::_::_::_::_::_::_::_::_::_::_::_::_::_::_::_::_::_::_::_::_::_::_::_::_::_::[]) _
 refine Qaj (Qan [0] rfl ?_)
 refine Qab (v:=int .i64 0) rfl rfl rfl (g_d rfl (Qac (Qaj (Qan [0] rfl ?_))))
 refine Qab (v:=int .i64 0) rfl rfl rfl (g_d rfl ?_)
 try dsimp only [Qah,Qai]
 refine Qac (Qaj (Qaj ?_))
 refine Qcz (J:=(fun t w=>∃ x6:Int,Qbl.j0 N a1 x6=some r∧Fr t (fun O=>(pointer (some ⟨b2,0,none⟩)::O 1::O 2::int .i64 x6::O 4::O 5::O 6::O 7::O 8::O 9::oT O 1 (oT O 2 (oT O 3 (oT O 4 (oT O 5 (O 60::O 61::[]))))):List Value))∧St wb [Cells b2 (([v3,int .i64 a1.Qbf,int .u64 a1.Qa2]:List Value)) 107,Z] w)) ?_ ?_
 ·
  rintro t w ⟨x6,H,hf,hs⟩
  obtain ⟨O,rfl⟩:=hf.open
  try dsimp only [oT]
  unfold Qbl.j0 at H
  refine Qaj (Qan [0,1,2,3,4,5,6,7] rfl ?_)
  refine Qab (v:=pointer (some ⟨b2,0,none⟩)) rfl rfl rfl (g_d rfl ?_)
  refine Qab (v:=pointer (some ⟨b2,0,none⟩)) rfl rfl rfl (g_d rfl ?_)
  refine Qab (v:=pointer (some ⟨b2,1,none⟩)) rfl rfl rfl (g_d rfl ?_)
  refine Qaw rfl rfl (v:=int .i64 a1.Qbf) rfl rfl (fun _=>rfl) (cells_load (hs.cells 0 rfl) 1 1 rfl) (g_d rfl ?_)
  refine Qab (v:=int .i64 (i64w (a1.Qbf+1))) rfl rfl rfl (g_d rfl ?_)
  try dsimp only [Qah,Qai]
  refine Qab (v:=pointer (some ⟨b2,0,none⟩)) rfl rfl rfl (g_d rfl ?_)
  refine Qab (v:=pointer (some ⟨b2,1,none⟩)) rfl rfl rfl (g_d rfl ?_)
  refine QcA hs rfl rfl (vs:=((encI .i64) (i64w (a1.Qbf+1)))) (cs':=(([v3,int .i64 (i64w (a1.Qbf+1)),int .u64 a1.Qa2]:List Value))) rfl rfl rfl (n:=1) (fun _=>rfl) ((fkI .i64).len _) (by first|exact Nat.le_of_ble_eq_true rfl|simp [encAI_len,encAB_len,encA_len]) ((fkI .i64).one _) rfl ?_
  intro w hs
  refine g_n rfl (Qac (Qaj (Qan [0,1,2,3,4,5,6,7,8,9,10,11,12] rfl ?_)))
  refine Qab (v:=pointer (some ⟨b2,0,none⟩)) rfl rfl rfl (g_d rfl ?_)
  refine Qab (v:=pointer (some ⟨b2,0,none⟩)) rfl rfl rfl (g_d rfl ?_)
  refine Qab (v:=pointer (some ⟨b2,0,none⟩)) rfl rfl rfl (g_d rfl ?_)
  refine Qab (v:=pointer (some ⟨b2,2,none⟩)) rfl rfl rfl (g_d rfl ?_)
  refine Qaw rfl rfl (v:=int .u64 a1.Qa2) rfl rfl (fun _=>rfl) (cells_load (hs.cells 0 rfl) 2 1 rfl) (g_d rfl ?_)
  refine Qab (v:=int .u64 (u64w (a1.Qa2*6364136223846793005))) rfl rfl rfl (g_d rfl ?_)
  try dsimp only [Qah,Qai]
  refine Qab (v:=int .i64 x6) rfl rfl rfl (g_d rfl ?_)
  refine Qab (v:=int .u64 (u64w x6)) rfl rfl rfl (g_d rfl ?_)
  refine Qab (v:=int .u64 (u64w ((u64w (a1.Qa2*6364136223846793005))+(u64w x6)))) rfl rfl rfl (g_d rfl ?_)
  refine Qab (v:=int .u64 (u64w ((u64w ((u64w (a1.Qa2*6364136223846793005))+(u64w x6)))+1442695040888963407))) rfl rfl rfl (g_d rfl ?_)
  try dsimp only [Qah,Qai]
  refine Qab (v:=pointer (some ⟨b2,0,none⟩)) rfl rfl rfl (g_d rfl ?_)
  refine Qab (v:=pointer (some ⟨b2,2,none⟩)) rfl rfl rfl (g_d rfl ?_)
  refine QcA hs rfl rfl (vs:=((encI .u64) (u64w ((u64w ((u64w (a1.Qa2*6364136223846793005))+(u64w x6)))+1442695040888963407)))) (cs':=(([v3,int .i64 (i64w (a1.Qbf+1)),int .u64 (u64w ((u64w ((u64w (a1.Qa2*6364136223846793005))+(u64w x6)))+1442695040888963407))]:List Value))) rfl rfl rfl (n:=1) (fun _=>rfl) ((fkI .u64).len _) (by first|exact Nat.le_of_ble_eq_true rfl|simp [encAI_len,encAB_len,encA_len]) ((fkI .u64).one _) rfl ?_
  intro w hs
  refine g_n rfl (Qac (Qaj (Qaj ?_)))
  refine Qck (n:=10) rfl [0,1,2,3,4,5,6,7,8,9] [0,1,2,3,4,5,6,7,8,9] rfl rfl ?_
  intro rest w hh hbw hO
  have hs:=hs.samew hh hbw
  try dsimp only [Qah,Qai]
  refine QaV ?_
  intro T hT
  refine Qbb (m0:=0) hO rfl 511 [0,1,2,3,4,5,6,7,8] [0,1,3,7,0,16,48,112,240,511] (by decide+kernel) (fun D t w=>∃ O:Nat→Value,t=(pointer (some ⟨b2,0,none⟩)::O 1::O 2::int .i64 x6::O 4::O 5::O 6::O 7::O 8::O 9::oT O 1 (O 20::O 21::O 22::O 23::O 24::pointer (some ⟨b2,0,none⟩)::pointer (some ⟨b2,0,none⟩)::pointer (some ⟨b2,1,none⟩)::int .i64 a1.Qbf::int .i64 (i64w (a1.Qbf+1))::pointer (some ⟨b2,0,none⟩)::pointer (some ⟨b2,1,none⟩)::pointer (some ⟨b2,0,none⟩)::pointer (some ⟨b2,0,none⟩)::pointer (some ⟨b2,0,none⟩)::pointer (some ⟨b2,2,none⟩)::int .u64 a1.Qa2::int .u64 (u64w (a1.Qa2*6364136223846793005))::int .i64 x6::int .u64 (u64w x6)::int .u64 (u64w ((u64w (a1.Qa2*6364136223846793005))+(u64w x6)))::int .u64 (u64w ((u64w ((u64w (a1.Qa2*6364136223846793005))+(u64w x6)))+1442695040888963407))::pointer (some ⟨b2,0,none⟩)::pointer (some ⟨b2,2,none⟩)::cnd (D 0) (pointer (some ⟨b2,0,none⟩)) (O 44)::cnd (D 1) (pointer (some ⟨b2,0,none⟩)) (O 45)::cnd (D 2) (pointer (some ⟨b2,1,none⟩)) (O 46)::cnd (D 3) (int .i64 (i64w (a1.Qbf+1))) (O 47)::cnd (D 4) (pointer (some ⟨b2,0,none⟩)) (O 48)::cnd (D 5) (pointer (some ⟨b2,0,none⟩)) (O 49)::cnd (D 6) (pointer (some ⟨b2,0,none⟩)) (O 50)::cnd (D 7) v3 (O 51)::cnd (D 8) (int .i64 (a1.Qa3.length:Int)) (O 52)::O 53::O 54::O 55::O 56::O 57::O 58::O 59::O 60::O 61::[]))∧St wb [Cells b2 (([v3,int .i64 (i64w (a1.Qbf+1)),int .u64 (u64w ((u64w ((u64w (a1.Qa2*6364136223846793005))+(u64w x6)))+1442695040888963407))]:List Value)) 107,Z] w) ?_ ⟨?_,⟨?_,⟨?_,⟨?_,⟨?_,⟨?_,⟨?_,⟨?_,⟨?_,trivial⟩⟩⟩⟩⟩⟩⟩⟩⟩ ?_
  ·exact ⟨fun i=>T.getD i undef,(by subst hT;rfl),hs⟩
  ·
   rintro D t w hD hp hcl ⟨O,ht,hs⟩ rest hk
   have hp:AllDone D []:=hp
   have q1_:=ny hcl 1 0 hD
   have q2_:=ny hcl 2 0 q1_
   have q3_:=ny hcl 3 0 q2_
   simp only [hD,q1_,q2_,q3_,cq,oT] at ht hs
   subst ht
   refine Qab (v:=pointer (some ⟨b2,0,none⟩)) rfl rfl rfl (g_d rfl ?_)
   try dsimp only [Qah,Qai]
   refine hk _ _ ⟨O,?_,hs.cast ?_⟩<;>simp only [oT,lq,cq,Nat.reduceBEq,q1_,q2_,q3_]
  ·
   rintro D t w hD hp hcl ⟨O,ht,hs⟩ rest hk
   have hp:AllDone D [0]:=hp
   obtain ⟨p0_,_⟩:=hp
   have q2_:=ny hcl 2 0 hD
   have q3_:=ny hcl 3 0 q2_
   simp only [hD,p0_,q2_,q3_,cq,oT] at ht hs
   subst ht
   refine Qab (v:=pointer (some ⟨b2,0,none⟩)) rfl rfl rfl (g_d rfl ?_)
   try dsimp only [Qah,Qai]
   refine hk _ _ ⟨O,?_,hs.cast ?_⟩<;>simp only [oT,lq,cq,Nat.reduceBEq,p0_,q2_,q3_]
  ·
   rintro D t w hD hp hcl ⟨O,ht,hs⟩ rest hk
   have hp:AllDone D [1]:=hp
   obtain ⟨p1_,_⟩:=hp
   obtain ⟨p0_,_⟩:=(show D 1=true→AllDone D [0] from hcl 1 (by decide)) p1_
   have q3_:=ny hcl 3 0 hD
   simp only [hD,p0_,p1_,q3_,cq,oT] at ht hs
   subst ht
   refine Qab (v:=pointer (some ⟨b2,1,none⟩)) rfl rfl rfl (g_d rfl ?_)
   try dsimp only [Qah,Qai]
   refine hk _ _ ⟨O,?_,hs.cast ?_⟩<;>simp only [oT,lq,cq,Nat.reduceBEq,p0_,p1_,q3_]
  ·
   rintro D t w hD hp hcl ⟨O,ht,hs⟩ rest hk
   have hp:AllDone D [2]:=hp
   obtain ⟨p2_,_⟩:=hp
   obtain ⟨p1_,_⟩:=(show D 2=true→AllDone D [1] from hcl 2 (by decide)) p2_
   obtain ⟨p0_,_⟩:=(show D 1=true→AllDone D [0] from hcl 1 (by decide)) p1_
   simp only [hD,p0_,p1_,p2_,cq,oT] at ht hs
   subst ht
   refine Qaw rfl rfl (v:=int .i64 (i64w (a1.Qbf+1))) rfl rfl (fun _=>rfl) (cells_load (hs.cells 0 rfl) 1 1 rfl) (g_d rfl ?_)
   try dsimp only [Qah,Qai]
   refine hk _ _ ⟨O,?_,hs.cast ?_⟩<;>simp only [oT,lq,cq,Nat.reduceBEq,p0_,p1_,p2_]
  ·
   rintro D t w hD hp hcl ⟨O,ht,hs⟩ rest hk
   have hp:AllDone D []:=hp
   have q5_:=ny hcl 5 0 hD
   have q6_:=ny hcl 6 0 q5_
   have q7_:=ny hcl 7 0 q6_
   have q8_:=ny hcl 8 0 q7_
   simp only [hD,q5_,q6_,q7_,q8_,cq,oT] at ht hs
   subst ht
   refine Qab (v:=pointer (some ⟨b2,0,none⟩)) rfl rfl rfl (g_d rfl ?_)
   try dsimp only [Qah,Qai]
   refine hk _ _ ⟨O,?_,hs.cast ?_⟩<;>simp only [oT,lq,cq,Nat.reduceBEq,q5_,q6_,q7_,q8_]
  ·
   rintro D t w hD hp hcl ⟨O,ht,hs⟩ rest hk
   have hp:AllDone D [4]:=hp
   obtain ⟨p4_,_⟩:=hp
   have q6_:=ny hcl 6 0 hD
   have q7_:=ny hcl 7 0 q6_
   have q8_:=ny hcl 8 0 q7_
   simp only [hD,p4_,q6_,q7_,q8_,cq,oT] at ht hs
   subst ht
   refine Qab (v:=pointer (some ⟨b2,0,none⟩)) rfl rfl rfl (g_d rfl ?_)
   try dsimp only [Qah,Qai]
   refine hk _ _ ⟨O,?_,hs.cast ?_⟩<;>simp only [oT,lq,cq,Nat.reduceBEq,p4_,q6_,q7_,q8_]
  ·
   rintro D t w hD hp hcl ⟨O,ht,hs⟩ rest hk
   have hp:AllDone D [5]:=hp
   obtain ⟨p5_,_⟩:=hp
   obtain ⟨p4_,_⟩:=(show D 5=true→AllDone D [4] from hcl 5 (by decide)) p5_
   have q7_:=ny hcl 7 0 hD
   have q8_:=ny hcl 8 0 q7_
   simp only [hD,p4_,p5_,q7_,q8_,cq,oT] at ht hs
   subst ht
   refine Qab (v:=pointer (some ⟨b2,0,none⟩)) rfl rfl rfl (g_d rfl ?_)
   try dsimp only [Qah,Qai]
   refine hk _ _ ⟨O,?_,hs.cast ?_⟩<;>simp only [oT,lq,cq,Nat.reduceBEq,p4_,p5_,q7_,q8_]
  ·
   rintro D t w hD hp hcl ⟨O,ht,hs⟩ rest hk
   have hp:AllDone D [6]:=hp
   obtain ⟨p6_,_⟩:=hp
   obtain ⟨p5_,_⟩:=(show D 6=true→AllDone D [5] from hcl 6 (by decide)) p6_
   obtain ⟨p4_,_⟩:=(show D 5=true→AllDone D [4] from hcl 5 (by decide)) p5_
   have q8_:=ny hcl 8 0 hD
   simp only [hD,p4_,p5_,p6_,q8_,cq,oT] at ht hs
   subst ht
   refine Qaw rfl rfl (v:=v3) rfl rfl (fun _=>rfl) (cells_load (hs.cells 0 rfl) 0 1 rfl) (g_d rfl ?_)
   try dsimp only [Qah,Qai]
   refine hk _ _ ⟨O,?_,hs.cast ?_⟩<;>simp only [oT,lq,cq,Nat.reduceBEq,p4_,p5_,p6_,q8_]
  ·
   rintro D t w hD hp hcl ⟨O,ht,hs⟩ rest hk
   have hp:AllDone D [7]:=hp
   obtain ⟨p7_,_⟩:=hp
   obtain ⟨p6_,_⟩:=(show D 7=true→AllDone D [6] from hcl 7 (by decide)) p7_
   obtain ⟨p5_,_⟩:=(show D 6=true→AllDone D [5] from hcl 6 (by decide)) p6_
   obtain ⟨p4_,_⟩:=(show D 5=true→AllDone D [4] from hcl 5 (by decide)) p5_
   simp only [hD,p4_,p5_,p6_,p7_,cq,oT] at ht hs
   subst ht
   refine QbC (hs.rd hr4) rfl rfl rfl rfl rfl (g_d rfl ?_)
   try dsimp only [Qah,Qai]
   refine hk _ _ ⟨O,?_,hs.cast ?_⟩<;>simp only [oT,lq,cq,Nat.reduceBEq,p4_,p5_,p6_,p7_]
  intro D t w rest hall hO5_ hI
  obtain ⟨O,ht,hs⟩:=hI
  have p0_:=hall 0 (by decide) rfl
  have p1_:=hall 1 (by decide) rfl
  have p2_:=hall 2 (by decide) rfl
  have p3_:=hall 3 (by decide) rfl
  have p4_:=hall 4 (by decide) rfl
  have p5_:=hall 5 (by decide) rfl
  have p6_:=hall 6 (by decide) rfl
  have p7_:=hall 7 (by decide) rfl
  have p8_:=hall 8 (by decide) rfl
  simp only [p0_,p1_,p2_,p3_,p4_,p5_,p6_,p7_,p8_,cq,oT] at ht hs
  subst ht
  obtain ⟨rest,rfl,hO6_⟩:=ord_one (m:=511) hO5_ rfl 9 (m':=1023) (by decide+kernel) rfl
  clear hO5_
  refine QaI (B:=decide ((i64w (a1.Qbf+1))≤(a1.Qa3.length:Int))) rfl rfl rfl ?_ ?_
  ·
   intro hb
   rw [if_pos (b_dec_t hb)] at H
   refine g_d rfl ?_
   try dsimp only [Qah,Qai]
   obtain rfl:=ord_end hO6_ rfl (by decide+kernel)
   refine Qac (Qaq rfl (Qaj (Qan [0,1] rfl ?_)))
   refine Qab (v:=int .i64 x6) rfl rfl rfl (g_d rfl ?_)
   refine Qab (v:=int .i64 x6) rfl rfl rfl (g_d rfl (Qac ?_))
   obtain rfl:=QsJ H
   refine QaB Tryz.func85 (v:=int .i64 x6) (res1 rfl rfl) ?_
   have hs:=hs.pull 1 rfl
   have hs:=hs.pull 1 rfl
   have hs:St _ [_,_] _:=St.take (Γ':=[]) hs
   exact ⟨_,rfl,rfl,hs⟩
  intro hb
  rw [if_neg (b_dec_f hb)] at H
  refine g_d rfl ?_
  obtain rfl:=ord_end hO6_ rfl (by decide+kernel)
  refine Qac (Qas rfl (QaK (Qaj (Qan [0,1,2,3,4,5,6,7] rfl ?_))))
  refine Qab (v:=pointer (some ⟨b2,0,none⟩)) rfl rfl rfl (g_d rfl ?_)
  refine Qab (v:=pointer (some ⟨b2,0,none⟩)) rfl rfl rfl (g_d rfl ?_)
  refine Qab (v:=pointer (some ⟨b2,2,none⟩)) rfl rfl rfl (g_d rfl ?_)
  refine Qaw rfl rfl (v:=int .u64 (u64w ((u64w ((u64w (a1.Qa2*6364136223846793005))+(u64w x6)))+1442695040888963407))) rfl rfl (fun _=>rfl) (cells_load (hs.cells 0 rfl) 2 1 rfl) (g_d rfl ?_)
  try dsimp only [Qah,Qai]
  refine Qab (v:=int .u64 (shrI .u64 (u64w ((u64w ((u64w (a1.Qa2*6364136223846793005))+(u64w x6)))+1442695040888963407)) 40)) rfl rfl rfl (g_d rfl ?_)
  refine Qab (v:=int .u64 (bAnd .u64 (shrI .u64 (u64w ((u64w ((u64w (a1.Qa2*6364136223846793005))+(u64w x6)))+1442695040888963407)) 40) 255)) rfl rfl rfl (g_d rfl ?_)
  try dsimp only [Qah,Qai]
  refine Qab (v:=int .i64 (i64w (bAnd .u64 (shrI .u64 (u64w ((u64w ((u64w (a1.Qa2*6364136223846793005))+(u64w x6)))+1442695040888963407)) 40) 255))) rfl rfl rfl (g_d rfl ?_)
  refine Qab (v:=int .i64 (i64w (bAnd .u64 (shrI .u64 (u64w ((u64w ((u64w (a1.Qa2*6364136223846793005))+(u64w x6)))+1442695040888963407)) 40) 255))) rfl rfl rfl (g_d rfl (Qac ?_))
  obtain rfl:=QsJ H
  refine QaB Tryz.func85 (v:=int .i64 (i64w (bAnd .u64 (shrI .u64 (u64w ((u64w ((u64w (a1.Qa2*6364136223846793005))+(u64w x6)))+1442695040888963407)) 40) 255))) (res1 rfl rfl) ?_
  have hs:=hs.pull 1 rfl
  have hs:=hs.pull 1 rfl
  have hs:St _ [_,_] _:=St.take (Γ':=[]) hs
  exact ⟨_,rfl,rfl,hs⟩
 intro ha
 refine Qck (n:=10) rfl [0,1,2,3,4,5,6,7,8,9] [0,1,2,3,4,5,6,7,8,9] rfl rfl ?_
 intro rest w hh hbw hO
 have hs:=hs.samew hh hbw
 try dsimp only [Qah,Qai]
 refine QaV ?_
 intro T hT
 refine Qbb (m0:=0) hO rfl 511 [0,1,2,3,4,5,6,7,8] [0,1,3,7,0,16,48,112,240,511] (by decide+kernel) (fun D t w=>∃ O:Nat→Value,t=(pointer (some ⟨b2,0,none⟩)::O 1::int .i64 0::int .i64 0::cnd (D 0) (pointer (some ⟨b2,0,none⟩)) (O 4)::cnd (D 1) (pointer (some ⟨b2,0,none⟩)) (O 5)::cnd (D 2) (pointer (some ⟨b2,1,none⟩)) (O 6)::cnd (D 3) (int .i64 a1.Qbf) (O 7)::cnd (D 4) (pointer (some ⟨b2,0,none⟩)) (O 8)::cnd (D 5) (pointer (some ⟨b2,0,none⟩)) (O 9)::cnd (D 6) (pointer (some ⟨b2,0,none⟩)) (O 10)::cnd (D 7) v3 (O 11)::cnd (D 8) (int .i64 (a1.Qa3.length:Int)) (O 12)::O 13::O 14::O 15::O 16::O 17::O 18::O 19::oT O 2 (oT O 3 (oT O 4 (oT O 5 (O 60::O 61::[])))))∧St wb [Cells b2 (([v3,int .i64 a1.Qbf,int .u64 a1.Qa2]:List Value)) 107,Z] w) ?_ ⟨?_,⟨?_,⟨?_,⟨?_,⟨?_,⟨?_,⟨?_,⟨?_,⟨?_,trivial⟩⟩⟩⟩⟩⟩⟩⟩⟩ ?_
 ·exact ⟨fun i=>T.getD i undef,(by subst hT;rfl),hs⟩
 ·
  rintro D t w hD hp hcl ⟨O,ht,hs⟩ rest hk
  have hp:AllDone D []:=hp
  have q1_:=ny hcl 1 0 hD
  have q2_:=ny hcl 2 0 q1_
  have q3_:=ny hcl 3 0 q2_
  simp only [hD,q1_,q2_,q3_,cq,oT] at ht hs
  subst ht
  refine Qab (v:=pointer (some ⟨b2,0,none⟩)) rfl rfl rfl (g_d rfl ?_)
  try dsimp only [Qah,Qai]
  refine hk _ _ ⟨O,?_,hs.cast ?_⟩<;>simp only [oT,lq,cq,Nat.reduceBEq,q1_,q2_,q3_]
 ·
  rintro D t w hD hp hcl ⟨O,ht,hs⟩ rest hk
  have hp:AllDone D [0]:=hp
  obtain ⟨p0_,_⟩:=hp
  have q2_:=ny hcl 2 0 hD
  have q3_:=ny hcl 3 0 q2_
  simp only [hD,p0_,q2_,q3_,cq,oT] at ht hs
  subst ht
  refine Qab (v:=pointer (some ⟨b2,0,none⟩)) rfl rfl rfl (g_d rfl ?_)
  try dsimp only [Qah,Qai]
  refine hk _ _ ⟨O,?_,hs.cast ?_⟩<;>simp only [oT,lq,cq,Nat.reduceBEq,p0_,q2_,q3_]
 ·
  rintro D t w hD hp hcl ⟨O,ht,hs⟩ rest hk
  have hp:AllDone D [1]:=hp
  obtain ⟨p1_,_⟩:=hp
  obtain ⟨p0_,_⟩:=(show D 1=true→AllDone D [0] from hcl 1 (by decide)) p1_
  have q3_:=ny hcl 3 0 hD
  simp only [hD,p0_,p1_,q3_,cq,oT] at ht hs
  subst ht
  refine Qab (v:=pointer (some ⟨b2,1,none⟩)) rfl rfl rfl (g_d rfl ?_)
  try dsimp only [Qah,Qai]
  refine hk _ _ ⟨O,?_,hs.cast ?_⟩<;>simp only [oT,lq,cq,Nat.reduceBEq,p0_,p1_,q3_]
 ·
  rintro D t w hD hp hcl ⟨O,ht,hs⟩ rest hk
  have hp:AllDone D [2]:=hp
  obtain ⟨p2_,_⟩:=hp
  obtain ⟨p1_,_⟩:=(show D 2=true→AllDone D [1] from hcl 2 (by decide)) p2_
  obtain ⟨p0_,_⟩:=(show D 1=true→AllDone D [0] from hcl 1 (by decide)) p1_
  simp only [hD,p0_,p1_,p2_,cq,oT] at ht hs
  subst ht
  refine Qaw rfl rfl (v:=int .i64 a1.Qbf) rfl rfl (fun _=>rfl) (cells_load (hs.cells 0 rfl) 1 1 rfl) (g_d rfl ?_)
  try dsimp only [Qah,Qai]
  refine hk _ _ ⟨O,?_,hs.cast ?_⟩<;>simp only [oT,lq,cq,Nat.reduceBEq,p0_,p1_,p2_]
 ·
  rintro D t w hD hp hcl ⟨O,ht,hs⟩ rest hk
  have hp:AllDone D []:=hp
  have q5_:=ny hcl 5 0 hD
  have q6_:=ny hcl 6 0 q5_
  have q7_:=ny hcl 7 0 q6_
  have q8_:=ny hcl 8 0 q7_
  simp only [hD,q5_,q6_,q7_,q8_,cq,oT] at ht hs
  subst ht
  refine Qab (v:=pointer (some ⟨b2,0,none⟩)) rfl rfl rfl (g_d rfl ?_)
  try dsimp only [Qah,Qai]
  refine hk _ _ ⟨O,?_,hs.cast ?_⟩<;>simp only [oT,lq,cq,Nat.reduceBEq,q5_,q6_,q7_,q8_]
 ·
  rintro D t w hD hp hcl ⟨O,ht,hs⟩ rest hk
  have hp:AllDone D [4]:=hp
  obtain ⟨p4_,_⟩:=hp
  have q6_:=ny hcl 6 0 hD
  have q7_:=ny hcl 7 0 q6_
  have q8_:=ny hcl 8 0 q7_
  simp only [hD,p4_,q6_,q7_,q8_,cq,oT] at ht hs
  subst ht
  refine Qab (v:=pointer (some ⟨b2,0,none⟩)) rfl rfl rfl (g_d rfl ?_)
  try dsimp only [Qah,Qai]
  refine hk _ _ ⟨O,?_,hs.cast ?_⟩<;>simp only [oT,lq,cq,Nat.reduceBEq,p4_,q6_,q7_,q8_]
 ·
  rintro D t w hD hp hcl ⟨O,ht,hs⟩ rest hk
  have hp:AllDone D [5]:=hp
  obtain ⟨p5_,_⟩:=hp
  obtain ⟨p4_,_⟩:=(show D 5=true→AllDone D [4] from hcl 5 (by decide)) p5_
  have q7_:=ny hcl 7 0 hD
  have q8_:=ny hcl 8 0 q7_
  simp only [hD,p4_,p5_,q7_,q8_,cq,oT] at ht hs
  subst ht
  refine Qab (v:=pointer (some ⟨b2,0,none⟩)) rfl rfl rfl (g_d rfl ?_)
  try dsimp only [Qah,Qai]
  refine hk _ _ ⟨O,?_,hs.cast ?_⟩<;>simp only [oT,lq,cq,Nat.reduceBEq,p4_,p5_,q7_,q8_]
 ·
  rintro D t w hD hp hcl ⟨O,ht,hs⟩ rest hk
  have hp:AllDone D [6]:=hp
  obtain ⟨p6_,_⟩:=hp
  obtain ⟨p5_,_⟩:=(show D 6=true→AllDone D [5] from hcl 6 (by decide)) p6_
  obtain ⟨p4_,_⟩:=(show D 5=true→AllDone D [4] from hcl 5 (by decide)) p5_
  have q8_:=ny hcl 8 0 hD
  simp only [hD,p4_,p5_,p6_,q8_,cq,oT] at ht hs
  subst ht
  refine Qaw rfl rfl (v:=v3) rfl rfl (fun _=>rfl) (cells_load (hs.cells 0 rfl) 0 1 rfl) (g_d rfl ?_)
  try dsimp only [Qah,Qai]
  refine hk _ _ ⟨O,?_,hs.cast ?_⟩<;>simp only [oT,lq,cq,Nat.reduceBEq,p4_,p5_,p6_,q8_]
 ·
  rintro D t w hD hp hcl ⟨O,ht,hs⟩ rest hk
  have hp:AllDone D [7]:=hp
  obtain ⟨p7_,_⟩:=hp
  obtain ⟨p6_,_⟩:=(show D 7=true→AllDone D [6] from hcl 7 (by decide)) p7_
  obtain ⟨p5_,_⟩:=(show D 6=true→AllDone D [5] from hcl 6 (by decide)) p6_
  obtain ⟨p4_,_⟩:=(show D 5=true→AllDone D [4] from hcl 5 (by decide)) p5_
  simp only [hD,p4_,p5_,p6_,p7_,cq,oT] at ht hs
  subst ht
  refine QbC (hs.rd hr4) rfl rfl rfl rfl rfl (g_d rfl ?_)
  try dsimp only [Qah,Qai]
  refine hk _ _ ⟨O,?_,hs.cast ?_⟩<;>simp only [oT,lq,cq,Nat.reduceBEq,p4_,p5_,p6_,p7_]
 intro D t w rest hall hO1_ hI
 obtain ⟨O,ht,hs⟩:=hI
 have p0_:=hall 0 (by decide) rfl
 have p1_:=hall 1 (by decide) rfl
 have p2_:=hall 2 (by decide) rfl
 have p3_:=hall 3 (by decide) rfl
 have p4_:=hall 4 (by decide) rfl
 have p5_:=hall 5 (by decide) rfl
 have p6_:=hall 6 (by decide) rfl
 have p7_:=hall 7 (by decide) rfl
 have p8_:=hall 8 (by decide) rfl
 simp only [p0_,p1_,p2_,p3_,p4_,p5_,p6_,p7_,p8_,cq,oT] at ht hs
 subst ht
 obtain ⟨rest,rfl,hO2_⟩:=ord_one (m:=511) hO1_ rfl 9 (m':=1023) (by decide+kernel) rfl
 clear hO1_
 refine QaI (B:=decide (a1.Qbf< (a1.Qa3.length:Int))) rfl rfl rfl ?_ ?_
 ·
  intro hb
  rw [if_pos (b_dec_t hb)] at H
  refine g_d rfl ?_
  try dsimp only [Qah,Qai]
  obtain rfl:=ord_end hO2_ rfl (by decide+kernel)
  refine Qac (Qaq rfl ?_)
  obtain ⟨gd3,H⟩:=ite_get H
  obtain ⟨ad4_,ad4_N,ad4_C,had4_⟩:=sl_at (hs.rd hr4) gd3.1 gd3.2
  refine QaV ?_
  intro T hT
  refine QbZ (n:=12) rfl [0,1,2,3,4,5,6,7,8,9,10,11] [0,1,2,3,4,5,6,7,8,9,10,11] rfl rfl (Inv:=fun D t w=>∃ O:Nat→Value,t=(pointer (some ⟨b2,0,none⟩)::O 1::int .i64 0::cnd (D 11) (int .i64 (i64w (rdL a1.Qa3 a1.Qbf 0))) (int .i64 0)::pointer (some ⟨b2,0,none⟩)::pointer (some ⟨b2,0,none⟩)::pointer (some ⟨b2,1,none⟩)::int .i64 a1.Qbf::pointer (some ⟨b2,0,none⟩)::pointer (some ⟨b2,0,none⟩)::pointer (some ⟨b2,0,none⟩)::v3::int .i64 (a1.Qa3.length:Int)::bool true::cnd (D 0) (pointer (some ⟨b2,0,none⟩)) (O 14)::cnd (D 1) (pointer (some ⟨b2,0,none⟩)) (O 15)::cnd (D 2) (pointer (some ⟨b2,0,none⟩)) (O 16)::cnd (D 3) v3 (O 17)::cnd (D 4) (pointer (some ⟨b2,0,none⟩)) (O 18)::cnd (D 5) (pointer (some ⟨b2,0,none⟩)) (O 19)::cnd (D 6) (pointer (some ⟨b2,1,none⟩)) (O 20)::cnd (D 7) (int .i64 a1.Qbf) (O 21)::cnd (D 8) (pointer (some (ad4_.add (a1.Qbf.toNat*1)))) (O 22)::cnd (D 9) (int .u8 (rdL a1.Qa3 a1.Qbf 0)) (O 23)::cnd (D 10) (int .i64 (i64w (rdL a1.Qa3 a1.Qbf 0))) (O 24)::O 25::O 26::O 27::O 28::O 29::oT O 3 (oT O 4 (oT O 5 (O 60::O 61::[]))))∧St wb [Cells b2 (([v3,int .i64 a1.Qbf,int .u64 a1.Qa2]:List Value)) 107,Z] w) ?_ ⟨⟨⟨⟨⟨⟨⟨⟨⟨⟨⟨⟨trivial,?_⟩,?_⟩,?_⟩,?_⟩,?_⟩,?_⟩,?_⟩,?_⟩,?_⟩,?_⟩,?_⟩,?_⟩ ?_
  ·
   intro w hh hbw
   have hs:=hs.samew hh hbw
   exact ⟨fun i=>T.getD i undef,(by subst hT;rfl),hs⟩
  ·
   rintro D t w hD hp hcl ⟨O,ht,hs⟩ rest hk
   have q1_:=nz hcl 1 0 hD
   have q2_:=nz hcl 2 0 q1_
   have q3_:=nz hcl 3 0 q2_
   have q8_:=nz hcl 8 0 q3_
   have q9_:=nz hcl 9 0 q8_
   have q10_:=nz hcl 10 0 q9_
   have q11_:=nz hcl 11 0 q10_
   simp only [hD,q1_,q2_,q3_,q8_,q9_,q10_,q11_,cq,oT] at ht hs
   subst ht
   refine Qab (v:=pointer (some ⟨b2,0,none⟩)) rfl rfl rfl (g_d rfl ?_)
   try dsimp only [Qah,Qai]
   refine hk _ _ ⟨O,?_,hs.cast ?_⟩<;>simp only [oT,lq,cq,Nat.reduceBEq,q1_,q2_,q3_,q8_,q9_,q10_,q11_]
  ·
   rintro D t w hD hp hcl ⟨O,ht,hs⟩ rest hk
   obtain ⟨p0_,_⟩:=hp
   have q2_:=nz hcl 2 0 hD
   have q3_:=nz hcl 3 0 q2_
   have q8_:=nz hcl 8 0 q3_
   have q9_:=nz hcl 9 0 q8_
   have q10_:=nz hcl 10 0 q9_
   have q11_:=nz hcl 11 0 q10_
   simp only [hD,p0_,q2_,q3_,q8_,q9_,q10_,q11_,cq,oT] at ht hs
   subst ht
   refine Qab (v:=pointer (some ⟨b2,0,none⟩)) rfl rfl rfl (g_d rfl ?_)
   try dsimp only [Qah,Qai]
   refine hk _ _ ⟨O,?_,hs.cast ?_⟩<;>simp only [oT,lq,cq,Nat.reduceBEq,p0_,q2_,q3_,q8_,q9_,q10_,q11_]
  ·
   rintro D t w hD hp hcl ⟨O,ht,hs⟩ rest hk
   obtain ⟨p1_,_⟩:=hp
   obtain ⟨p0_,_⟩:=(hcl.get 1 (by decide)) p1_
   have q3_:=nz hcl 3 0 hD
   have q8_:=nz hcl 8 0 q3_
   have q9_:=nz hcl 9 0 q8_
   have q10_:=nz hcl 10 0 q9_
   have q11_:=nz hcl 11 0 q10_
   simp only [hD,p0_,p1_,q3_,q8_,q9_,q10_,q11_,cq,oT] at ht hs
   subst ht
   refine Qab (v:=pointer (some ⟨b2,0,none⟩)) rfl rfl rfl (g_d rfl ?_)
   try dsimp only [Qah,Qai]
   refine hk _ _ ⟨O,?_,hs.cast ?_⟩<;>simp only [oT,lq,cq,Nat.reduceBEq,p0_,p1_,q3_,q8_,q9_,q10_,q11_]
  ·
   rintro D t w hD hp hcl ⟨O,ht,hs⟩ rest hk
   obtain ⟨p2_,_⟩:=hp
   obtain ⟨p1_,_⟩:=(hcl.get 2 (by decide)) p2_
   obtain ⟨p0_,_⟩:=(hcl.get 1 (by decide)) p1_
   have q8_:=nz hcl 8 0 hD
   have q9_:=nz hcl 9 0 q8_
   have q10_:=nz hcl 10 0 q9_
   have q11_:=nz hcl 11 0 q10_
   simp only [hD,p0_,p1_,p2_,q8_,q9_,q10_,q11_,cq,oT] at ht hs
   subst ht
   refine Qaw rfl rfl (v:=v3) rfl rfl (fun _=>rfl) (cells_load (hs.cells 0 rfl) 0 1 rfl) (g_d rfl ?_)
   try dsimp only [Qah,Qai]
   refine hk _ _ ⟨O,?_,hs.cast ?_⟩<;>simp only [oT,lq,cq,Nat.reduceBEq,p0_,p1_,p2_,q8_,q9_,q10_,q11_]
  ·
   rintro D t w hD hp hcl ⟨O,ht,hs⟩ rest hk
   have q5_:=nz hcl 5 0 hD
   have q6_:=nz hcl 6 0 q5_
   have q7_:=nz hcl 7 0 q6_
   have q8_:=nz hcl 8 1 q7_
   have q9_:=nz hcl 9 0 q8_
   have q10_:=nz hcl 10 0 q9_
   have q11_:=nz hcl 11 0 q10_
   simp only [hD,q5_,q6_,q7_,q8_,q9_,q10_,q11_,cq,oT] at ht hs
   subst ht
   refine Qab (v:=pointer (some ⟨b2,0,none⟩)) rfl rfl rfl (g_d rfl ?_)
   try dsimp only [Qah,Qai]
   refine hk _ _ ⟨O,?_,hs.cast ?_⟩<;>simp only [oT,lq,cq,Nat.reduceBEq,q5_,q6_,q7_,q8_,q9_,q10_,q11_]
  ·
   rintro D t w hD hp hcl ⟨O,ht,hs⟩ rest hk
   obtain ⟨p4_,_⟩:=hp
   have q6_:=nz hcl 6 0 hD
   have q7_:=nz hcl 7 0 q6_
   have q8_:=nz hcl 8 1 q7_
   have q9_:=nz hcl 9 0 q8_
   have q10_:=nz hcl 10 0 q9_
   have q11_:=nz hcl 11 0 q10_
   simp only [hD,p4_,q6_,q7_,q8_,q9_,q10_,q11_,cq,oT] at ht hs
   subst ht
   refine Qab (v:=pointer (some ⟨b2,0,none⟩)) rfl rfl rfl (g_d rfl ?_)
   try dsimp only [Qah,Qai]
   refine hk _ _ ⟨O,?_,hs.cast ?_⟩<;>simp only [oT,lq,cq,Nat.reduceBEq,p4_,q6_,q7_,q8_,q9_,q10_,q11_]
  ·
   rintro D t w hD hp hcl ⟨O,ht,hs⟩ rest hk
   obtain ⟨p5_,_⟩:=hp
   obtain ⟨p4_,_⟩:=(hcl.get 5 (by decide)) p5_
   have q7_:=nz hcl 7 0 hD
   have q8_:=nz hcl 8 1 q7_
   have q9_:=nz hcl 9 0 q8_
   have q10_:=nz hcl 10 0 q9_
   have q11_:=nz hcl 11 0 q10_
   simp only [hD,p4_,p5_,q7_,q8_,q9_,q10_,q11_,cq,oT] at ht hs
   subst ht
   refine Qab (v:=pointer (some ⟨b2,1,none⟩)) rfl rfl rfl (g_d rfl ?_)
   try dsimp only [Qah,Qai]
   refine hk _ _ ⟨O,?_,hs.cast ?_⟩<;>simp only [oT,lq,cq,Nat.reduceBEq,p4_,p5_,q7_,q8_,q9_,q10_,q11_]
  ·
   rintro D t w hD hp hcl ⟨O,ht,hs⟩ rest hk
   obtain ⟨p6_,_⟩:=hp
   obtain ⟨p5_,_⟩:=(hcl.get 6 (by decide)) p6_
   obtain ⟨p4_,_⟩:=(hcl.get 5 (by decide)) p5_
   have q8_:=nz hcl 8 1 hD
   have q9_:=nz hcl 9 0 q8_
   have q10_:=nz hcl 10 0 q9_
   have q11_:=nz hcl 11 0 q10_
   simp only [hD,p4_,p5_,p6_,q8_,q9_,q10_,q11_,cq,oT] at ht hs
   subst ht
   refine Qaw rfl rfl (v:=int .i64 a1.Qbf) rfl rfl (fun _=>rfl) (cells_load (hs.cells 0 rfl) 1 1 rfl) (g_d rfl ?_)
   try dsimp only [Qah,Qai]
   refine hk _ _ ⟨O,?_,hs.cast ?_⟩<;>simp only [oT,lq,cq,Nat.reduceBEq,p4_,p5_,p6_,q8_,q9_,q10_,q11_]
  ·
   rintro D t w hD hp hcl ⟨O,ht,hs⟩ rest hk
   obtain ⟨p3_,p7_,_⟩:=hp
   obtain ⟨p6_,_⟩:=(hcl.get 7 (by decide)) p7_
   obtain ⟨p5_,_⟩:=(hcl.get 6 (by decide)) p6_
   obtain ⟨p4_,_⟩:=(hcl.get 5 (by decide)) p5_
   obtain ⟨p2_,_⟩:=(hcl.get 3 (by decide)) p3_
   obtain ⟨p1_,_⟩:=(hcl.get 2 (by decide)) p2_
   obtain ⟨p0_,_⟩:=(hcl.get 1 (by decide)) p1_
   have q9_:=nz hcl 9 0 hD
   have q10_:=nz hcl 10 0 q9_
   have q11_:=nz hcl 11 0 q10_
   simp only [hD,p0_,p1_,p2_,p3_,p4_,p5_,p6_,p7_,q9_,q10_,q11_,cq,oT] at ht hs
   subst ht
   refine QbJ (κ:=(K.int .u8)) (m:=1) rfl (hs.rd hr4) rfl (fun _=>rfl) gd3.1 gd3.2 had4_ rfl rfl rfl rfl rfl (g_d rfl ?_)
   try dsimp only [Qah,Qai]
   refine hk _ _ ⟨O,?_,hs.cast ?_⟩<;>simp only [oT,lq,cq,Nat.reduceBEq,p0_,p1_,p2_,p3_,p4_,p5_,p6_,p7_,q9_,q10_,q11_]
  ·
   rintro D t w hD hp hcl ⟨O,ht,hs⟩ rest hk
   obtain ⟨p8_,_⟩:=hp
   obtain ⟨p3_,p7_,_⟩:=(hcl.get 8 (by decide)) p8_
   obtain ⟨p6_,_⟩:=(hcl.get 7 (by decide)) p7_
   obtain ⟨p5_,_⟩:=(hcl.get 6 (by decide)) p6_
   obtain ⟨p4_,_⟩:=(hcl.get 5 (by decide)) p5_
   obtain ⟨p2_,_⟩:=(hcl.get 3 (by decide)) p3_
   obtain ⟨p1_,_⟩:=(hcl.get 2 (by decide)) p2_
   obtain ⟨p0_,_⟩:=(hcl.get 1 (by decide)) p1_
   have q10_:=nz hcl 10 0 hD
   have q11_:=nz hcl 11 0 q10_
   simp only [hD,p0_,p1_,p2_,p3_,p4_,p5_,p6_,p7_,p8_,q10_,q11_,cq,oT] at ht hs
   subst ht
   refine Qaw rfl rfl (v:=int .u8 (rdL a1.Qa3 a1.Qbf 0)) rfl rfl (fun _=>rfl) (cellsAt_of (fkI .u8) 0 (hs.rd hr4) had4_ gd3.1 gd3.2) (g_d rfl ?_)
   try dsimp only [Qah,Qai]
   refine hk _ _ ⟨O,?_,hs.cast ?_⟩<;>simp only [oT,lq,cq,Nat.reduceBEq,p0_,p1_,p2_,p3_,p4_,p5_,p6_,p7_,p8_,q10_,q11_]
  ·
   rintro D t w hD hp hcl ⟨O,ht,hs⟩ rest hk
   obtain ⟨p9_,_⟩:=hp
   obtain ⟨p8_,_⟩:=(hcl.get 9 (by decide)) p9_
   obtain ⟨p3_,p7_,_⟩:=(hcl.get 8 (by decide)) p8_
   obtain ⟨p6_,_⟩:=(hcl.get 7 (by decide)) p7_
   obtain ⟨p5_,_⟩:=(hcl.get 6 (by decide)) p6_
   obtain ⟨p4_,_⟩:=(hcl.get 5 (by decide)) p5_
   obtain ⟨p2_,_⟩:=(hcl.get 3 (by decide)) p3_
   obtain ⟨p1_,_⟩:=(hcl.get 2 (by decide)) p2_
   obtain ⟨p0_,_⟩:=(hcl.get 1 (by decide)) p1_
   have q11_:=nz hcl 11 0 hD
   simp only [hD,p0_,p1_,p2_,p3_,p4_,p5_,p6_,p7_,p8_,p9_,q11_,cq,oT] at ht hs
   subst ht
   refine Qab (v:=int .i64 (i64w (rdL a1.Qa3 a1.Qbf 0))) rfl rfl rfl (g_d rfl ?_)
   try dsimp only [Qah,Qai]
   refine hk _ _ ⟨O,?_,hs.cast ?_⟩<;>simp only [oT,lq,cq,Nat.reduceBEq,p0_,p1_,p2_,p3_,p4_,p5_,p6_,p7_,p8_,p9_,q11_]
  ·
   rintro D t w hD hp hcl ⟨O,ht,hs⟩ rest hk
   obtain ⟨p10_,p0_,p1_,p2_,p3_,p4_,p5_,p6_,p7_,p8_,p9_,_,_⟩:=hp
   simp only [hD,p0_,p1_,p2_,p3_,p4_,p5_,p6_,p7_,p8_,p9_,p10_,cq,oT] at ht hs
   subst ht
   refine Qab (v:=int .i64 (i64w (rdL a1.Qa3 a1.Qbf 0))) rfl rfl rfl (g_d rfl ?_)
   try dsimp only [Qah,Qai]
   refine hk _ _ ⟨O,?_,hs.cast ?_⟩<;>simp only [oT,lq,cq,Nat.reduceBEq,p0_,p1_,p2_,p3_,p4_,p5_,p6_,p7_,p8_,p9_,p10_]
  intro D t w hall hI
  obtain ⟨O,ht,hs⟩:=hI
  have p0_:=hall 0 (by decide)
  have p1_:=hall 1 (by decide)
  have p2_:=hall 2 (by decide)
  have p3_:=hall 3 (by decide)
  have p4_:=hall 4 (by decide)
  have p5_:=hall 5 (by decide)
  have p6_:=hall 6 (by decide)
  have p7_:=hall 7 (by decide)
  have p8_:=hall 8 (by decide)
  have p9_:=hall 9 (by decide)
  have p10_:=hall 10 (by decide)
  have p11_:=hall 11 (by decide)
  simp only [p0_,p1_,p2_,p3_,p4_,p5_,p6_,p7_,p8_,p9_,p10_,p11_,cq,oT] at ht hs
  subst ht
  have hs:=hs.pull 1 rfl
  have hs:=hs.pull 1 rfl
  have hs:St _ [_,_] _:=St.take (Γ':=[]) hs
  exact ha _ _ ⟨i64w (rdL a1.Qa3 a1.Qbf 0),H,rfl,hs⟩
 intro hb
 rw [if_neg (b_dec_f hb)] at H
 refine g_d rfl ?_
 obtain rfl:=ord_end hO2_ rfl (by decide+kernel)
 refine Qac (Qas rfl (QaK ?_))
 have hs:=hs.pull 1 rfl
 have hs:=hs.pull 1 rfl
 have hs:St _ [_,_] _:=St.take (Γ':=[]) hs
 exact ha _ _ ⟨0,H,rfl,hs⟩
def QaS.post (wb:World) (Z:As) (b2:Nat) (v3:Value) (r:(Int×QaH)) (v:Value) (w:World):Prop:=v=int .i64 r.1∧St wb [Cells b2 (([v3,int .i64 r.2.Qbf,int .u64 r.2.Qa2]:List Value)) 107,Z] w
theorem QaS.calls {N:Nat} {a1:QaH} {a6:Int} {b2:Nat} {v3:Value} {wb:World} {Z:As} {w0:World} {r:(Int×QaH)} (hs:St wb [Cells b2 (([v3,int .i64 a1.Qbf,int .u64 a1.Qa2]:List Value)) 107,Z] w0) (hr4:RdRow (K.int .u8) wb v3 a1.Qa3) (H:QaS.f N a1 a6=some r):
 Calls Tryz.prog 62 #[pointer (some ⟨b2,0,none⟩),int .i64 a6] w0 fun e w=>∃ v,e= .returned v∧QaS.post wb Z b2 v3 r v w:=by
 unfold QaS.f at H
 refine calls_of_g (n:=18) Tryz.func62 rfl rfl ?_
 show G _ _ _ _ [_,_,_,_,_,_,_,_,_,_,_,_,_,_,_,_,_,_,_,_] _
 refine Qaj (Qan [0] rfl ?_)
 refine Qab (v:=int .i64 0) rfl rfl rfl ?_
 show G _ _ _ _ [_,_,_,_,_,_,_,_,_,_,_,_,_,_,_,_,_,_,_,_] _
 refine Qac (Qaj (Qaj (Qan [0,1] rfl ?_)))
 refine Qab (v:=int .i64 a6) rfl rfl rfl ?_
 refine QaI (B:=decide (a6≤1)) rfl rfl rfl ?_ ?_
 ·
  intro hb
  rw [if_pos (b_dec_t hb)] at H
  refine Qac (Qaq rfl (Qaj (Qan [0] rfl ?_)))
  refine Qab (v:=int .i64 0) rfl rfl rfl (Qac ?_)
  obtain rfl:=QsJ H
  refine QaB Tryz.func62 (v:=int .i64 0) (res1 rfl rfl) ?_
  have hs:=hs.pull 1 rfl
  have hs:=hs.pull 1 rfl
  have hs:St _ [_,_] _:=St.take (Γ':=[]) hs
  exact ⟨_,rfl,rfl,hs⟩
 intro hb
 rw [if_neg (b_dec_f hb)] at H
 refine Qac (Qas rfl (QaK (Qaj (Qan [0,1,2] rfl ?_))))
 refine Qab (v:=pointer (some ⟨b2,0,none⟩)) rfl rfl rfl ?_
 show G _ _ _ _ [_,_,_,_,_,_,_,_,_,_,_,_,_,_,_,_,_,_,_,_] _
 obtain ⟨r7,Hr7,H⟩:=bind_get H
 have hs:St _ [_,_] _:=hs.pull 0 rfl
 have hs:=hs.pack 1
 refine Qaz (args:=[pointer (some ⟨b2,0,none⟩)]) rfl rfl (QaA rfl (callFunc_enter Tryz.func85 rfl rfl) rfl) (Qbl.calls (a1:=(⟨a1.Qa3,a1.Qbf,a1.Qa2⟩:QaH)) hs hr4 Hr7) ?_
 rintro _ w ⟨rfl,hs⟩
 have hs:=St.unpack (Γ:=[_]) hs
 have hs:St _ [_,_] _:=hs
 refine Qab (v:=int .i64 r7.1) rfl rfl rfl (Qac (Qaj (Qaj (Qan [0,1] rfl ?_))))
 refine Qab (v:=int .i64 a6) rfl rfl rfl ?_
 show G _ _ _ _ [_,_,_,_,_,_,_,_,_,_,_,_,_,_,_,_,_,_,_,_] _
 refine QaI (B:=decide (a6>200)) rfl rfl rfl ?_ ?_
 ·
  intro hb
  rw [if_pos (b_dec_t hb)] at H
  refine Qac (Qaq rfl (Qan [0,1,2,3,4,5] rfl ?_))
  refine Qab (v:=int .i64 r7.1) rfl rfl rfl ?_
  refine Qab (v:=int .i64 (i64w (r7.1*256))) rfl rfl rfl ?_
  show G _ _ _ _ [_,_,_,_,_,_,_,_,_,_,_,_,_,_,_,_,_,_,_,_] _
  refine Qab (v:=pointer (some ⟨b2,0,none⟩)) rfl rfl rfl ?_
  obtain ⟨r8,Hr8,H⟩:=bind_get H
  have hs:St _ [_,_] _:=hs.pull 0 rfl
  have hs:=hs.pack 1
  refine Qaz (args:=[pointer (some ⟨b2,0,none⟩)]) rfl rfl (QaA rfl (callFunc_enter Tryz.func85 rfl rfl) rfl) (Qbl.calls (a1:=(⟨a1.Qa3,r7.2.Qbf,r7.2.Qa2⟩:QaH)) hs hr4 Hr8) ?_
  rintro _ w ⟨rfl,hs⟩
  have hs:=St.unpack (Γ:=[_]) hs
  have hs:St _ [_,_] _:=hs
  refine Qab (v:=int .i64 (i64w ((i64w (r7.1*256))+r8.1))) rfl rfl rfl ?_
  show G _ _ _ _ [_,_,_,_,_,_,_,_,_,_,_,_,_,_,_,_,_,_,_,_] _
  refine Qab (v:=int .i64 (i64w ((i64w (r7.1*256))+r8.1))) rfl rfl rfl (Qac (Qaj (Qan [0,1,2,3] rfl ?_)))
  refine Qab (v:=int .i64 (i64w ((i64w (r7.1*256))+r8.1))) rfl rfl rfl ?_
  refine Qab (v:=int .i64 a6) rfl rfl rfl ?_
  show G _ _ _ _ [_,_,_,_,_,_,_,_,_,_,_,_,_,_,_,_,_,_,_,_] _
  obtain ⟨g1,H⟩:=ite_get H
  refine Qab (v:=int .i64 ((i64w ((i64w (r7.1*256))+r8.1)).tmod a6)) rfl rfl (QcE rfl rfl rfl g1) ?_
  refine Qab (v:=int .i64 ((i64w ((i64w (r7.1*256))+r8.1)).tmod a6)) rfl rfl rfl (Qac ?_)
  obtain rfl:=QsJ H
  refine QaB Tryz.func62 (v:=int .i64 ((i64w ((i64w (r7.1*256))+r8.1)).tmod a6)) (res1 rfl rfl) ?_
  have hs:=hs.pull 1 rfl
  have hs:=hs.pull 1 rfl
  have hs:St _ [_,_] _:=St.take (Γ':=[]) hs
  exact ⟨_,rfl,rfl,hs⟩
 intro hb
 rw [if_neg (b_dec_f hb)] at H
 refine Qac (Qas rfl (QaK (Qaj (Qan [0,1,2,3] rfl ?_))))
 refine Qab (v:=int .i64 r7.1) rfl rfl rfl ?_
 refine Qab (v:=int .i64 a6) rfl rfl rfl ?_
 show G _ _ _ _ [_,_,_,_,_,_,_,_,_,_,_,_,_,_,_,_,_,_,_,_] _
 obtain ⟨g2,H⟩:=ite_get H
 refine Qab (v:=int .i64 (r7.1.tmod a6)) rfl rfl (QcE rfl rfl rfl g2) ?_
 refine Qab (v:=int .i64 (r7.1.tmod a6)) rfl rfl rfl (Qac ?_)
 obtain rfl:=QsJ H
 refine QaB Tryz.func62 (v:=int .i64 (r7.1.tmod a6)) (res1 rfl rfl) ?_
 have hs:=hs.pull 1 rfl
 have hs:=hs.pull 1 rfl
 have hs:St _ [_,_] _:=St.take (Γ':=[]) hs
 exact ⟨_,rfl,rfl,hs⟩
def QbT.post (wb:World) (Z:As) (b2:Nat) (v3:Value) (r:(Bool×QaH)) (v:Value) (w:World):Prop:=v=bool r.1∧St wb [Cells b2 (([v3,int .i64 r.2.Qbf,int .u64 r.2.Qa2]:List Value)) 107,Z] w
theorem QbT.calls {N:Nat} {a1:QaH} {a6:Int} {b2:Nat} {v3:Value} {wb:World} {Z:As} {w0:World} {r:(Bool×QaH)} (hs:St wb [Cells b2 (([v3,int .i64 a1.Qbf,int .u64 a1.Qa2]:List Value)) 107,Z] w0) (hr4:RdRow (K.int .u8) wb v3 a1.Qa3) (H:QbT.f N a1 a6=some r):
 Calls Tryz.prog 63 #[pointer (some ⟨b2,0,none⟩),int .i64 a6] w0 fun e w=>∃ v,e= .returned v∧QbT.post wb Z b2 v3 r v w:=by
 unfold QbT.f at H
 refine calls_of_g (n:=7) Tryz.func63 rfl rfl ?_
 show G _ _ _ _ [_,_,_,_,_,_,_,_,_] _
 refine Qaj (Qan [0] rfl ?_)
 refine Qab (v:=bool false) rfl rfl rfl ?_
 show G _ _ _ _ [_,_,_,_,_,_,_,_,_] _
 refine Qac (Qaj (Qan [0,1,2,3,4] rfl ?_))
 refine Qab (v:=pointer (some ⟨b2,0,none⟩)) rfl rfl rfl ?_
 refine Qab (v:=int .i64 a6) rfl rfl rfl ?_
 obtain ⟨r7,Hr7,H⟩:=bind_get H
 have hs:St _ [_,_] _:=hs.pull 0 rfl
 have hs:=hs.pack 1
 refine Qaz (args:=[pointer (some ⟨b2,0,none⟩),int .i64 a6]) rfl rfl (QaA rfl (callFunc_enter Tryz.func62 rfl rfl) rfl) (QaS.calls (a1:=(⟨a1.Qa3,a1.Qbf,a1.Qa2⟩:QaH)) (a6:=a6) hs hr4 Hr7) ?_
 rintro _ w ⟨rfl,hs⟩
 have hs:=St.unpack (Γ:=[_]) hs
 have hs:St _ [_,_] _:=hs
 show G _ _ _ _ [_,_,_,_,_,_,_,_,_] _
 refine Qab (v:=bool (r7.1==0)) rfl rfl rfl ?_
 refine Qab (v:=bool (r7.1==0)) rfl rfl rfl (Qac ?_)
 obtain rfl:=QsJ H
 refine QaB Tryz.func63 (v:=bool (r7.1==0)) (res1 rfl rfl) ?_
 have hs:=hs.pull 1 rfl
 have hs:=hs.pull 1 rfl
 have hs:St _ [_,_] _:=St.take (Γ':=[]) hs
 exact ⟨_,rfl,rfl,hs⟩
end Go.Proofs.YtblbfnngmeoipaaGreatDoorX
