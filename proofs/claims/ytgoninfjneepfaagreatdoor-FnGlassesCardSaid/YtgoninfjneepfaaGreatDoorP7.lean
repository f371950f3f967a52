import Derived.Test.YtgoninfjneepfaaGreatDoorP5
import Derived.Test.YtgoninfjneepfaaGreatDoorP6
namespace Go.Proofs.YtgoninfjneepfaaGreatDoorX
open Go Go.RowKit Go.Proofs
open Go.Value (int pointer bool agg slice string tuple)
set_option maxHeartbeats 8000000
set_option maxRecDepth 100000
set_option linter.unusedVariables false
set_option linter.unusedSimpArgs false
theorem QbQ:Tryz.prog.eqGuardType Tryz.prog.depth 28=false:=by kernel_rfl
theorem QbR (a b:Ar Int 4) (w:World):(Op.equal 28 (.agg (encA (encI .i16) a).toArray) (.agg (encA (encI .i16) b).toArray)).run Tryz.prog w= .ok (decide (a=b)) w:=by
 obtain ⟨a0,a1,a2,a3,rfl⟩:=ar4 a
 obtain ⟨b0,b1,b2,b3,rfl⟩:=ar4 b
 have q:=equalIn_arr4 (w:=w) (d:=9998) (xs:=#[int .i16 a0,int .i16 a1,int .i16 a2,int .i16 a3]) (ys:=#[int .i16 b0,int .i16 b1,int .i16 b2,int .i16 b3]) Tryz.underlying28 (by rfl) Tryz.underlying26 (by kernel_rfl) rfl rfl rfl rfl rfl rfl rfl rfl
 refine Eq.trans q ?_
 congr 1
 rw [Bool.eq_iff_iff,decide_eq_true_eq]
 simp [Ar.mk.injEq,and_assoc]
theorem QbT:KeyOk Tryz.prog 28 (ekA (n:=4) .i16) where
 desc:=⟨_,Tryz.underlying28, .inl fun _ _=>rfl⟩
 eq:=fun a b w=>QbR a b w
 check:=fun a b w=>by
  obtain ⟨a0,a1,a2,a3,rfl⟩:=ar4 a
  exact check_arr4 (n:=9998) Tryz.underlying28 Tryz.underlying26 rfl rfl rfl rfl rfl
 same:=fun a=>by
  obtain ⟨a0,a1,a2,a3,rfl⟩:=ar4 a
  show Instr.sameBits 10000 (.agg #[int .i16 a0,int .i16 a1,int .i16 a2,int .i16 a3]) (.agg #[int .i16 a0,int .i16 a1,int .i16 a2,int .i16 a3])=true
  simp [Instr.sameBits]
def QbC.post (w0:World) (r:Bool) (v:Value) (w:World):Prop:=v=bool r∧St w0 [] w
theorem QbC.calls {N:Nat} {a1:(List Int)} {a3:(List Int)} {v2:Value} {v4:Value} {w0:World} {r:Bool} (hr0:RdRow (K.int .u8) w0 v2 a1) (hr1:RdRow (K.int .u8) w0 v4 a3) (H:QbC.f N a1 a3=some r):
 Calls Tryz.prog 4 #[v2,v4] w0 fun e w=>∃ v,e= .returned v∧QbC.post w0 r v w:=by
 unfold QbC.f at H
 have hs:St w0 [] w0:=St.refl w0
 refine calls_of_g (n:=11) Tryz.func4 rfl rfl ?_
 show G _ _ _ _ [_,_,_,_,_,_,_,_,_,_,_,_,_] _
 refine Qad (Qag [0] rfl ?_)
 refine Qaa (v:=bool false) rfl rfl rfl (Qab (Qad (Qag [0,1,2,3,4,5,6,7,8] rfl ?_)))
 refine Qaa (v:=v2) rfl rfl rfl ?_
 show G _ _ _ _ [_,_,_,_,_,_,_,_,_,_,_,_,_] _
 refine Qbc (hs.rd hr0) rfl rfl rfl rfl rfl ?_
 refine Qap (B:=decide ((a1.length:Int)>3000)) rfl rfl rfl ?_ ?_
 ·
  intro hb
  rw [if_pos (b_dec_t hb)] at H
  show G _ _ _ _ [_,_,_,_,_,_,_,_,_,_,_,_,_] _
  refine Qaa (v:=bool true) rfl rfl rfl (Qac rfl rfl (Qac rfl rfl ?_))
  show G _ _ _ _ [_,_,_,_,_,_,_,_,_,_,_,_,_] _
  refine Qac rfl rfl ?_
  refine Qaa (v:=bool true) rfl rfl rfl ?_
  refine Qaa (v:=bool true) rfl rfl rfl ?_
  show G _ _ _ _ [_,_,_,_,_,_,_,_,_,_,_,_,_] _
  refine Qab ?_
  obtain rfl:=QsJ H
  refine Qas Tryz.func4 (v:=bool true) (res1 rfl rfl) ?_
  have hs:St _ [] _:=St.take (Γ':=[]) hs
  exact ⟨_,rfl,rfl,hs⟩
 intro hb
 rw [if_neg (b_dec_f hb)] at H
 refine Qaa (v:=bool false) rfl rfl rfl ?_
 show G _ _ _ _ [_,_,_,_,_,_,_,_,_,_,_,_,_] _
 refine Qaa (v:=v4) rfl rfl rfl ?_
 refine Qbc (hs.rd hr1) rfl rfl rfl rfl rfl ?_
 refine Qaa (v:=bool (decide ((a3.length:Int)>3000))) rfl rfl rfl ?_
 show G _ _ _ _ [_,_,_,_,_,_,_,_,_,_,_,_,_] _
 refine Qaa (v:=bool (decide ((a3.length:Int)>3000))) rfl rfl rfl ?_
 refine Qaa (v:=bool (decide ((a3.length:Int)>3000))) rfl rfl rfl (Qab ?_)
 obtain rfl:=QsJ H
 refine Qas Tryz.func4 (v:=bool (decide ((a3.length:Int)>3000))) (res1 rfl rfl) ?_
 have hs:St _ [] _:=St.take (Γ':=[]) hs
 exact ⟨_,rfl,rfl,hs⟩
def QbJ.post (w0:World) (v2:Value) (r:Qaq) (v:Value) (w:World):Prop:=∃ b1:Nat,v=pointer (some ⟨b1,0,none⟩)∧St w0 [Cells b1 (([v2,int .i64 r.Qa0,int .u64 r.QaV]:List Value)) 81] w
theorem QbJ.calls {N:Nat} {a1:(List Int)} {v2:Value} {w0:World} {r:Qaq} (hr0:RdRow (K.int .u8) w0 v2 a1) (H:QbJ.f N a1=some r):
 Calls Tryz.prog 23 #[v2] w0 fun e w=>∃ v,e= .returned v∧QbJ.post w0 v2 r v w:=by
 unfold QbJ.f at H
 have hs:St w0 [] w0:=St.refl w0
 refine calls_of_g (n:=5) Tryz.func23 rfl rfl ?_
 show G _ _ _ _ [_,_,_,_,_,_] _
 refine Qad (Qag [0] rfl ?_)
 refine Qaa (v:=pointer none) rfl rfl rfl (Qab (Qad (Qag [0,1,2,3] rfl ?_)))
 refine Qaa (v:=v2) rfl rfl rfl ?_
 show G _ _ _ _ [_,_,_,_,_,_] _
 refine Qaa (v:=agg (([v2,int .i64 0,int .u64 0]:List Value)).toArray) rfl rfl (QbW (cs:=(([v2,int .i64 0,int .u64 0]:List Value))) (segs:=[[slice none 0 0],[int .i64 0],[int .u64 0]]) rfl rfl (fun _=>rfl) ⟨rfl,(fun _=>rfl),rfl,(fun _=>rfl),rfl,(fun _=>rfl),trivial⟩ (by simp only [List.map_cons,List.map_nil,List.forall_mem_cons,List.not_mem_nil,false_implies,implies_true,and_true];exact ⟨_,rfl,slSize (hs.rd hr0)⟩) (by first|rfl|(simp [ev,encA,slCells (hs.rd hr0)];done)|(simp [ev,encA,slCells (hs.rd hr0)];rfl))) ?_
 refine Qbq hs rfl rfl (cs:=(([v2,int .i64 0,int .u64 0]:List Value))) rfl rfl ?_
 intro b3 w hs
 refine Qaa (v:=pointer (some ⟨b3,0,none⟩)) rfl rfl rfl ?_
 show G _ _ _ _ [_,_,_,_,_,_] _
 refine Qab ?_
 obtain rfl:=QsJ H
 refine Qas Tryz.func23 (v:=pointer (some ⟨b3,0,none⟩)) (res1 rfl rfl) ?_
 have hs:=hs.pull 0 rfl
 have hs:St _ [_] _:=St.take (Γ':=[]) hs
 exact ⟨_,rfl,b3,rfl,hs⟩
def QaZ.post (wb:World) (Z:As) (b2:Nat) (v3:Value) (r:(Int×Qaq)) (v:Value) (w:World):Prop:=v=int .i64 r.1∧St wb [Cells b2 (([v3,int .i64 r.2.Qa0,int .u64 r.2.QaV]:List Value)) 81,Z] w
theorem QaZ.calls {N:Nat} {a1:Qaq} {b2:Nat} {v3:Value} {wb:World} {Z:As} {w0:World} {r:(Int×Qaq)} (hs:St wb [Cells b2 (([v3,int .i64 a1.Qa0,int .u64 a1.QaV]:List Value)) 81,Z] w0) (hr4:RdRow (K.int .u8) wb v3 a1.QaX) (H:QaZ.f N a1=some r):
 Calls Tryz.prog 64 #[pointer (some ⟨b2,0,none⟩)] w0 fun e w=>∃ v,e= .returned v∧QaZ.post wb Z b2 v3 r v w:=by
 unfold QaZ.f at H
 refine calls_of_g (n:=61) Tryz.func64 rfl rfl ?_
 show G _ _ _ _ (_::_::_::_::_::_::_::_::_::_::_::_::_::_::_::_::_::_::_::_::_::_::_::_::_::_::_::_::_::_::_::_::_::_::_::_::_::_::_::_::_::_::_::_::_::_::_::_::_::_::_::_::_::_::_::_::_::_::_::_::_::_::[]) _
 refine Qad (Qag [0] rfl ?_)
 refine Qaa (v:=int .i64 0) rfl rfl rfl (g_d rfl (Qab (Qad (Qag [0] rfl ?_))))
 refine Qaa (v:=int .i64 0) rfl rfl rfl (g_d rfl ?_)
 try dsimp only [Qae,Qaf]
 refine Qab (Qad (Qad ?_))
 refine Qb1 (J:=(fun t w=>∃ x6:Int,QaZ.j0 N a1 x6=some r∧Fr t (fun O=>(pointer (some ⟨b2,0,none⟩)::O 1::O 2::int .i64 x6::O 4::O 5::O 6::O 7::O 8::O 9::oT O 1 (oT O 2 (oT O 3 (oT O 4 (oT O 5 (O 60::O 61::[]))))):List Value))∧St wb [Cells b2 (([v3,int .i64 a1.Qa0,int .u64 a1.QaV]:List Value)) 81,Z] w)) ?_ ?_
 ·
  rintro t w ⟨x6,H,hf,hs⟩
  obtain ⟨O,rfl⟩:=hf.open
  try dsimp only [oT]
  unfold QaZ.j0 at H
  refine Qad (Qag [0,1,2,3,4,5,6,7] rfl ?_)
  refine Qaa (v:=pointer (some ⟨b2,0,none⟩)) rfl rfl rfl (g_d rfl ?_)
  refine Qaa (v:=pointer (some ⟨b2,0,none⟩)) rfl rfl rfl (g_d rfl ?_)
  refine Qaa (v:=pointer (some ⟨b2,1,none⟩)) rfl rfl rfl (g_d rfl ?_)
  refine Qat rfl rfl (v:=int .i64 a1.Qa0) rfl rfl (fun _=>rfl) (cells_load (hs.cells 0 rfl) 1 1 rfl) (g_d rfl ?_)
  refine Qaa (v:=int .i64 (i64w (a1.Qa0+1))) rfl rfl rfl (g_d rfl ?_)
  try dsimp only [Qae,Qaf]
  refine Qaa (v:=pointer (some ⟨b2,0,none⟩)) rfl rfl rfl (g_d rfl ?_)
  refine Qaa (v:=pointer (some ⟨b2,1,none⟩)) rfl rfl rfl (g_d rfl ?_)
  refine Qb3 hs rfl rfl (vs:=((encI .i64) (i64w (a1.Qa0+1)))) (cs':=(([v3,int .i64 (i64w (a1.Qa0+1)),int .u64 a1.QaV]:List Value))) rfl rfl rfl (n:=1) (fun _=>rfl) ((fkI .i64).len _) (by first|exact Nat.le_of_ble_eq_true rfl|simp [encAI_len,encAB_len,encA_len]) ((fkI .i64).one _) rfl ?_
  intro w hs
  refine g_n rfl (Qab (Qad (Qag [0,1,2,3,4,5,6,7,8,9,10,11,12] rfl ?_)))
  refine Qaa (v:=pointer (some ⟨b2,0,none⟩)) rfl rfl rfl (g_d rfl ?_)
  refine Qaa (v:=pointer (some ⟨b2,0,none⟩)) rfl rfl rfl (g_d rfl ?_)
  refine Qaa (v:=pointer (some ⟨b2,0,none⟩)) rfl rfl rfl (g_d rfl ?_)
  refine Qaa (v:=pointer (some ⟨b2,2,none⟩)) rfl rfl rfl (g_d rfl ?_)
  refine Qat rfl rfl (v:=int .u64 a1.QaV) rfl rfl (fun _=>rfl) (cells_load (hs.cells 0 rfl) 2 1 rfl) (g_d rfl ?_)
  refine Qaa (v:=int .u64 (u64w (a1.QaV*6364136223846793005))) rfl rfl rfl (g_d rfl ?_)
  try dsimp only [Qae,Qaf]
  refine Qaa (v:=int .i64 x6) rfl rfl rfl (g_d rfl ?_)
  refine Qaa (v:=int .u64 (u64w x6)) rfl rfl rfl (g_d rfl ?_)
  refine Qaa (v:=int .u64 (u64w ((u64w (a1.QaV*6364136223846793005))+(u64w x6)))) rfl rfl rfl (g_d rfl ?_)
  refine Qaa (v:=int .u64 (u64w ((u64w ((u64w (a1.QaV*6364136223846793005))+(u64w x6)))+1442695040888963407))) rfl rfl rfl (g_d rfl ?_)
  try dsimp only [Qae,Qaf]
  refine Qaa (v:=pointer (some ⟨b2,0,none⟩)) rfl rfl rfl (g_d rfl ?_)
  refine Qaa (v:=pointer (some ⟨b2,2,none⟩)) rfl rfl rfl (g_d rfl ?_)
  refine Qb3 hs rfl rfl (vs:=((encI .u64) (u64w ((u64w ((u64w (a1.QaV*6364136223846793005))+(u64w x6)))+1442695040888963407)))) (cs':=(([v3,int .i64 (i64w (a1.Qa0+1)),int .u64 (u64w ((u64w ((u64w (a1.QaV*6364136223846793005))+(u64w x6)))+1442695040888963407))]:List Value))) rfl rfl rfl (n:=1) (fun _=>rfl) ((fkI .u64).len _) (by first|exact Nat.le_of_ble_eq_true rfl|simp [encAI_len,encAB_len,encA_len]) ((fkI .u64).one _) rfl ?_
  intro w hs
  refine g_n rfl (Qab (Qad (Qad ?_)))
  refine Qb2 (n:=10) rfl [0,1,2,3,4,5,6,7,8,9] [0,1,2,3,4,5,6,7,8,9] rfl rfl ?_
  intro rest w hh hbw hO
  have hs:=hs.samew hh hbw
  try dsimp only [Qae,Qaf]
  refine Qbe ?_
  intro T hT
  refine QbB (m0:=0) hO rfl 511 [0,1,2,3,4,5,6,7,8] [0,1,3,7,0,16,48,112,240,511] (by decide+kernel) (fun D t w=>∃ O:Nat→Value,t=(pointer (some ⟨b2,0,none⟩)::O 1::O 2::int .i64 x6::O 4::O 5::O 6::O 7::O 8::O 9::oT O 1 (O 20::O 21::O 22::O 23::O 24::pointer (some ⟨b2,0,none⟩)::pointer (some ⟨b2,0,none⟩)::pointer (some ⟨b2,1,none⟩)::int .i64 a1.Qa0::int .i64 (i64w (a1.Qa0+1))::pointer (some ⟨b2,0,none⟩)::pointer (some ⟨b2,1,none⟩)::pointer (some ⟨b2,0,none⟩)::pointer (some ⟨b2,0,none⟩)::pointer (some ⟨b2,0,none⟩)::pointer (some ⟨b2,2,none⟩)::int .u64 a1.QaV::int .u64 (u64w (a1.QaV*6364136223846793005))::int .i64 x6::int .u64 (u64w x6)::int .u64 (u64w ((u64w (a1.QaV*6364136223846793005))+(u64w x6)))::int .u64 (u64w ((u64w ((u64w (a1.QaV*6364136223846793005))+(u64w x6)))+1442695040888963407))::pointer (some ⟨b2,0,none⟩)::pointer (some ⟨b2,2,none⟩)::cnd (D 0) (pointer (some ⟨b2,0,none⟩)) (O 44)::cnd (D 1) (pointer (some ⟨b2,0,none⟩)) (O 45)::cnd (D 2) (pointer (some ⟨b2,1,none⟩)) (O 46)::cnd (D 3) (int .i64 (i64w (a1.Qa0+1))) (O 47)::cnd (D 4) (pointer (some ⟨b2,0,none⟩)) (O 48)::cnd (D 5) (pointer (some ⟨b2,0,none⟩)) (O 49)::cnd (D 6) (pointer (some ⟨b2,0,none⟩)) (O 50)::cnd (D 7) v3 (O 51)::cnd (D 8) (int .i64 (a1.QaX.length:Int)) (O 52)::O 53::O 54::O 55::O 56::O 57::O 58::O 59::O 60::O 61::[]))∧St wb [Cells b2 (([v3,int .i64 (i64w (a1.Qa0+1)),int .u64 (u64w ((u64w ((u64w (a1.QaV*6364136223846793005))+(u64w x6)))+1442695040888963407))]:List Value)) 81,Z] w) ?_ ⟨?_,⟨?_,⟨?_,⟨?_,⟨?_,⟨?_,⟨?_,⟨?_,⟨?_,trivial⟩⟩⟩⟩⟩⟩⟩⟩⟩ ?_
  ·exact ⟨fun i=>T.getD i undef,(by subst hT;rfl),hs⟩
  ·
   rintro D t w hD hp hcl ⟨O,ht,hs⟩ rest hk
   have hp:AllDone D []:=hp
   have q1_:=ny hcl 1 0 hD
   have q2_:=ny hcl 2 0 q1_
   have q3_:=ny hcl 3 0 q2_
   simp only [hD,q1_,q2_,q3_,cq,oT] at ht hs
   subst ht
   refine Qaa (v:=pointer (some ⟨b2,0,none⟩)) rfl rfl rfl (g_d rfl ?_)
   try dsimp only [Qae,Qaf]
   refine hk _ _ ⟨O,?_,hs.cast ?_⟩<;>simp only [oT,lq,cq,Nat.reduceBEq,q1_,q2_,q3_]
  ·
   rintro D t w hD hp hcl ⟨O,ht,hs⟩ rest hk
   have hp:AllDone D [0]:=hp
   obtain ⟨p0_,_⟩:=hp
   have q2_:=ny hcl 2 0 hD
   have q3_:=ny hcl 3 0 q2_
   simp only [hD,p0_,q2_,q3_,cq,oT] at ht hs
   subst ht
   refine Qaa (v:=pointer (some ⟨b2,0,none⟩)) rfl rfl rfl (g_d rfl ?_)
   try dsimp only [Qae,Qaf]
   refine hk _ _ ⟨O,?_,hs.cast ?_⟩<;>simp only [oT,lq,cq,Nat.reduceBEq,p0_,q2_,q3_]
  ·
   rintro D t w hD hp hcl ⟨O,ht,hs⟩ rest hk
   have hp:AllDone D [1]:=hp
   obtain ⟨p1_,_⟩:=hp
   obtain ⟨p0_,_⟩:=(show D 1=true→AllDone D [0] from hcl 1 (by decide)) p1_
   have q3_:=ny hcl 3 0 hD
   simp only [hD,p0_,p1_,q3_,cq,oT] at ht hs
   subst ht
   refine Qaa (v:=pointer (some ⟨b2,1,none⟩)) rfl rfl rfl (g_d rfl ?_)
   try dsimp only [Qae,Qaf]
   refine hk _ _ ⟨O,?_,hs.cast ?_⟩<;>simp only [oT,lq,cq,Nat.reduceBEq,p0_,p1_,q3_]
  ·
   rintro D t w hD hp hcl ⟨O,ht,hs⟩ rest hk
   have hp:AllDone D [2]:=hp
   obtain ⟨p2_,_⟩:=hp
   obtain ⟨p1_,_⟩:=(show D 2=true→AllDone D [1] from hcl 2 (by decide)) p2_
   obtain ⟨p0_,_⟩:=(show D 1=true→AllDone D [0] from hcl 1 (by decide)) p1_
   simp only [hD,p0_,p1_,p2_,cq,oT] at ht hs
   subst ht
   refine Qat rfl rfl (v:=int .i64 (i64w (a1.Qa0+1))) rfl rfl (fun _=>rfl) (cells_load (hs.cells 0 rfl) 1 1 rfl) (g_d rfl ?_)
   try dsimp only [Qae,Qaf]
   refine hk _ _ ⟨O,?_,hs.cast ?_⟩<;>simp only [oT,lq,cq,Nat.reduceBEq,p0_,p1_,p2_]
  ·
   rintro D t w hD hp hcl ⟨O,ht,hs⟩ rest hk
   have hp:AllDone D []:=hp
   have q5_:=ny hcl 5 0 hD
   have q6_:=ny hcl 6 0 q5_
   have q7_:=ny hcl 7 0 q6_
   have q8_:=ny hcl 8 0 q7_
   simp only [hD,q5_,q6_,q7_,q8_,cq,oT] at ht hs
   subst ht
   refine Qaa (v:=pointer (some ⟨b2,0,none⟩)) rfl rfl rfl (g_d rfl ?_)
   try dsimp only [Qae,Qaf]
   refine hk _ _ ⟨O,?_,hs.cast ?_⟩<;>simp only [oT,lq,cq,Nat.reduceBEq,q5_,q6_,q7_,q8_]
  ·
   rintro D t w hD hp hcl ⟨O,ht,hs⟩ rest hk
   have hp:AllDone D [4]:=hp
   obtain ⟨p4_,_⟩:=hp
   have q6_:=ny hcl 6 0 hD
   have q7_:=ny hcl 7 0 q6_
   have q8_:=ny hcl 8 0 q7_
   simp only [hD,p4_,q6_,q7_,q8_,cq,oT] at ht hs
   subst ht
   refine Qaa (v:=pointer (some ⟨b2,0,none⟩)) rfl rfl rfl (g_d rfl ?_)
   try dsimp only [Qae,Qaf]
   refine hk _ _ ⟨O,?_,hs.cast ?_⟩<;>simp only [oT,lq,cq,Nat.reduceBEq,p4_,q6_,q7_,q8_]
  ·
   rintro D t w hD hp hcl ⟨O,ht,hs⟩ rest hk
   have hp:AllDone D [5]:=hp
   obtain ⟨p5_,_⟩:=hp
   obtain ⟨p4_,_⟩:=(show D 5=true→AllDone D [4] from hcl 5 (by decide)) p5_
   have q7_:=ny hcl 7 0 hD
   have q8_:=ny hcl 8 0 q7_
   simp only [hD,p4_,p5_,q7_,q8_,cq,oT] at ht hs
   subst ht
   refine Qaa (v:=pointer (some ⟨b2,0,none⟩)) rfl rfl rfl (g_d rfl ?_)
   try dsimp only [Qae,Qaf]
   refine hk _ _ ⟨O,?_,hs.cast ?_⟩<;>simp only [oT,lq,cq,Nat.reduceBEq,p4_,p5_,q7_,q8_]
  ·
   rintro D t w hD hp hcl ⟨O,ht,hs⟩ rest hk
   have hp:AllDone D [6]:=hp
   obtain ⟨p6_,_⟩:=hp
   obtain ⟨p5_,_⟩:=(show D 6=true→AllDone D [5] from hcl 6 (by decide)) p6_
   obtain ⟨p4_,_⟩:=(show D 5=true→AllDone D [4] from hcl 5 (by decide)) p5_
   have q8_:=ny hcl 8 0 hD
   simp only [hD,p4_,p5_,p6_,q8_,cq,oT] at ht hs
   subst ht
   refine Qat rfl rfl (v:=v3) rfl rfl (fun _=>rfl) (cells_load (hs.cells 0 rfl) 0 1 rfl) (g_d rfl ?_)
   try dsimp only [Qae,Qaf]
   refine hk _ _ ⟨O,?_,hs.cast ?_⟩<;>simp only [oT,lq,cq,Nat.reduceBEq,p4_,p5_,p6_,q8_]
  ·
   rintro D t w hD hp hcl ⟨O,ht,hs⟩ rest hk
   have hp:AllDone D [7]:=hp
   obtain ⟨p7_,_⟩:=hp
   obtain ⟨p6_,_⟩:=(show D 7=true→AllDone D [6] from hcl 7 (by decide)) p7_
   obtain ⟨p5_,_⟩:=(show D 6=true→AllDone D [5] from hcl 6 (by decide)) p6_
   obtain ⟨p4_,_⟩:=(show D 5=true→AllDone D [4] from hcl 5 (by decide)) p5_
   simp only [hD,p4_,p5_,p6_,p7_,cq,oT] at ht hs
   subst ht
   refine Qbc (hs.rd hr4) rfl rfl rfl rfl rfl (g_d rfl ?_)
   try dsimp only [Qae,Qaf]
   refine hk _ _ ⟨O,?_,hs.cast ?_⟩<;>simp only [oT,lq,cq,Nat.reduceBEq,p4_,p5_,p6_,p7_]
  intro D t w rest hall hO5_ hI
  obtain ⟨O,ht,hs⟩:=hI
  have p0_:=hall 0 (by decide) rfl
  have p1_:=hall 1 (by decide) rfl
  have p2_:=hall 2 (by decide) rfl
  have p3_:=hall 3 (by decide) rfl
  have p4_:=hall 4 (by decide) rfl
  have p5_:=hall 5 (by decide) rfl
  have p6_:=hall 6 (by decide) rfl
  have p7_:=hall 7 (by decide) rfl
  have p8_:=hall 8 (by decide) rfl
  simp only [p0_,p1_,p2_,p3_,p4_,p5_,p6_,p7_,p8_,cq,oT] at ht hs
  subst ht
  obtain ⟨rest,rfl,hO6_⟩:=ord_one (m:=511) hO5_ rfl 9 (m':=1023) (by decide+kernel) rfl
  clear hO5_
  refine Qap (B:=decide ((i64w (a1.Qa0+1))≤(a1.QaX.length:Int))) rfl rfl rfl ?_ ?_
  ·
   intro hb
   rw [if_pos (b_dec_t hb)] at H
   refine g_d rfl ?_
   try dsimp only [Qae,Qaf]
   obtain rfl:=ord_end hO6_ rfl (by decide+kernel)
   refine Qab (Qah rfl (Qad (Qag [0,1] rfl ?_)))
   refine Qaa (v:=int .i64 x6) rfl rfl rfl (g_d rfl ?_)
   refine Qaa (v:=int .i64 x6) rfl rfl rfl (g_d rfl (Qab ?_))
   obtain rfl:=QsJ H
   refine Qas Tryz.func64 (v:=int .i64 x6) (res1 rfl rfl) ?_
   have hs:=hs.pull 1 rfl
   have hs:=hs.pull 1 rfl
   have hs:St _ [_,_] _:=St.take (Γ':=[]) hs
   exact ⟨_,rfl,rfl,hs⟩
  intro hb
  rw [if_neg (b_dec_f hb)] at H
  refine g_d rfl ?_
  obtain rfl:=ord_end hO6_ rfl (by decide+kernel)
  refine Qab (Qal rfl (Qay (Qad (Qag [0,1,2,3,4,5,6,7] rfl ?_))))
  refine Qaa (v:=pointer (some ⟨b2,0,none⟩)) rfl rfl rfl (g_d rfl ?_)
  refine Qaa (v:=pointer (some ⟨b2,0,none⟩)) rfl rfl rfl (g_d rfl ?_)
  refine Qaa (v:=pointer (some ⟨b2,2,none⟩)) rfl rfl rfl (g_d rfl ?_)
  refine Qat rfl rfl (v:=int .u64 (u64w ((u64w ((u64w (a1.QaV*6364136223846793005))+(u64w x6)))+1442695040888963407))) rfl rfl (fun _=>rfl) (cells_load (hs.cells 0 rfl) 2 1 rfl) (g_d rfl ?_)
  try dsimp only [Qae,Qaf]
  refine Qaa (v:=int .u64 (shrI .u64 (u64w ((u64w ((u64w (a1.QaV*6364136223846793005))+(u64w x6)))+1442695040888963407)) 40)) rfl rfl rfl (g_d rfl ?_)
  refine Qaa (v:=int .u64 (bAnd .u64 (shrI .u64 (u64w ((u64w ((u64w (a1.QaV*6364136223846793005))+(u64w x6)))+1442695040888963407)) 40) 255)) rfl rfl rfl (g_d rfl ?_)
  try dsimp only [Qae,Qaf]
  refine Qaa (v:=int .i64 (i64w (bAnd .u64 (shrI .u64 (u64w ((u64w ((u64w (a1.QaV*6364136223846793005))+(u64w x6)))+1442695040888963407)) 40) 255))) rfl rfl rfl (g_d rfl ?_)
  refine Qaa (v:=int .i64 (i64w (bAnd .u64 (shrI .u64 (u64w ((u64w ((u64w (a1.QaV*6364136223846793005))+(u64w x6)))+1442695040888963407)) 40) 255))) rfl rfl rfl (g_d rfl (Qab ?_))
  obtain rfl:=QsJ H
  refine Qas Tryz.func64 (v:=int .i64 (i64w (bAnd .u64 (shrI .u64 (u64w ((u64w ((u64w (a1.QaV*6364136223846793005))+(u64w x6)))+1442695040888963407)) 40) 255))) (res1 rfl rfl) ?_
  have hs:=hs.pull 1 rfl
  have hs:=hs.pull 1 rfl
  have hs:St _ [_,_] _:=St.take (Γ':=[]) hs
  exact ⟨_,rfl,rfl,hs⟩
 intro ha
 refine Qb2 (n:=10) rfl [0,1,2,3,4,5,6,7,8,9] [0,1,2,3,4,5,6,7,8,9] rfl rfl ?_
 intro rest w hh hbw hO
 have hs:=hs.samew hh hbw
 try dsimp only [Qae,Qaf]
 refine Qbe ?_
 intro T hT
 refine QbB (m0:=0) hO rfl 511 [0,1,2,3,4,5,6,7,8] [0,1,3,7,0,16,48,112,240,511] (by decide+kernel) (fun D t w=>∃ O:Nat→Value,t=(pointer (some ⟨b2,0,none⟩)::O 1::int .i64 0::int .i64 0::cnd (D 0) (pointer (some ⟨b2,0,none⟩)) (O 4)::cnd (D 1) (pointer (some ⟨b2,0,none⟩)) (O 5)::cnd (D 2) (pointer (some ⟨b2,1,none⟩)) (O 6)::cnd (D 3) (int .i64 a1.Qa0) (O 7)::cnd (D 4) (pointer (some ⟨b2,0,none⟩)) (O 8)::cnd (D 5) (pointer (some ⟨b2,0,none⟩)) (O 9)::cnd (D 6) (pointer (some ⟨b2,0,none⟩)) (O 10)::cnd (D 7) v3 (O 11)::cnd (D 8) (int .i64 (a1.QaX.length:Int)) (O 12)::O 13::O 14::O 15::O 16::O 17::O 18::O 19::oT O 2 (oT O 3 (oT O 4 (oT O 5 (O 60::O 61::[])))))∧St wb [Cells b2 (([v3,int .i64 a1.Qa0,int .u64 a1.QaV]:List Value)) 81,Z] w) ?_ ⟨?_,⟨?_,⟨?_,⟨?_,⟨?_,⟨?_,⟨?_,⟨?_,⟨?_,trivial⟩⟩⟩⟩⟩⟩⟩⟩⟩ ?_
 ·exact ⟨fun i=>T.getD i undef,(by subst hT;rfl),hs⟩
 ·
  rintro D t w hD hp hcl ⟨O,ht,hs⟩ rest hk
  have hp:AllDone D []:=hp
  have q1_:=ny hcl 1 0 hD
  have q2_:=ny hcl 2 0 q1_
  have q3_:=ny hcl 3 0 q2_
  simp only [hD,q1_,q2_,q3_,cq,oT] at ht hs
  subst ht
  refine Qaa (v:=pointer (some ⟨b2,0,none⟩)) rfl rfl rfl (g_d rfl ?_)
  try dsimp only [Qae,Qaf]
  refine hk _ _ ⟨O,?_,hs.cast ?_⟩<;>simp only [oT,lq,cq,Nat.reduceBEq,q1_,q2_,q3_]
 ·
  rintro D t w hD hp hcl ⟨O,ht,hs⟩ rest hk
  have hp:AllDone D [0]:=hp
  obtain ⟨p0_,_⟩:=hp
  have q2_:=ny hcl 2 0 hD
  have q3_:=ny hcl 3 0 q2_
  simp only [hD,p0_,q2_,q3_,cq,oT] at ht hs
  subst ht
  refine Qaa (v:=pointer (some ⟨b2,0,none⟩)) rfl rfl rfl (g_d rfl ?_)
  try dsimp only [Qae,Qaf]
  refine hk _ _ ⟨O,?_,hs.cast ?_⟩<;>simp only [oT,lq,cq,Nat.reduceBEq,p0_,q2_,q3_]
 ·
  rintro D t w hD hp hcl ⟨O,ht,hs⟩ rest hk
  have hp:AllDone D [1]:=hp
  obtain ⟨p1_,_⟩:=hp
  obtain ⟨p0_,_⟩:=(show D 1=true→AllDone D [0] from hcl 1 (by decide)) p1_
  have q3_:=ny hcl 3 0 hD
  simp only [hD,p0_,p1_,q3_,cq,oT] at ht hs
  subst ht
  refine Qaa (v:=pointer (some ⟨b2,1,none⟩)) rfl rfl rfl (g_d rfl ?_)
  try dsimp only [Qae,Qaf]
  refine hk _ _ ⟨O,?_,hs.cast ?_⟩<;>simp only [oT,lq,cq,Nat.reduceBEq,p0_,p1_,q3_]
 ·
  rintro D t w hD hp hcl ⟨O,ht,hs⟩ rest hk
  have hp:AllDone D [2]:=hp
  obtain ⟨p2_,_⟩:=hp
  obtain ⟨p1_,_⟩:=(show D 2=true→AllDone D [1] from hcl 2 (by decide)) p2_
  obtain ⟨p0_,_⟩:=(show D 1=true→AllDone D [0] from hcl 1 (by decide)) p1_
  simp only [hD,p0_,p1_,p2_,cq,oT] at ht hs
  subst ht
  refine Qat rfl rfl (v:=int .i64 a1.Qa0) rfl rfl (fun _=>rfl) (cells_load (hs.cells 0 rfl) 1 1 rfl) (g_d rfl ?_)
  try dsimp only [Qae,Qaf]
  refine hk _ _ ⟨O,?_,hs.cast ?_⟩<;>simp only [oT,lq,cq,Nat.reduceBEq,p0_,p1_,p2_]
 ·
  rintro D t w hD hp hcl ⟨O,ht,hs⟩ rest hk
  have hp:AllDone D []:=hp
  have q5_:=ny hcl 5 0 hD
  have q6_:=ny hcl 6 0 q5_
  have q7_:=ny hcl 7 0 q6_
  have q8_:=ny hcl 8 0 q7_
  simp only [hD,q5_,q6_,q7_,q8_,cq,oT] at ht hs
  subst ht
  refine Qaa (v:=pointer (some ⟨b2,0,none⟩)) rfl rfl rfl (g_d rfl ?_)
  try dsimp only [Qae,Qaf]
  refine hk _ _ ⟨O,?_,hs.cast ?_⟩<;>simp only [oT,lq,cq,Nat.reduceBEq,q5_,q6_,q7_,q8_]
 ·
  rintro D t w hD hp hcl ⟨O,ht,hs⟩ rest hk
  have hp:AllDone D [4]:=hp
  obtain ⟨p4_,_⟩:=hp
  have q6_:=ny hcl 6 0 hD
  have q7_:=ny hcl 7 0 q6_
  have q8_:=ny hcl 8 0 q7_
  simp only [hD,p4_,q6_,q7_,q8_,cq,oT] at ht hs
  subst ht
  refine Qaa (v:=pointer (some ⟨b2,0,none⟩)) rfl rfl rfl (g_d rfl ?_)
  try dsimp only [Qae,Qaf]
  refine hk _ _ ⟨O,?_,hs.cast ?_⟩<;>simp only [oT,lq,cq,Nat.reduceBEq,p4_,q6_,q7_,q8_]
 ·
  rintro D t w hD hp hcl ⟨O,ht,hs⟩ rest hk
  have hp:AllDone D [5]:=hp
  obtain ⟨p5_,_⟩:=hp
  obtain ⟨p4_,_⟩:=(show D 5=true→AllDone D [4] from hcl 5 (by decide)) p5_
  have q7_:=ny hcl 7 0 hD
  have q8_:=ny hcl 8 0 q7_
  simp only [hD,p4_,p5_,q7_,q8_,cq,oT] at ht hs
  subst ht
  refine Qaa (v:=pointer (some ⟨b2,0,none⟩)) rfl rfl rfl (g_d rfl ?_)
  try dsimp only [Qae,Qaf]
  refine hk _ _ ⟨O,?_,hs.cast ?_⟩<;>simp only [oT,lq,cq,Nat.reduceBEq,p4_,p5_,q7_,q8_]
 ·
  rintro D t w hD hp hcl ⟨O,ht,hs⟩ rest hk
  have hp:AllDone D [6]:=hp
  obtain ⟨p6_,_⟩:=hp
  obtain ⟨p5_,_⟩:=(show D 6=true→AllDone D [5] from hcl 6 (by decide)) p6_
  obtain ⟨p4_,_⟩:=(show D 5=true→AllDone D [4] from hcl 5 (by decide)) p5_
  have q8_:=ny hcl 8 0 hD
  simp only [hD,p4_,p5_,p6_,q8_,cq,oT] at ht hs
  subst ht
  refine Qat rfl rfl (v:=v3) rfl rfl (fun _=>rfl) (cells_load (hs.cells 0 rfl) 0 1 rfl) (g_d rfl ?_)
  try dsimp only [Qae,Qaf]
  refine hk _ _ ⟨O,?_,hs.cast ?_⟩<;>simp only [oT,lq,cq,Nat.reduceBEq,p4_,p5_,p6_,q8_]
 ·
  rintro D t w hD hp hcl ⟨O,ht,hs⟩ rest hk
  have hp:AllDone D [7]:=hp
  obtain ⟨p7_,_⟩:=hp
  obtain ⟨p6_,_⟩:=(show D 7=true→AllDone D [6] from hcl 7 (by decide)) p7_
  obtain ⟨p5_,_⟩:=(show D 6=true→AllDone D [5] from hcl 6 (by decide)) p6_
  obtain ⟨p4_,_⟩:=(show D 5=true→AllDone D [4] from hcl 5 (by decide)) p5_
  simp only [hD,p4_,p5_,p6_,p7_,cq,oT] at ht hs
  subst ht
  refine Qbc (hs.rd hr4) rfl rfl rfl rfl rfl (g_d rfl ?_)
  try dsimp only [Qae,Qaf]
  refine hk _ _ ⟨O,?_,hs.cast ?_⟩<;>simp only [oT,lq,cq,Nat.reduceBEq,p4_,p5_,p6_,p7_]
 intro D t w rest hall hO1_ hI
 obtain ⟨O,ht,hs⟩:=hI
 have p0_:=hall 0 (by decide) rfl
 have p1_:=hall 1 (by decide) rfl
 have p2_:=hall 2 (by decide) rfl
 have p3_:=hall 3 (by decide) rfl
 have p4_:=hall 4 (by decide) rfl
 have p5_:=hall 5 (by decide) rfl
 have p6_:=hall 6 (by decide) rfl
 have p7_:=hall 7 (by decide) rfl
 have p8_:=hall 8 (by decide) rfl
 simp only [p0_,p1_,p2_,p3_,p4_,p5_,p6_,p7_,p8_,cq,oT] at ht hs
 subst ht
 obtain ⟨rest,rfl,hO2_⟩:=ord_one (m:=511) hO1_ rfl 9 (m':=1023) (by decide+kernel) rfl
 clear hO1_
 refine Qap (B:=decide (a1.Qa0< (a1.QaX.length:Int))) rfl rfl rfl ?_ ?_
 ·
  intro hb
  rw [if_pos (b_dec_t hb)] at H
  refine g_d rfl ?_
  try dsimp only [Qae,Qaf]
  obtain rfl:=ord_end hO2_ rfl (by decide+kernel)
  refine Qab (Qah rfl ?_)
  obtain ⟨gd3,H⟩:=ite_get H
  obtain ⟨ad4_,ad4_N,ad4_C,had4_⟩:=sl_at (hs.rd hr4) gd3.1 gd3.2
  refine Qbe ?_
  intro T hT
  refine QbM (n:=12) rfl [0,1,2,3,4,5,6,7,8,9,10,11] [0,1,2,3,4,5,6,7,8,9,10,11] rfl rfl (Inv:=fun D t w=>∃ O:Nat→Value,t=(pointer (some ⟨b2,0,none⟩)::O 1::int .i64 0::cnd (D 11) (int .i64 (i64w (rdL a1.QaX a1.Qa0 0))) (int .i64 0)::pointer (some ⟨b2,0,none⟩)::pointer (some ⟨b2,0,none⟩)::pointer (some ⟨b2,1,none⟩)::int .i64 a1.Qa0::pointer (some ⟨b2,0,none⟩)::pointer (some ⟨b2,0,none⟩)::pointer (some ⟨b2,0,none⟩)::v3::int .i64 (a1.QaX.length:Int)::bool true::cnd (D 0) (pointer (some ⟨b2,0,none⟩)) (O 14)::cnd (D 1) (pointer (some ⟨b2,0,none⟩)) (O 15)::cnd (D 2) (pointer (some ⟨b2,0,none⟩)) (O 16)::cnd (D 3) v3 (O 17)::cnd (D 4) (pointer (some ⟨b2,0,none⟩)) (O 18)::cnd (D 5) (pointer (some ⟨b2,0,none⟩)) (O 19)::cnd (D 6) (pointer (some ⟨b2,1,none⟩)) (O 20)::cnd (D 7) (int .i64 a1.Qa0) (O 21)::cnd (D 8) (pointer (some (ad4_.add (a1.Qa0.toNat*1)))) (O 22)::cnd (D 9) (int .u8 (rdL a1.QaX a1.Qa0 0)) (O 23)::cnd (D 10) (int .i64 (i64w (rdL a1.QaX a1.Qa0 0))) (O 24)::O 25::O 26::O 27::O 28::O 29::oT O 3 (oT O 4 (oT O 5 (O 60::O 61::[]))))∧St wb [Cells b2 (([v3,int .i64 a1.Qa0,int .u64 a1.QaV]:List Value)) 81,Z] w) ?_ ⟨⟨⟨⟨⟨⟨⟨⟨⟨⟨⟨⟨trivial,?_⟩,?_⟩,?_⟩,?_⟩,?_⟩,?_⟩,?_⟩,?_⟩,?_⟩,?_⟩,?_⟩,?_⟩ ?_
  ·
   intro w hh hbw
   have hs:=hs.samew hh hbw
   exact ⟨fun i=>T.getD i undef,(by subst hT;rfl),hs⟩
  ·
   rintro D t w hD hp hcl ⟨O,ht,hs⟩ rest hk
   have q1_:=nz hcl 1 0 hD
   have q2_:=nz hcl 2 0 q1_
   have q3_:=nz hcl 3 0 q2_
   have q8_:=nz hcl 8 0 q3_
   have q9_:=nz hcl 9 0 q8_
   have q10_:=nz hcl 10 0 q9_
   have q11_:=nz hcl 11 0 q10_
   simp only [hD,q1_,q2_,q3_,q8_,q9_,q10_,q11_,cq,oT] at ht hs
   subst ht
   refine Qaa (v:=pointer (some ⟨b2,0,none⟩)) rfl rfl rfl (g_d rfl ?_)
   try dsimp only [Qae,Qaf]
   refine hk _ _ ⟨O,?_,hs.cast ?_⟩<;>simp only [oT,lq,cq,Nat.reduceBEq,q1_,q2_,q3_,q8_,q9_,q10_,q11_]
  ·
   rintro D t w hD hp hcl ⟨O,ht,hs⟩ rest hk
   obtain ⟨p0_,_⟩:=hp
   have q2_:=nz hcl 2 0 hD
   have q3_:=nz hcl 3 0 q2_
   have q8_:=nz hcl 8 0 q3_
   have q9_:=nz hcl 9 0 q8_
   have q10_:=nz hcl 10 0 q9_
   have q11_:=nz hcl 11 0 q10_
   simp only [hD,p0_,q2_,q3_,q8_,q9_,q10_,q11_,cq,oT] at ht hs
   subst ht
   refine Qaa (v:=pointer (some ⟨b2,0,none⟩)) rfl rfl rfl (g_d rfl ?_)
   try dsimp only [Qae,Qaf]
   refine hk _ _ ⟨O,?_,hs.cast ?_⟩<;>simp only [oT,lq,cq,Nat.reduceBEq,p0_,q2_,q3_,q8_,q9_,q10_,q11_]
  ·
   rintro D t w hD hp hcl ⟨O,ht,hs⟩ rest hk
   obtain ⟨p1_,_⟩:=hp
   obtain ⟨p0_,_⟩:=(hcl.get 1 (by decide)) p1_
   have q3_:=nz hcl 3 0 hD
   have q8_:=nz hcl 8 0 q3_
   have q9_:=nz hcl 9 0 q8_
   have q10_:=nz hcl 10 0 q9_
   have q11_:=nz hcl 11 0 q10_
   simp only [hD,p0_,p1_,q3_,q8_,q9_,q10_,q11_,cq,oT] at ht hs
   subst ht
   refine Qaa (v:=pointer (some ⟨b2,0,none⟩)) rfl rfl rfl (g_d rfl ?_)
   try dsimp only [Qae,Qaf]
   refine hk _ _ ⟨O,?_,hs.cast ?_⟩<;>simp only [oT,lq,cq,Nat.reduceBEq,p0_,p1_,q3_,q8_,q9_,q10_,q11_]
  ·
   rintro D t w hD hp hcl ⟨O,ht,hs⟩ rest hk
   obtain ⟨p2_,_⟩:=hp
   obtain ⟨p1_,_⟩:=(hcl.get 2 (by decide)) p2_
   obtain ⟨p0_,_⟩:=(hcl.get 1 (by decide)) p1_
   have q8_:=nz hcl 8 0 hD
   have q9_:=nz hcl 9 0 q8_
   have q10_:=nz hcl 10 0 q9_
   have q11_:=nz hcl 11 0 q10_
   simp only [hD,p0_,p1_,p2_,q8_,q9_,q10_,q11_,cq,oT] at ht hs
   subst ht
   refine Qat rfl rfl (v:=v3) rfl rfl (fun _=>rfl) (cells_load (hs.cells 0 rfl) 0 1 rfl) (g_d rfl ?_)
   try dsimp only [Qae,Qaf]
   refine hk _ _ ⟨O,?_,hs.cast ?_⟩<;>simp only [oT,lq,cq,Nat.reduceBEq,p0_,p1_,p2_,q8_,q9_,q10_,q11_]
  ·
   rintro D t w hD hp hcl ⟨O,ht,hs⟩ rest hk
   have q5_:=nz hcl 5 0 hD
   have q6_:=nz hcl 6 0 q5_
   have q7_:=nz hcl 7 0 q6_
   have q8_:=nz hcl 8 1 q7_
   have q9_:=nz hcl 9 0 q8_
   have q10_:=nz hcl 10 0 q9_
   have q11_:=nz hcl 11 0 q10_
   simp only [hD,q5_,q6_,q7_,q8_,q9_,q10_,q11_,cq,oT] at ht hs
   subst ht
   refine Qaa (v:=pointer (some ⟨b2,0,none⟩)) rfl rfl rfl (g_d rfl ?_)
   try dsimp only [Qae,Qaf]
   refine hk _ _ ⟨O,?_,hs.cast ?_⟩<;>simp only [oT,lq,cq,Nat.reduceBEq,q5_,q6_,q7_,q8_,q9_,q10_,q11_]
  ·
   rintro D t w hD hp hcl ⟨O,ht,hs⟩ rest hk
   obtain ⟨p4_,_⟩:=hp
   have q6_:=nz hcl 6 0 hD
   have q7_:=nz hcl 7 0 q6_
   have q8_:=nz hcl 8 1 q7_
   have q9_:=nz hcl 9 0 q8_
   have q10_:=nz hcl 10 0 q9_
   have q11_:=nz hcl 11 0 q10_
   simp only [hD,p4_,q6_,q7_,q8_,q9_,q10_,q11_,cq,oT] at ht hs
   subst ht
   refine Qaa (v:=pointer (some ⟨b2,0,none⟩)) rfl rfl rfl (g_d rfl ?_)
   try dsimp only [Qae,Qaf]
   refine hk _ _ ⟨O,?_,hs.cast ?_⟩<;>simp only [oT,lq,cq,Nat.reduceBEq,p4_,q6_,q7_,q8_,q9_,q10_,q11_]
  ·
   rintro D t w hD hp hcl ⟨O,ht,hs⟩ rest hk
   obtain ⟨p5_,_⟩:=hp
   obtain ⟨p4_,_⟩:=(hcl.get 5 (by decide)) p5_
   have q7_:=nz hcl 7 0 hD
   have q8_:=nz hcl 8 1 q7_
   have q9_:=nz hcl 9 0 q8_
   have q10_:=nz hcl 10 0 q9_
   have q11_:=nz hcl 11 0 q10_
   simp only [hD,p4_,p5_,q7_,q8_,q9_,q10_,q11_,cq,oT] at ht hs
   subst ht
   refine Qaa (v:=pointer (some ⟨b2,1,none⟩)) rfl rfl rfl (g_d rfl ?_)
   try dsimp only [Qae,Qaf]
   refine hk _ _ ⟨O,?_,hs.cast ?_⟩<;>simp only [oT,lq,cq,Nat.reduceBEq,p4_,p5_,q7_,q8_,q9_,q10_,q11_]
  ·
   rintro D t w hD hp hcl ⟨O,ht,hs⟩ rest hk
   obtain ⟨p6_,_⟩:=hp
   obtain ⟨p5_,_⟩:=(hcl.get 6 (by decide)) p6_
   obtain ⟨p4_,_⟩:=(hcl.get 5 (by decide)) p5_
   have q8_:=nz hcl 8 1 hD
   have q9_:=nz hcl 9 0 q8_
   have q10_:=nz hcl 10 0 q9_
   have q11_:=nz hcl 11 0 q10_
   simp only [hD,p4_,p5_,p6_,q8_,q9_,q10_,q11_,cq,oT] at ht hs
   subst ht
   refine Qat rfl rfl (v:=int .i64 a1.Qa0) rfl rfl (fun _=>rfl) (cells_load (hs.cells 0 rfl) 1 1 rfl) (g_d rfl ?_)
   try dsimp only [Qae,Qaf]
   refine hk _ _ ⟨O,?_,hs.cast ?_⟩<;>simp only [oT,lq,cq,Nat.reduceBEq,p4_,p5_,p6_,q8_,q9_,q10_,q11_]
  ·
   rintro D t w hD hp hcl ⟨O,ht,hs⟩ rest hk
   obtain ⟨p3_,p7_,_⟩:=hp
   obtain ⟨p6_,_⟩:=(hcl.get 7 (by decide)) p7_
   obtain ⟨p5_,_⟩:=(hcl.get 6 (by decide)) p6_
   obtain ⟨p4_,_⟩:=(hcl.get 5 (by decide)) p5_
   obtain ⟨p2_,_⟩:=(hcl.get 3 (by decide)) p3_
   obtain ⟨p1_,_⟩:=(hcl.get 2 (by decide)) p2_
   obtain ⟨p0_,_⟩:=(hcl.get 1 (by decide)) p1_
   have q9_:=nz hcl 9 0 hD
   have q10_:=nz hcl 10 0 q9_
   have q11_:=nz hcl 11 0 q10_
   simp only [hD,p0_,p1_,p2_,p3_,p4_,p5_,p6_,p7_,q9_,q10_,q11_,cq,oT] at ht hs
   subst ht
   refine Qby (κ:=(K.int .u8)) (m:=1) rfl (hs.rd hr4) rfl (fun _=>rfl) gd3.1 gd3.2 had4_ rfl rfl rfl rfl rfl (g_d rfl ?_)
   try dsimp only [Qae,Qaf]
   refine hk _ _ ⟨O,?_,hs.cast ?_⟩<;>simp only [oT,lq,cq,Nat.reduceBEq,p0_,p1_,p2_,p3_,p4_,p5_,p6_,p7_,q9_,q10_,q11_]
  ·
   rintro D t w hD hp hcl ⟨O,ht,hs⟩ rest hk
   obtain ⟨p8_,_⟩:=hp
   obtain ⟨p3_,p7_,_⟩:=(hcl.get 8 (by decide)) p8_
   obtain ⟨p6_,_⟩:=(hcl.get 7 (by decide)) p7_
   obtain ⟨p5_,_⟩:=(hcl.get 6 (by decide)) p6_
   obtain ⟨p4_,_⟩:=(hcl.get 5 (by decide)) p5_
   obtain ⟨p2_,_⟩:=(hcl.get 3 (by decide)) p3_
   obtain ⟨p1_,_⟩:=(hcl.get 2 (by decide)) p2_
   obtain ⟨p0_,_⟩:=(hcl.get 1 (by decide)) p1_
   have q10_:=nz hcl 10 0 hD
   have q11_:=nz hcl 11 0 q10_
   simp only [hD,p0_,p1_,p2_,p3_,p4_,p5_,p6_,p7_,p8_,q10_,q11_,cq,oT] at ht hs
   subst ht
   refine Qat rfl rfl (v:=int .u8 (rdL a1.QaX a1.Qa0 0)) rfl rfl (fun _=>rfl) (cellsAt_of (fkI .u8) 0 (hs.rd hr4) had4_ gd3.1 gd3.2) (g_d rfl ?_)
   try dsimp only [Qae,Qaf]
   refine hk _ _ ⟨O,?_,hs.cast ?_⟩<;>simp only [oT,lq,cq,Nat.reduceBEq,p0_,p1_,p2_,p3_,p4_,p5_,p6_,p7_,p8_,q10_,q11_]
  ·
   rintro D t w hD hp hcl ⟨O,ht,hs⟩ rest hk
   obtain ⟨p9_,_⟩:=hp
   obtain ⟨p8_,_⟩:=(hcl.get 9 (by decide)) p9_
   obtain ⟨p3_,p7_,_⟩:=(hcl.get 8 (by decide)) p8_
   obtain ⟨p6_,_⟩:=(hcl.get 7 (by decide)) p7_
   obtain ⟨p5_,_⟩:=(hcl.get 6 (by decide)) p6_
   obtain ⟨p4_,_⟩:=(hcl.get 5 (by decide)) p5_
   obtain ⟨p2_,_⟩:=(hcl.get 3 (by decide)) p3_
   obtain ⟨p1_,_⟩:=(hcl.get 2 (by decide)) p2_
   obtain ⟨p0_,_⟩:=(hcl.get 1 (by decide)) p1_
   have q11_:=nz hcl 11 0 hD
   simp only [hD,p0_,p1_,p2_,p3_,p4_,p5_,p6_,p7_,p8_,p9_,q11_,cq,oT] at ht hs
   subst ht
   refine Qaa (v:=int .i64 (i64w (rdL a1.QaX a1.Qa0 0))) rfl rfl rfl (g_d rfl ?_)
   try dsimp only [Qae,Qaf]
   refine hk _ _ ⟨O,?_,hs.cast ?_⟩<;>simp only [oT,lq,cq,Nat.reduceBEq,p0_,p1_,p2_,p3_,p4_,p5_,p6_,p7_,p8_,p9_,q11_]
  ·
   rintro D t w hD hp hcl ⟨O,ht,hs⟩ rest hk
   obtain ⟨p10_,p0_,p1_,p2_,p3_,p4_,p5_,p6_,p7_,p8_,p9_,_,_⟩:=hp
   simp only [hD,p0_,p1_,p2_,p3_,p4_,p5_,p6_,p7_,p8_,p9_,p10_,cq,oT] at ht hs
   subst ht
   refine Qaa (v:=int .i64 (i64w (rdL a1.QaX a1.Qa0 0))) rfl rfl rfl (g_d rfl ?_)
   try dsimp only [Qae,Qaf]
   refine hk _ _ ⟨O,?_,hs.cast ?_⟩<;>simp only [oT,lq,cq,Nat.reduceBEq,p0_,p1_,p2_,p3_,p4_,p5_,p6_,p7_,p8_,p9_,p10_]
  intro D t w hall hI
  obtain ⟨O,ht,hs⟩:=hI
  have p0_:=hall 0 (by decide)
  have p1_:=hall 1 (by decide)
  have p2_:=hall 2 (by decide)
  have p3_:=hall 3 (by decide)
  have p4_:=hall 4 (by decide)
  have p5_:=hall 5 (by decide)
  have p6_:=hall 6 (by decide)
  have p7_:=hall 7 (by decide)
  have p8_:=hall 8 (by decide)
  have p9_:=hall 9 (by decide)
  have p10_:=hall 10 (by decide)
  have p11_:=hall 11 (by decide)
  simp only [p0_,p1_,p2_,p3_,p4_,p5_,p6_,p7_,p8_,p9_,p10_,p11_,cq,oT] at ht hs
  subst ht
  have hs:=hs.pull 1 rfl
  have hs:=hs.pull 1 rfl
  have hs:St _ [_,_] _:=St.take (Γ':=[]) hs
  exact ha _ _ ⟨i64w (rdL a1.QaX a1.Qa0 0),H,rfl,hs⟩
 intro hb
 rw [if_neg (b_dec_f hb)] at H
 refine g_d rfl ?_
 obtain rfl:=ord_end hO2_ rfl (by decide+kernel)
 refine Qab (Qal rfl (Qay ?_))
 have hs:=hs.pull 1 rfl
 have hs:=hs.pull 1 rfl
 have hs:St _ [_,_] _:=St.take (Γ':=[]) hs
 exact ha _ _ ⟨0,H,rfl,hs⟩
def QaU.post (wb:World) (Z:As) (b2:Nat) (v3:Value) (r:(Int×Qaq)) (v:Value) (w:World):Prop:=v=int .i64 r.1∧St wb [Cells b2 (([v3,int .i64 r.2.Qa0,int .u64 r.2.QaV]:List Value)) 81,Z] w
theorem QaU.calls {N:Nat} {a1:Qaq} {a6:Int} {b2:Nat} {v3:Value} {wb:World} {Z:As} {w0:World} {r:(Int×Qaq)} (hs:St wb [Cells b2 (([v3,int .i64 a1.Qa0,int .u64 a1.QaV]:List Value)) 81,Z] w0) (hr4:RdRow (K.int .u8) wb v3 a1.QaX) (H:QaU.f N a1 a6=some r):
 Calls Tryz.prog 48 #[pointer (some ⟨b2,0,none⟩),int .i64 a6] w0 fun e w=>∃ v,e= .returned v∧QaU.post wb Z b2 v3 r v w:=by
 unfold QaU.f at H
 refine calls_of_g (n:=18) Tryz.func48 rfl rfl ?_
 show G _ _ _ _ [_,_,_,_,_,_,_,_,_,_,_,_,_,_,_,_,_,_,_,_] _
 refine Qad (Qag [0] rfl ?_)
 refine Qaa (v:=int .i64 0) rfl rfl rfl ?_
 show G _ _ _ _ [_,_,_,_,_,_,_,_,_,_,_,_,_,_,_,_,_,_,_,_] _
 refine Qab (Qad (Qad (Qag [0,1] rfl ?_)))
 refine Qaa (v:=int .i64 a6) rfl rfl rfl ?_
 refine Qap (B:=decide (a6≤1)) rfl rfl rfl ?_ ?_
 ·
  intro hb
  rw [if_pos (b_dec_t hb)] at H
  refine Qab (Qah rfl (Qad (Qag [0] rfl ?_)))
  refine Qaa (v:=int .i64 0) rfl rfl rfl (Qab ?_)
  obtain rfl:=QsJ H
  refine Qas Tryz.func48 (v:=int .i64 0) (res1 rfl rfl) ?_
  have hs:=hs.pull 1 rfl
  have hs:=hs.pull 1 rfl
  have hs:St _ [_,_] _:=St.take (Γ':=[]) hs
  exact ⟨_,rfl,rfl,hs⟩
 intro hb
 rw [if_neg (b_dec_f hb)] at H
 refine Qab (Qal rfl (Qay (Qad (Qag [0,1,2] rfl ?_))))
 refine Qaa (v:=pointer (some ⟨b2,0,none⟩)) rfl rfl rfl ?_
 show G _ _ _ _ [_,_,_,_,_,_,_,_,_,_,_,_,_,_,_,_,_,_,_,_] _
 obtain ⟨r7,Hr7,H⟩:=bind_get H
 have hs:St _ [_,_] _:=hs.pull 0 rfl
 have hs:=hs.pack 1
 refine QaB (args:=[pointer (some ⟨b2,0,none⟩)]) rfl rfl (QaC rfl (callFunc_enter Tryz.func64 rfl rfl) rfl) (QaZ.calls (a1:=(⟨a1.QaX,a1.Qa0,a1.QaV⟩:Qaq)) hs hr4 Hr7) ?_
 rintro _ w ⟨rfl,hs⟩
 have hs:=St.unpack (Γ:=[_]) hs
 have hs:St _ [_,_] _:=hs
 refine Qaa (v:=int .i64 r7.1) rfl rfl rfl (Qab (Qad (Qad (Qag [0,1] rfl ?_))))
 refine Qaa (v:=int .i64 a6) rfl rfl rfl ?_
 show G _ _ _ _ [_,_,_,_,_,_,_,_,_,_,_,_,_,_,_,_,_,_,_,_] _
 refine Qap (B:=decide (a6>200)) rfl rfl rfl ?_ ?_
 ·
  intro hb
  rw [if_pos (b_dec_t hb)] at H
  refine Qab (Qah rfl (Qag [0,1,2,3,4,5] rfl ?_))
  refine Qaa (v:=int .i64 r7.1) rfl rfl rfl ?_
  refine Qaa (v:=int .i64 (i64w (r7.1*256))) rfl rfl rfl ?_
  show G _ _ _ _ [_,_,_,_,_,_,_,_,_,_,_,_,_,_,_,_,_,_,_,_] _
  refine Qaa (v:=pointer (some ⟨b2,0,none⟩)) rfl rfl rfl ?_
  obtain ⟨r8,Hr8,H⟩:=bind_get H
  have hs:St _ [_,_] _:=hs.pull 0 rfl
  have hs:=hs.pack 1
  refine QaB (args:=[pointer (some ⟨b2,0,none⟩)]) rfl rfl (QaC rfl (callFunc_enter Tryz.func64 rfl rfl) rfl) (QaZ.calls (a1:=(⟨a1.QaX,r7.2.Qa0,r7.2.QaV⟩:Qaq)) hs hr4 Hr8) ?_
  rintro _ w ⟨rfl,hs⟩
  have hs:=St.unpack (Γ:=[_]) hs
  have hs:St _ [_,_] _:=hs
  refine Qaa (v:=int .i64 (i64w ((i64w (r7.1*256))+r8.1))) rfl rfl rfl ?_
  show G _ _ _ _ [_,_,_,_,_,_,_,_,_,_,_,_,_,_,_,_,_,_,_,_] _
  refine Qaa (v:=int .i64 (i64w ((i64w (r7.1*256))+r8.1))) rfl rfl rfl (Qab (Qad (Qag [0,1,2,3] rfl ?_)))
  refine Qaa (v:=int .i64 (i64w ((i64w (r7.1*256))+r8.1))) rfl rfl rfl ?_
  refine Qaa (v:=int .i64 a6) rfl rfl rfl ?_
  show G _ _ _ _ [_,_,_,_,_,_,_,_,_,_,_,_,_,_,_,_,_,_,_,_] _
  obtain ⟨g1,H⟩:=ite_get H
  refine Qaa (v:=int .i64 ((i64w ((i64w (r7.1*256))+r8.1)).tmod a6)) rfl rfl (QbP rfl rfl rfl g1) ?_
  refine Qaa (v:=int .i64 ((i64w ((i64w (r7.1*256))+r8.1)).tmod a6)) rfl rfl rfl (Qab ?_)
  obtain rfl:=QsJ H
  refine Qas Tryz.func48 (v:=int .i64 ((i64w ((i64w (r7.1*256))+r8.1)).tmod a6)) (res1 rfl rfl) ?_
  have hs:=hs.pull 1 rfl
  have hs:=hs.pull 1 rfl
  have hs:St _ [_,_] _:=St.take (Γ':=[]) hs
  exact ⟨_,rfl,rfl,hs⟩
 intro hb
 rw [if_neg (b_dec_f hb)] at H
 refine Qab (Qal rfl (Qay (Qad (Qag [0,1,2,3] rfl ?_))))
 refine Qaa (v:=int .i64 r7.1) rfl rfl rfl ?_
 refine Qaa (v:=int .i64 a6) rfl rfl rfl ?_
 show G _ _ _ _ [_,_,_,_,_,_,_,_,_,_,_,_,_,_,_,_,_,_,_,_] _
 obtain ⟨g2,H⟩:=ite_get H
 refine Qaa (v:=int .i64 (r7.1.tmod a6)) rfl rfl (QbP rfl rfl rfl g2) ?_
 refine Qaa (v:=int .i64 (r7.1.tmod a6)) rfl rfl rfl (Qab ?_)
 obtain rfl:=QsJ H
 refine Qas Tryz.func48 (v:=int .i64 (r7.1.tmod a6)) (res1 rfl rfl) ?_
 have hs:=hs.pull 1 rfl
 have hs:=hs.pull 1 rfl
 have hs:St _ [_,_] _:=St.take (Γ':=[]) hs
 exact ⟨_,rfl,rfl,hs⟩
def Qbm.post (wb:World) (Z:As) (b2:Nat) (v3:Value) (r:(Bool×Qaq)) (v:Value) (w:World):Prop:=v=bool r.1∧St wb [Cells b2 (([v3,int .i64 r.2.Qa0,int .u64 r.2.QaV]:List Value)) 81,Z] w
theorem Qbm.calls {N:Nat} {a1:Qaq} {a6:Int} {b2:Nat} {v3:Value} {wb:World} {Z:As} {w0:World} {r:(Bool×Qaq)} (hs:St wb [Cells b2 (([v3,int .i64 a1.Qa0,int .u64 a1.QaV]:List Value)) 81,Z] w0) (hr4:RdRow (K.int .u8) wb v3 a1.QaX) (H:Qbm.f N a1 a6=some r):
 Calls Tryz.prog 49 #[pointer (some ⟨b2,0,none⟩),int .i64 a6] w0 fun e w=>∃ v,e= .returned v∧Qbm.post wb Z b2 v3 r v w:=by
 unfold Qbm.f at H
 refine calls_of_g (n:=7) Tryz.func49 rfl rfl ?_
 show G _ _ _ _ [_,_,_,_,_,_,_,_,_] _
 refine Qad (Qag [0] rfl ?_)
 refine Qaa (v:=bool false) rfl rfl rfl ?_
 show G _ _ _ _ [_,_,_,_,_,_,_,_,_] _
 refine Qab (Qad (Qag [0,1,2,3,4] rfl ?_))
 refine Qaa (v:=pointer (some ⟨b2,0,none⟩)) rfl rfl rfl ?_
 refine Qaa (v:=int .i64 a6) rfl rfl rfl ?_
 obtain ⟨r7,Hr7,H⟩:=bind_get H
 have hs:St _ [_,_] _:=hs.pull 0 rfl
 have hs:=hs.pack 1
 refine QaB (args:=[pointer (some ⟨b2,0,none⟩),int .i64 a6]) rfl rfl (QaC rfl (callFunc_enter Tryz.func48 rfl rfl) rfl) (QaU.calls (a1:=(⟨a1.QaX,a1.Qa0,a1.QaV⟩:Qaq)) (a6:=a6) hs hr4 Hr7) ?_
 rintro _ w ⟨rfl,hs⟩
 have hs:=St.unpack (Γ:=[_]) hs
 have hs:St _ [_,_] _:=hs
 show G _ _ _ _ [_,_,_,_,_,_,_,_,_] _
 refine Qaa (v:=bool (r7.1==0)) rfl rfl rfl ?_
 refine Qaa (v:=bool (r7.1==0)) rfl rfl rfl (Qab ?_)
 obtain rfl:=QsJ H
 refine Qas Tryz.func49 (v:=bool (r7.1==0)) (res1 rfl rfl) ?_
 have hs:=hs.pull 1 rfl
 have hs:=hs.pull 1 rfl
 have hs:St _ [_,_] _:=St.take (Γ':=[]) hs
 exact ⟨_,rfl,rfl,hs⟩
def QaR.post (wb:World) (Z:As) (b2:Nat) (v3:Value) (r:((List Int)×(Ar Int 4)×Qaq)) (v:Value) (w:World):Prop:=∃ u1:Value,v=tuple #[u1,agg ((encA (encI .i16)) r.2.1).toArray]∧St wb [Row 26 (K.int .i16) u1 r.1,Cells b2 (([v3,int .i64 r.2.2.Qa0,int .u64 r.2.2.QaV]:List Value)) 81,Z] w
theorem QaR.calls {N:Nat} {a1:Qaq} {b2:Nat} {v3:Value} {wb:World} {Z:As} {w0:World} {r:((List Int)×(Ar Int 4)×Qaq)} (hs:St wb [Cells b2 (([v3,int .i64 a1.Qa0,int .u64 a1.QaV]:List Value)) 81,Z] w0) (hr4:RdRow (K.int .u8) wb v3 a1.QaX) (H:QaR.f N a1=some r):
 Calls Tryz.prog 22 #[pointer (some ⟨b2,0,none⟩)] w0 fun e w=>∃ v,e= .returned v∧QaR.post wb Z b2 v3 r v w:=by
 unfold QaR.f at H
 refine calls_of_g (n:=40) Tryz.func22 rfl rfl ?_
 show G _ _ _ _ [_,_,_,_,_,_,_,_,_,_,_,_,_,_,_,_,_,_,_,_,_,_,_,_,_,_,_,_,_,_,_,_,_,_,_,_,_,_,_,_,_] _
 refine Qad (Qag [0,1] rfl ?_)
 refine Qaa (v:=slice none 0 0) rfl rfl rfl ?_
 refine Qa8 hs rfl rfl (z:=(agg #[int .i16 0,int .i16 0,int .i16 0,int .i16 0])) (cs:=((encA (encI .i16)) (Ar.rep 4 0))) rfl (fun _=>rfl) rfl ?_
 intro b6 w hs
 show G _ _ _ _ [_,_,_,_,_,_,_,_,_,_,_,_,_,_,_,_,_,_,_,_,_,_,_,_,_,_,_,_,_,_,_,_,_,_,_,_,_,_,_,_,_] _
 refine Qab (Qad (Qag [0,1] rfl ?_))
 refine QbV (κ:=(K.int .i16)) hs rfl rfl rfl rfl (fun _=>rfl) ?_
 intro v8 w hs
 refine Qaa (v:=v8) rfl rfl rfl (Qab (Qad (Qag [0,1,2] rfl ?_)))
 refine Qaa (v:=agg ((encA (encI .i16)) (Ar.rep 4 0)).toArray) rfl rfl (QbK rfl rfl) ?_
 show G _ _ _ _ [_,_,_,_,_,_,_,_,_,_,_,_,_,_,_,_,_,_,_,_,_,_,_,_,_,_,_,_,_,_,_,_,_,_,_,_,_,_,_,_,_] _
 refine Qa8 hs rfl rfl (z:=(agg #[int .i16 0,int .i16 0,int .i16 0,int .i16 0])) (cs:=((encA (encI .i16)) (Ar.rep 4 0))) rfl (fun _=>rfl) rfl ?_
 intro b10 w hs
 refine QaH (n:=4) hs ((fkA (n:=4) (he:=(fkI .i16).len) (h1:=(fkI .i16).one)).len _) rfl rfl (vs:=((encA (encI .i16)) (Ar.rep 4 0))) rfl rfl rfl (fun _=>rfl) ((fkA (n:=4) (he:=(fkI .i16).len) (h1:=(fkI .i16).one)).len _) ((fkA (n:=4) (he:=(fkI .i16).len) (h1:=(fkI .i16).one)).one _) ?_
 intro w hs
 refine Qab (Qad (Qad (Qag [0,1,2,3] rfl ?_)))
 refine Qaa (v:=pointer (some ⟨b2,0,none⟩)) rfl rfl rfl ?_
 obtain ⟨r12,Hr12,H⟩:=bind_get H
 have hs:St _ [_,_,_,_,_] _:=hs.pull 3 rfl
 have hs:=hs.pack 1
 refine QaB (args:=[pointer (some ⟨b2,0,none⟩),int .i64 2]) rfl rfl (QaC rfl (callFunc_enter Tryz.func48 rfl rfl) rfl) (QaU.calls (a1:=(⟨a1.QaX,a1.Qa0,a1.QaV⟩:Qaq)) (a6:=2) hs hr4 Hr12) ?_
 rintro _ w ⟨rfl,hs⟩
 have hs:=St.unpack (Γ:=[_]) hs
 have hs:St _ [_,_,_,_,_] _:=hs
 refine Qaa (v:=int .i64 (i64w (1+r12.1))) rfl rfl rfl ?_
 show G _ _ _ _ [_,_,_,_,_,_,_,_,_,_,_,_,_,_,_,_,_,_,_,_,_,_,_,_,_,_,_,_,_,_,_,_,_,_,_,_,_,_,_,_,_] _
 refine Qaa (v:=int .i64 (i64w (1+r12.1))) rfl rfl rfl (Qab ?_)
 obtain ⟨o1_,Ho,Hr1_⟩:=bind_get H
 refine Qax (J:=fun t w=>∃ v52:Value,∃ x53:(List Int),∃ x55:(Ar Int 4),∃ x56:Int,∃ x57:Int,QaR.a0 N a1 x53 x55 x56 x57=some r∧Fr t (fun O=>([O 0,O 1,O 2,pointer (some ⟨b6,0,none⟩),v52,pointer (some ⟨b10,0,none⟩),O 6,O 7,O 8,O 9,O 10,O 11,O 12,O 13,O 14,O 15,O 16,O 17,O 18,O 19,O 20,O 21,O 22,O 23,O 24,O 25,O 26,O 27,O 28,O 29,O 30,O 31,O 32,O 33,O 34,O 35,O 36,O 37,O 38,O 39,O 40]:List Value))∧St wb [Cells b6 ((encA (encI .i16)) (Ar.rep 4 0)) 28,Row 26 (K.int .i16) v52 x53,Cells b10 ((encA (encI .i16)) x55) 28,Cells b2 (([v3,int .i64 x56,int .u64 x57]:List Value)) 81,Z] w) ?_ ?_
 ·
  rintro t w ⟨v52,x53,x55,x56,x57,H,hf,hs⟩
  obtain ⟨O,rfl⟩:=hf.open
  show G _ _ _ _ [_,_,_,_,_,_,_,_,_,_,_,_,_,_,_,_,_,_,_,_,_,_,_,_,_,_,_,_,_,_,_,_,_,_,_,_,_,_,_,_,_] _
  unfold QaR.a0 at H
  refine Qad ?_
  refine Qbe ?_
  intro T hT
  refine QbM (n:=4) rfl [0,1,2,3] [0,2,1,3] rfl rfl (Inv:=fun D t w=>∃ O:Nat→Value,t=[O 0,O 1,cnd (D 2) v52 (O 2),pointer (some ⟨b6,0,none⟩),v52,pointer (some ⟨b10,0,none⟩),O 6,O 7,O 8,O 9,O 10,O 11,O 12,O 13,O 14,O 15,O 16,O 17,O 18,O 19,O 20,O 21,O 22,O 23,O 24,O 25,O 26,O 27,O 28,O 29,O 30,O 31,O 32,O 33,O 34,O 35,O 36,O 37,O 38,cnd (D 0) v52 (O 39),cnd (D 1) (agg ((encA (encI .i16)) x55).toArray) (O 40)]∧St wb [Cells b6 (cnd (D 3) ((encA (encI .i16)) x55) ((encA (encI .i16)) (Ar.rep 4 0))) 28,Row 26 (K.int .i16) v52 x53,Cells b10 ((encA (encI .i16)) x55) 28,Cells b2 (([v3,int .i64 x56,int .u64 x57]:List Value)) 81,Z] w) ?_ ⟨⟨⟨⟨trivial,?_⟩,?_⟩,?_⟩,?_⟩ ?_
  ·
   intro w hh hbw
   have hs:=hs.samew hh hbw
   exact ⟨fun i=>T.getD i undef,(by subst hT;rfl),hs⟩
  ·
   rintro D t w hD hp hcl ⟨O,ht,hs⟩ rest hk
   have q2_:=nz hcl 2 0 hD
   have q3_:=nz hcl 3 1 q2_
   simp only [hD,q2_,q3_,cq,oT] at ht hs
   subst ht
   refine Qaa (v:=v52) rfl rfl rfl ?_
   show G _ _ _ _ [_,_,_,_,_,_,_,_,_,_,_,_,_,_,_,_,_,_,_,_,_,_,_,_,_,_,_,_,_,_,_,_,_,_,_,_,_,_,_,_,_] _
   refine hk _ _ ⟨O,?_,hs.cast ?_⟩<;>simp only [oT,lq,cq,Nat.reduceBEq,q2_,q3_]
  ·
   rintro D t w hD hp hcl ⟨O,ht,hs⟩ rest hk
   have q3_:=nz hcl 3 0 hD
   simp only [hD,q3_,cq,oT] at ht hs
   subst ht
   refine QaG rfl rfl (es:=((encA (encI .i16)) x55)) rfl rfl (fun _=>rfl) (n:=4) (fun _=>rfl) ((fkA (n:=4) (he:=(fkI .i16).len) (h1:=(fkI .i16).one)).len _) (cells_all (hs.cells 2 rfl)) ?_
   show G _ _ _ _ [_,_,_,_,_,_,_,_,_,_,_,_,_,_,_,_,_,_,_,_,_,_,_,_,_,_,_,_,_,_,_,_,_,_,_,_,_,_,_,_,_] _
   refine hk _ _ ⟨O,?_,hs.cast ?_⟩<;>simp only [oT,lq,cq,Nat.reduceBEq,q3_]
  ·
   rintro D t w hD hp hcl ⟨O,ht,hs⟩ rest hk
   obtain ⟨p0_,_,_⟩:=hp
   have q3_:=nz hcl 3 1 hD
   simp only [hD,p0_,q3_,cq,oT] at ht hs
   subst ht
   refine Qaa (v:=v52) rfl rfl rfl ?_
   show G _ _ _ _ [_,_,_,_,_,_,_,_,_,_,_,_,_,_,_,_,_,_,_,_,_,_,_,_,_,_,_,_,_,_,_,_,_,_,_,_,_,_,_,_,_] _
   refine hk _ _ ⟨O,?_,hs.cast ?_⟩<;>simp only [oT,lq,cq,Nat.reduceBEq,p0_,q3_]
  ·
   rintro D t w hD hp hcl ⟨O,ht,hs⟩ rest hk
   obtain ⟨p1_,p2_,p0_,_,_,_⟩:=hp
   simp only [hD,p0_,p1_,p2_,cq,oT] at ht hs
   subst ht
   refine QaH (n:=4) hs ((fkA (n:=4) (he:=(fkI .i16).len) (h1:=(fkI .i16).one)).len _) rfl rfl (vs:=((encA (encI .i16)) x55)) rfl rfl rfl (fun _=>rfl) ((fkA (n:=4) (he:=(fkI .i16).len) (h1:=(fkI .i16).one)).len _) ((fkA (n:=4) (he:=(fkI .i16).len) (h1:=(fkI .i16).one)).one _) ?_
   intro w hs
   show G _ _ _ _ [_,_,_,_,_,_,_,_,_,_,_,_,_,_,_,_,_,_,_,_,_,_,_,_,_,_,_,_,_,_,_,_,_,_,_,_,_,_,_,_,_] _
   have hs:=hs.push 0 (by simp)
   refine hk _ _ ⟨O,?_,hs.cast ?_⟩<;>simp only [oT,lq,cq,Nat.reduceBEq,p0_,p1_,p2_]
  intro D t w hall hI
  obtain ⟨O,ht,hs⟩:=hI
  have p0_:=hall 0 (by decide)
  have p1_:=hall 1 (by decide)
  have p2_:=hall 2 (by decide)
  have p3_:=hall 3 (by decide)
  simp only [p0_,p1_,p2_,p3_,cq,oT] at ht hs
  subst ht
  obtain rfl:=QsJ H
  refine Qas Tryz.func22 (v:=tuple #[v52,agg ((encA (encI .i16)) x55).toArray]) (resN (l:=Tryz.f22.results.toList) (vs:=[v52,agg ((encA (encI .i16)) x55).toArray]) rfl ⟨rfl,⟨_,rfl,(run_loadVar_agg (es:=((encA (encI .i16)) x55)) rfl (congrArg (Result.ok · _) ((fkA (n:=4) (he:=(fkI .i16).len) (h1:=(fkI .i16).one)).len _).symm) (cells_all (hs.cells 0 rfl)))⟩,trivial⟩ (by simp)) ?_
  have hs:=hs.pull 4 rfl
  have hs:=hs.pull 4 rfl
  have hs:=hs.pull 3 rfl
  have hs:St _ [_,_,_] _:=St.take (Γ':=[_,_]) hs
  exact ⟨_,rfl,v52,rfl,hs⟩
 intro ha1_
 have hs:=hs.pull 4 rfl
 have hs:=hs.pull 2 rfl
 have hs:=hs.pull 3 rfl
 have hs:=hs.pull 4 rfl
 have hs:=hs.pull 4 rfl
 have hs:St _ [_,_,_,_,_] _:=St.take (Γ':=[]) hs
 refine QaL (I:=fun n_ t w=>∃ x31:Int,∃ x32:Int,∃ v34:Value,∃ x35:(List Int),∃ x36:(Ar Int 4),∃ x37:Int,rounds (fun s=>QaR.b0 N a1 s.1 s.2.1 s.2.2.1 s.2.2.2.1 s.2.2.2.2) n_ (x31,x32,x35,x36,x37)=some o1_∧Fr t (fun O=>([pointer (some ⟨b2,0,none⟩),O 1,O 2,pointer (some ⟨b6,0,none⟩),v34,pointer (some ⟨b10,0,none⟩),int .i64 x37,O 7,O 8,O 9,O 10,O 11,O 12,O 13,O 14,O 15,O 16,O 17,O 18,O 19,O 20,O 21,O 22,O 23,O 24,O 25,O 26,O 27,O 28,O 29,O 30,O 31,O 32,O 33,O 34,O 35,O 36,O 37,O 38,O 39,O 40]:List Value))∧St wb [Cells b2 (([v3,int .i64 x31,int .u64 x32]:List Value)) 81,Cells b6 ((encA (encI .i16)) (Ar.rep 4 0)) 28,Row 26 (K.int .i16) v34 x35,Cells b10 ((encA (encI .i16)) x36) 28,Z] w) N ⟨r12.2.Qa0,r12.2.QaV,v8,([]:List Int),(Ar.rep 4 0),i64w (1+r12.1),Ho,rfl,hs⟩ ?_ ?_
 ·
  rintro _ _ ⟨x31,x32,v34,x35,x36,x37,h,_⟩
  exact rounds_zero h
 intro n_ ih1_
 rintro t w ⟨x31,x32,v34,x35,x36,x37,Ho,hf,hs⟩
 obtain ⟨O,rfl⟩:=hf.open
 show G _ _ _ _ [_,_,_,_,_,_,_,_,_,_,_,_,_,_,_,_,_,_,_,_,_,_,_,_,_,_,_,_,_,_,_,_,_,_,_,_,_,_,_,_,_] _
 obtain ⟨x7_,H,Hx1_⟩:=rounds_succ Ho
 have H:QaR.b0 N a1 x31 x32 x35 x36 x37=some x7_:=H
 unfold QaR.b0 at H
 refine Qad (Qad (Qag [0,1] rfl ?_))
 refine Qaa (v:=int .i64 x37) rfl rfl rfl ?_
 refine Qap (B:=decide (x37>0)) rfl rfl rfl ?_ ?_
 ·
  intro hb
  rw [if_pos (b_dec_t hb)] at H
  show G _ _ _ _ [_,_,_,_,_,_,_,_,_,_,_,_,_,_,_,_,_,_,_,_,_,_,_,_,_,_,_,_,_,_,_,_,_,_,_,_,_,_,_,_,_] _
  refine Qab (Qah rfl (Qay (Qad ?_)))
  refine Qax (J:=(fun t w=>∃ x46:Int,∃ x47:Int,∃ v48:Value,∃ x49:(List Int),∃ x51:(Ar Int 4),QaR.j2 N x37 x46 x47 x49 x51=some x7_∧Fr t (fun O=>([pointer (some ⟨b2,0,none⟩),O 1,O 2,pointer (some ⟨b6,0,none⟩),v48,pointer (some ⟨b10,0,none⟩),int .i64 x37,O 7,O 8,O 9,O 10,O 11,O 12,O 13,O 14,O 15,O 16,O 17,O 18,O 19,O 20,O 21,O 22,O 23,O 24,O 25,O 26,O 27,O 28,O 29,O 30,O 31,O 32,O 33,O 34,O 35,O 36,O 37,O 38,O 39,O 40]:List Value))∧St wb [Cells b2 (([v3,int .i64 x46,int .u64 x47]:List Value)) 81,Cells b6 ((encA (encI .i16)) (Ar.rep 4 0)) 28,Row 26 (K.int .i16) v48 x49,Cells b10 ((encA (encI .i16)) x51) 28,Z] w)) ?_ ?_
  ·
   rintro t w ⟨x46,x47,v48,x49,x51,H,hf,hs⟩
   obtain ⟨O,rfl⟩:=hf.open
   show G _ _ _ _ [_,_,_,_,_,_,_,_,_,_,_,_,_,_,_,_,_,_,_,_,_,_,_,_,_,_,_,_,_,_,_,_,_,_,_,_,_,_,_,_,_] _
   unfold QaR.j2 at H
   refine Qag [0,1,2] rfl ?_
   refine Qaa (v:=int .i64 x37) rfl rfl rfl ?_
   refine Qaa (v:=int .i64 (i64w (x37 - 1))) rfl rfl rfl ?_
   refine Qaa (v:=int .i64 (i64w (x37 - 1))) rfl rfl rfl ?_
   show G _ _ _ _ [_,_,_,_,_,_,_,_,_,_,_,_,_,_,_,_,_,_,_,_,_,_,_,_,_,_,_,_,_,_,_,_,_,_,_,_,_,_,_,_,_] _
   refine Qab ?_
   obtain rfl:=QsJ H
   have hs:=hs.pull 4 rfl
   have hs:=hs.pull 4 rfl
   have hs:=hs.pull 4 rfl
   have hs:=hs.pull 4 rfl
   have hs:=hs.pull 4 rfl
   have hs:St _ [_,_,_,_,_] _:=St.take (Γ':=[]) hs
   exact ih1_ _ _ ⟨x46,x47,v48,x49,x51,i64w (x37 - 1),Hx1_,rfl,hs⟩
  intro ha
  refine Qad (Qag [0,1,2] rfl ?_)
  refine Qaa (v:=v34) rfl rfl rfl ?_
  refine Qbc (hs.row 2 rfl) rfl rfl rfl rfl rfl ?_
  refine Qaa (v:=int .i64 (x35.length:Int)) rfl rfl rfl (Qab (Qad (Qag [0,1,2,3,4,5,6,7] rfl ?_)))
  refine Qaa (v:=v34) rfl rfl rfl ?_
  refine Qaa (v:=pointer (some ⟨b2,0,none⟩)) rfl rfl rfl ?_
  obtain ⟨r38,Hr38,H⟩:=bind_get H
  have hs:St _ [_,_,_,_,_] _:=hs.pull 0 rfl
  have hs:=hs.pack 1
  refine QaB (args:=[pointer (some ⟨b2,0,none⟩),int .i64 9]) rfl rfl (QaC rfl (callFunc_enter Tryz.func48 rfl rfl) rfl) (QaU.calls (a1:=(⟨a1.QaX,x31,x32⟩:Qaq)) (a6:=9) hs hr4 Hr38) ?_
  rintro _ w ⟨rfl,hs⟩
  have hs:=St.unpack (Γ:=[_]) hs
  have hs:St _ [_,_,_,_,_] _:=hs
  show G _ _ _ _ [_,_,_,_,_,_,_,_,_,_,_,_,_,_,_,_,_,_,_,_,_,_,_,_,_,_,_,_,_,_,_,_,_,_,_,_,_,_,_,_,_] _
  refine Qaa (v:=int .i64 (i64w (1+r38.1))) rfl rfl rfl ?_
  refine Qaa (v:=int .i16 (i16w (i64w (1+r38.1)))) rfl rfl rfl ?_
  show G _ _ _ _ [_,_,_,_,_,_,_,_,_,_,_,_,_,_,_,_,_,_,_,_,_,_,_,_,_,_,_,_,_,_,_,_,_,_,_,_,_,_,_,_,_] _
  refine QbZ (fkI .i16) (y:=i16w (i64w (1+r38.1))) hs rfl rfl rfl rfl (fun _=>rfl) (zv:=(int .i16 0)) (fun _=>rfl) rfl (by decide) (by decide) rfl ?_
  intro v39 w hs
  show G _ _ _ _ [_,_,_,_,_,_,_,_,_,_,_,_,_,_,_,_,_,_,_,_,_,_,_,_,_,_,_,_,_,_,_,_,_,_,_,_,_,_,_,_,_] _
  have hs:St _ [_,_,_,_,_,_] _:=hs.pull 3 rfl
  obtain ⟨g,H⟩:=ite_get H
  refine QbU (fkI .i16) (zv:=(int .i16 0)) (B:=2) hs (hs.row 1 rfl) rfl rfl rfl rfl rfl rfl rfl rfl rfl (by decide) rfl rfl (by decide) (by omega) ?_
  intro v41 w hs
  refine Qaa (v:=v41) rfl rfl rfl (Qab (Qad (Qag [0,1] rfl ?_)))
  refine Qaa (v:=pointer (some ⟨b2,0,none⟩)) rfl rfl rfl ?_
  obtain ⟨r43,Hr43,H⟩:=bind_get H
  have hs:St _ [_,_,_,_,_,_] _:=hs.pull 2 rfl
  have hs:=hs.pack 1
  refine QaB (args:=[pointer (some ⟨b2,0,none⟩),int .i64 4]) rfl rfl (QaC rfl (callFunc_enter Tryz.func49 rfl rfl) rfl) (Qbm.calls (a1:=(⟨a1.QaX,r38.2.Qa0,r38.2.QaV⟩:Qaq)) (a6:=4) hs hr4 Hr43) ?_
  rintro _ w ⟨rfl,hs⟩
  have hs:=St.unpack (Γ:=[_]) hs
  have hs:St _ [_,_,_,_,_,_] _:=hs
  generalize hb4_:r43.1=b_ at H ⊢
  cases b_ with
  |true=>
   rw [if_pos rfl] at H
   refine Qab (Qah rfl (Qag [0,1,2,3,4,5,6,7,8,9,10,11] rfl ?_))
   refine Qaa (v:=int .i64 (x35.length:Int)) rfl rfl rfl ?_
   refine Qaa (v:=pointer (some ⟨b2,0,none⟩)) rfl rfl rfl ?_
   refine Qaa (v:=v41) rfl rfl rfl ?_
   refine Qaa (v:=int .i64 (x35.length:Int)) rfl rfl rfl ?_
   obtain ⟨g5,H⟩:=ite_get H
   refine Qbb (fkI .i16) 0 (hs.row 1 rfl) rfl (fun _=>rfl) g5.1 g5.2 rfl rfl rfl rfl rfl ?_
   intro p44 hp44 lp44 op44
   refine Qat rfl rfl (v:=int .i16 (rdL (x35++([i16w (i64w (1+r38.1))])) (x35.length:Int) 0)) rfl rfl (fun _=>rfl) hp44 ?_
   show G _ _ _ _ [_,_,_,_,_,_,_,_,_,_,_,_,_,_,_,_,_,_,_,_,_,_,_,_,_,_,_,_,_,_,_,_,_,_,_,_,_,_,_,_,_] _
   refine Qaa (v:=int .i64 (i64w (rdL (x35++([i16w (i64w (1+r38.1))])) (x35.length:Int) 0))) rfl rfl rfl ?_
   refine Qaa (v:=int .i64 (i64w ((i64w (rdL (x35++([i16w (i64w (1+r38.1))])) (x35.length:Int) 0))+1))) rfl rfl rfl ?_
   obtain ⟨r45,Hr45,H⟩:=bind_get H
   have hs:St _ [_,_,_,_,_,_] _:=hs.pull 0 rfl
   have hs:=hs.pack 1
   refine QaB (args:=[pointer (some ⟨b2,0,none⟩),int .i64 (i64w ((i64w (rdL (x35++([i16w (i64w (1+r38.1))])) (x35.length:Int) 0))+1))]) rfl rfl (QaC rfl (callFunc_enter Tryz.func48 rfl rfl) rfl) (QaU.calls (a1:=(⟨a1.QaX,r43.2.Qa0,r43.2.QaV⟩:Qaq)) (a6:=i64w ((i64w (rdL (x35++([i16w (i64w (1+r38.1))])) (x35.length:Int) 0))+1)) hs hr4 Hr45) ?_
   rintro _ w ⟨rfl,hs⟩
   have hs:=St.unpack (Γ:=[_]) hs
   have hs:St _ [_,_,_,_,_,_] _:=hs
   refine Qaa (v:=int .i16 (i16w r45.1)) rfl rfl rfl ?_
   obtain ⟨g6,H⟩:=ite_get H
   refine Qbp (n:=(x35.length:Int)) (m:=1) rfl (fun _=>rfl) g6.1 g6.2 rfl rfl rfl rfl rfl ?_
   show G _ _ _ _ [_,_,_,_,_,_,_,_,_,_,_,_,_,_,_,_,_,_,_,_,_,_,_,_,_,_,_,_,_,_,_,_,_,_,_,_,_,_,_,_,_] _
   have hs:St _ [_,_,_,_,_,_] _:=hs.pull 4 rfl
   refine QbN (y:=i16w r45.1) (fkI .i16).len (fkI .i16).one g6.1 g6.2 hs rfl rfl rfl rfl rfl (fun _=>rfl) ?_
   intro w hs
   refine Qab ?_
   refine QaE ?_
   have hs:=hs.pull 5 rfl
   have hs:=hs.pull 1 rfl
   have hs:=hs.pull 3 rfl
   have hs:=hs.pull 5 rfl
   have hs:=hs.pull 4 rfl
   have hs:St _ [_,_,_,_,_] _:=St.take (Γ':=[_]) hs
   exact ha _ _ ⟨r45.2.Qa0,r45.2.QaV,v41,x35++([i16w (i64w (1+r38.1))]),x36.set (x35.length:Int) (i16w r45.1),H,rfl,hs⟩
  |false=>
   rw [if_neg Bool.false_ne_true] at H
   show G _ _ _ _ [_,_,_,_,_,_,_,_,_,_,_,_,_,_,_,_,_,_,_,_,_,_,_,_,_,_,_,_,_,_,_,_,_,_,_,_,_,_,_,_,_] _
   refine Qab (Qal rfl (Qay ?_))
   refine QaE ?_
   have hs:=hs.pull 5 rfl
   have hs:=hs.pull 5 rfl
   have hs:=hs.pull 3 rfl
   have hs:=hs.pull 5 rfl
   have hs:=hs.pull 4 rfl
   have hs:St _ [_,_,_,_,_] _:=St.take (Γ':=[_]) hs
   exact ha _ _ ⟨r43.2.Qa0,r43.2.QaV,v41,x35++([i16w (i64w (1+r38.1))]),x36,H,rfl,hs⟩
 intro hb
 rw [if_neg (b_dec_f hb)] at H
 refine Qab (Qal rfl ?_)
 obtain rfl:=QsJ H
 subst Hx1_
 have hs:=hs.pull 4 rfl
 have hs:=hs.pull 1 rfl
 have hs:=hs.pull 4 rfl
 have hs:=hs.pull 4 rfl
 have hs:=hs.pull 4 rfl
 have hs:St _ [_,_,_,_,_] _:=St.take (Γ':=[]) hs
 refine Qa7 rfl ?_
 exact ha1_ _ _ ⟨v34,x35,x36,x31,x32,Hr1_,rfl,hs⟩
def Qbu.post (w0:World) (r:((List Int)×(Ar Int 4))) (v:Value) (w:World):Prop:=∃ u1:Value,v=tuple #[u1,agg ((encA (encI .i16)) r.2).toArray]∧St w0 [Row 26 (K.int .i16) u1 r.1] w
theorem Qbu.calls {N:Nat} {a1:(List Int)} {v2:Value} {w0:World} {r:((List Int)×(Ar Int 4))} (hr0:RdRow (K.int .u8) w0 v2 a1) (H:Qbu.f N a1=some r):
 Calls Tryz.prog 5 #[v2] w0 fun e w=>∃ v,e= .returned v∧Qbu.post w0 r v w:=by
 unfold Qbu.f at H
 have hs:St w0 [] w0:=St.refl w0
 refine calls_of_g (n:=8) Tryz.func5 rfl rfl ?_
 show G _ _ _ _ [_,_,_,_,_,_,_,_,_] _
 refine Qad (Qag [0,1] rfl ?_)
 refine Qaa (v:=slice none 0 0) rfl rfl rfl ?_
 refine Qa8 hs rfl rfl (z:=(agg #[int .i16 0,int .i16 0,int .i16 0,int .i16 0])) (cs:=((encA (encI .i16)) (Ar.rep 4 0))) rfl (fun _=>rfl) rfl ?_
 intro b3 w hs
 show G _ _ _ _ [_,_,_,_,_,_,_,_,_] _
 refine Qab (Qad (Qag [0,1,2,3,4,5,6] rfl ?_))
 refine Qaa (v:=v2) rfl rfl rfl ?_
 obtain ⟨r5,Hr5,H⟩:=bind_get H
 refine QaB (args:=[v2]) rfl rfl (QaC rfl (callFunc_enter Tryz.func23 rfl rfl) rfl) (QbJ.calls (a1:=a1) (hs.rd hr0) Hr5) ?_
 rintro _ w ⟨b6,rfl,hs2⟩
 have hs:St _ [_,_] _:=hs.call hs2
 obtain ⟨r8,Hr8,H⟩:=bind_get H
 have hs:St _ [_,_] _:=hs.pull 0 rfl
 have hs:=hs.pack 1
 refine QaB (args:=[pointer (some ⟨b6,0,none⟩)]) rfl rfl (QaC rfl (callFunc_enter Tryz.func22 rfl rfl) rfl) (QaR.calls (a1:=(⟨a1,r5.Qa0,r5.QaV⟩:Qaq)) hs hr0 Hr8) ?_
 rintro _ w ⟨v9,rfl,hs⟩
 have hs:=St.unpack (Γ:=[_,_]) hs
 have hs:St _ [_,_,_] _:=hs
 show G _ _ _ _ [_,_,_,_,_,_,_,_,_] _
 refine Qaa (v:=v9) rfl rfl rfl ?_
 refine Qaa (v:=agg ((encA (encI .i16)) r8.2.1).toArray) rfl rfl rfl ?_
 refine Qaa (v:=v9) rfl rfl rfl ?_
 show G _ _ _ _ [_,_,_,_,_,_,_,_,_] _
 have hs:St _ [_,_,_] _:=hs.pull 2 rfl
 refine QaH (n:=4) hs ((fkA (n:=4) (he:=(fkI .i16).len) (h1:=(fkI .i16).one)).len _) rfl rfl (vs:=((encA (encI .i16)) r8.2.1)) rfl rfl rfl (fun _=>rfl) ((fkA (n:=4) (he:=(fkI .i16).len) (h1:=(fkI .i16).one)).len _) ((fkA (n:=4) (he:=(fkI .i16).len) (h1:=(fkI .i16).one)).one _) ?_
 intro w hs
 refine Qab ?_
 obtain rfl:=QsJ H
 refine Qas Tryz.func5 (v:=tuple #[v9,agg ((encA (encI .i16)) r8.2.1).toArray]) (resN (l:=Tryz.f5.results.toList) (vs:=[v9,agg ((encA (encI .i16)) r8.2.1).toArray]) rfl ⟨rfl,⟨_,rfl,(run_loadVar_agg (es:=((encA (encI .i16)) r8.2.1)) rfl (congrArg (Result.ok · _) ((fkA (n:=4) (he:=(fkI .i16).len) (h1:=(fkI .i16).one)).len _).symm) (cells_all (hs.cells 0 rfl)))⟩,trivial⟩ (by simp)) ?_
 have hs:=hs.pull 1 rfl
 have hs:St _ [_] _:=St.take (Γ':=[_,_]) hs
 exact ⟨_,rfl,v9,rfl,hs⟩
def QbI.post (w0:World) (r:Int) (v:Value) (w:World):Prop:=v=int .i64 r∧St w0 [] w
theorem QbI.calls {N:Nat} {a1:(List Int)} {a3:Int} {a4:Int} {v2:Value} {w0:World} {r:Int} (hr0:RdRow (K.int .u8) w0 v2 a1) (H:QbI.f N a1 a3 a4=some r):
 Calls Tryz.prog 6 #[v2,int .i64 a3,int .i64 a4] w0 fun e w=>∃ v,e= .returned v∧QbI.post w0 r v w:=by
 unfold QbI.f at H
 have hs:St w0 [] w0:=St.refl w0
 refine calls_of_g (n:=19) Tryz.func6 rfl rfl ?_
 show G _ _ _ _ [_,_,_,_,_,_,_,_,_,_,_,_,_,_,_,_,_,_,_,_,_,_] _
 refine Qad (Qag [0] rfl ?_)
 refine Qaa (v:=int .i64 0) rfl rfl rfl ?_
 show G _ _ _ _ [_,_,_,_,_,_,_,_,_,_,_,_,_,_,_,_,_,_,_,_,_,_] _
 refine Qab (Qad (Qad (Qag [0,1,2,3,4,5,6,7] rfl ?_)))
 refine Qaa (v:=int .i64 a3) rfl rfl rfl ?_
 refine Qaa (v:=v2) rfl rfl rfl ?_
 refine Qbc (hs.rd hr0) rfl rfl rfl rfl rfl ?_
 show G _ _ _ _ [_,_,_,_,_,_,_,_,_,_,_,_,_,_,_,_,_,_,_,_,_,_] _
 refine Qap (B:=decide (a3≥(a1.length:Int))) rfl rfl rfl ?_ ?_
 ·
  intro hb
  rw [if_pos (b_dec_t hb)] at H
  refine Qaa (v:=bool true) rfl rfl rfl (Qac rfl rfl ?_)
  show G _ _ _ _ [_,_,_,_,_,_,_,_,_,_,_,_,_,_,_,_,_,_,_,_,_,_] _
  refine Qac rfl rfl ?_
  refine Qaa (v:=bool true) rfl rfl rfl (Qab (Qah rfl (Qad (Qag [0] rfl ?_))))
  refine Qaa (v:=int .i64 0) rfl rfl rfl ?_
  show G _ _ _ _ [_,_,_,_,_,_,_,_,_,_,_,_,_,_,_,_,_,_,_,_,_,_] _
  refine Qab ?_
  obtain rfl:=QsJ H
  refine Qas Tryz.func6 (v:=int .i64 0) (res1 rfl rfl) ?_
  have hs:St _ [] _:=St.take (Γ':=[]) hs
  exact ⟨_,rfl,rfl,hs⟩
 intro hb
 rw [if_neg (b_dec_f hb)] at H
 refine Qaa (v:=bool false) rfl rfl rfl ?_
 refine Qaa (v:=int .i64 a4) rfl rfl rfl ?_
 show G _ _ _ _ [_,_,_,_,_,_,_,_,_,_,_,_,_,_,_,_,_,_,_,_,_,_] _
 refine Qap (B:=decide (a4< 1)) rfl rfl rfl ?_ ?_
 ·
  intro hb
  rw [if_pos (b_dec_t hb)] at H
  refine Qaa (v:=bool true) rfl rfl rfl (Qab (Qah rfl (Qad (Qag [0] rfl ?_))))
  refine Qaa (v:=int .i64 0) rfl rfl rfl ?_
  show G _ _ _ _ [_,_,_,_,_,_,_,_,_,_,_,_,_,_,_,_,_,_,_,_,_,_] _
  refine Qab ?_
  obtain rfl:=QsJ H
  refine Qas Tryz.func6 (v:=int .i64 0) (res1 rfl rfl) ?_
  have hs:St _ [] _:=St.take (Γ':=[]) hs
  exact ⟨_,rfl,rfl,hs⟩
 intro hb
 rw [if_neg (b_dec_f hb)] at H
 refine Qaa (v:=bool false) rfl rfl rfl (Qab (Qal rfl (Qay (Qad (Qag [0,1,2,3,4,5,6,7] rfl ?_)))))
 refine Qaa (v:=v2) rfl rfl rfl ?_
 show G _ _ _ _ [_,_,_,_,_,_,_,_,_,_,_,_,_,_,_,_,_,_,_,_,_,_] _
 refine Qaa (v:=int .i64 a3) rfl rfl rfl ?_
 obtain ⟨g1,H⟩:=ite_get H
 refine Qbb (fkI .u8) 0 (hs.rd hr0) rfl (fun _=>rfl) g1.1 g1.2 rfl rfl rfl rfl rfl ?_
 intro p5 hp5 lp5 op5
 refine Qat rfl rfl (v:=int .u8 (rdL a1 a3 0)) rfl rfl (fun _=>rfl) hp5 ?_
 show G _ _ _ _ [_,_,_,_,_,_,_,_,_,_,_,_,_,_,_,_,_,_,_,_,_,_] _
 refine Qaa (v:=int .i64 (i64w (rdL a1 a3 0))) rfl rfl rfl ?_
 refine Qaa (v:=int .i64 a4) rfl rfl rfl ?_
 obtain ⟨g2,H⟩:=ite_get H
 refine Qaa (v:=int .i64 ((i64w (rdL a1 a3 0)).tmod a4)) rfl rfl (QbP rfl rfl rfl g2) ?_
 show G _ _ _ _ [_,_,_,_,_,_,_,_,_,_,_,_,_,_,_,_,_,_,_,_,_,_] _
 refine Qaa (v:=int .i64 ((i64w (rdL a1 a3 0)).tmod a4)) rfl rfl rfl (Qab ?_)
 obtain rfl:=QsJ H
 refine Qas Tryz.func6 (v:=int .i64 ((i64w (rdL a1 a3 0)).tmod a4)) (res1 rfl rfl) ?_
 have hs:St _ [] _:=St.take (Γ':=[]) hs
 exact ⟨_,rfl,rfl,hs⟩
def Qbw.post (w0:World) (r:Int) (v:Value) (w:World):Prop:=v=int .i64 r∧St w0 [] w
theorem Qbw.calls {N:Nat} {a1:(List Int)} {v2:Value} {w0:World} {r:Int} (hr0:RdRow (K.int .i16) w0 v2 a1) (H:Qbw.f N a1=some r):
 Calls Tryz.prog 34 #[v2] w0 fun e w=>∃ v,e= .returned v∧Qbw.post w0 r v w:=by
 unfold Qbw.f at H
 have hs:St w0 [] w0:=St.refl w0
 refine calls_of_g (n:=4) Tryz.func34 rfl rfl ?_
 show G _ _ _ _ [_,_,_,_,_] _
 refine Qad (Qag [0] rfl ?_)
 refine Qaa (v:=int .i64 0) rfl rfl rfl (Qab (Qad (Qag [0,1,2] rfl ?_)))
 refine Qaa (v:=v2) rfl rfl rfl ?_
 refine Qbc (hs.rd hr0) rfl rfl rfl rfl rfl ?_
 show G _ _ _ _ [_,_,_,_,_] _
 refine Qaa (v:=int .i64 (a1.length:Int)) rfl rfl rfl (Qab ?_)
 obtain rfl:=QsJ H
 refine Qas Tryz.func34 (v:=int .i64 (a1.length:Int)) (res1 rfl rfl) ?_
 have hs:St _ [] _:=St.take (Γ':=[]) hs
 exact ⟨_,rfl,rfl,hs⟩
def Qbl.post (w0:World) (r:Bool) (v:Value) (w:World):Prop:=v=bool r∧St w0 [] w
theorem Qbl.calls {N:Nat} {a1:Int} {a2:Int} {a3:Int} {w0:World} {r:Bool} (H:Qbl.f N a1 a2 a3=some r):
 Calls Tryz.prog 33 #[int .i64 a1,int .i64 a2,int .i64 a3] w0 fun e w=>∃ v,e= .returned v∧Qbl.post w0 r v w:=by
 unfold Qbl.f at H
 have hs:St w0 [] w0:=St.refl w0
 refine calls_of_g (n:=12) Tryz.func33 rfl rfl ?_
 show G _ _ _ _ [_,_,_,_,_,_,_,_,_,_,_,_,_,_,_] _
 refine Qad (Qag [0] rfl ?_)
 refine Qaa (v:=bool false) rfl rfl rfl (Qab (Qad (Qag [0,1,2,3,4,5,6,7,8] rfl ?_)))
 refine Qaa (v:=int .i64 a2) rfl rfl rfl ?_
 show G _ _ _ _ [_,_,_,_,_,_,_,_,_,_,_,_,_,_,_] _
 refine Qaa (v:=int .i64 a1) rfl rfl rfl ?_
 refine Qap (B:=decide (a2≤a1)) rfl rfl rfl ?_ ?_
 ·
  intro hb
  rw [if_pos (b_dec_t hb)] at H
  show G _ _ _ _ [_,_,_,_,_,_,_,_,_,_,_,_,_,_,_] _
  refine Qaa (v:=bool true) rfl rfl rfl ?_
  refine Qaa (v:=int .i64 a1) rfl rfl rfl ?_
  refine Qaa (v:=int .i64 a3) rfl rfl rfl ?_
  show G _ _ _ _ [_,_,_,_,_,_,_,_,_,_,_,_,_,_,_] _
  refine Qaa (v:=bool (decide (a1≤a3))) rfl rfl rfl ?_
  refine Qaa (v:=bool (decide (a1≤a3))) rfl rfl rfl ?_
  refine Qaa (v:=bool (decide (a1≤a3))) rfl rfl rfl ?_
  show G _ _ _ _ [_,_,_,_,_,_,_,_,_,_,_,_,_,_,_] _
  refine Qab ?_
  obtain rfl:=QsJ H
  refine Qas Tryz.func33 (v:=bool (decide (a1≤a3))) (res1 rfl rfl) ?_
  have hs:St _ [] _:=St.take (Γ':=[]) hs
  exact ⟨_,rfl,rfl,hs⟩
 intro hb
 rw [if_neg (b_dec_f hb)] at H
 refine Qaa (v:=bool false) rfl rfl rfl ?_
 show G _ _ _ _ [_,_,_,_,_,_,_,_,_,_,_,_,_,_,_] _
 refine Qac rfl rfl (Qac rfl rfl (Qac rfl rfl ?_))
 show G _ _ _ _ [_,_,_,_,_,_,_,_,_,_,_,_,_,_,_] _
 refine Qaa (v:=bool false) rfl rfl rfl ?_
 refine Qaa (v:=bool false) rfl rfl rfl (Qab ?_)
 obtain rfl:=QsJ H
 refine Qas Tryz.func33 (v:=bool false) (res1 rfl rfl) ?_
 have hs:St _ [] _:=St.take (Γ':=[]) hs
 exact ⟨_,rfl,rfl,hs⟩
def Qbj.post (w0:World) (r:Bool) (v:Value) (w:World):Prop:=v=bool r∧St w0 [] w
theorem Qbj.calls {N:Nat} {a1:Int} {w0:World} {r:Bool} (H:Qbj.f N a1=some r):
 Calls Tryz.prog 36 #[int .i16 a1] w0 fun e w=>∃ v,e= .returned v∧Qbj.post w0 r v w:=by
 unfold Qbj.f at H
 have hs:St w0 [] w0:=St.refl w0
 refine calls_of_g (n:=8) Tryz.func36 rfl rfl ?_
 show G _ _ _ _ [_,_,_,_,_,_,_,_,_] _
 refine Qad (Qag [0] rfl ?_)
 refine Qaa (v:=bool false) rfl rfl rfl (Qab (Qad (Qag [0,1,2,3,4,5,6] rfl ?_)))
 refine Qaa (v:=int .i16 a1) rfl rfl rfl ?_
 show G _ _ _ _ [_,_,_,_,_,_,_,_,_] _
 refine Qap (B:=decide (a1< 1)) rfl rfl rfl ?_ ?_
 ·
  intro hb
  rw [if_pos (b_dec_t hb)] at H
  refine Qaa (v:=bool true) rfl rfl rfl (Qac rfl rfl ?_)
  show G _ _ _ _ [_,_,_,_,_,_,_,_,_] _
  refine Qac rfl rfl ?_
  refine Qaa (v:=bool true) rfl rfl rfl ?_
  refine Qaa (v:=bool true) rfl rfl rfl ?_
  show G _ _ _ _ [_,_,_,_,_,_,_,_,_] _
  refine Qab ?_
  obtain rfl:=QsJ H
  refine Qas Tryz.func36 (v:=bool true) (res1 rfl rfl) ?_
  have hs:St _ [] _:=St.take (Γ':=[]) hs
  exact ⟨_,rfl,rfl,hs⟩
 intro hb
 rw [if_neg (b_dec_f hb)] at H
 refine Qaa (v:=bool false) rfl rfl rfl ?_
 refine Qaa (v:=int .i16 a1) rfl rfl rfl ?_
 show G _ _ _ _ [_,_,_,_,_,_,_,_,_] _
 refine Qaa (v:=bool (decide (a1>40))) rfl rfl rfl ?_
 refine Qaa (v:=bool (decide (a1>40))) rfl rfl rfl ?_
 refine Qaa (v:=bool (decide (a1>40))) rfl rfl rfl ?_
 show G _ _ _ _ [_,_,_,_,_,_,_,_,_] _
 refine Qab ?_
 obtain rfl:=QsJ H
 refine Qas Tryz.func36 (v:=bool (decide (a1>40))) (res1 rfl rfl) ?_
 have hs:St _ [] _:=St.take (Γ':=[]) hs
 exact ⟨_,rfl,rfl,hs⟩
end Go.Proofs.YtgoninfjneepfaaGreatDoorX
