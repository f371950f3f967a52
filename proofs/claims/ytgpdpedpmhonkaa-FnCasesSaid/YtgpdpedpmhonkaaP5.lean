import Derived.Test.YtgpdpedpmhonkaaProg
import Derived.Test.YtgpdpedpmhonkaaP3
import Derived.Test.YtgpdpedpmhonkaaP4
namespace Go.Proofs.YtgpdpedpmhonkaaX
open Go Go.RowKit Go.Proofs
open Go.Value (int pointer bool agg slice string tuple)
set_option maxHeartbeats 8000000
set_option maxRecDepth 100000
set_option linter.unusedVariables false
set_option linter.unusedSimpArgs false
theorem QcN:Try.prog.eqGuardType Try.prog.depth 53=false:=by kernel_rfl
theorem QcO (a b:Qai) (w:World):(Op.equal 53 (.agg (Qau a).toArray) (.agg (Qau b).toArray)).run Try.prog w= .ok (decide (a=b)) w:=by
 have q:=equal_struct (w:=w) (xs:=(Qau a).toArray) (ys:=(Qau b).toArray) Try.underlying53 (by kernel_rfl) (eqFields_step (by decide) rfl rfl (equalIn_int (d:=9998) Try.underlying22) (eqFields_step (by decide) rfl rfl (equalIn_bool (d:=9998) Try.underlying4) eqFields_nil))
 rw [q]
 congr 1
 rw [Bool.eq_iff_iff,decide_eq_true_eq]
 cases a;cases b
 simp [Qai.mk.injEq]
theorem Qdl:Try.prog.eqGuardType Try.prog.depth 37=false:=by kernel_rfl
theorem Qds (a b:Ar Int 14) (w:World):(Op.equal 37 (.agg (encA (encI .i8) a).toArray) (.agg (encA (encI .i8) b).toArray)).run Try.prog w= .ok (decide (a=b)) w:=by
 obtain ⟨la,ha⟩:=a
 obtain ⟨lb,hb⟩:=b
 match la,ha,lb,hb with
 |[a0,a1,a2,a3,a4,a5,a6,a7,a8,a9,a10,a11,a12,a13],_,[b0,b1,b2,b3,b4,b5,b6,b7,b8,b9,b10,b11,b12,b13],_=>
  have q:(Op.equalIn 10000 37 (.agg #[int .i8 a0,int .i8 a1,int .i8 a2,int .i8 a3,int .i8 a4,int .i8 a5,int .i8 a6,int .i8 a7,int .i8 a8,int .i8 a9,int .i8 a10,int .i8 a11,int .i8 a12,int .i8 a13]) (.agg #[int .i8 b0,int .i8 b1,int .i8 b2,int .i8 b3,int .i8 b4,int .i8 b5,int .i8 b6,int .i8 b7,int .i8 b8,int .i8 b9,int .i8 b10,int .i8 b11,int .i8 b12,int .i8 b13])).run Try.prog w= .ok ((a0==b0)&&((a1==b1)&&((a2==b2)&&((a3==b3)&&((a4==b4)&&((a5==b5)&&((a6==b6)&&((a7==b7)&&((a8==b8)&&((a9==b9)&&((a10==b10)&&((a11==b11)&&((a12==b12)&&((a13==b13)&&true)))))))))))))) w:=by
   rw [run_equalIn_array w 9999 _ _ Try.underlying37 (show Try.prog.info? 22=some _ from by rfl),show Try.prog.cellsOf 22=1 from by kernel_rfl]
   exact (eqItems_step (d:=9998) Try.underlying22 rfl rfl (eqItems_step (d:=9998) Try.underlying22 rfl rfl (eqItems_step (d:=9998) Try.underlying22 rfl rfl (eqItems_step (d:=9998) Try.underlying22 rfl rfl (eqItems_step (d:=9998) Try.underlying22 rfl rfl (eqItems_step (d:=9998) Try.underlying22 rfl rfl (eqItems_step (d:=9998) Try.underlying22 rfl rfl (eqItems_step (d:=9998) Try.underlying22 rfl rfl (eqItems_step (d:=9998) Try.underlying22 rfl rfl (eqItems_step (d:=9998) Try.underlying22 rfl rfl (eqItems_step (d:=9998) Try.underlying22 rfl rfl (eqItems_step (d:=9998) Try.underlying22 rfl rfl (eqItems_step (d:=9998) Try.underlying22 rfl rfl (eqItems_step (d:=9998) Try.underlying22 rfl rfl (by simp [Op.eqItems])))))))))))))))
  refine Eq.trans q ?_
  congr 1
  rw [Bool.eq_iff_iff,decide_eq_true_eq]
  simp [Ar.mk.injEq,and_assoc]
theorem Qdm:Try.prog.eqGuardType Try.prog.depth 103=false:=by kernel_rfl
theorem Qdt (a b:Ar Int 8) (w:World):(Op.equal 103 (.agg (encA (encI .i64) a).toArray) (.agg (encA (encI .i64) b).toArray)).run Try.prog w= .ok (decide (a=b)) w:=by
 obtain ⟨la,ha⟩:=a
 obtain ⟨lb,hb⟩:=b
 match la,ha,lb,hb with
 |[a0,a1,a2,a3,a4,a5,a6,a7],_,[b0,b1,b2,b3,b4,b5,b6,b7],_=>
  have q:(Op.equalIn 10000 103 (.agg #[int .i64 a0,int .i64 a1,int .i64 a2,int .i64 a3,int .i64 a4,int .i64 a5,int .i64 a6,int .i64 a7]) (.agg #[int .i64 b0,int .i64 b1,int .i64 b2,int .i64 b3,int .i64 b4,int .i64 b5,int .i64 b6,int .i64 b7])).run Try.prog w= .ok ((a0==b0)&&((a1==b1)&&((a2==b2)&&((a3==b3)&&((a4==b4)&&((a5==b5)&&((a6==b6)&&((a7==b7)&&true)))))))) w:=by
   rw [run_equalIn_array w 9999 _ _ Try.underlying103 (show Try.prog.info? 2=some _ from by rfl),show Try.prog.cellsOf 2=1 from by kernel_rfl]
   exact (eqItems_step (d:=9998) Try.underlying2 rfl rfl (eqItems_step (d:=9998) Try.underlying2 rfl rfl (eqItems_step (d:=9998) Try.underlying2 rfl rfl (eqItems_step (d:=9998) Try.underlying2 rfl rfl (eqItems_step (d:=9998) Try.underlying2 rfl rfl (eqItems_step (d:=9998) Try.underlying2 rfl rfl (eqItems_step (d:=9998) Try.underlying2 rfl rfl (eqItems_step (d:=9998) Try.underlying2 rfl rfl (by simp [Op.eqItems])))))))))
  refine Eq.trans q ?_
  congr 1
  rw [Bool.eq_iff_iff,decide_eq_true_eq]
  simp [Ar.mk.injEq,and_assoc]
theorem eqa_S_impl_knowledgeLeft_107 (a b:Qad) (w:World):(Op.equal 107 (QaE a) (QaE b)).run Try.prog w= .ok (decide (a=b)) w:=by
 obtain ⟨⟨a_,af⟩,aq⟩:=a
 obtain ⟨a0,a1,a2,a3,rfl⟩:=ar4 a_
 obtain ⟨⟨b_,bf⟩,bq⟩:=b
 obtain ⟨b0,b1,b2,b3,rfl⟩:=ar4 b_
 have q:=equal_struct (w:=w) (xs:=#[int .i64 a0,int .i64 a1,int .i64 a2,int .i64 a3,bool af,int .i64 aq]) (ys:=#[int .i64 b0,int .i64 b1,int .i64 b2,int .i64 b3,bool bf,int .i64 bq]) Try.underlying107 (by kernel_rfl) (eqFields_step (by decide) rfl rfl (equalIn_structI (d:=9998) (xs:=#[int .i64 a0,int .i64 a1,int .i64 a2,int .i64 a3,bool af]) (ys:=#[int .i64 b0,int .i64 b1,int .i64 b2,int .i64 b3,bool bf]) Try.underlying71 (by kernel_rfl) (eqFields_step (by decide) rfl rfl (equalIn_arr4 (d:=9996) Try.underlying69 (by rfl) Try.underlying3 (by kernel_rfl) rfl rfl rfl rfl rfl rfl rfl rfl) (eqFields_step (by decide) rfl rfl (equalIn_bool (d:=9997) Try.underlying4) eqFields_nil))) (eqFields_step (by decide) rfl rfl (equalIn_int (d:=9998) Try.underlying2) eqFields_nil))
 refine Eq.trans q ?_
 congr 1
 rw [Bool.eq_iff_iff,decide_eq_true_eq]
 simp [Qad.mk.injEq,Qac.mk.injEq,Ar.mk.injEq,and_assoc]
theorem QcK:KeyOk Try.prog 107 QaE where
 desc:=⟨_,Try.underlying107, .inl fun _ _=>rfl⟩
 eq:=eqa_S_impl_knowledgeLeft_107
 check:=fun a b w=>by
  obtain ⟨⟨a_,af⟩,aq⟩:=a
  obtain ⟨a0,a1,a2,a3,rfl⟩:=ar4 a_
  exact check_struct2 (n:=9999) (cs:=#[int .i64 a0,int .i64 a1,int .i64 a2,int .i64 a3,bool af,int .i64 aq]) Try.underlying107 (by decide) (by decide) rfl rfl (check_struct2 (n:=9998) (cs:=#[int .i64 a0,int .i64 a1,int .i64 a2,int .i64 a3,bool af]) Try.underlying71 (by decide) (by decide) rfl rfl (check_arr4 (n:=9996) Try.underlying69 Try.underlying3 rfl rfl rfl rfl rfl) (check_bool (n:=9997) Try.underlying4)) (check_int (n:=9998) Try.underlying2)
 same:=fun a=>by
  obtain ⟨⟨a_,af⟩,aq⟩:=a
  obtain ⟨a0,a1,a2,a3,rfl⟩:=ar4 a_
  show Instr.sameBits 10000 (.agg #[int .i64 a0,int .i64 a1,int .i64 a2,int .i64 a3,bool af,int .i64 aq]) (.agg #[int .i64 a0,int .i64 a1,int .i64 a2,int .i64 a3,bool af,int .i64 aq])=true
  simp [Instr.sameBits]
end Go.Proofs.YtgpdpedpmhonkaaX
namespace Go.Proofs.YtgpdpedpmhonkaaX
open Go Go.RowKit Go.Proofs
open Go.Value (int pointer bool agg slice string tuple)
set_option maxHeartbeats 8000000
set_option maxRecDepth 100000
set_option linter.unusedVariables false
set_option linter.unusedSimpArgs false
def QcD.post (w0:World) (r:Bool) (v:Value) (w:World):Prop:=v=bool r∧St w0 [] w
theorem QcD.calls {N:Nat} {a1:(List Int)} {v2:Value} {w0:World} {r:Bool} (hr0:RdRow (K.int .u8) w0 v2 a1) (H:QcD.f N a1=some r):
 Calls Try.prog 11 #[v2] w0 fun e w=>∃ v,e= .returned v∧QcD.post w0 r v w:=by
 unfold QcD.f at H
 have hs:St w0 [] w0:=St.refl w0
 refine calls_of_g (n:=5) Try.func11 rfl rfl ?_
 show G _ _ _ _ [_,_,_,_,_,_] _
 refine Qag (Qan [0] rfl ?_)
 refine Qab (v:=bool false) rfl rfl rfl (Qaa (Qag (Qan [0,1,2,3] rfl ?_)))
 refine Qab (v:=v2) rfl rfl rfl ?_
 show G _ _ _ _ [_,_,_,_,_,_] _
 refine Qb1 (hs.rd hr0) rfl rfl rfl rfl rfl ?_
 refine Qab (v:=bool (decide ((a1.length:Int)>4096))) rfl rfl rfl ?_
 refine Qab (v:=bool (decide ((a1.length:Int)>4096))) rfl rfl rfl ?_
 show G _ _ _ _ [_,_,_,_,_,_] _
 refine Qaa ?_
 obtain rfl:=QsJ H
 refine QaK Try.func11 (v:=bool (decide ((a1.length:Int)>4096))) (res1 rfl rfl) ?_
 have hs:St _ [] _:=St.take (Γ':=[]) hs
 exact ⟨_,rfl,rfl,hs⟩
def Qcm.post (w0:World) (v2:Value) (r:QaC) (v:Value) (w:World):Prop:=∃ b1:Nat,v=pointer (some ⟨b1,0,none⟩)∧St w0 [Cells b1 (([v2,int .i64 r.Qbp,int .u64 r.Qbf]:List Value)) 117] w
theorem Qcm.calls {N:Nat} {a1:(List Int)} {v2:Value} {w0:World} {r:QaC} (hr0:RdRow (K.int .u8) w0 v2 a1) (H:Qcm.f N a1=some r):
 Calls Try.prog 36 #[v2] w0 fun e w=>∃ v,e= .returned v∧Qcm.post w0 v2 r v w:=by
 unfold Qcm.f at H
 have hs:St w0 [] w0:=St.refl w0
 refine calls_of_g (n:=5) Try.func36 rfl rfl ?_
 show G _ _ _ _ [_,_,_,_,_,_] _
 refine Qag (Qan [0] rfl ?_)
 refine Qab (v:=pointer none) rfl rfl rfl (Qaa (Qag (Qan [0,1,2,3] rfl ?_)))
 refine Qab (v:=v2) rfl rfl rfl ?_
 show G _ _ _ _ [_,_,_,_,_,_] _
 refine Qab (v:=agg (([v2,int .i64 0,int .u64 0]:List Value)).toArray) rfl rfl (Qcn (cs:=(([v2,int .i64 0,int .u64 0]:List Value))) (segs:=[[slice none 0 0],[int .i64 0],[int .u64 0]]) rfl rfl (fun _=>rfl) ⟨rfl,(fun _=>rfl),rfl,(fun _=>rfl),rfl,(fun _=>rfl),trivial⟩ (by simp only [List.map_cons,List.map_nil,List.forall_mem_cons,List.not_mem_nil,false_implies,implies_true,and_true];exact ⟨_,rfl,slSize (hs.rd hr0)⟩) (by first|rfl|(simp [ev,encA,slCells (hs.rd hr0)];done)|(simp [ev,encA,slCells (hs.rd hr0)];rfl))) ?_
 refine Qbw hs rfl rfl (cs:=(([v2,int .i64 0,int .u64 0]:List Value))) rfl rfl ?_
 intro b3 w hs
 refine Qab (v:=pointer (some ⟨b3,0,none⟩)) rfl rfl rfl ?_
 show G _ _ _ _ [_,_,_,_,_,_] _
 refine Qaa ?_
 obtain rfl:=QsJ H
 refine QaK Try.func36 (v:=pointer (some ⟨b3,0,none⟩)) (res1 rfl rfl) ?_
 have hs:=hs.pull 0 rfl
 have hs:St _ [_] _:=St.take (Γ':=[]) hs
 exact ⟨_,rfl,b3,rfl,hs⟩
def Qbz.post (wb:World) (Z:As) (b2:Nat) (v3:Value) (r:(Int×QaC)) (v:Value) (w:World):Prop:=v=int .i64 r.1∧St wb [Cells b2 (([v3,int .i64 r.2.Qbp,int .u64 r.2.Qbf]:List Value)) 117,Z] w
theorem Qbz.calls {N:Nat} {a1:QaC} {b2:Nat} {v3:Value} {wb:World} {Z:As} {w0:World} {r:(Int×QaC)} (hs:St wb [Cells b2 (([v3,int .i64 a1.Qbp,int .u64 a1.Qbf]:List Value)) 117,Z] w0) (hr4:RdRow (K.int .u8) wb v3 a1.Qbh) (H:Qbz.f N a1=some r):
 Calls Try.prog 80 #[pointer (some ⟨b2,0,none⟩)] w0 fun e w=>∃ v,e= .returned v∧Qbz.post wb Z b2 v3 r v w:=by
 unfold Qbz.f at H
 refine calls_of_g (n:=61) Try.func80 rfl rfl ?_
 show G _ _ _ _ (_::_::_::_::_::_::_::_::_::_::_::_::_::_::_::_::_::_::_::_::_::_::_::_::_::_::_::_::_::_::_::_::_::_::_::_::_::_::_::_::_::_::_::_::_::_::_::_::_::_::_::_::_::_::_::_::_::_::_::_::_::_::[]) _
 refine Qag (Qan [0] rfl ?_)
 refine Qab (v:=int .i64 0) rfl rfl rfl (g_d rfl (Qaa (Qag (Qan [0] rfl ?_))))
 refine Qab (v:=int .i64 0) rfl rfl rfl (g_d rfl ?_)
 try dsimp only [set0,setS]
 refine Qaa (Qag (Qag ?_))
 refine QcB (J:=(fun t w=>∃ x6:Int,Qbz.j0 N a1 x6=some r∧Fr t (fun O=>(pointer (some ⟨b2,0,none⟩)::O 1::O 2::int .i64 x6::O 4::O 5::O 6::O 7::O 8::O 9::oT O 1 (oT O 2 (oT O 3 (oT O 4 (oT O 5 (O 60::O 61::[]))))):List Value))∧St wb [Cells b2 (([v3,int .i64 a1.Qbp,int .u64 a1.Qbf]:List Value)) 117,Z] w)) ?_ ?_
 ·
  rintro t w ⟨x6,H,hf,hs⟩
  obtain ⟨O,rfl⟩:=hf.open
  try dsimp only [oT]
  unfold Qbz.j0 at H
  refine Qag (Qan [0,1,2,3,4,5,6,7] rfl ?_)
  refine Qab (v:=pointer (some ⟨b2,0,none⟩)) rfl rfl rfl (g_d rfl ?_)
  refine Qab (v:=pointer (some ⟨b2,0,none⟩)) rfl rfl rfl (g_d rfl ?_)
  refine Qab (v:=pointer (some ⟨b2,1,none⟩)) rfl rfl rfl (g_d rfl ?_)
  refine Qaz rfl rfl (v:=int .i64 a1.Qbp) rfl rfl (fun _=>rfl) (cells_load (hs.cells 0 rfl) 1 1 rfl) (g_d rfl ?_)
  refine Qab (v:=int .i64 (i64w (a1.Qbp+1))) rfl rfl rfl (g_d rfl ?_)
  try dsimp only [set0,setS]
  refine Qab (v:=pointer (some ⟨b2,0,none⟩)) rfl rfl rfl (g_d rfl ?_)
  refine Qab (v:=pointer (some ⟨b2,1,none⟩)) rfl rfl rfl (g_d rfl ?_)
  refine Qb8 hs rfl rfl (vs:=((encI .i64) (i64w (a1.Qbp+1)))) (cs':=(([v3,int .i64 (i64w (a1.Qbp+1)),int .u64 a1.Qbf]:List Value))) rfl rfl rfl (n:=1) (fun _=>rfl) ((fkI .i64).len _) (by first|exact Nat.le_of_ble_eq_true rfl|simp [encAI_len,encAB_len,encA_len]) ((fkI .i64).one _) rfl ?_
  intro w hs
  refine g_n rfl (Qaa (Qag (Qan [0,1,2,3,4,5,6,7,8,9,10,11,12] rfl ?_)))
  refine Qab (v:=pointer (some ⟨b2,0,none⟩)) rfl rfl rfl (g_d rfl ?_)
  refine Qab (v:=pointer (some ⟨b2,0,none⟩)) rfl rfl rfl (g_d rfl ?_)
  refine Qab (v:=pointer (some ⟨b2,0,none⟩)) rfl rfl rfl (g_d rfl ?_)
  refine Qab (v:=pointer (some ⟨b2,2,none⟩)) rfl rfl rfl (g_d rfl ?_)
  refine Qaz rfl rfl (v:=int .u64 a1.Qbf) rfl rfl (fun _=>rfl) (cells_load (hs.cells 0 rfl) 2 1 rfl) (g_d rfl ?_)
  refine Qab (v:=int .u64 (u64w (a1.Qbf*6364136223846793005))) rfl rfl rfl (g_d rfl ?_)
  try dsimp only [set0,setS]
  refine Qab (v:=int .i64 x6) rfl rfl rfl (g_d rfl ?_)
  refine Qab (v:=int .u64 (u64w x6)) rfl rfl rfl (g_d rfl ?_)
  refine Qab (v:=int .u64 (u64w ((u64w (a1.Qbf*6364136223846793005))+(u64w x6)))) rfl rfl rfl (g_d rfl ?_)
  refine Qab (v:=int .u64 (u64w ((u64w ((u64w (a1.Qbf*6364136223846793005))+(u64w x6)))+1442695040888963407))) rfl rfl rfl (g_d rfl ?_)
  try dsimp only [set0,setS]
  refine Qab (v:=pointer (some ⟨b2,0,none⟩)) rfl rfl rfl (g_d rfl ?_)
  refine Qab (v:=pointer (some ⟨b2,2,none⟩)) rfl rfl rfl (g_d rfl ?_)
  refine Qb8 hs rfl rfl (vs:=((encI .u64) (u64w ((u64w ((u64w (a1.Qbf*6364136223846793005))+(u64w x6)))+1442695040888963407)))) (cs':=(([v3,int .i64 (i64w (a1.Qbp+1)),int .u64 (u64w ((u64w ((u64w (a1.Qbf*6364136223846793005))+(u64w x6)))+1442695040888963407))]:List Value))) rfl rfl rfl (n:=1) (fun _=>rfl) ((fkI .u64).len _) (by first|exact Nat.le_of_ble_eq_true rfl|simp [encAI_len,encAB_len,encA_len]) ((fkI .u64).one _) rfl ?_
  intro w hs
  refine g_n rfl (Qaa (Qag (Qag ?_)))
  refine QcQ (n:=10) rfl [0,1,2,3,4,5,6,7,8,9] [0,1,2,3,4,5,6,7,8,9] rfl rfl ?_
  intro rest w hh hbw hO
  have hs:=hs.samew hh hbw
  try dsimp only [set0,setS]
  refine QbT ?_
  intro T hT
  refine QcJ (m0:=0) hO rfl 511 [0,1,2,3,4,5,6,7,8] [0,1,3,7,0,16,48,112,240,511] (by decide+kernel) (fun D t w=>∃ O:Nat→Value,t=(pointer (some ⟨b2,0,none⟩)::O 1::O 2::int .i64 x6::O 4::O 5::O 6::O 7::O 8::O 9::oT O 1 (O 20::O 21::O 22::O 23::O 24::pointer (some ⟨b2,0,none⟩)::pointer (some ⟨b2,0,none⟩)::pointer (some ⟨b2,1,none⟩)::int .i64 a1.Qbp::int .i64 (i64w (a1.Qbp+1))::pointer (some ⟨b2,0,none⟩)::pointer (some ⟨b2,1,none⟩)::pointer (some ⟨b2,0,none⟩)::pointer (some ⟨b2,0,none⟩)::pointer (some ⟨b2,0,none⟩)::pointer (some ⟨b2,2,none⟩)::int .u64 a1.Qbf::int .u64 (u64w (a1.Qbf*6364136223846793005))::int .i64 x6::int .u64 (u64w x6)::int .u64 (u64w ((u64w (a1.Qbf*6364136223846793005))+(u64w x6)))::int .u64 (u64w ((u64w ((u64w (a1.Qbf*6364136223846793005))+(u64w x6)))+1442695040888963407))::pointer (some ⟨b2,0,none⟩)::pointer (some ⟨b2,2,none⟩)::cnd (D 0) (pointer (some ⟨b2,0,none⟩)) (O 44)::cnd (D 1) (pointer (some ⟨b2,0,none⟩)) (O 45)::cnd (D 2) (pointer (some ⟨b2,1,none⟩)) (O 46)::cnd (D 3) (int .i64 (i64w (a1.Qbp+1))) (O 47)::cnd (D 4) (pointer (some ⟨b2,0,none⟩)) (O 48)::cnd (D 5) (pointer (some ⟨b2,0,none⟩)) (O 49)::cnd (D 6) (pointer (some ⟨b2,0,none⟩)) (O 50)::cnd (D 7) v3 (O 51)::cnd (D 8) (int .i64 (a1.Qbh.length:Int)) (O 52)::O 53::O 54::O 55::O 56::O 57::O 58::O 59::O 60::O 61::[]))∧St wb [Cells b2 (([v3,int .i64 (i64w (a1.Qbp+1)),int .u64 (u64w ((u64w ((u64w (a1.Qbf*6364136223846793005))+(u64w x6)))+1442695040888963407))]:List Value)) 117,Z] w) ?_ ⟨?_,⟨?_,⟨?_,⟨?_,⟨?_,⟨?_,⟨?_,⟨?_,⟨?_,trivial⟩⟩⟩⟩⟩⟩⟩⟩⟩ ?_
  ·exact ⟨fun i=>T.getD i undef,(by subst hT;rfl),hs⟩
  ·
   rintro D t w hD hp hcl ⟨O,ht,hs⟩ rest hk
   have hp:AllDone D []:=hp
   have q1_:=ny hcl 1 0 hD
   have q2_:=ny hcl 2 0 q1_
   have q3_:=ny hcl 3 0 q2_
   simp only [hD,q1_,q2_,q3_,cq,oT] at ht hs
   subst ht
   refine Qab (v:=pointer (some ⟨b2,0,none⟩)) rfl rfl rfl (g_d rfl ?_)
   try dsimp only [set0,setS]
   refine hk _ _ ⟨O,?_,hs.cast ?_⟩<;>simp only [oT,lq,cq,Nat.reduceBEq,q1_,q2_,q3_]
  ·
   rintro D t w hD hp hcl ⟨O,ht,hs⟩ rest hk
   have hp:AllDone D [0]:=hp
   obtain ⟨p0_,_⟩:=hp
   have q2_:=ny hcl 2 0 hD
   have q3_:=ny hcl 3 0 q2_
   simp only [hD,p0_,q2_,q3_,cq,oT] at ht hs
   subst ht
   refine Qab (v:=pointer (some ⟨b2,0,none⟩)) rfl rfl rfl (g_d rfl ?_)
   try dsimp only [set0,setS]
   refine hk _ _ ⟨O,?_,hs.cast ?_⟩<;>simp only [oT,lq,cq,Nat.reduceBEq,p0_,q2_,q3_]
  ·
   rintro D t w hD hp hcl ⟨O,ht,hs⟩ rest hk
   have hp:AllDone D [1]:=hp
   obtain ⟨p1_,_⟩:=hp
   obtain ⟨p0_,_⟩:=(show D 1=true→AllDone D [0] from hcl 1 (by decide)) p1_
   have q3_:=ny hcl 3 0 hD
   simp only [hD,p0_,p1_,q3_,cq,oT] at ht hs
   subst ht
   refine Qab (v:=pointer (some ⟨b2,1,none⟩)) rfl rfl rfl (g_d rfl ?_)
   try dsimp only [set0,setS]
   refine hk _ _ ⟨O,?_,hs.cast ?_⟩<;>simp only [oT,lq,cq,Nat.reduceBEq,p0_,p1_,q3_]
  ·
   rintro D t w hD hp hcl ⟨O,ht,hs⟩ rest hk
   have hp:AllDone D [2]:=hp
   obtain ⟨p2_,_⟩:=hp
   obtain ⟨p1_,_⟩:=(show D 2=true→AllDone D [1] from hcl 2 (by decide)) p2_
   obtain ⟨p0_,_⟩:=(show D 1=true→AllDone D [0] from hcl 1 (by decide)) p1_
   simp only [hD,p0_,p1_,p2_,cq,oT] at ht hs
   subst ht
   refine Qaz rfl rfl (v:=int .i64 (i64w (a1.Qbp+1))) rfl rfl (fun _=>rfl) (cells_load (hs.cells 0 rfl) 1 1 rfl) (g_d rfl ?_)
   try dsimp only [set0,setS]
   refine hk _ _ ⟨O,?_,hs.cast ?_⟩<;>simp only [oT,lq,cq,Nat.reduceBEq,p0_,p1_,p2_]
  ·
   rintro D t w hD hp hcl ⟨O,ht,hs⟩ rest hk
   have hp:AllDone D []:=hp
   have q5_:=ny hcl 5 0 hD
   have q6_:=ny hcl 6 0 q5_
   have q7_:=ny hcl 7 0 q6_
   have q8_:=ny hcl 8 0 q7_
   simp only [hD,q5_,q6_,q7_,q8_,cq,oT] at ht hs
   subst ht
   refine Qab (v:=pointer (some ⟨b2,0,none⟩)) rfl rfl rfl (g_d rfl ?_)
   try dsimp only [set0,setS]
   refine hk _ _ ⟨O,?_,hs.cast ?_⟩<;>simp only [oT,lq,cq,Nat.reduceBEq,q5_,q6_,q7_,q8_]
  ·
   rintro D t w hD hp hcl ⟨O,ht,hs⟩ rest hk
   have hp:AllDone D [4]:=hp
   obtain ⟨p4_,_⟩:=hp
   have q6_:=ny hcl 6 0 hD
   have q7_:=ny hcl 7 0 q6_
   have q8_:=ny hcl 8 0 q7_
   simp only [hD,p4_,q6_,q7_,q8_,cq,oT] at ht hs
   subst ht
   refine Qab (v:=pointer (some ⟨b2,0,none⟩)) rfl rfl rfl (g_d rfl ?_)
   try dsimp only [set0,setS]
   refine hk _ _ ⟨O,?_,hs.cast ?_⟩<;>simp only [oT,lq,cq,Nat.reduceBEq,p4_,q6_,q7_,q8_]
  ·
   rintro D t w hD hp hcl ⟨O,ht,hs⟩ rest hk
   have hp:AllDone D [5]:=hp
   obtain ⟨p5_,_⟩:=hp
   obtain ⟨p4_,_⟩:=(show D 5=true→AllDone D [4] from hcl 5 (by decide)) p5_
   have q7_:=ny hcl 7 0 hD
   have q8_:=ny hcl 8 0 q7_
   simp only [hD,p4_,p5_,q7_,q8_,cq,oT] at ht hs
   subst ht
   refine Qab (v:=pointer (some ⟨b2,0,none⟩)) rfl rfl rfl (g_d rfl ?_)
   try dsimp only [set0,setS]
   refine hk _ _ ⟨O,?_,hs.cast ?_⟩<;>simp only [oT,lq,cq,Nat.reduceBEq,p4_,p5_,q7_,q8_]
  ·
   rintro D t w hD hp hcl ⟨O,ht,hs⟩ rest hk
   have hp:AllDone D [6]:=hp
   obtain ⟨p6_,_⟩:=hp
   obtain ⟨p5_,_⟩:=(show D 6=true→AllDone D [5] from hcl 6 (by decide)) p6_
   obtain ⟨p4_,_⟩:=(show D 5=true→AllDone D [4] from hcl 5 (by decide)) p5_
   have q8_:=ny hcl 8 0 hD
   simp only [hD,p4_,p5_,p6_,q8_,cq,oT] at ht hs
   subst ht
   refine Qaz rfl rfl (v:=v3) rfl rfl (fun _=>rfl) (cells_load (hs.cells 0 rfl) 0 1 rfl) (g_d rfl ?_)
   try dsimp only [set0,setS]
   refine hk _ _ ⟨O,?_,hs.cast ?_⟩<;>simp only [oT,lq,cq,Nat.reduceBEq,p4_,p5_,p6_,q8_]
  ·
   rintro D t w hD hp hcl ⟨O,ht,hs⟩ rest hk
   have hp:AllDone D [7]:=hp
   obtain ⟨p7_,_⟩:=hp
   obtain ⟨p6_,_⟩:=(show D 7=true→AllDone D [6] from hcl 7 (by decide)) p7_
   obtain ⟨p5_,_⟩:=(show D 6=true→AllDone D [5] from hcl 6 (by decide)) p6_
   obtain ⟨p4_,_⟩:=(show D 5=true→AllDone D [4] from hcl 5 (by decide)) p5_
   simp only [hD,p4_,p5_,p6_,p7_,cq,oT] at ht hs
   subst ht
   refine Qb1 (hs.rd hr4) rfl rfl rfl rfl rfl (g_d rfl ?_)
   try dsimp only [set0,setS]
   refine hk _ _ ⟨O,?_,hs.cast ?_⟩<;>simp only [oT,lq,cq,Nat.reduceBEq,p4_,p5_,p6_,p7_]
  intro D t w rest hall hO5_ hI
  obtain ⟨O,ht,hs⟩:=hI
  have p0_:=hall 0 (by decide) rfl
  have p1_:=hall 1 (by decide) rfl
  have p2_:=hall 2 (by decide) rfl
  have p3_:=hall 3 (by decide) rfl
  have p4_:=hall 4 (by decide) rfl
  have p5_:=hall 5 (by decide) rfl
  have p6_:=hall 6 (by decide) rfl
  have p7_:=hall 7 (by decide) rfl
  have p8_:=hall 8 (by decide) rfl
  simp only [p0_,p1_,p2_,p3_,p4_,p5_,p6_,p7_,p8_,cq,oT] at ht hs
  subst ht
  obtain ⟨rest,rfl,hO6_⟩:=ord_one (m:=511) hO5_ rfl 9 (m':=1023) (by decide+kernel) rfl
  clear hO5_
  refine QaR (B:=decide ((i64w (a1.Qbp+1))≤(a1.Qbh.length:Int))) rfl rfl rfl ?_ ?_
  ·
   intro hb
   rw [if_pos (b_dec_t hb)] at H
   refine g_d rfl ?_
   try dsimp only [set0,setS]
   obtain rfl:=ord_end hO6_ rfl (by decide+kernel)
   refine Qaa (Qaw rfl (Qag (Qan [0,1] rfl ?_)))
   refine Qab (v:=int .i64 x6) rfl rfl rfl (g_d rfl ?_)
   refine Qab (v:=int .i64 x6) rfl rfl rfl (g_d rfl (Qaa ?_))
   obtain rfl:=QsJ H
   refine QaK Try.func80 (v:=int .i64 x6) (res1 rfl rfl) ?_
   have hs:=hs.pull 1 rfl
   have hs:=hs.pull 1 rfl
   have hs:St _ [_,_] _:=St.take (Γ':=[]) hs
   exact ⟨_,rfl,rfl,hs⟩
  intro hb
  rw [if_neg (b_dec_f hb)] at H
  refine g_d rfl ?_
  obtain rfl:=ord_end hO6_ rfl (by decide+kernel)
  refine Qaa (Qax rfl (QaS (Qag (Qan [0,1,2,3,4,5,6,7] rfl ?_))))
  refine Qab (v:=pointer (some ⟨b2,0,none⟩)) rfl rfl rfl (g_d rfl ?_)
  refine Qab (v:=pointer (some ⟨b2,0,none⟩)) rfl rfl rfl (g_d rfl ?_)
  refine Qab (v:=pointer (some ⟨b2,2,none⟩)) rfl rfl rfl (g_d rfl ?_)
  refine Qaz rfl rfl (v:=int .u64 (u64w ((u64w ((u64w (a1.Qbf*6364136223846793005))+(u64w x6)))+1442695040888963407))) rfl rfl (fun _=>rfl) (cells_load (hs.cells 0 rfl) 2 1 rfl) (g_d rfl ?_)
  try dsimp only [set0,setS]
  refine Qab (v:=int .u64 (shrI .u64 (u64w ((u64w ((u64w (a1.Qbf*6364136223846793005))+(u64w x6)))+1442695040888963407)) 40)) rfl rfl rfl (g_d rfl ?_)
  refine Qab (v:=int .u64 (bAnd .u64 (shrI .u64 (u64w ((u64w ((u64w (a1.Qbf*6364136223846793005))+(u64w x6)))+1442695040888963407)) 40) 255)) rfl rfl rfl (g_d rfl ?_)
  try dsimp only [set0,setS]
  refine Qab (v:=int .i64 (i64w (bAnd .u64 (shrI .u64 (u64w ((u64w ((u64w (a1.Qbf*6364136223846793005))+(u64w x6)))+1442695040888963407)) 40) 255))) rfl rfl rfl (g_d rfl ?_)
  refine Qab (v:=int .i64 (i64w (bAnd .u64 (shrI .u64 (u64w ((u64w ((u64w (a1.Qbf*6364136223846793005))+(u64w x6)))+1442695040888963407)) 40) 255))) rfl rfl rfl (g_d rfl (Qaa ?_))
  obtain rfl:=QsJ H
  refine QaK Try.func80 (v:=int .i64 (i64w (bAnd .u64 (shrI .u64 (u64w ((u64w ((u64w (a1.Qbf*6364136223846793005))+(u64w x6)))+1442695040888963407)) 40) 255))) (res1 rfl rfl) ?_
  have hs:=hs.pull 1 rfl
  have hs:=hs.pull 1 rfl
  have hs:St _ [_,_] _:=St.take (Γ':=[]) hs
  exact ⟨_,rfl,rfl,hs⟩
 intro ha
 refine QcQ (n:=10) rfl [0,1,2,3,4,5,6,7,8,9] [0,1,2,3,4,5,6,7,8,9] rfl rfl ?_
 intro rest w hh hbw hO
 have hs:=hs.samew hh hbw
 try dsimp only [set0,setS]
 refine QbT ?_
 intro T hT
 refine QcJ (m0:=0) hO rfl 511 [0,1,2,3,4,5,6,7,8] [0,1,3,7,0,16,48,112,240,511] (by decide+kernel) (fun D t w=>∃ O:Nat→Value,t=(pointer (some ⟨b2,0,none⟩)::O 1::int .i64 0::int .i64 0::cnd (D 0) (pointer (some ⟨b2,0,none⟩)) (O 4)::cnd (D 1) (pointer (some ⟨b2,0,none⟩)) (O 5)::cnd (D 2) (pointer (some ⟨b2,1,none⟩)) (O 6)::cnd (D 3) (int .i64 a1.Qbp) (O 7)::cnd (D 4) (pointer (some ⟨b2,0,none⟩)) (O 8)::cnd (D 5) (pointer (some ⟨b2,0,none⟩)) (O 9)::cnd (D 6) (pointer (some ⟨b2,0,none⟩)) (O 10)::cnd (D 7) v3 (O 11)::cnd (D 8) (int .i64 (a1.Qbh.length:Int)) (O 12)::O 13::O 14::O 15::O 16::O 17::O 18::O 19::oT O 2 (oT O 3 (oT O 4 (oT O 5 (O 60::O 61::[])))))∧St wb [Cells b2 (([v3,int .i64 a1.Qbp,int .u64 a1.Qbf]:List Value)) 117,Z] w) ?_ ⟨?_,⟨?_,⟨?_,⟨?_,⟨?_,⟨?_,⟨?_,⟨?_,⟨?_,trivial⟩⟩⟩⟩⟩⟩⟩⟩⟩ ?_
 ·exact ⟨fun i=>T.getD i undef,(by subst hT;rfl),hs⟩
 ·
  rintro D t w hD hp hcl ⟨O,ht,hs⟩ rest hk
  have hp:AllDone D []:=hp
  have q1_:=ny hcl 1 0 hD
  have q2_:=ny hcl 2 0 q1_
  have q3_:=ny hcl 3 0 q2_
  simp only [hD,q1_,q2_,q3_,cq,oT] at ht hs
  subst ht
  refine Qab (v:=pointer (some ⟨b2,0,none⟩)) rfl rfl rfl (g_d rfl ?_)
  try dsimp only [set0,setS]
  refine hk _ _ ⟨O,?_,hs.cast ?_⟩<;>simp only [oT,lq,cq,Nat.reduceBEq,q1_,q2_,q3_]
 ·
  rintro D t w hD hp hcl ⟨O,ht,hs⟩ rest hk
  have hp:AllDone D [0]:=hp
  obtain ⟨p0_,_⟩:=hp
  have q2_:=ny hcl 2 0 hD
  have q3_:=ny hcl 3 0 q2_
  simp only [hD,p0_,q2_,q3_,cq,oT] at ht hs
  subst ht
  refine Qab (v:=pointer (some ⟨b2,0,none⟩)) rfl rfl rfl (g_d rfl ?_)
  try dsimp only [set0,setS]
  refine hk _ _ ⟨O,?_,hs.cast ?_⟩<;>simp only [oT,lq,cq,Nat.reduceBEq,p0_,q2_,q3_]
 ·
  rintro D t w hD hp hcl ⟨O,ht,hs⟩ rest hk
  have hp:AllDone D [1]:=hp
  obtain ⟨p1_,_⟩:=hp
  obtain ⟨p0_,_⟩:=(show D 1=true→AllDone D [0] from hcl 1 (by decide)) p1_
  have q3_:=ny hcl 3 0 hD
  simp only [hD,p0_,p1_,q3_,cq,oT] at ht hs
  subst ht
  refine Qab (v:=pointer (some ⟨b2,1,none⟩)) rfl rfl rfl (g_d rfl ?_)
  try dsimp only [set0,setS]
  refine hk _ _ ⟨O,?_,hs.cast ?_⟩<;>simp only [oT,lq,cq,Nat.reduceBEq,p0_,p1_,q3_]
 ·
  rintro D t w hD hp hcl ⟨O,ht,hs⟩ rest hk
  have hp:AllDone D [2]:=hp
  obtain ⟨p2_,_⟩:=hp
  obtain ⟨p1_,_⟩:=(show D 2=true→AllDone D [1] from hcl 2 (by decide)) p2_
  obtain ⟨p0_,_⟩:=(show D 1=true→AllDone D [0] from hcl 1 (by decide)) p1_
  simp only [hD,p0_,p1_,p2_,cq,oT] at ht hs
  subst ht
  refine Qaz rfl rfl (v:=int .i64 a1.Qbp) rfl rfl (fun _=>rfl) (cells_load (hs.cells 0 rfl) 1 1 rfl) (g_d rfl ?_)
  try dsimp only [set0,setS]
  refine hk _ _ ⟨O,?_,hs.cast ?_⟩<;>simp only [oT,lq,cq,Nat.reduceBEq,p0_,p1_,p2_]
 ·
  rintro D t w hD hp hcl ⟨O,ht,hs⟩ rest hk
  have hp:AllDone D []:=hp
  have q5_:=ny hcl 5 0 hD
  have q6_:=ny hcl 6 0 q5_
  have q7_:=ny hcl 7 0 q6_
  have q8_:=ny hcl 8 0 q7_
  simp only [hD,q5_,q6_,q7_,q8_,cq,oT] at ht hs
  subst ht
  refine Qab (v:=pointer (some ⟨b2,0,none⟩)) rfl rfl rfl (g_d rfl ?_)
  try dsimp only [set0,setS]
  refine hk _ _ ⟨O,?_,hs.cast ?_⟩<;>simp only [oT,lq,cq,Nat.reduceBEq,q5_,q6_,q7_,q8_]
 ·
  rintro D t w hD hp hcl ⟨O,ht,hs⟩ rest hk
  have hp:AllDone D [4]:=hp
  obtain ⟨p4_,_⟩:=hp
  have q6_:=ny hcl 6 0 hD
  have q7_:=ny hcl 7 0 q6_
  have q8_:=ny hcl 8 0 q7_
  simp only [hD,p4_,q6_,q7_,q8_,cq,oT] at ht hs
  subst ht
  refine Qab (v:=pointer (some ⟨b2,0,none⟩)) rfl rfl rfl (g_d rfl ?_)
  try dsimp only [set0,setS]
  refine hk _ _ ⟨O,?_,hs.cast ?_⟩<;>simp only [oT,lq,cq,Nat.reduceBEq,p4_,q6_,q7_,q8_]
 ·
  rintro D t w hD hp hcl ⟨O,ht,hs⟩ rest hk
  have hp:AllDone D [5]:=hp
  obtain ⟨p5_,_⟩:=hp
  obtain ⟨p4_,_⟩:=(show D 5=true→AllDone D [4] from hcl 5 (by decide)) p5_
  have q7_:=ny hcl 7 0 hD
  have q8_:=ny hcl 8 0 q7_
  simp only [hD,p4_,p5_,q7_,q8_,cq,oT] at ht hs
  subst ht
  refine Qab (v:=pointer (some ⟨b2,0,none⟩)) rfl rfl rfl (g_d rfl ?_)
  try dsimp only [set0,setS]
  refine hk _ _ ⟨O,?_,hs.cast ?_⟩<;>simp only [oT,lq,cq,Nat.reduceBEq,p4_,p5_,q7_,q8_]
 ·
  rintro D t w hD hp hcl ⟨O,ht,hs⟩ rest hk
  have hp:AllDone D [6]:=hp
  obtain ⟨p6_,_⟩:=hp
  obtain ⟨p5_,_⟩:=(show D 6=true→AllDone D [5] from hcl 6 (by decide)) p6_
  obtain ⟨p4_,_⟩:=(show D 5=true→AllDone D [4] from hcl 5 (by decide)) p5_
  have q8_:=ny hcl 8 0 hD
  simp only [hD,p4_,p5_,p6_,q8_,cq,oT] at ht hs
  subst ht
  refine Qaz rfl rfl (v:=v3) rfl rfl (fun _=>rfl) (cells_load (hs.cells 0 rfl) 0 1 rfl) (g_d rfl ?_)
  try dsimp only [set0,setS]
  refine hk _ _ ⟨O,?_,hs.cast ?_⟩<;>simp only [oT,lq,cq,Nat.reduceBEq,p4_,p5_,p6_,q8_]
 ·
  rintro D t w hD hp hcl ⟨O,ht,hs⟩ rest hk
  have hp:AllDone D [7]:=hp
  obtain ⟨p7_,_⟩:=hp
  obtain ⟨p6_,_⟩:=(show D 7=true→AllDone D [6] from hcl 7 (by decide)) p7_
  obtain ⟨p5_,_⟩:=(show D 6=true→AllDone D [5] from hcl 6 (by decide)) p6_
  obtain ⟨p4_,_⟩:=(show D 5=true→AllDone D [4] from hcl 5 (by decide)) p5_
  simp only [hD,p4_,p5_,p6_,p7_,cq,oT] at ht hs
  subst ht
  refine Qb1 (hs.rd hr4) rfl rfl rfl rfl rfl (g_d rfl ?_)
  try dsimp only [set0,setS]
  refine hk _ _ ⟨O,?_,hs.cast ?_⟩<;>simp only [oT,lq,cq,Nat.reduceBEq,p4_,p5_,p6_,p7_]
 intro D t w rest hall hO1_ hI
 obtain ⟨O,ht,hs⟩:=hI
 have p0_:=hall 0 (by decide) rfl
 have p1_:=hall 1 (by decide) rfl
 have p2_:=hall 2 (by decide) rfl
 have p3_:=hall 3 (by decide) rfl
 have p4_:=hall 4 (by decide) rfl
 have p5_:=hall 5 (by decide) rfl
 have p6_:=hall 6 (by decide) rfl
 have p7_:=hall 7 (by decide) rfl
 have p8_:=hall 8 (by decide) rfl
 simp only [p0_,p1_,p2_,p3_,p4_,p5_,p6_,p7_,p8_,cq,oT] at ht hs
 subst ht
 obtain ⟨rest,rfl,hO2_⟩:=ord_one (m:=511) hO1_ rfl 9 (m':=1023) (by decide+kernel) rfl
 clear hO1_
 refine QaR (B:=decide (a1.Qbp< (a1.Qbh.length:Int))) rfl rfl rfl ?_ ?_
 ·
  intro hb
  rw [if_pos (b_dec_t hb)] at H
  refine g_d rfl ?_
  try dsimp only [set0,setS]
  obtain rfl:=ord_end hO2_ rfl (by decide+kernel)
  refine Qaa (Qaw rfl ?_)
  obtain ⟨gd3,H⟩:=ite_get H
  obtain ⟨ad4_,ad4_N,ad4_C,had4_⟩:=sl_at (hs.rd hr4) gd3.1 gd3.2
  refine QbT ?_
  intro T hT
  refine Qcg (n:=12) rfl [0,1,2,3,4,5,6,7,8,9,10,11] [0,1,2,3,4,5,6,7,8,9,10,11] rfl rfl (Inv:=fun D t w=>∃ O:Nat→Value,t=(pointer (some ⟨b2,0,none⟩)::O 1::int .i64 0::cnd (D 11) (int .i64 (i64w (rdL a1.Qbh a1.Qbp 0))) (int .i64 0)::pointer (some ⟨b2,0,none⟩)::pointer (some ⟨b2,0,none⟩)::pointer (some ⟨b2,1,none⟩)::int .i64 a1.Qbp::pointer (some ⟨b2,0,none⟩)::pointer (some ⟨b2,0,none⟩)::pointer (some ⟨b2,0,none⟩)::v3::int .i64 (a1.Qbh.length:Int)::bool true::cnd (D 0) (pointer (some ⟨b2,0,none⟩)) (O 14)::cnd (D 1) (pointer (some ⟨b2,0,none⟩)) (O 15)::cnd (D 2) (pointer (some ⟨b2,0,none⟩)) (O 16)::cnd (D 3) v3 (O 17)::cnd (D 4) (pointer (some ⟨b2,0,none⟩)) (O 18)::cnd (D 5) (pointer (some ⟨b2,0,none⟩)) (O 19)::cnd (D 6) (pointer (some ⟨b2,1,none⟩)) (O 20)::cnd (D 7) (int .i64 a1.Qbp) (O 21)::cnd (D 8) (pointer (some (ad4_.add (a1.Qbp.toNat*1)))) (O 22)::cnd (D 9) (int .u8 (rdL a1.Qbh a1.Qbp 0)) (O 23)::cnd (D 10) (int .i64 (i64w (rdL a1.Qbh a1.Qbp 0))) (O 24)::O 25::O 26::O 27::O 28::O 29::oT O 3 (oT O 4 (oT O 5 (O 60::O 61::[]))))∧St wb [Cells b2 (([v3,int .i64 a1.Qbp,int .u64 a1.Qbf]:List Value)) 117,Z] w) ?_ ⟨⟨⟨⟨⟨⟨⟨⟨⟨⟨⟨⟨trivial,?_⟩,?_⟩,?_⟩,?_⟩,?_⟩,?_⟩,?_⟩,?_⟩,?_⟩,?_⟩,?_⟩,?_⟩ ?_
  ·
   intro w hh hbw
   have hs:=hs.samew hh hbw
   exact ⟨fun i=>T.getD i undef,(by subst hT;rfl),hs⟩
  ·
   rintro D t w hD hp hcl ⟨O,ht,hs⟩ rest hk
   have q1_:=nz hcl 1 0 hD
   have q2_:=nz hcl 2 0 q1_
   have q3_:=nz hcl 3 0 q2_
   have q8_:=nz hcl 8 0 q3_
   have q9_:=nz hcl 9 0 q8_
   have q10_:=nz hcl 10 0 q9_
   have q11_:=nz hcl 11 0 q10_
   simp only [hD,q1_,q2_,q3_,q8_,q9_,q10_,q11_,cq,oT] at ht hs
   subst ht
   refine Qab (v:=pointer (some ⟨b2,0,none⟩)) rfl rfl rfl (g_d rfl ?_)
   try dsimp only [set0,setS]
   refine hk _ _ ⟨O,?_,hs.cast ?_⟩<;>simp only [oT,lq,cq,Nat.reduceBEq,q1_,q2_,q3_,q8_,q9_,q10_,q11_]
  ·
   rintro D t w hD hp hcl ⟨O,ht,hs⟩ rest hk
   obtain ⟨p0_,_⟩:=hp
   have q2_:=nz hcl 2 0 hD
   have q3_:=nz hcl 3 0 q2_
   have q8_:=nz hcl 8 0 q3_
   have q9_:=nz hcl 9 0 q8_
   have q10_:=nz hcl 10 0 q9_
   have q11_:=nz hcl 11 0 q10_
   simp only [hD,p0_,q2_,q3_,q8_,q9_,q10_,q11_,cq,oT] at ht hs
   subst ht
   refine Qab (v:=pointer (some ⟨b2,0,none⟩)) rfl rfl rfl (g_d rfl ?_)
   try dsimp only [set0,setS]
   refine hk _ _ ⟨O,?_,hs.cast ?_⟩<;>simp only [oT,lq,cq,Nat.reduceBEq,p0_,q2_,q3_,q8_,q9_,q10_,q11_]
  ·
   rintro D t w hD hp hcl ⟨O,ht,hs⟩ rest hk
   obtain ⟨p1_,_⟩:=hp
   obtain ⟨p0_,_⟩:=(hcl.get 1 (by decide)) p1_
   have q3_:=nz hcl 3 0 hD
   have q8_:=nz hcl 8 0 q3_
   have q9_:=nz hcl 9 0 q8_
   have q10_:=nz hcl 10 0 q9_
   have q11_:=nz hcl 11 0 q10_
   simp only [hD,p0_,p1_,q3_,q8_,q9_,q10_,q11_,cq,oT] at ht hs
   subst ht
   refine Qab (v:=pointer (some ⟨b2,0,none⟩)) rfl rfl rfl (g_d rfl ?_)
   try dsimp only [set0,setS]
   refine hk _ _ ⟨O,?_,hs.cast ?_⟩<;>simp only [oT,lq,cq,Nat.reduceBEq,p0_,p1_,q3_,q8_,q9_,q10_,q11_]
  ·
   rintro D t w hD hp hcl ⟨O,ht,hs⟩ rest hk
   obtain ⟨p2_,_⟩:=hp
   obtain ⟨p1_,_⟩:=(hcl.get 2 (by decide)) p2_
   obtain ⟨p0_,_⟩:=(hcl.get 1 (by decide)) p1_
   have q8_:=nz hcl 8 0 hD
   have q9_:=nz hcl 9 0 q8_
   have q10_:=nz hcl 10 0 q9_
   have q11_:=nz hcl 11 0 q10_
   simp only [hD,p0_,p1_,p2_,q8_,q9_,q10_,q11_,cq,oT] at ht hs
   subst ht
   refine Qaz rfl rfl (v:=v3) rfl rfl (fun _=>rfl) (cells_load (hs.cells 0 rfl) 0 1 rfl) (g_d rfl ?_)
   try dsimp only [set0,setS]
   refine hk _ _ ⟨O,?_,hs.cast ?_⟩<;>simp only [oT,lq,cq,Nat.reduceBEq,p0_,p1_,p2_,q8_,q9_,q10_,q11_]
  ·
   rintro D t w hD hp hcl ⟨O,ht,hs⟩ rest hk
   have q5_:=nz hcl 5 0 hD
   have q6_:=nz hcl 6 0 q5_
   have q7_:=nz hcl 7 0 q6_
   have q8_:=nz hcl 8 1 q7_
   have q9_:=nz hcl 9 0 q8_
   have q10_:=nz hcl 10 0 q9_
   have q11_:=nz hcl 11 0 q10_
   simp only [hD,q5_,q6_,q7_,q8_,q9_,q10_,q11_,cq,oT] at ht hs
   subst ht
   refine Qab (v:=pointer (some ⟨b2,0,none⟩)) rfl rfl rfl (g_d rfl ?_)
   try dsimp only [set0,setS]
   refine hk _ _ ⟨O,?_,hs.cast ?_⟩<;>simp only [oT,lq,cq,Nat.reduceBEq,q5_,q6_,q7_,q8_,q9_,q10_,q11_]
  ·
   rintro D t w hD hp hcl ⟨O,ht,hs⟩ rest hk
   obtain ⟨p4_,_⟩:=hp
   have q6_:=nz hcl 6 0 hD
   have q7_:=nz hcl 7 0 q6_
   have q8_:=nz hcl 8 1 q7_
   have q9_:=nz hcl 9 0 q8_
   have q10_:=nz hcl 10 0 q9_
   have q11_:=nz hcl 11 0 q10_
   simp only [hD,p4_,q6_,q7_,q8_,q9_,q10_,q11_,cq,oT] at ht hs
   subst ht
   refine Qab (v:=pointer (some ⟨b2,0,none⟩)) rfl rfl rfl (g_d rfl ?_)
   try dsimp only [set0,setS]
   refine hk _ _ ⟨O,?_,hs.cast ?_⟩<;>simp only [oT,lq,cq,Nat.reduceBEq,p4_,q6_,q7_,q8_,q9_,q10_,q11_]
  ·
   rintro D t w hD hp hcl ⟨O,ht,hs⟩ rest hk
   obtain ⟨p5_,_⟩:=hp
   obtain ⟨p4_,_⟩:=(hcl.get 5 (by decide)) p5_
   have q7_:=nz hcl 7 0 hD
   have q8_:=nz hcl 8 1 q7_
   have q9_:=nz hcl 9 0 q8_
   have q10_:=nz hcl 10 0 q9_
   have q11_:=nz hcl 11 0 q10_
   simp only [hD,p4_,p5_,q7_,q8_,q9_,q10_,q11_,cq,oT] at ht hs
   subst ht
   refine Qab (v:=pointer (some ⟨b2,1,none⟩)) rfl rfl rfl (g_d rfl ?_)
   try dsimp only [set0,setS]
   refine hk _ _ ⟨O,?_,hs.cast ?_⟩<;>simp only [oT,lq,cq,Nat.reduceBEq,p4_,p5_,q7_,q8_,q9_,q10_,q11_]
  ·
   rintro D t w hD hp hcl ⟨O,ht,hs⟩ rest hk
   obtain ⟨p6_,_⟩:=hp
   obtain ⟨p5_,_⟩:=(hcl.get 6 (by decide)) p6_
   obtain ⟨p4_,_⟩:=(hcl.get 5 (by decide)) p5_
   have q8_:=nz hcl 8 1 hD
   have q9_:=nz hcl 9 0 q8_
   have q10_:=nz hcl 10 0 q9_
   have q11_:=nz hcl 11 0 q10_
   simp only [hD,p4_,p5_,p6_,q8_,q9_,q10_,q11_,cq,oT] at ht hs
   subst ht
   refine Qaz rfl rfl (v:=int .i64 a1.Qbp) rfl rfl (fun _=>rfl) (cells_load (hs.cells 0 rfl) 1 1 rfl) (g_d rfl ?_)
   try dsimp only [set0,setS]
   refine hk _ _ ⟨O,?_,hs.cast ?_⟩<;>simp only [oT,lq,cq,Nat.reduceBEq,p4_,p5_,p6_,q8_,q9_,q10_,q11_]
  ·
   rintro D t w hD hp hcl ⟨O,ht,hs⟩ rest hk
   obtain ⟨p3_,p7_,_⟩:=hp
   obtain ⟨p6_,_⟩:=(hcl.get 7 (by decide)) p7_
   obtain ⟨p5_,_⟩:=(hcl.get 6 (by decide)) p6_
   obtain ⟨p4_,_⟩:=(hcl.get 5 (by decide)) p5_
   obtain ⟨p2_,_⟩:=(hcl.get 3 (by decide)) p3_
   obtain ⟨p1_,_⟩:=(hcl.get 2 (by decide)) p2_
   obtain ⟨p0_,_⟩:=(hcl.get 1 (by decide)) p1_
   have q9_:=nz hcl 9 0 hD
   have q10_:=nz hcl 10 0 q9_
   have q11_:=nz hcl 11 0 q10_
   simp only [hD,p0_,p1_,p2_,p3_,p4_,p5_,p6_,p7_,q9_,q10_,q11_,cq,oT] at ht hs
   subst ht
   refine QcI (κ:=(K.int .u8)) (m:=1) rfl (hs.rd hr4) rfl (fun _=>rfl) gd3.1 gd3.2 had4_ rfl rfl rfl rfl rfl (g_d rfl ?_)
   try dsimp only [set0,setS]
   refine hk _ _ ⟨O,?_,hs.cast ?_⟩<;>simp only [oT,lq,cq,Nat.reduceBEq,p0_,p1_,p2_,p3_,p4_,p5_,p6_,p7_,q9_,q10_,q11_]
  ·
   rintro D t w hD hp hcl ⟨O,ht,hs⟩ rest hk
   obtain ⟨p8_,_⟩:=hp
   obtain ⟨p3_,p7_,_⟩:=(hcl.get 8 (by decide)) p8_
   obtain ⟨p6_,_⟩:=(hcl.get 7 (by decide)) p7_
   obtain ⟨p5_,_⟩:=(hcl.get 6 (by decide)) p6_
   obtain ⟨p4_,_⟩:=(hcl.get 5 (by decide)) p5_
   obtain ⟨p2_,_⟩:=(hcl.get 3 (by decide)) p3_
   obtain ⟨p1_,_⟩:=(hcl.get 2 (by decide)) p2_
   obtain ⟨p0_,_⟩:=(hcl.get 1 (by decide)) p1_
   have q10_:=nz hcl 10 0 hD
   have q11_:=nz hcl 11 0 q10_
   simp only [hD,p0_,p1_,p2_,p3_,p4_,p5_,p6_,p7_,p8_,q10_,q11_,cq,oT] at ht hs
   subst ht
   refine Qaz rfl rfl (v:=int .u8 (rdL a1.Qbh a1.Qbp 0)) rfl rfl (fun _=>rfl) (cellsAt_of (fkI .u8) 0 (hs.rd hr4) had4_ gd3.1 gd3.2) (g_d rfl ?_)
   try dsimp only [set0,setS]
   refine hk _ _ ⟨O,?_,hs.cast ?_⟩<;>simp only [oT,lq,cq,Nat.reduceBEq,p0_,p1_,p2_,p3_,p4_,p5_,p6_,p7_,p8_,q10_,q11_]
  ·
   rintro D t w hD hp hcl ⟨O,ht,hs⟩ rest hk
   obtain ⟨p9_,_⟩:=hp
   obtain ⟨p8_,_⟩:=(hcl.get 9 (by decide)) p9_
   obtain ⟨p3_,p7_,_⟩:=(hcl.get 8 (by decide)) p8_
   obtain ⟨p6_,_⟩:=(hcl.get 7 (by decide)) p7_
   obtain ⟨p5_,_⟩:=(hcl.get 6 (by decide)) p6_
   obtain ⟨p4_,_⟩:=(hcl.get 5 (by decide)) p5_
   obtain ⟨p2_,_⟩:=(hcl.get 3 (by decide)) p3_
   obtain ⟨p1_,_⟩:=(hcl.get 2 (by decide)) p2_
   obtain ⟨p0_,_⟩:=(hcl.get 1 (by decide)) p1_
   have q11_:=nz hcl 11 0 hD
   simp only [hD,p0_,p1_,p2_,p3_,p4_,p5_,p6_,p7_,p8_,p9_,q11_,cq,oT] at ht hs
   subst ht
   refine Qab (v:=int .i64 (i64w (rdL a1.Qbh a1.Qbp 0))) rfl rfl rfl (g_d rfl ?_)
   try dsimp only [set0,setS]
   refine hk _ _ ⟨O,?_,hs.cast ?_⟩<;>simp only [oT,lq,cq,Nat.reduceBEq,p0_,p1_,p2_,p3_,p4_,p5_,p6_,p7_,p8_,p9_,q11_]
  ·
   rintro D t w hD hp hcl ⟨O,ht,hs⟩ rest hk
   obtain ⟨p10_,p0_,p1_,p2_,p3_,p4_,p5_,p6_,p7_,p8_,p9_,_,_⟩:=hp
   simp only [hD,p0_,p1_,p2_,p3_,p4_,p5_,p6_,p7_,p8_,p9_,p10_,cq,oT] at ht hs
   subst ht
   refine Qab (v:=int .i64 (i64w (rdL a1.Qbh a1.Qbp 0))) rfl rfl rfl (g_d rfl ?_)
   try dsimp only [set0,setS]
   refine hk _ _ ⟨O,?_,hs.cast ?_⟩<;>simp only [oT,lq,cq,Nat.reduceBEq,p0_,p1_,p2_,p3_,p4_,p5_,p6_,p7_,p8_,p9_,p10_]
  intro D t w hall hI
  obtain ⟨O,ht,hs⟩:=hI
  have p0_:=hall 0 (by decide)
  have p1_:=hall 1 (by decide)
  have p2_:=hall 2 (by decide)
  have p3_:=hall 3 (by decide)
  have p4_:=hall 4 (by decide)
  have p5_:=hall 5 (by decide)
  have p6_:=hall 6 (by decide)
  have p7_:=hall 7 (by decide)
  have p8_:=hall 8 (by decide)
  have p9_:=hall 9 (by decide)
  have p10_:=hall 10 (by decide)
  have p11_:=hall 11 (by decide)
  simp only [p0_,p1_,p2_,p3_,p4_,p5_,p6_,p7_,p8_,p9_,p10_,p11_,cq,oT] at ht hs
  subst ht
  have hs:=hs.pull 1 rfl
  have hs:=hs.pull 1 rfl
  have hs:St _ [_,_] _:=St.take (Γ':=[]) hs
  exact ha _ _ ⟨i64w (rdL a1.Qbh a1.Qbp 0),H,rfl,hs⟩
 intro hb
 rw [if_neg (b_dec_f hb)] at H
 refine g_d rfl ?_
 obtain rfl:=ord_end hO2_ rfl (by decide+kernel)
 refine Qaa (Qax rfl (QaS ?_))
 have hs:=hs.pull 1 rfl
 have hs:=hs.pull 1 rfl
 have hs:St _ [_,_] _:=St.take (Γ':=[]) hs
 exact ha _ _ ⟨0,H,rfl,hs⟩
def Qbg.post (wb:World) (Z:As) (b2:Nat) (v3:Value) (r:(Int×QaC)) (v:Value) (w:World):Prop:=v=int .i64 r.1∧St wb [Cells b2 (([v3,int .i64 r.2.Qbp,int .u64 r.2.Qbf]:List Value)) 117,Z] w
theorem Qbg.calls {N:Nat} {a1:QaC} {a6:Int} {b2:Nat} {v3:Value} {wb:World} {Z:As} {w0:World} {r:(Int×QaC)} (hs:St wb [Cells b2 (([v3,int .i64 a1.Qbp,int .u64 a1.Qbf]:List Value)) 117,Z] w0) (hr4:RdRow (K.int .u8) wb v3 a1.Qbh) (H:Qbg.f N a1 a6=some r):
 Calls Try.prog 63 #[pointer (some ⟨b2,0,none⟩),int .i64 a6] w0 fun e w=>∃ v,e= .returned v∧Qbg.post wb Z b2 v3 r v w:=by
 unfold Qbg.f at H
 refine calls_of_g (n:=18) Try.func63 rfl rfl ?_
 show G _ _ _ _ [_,_,_,_,_,_,_,_,_,_,_,_,_,_,_,_,_,_,_,_] _
 refine Qag (Qan [0] rfl ?_)
 refine Qab (v:=int .i64 0) rfl rfl rfl ?_
 show G _ _ _ _ [_,_,_,_,_,_,_,_,_,_,_,_,_,_,_,_,_,_,_,_] _
 refine Qaa (Qag (Qag (Qan [0,1] rfl ?_)))
 refine Qab (v:=int .i64 a6) rfl rfl rfl ?_
 refine QaR (B:=decide (a6≤1)) rfl rfl rfl ?_ ?_
 ·
  intro hb
  rw [if_pos (b_dec_t hb)] at H
  refine Qaa (Qaw rfl (Qag (Qan [0] rfl ?_)))
  refine Qab (v:=int .i64 0) rfl rfl rfl (Qaa ?_)
  obtain rfl:=QsJ H
  refine QaK Try.func63 (v:=int .i64 0) (res1 rfl rfl) ?_
  have hs:=hs.pull 1 rfl
  have hs:=hs.pull 1 rfl
  have hs:St _ [_,_] _:=St.take (Γ':=[]) hs
  exact ⟨_,rfl,rfl,hs⟩
 intro hb
 rw [if_neg (b_dec_f hb)] at H
 refine Qaa (Qax rfl (QaS (Qag (Qan [0,1,2] rfl ?_))))
 refine Qab (v:=pointer (some ⟨b2,0,none⟩)) rfl rfl rfl ?_
 show G _ _ _ _ [_,_,_,_,_,_,_,_,_,_,_,_,_,_,_,_,_,_,_,_] _
 obtain ⟨r7,Hr7,H⟩:=bind_get H
 have hs:St _ [_,_] _:=hs.pull 0 rfl
 have hs:=hs.pack 1
 refine QaP (args:=[pointer (some ⟨b2,0,none⟩)]) rfl rfl (QaT rfl (callFunc_enter Try.func80 rfl rfl) rfl) (Qbz.calls (a1:=(⟨a1.Qbh,a1.Qbp,a1.Qbf⟩:QaC)) hs hr4 Hr7) ?_
 rintro _ w ⟨rfl,hs⟩
 have hs:=St.unpack (Γ:=[_]) hs
 have hs:St _ [_,_] _:=hs
 refine Qab (v:=int .i64 r7.1) rfl rfl rfl (Qaa (Qag (Qag (Qan [0,1] rfl ?_))))
 refine Qab (v:=int .i64 a6) rfl rfl rfl ?_
 show G _ _ _ _ [_,_,_,_,_,_,_,_,_,_,_,_,_,_,_,_,_,_,_,_] _
 refine QaR (B:=decide (a6>200)) rfl rfl rfl ?_ ?_
 ·
  intro hb
  rw [if_pos (b_dec_t hb)] at H
  refine Qaa (Qaw rfl (Qan [0,1,2,3,4,5] rfl ?_))
  refine Qab (v:=int .i64 r7.1) rfl rfl rfl ?_
  refine Qab (v:=int .i64 (i64w (r7.1*256))) rfl rfl rfl ?_
  show G _ _ _ _ [_,_,_,_,_,_,_,_,_,_,_,_,_,_,_,_,_,_,_,_] _
  refine Qab (v:=pointer (some ⟨b2,0,none⟩)) rfl rfl rfl ?_
  obtain ⟨r8,Hr8,H⟩:=bind_get H
  have hs:St _ [_,_] _:=hs.pull 0 rfl
  have hs:=hs.pack 1
  refine QaP (args:=[pointer (some ⟨b2,0,none⟩)]) rfl rfl (QaT rfl (callFunc_enter Try.func80 rfl rfl) rfl) (Qbz.calls (a1:=(⟨a1.Qbh,r7.2.Qbp,r7.2.Qbf⟩:QaC)) hs hr4 Hr8) ?_
  rintro _ w ⟨rfl,hs⟩
  have hs:=St.unpack (Γ:=[_]) hs
  have hs:St _ [_,_] _:=hs
  refine Qab (v:=int .i64 (i64w ((i64w (r7.1*256))+r8.1))) rfl rfl rfl ?_
  show G _ _ _ _ [_,_,_,_,_,_,_,_,_,_,_,_,_,_,_,_,_,_,_,_] _
  refine Qab (v:=int .i64 (i64w ((i64w (r7.1*256))+r8.1))) rfl rfl rfl (Qaa (Qag (Qan [0,1,2,3] rfl ?_)))
  refine Qab (v:=int .i64 (i64w ((i64w (r7.1*256))+r8.1))) rfl rfl rfl ?_
  refine Qab (v:=int .i64 a6) rfl rfl rfl ?_
  show G _ _ _ _ [_,_,_,_,_,_,_,_,_,_,_,_,_,_,_,_,_,_,_,_] _
  obtain ⟨g1,H⟩:=ite_get H
  refine Qab (v:=int .i64 ((i64w ((i64w (r7.1*256))+r8.1)).tmod a6)) rfl rfl (Qdn rfl rfl rfl g1) ?_
  refine Qab (v:=int .i64 ((i64w ((i64w (r7.1*256))+r8.1)).tmod a6)) rfl rfl rfl (Qaa ?_)
  obtain rfl:=QsJ H
  refine QaK Try.func63 (v:=int .i64 ((i64w ((i64w (r7.1*256))+r8.1)).tmod a6)) (res1 rfl rfl) ?_
  have hs:=hs.pull 1 rfl
  have hs:=hs.pull 1 rfl
  have hs:St _ [_,_] _:=St.take (Γ':=[]) hs
  exact ⟨_,rfl,rfl,hs⟩
 intro hb
 rw [if_neg (b_dec_f hb)] at H
 refine Qaa (Qax rfl (QaS (Qag (Qan [0,1,2,3] rfl ?_))))
 refine Qab (v:=int .i64 r7.1) rfl rfl rfl ?_
 refine Qab (v:=int .i64 a6) rfl rfl rfl ?_
 show G _ _ _ _ [_,_,_,_,_,_,_,_,_,_,_,_,_,_,_,_,_,_,_,_] _
 obtain ⟨g2,H⟩:=ite_get H
 refine Qab (v:=int .i64 (r7.1.tmod a6)) rfl rfl (Qdn rfl rfl rfl g2) ?_
 refine Qab (v:=int .i64 (r7.1.tmod a6)) rfl rfl rfl (Qaa ?_)
 obtain rfl:=QsJ H
 refine QaK Try.func63 (v:=int .i64 (r7.1.tmod a6)) (res1 rfl rfl) ?_
 have hs:=hs.pull 1 rfl
 have hs:=hs.pull 1 rfl
 have hs:St _ [_,_] _:=St.take (Γ':=[]) hs
 exact ⟨_,rfl,rfl,hs⟩
def QbO.post (wb:World) (Z:As) (b2:Nat) (v3:Value) (r:(Bool×QaC)) (v:Value) (w:World):Prop:=v=bool r.1∧St wb [Cells b2 (([v3,int .i64 r.2.Qbp,int .u64 r.2.Qbf]:List Value)) 117,Z] w
theorem QbO.calls {N:Nat} {a1:QaC} {a6:Int} {b2:Nat} {v3:Value} {wb:World} {Z:As} {w0:World} {r:(Bool×QaC)} (hs:St wb [Cells b2 (([v3,int .i64 a1.Qbp,int .u64 a1.Qbf]:List Value)) 117,Z] w0) (hr4:RdRow (K.int .u8) wb v3 a1.Qbh) (H:QbO.f N a1 a6=some r):
 Calls Try.prog 64 #[pointer (some ⟨b2,0,none⟩),int .i64 a6] w0 fun e w=>∃ v,e= .returned v∧QbO.post wb Z b2 v3 r v w:=by
 unfold QbO.f at H
 refine calls_of_g (n:=7) Try.func64 rfl rfl ?_
 show G _ _ _ _ [_,_,_,_,_,_,_,_,_] _
 refine Qag (Qan [0] rfl ?_)
 refine Qab (v:=bool false) rfl rfl rfl ?_
 show G _ _ _ _ [_,_,_,_,_,_,_,_,_] _
 refine Qaa (Qag (Qan [0,1,2,3,4] rfl ?_))
 refine Qab (v:=pointer (some ⟨b2,0,none⟩)) rfl rfl rfl ?_
 refine Qab (v:=int .i64 a6) rfl rfl rfl ?_
 obtain ⟨r7,Hr7,H⟩:=bind_get H
 have hs:St _ [_,_] _:=hs.pull 0 rfl
 have hs:=hs.pack 1
 refine QaP (args:=[pointer (some ⟨b2,0,none⟩),int .i64 a6]) rfl rfl (QaT rfl (callFunc_enter Try.func63 rfl rfl) rfl) (Qbg.calls (a1:=(⟨a1.Qbh,a1.Qbp,a1.Qbf⟩:QaC)) (a6:=a6) hs hr4 Hr7) ?_
 rintro _ w ⟨rfl,hs⟩
 have hs:=St.unpack (Γ:=[_]) hs
 have hs:St _ [_,_] _:=hs
 show G _ _ _ _ [_,_,_,_,_,_,_,_,_] _
 refine Qab (v:=bool (r7.1==0)) rfl rfl rfl ?_
 refine Qab (v:=bool (r7.1==0)) rfl rfl rfl (Qaa ?_)
 obtain rfl:=QsJ H
 refine QaK Try.func64 (v:=bool (r7.1==0)) (res1 rfl rfl) ?_
 have hs:=hs.pull 1 rfl
 have hs:=hs.pull 1 rfl
 have hs:St _ [_,_] _:=St.take (Γ':=[]) hs
 exact ⟨_,rfl,rfl,hs⟩
def QcC.post (wb:World) (Z:As) (b2:Nat) (v3:Value) (r:(Qaq×QaC)) (v:Value) (w:World):Prop:=v=agg (Qae r.1).toArray∧St wb [Cells b2 (([v3,int .i64 r.2.Qbp,int .u64 r.2.Qbf]:List Value)) 117,Z] w
theorem QcC.calls {N:Nat} {a1:QaC} {b2:Nat} {v3:Value} {wb:World} {Z:As} {w0:World} {r:(Qaq×QaC)} (hs:St wb [Cells b2 (([v3,int .i64 a1.Qbp,int .u64 a1.Qbf]:List Value)) 117,Z] w0) (hr4:RdRow (K.int .u8) wb v3 a1.Qbh) (H:QcC.f N a1=some r):
 Calls Try.prog 35 #[pointer (some ⟨b2,0,none⟩)] w0 fun e w=>∃ v,e= .returned v∧QcC.post wb Z b2 v3 r v w:=by
 unfold QcC.f at H
 refine calls_of_g (n:=18) Try.func35 rfl rfl ?_
 show G _ _ _ _ [_,_,_,_,_,_,_,_,_,_,_,_,_,_,_,_,_,_,_] _
 refine Qag (Qan [0] rfl ?_)
 refine QbH hs rfl rfl (z:=(agg #[int .i8 0,int .i8 0,bool false,bool false])) (cs:=(Qae QcL)) rfl (fun _=>rfl) rfl ?_
 intro b6 w hs
 refine Qaa (Qag (Qan [0,1,2,3,4,5,6,7,8,9] rfl ?_))
 refine Qab (v:=pointer (some ⟨b2,0,none⟩)) rfl rfl rfl ?_
 show G _ _ _ _ [_,_,_,_,_,_,_,_,_,_,_,_,_,_,_,_,_,_,_] _
 obtain ⟨r8,Hr8,H⟩:=bind_get H
 have hs:St _ [_,_,_] _:=hs.pull 1 rfl
 have hs:=hs.pack 1
 refine QaP (args:=[pointer (some ⟨b2,0,none⟩),int .i64 9]) rfl rfl (QaT rfl (callFunc_enter Try.func63 rfl rfl) rfl) (Qbg.calls (a1:=(⟨a1.Qbh,a1.Qbp,a1.Qbf⟩:QaC)) (a6:=9) hs hr4 Hr8) ?_
 rintro _ w ⟨rfl,hs⟩
 have hs:=St.unpack (Γ:=[_]) hs
 have hs:St _ [_,_,_] _:=hs
 refine Qab (v:=int .i64 (i64w (1+r8.1))) rfl rfl rfl ?_
 refine Qab (v:=int .i8 (i8w (i64w (1+r8.1)))) rfl rfl rfl ?_
 show G _ _ _ _ [_,_,_,_,_,_,_,_,_,_,_,_,_,_,_,_,_,_,_] _
 refine Qab (v:=pointer (some ⟨b2,0,none⟩)) rfl rfl rfl ?_
 obtain ⟨r9,Hr9,H⟩:=bind_get H
 have hs:St _ [_,_,_] _:=hs.pull 0 rfl
 have hs:=hs.pack 1
 refine QaP (args:=[pointer (some ⟨b2,0,none⟩),int .i64 3]) rfl rfl (QaT rfl (callFunc_enter Try.func63 rfl rfl) rfl) (Qbg.calls (a1:=(⟨a1.Qbh,r8.2.Qbp,r8.2.Qbf⟩:QaC)) (a6:=3) hs hr4 Hr9) ?_
 rintro _ w ⟨rfl,hs⟩
 have hs:=St.unpack (Γ:=[_]) hs
 have hs:St _ [_,_,_] _:=hs
 refine Qab (v:=int .i8 (i8w r9.1)) rfl rfl rfl ?_
 show G _ _ _ _ [_,_,_,_,_,_,_,_,_,_,_,_,_,_,_,_,_,_,_] _
 refine Qab (v:=agg (Qae (⟨i8w (i64w (1+r8.1)),i8w r9.1,false,false⟩:Qaq)).toArray) rfl rfl (Qcn (cs:=(Qae (⟨i8w (i64w (1+r8.1)),i8w r9.1,false,false⟩:Qaq))) (segs:=[[int .i8 0],[int .i8 0],[bool false],[bool false]]) rfl rfl (fun _=>rfl) ⟨rfl,(fun _=>rfl),rfl,(fun _=>rfl),rfl,(fun _=>rfl),rfl,(fun _=>rfl),trivial⟩ (by simp only [List.map_cons,List.map_nil,List.forall_mem_cons,List.not_mem_nil,false_implies,implies_true,and_true];exact ⟨⟨_,rfl,rfl⟩,⟨_,rfl,rfl⟩⟩) (by first|rfl|(simp [ev,Qae];done)|(simp [ev,Qae];rfl))) ?_
 refine QbH hs rfl rfl (z:=(agg #[int .i8 0,int .i8 0,bool false,bool false])) (cs:=(Qae QcL)) rfl (fun _=>rfl) rfl ?_
 intro b10 w hs
 refine Qa9 (n:=4) hs (QaJ.len _) rfl rfl (vs:=(Qae (⟨i8w (i64w (1+r8.1)),i8w r9.1,false,false⟩:Qaq))) rfl rfl rfl (fun _=>rfl) (QaJ.len _) (QaJ.one _) ?_
 intro w hs
 refine Qaa (Qag (Qan [0,1,2,3] rfl ?_))
 refine Qab (v:=pointer (some ⟨b2,0,none⟩)) rfl rfl rfl ?_
 show G _ _ _ _ [_,_,_,_,_,_,_,_,_,_,_,_,_,_,_,_,_,_,_] _
 obtain ⟨r12,Hr12,H⟩:=bind_get H
 have hs:St _ [_,_,_,_] _:=hs.pull 1 rfl
 have hs:=hs.pack 1
 refine QaP (args:=[pointer (some ⟨b2,0,none⟩),int .i64 3]) rfl rfl (QaT rfl (callFunc_enter Try.func64 rfl rfl) rfl) (QbO.calls (a1:=(⟨a1.Qbh,r9.2.Qbp,r9.2.Qbf⟩:QaC)) (a6:=3) hs hr4 Hr12) ?_
 rintro _ w ⟨rfl,hs⟩
 have hs:=St.unpack (Γ:=[_]) hs
 have hs:St _ [_,_,_,_] _:=hs
 refine Qab (v:=pointer (some ⟨b10,2,none⟩)) rfl rfl rfl ?_
 have hs:St _ [_,_,_,_] _:=hs.pull 1 rfl
 refine Qb8 hs rfl rfl (vs:=(encB r12.1)) (cs':=(Qae (⟨(⟨i8w (i64w (1+r8.1)),i8w r9.1,false,false⟩:Qaq).QaF,(⟨i8w (i64w (1+r8.1)),i8w r9.1,false,false⟩:Qaq).Qa0,r12.1,(⟨i8w (i64w (1+r8.1)),i8w r9.1,false,false⟩:Qaq).QbI⟩:Qaq))) rfl rfl rfl (n:=1) (fun _=>rfl) (fkB.len _) (by first|exact Nat.le_of_ble_eq_true rfl|simp [encAI_len,encAB_len,encA_len]) (fkB.one _) rfl ?_
 intro w hs
 refine Qaa (Qag (Qan [0,1,2,3] rfl ?_))
 refine Qab (v:=pointer (some ⟨b2,0,none⟩)) rfl rfl rfl ?_
 show G _ _ _ _ [_,_,_,_,_,_,_,_,_,_,_,_,_,_,_,_,_,_,_] _
 obtain ⟨r13,Hr13,H⟩:=bind_get H
 have hs:St _ [_,_,_,_] _:=hs.pull 1 rfl
 have hs:=hs.pack 1
 refine QaP (args:=[pointer (some ⟨b2,0,none⟩),int .i64 3]) rfl rfl (QaT rfl (callFunc_enter Try.func64 rfl rfl) rfl) (QbO.calls (a1:=(⟨a1.Qbh,r12.2.Qbp,r12.2.Qbf⟩:QaC)) (a6:=3) hs hr4 Hr13) ?_
 rintro _ w ⟨rfl,hs⟩
 have hs:=St.unpack (Γ:=[_]) hs
 have hs:St _ [_,_,_,_] _:=hs
 refine Qab (v:=pointer (some ⟨b10,3,none⟩)) rfl rfl rfl ?_
 have hs:St _ [_,_,_,_] _:=hs.pull 1 rfl
 refine Qb8 hs rfl rfl (vs:=(encB r13.1)) (cs':=(Qae (⟨(⟨(⟨i8w (i64w (1+r8.1)),i8w r9.1,false,false⟩:Qaq).QaF,(⟨i8w (i64w (1+r8.1)),i8w r9.1,false,false⟩:Qaq).Qa0,r12.1,(⟨i8w (i64w (1+r8.1)),i8w r9.1,false,false⟩:Qaq).QbI⟩:Qaq).QaF,(⟨(⟨i8w (i64w (1+r8.1)),i8w r9.1,false,false⟩:Qaq).QaF,(⟨i8w (i64w (1+r8.1)),i8w r9.1,false,false⟩:Qaq).Qa0,r12.1,(⟨i8w (i64w (1+r8.1)),i8w r9.1,false,false⟩:Qaq).QbI⟩:Qaq).Qa0,(⟨(⟨i8w (i64w (1+r8.1)),i8w r9.1,false,false⟩:Qaq).QaF,(⟨i8w (i64w (1+r8.1)),i8w r9.1,false,false⟩:Qaq).Qa0,r12.1,(⟨i8w (i64w (1+r8.1)),i8w r9.1,false,false⟩:Qaq).QbI⟩:Qaq).QbU,r13.1⟩:Qaq))) rfl rfl rfl (n:=1) (fun _=>rfl) (fkB.len _) (by first|exact Nat.le_of_ble_eq_true rfl|simp [encAI_len,encAB_len,encA_len]) (fkB.one _) rfl ?_
 intro w hs
 refine Qaa (Qag (Qan [0,1] rfl ?_))
 refine QaG rfl rfl (es:=(Qae (⟨(⟨(⟨i8w (i64w (1+r8.1)),i8w r9.1,false,false⟩:Qaq).QaF,(⟨i8w (i64w (1+r8.1)),i8w r9.1,false,false⟩:Qaq).Qa0,r12.1,(⟨i8w (i64w (1+r8.1)),i8w r9.1,false,false⟩:Qaq).QbI⟩:Qaq).QaF,(⟨(⟨i8w (i64w (1+r8.1)),i8w r9.1,false,false⟩:Qaq).QaF,(⟨i8w (i64w (1+r8.1)),i8w r9.1,false,false⟩:Qaq).Qa0,r12.1,(⟨i8w (i64w (1+r8.1)),i8w r9.1,false,false⟩:Qaq).QbI⟩:Qaq).Qa0,(⟨(⟨i8w (i64w (1+r8.1)),i8w r9.1,false,false⟩:Qaq).QaF,(⟨i8w (i64w (1+r8.1)),i8w r9.1,false,false⟩:Qaq).Qa0,r12.1,(⟨i8w (i64w (1+r8.1)),i8w r9.1,false,false⟩:Qaq).QbI⟩:Qaq).QbU,r13.1⟩:Qaq))) rfl rfl (fun _=>rfl) (n:=4) (fun _=>rfl) (QaJ.len _) (cells_all (hs.cells 0 rfl)) ?_
 show G _ _ _ _ [_,_,_,_,_,_,_,_,_,_,_,_,_,_,_,_,_,_,_] _
 have hs:St _ [_,_,_,_] _:=hs.pull 2 rfl
 refine Qa9 (n:=4) hs (QaJ.len _) rfl rfl (vs:=(Qae (⟨(⟨(⟨i8w (i64w (1+r8.1)),i8w r9.1,false,false⟩:Qaq).QaF,(⟨i8w (i64w (1+r8.1)),i8w r9.1,false,false⟩:Qaq).Qa0,r12.1,(⟨i8w (i64w (1+r8.1)),i8w r9.1,false,false⟩:Qaq).QbI⟩:Qaq).QaF,(⟨(⟨i8w (i64w (1+r8.1)),i8w r9.1,false,false⟩:Qaq).QaF,(⟨i8w (i64w (1+r8.1)),i8w r9.1,false,false⟩:Qaq).Qa0,r12.1,(⟨i8w (i64w (1+r8.1)),i8w r9.1,false,false⟩:Qaq).QbI⟩:Qaq).Qa0,(⟨(⟨i8w (i64w (1+r8.1)),i8w r9.1,false,false⟩:Qaq).QaF,(⟨i8w (i64w (1+r8.1)),i8w r9.1,false,false⟩:Qaq).Qa0,r12.1,(⟨i8w (i64w (1+r8.1)),i8w r9.1,false,false⟩:Qaq).QbI⟩:Qaq).QbU,r13.1⟩:Qaq))) rfl rfl rfl (fun _=>rfl) (QaJ.len _) (QaJ.one _) ?_
 intro w hs
 refine Qaa ?_
 obtain rfl:=QsJ H
 refine QaK Try.func35 (v:=agg (Qae (⟨(⟨(⟨i8w (i64w (1+r8.1)),i8w r9.1,false,false⟩:Qaq).QaF,(⟨i8w (i64w (1+r8.1)),i8w r9.1,false,false⟩:Qaq).Qa0,r12.1,(⟨i8w (i64w (1+r8.1)),i8w r9.1,false,false⟩:Qaq).QbI⟩:Qaq).QaF,(⟨(⟨i8w (i64w (1+r8.1)),i8w r9.1,false,false⟩:Qaq).QaF,(⟨i8w (i64w (1+r8.1)),i8w r9.1,false,false⟩:Qaq).Qa0,r12.1,(⟨i8w (i64w (1+r8.1)),i8w r9.1,false,false⟩:Qaq).QbI⟩:Qaq).Qa0,(⟨(⟨i8w (i64w (1+r8.1)),i8w r9.1,false,false⟩:Qaq).QaF,(⟨i8w (i64w (1+r8.1)),i8w r9.1,false,false⟩:Qaq).Qa0,r12.1,(⟨i8w (i64w (1+r8.1)),i8w r9.1,false,false⟩:Qaq).QbI⟩:Qaq).QbU,r13.1⟩:Qaq)).toArray) (resC rfl ⟨⟨_,rfl,(run_loadVar_agg (es:=(Qae (⟨(⟨(⟨i8w (i64w (1+r8.1)),i8w r9.1,false,false⟩:Qaq).QaF,(⟨i8w (i64w (1+r8.1)),i8w r9.1,false,false⟩:Qaq).Qa0,r12.1,(⟨i8w (i64w (1+r8.1)),i8w r9.1,false,false⟩:Qaq).QbI⟩:Qaq).QaF,(⟨(⟨i8w (i64w (1+r8.1)),i8w r9.1,false,false⟩:Qaq).QaF,(⟨i8w (i64w (1+r8.1)),i8w r9.1,false,false⟩:Qaq).Qa0,r12.1,(⟨i8w (i64w (1+r8.1)),i8w r9.1,false,false⟩:Qaq).QbI⟩:Qaq).Qa0,(⟨(⟨i8w (i64w (1+r8.1)),i8w r9.1,false,false⟩:Qaq).QaF,(⟨i8w (i64w (1+r8.1)),i8w r9.1,false,false⟩:Qaq).Qa0,r12.1,(⟨i8w (i64w (1+r8.1)),i8w r9.1,false,false⟩:Qaq).QbI⟩:Qaq).QbU,r13.1⟩:Qaq))) rfl (congrArg (Result.ok · _) (QaJ.len _).symm) (cells_all (hs.cells 0 rfl)))⟩,trivial⟩) ?_
 have hs:=hs.pull 3 rfl
 have hs:=hs.pull 3 rfl
 have hs:St _ [_,_] _:=St.take (Γ':=[_,_]) hs
 exact ⟨_,rfl,rfl,hs⟩
def QcF.post (w0:World) (r:Qaq) (v:Value) (w:World):Prop:=v=agg (Qae r).toArray∧St w0 [] w
theorem QcF.calls {N:Nat} {a1:(List Int)} {v2:Value} {w0:World} {r:Qaq} (hr0:RdRow (K.int .u8) w0 v2 a1) (H:QcF.f N a1=some r):
 Calls Try.prog 12 #[v2] w0 fun e w=>∃ v,e= .returned v∧QcF.post w0 r v w:=by
 unfold QcF.f at H
 have hs:St w0 [] w0:=St.refl w0
 refine calls_of_g (n:=5) Try.func12 rfl rfl ?_
 show G _ _ _ _ [_,_,_,_,_,_] _
 refine Qag (Qan [0] rfl ?_)
 refine QbH hs rfl rfl (z:=(agg #[int .i8 0,int .i8 0,bool false,bool false])) (cs:=(Qae QcL)) rfl (fun _=>rfl) rfl ?_
 intro b3 w hs
 refine Qaa (Qag (Qan [0,1,2,3] rfl ?_))
 refine Qab (v:=v2) rfl rfl rfl ?_
 obtain ⟨r5,Hr5,H⟩:=bind_get H
 refine QaP (args:=[v2]) rfl rfl (QaT rfl (callFunc_enter Try.func36 rfl rfl) rfl) (Qcm.calls (a1:=a1) (hs.rd hr0) Hr5) ?_
 rintro _ w ⟨b6,rfl,hs2⟩
 have hs:St _ [_,_] _:=hs.call hs2
 show G _ _ _ _ [_,_,_,_,_,_] _
 obtain ⟨r8,Hr8,H⟩:=bind_get H
 have hs:St _ [_,_] _:=hs.pull 0 rfl
 have hs:=hs.pack 1
 refine QaP (args:=[pointer (some ⟨b6,0,none⟩)]) rfl rfl (QaT rfl (callFunc_enter Try.func35 rfl rfl) rfl) (QcC.calls (a1:=(⟨a1,r5.Qbp,r5.Qbf⟩:QaC)) hs hr0 Hr8) ?_
 rintro _ w ⟨rfl,hs⟩
 have hs:=St.unpack (Γ:=[_]) hs
 have hs:St _ [_,_] _:=hs
 have hs:St _ [_,_] _:=hs.pull 1 rfl
 refine Qa9 (n:=4) hs (QaJ.len _) rfl rfl (vs:=(Qae r8.1)) rfl rfl rfl (fun _=>rfl) (QaJ.len _) (QaJ.one _) ?_
 intro w hs
 refine Qaa ?_
 obtain rfl:=QsJ H
 refine QaK Try.func12 (v:=agg (Qae r8.1).toArray) (resC rfl ⟨⟨_,rfl,(run_loadVar_agg (es:=(Qae r8.1)) rfl (congrArg (Result.ok · _) (QaJ.len _).symm) (cells_all (hs.cells 0 rfl)))⟩,trivial⟩) ?_
 have hs:St _ [] _:=St.take (Γ':=[_,_]) hs
 exact ⟨_,rfl,rfl,hs⟩
def Qcc.post (w0:World) (r:Bool) (v:Value) (w:World):Prop:=v=bool r∧St w0 [] w
theorem Qcc.calls {N:Nat} {a1:Qaq} {a2:Int} {w0:World} {r:Bool} (H:Qcc.f N a1 a2=some r):
 Calls Try.prog 65 #[agg (Qae a1).toArray,int .i64 a2] w0 fun e w=>∃ v,e= .returned v∧Qcc.post w0 r v w:=by
 unfold Qcc.f at H
 have hs:St w0 [] w0:=St.refl w0
 refine calls_of_g (n:=19) Try.func65 rfl rfl ?_
 show G _ _ _ _ [_,_,_,_,_,_,_,_,_,_,_,_,_,_,_,_,_,_,_,_,_] _
 refine Qag (Qan [0,1] rfl ?_)
 refine Qbw hs rfl rfl (cs:=(Qae a1)) rfl rfl ?_
 intro b3 w hs
 show G _ _ _ _ [_,_,_,_,_,_,_,_,_,_,_,_,_,_,_,_,_,_,_,_,_] _
 refine Qab (v:=bool false) rfl rfl rfl (Qaa (Qag (Qan [0,1,2,3,4,5,6,7,8,9,10,11,12,13,14,15,16] rfl ?_)))
 refine Qab (v:=int .i64 a2) rfl rfl rfl ?_
 refine Qab (v:=pointer (some ⟨b3,0,none⟩)) rfl rfl rfl ?_
 show G _ _ _ _ [_,_,_,_,_,_,_,_,_,_,_,_,_,_,_,_,_,_,_,_,_] _
 refine Qaz rfl rfl (v:=int .i8 a1.QaF) rfl rfl (fun _=>rfl) (cells_load (hs.cells 0 rfl) 0 1 rfl) ?_
 refine Qab (v:=int .i64 (i64w a1.QaF)) rfl rfl rfl ?_
 refine QaR (B:=decide (a2< (i64w a1.QaF))) rfl rfl rfl ?_ ?_
 ·
  intro hb
  rw [if_pos (b_dec_t hb)] at H
  refine Qab (v:=bool true) rfl rfl rfl ?_
  show G _ _ _ _ [_,_,_,_,_,_,_,_,_,_,_,_,_,_,_,_,_,_,_,_,_] _
  refine Qal rfl rfl (Qal rfl rfl (Qal rfl rfl ?_))
  show G _ _ _ _ [_,_,_,_,_,_,_,_,_,_,_,_,_,_,_,_,_,_,_,_,_] _
  refine Qal rfl rfl (Qal rfl rfl (Qal rfl rfl ?_))
  show G _ _ _ _ [_,_,_,_,_,_,_,_,_,_,_,_,_,_,_,_,_,_,_,_,_] _
  refine Qal rfl rfl (Qal rfl rfl (Qal rfl rfl ?_))
  show G _ _ _ _ [_,_,_,_,_,_,_,_,_,_,_,_,_,_,_,_,_,_,_,_,_] _
  refine Qab (v:=bool true) rfl rfl rfl ?_
  refine Qab (v:=bool true) rfl rfl rfl (Qaa ?_)
  obtain rfl:=QsJ H
  refine QaK Try.func65 (v:=bool true) (res1 rfl rfl) ?_
  have hs:St _ [] _:=St.take (Γ':=[_]) hs
  exact ⟨_,rfl,rfl,hs⟩
 intro hb
 rw [if_neg (b_dec_f hb)] at H
 show G _ _ _ _ [_,_,_,_,_,_,_,_,_,_,_,_,_,_,_,_,_,_,_,_,_] _
 refine Qab (v:=bool false) rfl rfl rfl ?_
 refine Qab (v:=int .i64 a2) rfl rfl rfl ?_
 refine Qab (v:=pointer (some ⟨b3,0,none⟩)) rfl rfl rfl ?_
 show G _ _ _ _ [_,_,_,_,_,_,_,_,_,_,_,_,_,_,_,_,_,_,_,_,_] _
 refine Qaz rfl rfl (v:=int .i8 a1.QaF) rfl rfl (fun _=>rfl) (cells_load (hs.cells 0 rfl) 0 1 rfl) ?_
 refine Qab (v:=int .i64 (i64w a1.QaF)) rfl rfl rfl ?_
 refine QaR (B:=a2==(i64w a1.QaF)) rfl rfl rfl ?_ ?_
 ·
  intro hb
  rw [if_pos (b_beq_t hb)] at H
  refine Qab (v:=bool true) rfl rfl rfl ?_
  refine Qab (v:=pointer (some ⟨b3,3,none⟩)) rfl rfl rfl ?_
  show G _ _ _ _ [_,_,_,_,_,_,_,_,_,_,_,_,_,_,_,_,_,_,_,_,_] _
  refine Qaz rfl rfl (v:=bool a1.QbI) rfl rfl (fun _=>rfl) (cells_load (hs.cells 0 rfl) 3 1 rfl) ?_
  refine Qab (v:=bool a1.QbI) rfl rfl rfl ?_
  refine Qab (v:=bool a1.QbI) rfl rfl rfl ?_
  show G _ _ _ _ [_,_,_,_,_,_,_,_,_,_,_,_,_,_,_,_,_,_,_,_,_] _
  refine Qab (v:=bool a1.QbI) rfl rfl rfl (Qaa ?_)
  obtain rfl:=QsJ H
  refine QaK Try.func65 (v:=bool a1.QbI) (res1 rfl rfl) ?_
  have hs:St _ [] _:=St.take (Γ':=[_]) hs
  exact ⟨_,rfl,rfl,hs⟩
 intro hb
 rw [if_neg (b_beq_f hb)] at H
 show G _ _ _ _ [_,_,_,_,_,_,_,_,_,_,_,_,_,_,_,_,_,_,_,_,_] _
 refine Qab (v:=bool false) rfl rfl rfl (Qal rfl rfl (Qal rfl rfl ?_))
 show G _ _ _ _ [_,_,_,_,_,_,_,_,_,_,_,_,_,_,_,_,_,_,_,_,_] _
 refine Qab (v:=bool false) rfl rfl rfl ?_
 refine Qab (v:=bool false) rfl rfl rfl ?_
 refine Qab (v:=bool false) rfl rfl rfl ?_
 show G _ _ _ _ [_,_,_,_,_,_,_,_,_,_,_,_,_,_,_,_,_,_,_,_,_] _
 refine Qaa ?_
 obtain rfl:=QsJ H
 refine QaK Try.func65 (v:=bool false) (res1 rfl rfl) ?_
 have hs:St _ [] _:=St.take (Γ':=[_]) hs
 exact ⟨_,rfl,rfl,hs⟩
def QcG.post (wb:World) (Z:As) (b2:Nat) (v3:Value) (r:(Int×QaC)) (v:Value) (w:World):Prop:=v=int .i64 r.1∧St wb [Cells b2 (([v3,int .i64 r.2.Qbp,int .u64 r.2.Qbf]:List Value)) 117,Z] w
theorem QcG.calls {N:Nat} {a1:QaC} {a6:(List Int)} {b2:Nat} {v3:Value} {v7:Value} {wb:World} {Z:As} {w0:World} {r:(Int×QaC)} (hs:St wb [Cells b2 (([v3,int .i64 a1.Qbp,int .u64 a1.Qbf]:List Value)) 117,Z] w0) (hr4:RdRow (K.int .u8) wb v3 a1.Qbh) (hr1:RdRow (K.int .i64) wb v7 a6) (H:QcG.f N a1 a6=some r):
 Calls Try.prog 66 #[pointer (some ⟨b2,0,none⟩),v7] w0 fun e w=>∃ v,e= .returned v∧QcG.post wb Z b2 v3 r v w:=by
 unfold QcG.f at H
 refine calls_of_g (n:=10) Try.func66 rfl rfl ?_
 show G _ _ _ _ [_,_,_,_,_,_,_,_,_,_,_,_] _
 refine Qag (Qan [0] rfl ?_)
 refine Qab (v:=int .i64 0) rfl rfl rfl ?_
 show G _ _ _ _ [_,_,_,_,_,_,_,_,_,_,_,_] _
 refine Qaa (Qag (Qan [0,1,2,3,4,5,6,7] rfl ?_))
 refine Qab (v:=v7) rfl rfl rfl ?_
 refine Qab (v:=pointer (some ⟨b2,0,none⟩)) rfl rfl rfl ?_
 refine Qab (v:=v7) rfl rfl rfl ?_
 show G _ _ _ _ [_,_,_,_,_,_,_,_,_,_,_,_] _
 refine Qb1 (hs.rd hr1) rfl rfl rfl rfl rfl ?_
 obtain ⟨r8,Hr8,H⟩:=bind_get H
 have hs:St _ [_,_] _:=hs.pull 0 rfl
 have hs:=hs.pack 1
 refine QaP (args:=[pointer (some ⟨b2,0,none⟩),int .i64 (a6.length:Int)]) rfl rfl (QaT rfl (callFunc_enter Try.func63 rfl rfl) rfl) (Qbg.calls (a1:=(⟨a1.Qbh,a1.Qbp,a1.Qbf⟩:QaC)) (a6:=(a6.length:Int)) hs hr4 Hr8) ?_
 rintro _ w ⟨rfl,hs⟩
 have hs:=St.unpack (Γ:=[_]) hs
 have hs:St _ [_,_] _:=hs
 obtain ⟨g1,H⟩:=ite_get H
 refine QcS (fkI .i64) 0 (hs.rd hr1) rfl (fun _=>rfl) g1.1 g1.2 rfl rfl rfl rfl rfl ?_
 intro p9 hp9 lp9 op9
 show G _ _ _ _ [_,_,_,_,_,_,_,_,_,_,_,_] _
 refine Qaz rfl rfl (v:=int .i64 (rdL a6 r8.1 0)) rfl rfl (fun _=>rfl) hp9 ?_
 refine Qab (v:=int .i64 (rdL a6 r8.1 0)) rfl rfl rfl (Qaa ?_)
 obtain rfl:=QsJ H
 refine QaK Try.func66 (v:=int .i64 (rdL a6 r8.1 0)) (res1 rfl rfl) ?_
 have hs:=hs.pull 1 rfl
 have hs:=hs.pull 1 rfl
 have hs:St _ [_,_] _:=St.take (Γ':=[]) hs
 exact ⟨_,rfl,rfl,hs⟩
def QbX.post (wb:World) (Z:As) (b2:Nat) (v3:Value) (v7:Value) (r:(Int×QaC×(List Int))) (v:Value) (w:World):Prop:=v=int .i64 r.1∧St wb [Cells b2 (([v3,int .i64 r.2.1.Qbp,int .u64 r.2.1.Qbf]:List Value)) 117,Row 2 (K.int .i64) v7 r.2.2,Z] w
theorem QbX.calls {N:Nat} {a1:QaC} {a6:(List Int)} {b2:Nat} {v3:Value} {v7:Value} {wb:World} {Z:As} {w0:World} {r:(Int×QaC×(List Int))} (hs:St wb [Cells b2 (([v3,int .i64 a1.Qbp,int .u64 a1.Qbf]:List Value)) 117,Row 2 (K.int .i64) v7 a6,Z] w0) (hr4:RdRow (K.int .u8) wb v3 a1.Qbh) (H:QbX.f N a1 a6=some r):
 Calls Try.prog 66 #[pointer (some ⟨b2,0,none⟩),v7] w0 fun e w=>∃ v,e= .returned v∧QbX.post wb Z b2 v3 v7 r v w:=by
 unfold QbX.f at H
 refine calls_of_g (n:=10) Try.func66 rfl rfl ?_
 show G _ _ _ _ [_,_,_,_,_,_,_,_,_,_,_,_] _
 refine Qag (Qan [0] rfl ?_)
 refine Qab (v:=int .i64 0) rfl rfl rfl ?_
 show G _ _ _ _ [_,_,_,_,_,_,_,_,_,_,_,_] _
 refine Qaa (Qag (Qan [0,1,2,3,4,5,6,7] rfl ?_))
 refine Qab (v:=v7) rfl rfl rfl ?_
 refine Qab (v:=pointer (some ⟨b2,0,none⟩)) rfl rfl rfl ?_
 refine Qab (v:=v7) rfl rfl rfl ?_
 show G _ _ _ _ [_,_,_,_,_,_,_,_,_,_,_,_] _
 refine Qb1 (hs.row 1 rfl) rfl rfl rfl rfl rfl ?_
 obtain ⟨r9,Hr9,H⟩:=bind_get H
 have hs:St _ [_,_,_] _:=hs.pull 0 rfl
 have hs:=hs.pack 1
 refine QaP (args:=[pointer (some ⟨b2,0,none⟩),int .i64 (a6.length:Int)]) rfl rfl (QaT rfl (callFunc_enter Try.func63 rfl rfl) rfl) (Qbg.calls (a1:=(⟨a1.Qbh,a1.Qbp,a1.Qbf⟩:QaC)) (a6:=(a6.length:Int)) hs hr4 Hr9) ?_
 rintro _ w ⟨rfl,hs⟩
 have hs:=St.unpack (Γ:=[_]) hs
 have hs:St _ [_,_,_] _:=hs
 obtain ⟨g1,H⟩:=ite_get H
 refine QcS (fkI .i64) 0 (hs.row 1 rfl) rfl (fun _=>rfl) g1.1 g1.2 rfl rfl rfl rfl rfl ?_
 intro p10 hp10 lp10 op10
 show G _ _ _ _ [_,_,_,_,_,_,_,_,_,_,_,_] _
 refine Qaz rfl rfl (v:=int .i64 (rdL a6 r9.1 0)) rfl rfl (fun _=>rfl) hp10 ?_
 refine Qab (v:=int .i64 (rdL a6 r9.1 0)) rfl rfl rfl (Qaa ?_)
 obtain rfl:=QsJ H
 refine QaK Try.func66 (v:=int .i64 (rdL a6 r9.1 0)) (res1 rfl rfl) ?_
 have hs:=hs.pull 2 rfl
 have hs:=hs.pull 2 rfl
 have hs:=hs.pull 2 rfl
 have hs:St _ [_,_,_] _:=St.take (Γ':=[]) hs
 exact ⟨_,rfl,rfl,hs⟩
end Go.Proofs.YtgpdpedpmhonkaaX
