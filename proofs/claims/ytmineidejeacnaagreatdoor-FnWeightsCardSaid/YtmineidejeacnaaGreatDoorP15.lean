import Derived.Test.YtmineidejeacnaaGreatDoorP11
import Derived.Test.YtmineidejeacnaaGreatDoorP13
import Derived.Test.YtmineidejeacnaaGreatDoorP14
namespace Go.Proofs.YtmineidejeacnaaGreatDoorX
open Go Go.RowKit Go.Proofs
open Go.Value (int pointer bool agg slice string tuple)
set_option maxHeartbeats 40000000
set_option maxRecDepth 100000
set_option linter.unusedVariables false
set_option linter.unusedSimpArgs false
def Qar.post (w0:World) (r:Bool) (v:Value) (w:World):Prop:=v=bool r∧St w0 [] w
theorem Qar.calls {N : Nat} {a1 : (List Int)} {a3 : (List Int)} {v2 : Value} {v4 : Value} {w0 : World} {Q : Bool → Prop} (htab : Lib.TabIs Tryz.prog w0 "internal/strconv.uint64pow10" .u64 Lib.pow10Tab) (hmax : CellI w0 0) (hsyn : CellE w0 1) (hrng : CellE w0 2) (hr0 : RdRow (K.int .u8) w0 v2 a1) (hr1 : RdRow (K.int .u8) w0 v4 a3) (H : Qar.f N a1 a3 Q) :
 Calls Tryz.prog 3 #[v2,v4] w0 fun e w=>∃ v,e= .returned v∧∃ r,Q r∧Qar.post w0 r v w:=by
 unfold Qar.f at H
 have hs:St w0 [] w0:=St.refl w0
 refine calls_of_g (n:=356) Tryz.func3 rfl rfl ?_
 show G _ _ _ _ (_::_::_::_::_::_::_::_::_::_::_::_::_::_::_::_::_::_::_::_::_::_::_::_::_::_::_::_::_::_::_::_::_::_::_::_::_::_::_::_::_::_::_::_::_::_::_::_::_::_::_::_::_::_::_::_::_::_::_::_::_::_::_::_::_::_::_::_::_::_::_::_::_::_::_::_::_::_::_::_::_::_::_::_::_::_::_::_::_::_::_::_::_::_::_::_::_::_::_::_::_::_::_::_::_::_::_::_::_::_::_::_::_::_::_::_::_::_::_::_::_::_::_::_::_::_::_::_::_::_::_::_::_::_::_::_::_::_::_::_::_::_::_::_::_::_::_::_::_::_::_::_::_::_::_::_::_::_::_::_::_::_::_::_::_::_::_::_::_::_::_::_::_::_::_::_::_::_::_::_::_::_::_::_::_::_::_::_::_::_::_::_::_::_::_::_::_::_::_::_::_::_::_::_::_::_::_::_::_::_::_::_::_::_::_::_::_::_::_::_::_::_::_::_::_::_::_::_::_::_::_::_::_::_::_::_::_::_::_::_::_::_::_::_::_::_::_::_::_::_::_::_::_::_::_::_::_::_::_::_::_::_::_::_::_::_::_::_::_::_::_::_::_::_::_::_::_::_::_::_::_::_::_::_::_::_::_::_::_::_::_::_::_::_::_::_::_::_::_::_::_::_::_::_::_::_::_::_::_::_::_::_::_::_::_::_::_::_::_::_::_::_::_::_::_::_::_::_::_::_::_::_::_::_::_::_::_::_::_::_::_::_::_::_::_::_::_::_::_::_::_::_::_::_::_::_::_::_::[]) _
 refine Qad (Qag [0] rfl ?_)
 refine Qaa (v:=bool false) rfl rfl rfl (g_d rfl ?_)
 try dsimp only [Qae,Qaf]
 refine Qac (Qad (Qad (Qag [0,1,2] rfl ?_)))
 refine Qaa (v:=v2) rfl rfl rfl (g_d rfl ?_)
 refine Qaa (v:=v4) rfl rfl rfl (g_d rfl ?_)
 obtain ⟨r5,Hr5,H⟩:=H
 refine Qaw (args:=[v2,v4]) rfl rfl (Qax rfl (callFunc_enter Tryz.func4 rfl rfl) rfl) (Qbx.calls (a1:=a1) (a3:=a3) (hs.rd hr0) (hs.rd hr1) Hr5) ?_
 rintro _ w ⟨rfl,hs2⟩
 have hs:St _ [] _:=hs.call hs2
 cases r5 with
 |true=>
  rw [if_pos rfl] at H
  refine g_d rfl (Qac (Qai rfl (Qad (Qag [0] rfl ?_))))
  refine Qaa (v:=bool true) rfl rfl rfl (g_d rfl ?_)
  try dsimp only [Qae,Qaf]
  refine Qac ?_
  refine Qaq Tryz.func3 (v:=bool true) (res1 rfl rfl) ?_
  have hs:St _ [] _:=St.take (Γ':=[]) hs
  exact ⟨_,rfl,_,H,rfl,hs⟩
 |false=> as_aux_lemma =>
  rw [if_neg Bool.false_ne_true] at H
  refine g_d rfl (Qac (Qal rfl (Qay (Qad (Qag [0,1,2] rfl ?_)))))
  refine Qaa (v:=v2) rfl rfl rfl (g_d rfl ?_)
  obtain ⟨r6,Hr6,H⟩:=H
  refine Qaw (args:=[v2]) rfl rfl (Qax rfl (callFunc_enter Tryz.func5 rfl rfl) rfl) (Qbt.calls (a1:=a1) (hs.rd hr0) Hr6) ?_
  intro v7 w hs2
  have hs:St _ [_] _:=hs.call hs2
  refine g_d rfl ?_
  try dsimp only [Qae,Qaf]
  refine Qaa (v:=v7) rfl rfl rfl (g_d rfl (Qac (Qad (Qag [0,1,2,3] rfl ?_))))
  refine Qaa (v:=v4) rfl rfl rfl (g_d rfl ?_)
  refine Qaa (v:=v7) rfl rfl rfl (g_d rfl ?_)
  obtain ⟨r9,Hr9,H⟩:=H
  refine Qaw (args:=[v4,v7]) rfl rfl (Qax rfl (callFunc_enter Tryz.func6 rfl rfl) rfl) (Qa0.calls (a1:=a3) (a3:=r6) (hs.rd hr1) (hs.row 0 rfl) Hr9) ?_
  intro v10 w hs2
  have hs:St _ [_,_] _:=hs.call hs2
  refine g_d rfl ?_
  try dsimp only [Qae,Qaf]
  refine Qaa (v:=v10) rfl rfl rfl (g_d rfl (Qac (Qad (Qag [0,1,2,3] rfl ?_))))
  refine Qaa (v:=v4) rfl rfl rfl (g_d rfl ?_)
  obtain ⟨r12,Hr12,H⟩:=H
  refine Qaw (args:=[v4,int .i64 0,int .i64 2]) rfl rfl (Qax rfl (callFunc_enter Tryz.func7 rfl rfl) rfl) (QbF.calls (a1:=a3) (a3:=0) (a4:=2) (hs.rd hr1) Hr12) ?_
  rintro _ w ⟨rfl,hs2⟩
  have hs:St _ [_,_] _:=hs.call hs2
  refine g_d rfl ?_
  try dsimp only [Qae,Qaf]
  refine Qaa (v:=bool (r12==1)) rfl rfl rfl (g_d rfl ?_)
  refine Qaa (v:=bool (r12==1)) rfl rfl rfl (g_d rfl ?_)
  try dsimp only [Qae,Qaf]
  refine Qac (Qad (Qag [0,1,2] rfl ?_))
  refine Qaa (v:=v4) rfl rfl rfl (g_d rfl ?_)
  obtain ⟨r13,Hr13,H⟩:=H
  refine Qaw (args:=[v4,int .i64 1,int .i64 60]) rfl rfl (Qax rfl (callFunc_enter Tryz.func7 rfl rfl) rfl) (QbF.calls (a1:=a3) (a3:=1) (a4:=60) (hs.rd hr1) Hr13) ?_
  rintro _ w ⟨rfl,hs2⟩
  have hs:St _ [_,_] _:=hs.call hs2
  refine g_d rfl ?_
  refine Qaa (v:=int .i64 r13) rfl rfl rfl (g_d rfl ?_)
  try dsimp only [Qae,Qaf]
  refine Qac (Qad (Qag [0,1,2,3,4,5,6,7,8] rfl ?_))
  refine Qaa (v:=v7) rfl rfl rfl (g_d rfl ?_)
  refine Qaa (v:=int .i64 r13) rfl rfl rfl (g_d rfl ?_)
  refine Qaa (v:=bool (r12==1)) rfl rfl rfl (g_d rfl ?_)
  refine Qaw (args:=[v7,int .i64 r13,bool (r12==1)]) rfl rfl (Qax rfl (callFunc_enter Tryz.func8 rfl rfl) rfl) (Qat.calls (a1:=r6) (a3:=r13) (a4:=r12==1) (hs.row 1 rfl) H) ?_
  rintro _ w ⟨r14,H,v15,rfl,hs2⟩
  try dsimp only at H
  have hs:St _ [_,_,_] _:=hs.call hs2
  refine g_d rfl ?_
  refine Qaa (v:=tuple #[v15,int .i64 r14.2]) rfl rfl rfl (g_d rfl ?_)
  refine Qaa (v:=v15) rfl rfl rfl (g_d rfl ?_)
  refine Qaa (v:=int .i64 r14.2) rfl rfl rfl (g_d rfl ?_)
  refine Qaa (v:=v15) rfl rfl rfl (g_d rfl ?_)
  try dsimp only [Qae,Qaf]
  refine Qaa (v:=int .i64 r14.2) rfl rfl rfl (g_d rfl (Qac (Qad (Qag [0,1,2,3,4,5,6,7,8] rfl ?_))))
  refine Qaa (v:=v7) rfl rfl rfl (g_d rfl ?_)
  refine Qaa (v:=int .i64 r13) rfl rfl rfl (g_d rfl ?_)
  refine Qaa (v:=bool (r12==1)) rfl rfl rfl (g_d rfl ?_)
  obtain ⟨r17,Hr17,H⟩:=H
  refine Qaw (args:=[v7,int .i64 r13,bool (r12==1)]) rfl rfl (Qax rfl (callFunc_enter Tryz.func9 rfl rfl) rfl) (Qau.calls (a1:=r6) (a3:=r13) (a4:=r12==1) (hs.row 2 rfl) Hr17) ?_
  rintro _ w ⟨v18,rfl,hs2⟩
  have hs:St _ [_,_,_,_] _:=hs.call hs2
  refine g_d rfl ?_
  try dsimp only [Qae,Qaf]
  refine Qaa (v:=tuple #[v18,int .i64 r17.2]) rfl rfl rfl (g_d rfl ?_)
  refine Qaa (v:=v18) rfl rfl rfl (g_d rfl ?_)
  refine Qaa (v:=int .i64 r17.2) rfl rfl rfl (g_d rfl ?_)
  refine Qaa (v:=v18) rfl rfl rfl (g_d rfl ?_)
  refine Qaa (v:=int .i64 r17.2) rfl rfl rfl (g_d rfl ?_)
  try dsimp only [Qae,Qaf]
  refine Qac (Qad (Qag [0,1,2,3,4,5,6,7,8] rfl ?_))
  refine Qaa (v:=v7) rfl rfl rfl (g_d rfl ?_)
  refine Qaa (v:=int .i64 r13) rfl rfl rfl (g_d rfl ?_)
  refine Qaa (v:=bool (r12==1)) rfl rfl rfl (g_d rfl ?_)
  refine Qaw (args:=[v7,int .i64 r13,bool (r12==1)]) rfl rfl (Qax rfl (callFunc_enter Tryz.func10 rfl rfl) rfl) (Qbu.calls (a1:=r6) (a3:=r13) (a4:=r12==1) (hs.row 3 rfl) H) ?_
  rintro _ w ⟨r20,H,rfl,hs2⟩
  try dsimp only at H
  have hs:St _ [_,_,_,_] _:=hs.call hs2
  refine g_d rfl ?_
  refine Qaa (v:=tuple #[bool r20.1,int .i64 r20.2]) rfl rfl rfl (g_d rfl ?_)
  refine Qaa (v:=bool r20.1) rfl rfl rfl (g_d rfl ?_)
  refine Qaa (v:=int .i64 r20.2) rfl rfl rfl (g_d rfl ?_)
  refine Qaa (v:=bool r20.1) rfl rfl rfl (g_d rfl ?_)
  try dsimp only [Qae,Qaf]
  refine Qaa (v:=int .i64 r20.2) rfl rfl rfl (g_d rfl (Qac (Qad (Qag [0,1,2,3,4,5,6,7,8] rfl ?_))))
  refine Qaa (v:=v7) rfl rfl rfl (g_d rfl ?_)
  refine Qaa (v:=int .i64 r13) rfl rfl rfl (g_d rfl ?_)
  refine Qaa (v:=bool (r12==1)) rfl rfl rfl (g_d rfl ?_)
  refine Qaw (args:=[v7,int .i64 r13,bool (r12==1)]) rfl rfl (Qax rfl (callFunc_enter Tryz.func11 rfl rfl) rfl) (Qbm.calls (a1:=r6) (a3:=r13) (a4:=r12==1) (hs.row 3 rfl) H) ?_
  rintro _ w ⟨r21,H,rfl,hs2⟩
  try dsimp only at H
  have hs:St _ [_,_,_,_] _:=hs.call hs2
  refine g_d rfl ?_
  try dsimp only [Qae,Qaf]
  refine Qaa (v:=tuple #[int .i64 r21.1,int .i64 r21.2]) rfl rfl rfl (g_d rfl ?_)
  refine Qaa (v:=int .i64 r21.1) rfl rfl rfl (g_d rfl ?_)
  refine Qaa (v:=int .i64 r21.2) rfl rfl rfl (g_d rfl ?_)
  refine Qaa (v:=int .i64 r21.1) rfl rfl rfl (g_d rfl ?_)
  refine Qaa (v:=int .i64 r21.2) rfl rfl rfl (g_d rfl ?_)
  try dsimp only [Qae,Qaf]
  refine Qac (Qad (Qag [0,1,2,3,4,5,6,7] rfl ?_))
  refine Qaa (v:=v7) rfl rfl rfl (g_d rfl ?_)
  refine Qaa (v:=v10) rfl rfl rfl (g_d rfl ?_)
  obtain ⟨r22,Hr22,H⟩:=H
  refine Qaw (args:=[v7,v10]) rfl rfl (Qax rfl (callFunc_enter Tryz.func12 rfl rfl) rfl) (Qbn.calls (a1:=r6) (a3:=r9) (hs.row 3 rfl) (hs.row 2 rfl) Hr22) ?_
  rintro _ w ⟨rfl,hs2⟩
  have hs:St _ [_,_,_,_] _:=hs.call hs2
  refine g_d rfl ?_
  refine Qaa (v:=tuple #[int .i64 r22.1,int .i64 r22.2]) rfl rfl rfl (g_d rfl ?_)
  refine Qaa (v:=int .i64 r22.1) rfl rfl rfl (g_d rfl ?_)
  refine Qaa (v:=int .i64 r22.2) rfl rfl rfl (g_d rfl ?_)
  refine Qaa (v:=int .i64 r22.1) rfl rfl rfl (g_d rfl ?_)
  try dsimp only [Qae,Qaf]
  refine Qaa (v:=int .i64 r22.2) rfl rfl rfl (g_d rfl (Qac (Qad (Qag [0,1,2,3,4,5,6,7] rfl ?_))))
  refine Qaa (v:=v7) rfl rfl rfl (g_d rfl ?_)
  refine Qaa (v:=v10) rfl rfl rfl (g_d rfl ?_)
  obtain ⟨r23,Hr23,H⟩:=H
  refine Qaw (args:=[v7,v10]) rfl rfl (Qax rfl (callFunc_enter Tryz.func13 rfl rfl) rfl) (QaR.calls (a1:=r6) (a3:=r9) (hs.row 3 rfl) (hs.row 2 rfl) Hr23) ?_
  rintro _ w ⟨rfl,hs2⟩
  have hs:St _ [_,_,_,_] _:=hs.call hs2
  refine g_d rfl ?_
  try dsimp only [Qae,Qaf]
  refine Qaa (v:=tuple #[int .i64 r23.1,int .i64 r23.2]) rfl rfl rfl (g_d rfl ?_)
  refine Qaa (v:=int .i64 r23.1) rfl rfl rfl (g_d rfl ?_)
  refine Qaa (v:=int .i64 r23.2) rfl rfl rfl (g_d rfl ?_)
  refine Qaa (v:=int .i64 r23.1) rfl rfl rfl (g_d rfl ?_)
  refine Qaa (v:=int .i64 r23.2) rfl rfl rfl (g_d rfl ?_)
  try dsimp only [Qae,Qaf]
  refine Qac (Qad (Qag [0,1,2,3,4,5,6,7] rfl ?_))
  refine Qaa (v:=v7) rfl rfl rfl (g_d rfl ?_)
  obtain ⟨r24,Hr24,H⟩:=H
  refine Qaw (args:=[v7]) rfl rfl (Qax rfl (callFunc_enter Tryz.func15 rfl rfl) rfl) (QaI.calls (a1:=r6) (hs.tab htab) (hs.row 3 rfl) Hr24) ?_
  rintro _ w ⟨rfl,hs2⟩
  have hs:St _ [_,_,_,_] _:=hs.call hs2
  refine g_d rfl ?_
  obtain ⟨r25,Hr25,H⟩:=H
  refine Qaw (args:=[string r24]) rfl rfl (Qax rfl (callFunc_enter Tryz.func14 rfl rfl) rfl) (QaG.calls (a1:=r24) (hs.tab htab) (hs.cellI hmax) (hs.cellE hsyn) (hs.cellE hrng) Hr25) ?_
  rintro _ w ⟨v26,rfl,hs2⟩
  have hs:St _ [_,_,_,_,_] _:=hs.call hs2
  refine g_d rfl ?_
  try dsimp only [Qae,Qaf]
  refine Qaa (v:=tuple #[v26,int .i64 r25.2]) rfl rfl rfl (g_d rfl ?_)
  refine Qaa (v:=v26) rfl rfl rfl (g_d rfl ?_)
  refine Qaa (v:=int .i64 r25.2) rfl rfl rfl (g_d rfl ?_)
  refine Qaa (v:=v26) rfl rfl rfl (g_d rfl ?_)
  refine Qaa (v:=int .i64 r25.2) rfl rfl rfl (g_d rfl ?_)
  try dsimp only [Qae,Qaf]
  refine Qac (Qad (Qag [0,1,2,3,4,5,6,7] rfl ?_))
  refine Qaa (v:=v10) rfl rfl rfl (g_d rfl ?_)
  obtain ⟨r28,Hr28,H⟩:=H
  refine Qaw (args:=[v10]) rfl rfl (Qax rfl (callFunc_enter Tryz.func17 rfl rfl) rfl) (Qbj.calls (a1:=r9) (hs.row 3 rfl) Hr28) ?_
  rintro _ w ⟨rfl,hs2⟩
  have hs:St _ [_,_,_,_,_] _:=hs.call hs2
  refine g_d rfl ?_
  obtain ⟨r29,Hr29,H⟩:=H
  refine Qaw (args:=[string r28]) rfl rfl (Qax rfl (callFunc_enter Tryz.func16 rfl rfl) rfl) (Qbk.calls (a1:=r28) Hr29) ?_
  rintro _ w ⟨v30,rfl,hs2⟩
  have hs:St _ [_,_,_,_,_,_] _:=hs.call hs2
  refine g_d rfl ?_
  try dsimp only [Qae,Qaf]
  refine Qaa (v:=tuple #[v30,int .i64 r29.2]) rfl rfl rfl (g_d rfl ?_)
  refine Qaa (v:=v30) rfl rfl rfl (g_d rfl ?_)
  refine Qaa (v:=int .i64 r29.2) rfl rfl rfl (g_d rfl ?_)
  refine Qaa (v:=v30) rfl rfl rfl (g_d rfl ?_)
  refine Qaa (v:=int .i64 r29.2) rfl rfl rfl (g_d rfl ?_)
  try dsimp only [Qae,Qaf]
  refine Qac (Qad (Qag [0,1,2,3,4,5,6] rfl ?_))
  refine Qaa (v:=v7) rfl rfl rfl (g_d rfl ?_)
  obtain ⟨r32,Hr32,H⟩:=H
  refine Qaw (args:=[v7]) rfl rfl (Qax rfl (callFunc_enter Tryz.func18 rfl rfl) rfl) (Qbh.calls (a1:=r6) (hs.row 5 rfl) Hr32) ?_
  rintro _ w ⟨rfl,hs2⟩
  have hs:St _ [_,_,_,_,_,_] _:=hs.call hs2
  refine g_d rfl ?_
  refine Qaa (v:=tuple #[int .i64 r32.1,int .i64 r32.2]) rfl rfl rfl (g_d rfl ?_)
  refine Qaa (v:=int .i64 r32.1) rfl rfl rfl (g_d rfl ?_)
  refine Qaa (v:=int .i64 r32.2) rfl rfl rfl (g_d rfl ?_)
  refine Qaa (v:=int .i64 r32.1) rfl rfl rfl (g_d rfl ?_)
  try dsimp only [Qae,Qaf]
  refine Qaa (v:=int .i64 r32.2) rfl rfl rfl (g_d rfl (Qac (Qad (Qad (Qag [0,1,2,3,4,5,6,7,8,9,10,11,12,13,14,15,16,17,18,19,20,21,22,23,24,25,26,27,28,29,30,31,32,33,34,35,36,37,38,39,40,41,42,43,44,45,46,47,48,49,50,51,52,53,54,55,56,57,58,59,60,61,62,63,64,65,66,67,68,69,70,71,72,73,74,75,76,77,78,79,80,81,82] rfl ?_)))))
  refine Qaa (v:=int .i64 r14.2) rfl rfl rfl (g_d rfl ?_)
  refine Qaa (v:=int .i64 r17.2) rfl rfl rfl (g_d rfl ?_)
  refine Qas (B:=r14.2 !=r17.2) rfl rfl rfl ?_ ?_
  ·
   intro hb
   rw [if_neg (b_bne_t hb)] at H
   refine g_d rfl ?_
   try dsimp only [Qae,Qaf]
   refine Qaa (v:=bool true) rfl rfl rfl (g_d rfl (Qab rfl rfl (g_d rfl (Qab rfl rfl (g_d rfl (Qab rfl rfl (g_d rfl ?_)))))))
   refine Qab rfl rfl (g_d rfl ?_)
   try dsimp only [Qae,Qaf]
   refine Qaa (v:=bool true) rfl rfl rfl (g_d rfl ?_)
   refine Qaa (v:=bool true) rfl rfl rfl (g_d rfl (Qab rfl rfl (g_d rfl (Qab rfl rfl (g_d rfl ?_)))))
   try dsimp only [Qae,Qaf]
   refine Qaa (v:=bool true) rfl rfl rfl (g_d rfl ?_)
   refine Qaa (v:=bool true) rfl rfl rfl (g_d rfl (Qab rfl rfl (g_d rfl (Qab rfl rfl (g_d rfl (Qab rfl rfl (g_d rfl ?_)))))))
   try dsimp only [Qae,Qaf]
   refine Qab rfl rfl (g_d rfl ?_)
   refine Qaa (v:=bool true) rfl rfl rfl (g_d rfl ?_)
   try dsimp only [Qae,Qaf]
   refine Qaa (v:=bool true) rfl rfl rfl (g_d rfl (Qab rfl rfl (g_d rfl (Qab rfl rfl (g_d rfl ?_)))))
   refine Qaa (v:=bool true) rfl rfl rfl (g_d rfl ?_)
   try dsimp only [Qae,Qaf]
   refine Qaa (v:=bool true) rfl rfl rfl (g_d rfl (Qab rfl rfl (g_d rfl (Qab rfl rfl (g_d rfl (Qab rfl rfl (g_d rfl ?_)))))))
   refine Qab rfl rfl (g_d rfl ?_)
   try dsimp only [Qae,Qaf]
   refine Qaa (v:=bool true) rfl rfl rfl (g_d rfl ?_)
   refine Qaa (v:=bool true) rfl rfl rfl (g_d rfl (Qab rfl rfl (g_d rfl (Qab rfl rfl (g_d rfl ?_)))))
   try dsimp only [Qae,Qaf]
   refine Qaa (v:=bool true) rfl rfl rfl (g_d rfl ?_)
   refine Qaa (v:=bool true) rfl rfl rfl (g_d rfl (Qab rfl rfl (g_d rfl (Qab rfl rfl (g_d rfl (Qab rfl rfl (g_d rfl ?_)))))))
   try dsimp only [Qae,Qaf]
   refine Qab rfl rfl (g_d rfl ?_)
   refine Qaa (v:=bool true) rfl rfl rfl (g_d rfl ?_)
   try dsimp only [Qae,Qaf]
   refine Qaa (v:=bool true) rfl rfl rfl (g_d rfl (Qab rfl rfl (g_d rfl (Qab rfl rfl (g_d rfl (Qab rfl rfl (g_d rfl ?_)))))))
   refine Qaa (v:=bool true) rfl rfl rfl (g_d rfl ?_)
   try dsimp only [Qae,Qaf]
   refine Qaa (v:=bool true) rfl rfl rfl (g_d rfl (Qab rfl rfl (g_d rfl (Qab rfl rfl (g_d rfl ?_)))))
   refine Qaa (v:=bool true) rfl rfl rfl (g_d rfl ?_)
   try dsimp only [Qae,Qaf]
   refine Qaa (v:=bool true) rfl rfl rfl (g_d rfl (Qab rfl rfl (g_d rfl (Qab rfl rfl (g_d rfl ?_)))))
   refine Qaa (v:=bool true) rfl rfl rfl (g_d rfl ?_)
   try dsimp only [Qae,Qaf]
   refine Qaa (v:=bool true) rfl rfl rfl (g_d rfl (Qab rfl rfl (g_d rfl (Qab rfl rfl (g_d rfl (Qab rfl rfl (g_d rfl ?_)))))))
   refine Qab rfl rfl (g_d rfl ?_)
   try dsimp only [Qae,Qaf]
   refine Qaa (v:=bool true) rfl rfl rfl (g_d rfl ?_)
   refine Qaa (v:=bool true) rfl rfl rfl (g_d rfl (Qab rfl rfl (g_d rfl (Qab rfl rfl (g_d rfl ?_)))))
   try dsimp only [Qae,Qaf]
   refine Qaa (v:=bool true) rfl rfl rfl (g_d rfl ?_)
   refine Qaa (v:=bool true) rfl rfl rfl (g_d rfl (Qab rfl rfl (g_d rfl (Qab rfl rfl (g_d rfl (Qab rfl rfl (g_d rfl ?_)))))))
   try dsimp only [Qae,Qaf]
   refine Qab rfl rfl (g_d rfl ?_)
   refine Qaa (v:=bool true) rfl rfl rfl (g_d rfl ?_)
   try dsimp only [Qae,Qaf]
   refine Qaa (v:=bool true) rfl rfl rfl (g_d rfl (Qab rfl rfl (g_d rfl (Qab rfl rfl (g_d rfl ?_)))))
   refine Qaa (v:=bool true) rfl rfl rfl (g_d rfl ?_)
   try dsimp only [Qae,Qaf]
   refine Qaa (v:=bool true) rfl rfl rfl (g_d rfl (Qab rfl rfl (g_d rfl (Qab rfl rfl (g_d rfl (Qab rfl rfl (g_d rfl ?_)))))))
   try dsimp only [Qae,Qaf]
   refine Qaa (v:=bool true) rfl rfl rfl (g_d rfl ?_)
   refine Qaa (v:=bool true) rfl rfl rfl (g_d rfl (Qab rfl rfl (g_d rfl (Qab rfl rfl (g_d rfl (Qab rfl rfl (g_d rfl ?_)))))))
   try dsimp only [Qae,Qaf]
   refine Qab rfl rfl (g_d rfl ?_)
   refine Qaa (v:=bool true) rfl rfl rfl (g_d rfl ?_)
   try dsimp only [Qae,Qaf]
   refine Qac (Qai rfl (Qad (Qag [0] rfl ?_)))
   refine Qaa (v:=bool false) rfl rfl rfl (g_d rfl (Qac ?_))
   refine Qaq Tryz.func3 (v:=bool false) (res1 rfl rfl) ?_
   have hs:St _ [] _:=St.take (Γ':=[_,_,_,_,_,_]) hs
   exact ⟨_,rfl,_,H,rfl,hs⟩
  intro hb
  as_aux_lemma =>
   rw [if_pos (b_bne_f hb)] at H
   refine g_d rfl ?_
   try dsimp only [Qae,Qaf]
   refine Qaa (v:=bool false) rfl rfl rfl (g_d rfl ?_)
   refine Qaa (v:=v15) rfl rfl rfl (g_d rfl ?_)
   refine Qaa (v:=v18) rfl rfl rfl (g_d rfl ?_)
   obtain ⟨r33,Hr33,H⟩:=H
   refine Qaw (args:=[v15,v18]) rfl rfl (Qax rfl (callFunc_enter Tryz.func19 rfl rfl) rfl) (QaV.calls (a1:=r14.1) (a3:=r17.1) (hs.row 3 rfl) (hs.row 2 rfl) Hr33) ?_
   rintro _ w ⟨rfl,hs2⟩
   have hs:St _ [_,_,_,_,_,_] _:=hs.call hs2
   refine g_d rfl ?_
   refine Qaa (v:=bool (!r33)) rfl rfl rfl (g_d rfl ?_)
   try dsimp only [Qae,Qaf]
   refine Qas (B:=!r33) rfl rfl rfl ?_ ?_
   ·
    intro hb
    rw [if_neg (b_not_t hb)] at H
    refine g_d rfl ?_
    refine Qaa (v:=bool true) rfl rfl rfl (g_d rfl (Qab rfl rfl (g_d rfl (Qab rfl rfl (g_d rfl ?_)))))
    try dsimp only [Qae,Qaf]
    refine Qaa (v:=bool true) rfl rfl rfl (g_d rfl ?_)
    refine Qaa (v:=bool true) rfl rfl rfl (g_d rfl (Qab rfl rfl (g_d rfl (Qab rfl rfl (g_d rfl (Qab rfl rfl (g_d rfl ?_)))))))
    try dsimp only [Qae,Qaf]
    refine Qab rfl rfl (g_d rfl ?_)
    refine Qaa (v:=bool true) rfl rfl rfl (g_d rfl ?_)
    try dsimp only [Qae,Qaf]
    refine Qaa (v:=bool true) rfl rfl rfl (g_d rfl (Qab rfl rfl (g_d rfl (Qab rfl rfl (g_d rfl ?_)))))
    refine Qaa (v:=bool true) rfl rfl rfl (g_d rfl ?_)
    try dsimp only [Qae,Qaf]
    refine Qaa (v:=bool true) rfl rfl rfl (g_d rfl (Qab rfl rfl (g_d rfl (Qab rfl rfl (g_d rfl (Qab rfl rfl (g_d rfl ?_)))))))
    refine Qab rfl rfl (g_d rfl ?_)
    try dsimp only [Qae,Qaf]
    refine Qaa (v:=bool true) rfl rfl rfl (g_d rfl ?_)
    refine Qaa (v:=bool true) rfl rfl rfl (g_d rfl (Qab rfl rfl (g_d rfl (Qab rfl rfl (g_d rfl ?_)))))
    try dsimp only [Qae,Qaf]
    refine Qaa (v:=bool true) rfl rfl rfl (g_d rfl ?_)
    refine Qaa (v:=bool true) rfl rfl rfl (g_d rfl (Qab rfl rfl (g_d rfl (Qab rfl rfl (g_d rfl (Qab rfl rfl (g_d rfl ?_)))))))
    try dsimp only [Qae,Qaf]
    refine Qab rfl rfl (g_d rfl ?_)
    refine Qaa (v:=bool true) rfl rfl rfl (g_d rfl ?_)
    try dsimp only [Qae,Qaf]
    refine Qaa (v:=bool true) rfl rfl rfl (g_d rfl (Qab rfl rfl (g_d rfl (Qab rfl rfl (g_d rfl (Qab rfl rfl (g_d rfl ?_)))))))
    refine Qaa (v:=bool true) rfl rfl rfl (g_d rfl ?_)
    try dsimp only [Qae,Qaf]
    refine Qaa (v:=bool true) rfl rfl rfl (g_d rfl (Qab rfl rfl (g_d rfl (Qab rfl rfl (g_d rfl ?_)))))
    refine Qaa (v:=bool true) rfl rfl rfl (g_d rfl ?_)
    try dsimp only [Qae,Qaf]
    refine Qaa (v:=bool true) rfl rfl rfl (g_d rfl (Qab rfl rfl (g_d rfl (Qab rfl rfl (g_d rfl ?_)))))
    refine Qaa (v:=bool true) rfl rfl rfl (g_d rfl ?_)
    try dsimp only [Qae,Qaf]
    refine Qaa (v:=bool true) rfl rfl rfl (g_d rfl (Qab rfl rfl (g_d rfl (Qab rfl rfl (g_d rfl (Qab rfl rfl (g_d rfl ?_)))))))
    refine Qab rfl rfl (g_d rfl ?_)
    try dsimp only [Qae,Qaf]
    refine Qaa (v:=bool true) rfl rfl rfl (g_d rfl ?_)
    refine Qaa (v:=bool true) rfl rfl rfl (g_d rfl (Qab rfl rfl (g_d rfl (Qab rfl rfl (g_d rfl ?_)))))
    try dsimp only [Qae,Qaf]
    refine Qaa (v:=bool true) rfl rfl rfl (g_d rfl ?_)
    refine Qaa (v:=bool true) rfl rfl rfl (g_d rfl (Qab rfl rfl (g_d rfl (Qab rfl rfl (g_d rfl (Qab rfl rfl (g_d rfl ?_)))))))
    try dsimp only [Qae,Qaf]
    refine Qab rfl rfl (g_d rfl ?_)
    refine Qaa (v:=bool true) rfl rfl rfl (g_d rfl ?_)
    try dsimp only [Qae,Qaf]
    refine Qaa (v:=bool true) rfl rfl rfl (g_d rfl (Qab rfl rfl (g_d rfl (Qab rfl rfl (g_d rfl ?_)))))
    refine Qaa (v:=bool true) rfl rfl rfl (g_d rfl ?_)
    try dsimp only [Qae,Qaf]
    refine Qaa (v:=bool true) rfl rfl rfl (g_d rfl (Qab rfl rfl (g_d rfl (Qab rfl rfl (g_d rfl (Qab rfl rfl (g_d rfl ?_)))))))
    try dsimp only [Qae,Qaf]
    refine Qaa (v:=bool true) rfl rfl rfl (g_d rfl ?_)
    refine Qaa (v:=bool true) rfl rfl rfl (g_d rfl (Qab rfl rfl (g_d rfl (Qab rfl rfl (g_d rfl (Qab rfl rfl (g_d rfl ?_)))))))
    try dsimp only [Qae,Qaf]
    refine Qab rfl rfl (g_d rfl ?_)
    refine Qaa (v:=bool true) rfl rfl rfl (g_d rfl ?_)
    try dsimp only [Qae,Qaf]
    refine Qac (Qai rfl (Qad (Qag [0] rfl ?_)))
    refine Qaa (v:=bool false) rfl rfl rfl (g_d rfl (Qac ?_))
    refine Qaq Tryz.func3 (v:=bool false) (res1 rfl rfl) ?_
    have hs:St _ [] _:=St.take (Γ':=[_,_,_,_,_,_]) hs
    exact ⟨_,rfl,_,H,rfl,hs⟩
   intro hb
   rw [if_pos (b_not_f hb)] at H
   refine g_d rfl ?_
   refine Qaa (v:=bool false) rfl rfl rfl (g_d rfl ?_)
   refine Qaa (v:=int .i64 r20.2) rfl rfl rfl (g_d rfl ?_)
   refine Qaa (v:=bool (r20.2 !=0)) rfl rfl rfl (g_d rfl ?_)
   try dsimp only [Qae,Qaf]
   refine Qas (B:=r20.2 !=0) rfl rfl rfl ?_ ?_
   ·
    intro hb
    rw [if_neg (b_bne_t hb)] at H
    refine g_d rfl ?_
    try dsimp only [Qae,Qaf]
    refine Qaa (v:=bool true) rfl rfl rfl (g_d rfl (Qab rfl rfl (g_d rfl (Qab rfl rfl (g_d rfl (Qab rfl rfl (g_d rfl ?_)))))))
    refine Qab rfl rfl (g_d rfl ?_)
    try dsimp only [Qae,Qaf]
    refine Qaa (v:=bool true) rfl rfl rfl (g_d rfl ?_)
    refine Qaa (v:=bool true) rfl rfl rfl (g_d rfl (Qab rfl rfl (g_d rfl (Qab rfl rfl (g_d rfl ?_)))))
    try dsimp only [Qae,Qaf]
    refine Qaa (v:=bool true) rfl rfl rfl (g_d rfl ?_)
    refine Qaa (v:=bool true) rfl rfl rfl (g_d rfl (Qab rfl rfl (g_d rfl (Qab rfl rfl (g_d rfl ?_)))))
    try dsimp only [Qae,Qaf]
    refine Qab rfl rfl (g_d rfl (Qab rfl rfl (g_d rfl ?_)))
    refine Qaa (v:=bool true) rfl rfl rfl (g_d rfl ?_)
    try dsimp only [Qae,Qaf]
    refine Qaa (v:=bool true) rfl rfl rfl (g_d rfl (Qab rfl rfl (g_d rfl (Qab rfl rfl (g_d rfl ?_)))))
    refine Qaa (v:=bool true) rfl rfl rfl (g_d rfl ?_)
    try dsimp only [Qae,Qaf]
    refine Qaa (v:=bool true) rfl rfl rfl (g_d rfl (Qab rfl rfl (g_d rfl (Qab rfl rfl (g_d rfl (Qab rfl rfl (g_d rfl ?_)))))))
    refine Qab rfl rfl (g_d rfl ?_)
    try dsimp only [Qae,Qaf]
    refine Qaa (v:=bool true) rfl rfl rfl (g_d rfl ?_)
    refine Qaa (v:=bool true) rfl rfl rfl (g_d rfl (Qab rfl rfl (g_d rfl (Qab rfl rfl (g_d rfl (Qab rfl rfl (g_d rfl ?_)))))))
    try dsimp only [Qae,Qaf]
    refine Qaa (v:=bool true) rfl rfl rfl (g_d rfl ?_)
    refine Qaa (v:=bool true) rfl rfl rfl (g_d rfl (Qab rfl rfl (g_d rfl (Qab rfl rfl (g_d rfl ?_)))))
    try dsimp only [Qae,Qaf]
    refine Qaa (v:=bool true) rfl rfl rfl (g_d rfl ?_)
    refine Qaa (v:=bool true) rfl rfl rfl (g_d rfl (Qab rfl rfl (g_d rfl (Qab rfl rfl (g_d rfl ?_)))))
    try dsimp only [Qae,Qaf]
    refine Qaa (v:=bool true) rfl rfl rfl (g_d rfl ?_)
    refine Qaa (v:=bool true) rfl rfl rfl (g_d rfl (Qab rfl rfl (g_d rfl (Qab rfl rfl (g_d rfl (Qab rfl rfl (g_d rfl ?_)))))))
    try dsimp only [Qae,Qaf]
    refine Qab rfl rfl (g_d rfl ?_)
    refine Qaa (v:=bool true) rfl rfl rfl (g_d rfl ?_)
    try dsimp only [Qae,Qaf]
    refine Qaa (v:=bool true) rfl rfl rfl (g_d rfl (Qab rfl rfl (g_d rfl (Qab rfl rfl (g_d rfl ?_)))))
    refine Qaa (v:=bool true) rfl rfl rfl (g_d rfl ?_)
    try dsimp only [Qae,Qaf]
    refine Qaa (v:=bool true) rfl rfl rfl (g_d rfl (Qab rfl rfl (g_d rfl (Qab rfl rfl (g_d rfl (Qab rfl rfl (g_d rfl ?_)))))))
    refine Qab rfl rfl (g_d rfl ?_)
    try dsimp only [Qae,Qaf]
    refine Qaa (v:=bool true) rfl rfl rfl (g_d rfl ?_)
    refine Qaa (v:=bool true) rfl rfl rfl (g_d rfl (Qab rfl rfl (g_d rfl (Qab rfl rfl (g_d rfl ?_)))))
    try dsimp only [Qae,Qaf]
    refine Qaa (v:=bool true) rfl rfl rfl (g_d rfl ?_)
    refine Qaa (v:=bool true) rfl rfl rfl (g_d rfl (Qab rfl rfl (g_d rfl (Qab rfl rfl (g_d rfl ?_)))))
    try dsimp only [Qae,Qaf]
    refine Qab rfl rfl (g_d rfl ?_)
    refine Qaa (v:=bool true) rfl rfl rfl (g_d rfl ?_)
    try dsimp only [Qae,Qaf]
    refine Qaa (v:=bool true) rfl rfl rfl (g_d rfl (Qab rfl rfl (g_d rfl (Qab rfl rfl (g_d rfl (Qab rfl rfl (g_d rfl ?_)))))))
    refine Qab rfl rfl (g_d rfl ?_)
    try dsimp only [Qae,Qaf]
    refine Qaa (v:=bool true) rfl rfl rfl (g_d rfl (Qac (Qai rfl (Qad (Qag [0] rfl ?_)))))
    refine Qaa (v:=bool false) rfl rfl rfl (g_d rfl ?_)
    try dsimp only [Qae,Qaf]
    refine Qac ?_
    refine Qaq Tryz.func3 (v:=bool false) (res1 rfl rfl) ?_
    have hs:St _ [] _:=St.take (Γ':=[_,_,_,_,_,_]) hs
    exact ⟨_,rfl,_,H,rfl,hs⟩
   intro hb
   rw [if_pos (b_bne_f hb)] at H
   refine g_d rfl ?_
   refine Qaa (v:=bool false) rfl rfl rfl (g_d rfl ?_)
   refine Qaa (v:=bool r20.1) rfl rfl rfl (g_d rfl ?_)
   refine Qaa (v:=int .i64 r14.2) rfl rfl rfl (g_d rfl ?_)
   refine Qaa (v:=bool (r14.2==0)) rfl rfl rfl (g_d rfl ?_)
   try dsimp only [Qae,Qaf]
   refine Qaa (v:=bool (r20.1 !=(r14.2==0))) rfl rfl rfl (g_d rfl ?_)
   refine Qas (B:=r20.1 !=(r14.2==0)) rfl rfl rfl ?_ ?_
   ·
    intro hb
    rw [if_neg (b_bne_t hb)] at H
    refine g_d rfl ?_
    try dsimp only [Qae,Qaf]
    refine Qaa (v:=bool true) rfl rfl rfl (g_d rfl (Qab rfl rfl (g_d rfl (Qab rfl rfl (g_d rfl ?_)))))
    refine Qaa (v:=bool true) rfl rfl rfl (g_d rfl ?_)
    try dsimp only [Qae,Qaf]
    refine Qaa (v:=bool true) rfl rfl rfl (g_d rfl (Qab rfl rfl (g_d rfl (Qab rfl rfl (g_d rfl (Qab rfl rfl (g_d rfl ?_)))))))
    refine Qab rfl rfl (g_d rfl ?_)
    try dsimp only [Qae,Qaf]
    refine Qaa (v:=bool true) rfl rfl rfl (g_d rfl ?_)
    refine Qaa (v:=bool true) rfl rfl rfl (g_d rfl (Qab rfl rfl (g_d rfl (Qab rfl rfl (g_d rfl ?_)))))
    try dsimp only [Qae,Qaf]
    refine Qaa (v:=bool true) rfl rfl rfl (g_d rfl ?_)
    refine Qaa (v:=bool true) rfl rfl rfl (g_d rfl (Qab rfl rfl (g_d rfl (Qab rfl rfl (g_d rfl (Qab rfl rfl (g_d rfl ?_)))))))
    try dsimp only [Qae,Qaf]
    refine Qab rfl rfl (g_d rfl ?_)
    refine Qaa (v:=bool true) rfl rfl rfl (g_d rfl ?_)
    try dsimp only [Qae,Qaf]
    refine Qaa (v:=bool true) rfl rfl rfl (g_d rfl (Qab rfl rfl (g_d rfl (Qab rfl rfl (g_d rfl (Qab rfl rfl (g_d rfl ?_)))))))
    refine Qaa (v:=bool true) rfl rfl rfl (g_d rfl ?_)
    try dsimp only [Qae,Qaf]
    refine Qaa (v:=bool true) rfl rfl rfl (g_d rfl (Qab rfl rfl (g_d rfl (Qab rfl rfl (g_d rfl ?_)))))
    refine Qaa (v:=bool true) rfl rfl rfl (g_d rfl ?_)
    try dsimp only [Qae,Qaf]
    refine Qaa (v:=bool true) rfl rfl rfl (g_d rfl (Qab rfl rfl (g_d rfl (Qab rfl rfl (g_d rfl ?_)))))
    refine Qaa (v:=bool true) rfl rfl rfl (g_d rfl ?_)
    try dsimp only [Qae,Qaf]
    refine Qaa (v:=bool true) rfl rfl rfl (g_d rfl (Qab rfl rfl (g_d rfl (Qab rfl rfl (g_d rfl (Qab rfl rfl (g_d rfl ?_)))))))
    refine Qab rfl rfl (g_d rfl ?_)
    try dsimp only [Qae,Qaf]
    refine Qaa (v:=bool true) rfl rfl rfl (g_d rfl ?_)
    refine Qaa (v:=bool true) rfl rfl rfl (g_d rfl (Qab rfl rfl (g_d rfl (Qab rfl rfl (g_d rfl ?_)))))
    try dsimp only [Qae,Qaf]
    refine Qaa (v:=bool true) rfl rfl rfl (g_d rfl ?_)
    refine Qaa (v:=bool true) rfl rfl rfl (g_d rfl (Qab rfl rfl (g_d rfl (Qab rfl rfl (g_d rfl (Qab rfl rfl (g_d rfl ?_)))))))
    try dsimp only [Qae,Qaf]
    refine Qab rfl rfl (g_d rfl ?_)
    refine Qaa (v:=bool true) rfl rfl rfl (g_d rfl ?_)
    try dsimp only [Qae,Qaf]
    refine Qaa (v:=bool true) rfl rfl rfl (g_d rfl (Qab rfl rfl (g_d rfl (Qab rfl rfl (g_d rfl ?_)))))
    refine Qaa (v:=bool true) rfl rfl rfl (g_d rfl ?_)
    try dsimp only [Qae,Qaf]
    refine Qaa (v:=bool true) rfl rfl rfl (g_d rfl (Qab rfl rfl (g_d rfl (Qab rfl rfl (g_d rfl (Qab rfl rfl (g_d rfl ?_)))))))
    try dsimp only [Qae,Qaf]
    refine Qaa (v:=bool true) rfl rfl rfl (g_d rfl ?_)
    refine Qaa (v:=bool true) rfl rfl rfl (g_d rfl (Qab rfl rfl (g_d rfl (Qab rfl rfl (g_d rfl (Qab rfl rfl (g_d rfl ?_)))))))
    try dsimp only [Qae,Qaf]
    refine Qab rfl rfl (g_d rfl ?_)
    refine Qaa (v:=bool true) rfl rfl rfl (g_d rfl ?_)
    try dsimp only [Qae,Qaf]
    refine Qac (Qai rfl (Qad (Qag [0] rfl ?_)))
    refine Qaa (v:=bool false) rfl rfl rfl (g_d rfl (Qac ?_))
    refine Qaq Tryz.func3 (v:=bool false) (res1 rfl rfl) ?_
    have hs:St _ [] _:=St.take (Γ':=[_,_,_,_,_,_]) hs
    exact ⟨_,rfl,_,H,rfl,hs⟩
   intro hb
   rw [if_pos (b_bne_f hb)] at H
   refine g_d rfl ?_
   try dsimp only [Qae,Qaf]
   refine Qaa (v:=bool false) rfl rfl rfl (g_d rfl ?_)
   refine Qaa (v:=int .i64 r21.2) rfl rfl rfl (g_d rfl ?_)
   refine Qaa (v:=bool (r21.2 !=0)) rfl rfl rfl (g_d rfl ?_)
   refine Qas (B:=r21.2 !=0) rfl rfl rfl ?_ ?_
   ·
    intro hb
    rw [if_neg (b_bne_t hb)] at H
    refine g_d rfl ?_
    try dsimp only [Qae,Qaf]
    refine Qaa (v:=bool true) rfl rfl rfl (g_d rfl (Qab rfl rfl (g_d rfl (Qab rfl rfl (g_d rfl (Qab rfl rfl (g_d rfl ?_)))))))
    refine Qab rfl rfl (g_d rfl ?_)
    try dsimp only [Qae,Qaf]
    refine Qaa (v:=bool true) rfl rfl rfl (g_d rfl ?_)
    refine Qaa (v:=bool true) rfl rfl rfl (g_d rfl (Qab rfl rfl (g_d rfl (Qab rfl rfl (g_d rfl ?_)))))
    try dsimp only [Qae,Qaf]
    refine Qaa (v:=bool true) rfl rfl rfl (g_d rfl ?_)
    refine Qaa (v:=bool true) rfl rfl rfl (g_d rfl (Qab rfl rfl (g_d rfl (Qab rfl rfl (g_d rfl (Qab rfl rfl (g_d rfl ?_)))))))
    try dsimp only [Qae,Qaf]
    refine Qab rfl rfl (g_d rfl ?_)
    refine Qaa (v:=bool true) rfl rfl rfl (g_d rfl ?_)
    try dsimp only [Qae,Qaf]
    refine Qaa (v:=bool true) rfl rfl rfl (g_d rfl (Qab rfl rfl (g_d rfl (Qab rfl rfl (g_d rfl (Qab rfl rfl (g_d rfl ?_)))))))
    refine Qaa (v:=bool true) rfl rfl rfl (g_d rfl ?_)
    try dsimp only [Qae,Qaf]
    refine Qaa (v:=bool true) rfl rfl rfl (g_d rfl (Qab rfl rfl (g_d rfl (Qab rfl rfl (g_d rfl ?_)))))
    refine Qaa (v:=bool true) rfl rfl rfl (g_d rfl ?_)
    try dsimp only [Qae,Qaf]
    refine Qaa (v:=bool true) rfl rfl rfl (g_d rfl (Qab rfl rfl (g_d rfl (Qab rfl rfl (g_d rfl ?_)))))
    refine Qaa (v:=bool true) rfl rfl rfl (g_d rfl ?_)
    try dsimp only [Qae,Qaf]
    refine Qaa (v:=bool true) rfl rfl rfl (g_d rfl (Qab rfl rfl (g_d rfl (Qab rfl rfl (g_d rfl (Qab rfl rfl (g_d rfl ?_)))))))
    refine Qab rfl rfl (g_d rfl ?_)
    try dsimp only [Qae,Qaf]
    refine Qaa (v:=bool true) rfl rfl rfl (g_d rfl ?_)
    refine Qaa (v:=bool true) rfl rfl rfl (g_d rfl (Qab rfl rfl (g_d rfl (Qab rfl rfl (g_d rfl ?_)))))
    try dsimp only [Qae,Qaf]
    refine Qaa (v:=bool true) rfl rfl rfl (g_d rfl ?_)
    refine Qaa (v:=bool true) rfl rfl rfl (g_d rfl (Qab rfl rfl (g_d rfl (Qab rfl rfl (g_d rfl (Qab rfl rfl (g_d rfl ?_)))))))
    try dsimp only [Qae,Qaf]
    refine Qab rfl rfl (g_d rfl ?_)
    refine Qaa (v:=bool true) rfl rfl rfl (g_d rfl ?_)
    try dsimp only [Qae,Qaf]
    refine Qaa (v:=bool true) rfl rfl rfl (g_d rfl (Qab rfl rfl (g_d rfl (Qab rfl rfl (g_d rfl ?_)))))
    refine Qaa (v:=bool true) rfl rfl rfl (g_d rfl ?_)
    try dsimp only [Qae,Qaf]
    refine Qaa (v:=bool true) rfl rfl rfl (g_d rfl (Qab rfl rfl (g_d rfl (Qab rfl rfl (g_d rfl (Qab rfl rfl (g_d rfl ?_)))))))
    try dsimp only [Qae,Qaf]
    refine Qaa (v:=bool true) rfl rfl rfl (g_d rfl ?_)
    refine Qaa (v:=bool true) rfl rfl rfl (g_d rfl (Qab rfl rfl (g_d rfl (Qab rfl rfl (g_d rfl (Qab rfl rfl (g_d rfl ?_)))))))
    try dsimp only [Qae,Qaf]
    refine Qab rfl rfl (g_d rfl ?_)
    refine Qaa (v:=bool true) rfl rfl rfl (g_d rfl ?_)
    try dsimp only [Qae,Qaf]
    refine Qac (Qai rfl (Qad (Qag [0] rfl ?_)))
    refine Qaa (v:=bool false) rfl rfl rfl (g_d rfl (Qac ?_))
    refine Qaq Tryz.func3 (v:=bool false) (res1 rfl rfl) ?_
    have hs:St _ [] _:=St.take (Γ':=[_,_,_,_,_,_]) hs
    exact ⟨_,rfl,_,H,rfl,hs⟩
   as_aux_lemma =>
    intro hb
    rw [if_pos (b_bne_f hb)] at H
    refine g_d rfl ?_
    try dsimp only [Qae,Qaf]
    refine Qaa (v:=bool false) rfl rfl rfl (g_d rfl ?_)
    refine Qaa (v:=int .i64 r21.1) rfl rfl rfl (g_d rfl ?_)
    refine Qaa (v:=bool (decide (r21.1>0))) rfl rfl rfl (g_d rfl ?_)
    refine Qaa (v:=bool r20.1) rfl rfl rfl (g_d rfl ?_)
    refine Qaa (v:=bool ((decide (r21.1>0)) !=r20.1)) rfl rfl rfl (g_d rfl ?_)
    try dsimp only [Qae,Qaf]
    refine Qas (B:=(decide (r21.1>0)) !=r20.1) rfl rfl rfl ?_ ?_
    ·
     intro hb
     rw [if_neg (b_bne_t hb)] at H
     refine g_d rfl ?_
     refine Qaa (v:=bool true) rfl rfl rfl (g_d rfl (Qab rfl rfl (g_d rfl (Qab rfl rfl (g_d rfl ?_)))))
     try dsimp only [Qae,Qaf]
     refine Qaa (v:=bool true) rfl rfl rfl (g_d rfl ?_)
     refine Qaa (v:=bool true) rfl rfl rfl (g_d rfl (Qab rfl rfl (g_d rfl (Qab rfl rfl (g_d rfl (Qab rfl rfl (g_d rfl ?_)))))))
     try dsimp only [Qae,Qaf]
     refine Qab rfl rfl (g_d rfl ?_)
     refine Qaa (v:=bool true) rfl rfl rfl (g_d rfl ?_)
     try dsimp only [Qae,Qaf]
     refine Qaa (v:=bool true) rfl rfl rfl (g_d rfl (Qab rfl rfl (g_d rfl (Qab rfl rfl (g_d rfl (Qab rfl rfl (g_d rfl ?_)))))))
     refine Qaa (v:=bool true) rfl rfl rfl (g_d rfl ?_)
     try dsimp only [Qae,Qaf]
     refine Qaa (v:=bool true) rfl rfl rfl (g_d rfl (Qab rfl rfl (g_d rfl (Qab rfl rfl (g_d rfl ?_)))))
     refine Qaa (v:=bool true) rfl rfl rfl (g_d rfl ?_)
     try dsimp only [Qae,Qaf]
     refine Qaa (v:=bool true) rfl rfl rfl (g_d rfl (Qab rfl rfl (g_d rfl (Qab rfl rfl (g_d rfl ?_)))))
     refine Qaa (v:=bool true) rfl rfl rfl (g_d rfl ?_)
     try dsimp only [Qae,Qaf]
     refine Qaa (v:=bool true) rfl rfl rfl (g_d rfl (Qab rfl rfl (g_d rfl (Qab rfl rfl (g_d rfl (Qab rfl rfl (g_d rfl ?_)))))))
     refine Qab rfl rfl (g_d rfl ?_)
     try dsimp only [Qae,Qaf]
     refine Qaa (v:=bool true) rfl rfl rfl (g_d rfl ?_)
     refine Qaa (v:=bool true) rfl rfl rfl (g_d rfl (Qab rfl rfl (g_d rfl (Qab rfl rfl (g_d rfl ?_)))))
     try dsimp only [Qae,Qaf]
     refine Qaa (v:=bool true) rfl rfl rfl (g_d rfl ?_)
     refine Qaa (v:=bool true) rfl rfl rfl (g_d rfl (Qab rfl rfl (g_d rfl (Qab rfl rfl (g_d rfl (Qab rfl rfl (g_d rfl ?_)))))))
     try dsimp only [Qae,Qaf]
     refine Qab rfl rfl (g_d rfl ?_)
     refine Qaa (v:=bool true) rfl rfl rfl (g_d rfl ?_)
     try dsimp only [Qae,Qaf]
     refine Qaa (v:=bool true) rfl rfl rfl (g_d rfl (Qab rfl rfl (g_d rfl (Qab rfl rfl (g_d rfl ?_)))))
     refine Qaa (v:=bool true) rfl rfl rfl (g_d rfl ?_)
     try dsimp only [Qae,Qaf]
     refine Qaa (v:=bool true) rfl rfl rfl (g_d rfl (Qab rfl rfl (g_d rfl (Qab rfl rfl (g_d rfl (Qab rfl rfl (g_d rfl ?_)))))))
     try dsimp only [Qae,Qaf]
     refine Qaa (v:=bool true) rfl rfl rfl (g_d rfl ?_)
     refine Qaa (v:=bool true) rfl rfl rfl (g_d rfl (Qab rfl rfl (g_d rfl (Qab rfl rfl (g_d rfl (Qab rfl rfl (g_d rfl ?_)))))))
     try dsimp only [Qae,Qaf]
     refine Qab rfl rfl (g_d rfl ?_)
     refine Qaa (v:=bool true) rfl rfl rfl (g_d rfl ?_)
     try dsimp only [Qae,Qaf]
     refine Qac (Qai rfl (Qad (Qag [0] rfl ?_)))
     refine Qaa (v:=bool false) rfl rfl rfl (g_d rfl (Qac ?_))
     refine Qaq Tryz.func3 (v:=bool false) (res1 rfl rfl) ?_
     have hs:St _ [] _:=St.take (Γ':=[_,_,_,_,_,_]) hs
     exact ⟨_,rfl,_,H,rfl,hs⟩
    intro hb
    rw [if_pos (b_bne_f hb)] at H
    refine g_d rfl ?_
    refine Qaa (v:=bool false) rfl rfl rfl (g_d rfl ?_)
    refine Qaa (v:=int .i64 r22.2) rfl rfl rfl (g_d rfl ?_)
    refine Qaa (v:=bool (r22.2 !=0)) rfl rfl rfl (g_d rfl ?_)
    try dsimp only [Qae,Qaf]
    refine Qas (B:=r22.2 !=0) rfl rfl rfl ?_ ?_
    ·
     intro hb
     rw [if_neg (b_bne_t hb)] at H
     refine g_d rfl ?_
     try dsimp only [Qae,Qaf]
     refine Qaa (v:=bool true) rfl rfl rfl (g_d rfl (Qab rfl rfl (g_d rfl (Qab rfl rfl (g_d rfl (Qab rfl rfl (g_d rfl ?_)))))))
     refine Qab rfl rfl (g_d rfl ?_)
     try dsimp only [Qae,Qaf]
     refine Qaa (v:=bool true) rfl rfl rfl (g_d rfl ?_)
     refine Qaa (v:=bool true) rfl rfl rfl (g_d rfl (Qab rfl rfl (g_d rfl (Qab rfl rfl (g_d rfl (Qab rfl rfl (g_d rfl ?_)))))))
     try dsimp only [Qae,Qaf]
     refine Qaa (v:=bool true) rfl rfl rfl (g_d rfl ?_)
     refine Qaa (v:=bool true) rfl rfl rfl (g_d rfl (Qab rfl rfl (g_d rfl (Qab rfl rfl (g_d rfl ?_)))))
     try dsimp only [Qae,Qaf]
     refine Qaa (v:=bool true) rfl rfl rfl (g_d rfl ?_)
     refine Qaa (v:=bool true) rfl rfl rfl (g_d rfl (Qab rfl rfl (g_d rfl (Qab rfl rfl (g_d rfl ?_)))))
     try dsimp only [Qae,Qaf]
     refine Qaa (v:=bool true) rfl rfl rfl (g_d rfl ?_)
     refine Qaa (v:=bool true) rfl rfl rfl (g_d rfl (Qab rfl rfl (g_d rfl (Qab rfl rfl (g_d rfl (Qab rfl rfl (g_d rfl ?_)))))))
     try dsimp only [Qae,Qaf]
     refine Qab rfl rfl (g_d rfl ?_)
     refine Qaa (v:=bool true) rfl rfl rfl (g_d rfl ?_)
     try dsimp only [Qae,Qaf]
     refine Qaa (v:=bool true) rfl rfl rfl (g_d rfl (Qab rfl rfl (g_d rfl (Qab rfl rfl (g_d rfl ?_)))))
     refine Qaa (v:=bool true) rfl rfl rfl (g_d rfl ?_)
     try dsimp only [Qae,Qaf]
     refine Qaa (v:=bool true) rfl rfl rfl (g_d rfl (Qab rfl rfl (g_d rfl (Qab rfl rfl (g_d rfl (Qab rfl rfl (g_d rfl ?_)))))))
     refine Qab rfl rfl (g_d rfl ?_)
     try dsimp only [Qae,Qaf]
     refine Qaa (v:=bool true) rfl rfl rfl (g_d rfl ?_)
     refine Qaa (v:=bool true) rfl rfl rfl (g_d rfl (Qab rfl rfl (g_d rfl (Qab rfl rfl (g_d rfl ?_)))))
     try dsimp only [Qae,Qaf]
     refine Qaa (v:=bool true) rfl rfl rfl (g_d rfl ?_)
     refine Qaa (v:=bool true) rfl rfl rfl (g_d rfl (Qab rfl rfl (g_d rfl (Qab rfl rfl (g_d rfl ?_)))))
     try dsimp only [Qae,Qaf]
     refine Qab rfl rfl (g_d rfl ?_)
     refine Qaa (v:=bool true) rfl rfl rfl (g_d rfl ?_)
     try dsimp only [Qae,Qaf]
     refine Qaa (v:=bool true) rfl rfl rfl (g_d rfl (Qab rfl rfl (g_d rfl (Qab rfl rfl (g_d rfl (Qab rfl rfl (g_d rfl ?_)))))))
     refine Qab rfl rfl (g_d rfl ?_)
     try dsimp only [Qae,Qaf]
     refine Qaa (v:=bool true) rfl rfl rfl (g_d rfl (Qac (Qai rfl (Qad (Qag [0] rfl ?_)))))
     refine Qaa (v:=bool false) rfl rfl rfl (g_d rfl ?_)
     try dsimp only [Qae,Qaf]
     refine Qac ?_
     refine Qaq Tryz.func3 (v:=bool false) (res1 rfl rfl) ?_
     have hs:St _ [] _:=St.take (Γ':=[_,_,_,_,_,_]) hs
     exact ⟨_,rfl,_,H,rfl,hs⟩
    intro hb
    rw [if_pos (b_bne_f hb)] at H
    refine g_d rfl ?_
    refine Qaa (v:=bool false) rfl rfl rfl (g_d rfl ?_)
    refine Qaa (v:=int .i64 r22.1) rfl rfl rfl (g_d rfl ?_)
    refine Qaa (v:=int .i64 r32.1) rfl rfl rfl (g_d rfl ?_)
    refine Qaa (v:=int .i64 (i64w (0 - r32.1))) rfl rfl rfl (g_d rfl ?_)
    try dsimp only [Qae,Qaf]
    refine Qaa (v:=bool (decide (r22.1< (i64w (0 - r32.1))))) rfl rfl rfl (g_d rfl ?_)
    refine Qas (B:=decide (r22.1< (i64w (0 - r32.1)))) rfl rfl rfl ?_ ?_
    ·
     intro hb
     rw [if_pos (b_dec_t hb)] at H
     refine g_d rfl ?_
     try dsimp only [Qae,Qaf]
     refine Qaa (v:=bool true) rfl rfl rfl (g_d rfl (Qab rfl rfl (g_d rfl (Qab rfl rfl (g_d rfl (Qab rfl rfl (g_d rfl ?_)))))))
     refine Qaa (v:=bool true) rfl rfl rfl (g_d rfl ?_)
     try dsimp only [Qae,Qaf]
     refine Qaa (v:=bool true) rfl rfl rfl (g_d rfl (Qab rfl rfl (g_d rfl (Qab rfl rfl (g_d rfl ?_)))))
     refine Qaa (v:=bool true) rfl rfl rfl (g_d rfl ?_)
     try dsimp only [Qae,Qaf]
     refine Qaa (v:=bool true) rfl rfl rfl (g_d rfl (Qab rfl rfl (g_d rfl (Qab rfl rfl (g_d rfl ?_)))))
     refine Qaa (v:=bool true) rfl rfl rfl (g_d rfl ?_)
     try dsimp only [Qae,Qaf]
     refine Qaa (v:=bool true) rfl rfl rfl (g_d rfl (Qab rfl rfl (g_d rfl (Qab rfl rfl (g_d rfl (Qab rfl rfl (g_d rfl ?_)))))))
     refine Qab rfl rfl (g_d rfl ?_)
     try dsimp only [Qae,Qaf]
     refine Qaa (v:=bool true) rfl rfl rfl (g_d rfl ?_)
     refine Qaa (v:=bool true) rfl rfl rfl (g_d rfl (Qab rfl rfl (g_d rfl (Qab rfl rfl (g_d rfl ?_)))))
     try dsimp only [Qae,Qaf]
     refine Qaa (v:=bool true) rfl rfl rfl (g_d rfl ?_)
     refine Qaa (v:=bool true) rfl rfl rfl (g_d rfl (Qab rfl rfl (g_d rfl (Qab rfl rfl (g_d rfl (Qab rfl rfl (g_d rfl ?_)))))))
     try dsimp only [Qae,Qaf]
     refine Qab rfl rfl (g_d rfl ?_)
     refine Qaa (v:=bool true) rfl rfl rfl (g_d rfl ?_)
     try dsimp only [Qae,Qaf]
     refine Qaa (v:=bool true) rfl rfl rfl (g_d rfl (Qab rfl rfl (g_d rfl (Qab rfl rfl (g_d rfl ?_)))))
     refine Qaa (v:=bool true) rfl rfl rfl (g_d rfl ?_)
     try dsimp only [Qae,Qaf]
     refine Qaa (v:=bool true) rfl rfl rfl (g_d rfl (Qab rfl rfl (g_d rfl (Qab rfl rfl (g_d rfl (Qab rfl rfl (g_d rfl ?_)))))))
     try dsimp only [Qae,Qaf]
     refine Qaa (v:=bool true) rfl rfl rfl (g_d rfl ?_)
     refine Qaa (v:=bool true) rfl rfl rfl (g_d rfl (Qab rfl rfl (g_d rfl (Qab rfl rfl (g_d rfl (Qab rfl rfl (g_d rfl ?_)))))))
     try dsimp only [Qae,Qaf]
     refine Qab rfl rfl (g_d rfl ?_)
     refine Qaa (v:=bool true) rfl rfl rfl (g_d rfl ?_)
     try dsimp only [Qae,Qaf]
     refine Qac (Qai rfl (Qad (Qag [0] rfl ?_)))
     refine Qaa (v:=bool false) rfl rfl rfl (g_d rfl (Qac ?_))
     refine Qaq Tryz.func3 (v:=bool false) (res1 rfl rfl) ?_
     have hs:St _ [] _:=St.take (Γ':=[_,_,_,_,_,_]) hs
     exact ⟨_,rfl,_,H,rfl,hs⟩
    intro hb
    rw [if_neg (b_dec_f hb)] at H
    refine g_d rfl ?_
    try dsimp only [Qae,Qaf]
    refine Qaa (v:=bool false) rfl rfl rfl (g_d rfl ?_)
    refine Qaa (v:=int .i64 r22.1) rfl rfl rfl (g_d rfl ?_)
    refine Qaa (v:=int .i64 r32.1) rfl rfl rfl (g_d rfl ?_)
    refine Qaa (v:=bool (decide (r22.1>r32.1))) rfl rfl rfl (g_d rfl ?_)
    refine Qas (B:=decide (r22.1>r32.1)) rfl rfl rfl ?_ ?_
    ·
     intro hb
     rw [if_pos (b_dec_t hb)] at H
     refine g_d rfl ?_
     try dsimp only [Qae,Qaf]
     refine Qaa (v:=bool true) rfl rfl rfl (g_d rfl (Qab rfl rfl (g_d rfl (Qab rfl rfl (g_d rfl ?_)))))
     refine Qaa (v:=bool true) rfl rfl rfl (g_d rfl ?_)
     try dsimp only [Qae,Qaf]
     refine Qaa (v:=bool true) rfl rfl rfl (g_d rfl (Qab rfl rfl (g_d rfl (Qab rfl rfl (g_d rfl ?_)))))
     refine Qaa (v:=bool true) rfl rfl rfl (g_d rfl ?_)
     try dsimp only [Qae,Qaf]
     refine Qaa (v:=bool true) rfl rfl rfl (g_d rfl (Qab rfl rfl (g_d rfl (Qab rfl rfl (g_d rfl (Qab rfl rfl (g_d rfl ?_)))))))
     refine Qab rfl rfl (g_d rfl ?_)
     try dsimp only [Qae,Qaf]
     refine Qaa (v:=bool true) rfl rfl rfl (g_d rfl ?_)
     refine Qaa (v:=bool true) rfl rfl rfl (g_d rfl (Qab rfl rfl (g_d rfl (Qab rfl rfl (g_d rfl ?_)))))
     try dsimp only [Qae,Qaf]
     refine Qaa (v:=bool true) rfl rfl rfl (g_d rfl ?_)
     refine Qaa (v:=bool true) rfl rfl rfl (g_d rfl (Qab rfl rfl (g_d rfl (Qab rfl rfl (g_d rfl (Qab rfl rfl (g_d rfl ?_)))))))
     try dsimp only [Qae,Qaf]
     refine Qab rfl rfl (g_d rfl ?_)
     refine Qaa (v:=bool true) rfl rfl rfl (g_d rfl ?_)
     try dsimp only [Qae,Qaf]
     refine Qaa (v:=bool true) rfl rfl rfl (g_d rfl (Qab rfl rfl (g_d rfl (Qab rfl rfl (g_d rfl ?_)))))
     refine Qaa (v:=bool true) rfl rfl rfl (g_d rfl ?_)
     try dsimp only [Qae,Qaf]
     refine Qaa (v:=bool true) rfl rfl rfl (g_d rfl (Qab rfl rfl (g_d rfl (Qab rfl rfl (g_d rfl (Qab rfl rfl (g_d rfl ?_)))))))
     try dsimp only [Qae,Qaf]
     refine Qaa (v:=bool true) rfl rfl rfl (g_d rfl ?_)
     refine Qaa (v:=bool true) rfl rfl rfl (g_d rfl (Qab rfl rfl (g_d rfl (Qab rfl rfl (g_d rfl (Qab rfl rfl (g_d rfl ?_)))))))
     try dsimp only [Qae,Qaf]
     refine Qab rfl rfl (g_d rfl ?_)
     refine Qaa (v:=bool true) rfl rfl rfl (g_d rfl ?_)
     try dsimp only [Qae,Qaf]
     refine Qac (Qai rfl (Qad (Qag [0] rfl ?_)))
     refine Qaa (v:=bool false) rfl rfl rfl (g_d rfl (Qac ?_))
     refine Qaq Tryz.func3 (v:=bool false) (res1 rfl rfl) ?_
     have hs:St _ [] _:=St.take (Γ':=[_,_,_,_,_,_]) hs
     exact ⟨_,rfl,_,H,rfl,hs⟩
    intro hb
    rw [if_neg (b_dec_f hb)] at H
    refine g_d rfl ?_
    try dsimp only [Qae,Qaf]
    refine Qaa (v:=bool false) rfl rfl rfl (g_d rfl ?_)
    refine Qaa (v:=int .i64 r23.2) rfl rfl rfl (g_d rfl ?_)
    refine Qaa (v:=bool (r23.2 !=0)) rfl rfl rfl (g_d rfl ?_)
    refine Qas (B:=r23.2 !=0) rfl rfl rfl ?_ ?_
    ·
     intro hb
     rw [if_neg (b_bne_t hb)] at H
     refine g_d rfl ?_
     try dsimp only [Qae,Qaf]
     refine Qaa (v:=bool true) rfl rfl rfl (g_d rfl (Qab rfl rfl (g_d rfl (Qab rfl rfl (g_d rfl ?_)))))
     refine Qaa (v:=bool true) rfl rfl rfl (g_d rfl ?_)
     try dsimp only [Qae,Qaf]
     refine Qaa (v:=bool true) rfl rfl rfl (g_d rfl (Qab rfl rfl (g_d rfl (Qab rfl rfl (g_d rfl (Qab rfl rfl (g_d rfl ?_)))))))
     refine Qab rfl rfl (g_d rfl ?_)
     try dsimp only [Qae,Qaf]
     refine Qaa (v:=bool true) rfl rfl rfl (g_d rfl ?_)
     refine Qaa (v:=bool true) rfl rfl rfl (g_d rfl (Qab rfl rfl (g_d rfl (Qab rfl rfl (g_d rfl ?_)))))
     try dsimp only [Qae,Qaf]
     refine Qaa (v:=bool true) rfl rfl rfl (g_d rfl ?_)
     refine Qaa (v:=bool true) rfl rfl rfl (g_d rfl (Qab rfl rfl (g_d rfl (Qab rfl rfl (g_d rfl (Qab rfl rfl (g_d rfl ?_)))))))
     try dsimp only [Qae,Qaf]
     refine Qab rfl rfl (g_d rfl ?_)
     refine Qaa (v:=bool true) rfl rfl rfl (g_d rfl ?_)
     try dsimp only [Qae,Qaf]
     refine Qaa (v:=bool true) rfl rfl rfl (g_d rfl (Qab rfl rfl (g_d rfl (Qab rfl rfl (g_d rfl ?_)))))
     refine Qaa (v:=bool true) rfl rfl rfl (g_d rfl ?_)
     try dsimp only [Qae,Qaf]
     refine Qaa (v:=bool true) rfl rfl rfl (g_d rfl (Qab rfl rfl (g_d rfl (Qab rfl rfl (g_d rfl (Qab rfl rfl (g_d rfl ?_)))))))
     try dsimp only [Qae,Qaf]
     refine Qaa (v:=bool true) rfl rfl rfl (g_d rfl ?_)
     refine Qaa (v:=bool true) rfl rfl rfl (g_d rfl (Qab rfl rfl (g_d rfl (Qab rfl rfl (g_d rfl (Qab rfl rfl (g_d rfl ?_)))))))
     try dsimp only [Qae,Qaf]
     refine Qab rfl rfl (g_d rfl ?_)
     refine Qaa (v:=bool true) rfl rfl rfl (g_d rfl ?_)
     try dsimp only [Qae,Qaf]
     refine Qac (Qai rfl (Qad (Qag [0] rfl ?_)))
     refine Qaa (v:=bool false) rfl rfl rfl (g_d rfl (Qac ?_))
     refine Qaq Tryz.func3 (v:=bool false) (res1 rfl rfl) ?_
     have hs:St _ [] _:=St.take (Γ':=[_,_,_,_,_,_]) hs
     exact ⟨_,rfl,_,H,rfl,hs⟩
    as_aux_lemma =>
     intro hb
     rw [if_pos (b_bne_f hb)] at H
     refine g_d rfl ?_
     try dsimp only [Qae,Qaf]
     refine Qaa (v:=bool false) rfl rfl rfl (g_d rfl ?_)
     refine Qaa (v:=int .i64 r25.2) rfl rfl rfl (g_d rfl ?_)
     refine Qaa (v:=bool (r25.2 !=0)) rfl rfl rfl (g_d rfl ?_)
     refine Qas (B:=r25.2 !=0) rfl rfl rfl ?_ ?_
     ·
      intro hb
      rw [if_neg (b_bne_t hb)] at H
      refine g_d rfl ?_
      try dsimp only [Qae,Qaf]
      refine Qaa (v:=bool true) rfl rfl rfl (g_d rfl (Qab rfl rfl (g_d rfl (Qab rfl rfl (g_d rfl (Qab rfl rfl (g_d rfl ?_)))))))
      refine Qab rfl rfl (g_d rfl ?_)
      try dsimp only [Qae,Qaf]
      refine Qaa (v:=bool true) rfl rfl rfl (g_d rfl ?_)
      refine Qaa (v:=bool true) rfl rfl rfl (g_d rfl (Qab rfl rfl (g_d rfl (Qab rfl rfl (g_d rfl ?_)))))
      try dsimp only [Qae,Qaf]
      refine Qaa (v:=bool true) rfl rfl rfl (g_d rfl ?_)
      refine Qaa (v:=bool true) rfl rfl rfl (g_d rfl (Qab rfl rfl (g_d rfl (Qab rfl rfl (g_d rfl (Qab rfl rfl (g_d rfl ?_)))))))
      try dsimp only [Qae,Qaf]
      refine Qab rfl rfl (g_d rfl ?_)
      refine Qaa (v:=bool true) rfl rfl rfl (g_d rfl ?_)
      try dsimp only [Qae,Qaf]
      refine Qaa (v:=bool true) rfl rfl rfl (g_d rfl (Qab rfl rfl (g_d rfl (Qab rfl rfl (g_d rfl ?_)))))
      refine Qaa (v:=bool true) rfl rfl rfl (g_d rfl ?_)
      try dsimp only [Qae,Qaf]
      refine Qaa (v:=bool true) rfl rfl rfl (g_d rfl (Qab rfl rfl (g_d rfl (Qab rfl rfl (g_d rfl (Qab rfl rfl (g_d rfl ?_)))))))
      try dsimp only [Qae,Qaf]
      refine Qaa (v:=bool true) rfl rfl rfl (g_d rfl ?_)
      refine Qaa (v:=bool true) rfl rfl rfl (g_d rfl (Qab rfl rfl (g_d rfl (Qab rfl rfl (g_d rfl (Qab rfl rfl (g_d rfl ?_)))))))
      try dsimp only [Qae,Qaf]
      refine Qab rfl rfl (g_d rfl ?_)
      refine Qaa (v:=bool true) rfl rfl rfl (g_d rfl ?_)
      try dsimp only [Qae,Qaf]
      refine Qac (Qai rfl (Qad (Qag [0] rfl ?_)))
      refine Qaa (v:=bool false) rfl rfl rfl (g_d rfl (Qac ?_))
      refine Qaq Tryz.func3 (v:=bool false) (res1 rfl rfl) ?_
      have hs:St _ [] _:=St.take (Γ':=[_,_,_,_,_,_]) hs
      exact ⟨_,rfl,_,H,rfl,hs⟩
     intro hb
     rw [if_pos (b_bne_f hb)] at H
     refine g_d rfl ?_
     try dsimp only [Qae,Qaf]
     refine Qaa (v:=bool false) rfl rfl rfl (g_d rfl ?_)
     refine Qaa (v:=v26) rfl rfl rfl (g_d rfl ?_)
     refine Qaa (v:=v7) rfl rfl rfl (g_d rfl ?_)
     obtain ⟨r34,Hr34,H⟩:=H
     refine Qaw (args:=[v26,v7]) rfl rfl (Qax rfl (callFunc_enter Tryz.func20 rfl rfl) rfl) (QaL.calls (a1:=r25.1) (a3:=r6) (hs.row 1 rfl) (hs.row 5 rfl) Hr34) ?_
     rintro _ w ⟨rfl,hs2⟩
     have hs:St _ [_,_,_,_,_,_] _:=hs.call hs2
     refine g_d rfl ?_
     refine Qaa (v:=bool (!r34)) rfl rfl rfl (g_d rfl ?_)
     try dsimp only [Qae,Qaf]
     refine Qas (B:=!r34) rfl rfl rfl ?_ ?_
     ·
      intro hb
      rw [if_neg (b_not_t hb)] at H
      refine g_d rfl ?_
      refine Qaa (v:=bool true) rfl rfl rfl (g_d rfl (Qab rfl rfl (g_d rfl (Qab rfl rfl (g_d rfl ?_)))))
      try dsimp only [Qae,Qaf]
      refine Qaa (v:=bool true) rfl rfl rfl (g_d rfl ?_)
      refine Qaa (v:=bool true) rfl rfl rfl (g_d rfl (Qab rfl rfl (g_d rfl (Qab rfl rfl (g_d rfl (Qab rfl rfl (g_d rfl ?_)))))))
      try dsimp only [Qae,Qaf]
      refine Qab rfl rfl (g_d rfl ?_)
      refine Qaa (v:=bool true) rfl rfl rfl (g_d rfl ?_)
      try dsimp only [Qae,Qaf]
      refine Qaa (v:=bool true) rfl rfl rfl (g_d rfl (Qab rfl rfl (g_d rfl (Qab rfl rfl (g_d rfl ?_)))))
      refine Qaa (v:=bool true) rfl rfl rfl (g_d rfl ?_)
      try dsimp only [Qae,Qaf]
      refine Qaa (v:=bool true) rfl rfl rfl (g_d rfl (Qab rfl rfl (g_d rfl (Qab rfl rfl (g_d rfl (Qab rfl rfl (g_d rfl ?_)))))))
      try dsimp only [Qae,Qaf]
      refine Qaa (v:=bool true) rfl rfl rfl (g_d rfl ?_)
      refine Qaa (v:=bool true) rfl rfl rfl (g_d rfl (Qab rfl rfl (g_d rfl (Qab rfl rfl (g_d rfl (Qab rfl rfl (g_d rfl ?_)))))))
      try dsimp only [Qae,Qaf]
      refine Qab rfl rfl (g_d rfl ?_)
      refine Qaa (v:=bool true) rfl rfl rfl (g_d rfl ?_)
      try dsimp only [Qae,Qaf]
      refine Qac (Qai rfl (Qad (Qag [0] rfl ?_)))
      refine Qaa (v:=bool false) rfl rfl rfl (g_d rfl (Qac ?_))
      refine Qaq Tryz.func3 (v:=bool false) (res1 rfl rfl) ?_
      have hs:St _ [] _:=St.take (Γ':=[_,_,_,_,_,_]) hs
      exact ⟨_,rfl,_,H,rfl,hs⟩
     intro hb
     rw [if_pos (b_not_f hb)] at H
     refine g_d rfl ?_
     refine Qaa (v:=bool false) rfl rfl rfl (g_d rfl ?_)
     refine Qaa (v:=int .i64 r29.2) rfl rfl rfl (g_d rfl ?_)
     refine Qaa (v:=bool (r29.2 !=0)) rfl rfl rfl (g_d rfl ?_)
     try dsimp only [Qae,Qaf]
     refine Qas (B:=r29.2 !=0) rfl rfl rfl ?_ ?_
     ·
      intro hb
      rw [if_neg (b_bne_t hb)] at H
      refine g_d rfl ?_
      try dsimp only [Qae,Qaf]
      refine Qaa (v:=bool true) rfl rfl rfl (g_d rfl (Qab rfl rfl (g_d rfl (Qab rfl rfl (g_d rfl (Qab rfl rfl (g_d rfl ?_)))))))
      refine Qab rfl rfl (g_d rfl ?_)
      try dsimp only [Qae,Qaf]
      refine Qaa (v:=bool true) rfl rfl rfl (g_d rfl ?_)
      refine Qaa (v:=bool true) rfl rfl rfl (g_d rfl (Qab rfl rfl (g_d rfl (Qab rfl rfl (g_d rfl ?_)))))
      try dsimp only [Qae,Qaf]
      refine Qaa (v:=bool true) rfl rfl rfl (g_d rfl ?_)
      refine Qaa (v:=bool true) rfl rfl rfl (g_d rfl (Qab rfl rfl (g_d rfl (Qab rfl rfl (g_d rfl ?_)))))
      try dsimp only [Qae,Qaf]
      refine Qab rfl rfl (g_d rfl ?_)
      refine Qaa (v:=bool true) rfl rfl rfl (g_d rfl ?_)
      try dsimp only [Qae,Qaf]
      refine Qaa (v:=bool true) rfl rfl rfl (g_d rfl (Qab rfl rfl (g_d rfl (Qab rfl rfl (g_d rfl (Qab rfl rfl (g_d rfl ?_)))))))
      refine Qab rfl rfl (g_d rfl ?_)
      try dsimp only [Qae,Qaf]
      refine Qaa (v:=bool true) rfl rfl rfl (g_d rfl (Qac (Qai rfl (Qad (Qag [0] rfl ?_)))))
      refine Qaa (v:=bool false) rfl rfl rfl (g_d rfl ?_)
      try dsimp only [Qae,Qaf]
      refine Qac ?_
      refine Qaq Tryz.func3 (v:=bool false) (res1 rfl rfl) ?_
      have hs:St _ [] _:=St.take (Γ':=[_,_,_,_,_,_]) hs
      exact ⟨_,rfl,_,H,rfl,hs⟩
     intro hb
     rw [if_pos (b_bne_f hb)] at H
     refine g_d rfl ?_
     refine Qaa (v:=bool false) rfl rfl rfl (g_d rfl ?_)
     refine Qaa (v:=v30) rfl rfl rfl (g_d rfl ?_)
     refine Qaa (v:=v10) rfl rfl rfl (g_d rfl ?_)
     obtain ⟨r35,Hr35,H⟩:=H
     refine Qaw (args:=[v30,v10]) rfl rfl (Qax rfl (callFunc_enter Tryz.func19 rfl rfl) rfl) (QaV.calls (a1:=r29.1) (a3:=r9) (hs.row 0 rfl) (hs.row 4 rfl) Hr35) ?_
     rintro _ w ⟨rfl,hs2⟩
     have hs:St _ [_,_,_,_,_,_] _:=hs.call hs2
     refine g_d rfl ?_
     try dsimp only [Qae,Qaf]
     refine Qaa (v:=bool (!r35)) rfl rfl rfl (g_d rfl ?_)
     refine Qas (B:=!r35) rfl rfl rfl ?_ ?_
     ·
      intro hb
      rw [if_neg (b_not_t hb)] at H
      refine g_d rfl ?_
      try dsimp only [Qae,Qaf]
      refine Qaa (v:=bool true) rfl rfl rfl (g_d rfl (Qab rfl rfl (g_d rfl (Qab rfl rfl (g_d rfl ?_)))))
      refine Qaa (v:=bool true) rfl rfl rfl (g_d rfl ?_)
      try dsimp only [Qae,Qaf]
      refine Qaa (v:=bool true) rfl rfl rfl (g_d rfl (Qab rfl rfl (g_d rfl (Qab rfl rfl (g_d rfl (Qab rfl rfl (g_d rfl ?_)))))))
      try dsimp only [Qae,Qaf]
      refine Qaa (v:=bool true) rfl rfl rfl (g_d rfl ?_)
      refine Qaa (v:=bool true) rfl rfl rfl (g_d rfl (Qab rfl rfl (g_d rfl (Qab rfl rfl (g_d rfl (Qab rfl rfl (g_d rfl ?_)))))))
      try dsimp only [Qae,Qaf]
      refine Qab rfl rfl (g_d rfl ?_)
      refine Qaa (v:=bool true) rfl rfl rfl (g_d rfl ?_)
      try dsimp only [Qae,Qaf]
      refine Qac (Qai rfl (Qad (Qag [0] rfl ?_)))
      refine Qaa (v:=bool false) rfl rfl rfl (g_d rfl (Qac ?_))
      refine Qaq Tryz.func3 (v:=bool false) (res1 rfl rfl) ?_
      have hs:St _ [] _:=St.take (Γ':=[_,_,_,_,_,_]) hs
      exact ⟨_,rfl,_,H,rfl,hs⟩
     intro hb
     rw [if_pos (b_not_f hb)] at H
     refine g_d rfl ?_
     try dsimp only [Qae,Qaf]
     refine Qaa (v:=bool false) rfl rfl rfl (g_d rfl ?_)
     refine Qaa (v:=int .i64 r32.2) rfl rfl rfl (g_d rfl ?_)
     refine Qaa (v:=bool (r32.2 !=0)) rfl rfl rfl (g_d rfl ?_)
     refine Qas (B:=r32.2 !=0) rfl rfl rfl ?_ ?_
     ·
      intro hb
      rw [if_neg (b_bne_t hb)] at H
      refine g_d rfl ?_
      try dsimp only [Qae,Qaf]
      refine Qaa (v:=bool true) rfl rfl rfl (g_d rfl (Qab rfl rfl (g_d rfl (Qab rfl rfl (g_d rfl (Qab rfl rfl (g_d rfl ?_)))))))
      try dsimp only [Qae,Qaf]
      refine Qaa (v:=bool true) rfl rfl rfl (g_d rfl ?_)
      refine Qaa (v:=bool true) rfl rfl rfl (g_d rfl (Qab rfl rfl (g_d rfl (Qab rfl rfl (g_d rfl (Qab rfl rfl (g_d rfl ?_)))))))
      try dsimp only [Qae,Qaf]
      refine Qab rfl rfl (g_d rfl ?_)
      refine Qaa (v:=bool true) rfl rfl rfl (g_d rfl ?_)
      try dsimp only [Qae,Qaf]
      refine Qac (Qai rfl (Qad (Qag [0] rfl ?_)))
      refine Qaa (v:=bool false) rfl rfl rfl (g_d rfl (Qac ?_))
      refine Qaq Tryz.func3 (v:=bool false) (res1 rfl rfl) ?_
      have hs:St _ [] _:=St.take (Γ':=[_,_,_,_,_,_]) hs
      exact ⟨_,rfl,_,H,rfl,hs⟩
     intro hb
     rw [if_pos (b_bne_f hb)] at H
     refine g_d rfl ?_
     try dsimp only [Qae,Qaf]
     refine Qaa (v:=bool false) rfl rfl rfl (g_d rfl ?_)
     refine Qaa (v:=v7) rfl rfl rfl (g_d rfl ?_)
     obtain ⟨r36,Hr36,H⟩:=H
     refine Qaw (args:=[v7]) rfl rfl (Qax rfl (callFunc_enter Tryz.func21 rfl rfl) rfl) (QaE.calls (a1:=r6) (hs.row 5 rfl) Hr36) ?_
     rintro _ w ⟨rfl,hs2⟩
     have hs:St _ [_,_,_,_,_,_] _:=hs.call hs2
     refine g_d rfl ?_
     refine Qaa (v:=bool (!r36)) rfl rfl rfl (g_d rfl ?_)
     try dsimp only [Qae,Qaf]
     refine Qas (B:=!r36) rfl rfl rfl ?_ ?_
     ·
      intro hb
      rw [if_neg (b_not_t hb)] at H
      refine g_d rfl ?_
      refine Qaa (v:=bool true) rfl rfl rfl (g_d rfl (Qab rfl rfl (g_d rfl (Qab rfl rfl (g_d rfl (Qab rfl rfl (g_d rfl ?_)))))))
      try dsimp only [Qae,Qaf]
      refine Qab rfl rfl (g_d rfl ?_)
      refine Qaa (v:=bool true) rfl rfl rfl (g_d rfl ?_)
      try dsimp only [Qae,Qaf]
      refine Qac (Qai rfl (Qad (Qag [0] rfl ?_)))
      refine Qaa (v:=bool false) rfl rfl rfl (g_d rfl (Qac ?_))
      refine Qaq Tryz.func3 (v:=bool false) (res1 rfl rfl) ?_
      have hs:St _ [] _:=St.take (Γ':=[_,_,_,_,_,_]) hs
      exact ⟨_,rfl,_,H,rfl,hs⟩
     intro hb
     rw [if_pos (b_not_f hb)] at H
     refine g_d rfl ?_
     refine Qaa (v:=bool false) rfl rfl rfl (g_d rfl ?_)
     refine Qaa (v:=v7) rfl rfl rfl (g_d rfl ?_)
     refine Qaa (v:=v10) rfl rfl rfl (g_d rfl ?_)
     obtain ⟨r37,Hr37,H⟩:=H
     refine Qaw (args:=[v7,v10]) rfl rfl (Qax rfl (callFunc_enter Tryz.func22 rfl rfl) rfl) (Qa3.calls (a1:=r6) (a3:=r9) (hs.row 5 rfl) (hs.row 4 rfl) Hr37) ?_
     rintro _ w ⟨rfl,hs2⟩
     have hs:St _ [_,_,_,_,_,_] _:=hs.call hs2
     cases r37 with
     |true=> as_aux_lemma =>
      rw [if_pos rfl] at H
      refine g_d rfl ?_
      refine Qaa (v:=bool false) rfl rfl rfl (g_d rfl ?_)
      try dsimp only [Qae,Qaf]
      refine Qaa (v:=bool false) rfl rfl rfl (g_d rfl (Qac (Qal rfl (Qay (Qad (Qad ?_))))))
      refine QbR (J:=(fun t w=>Qar.j0 N r22 r6 r23 r12 r32 r13 r20 Q∧Fr t (fun O=>(O 0::O 1::O 2::O 3::O 4::v7::O 6::bool (r12==1)::int .i64 r13::O 9::O 10::O 11::O 12::bool r20.1::O 14::O 15::O 16::int .i64 r22.1::O 18::int .i64 r23.1::O 20::O 21::O 22::O 23::O 24::int .i64 r32.1::O 26::O 27::O 28::O 29::oT O 3 (oT O 4 (oT O 5 (oT O 6 (oT O 7 (oT O 8 (oT O 9 (oT O 10 (oT O 11 (oT O 12 (oT O 13 (oT O 14 (oT O 15 (oT O 16 (oT O 17 (oT O 18 (oT O 19 (oT O 20 (oT O 21 (oT O 22 (oT O 23 (oT O 24 (oT O 25 (oT O 26 (oT O 27 (oT O 28 (oT O 29 (oT O 30 (oT O 31 (oT O 32 (oT O 33 (oT O 34 (O 350::O 351::O 352::O 353::O 354::O 355::O 356::O 357::[])))))))))))))))))))))))))))))))):List Value))∧St w0 [Row 67 (K.int .i16) v7 r6] w)) ?_ ?_
      ·
       rintro t w ⟨H,hf,hs⟩
       obtain ⟨O,rfl⟩:=hf.open
       try dsimp only [oT]
       unfold Qar.j0 at H
       refine Qad (Qad ?_)
       refine QbR (J:=(fun t w=>Qar.j1 N r6 r12 r32 r13 r20 Q∧Fr t (fun O=>(O 0::O 1::O 2::O 3::O 4::v7::O 6::bool (r12==1)::int .i64 r13::O 9::O 10::O 11::O 12::bool r20.1::O 14::O 15::O 16::O 17::O 18::O 19::O 20::O 21::O 22::O 23::O 24::int .i64 r32.1::O 26::O 27::O 28::O 29::oT O 3 (oT O 4 (oT O 5 (oT O 6 (oT O 7 (oT O 8 (oT O 9 (oT O 10 (oT O 11 (oT O 12 (oT O 13 (oT O 14 (oT O 15 (oT O 16 (oT O 17 (oT O 18 (oT O 19 (oT O 20 (oT O 21 (oT O 22 (oT O 23 (oT O 24 (oT O 25 (oT O 26 (oT O 27 (oT O 28 (oT O 29 (oT O 30 (oT O 31 (oT O 32 (oT O 33 (oT O 34 (O 350::O 351::O 352::O 353::O 354::O 355::O 356::O 357::[])))))))))))))))))))))))))))))))):List Value))∧St w0 [Row 67 (K.int .i16) v7 r6] w)) ?_ ?_
       · as_aux_lemma =>
        rintro t w ⟨H,hf,hs⟩
        obtain ⟨O,rfl⟩:=hf.open
        try dsimp only [oT]
        unfold Qar.j1 at H
        refine Qad (Qag [0,1,2,3,4,5,6,7] rfl ?_)
        refine Qaa (v:=v7) rfl rfl rfl (g_d rfl ?_)
        refine Qaa (v:=bool (r12==1)) rfl rfl rfl (g_d rfl ?_)
        refine Qaw (args:=[v7,bool (r12==1)]) rfl rfl (Qax rfl (callFunc_enter Tryz.func24 rfl rfl) rfl) (QaM.calls (a1:=r6) (a3:=r12==1) (hs.row 0 rfl) H) ?_
        rintro _ w ⟨r52,H,v53,rfl,hs2⟩
        try dsimp only at H
        have hs:St _ [_,_] _:=hs.call hs2
        refine g_d rfl ?_
        try dsimp only [Qae,Qaf]
        refine Qaa (v:=tuple #[v53,int .i64 r52.2]) rfl rfl rfl (g_d rfl ?_)
        refine Qaa (v:=v53) rfl rfl rfl (g_d rfl ?_)
        refine Qaa (v:=int .i64 r52.2) rfl rfl rfl (g_d rfl ?_)
        refine Qaa (v:=v53) rfl rfl rfl (g_d rfl ?_)
        refine Qaa (v:=int .i64 r52.2) rfl rfl rfl (g_d rfl ?_)
        try dsimp only [Qae,Qaf]
        refine Qac (Qad (Qag [0,1,2,3,4,5,6,7] rfl ?_))
        refine Qaa (v:=v7) rfl rfl rfl (g_d rfl ?_)
        refine Qaa (v:=bool (r12==1)) rfl rfl rfl (g_d rfl ?_)
        refine Qaw (args:=[v7,bool (r12==1)]) rfl rfl (Qax rfl (callFunc_enter Tryz.func25 rfl rfl) rfl) (QbE.calls (a1:=r6) (a3:=r12==1) (hs.row 1 rfl) H) ?_
        rintro _ w ⟨r55,H,rfl,hs2⟩
        try dsimp only at H
        have hs:St _ [_,_] _:=hs.call hs2
        refine g_d rfl ?_
        refine Qaa (v:=tuple #[int .i64 r55.1,int .i64 r55.2]) rfl rfl rfl (g_d rfl ?_)
        refine Qaa (v:=int .i64 r55.1) rfl rfl rfl (g_d rfl ?_)
        refine Qaa (v:=int .i64 r55.2) rfl rfl rfl (g_d rfl ?_)
        refine Qaa (v:=int .i64 r55.1) rfl rfl rfl (g_d rfl ?_)
        try dsimp only [Qae,Qaf]
        refine Qaa (v:=int .i64 r55.2) rfl rfl rfl (g_d rfl (Qac (Qad (Qag [0,1,2,3,4,5,6,7] rfl ?_))))
        refine Qaa (v:=v7) rfl rfl rfl (g_d rfl ?_)
        refine Qaa (v:=bool (r12==1)) rfl rfl rfl (g_d rfl ?_)
        obtain ⟨r56,Hr56,H⟩:=H
        refine Qaw (args:=[v7,bool (r12==1)]) rfl rfl (Qax rfl (callFunc_enter Tryz.func26 rfl rfl) rfl) (Qbp.calls (a1:=r6) (a3:=r12==1) (hs.row 1 rfl) Hr56) ?_
        rintro _ w ⟨v57,rfl,hs2⟩
        have hs:St _ [_,_,_] _:=hs.call hs2
        refine g_d rfl ?_
        try dsimp only [Qae,Qaf]
        refine Qaa (v:=tuple #[v57,int .i64 r56.2]) rfl rfl rfl (g_d rfl ?_)
        refine Qaa (v:=v57) rfl rfl rfl (g_d rfl ?_)
        refine Qaa (v:=int .i64 r56.2) rfl rfl rfl (g_d rfl ?_)
        refine Qaa (v:=v57) rfl rfl rfl (g_d rfl ?_)
        refine Qaa (v:=int .i64 r56.2) rfl rfl rfl (g_d rfl ?_)
        try dsimp only [Qae,Qaf]
        refine Qac (Qad (Qad ?_))
        refine QbR (J:=(fun t w=>Qar.j2 N r13 r32 r56 r20 Q∧Fr t (fun O=>(O 0::O 1::O 2::O 3::O 4::O 5::O 6::O 7::int .i64 r13::O 9::O 10::O 11::O 12::bool r20.1::O 14::O 15::O 16::O 17::O 18::O 19::O 20::O 21::O 22::O 23::O 24::int .i64 r32.1::O 26::O 27::O 28::O 29::oT O 3 (O 40::O 41::v57::O 43::O 44::O 45::O 46::O 47::O 48::O 49::oT O 5 (oT O 6 (oT O 7 (oT O 8 (oT O 9 (oT O 10 (oT O 11 (oT O 12 (oT O 13 (oT O 14 (oT O 15 (oT O 16 (oT O 17 (oT O 18 (oT O 19 (oT O 20 (oT O 21 (oT O 22 (oT O 23 (oT O 24 (oT O 25 (oT O 26 (oT O 27 (oT O 28 (oT O 29 (oT O 30 (oT O 31 (oT O 32 (oT O 33 (oT O 34 (O 350::O 351::O 352::O 353::O 354::O 355::O 356::O 357::[]))))))))))))))))))))))))))))))):List Value))∧St w0 [Row 2 (K.int .i64) v57 r56.1] w)) ?_ ?_
        ·
         rintro t w ⟨H,hf,hs⟩
         obtain ⟨O,rfl⟩:=hf.open
         try dsimp only [oT]
         unfold Qar.j2 at H
         refine Qad (Qag [0,1,2,3,4,5,6,7,8,9,10,11,12,13,14,15] rfl ?_)
         refine Qaa (v:=int .i64 r13) rfl rfl rfl (g_d rfl ?_)
         refine Qas (B:=decide (r13< 1)) rfl rfl rfl ?_ ?_
         ·
          intro hb
          rw [if_pos (b_dec_t hb)] at H
          refine g_d rfl ?_
          try dsimp only [Qae,Qaf]
          refine Qaa (v:=bool true) rfl rfl rfl (g_d rfl (Qab rfl rfl (g_d rfl (Qab rfl rfl (g_d rfl (Qab rfl rfl (g_d rfl ?_)))))))
          refine Qaa (v:=bool true) rfl rfl rfl (g_d rfl ?_)
          try dsimp only [Qae,Qaf]
          refine Qaa (v:=bool true) rfl rfl rfl (g_d rfl (Qab rfl rfl (g_d rfl (Qab rfl rfl (g_d rfl (Qab rfl rfl (g_d rfl ?_)))))))
          refine Qab rfl rfl (g_d rfl (Qab rfl rfl (g_d rfl ?_)))
          try dsimp only [Qae,Qaf]
          refine Qab rfl rfl (g_d rfl ?_)
          refine Qaa (v:=bool true) rfl rfl rfl (g_d rfl ?_)
          try dsimp only [Qae,Qaf]
          refine Qaa (v:=bool true) rfl rfl rfl (g_d rfl (Qac ?_))
          refine Qaq Tryz.func3 (v:=bool true) (res1 rfl rfl) ?_
          have hs:St _ [] _:=St.take (Γ':=[_]) hs
          exact ⟨_,rfl,_,H,rfl,hs⟩
         intro hb
         rw [if_neg (b_dec_f hb)] at H
         refine g_d rfl ?_
         try dsimp only [Qae,Qaf]
         refine Qaa (v:=bool false) rfl rfl rfl (g_d rfl ?_)
         refine Qaa (v:=int .i64 r13) rfl rfl rfl (g_d rfl ?_)
         refine Qaa (v:=int .i64 r32.1) rfl rfl rfl (g_d rfl ?_)
         refine Qaa (v:=bool (decide (r13>r32.1))) rfl rfl rfl (g_d rfl ?_)
         refine Qas (B:=decide (r13>r32.1)) rfl rfl rfl ?_ ?_
         ·
          intro hb
          rw [if_pos (b_dec_t hb)] at H
          refine g_d rfl ?_
          try dsimp only [Qae,Qaf]
          refine Qaa (v:=bool true) rfl rfl rfl (g_d rfl (Qab rfl rfl (g_d rfl (Qab rfl rfl (g_d rfl (Qab rfl rfl (g_d rfl ?_)))))))
          refine Qab rfl rfl (g_d rfl (Qab rfl rfl (g_d rfl ?_)))
          try dsimp only [Qae,Qaf]
          refine Qab rfl rfl (g_d rfl ?_)
          refine Qaa (v:=bool true) rfl rfl rfl (g_d rfl ?_)
          try dsimp only [Qae,Qaf]
          refine Qaa (v:=bool true) rfl rfl rfl (g_d rfl (Qac ?_))
          refine Qaq Tryz.func3 (v:=bool true) (res1 rfl rfl) ?_
          have hs:St _ [] _:=St.take (Γ':=[_]) hs
          exact ⟨_,rfl,_,H,rfl,hs⟩
         intro hb
         rw [if_neg (b_dec_f hb)] at H
         refine g_d rfl ?_
         try dsimp only [Qae,Qaf]
         refine Qaa (v:=bool false) rfl rfl rfl (g_d rfl ?_)
         refine Qaa (v:=v57) rfl rfl rfl (g_d rfl ?_)
         refine Qaa (v:=int .i64 r13) rfl rfl rfl (g_d rfl ?_)
         obtain ⟨r63,Hr63,H⟩:=H
         refine Qaw (args:=[v57,int .i64 r13]) rfl rfl (Qax rfl (callFunc_enter Tryz.func28 rfl rfl) rfl) (Qbb.calls (a1:=r56.1) (a3:=r13) (hs.row 0 rfl) Hr63) ?_
         rintro _ w ⟨rfl,hs2⟩
         have hs:St _ [_] _:=hs.call hs2
         refine g_d rfl ?_
         refine Qaa (v:=bool r20.1) rfl rfl rfl (g_d rfl ?_)
         refine Qaa (v:=bool (!r20.1)) rfl rfl rfl (g_d rfl ?_)
         try dsimp only [Qae,Qaf]
         refine Qaa (v:=bool (r63==(!r20.1))) rfl rfl rfl (g_d rfl ?_)
         refine Qaa (v:=bool (r63==(!r20.1))) rfl rfl rfl (g_d rfl ?_)
         try dsimp only [Qae,Qaf]
         refine Qaa (v:=bool (r63==(!r20.1))) rfl rfl rfl (g_d rfl (Qac ?_))
         refine Qaq Tryz.func3 (v:=bool (r63==(!r20.1))) (res1 rfl rfl) ?_
         have hs:St _ [] _:=St.take (Γ':=[_]) hs
         exact ⟨_,rfl,_,H,rfl,hs⟩
        intro ha
        refine Qag [0,1,2,3,4,5,6,7,8,9,10,11,12,13,14,15,16,17,18,19,20,21,22,23,24,25,26,27,28,29,30,31,32,33,34,35,36,37,38,39] rfl ?_
        refine Qaa (v:=int .i64 r52.2) rfl rfl rfl (g_d rfl ?_)
        refine Qaa (v:=int .i64 r56.2) rfl rfl rfl (g_d rfl ?_)
        refine Qas (B:=r52.2 !=r56.2) rfl rfl rfl ?_ ?_
        ·
         intro hb
         rw [if_neg (b_bne_t hb)] at H
         refine g_d rfl ?_
         try dsimp only [Qae,Qaf]
         refine Qaa (v:=bool true) rfl rfl rfl (g_d rfl (Qab rfl rfl (g_d rfl (Qab rfl rfl (g_d rfl ?_)))))
         refine Qaa (v:=bool true) rfl rfl rfl (g_d rfl ?_)
         try dsimp only [Qae,Qaf]
         refine Qaa (v:=bool true) rfl rfl rfl (g_d rfl (Qab rfl rfl (g_d rfl (Qab rfl rfl (g_d rfl (Qab rfl rfl (g_d rfl ?_)))))))
         refine Qab rfl rfl (g_d rfl ?_)
         try dsimp only [Qae,Qaf]
         refine Qaa (v:=bool true) rfl rfl rfl (g_d rfl ?_)
         refine Qaa (v:=bool true) rfl rfl rfl (g_d rfl (Qab rfl rfl (g_d rfl (Qab rfl rfl (g_d rfl ?_)))))
         try dsimp only [Qae,Qaf]
         refine Qaa (v:=bool true) rfl rfl rfl (g_d rfl ?_)
         refine Qaa (v:=bool true) rfl rfl rfl (g_d rfl (Qab rfl rfl (g_d rfl (Qab rfl rfl (g_d rfl ?_)))))
         try dsimp only [Qae,Qaf]
         refine Qab rfl rfl (g_d rfl (Qab rfl rfl (g_d rfl (Qab rfl rfl (g_d rfl (Qab rfl rfl (g_d rfl ?_)))))))
         refine Qab rfl rfl (g_d rfl ?_)
         try dsimp only [Qae,Qaf]
         refine Qab rfl rfl (g_d rfl ?_)
         refine Qaa (v:=bool true) rfl rfl rfl (g_d rfl ?_)
         try dsimp only [Qae,Qaf]
         refine Qaa (v:=bool true) rfl rfl rfl (g_d rfl (Qab rfl rfl (g_d rfl (Qab rfl rfl (g_d rfl (Qab rfl rfl (g_d rfl ?_)))))))
         try dsimp only [Qae,Qaf]
         refine Qab rfl rfl (g_d rfl (Qab rfl rfl (g_d rfl (Qab rfl rfl (g_d rfl (Qab rfl rfl (g_d rfl ?_)))))))
         refine Qab rfl rfl (g_d rfl ?_)
         try dsimp only [Qae,Qaf]
         refine Qab rfl rfl (g_d rfl (Qab rfl rfl (g_d rfl ?_)))
         try dsimp only [Qae,Qaf]
         refine Qab rfl rfl (g_d rfl ?_)
         refine Qaa (v:=bool true) rfl rfl rfl (g_d rfl ?_)
         try dsimp only [Qae,Qaf]
         refine Qac (Qai rfl (Qad (Qag [0] rfl ?_)))
         refine Qaa (v:=bool false) rfl rfl rfl (g_d rfl (Qac ?_))
         refine Qaq Tryz.func3 (v:=bool false) (res1 rfl rfl) ?_
         have hs:St _ [] _:=St.take (Γ':=[_,_,_]) hs
         exact ⟨_,rfl,_,H,rfl,hs⟩
        intro hb
        rw [if_pos (b_bne_f hb)] at H
        refine g_d rfl ?_
        refine Qaa (v:=bool false) rfl rfl rfl (g_d rfl ?_)
        refine Qaa (v:=int .i64 r52.2) rfl rfl rfl (g_d rfl ?_)
        refine Qaa (v:=bool (r52.2 !=0)) rfl rfl rfl (g_d rfl ?_)
        try dsimp only [Qae,Qaf]
        refine Qas (B:=r52.2 !=0) rfl rfl rfl ?_ ?_
        ·
         intro hb
         rw [if_neg (b_bne_t hb)] at H
         refine g_d rfl ?_
         try dsimp only [Qae,Qaf]
         refine Qaa (v:=bool true) rfl rfl rfl (g_d rfl (Qab rfl rfl (g_d rfl (Qab rfl rfl (g_d rfl (Qab rfl rfl (g_d rfl ?_)))))))
         refine Qab rfl rfl (g_d rfl ?_)
         try dsimp only [Qae,Qaf]
         refine Qaa (v:=bool true) rfl rfl rfl (g_d rfl ?_)
         refine Qaa (v:=bool true) rfl rfl rfl (g_d rfl (Qab rfl rfl (g_d rfl (Qab rfl rfl (g_d rfl ?_)))))
         try dsimp only [Qae,Qaf]
         refine Qaa (v:=bool true) rfl rfl rfl (g_d rfl ?_)
         refine Qaa (v:=bool true) rfl rfl rfl (g_d rfl (Qab rfl rfl (g_d rfl (Qab rfl rfl (g_d rfl ?_)))))
         try dsimp only [Qae,Qaf]
         refine Qab rfl rfl (g_d rfl (Qab rfl rfl (g_d rfl (Qab rfl rfl (g_d rfl (Qab rfl rfl (g_d rfl ?_)))))))
         refine Qab rfl rfl (g_d rfl ?_)
         try dsimp only [Qae,Qaf]
         refine Qab rfl rfl (g_d rfl ?_)
         refine Qaa (v:=bool true) rfl rfl rfl (g_d rfl ?_)
         try dsimp only [Qae,Qaf]
         refine Qaa (v:=bool true) rfl rfl rfl (g_d rfl (Qab rfl rfl (g_d rfl (Qab rfl rfl (g_d rfl (Qab rfl rfl (g_d rfl ?_)))))))
         try dsimp only [Qae,Qaf]
         refine Qab rfl rfl (g_d rfl (Qab rfl rfl (g_d rfl (Qab rfl rfl (g_d rfl (Qab rfl rfl (g_d rfl ?_)))))))
         refine Qab rfl rfl (g_d rfl ?_)
         try dsimp only [Qae,Qaf]
         refine Qab rfl rfl (g_d rfl (Qab rfl rfl (g_d rfl ?_)))
         try dsimp only [Qae,Qaf]
         refine Qab rfl rfl (g_d rfl ?_)
         refine Qaa (v:=bool true) rfl rfl rfl (g_d rfl ?_)
         try dsimp only [Qae,Qaf]
         refine Qac (Qai rfl (Qad (Qag [0] rfl ?_)))
         refine Qaa (v:=bool false) rfl rfl rfl (g_d rfl (Qac ?_))
         refine Qaq Tryz.func3 (v:=bool false) (res1 rfl rfl) ?_
         have hs:St _ [] _:=St.take (Γ':=[_,_,_]) hs
         exact ⟨_,rfl,_,H,rfl,hs⟩
        intro hb
        rw [if_pos (b_bne_f hb)] at H
        refine g_d rfl ?_
        refine Qaa (v:=bool false) rfl rfl rfl (g_d rfl ?_)
        refine Qaa (v:=v53) rfl rfl rfl (g_d rfl ?_)
        refine Qaa (v:=v57) rfl rfl rfl (g_d rfl ?_)
        obtain ⟨r59,Hr59,H⟩:=H
        refine Qaw (args:=[v53,v57]) rfl rfl (Qax rfl (callFunc_enter Tryz.func27 rfl rfl) rfl) (QbD.calls (a1:=r52.1) (a3:=r56.1) (hs.row 1 rfl) (hs.row 0 rfl) Hr59) ?_
        rintro _ w ⟨rfl,hs2⟩
        have hs:St _ [_,_,_] _:=hs.call hs2
        refine g_d rfl ?_
        try dsimp only [Qae,Qaf]
        refine Qaa (v:=bool (!r59)) rfl rfl rfl (g_d rfl ?_)
        refine Qas (B:=!r59) rfl rfl rfl ?_ ?_
        ·
         intro hb
         rw [if_neg (b_not_t hb)] at H
         refine g_d rfl ?_
         refine Qaa (v:=bool true) rfl rfl rfl (g_d rfl (Qab rfl rfl (g_d rfl (Qab rfl rfl (g_d rfl ?_)))))
         try dsimp only [Qae,Qaf]
         refine Qaa (v:=bool true) rfl rfl rfl (g_d rfl ?_)
         refine Qaa (v:=bool true) rfl rfl rfl (g_d rfl (Qab rfl rfl (g_d rfl (Qab rfl rfl (g_d rfl ?_)))))
         try dsimp only [Qae,Qaf]
         refine Qab rfl rfl (g_d rfl (Qab rfl rfl (g_d rfl (Qab rfl rfl (g_d rfl (Qab rfl rfl (g_d rfl ?_)))))))
         refine Qab rfl rfl (g_d rfl ?_)
         try dsimp only [Qae,Qaf]
         refine Qab rfl rfl (g_d rfl ?_)
         refine Qaa (v:=bool true) rfl rfl rfl (g_d rfl ?_)
         try dsimp only [Qae,Qaf]
         refine Qaa (v:=bool true) rfl rfl rfl (g_d rfl (Qab rfl rfl (g_d rfl (Qab rfl rfl (g_d rfl (Qab rfl rfl (g_d rfl ?_)))))))
         try dsimp only [Qae,Qaf]
         refine Qab rfl rfl (g_d rfl (Qab rfl rfl (g_d rfl (Qab rfl rfl (g_d rfl (Qab rfl rfl (g_d rfl ?_)))))))
         refine Qab rfl rfl (g_d rfl ?_)
         try dsimp only [Qae,Qaf]
         refine Qab rfl rfl (g_d rfl (Qab rfl rfl (g_d rfl ?_)))
         try dsimp only [Qae,Qaf]
         refine Qab rfl rfl (g_d rfl ?_)
         refine Qaa (v:=bool true) rfl rfl rfl (g_d rfl ?_)
         try dsimp only [Qae,Qaf]
         refine Qac (Qai rfl (Qad (Qag [0] rfl ?_)))
         refine Qaa (v:=bool false) rfl rfl rfl (g_d rfl (Qac ?_))
         refine Qaq Tryz.func3 (v:=bool false) (res1 rfl rfl) ?_
         have hs:St _ [] _:=St.take (Γ':=[_,_,_]) hs
         exact ⟨_,rfl,_,H,rfl,hs⟩
        as_aux_lemma =>
         intro hb
         rw [if_pos (b_not_f hb)] at H
         refine g_d rfl ?_
         try dsimp only [Qae,Qaf]
         refine Qaa (v:=bool false) rfl rfl rfl (g_d rfl ?_)
         refine Qaa (v:=int .i64 r55.2) rfl rfl rfl (g_d rfl ?_)
         refine Qaa (v:=bool (r55.2 !=0)) rfl rfl rfl (g_d rfl ?_)
         refine Qas (B:=r55.2 !=0) rfl rfl rfl ?_ ?_
         ·
          intro hb
          rw [if_neg (b_bne_t hb)] at H
          refine g_d rfl ?_
          try dsimp only [Qae,Qaf]
          refine Qaa (v:=bool true) rfl rfl rfl (g_d rfl (Qab rfl rfl (g_d rfl (Qab rfl rfl (g_d rfl (Qab rfl rfl (g_d rfl ?_)))))))
          try dsimp only [Qae,Qaf]
          refine Qab rfl rfl (g_d rfl (Qab rfl rfl (g_d rfl (Qab rfl rfl (g_d rfl (Qab rfl rfl (g_d rfl ?_)))))))
          refine Qab rfl rfl (g_d rfl ?_)
          try dsimp only [Qae,Qaf]
          refine Qaa (v:=bool true) rfl rfl rfl (g_d rfl ?_)
          refine Qaa (v:=bool true) rfl rfl rfl (g_d rfl (Qab rfl rfl (g_d rfl (Qab rfl rfl (g_d rfl ?_)))))
          try dsimp only [Qae,Qaf]
          refine Qab rfl rfl (g_d rfl (Qab rfl rfl (g_d rfl (Qab rfl rfl (g_d rfl (Qab rfl rfl (g_d rfl ?_)))))))
          refine Qab rfl rfl (g_d rfl ?_)
          try dsimp only [Qae,Qaf]
          refine Qab rfl rfl (g_d rfl (Qab rfl rfl (g_d rfl ?_)))
          try dsimp only [Qae,Qaf]
          refine Qab rfl rfl (g_d rfl (Qab rfl rfl (g_d rfl ?_)))
          try dsimp only [Qae,Qaf]
          refine Qaa (v:=bool true) rfl rfl rfl (g_d rfl (Qac (Qai rfl (Qad (Qag [0] rfl ?_)))))
          refine Qaa (v:=bool false) rfl rfl rfl (g_d rfl ?_)
          try dsimp only [Qae,Qaf]
          refine Qac ?_
          refine Qaq Tryz.func3 (v:=bool false) (res1 rfl rfl) ?_
          have hs:St _ [] _:=St.take (Γ':=[_,_,_]) hs
          exact ⟨_,rfl,_,H,rfl,hs⟩
         intro hb
         rw [if_pos (b_bne_f hb)] at H
         refine g_d rfl ?_
         try dsimp only [Qae,Qaf]
         refine Qaa (v:=bool false) rfl rfl rfl (g_d rfl ?_)
         refine Qaa (v:=v57) rfl rfl rfl (g_d rfl ?_)
         refine Qba (hs.row 0 rfl) rfl rfl rfl rfl rfl (g_d rfl ?_)
         refine Qas (B:=(r56.1.length:Int)==0) rfl rfl rfl ?_ ?_
         ·
          intro hb
          rw [if_pos (b_beq_t hb)] at H
          refine g_d rfl ?_
          try dsimp only [Qae,Qaf]
          refine Qaa (v:=bool true) rfl rfl rfl (g_d rfl ?_)
          refine Qaa (v:=int .i64 r55.1) rfl rfl rfl (g_d rfl ?_)
          refine Qaa (v:=int .i64 r32.1) rfl rfl rfl (g_d rfl ?_)
          refine Qaa (v:=bool (r55.1 !=r32.1)) rfl rfl rfl (g_d rfl ?_)
          refine Qaa (v:=bool (r55.1 !=r32.1)) rfl rfl rfl (g_d rfl ?_)
          try dsimp only [Qae,Qaf]
          refine Qas (B:=r55.1 !=r32.1) rfl rfl rfl ?_ ?_
          ·
           intro hb
           rw [if_neg (b_bne_t hb)] at H
           refine g_d rfl ?_
           try dsimp only [Qae,Qaf]
           refine Qaa (v:=bool true) rfl rfl rfl (g_d rfl (Qab rfl rfl (g_d rfl (Qab rfl rfl (g_d rfl (Qab rfl rfl (g_d rfl ?_)))))))
           try dsimp only [Qae,Qaf]
           refine Qab rfl rfl (g_d rfl (Qab rfl rfl (g_d rfl (Qab rfl rfl (g_d rfl (Qab rfl rfl (g_d rfl ?_)))))))
           refine Qab rfl rfl (g_d rfl ?_)
           try dsimp only [Qae,Qaf]
           refine Qab rfl rfl (g_d rfl (Qab rfl rfl (g_d rfl ?_)))
           try dsimp only [Qae,Qaf]
           refine Qab rfl rfl (g_d rfl ?_)
           refine Qaa (v:=bool true) rfl rfl rfl (g_d rfl ?_)
           try dsimp only [Qae,Qaf]
           refine Qac (Qai rfl (Qad (Qag [0] rfl ?_)))
           refine Qaa (v:=bool false) rfl rfl rfl (g_d rfl (Qac ?_))
           refine Qaq Tryz.func3 (v:=bool false) (res1 rfl rfl) ?_
           have hs:St _ [] _:=St.take (Γ':=[_,_,_]) hs
           exact ⟨_,rfl,_,H,rfl,hs⟩
          intro hb
          rw [if_pos (b_bne_f hb)] at H
          refine g_d rfl ?_
          refine Qaa (v:=bool false) rfl rfl rfl (g_d rfl ?_)
          refine Qaa (v:=v57) rfl rfl rfl (g_d rfl ?_)
          refine Qba (hs.row 0 rfl) rfl rfl rfl rfl rfl (g_d rfl ?_)
          try dsimp only [Qae,Qaf]
          refine Qas (B:=decide ((r56.1.length:Int)>0)) rfl rfl rfl ?_ ?_
          ·
           intro hb
           rw [if_pos (b_dec_t hb)] at H
           refine g_d rfl ?_
           try dsimp only [Qae,Qaf]
           refine Qaa (v:=bool true) rfl rfl rfl (g_d rfl ?_)
           refine Qaa (v:=int .i64 r55.1) rfl rfl rfl (g_d rfl ?_)
           refine Qaa (v:=v57) rfl rfl rfl (g_d rfl ?_)
           obtain ⟨g3,H⟩:=ite_getD H
           refine Qa6 (fkI .i64) 0 (hs.row 0 rfl) rfl (fun _=>rfl) g3.1 g3.2 rfl rfl rfl rfl rfl ?_
           intro p60 hp60 lp60 op60
           refine g_d rfl ?_
           refine QaA rfl rfl (v:=int .i64 (rdL r56.1 0 0)) rfl rfl (fun _=>rfl) hp60 (g_d rfl ?_)
           try dsimp only [Qae,Qaf]
           refine Qaa (v:=int .i64 (i64w ((rdL r56.1 0 0) - 1))) rfl rfl rfl (g_d rfl ?_)
           refine Qaa (v:=bool (r55.1 !=(i64w ((rdL r56.1 0 0) - 1)))) rfl rfl rfl (g_d rfl ?_)
           try dsimp only [Qae,Qaf]
           refine Qas (B:=r55.1 !=(i64w ((rdL r56.1 0 0) - 1))) rfl rfl rfl ?_ ?_
           ·
            intro hb
            rw [if_neg (b_bne_t hb)] at H
            refine g_d rfl ?_
            refine Qaa (v:=bool true) rfl rfl rfl (g_d rfl ?_)
            try dsimp only [Qae,Qaf]
            refine Qac (Qai rfl (Qad (Qag [0] rfl ?_)))
            refine Qaa (v:=bool false) rfl rfl rfl (g_d rfl (Qac ?_))
            refine Qaq Tryz.func3 (v:=bool false) (res1 rfl rfl) ?_
            have hs:St _ [] _:=St.take (Γ':=[_,_,_]) hs
            exact ⟨_,rfl,_,H,rfl,hs⟩
           intro hb
           rw [if_pos (b_bne_f hb)] at H
           refine g_d rfl ?_
           refine Qaa (v:=bool false) rfl rfl rfl (g_d rfl ?_)
           try dsimp only [Qae,Qaf]
           refine Qac (Qal rfl (Qay ?_))
           have hs:=hs.pull 0 rfl
           have hs:St _ [_] _:=St.take (Γ':=[_,_]) hs
           exact ha _ _ ⟨H,rfl,hs⟩
          intro hb
          rw [if_neg (b_dec_f hb)] at H
          refine g_d rfl ?_
          refine Qaa (v:=bool false) rfl rfl rfl (g_d rfl (Qab rfl rfl (g_d rfl (Qab rfl rfl (g_d rfl (Qab rfl rfl (g_d rfl ?_)))))))
          try dsimp only [Qae,Qaf]
          refine Qab rfl rfl (g_d rfl (Qab rfl rfl (g_d rfl ?_)))
          try dsimp only [Qae,Qaf]
          refine Qab rfl rfl (g_d rfl ?_)
          refine Qaa (v:=bool false) rfl rfl rfl (g_d rfl ?_)
          try dsimp only [Qae,Qaf]
          refine Qaa (v:=bool false) rfl rfl rfl (g_d rfl (Qac (Qal rfl (Qay ?_))))
          have hs:=hs.pull 0 rfl
          have hs:St _ [_] _:=St.take (Γ':=[_,_]) hs
          exact ha _ _ ⟨H,rfl,hs⟩
         intro hb
         rw [if_neg (b_beq_f hb)] at H
         refine g_d rfl ?_
         try dsimp only [Qae,Qaf]
         refine Qaa (v:=bool false) rfl rfl rfl (g_d rfl (Qab rfl rfl (g_d rfl (Qab rfl rfl (g_d rfl (Qab rfl rfl (g_d rfl ?_)))))))
         refine Qaa (v:=bool false) rfl rfl rfl (g_d rfl ?_)
         try dsimp only [Qae,Qaf]
         refine Qaa (v:=bool false) rfl rfl rfl (g_d rfl ?_)
         refine Qaa (v:=bool false) rfl rfl rfl (g_d rfl ?_)
         refine Qaa (v:=v57) rfl rfl rfl (g_d rfl ?_)
         refine Qba (hs.row 0 rfl) rfl rfl rfl rfl rfl (g_d rfl ?_)
         try dsimp only [Qae,Qaf]
         refine Qas (B:=decide ((r56.1.length:Int)>0)) rfl rfl rfl ?_ ?_
         ·
          intro hb
          rw [if_pos (b_dec_t hb)] at H
          refine g_d rfl ?_
          try dsimp only [Qae,Qaf]
          refine Qaa (v:=bool true) rfl rfl rfl (g_d rfl ?_)
          refine Qaa (v:=int .i64 r55.1) rfl rfl rfl (g_d rfl ?_)
          refine Qaa (v:=v57) rfl rfl rfl (g_d rfl ?_)
          obtain ⟨g4,H⟩:=ite_getD H
          refine Qa6 (fkI .i64) 0 (hs.row 0 rfl) rfl (fun _=>rfl) g4.1 g4.2 rfl rfl rfl rfl rfl ?_
          intro p61 hp61 lp61 op61
          refine g_d rfl ?_
          refine QaA rfl rfl (v:=int .i64 (rdL r56.1 0 0)) rfl rfl (fun _=>rfl) hp61 (g_d rfl ?_)
          try dsimp only [Qae,Qaf]
          refine Qaa (v:=int .i64 (i64w ((rdL r56.1 0 0) - 1))) rfl rfl rfl (g_d rfl ?_)
          refine Qaa (v:=bool (r55.1 !=(i64w ((rdL r56.1 0 0) - 1)))) rfl rfl rfl (g_d rfl ?_)
          try dsimp only [Qae,Qaf]
          refine Qas (B:=r55.1 !=(i64w ((rdL r56.1 0 0) - 1))) rfl rfl rfl ?_ ?_
          ·
           intro hb
           rw [if_neg (b_bne_t hb)] at H
           refine g_d rfl ?_
           refine Qaa (v:=bool true) rfl rfl rfl (g_d rfl ?_)
           try dsimp only [Qae,Qaf]
           refine Qac (Qai rfl (Qad (Qag [0] rfl ?_)))
           refine Qaa (v:=bool false) rfl rfl rfl (g_d rfl (Qac ?_))
           refine Qaq Tryz.func3 (v:=bool false) (res1 rfl rfl) ?_
           have hs:St _ [] _:=St.take (Γ':=[_,_,_]) hs
           exact ⟨_,rfl,_,H,rfl,hs⟩
          intro hb
          rw [if_pos (b_bne_f hb)] at H
          refine g_d rfl ?_
          refine Qaa (v:=bool false) rfl rfl rfl (g_d rfl ?_)
          try dsimp only [Qae,Qaf]
          refine Qac (Qal rfl (Qay ?_))
          have hs:=hs.pull 0 rfl
          have hs:St _ [_] _:=St.take (Γ':=[_,_]) hs
          exact ha _ _ ⟨H,rfl,hs⟩
         intro hb
         rw [if_neg (b_dec_f hb)] at H
         refine g_d rfl ?_
         refine Qaa (v:=bool false) rfl rfl rfl (g_d rfl (Qab rfl rfl (g_d rfl (Qab rfl rfl (g_d rfl (Qab rfl rfl (g_d rfl ?_)))))))
         try dsimp only [Qae,Qaf]
         refine Qab rfl rfl (g_d rfl (Qab rfl rfl (g_d rfl ?_)))
         try dsimp only [Qae,Qaf]
         refine Qab rfl rfl (g_d rfl ?_)
         refine Qaa (v:=bool false) rfl rfl rfl (g_d rfl ?_)
         try dsimp only [Qae,Qaf]
         refine Qaa (v:=bool false) rfl rfl rfl (g_d rfl (Qac (Qal rfl (Qay ?_))))
         have hs:=hs.pull 0 rfl
         have hs:St _ [_] _:=St.take (Γ':=[_,_]) hs
         exact ha _ _ ⟨H,rfl,hs⟩
       intro ha
       refine Qag [0,1] rfl ?_
       refine Qaa (v:=int .i64 r22.1) rfl rfl rfl (g_d rfl ?_)
       refine Qas (B:=decide (r22.1≥0)) rfl rfl rfl ?_ ?_
       ·
        intro hb
        rw [if_pos (b_dec_t hb)] at H
        refine g_d rfl (Qac (Qai rfl (Qad (Qag [0,1,2,3,4,5,6,7] rfl ?_))))
        refine Qaa (v:=v7) rfl rfl rfl (g_d rfl ?_)
        refine Qaa (v:=int .i64 r22.1) rfl rfl rfl (g_d rfl ?_)
        obtain ⟨r47,Hr47,H⟩:=H
        refine Qaw (args:=[v7,int .i64 r22.1,bool true]) rfl rfl (Qax rfl (callFunc_enter Tryz.func9 rfl rfl) rfl) (Qau.calls (a1:=r6) (a3:=r22.1) (a4:=true) (hs.row 0 rfl) Hr47) ?_
        rintro _ w ⟨v48,rfl,hs2⟩
        have hs:St _ [_,_] _:=hs.call hs2
        refine g_d rfl ?_
        try dsimp only [Qae,Qaf]
        refine Qaa (v:=tuple #[v48,int .i64 r47.2]) rfl rfl rfl (g_d rfl ?_)
        refine Qaa (v:=v48) rfl rfl rfl (g_d rfl ?_)
        refine Qaa (v:=int .i64 r47.2) rfl rfl rfl (g_d rfl ?_)
        refine Qaa (v:=v48) rfl rfl rfl (g_d rfl ?_)
        refine Qaa (v:=int .i64 r47.2) rfl rfl rfl (g_d rfl ?_)
        try dsimp only [Qae,Qaf]
        refine Qac (Qad (Qag [0,1,2,3,4,5,6,7] rfl ?_))
        refine Qaa (v:=v7) rfl rfl rfl (g_d rfl ?_)
        refine Qaa (v:=v48) rfl rfl rfl (g_d rfl ?_)
        obtain ⟨r50,Hr50,H⟩:=H
        refine Qaw (args:=[v7,v48]) rfl rfl (Qax rfl (callFunc_enter Tryz.func13 rfl rfl) rfl) (QaR.calls (a1:=r6) (a3:=r47.1) (hs.row 1 rfl) (hs.row 0 rfl) Hr50) ?_
        rintro _ w ⟨rfl,hs2⟩
        have hs:St _ [_,_] _:=hs.call hs2
        refine g_d rfl ?_
        refine Qaa (v:=tuple #[int .i64 r50.1,int .i64 r50.2]) rfl rfl rfl (g_d rfl ?_)
        refine Qaa (v:=int .i64 r50.1) rfl rfl rfl (g_d rfl ?_)
        refine Qaa (v:=int .i64 r50.2) rfl rfl rfl (g_d rfl ?_)
        refine Qaa (v:=int .i64 r50.1) rfl rfl rfl (g_d rfl ?_)
        try dsimp only [Qae,Qaf]
        refine Qaa (v:=int .i64 r50.2) rfl rfl rfl (g_d rfl (Qac (Qad (Qag [0,1,2,3,4,5,6,7,8,9,10] rfl ?_))))
        refine Qaa (v:=int .i64 r47.2) rfl rfl rfl (g_d rfl ?_)
        refine Qas (B:=r47.2 !=0) rfl rfl rfl ?_ ?_
        ·
         intro hb
         rw [if_neg (b_bne_t hb)] at H
         refine g_d rfl ?_
         try dsimp only [Qae,Qaf]
         refine Qaa (v:=bool true) rfl rfl rfl (g_d rfl (Qab rfl rfl (g_d rfl (Qab rfl rfl (g_d rfl ?_)))))
         refine Qaa (v:=bool true) rfl rfl rfl (g_d rfl ?_)
         try dsimp only [Qae,Qaf]
         refine Qaa (v:=bool true) rfl rfl rfl (g_d rfl (Qab rfl rfl (g_d rfl (Qab rfl rfl (g_d rfl (Qab rfl rfl (g_d rfl ?_)))))))
         refine Qaa (v:=bool true) rfl rfl rfl (g_d rfl ?_)
         try dsimp only [Qae,Qaf]
         refine Qac (Qai rfl (Qad (Qag [0] rfl ?_)))
         refine Qaa (v:=bool false) rfl rfl rfl (g_d rfl (Qac ?_))
         refine Qaq Tryz.func3 (v:=bool false) (res1 rfl rfl) ?_
         have hs:St _ [] _:=St.take (Γ':=[_,_]) hs
         exact ⟨_,rfl,_,H,rfl,hs⟩
        intro hb
        rw [if_pos (b_bne_f hb)] at H
        refine g_d rfl ?_
        try dsimp only [Qae,Qaf]
        refine Qaa (v:=bool false) rfl rfl rfl (g_d rfl ?_)
        refine Qaa (v:=int .i64 r50.2) rfl rfl rfl (g_d rfl ?_)
        refine Qaa (v:=bool (r50.2 !=0)) rfl rfl rfl (g_d rfl ?_)
        refine Qas (B:=r50.2 !=0) rfl rfl rfl ?_ ?_
        ·
         intro hb
         rw [if_neg (b_bne_t hb)] at H
         refine g_d rfl ?_
         try dsimp only [Qae,Qaf]
         refine Qaa (v:=bool true) rfl rfl rfl (g_d rfl (Qab rfl rfl (g_d rfl (Qab rfl rfl (g_d rfl (Qab rfl rfl (g_d rfl ?_)))))))
         refine Qaa (v:=bool true) rfl rfl rfl (g_d rfl ?_)
         try dsimp only [Qae,Qaf]
         refine Qac (Qai rfl (Qad (Qag [0] rfl ?_)))
         refine Qaa (v:=bool false) rfl rfl rfl (g_d rfl (Qac ?_))
         refine Qaq Tryz.func3 (v:=bool false) (res1 rfl rfl) ?_
         have hs:St _ [] _:=St.take (Γ':=[_,_]) hs
         exact ⟨_,rfl,_,H,rfl,hs⟩
        intro hb
        rw [if_pos (b_bne_f hb)] at H
        refine g_d rfl ?_
        try dsimp only [Qae,Qaf]
        refine Qaa (v:=bool false) rfl rfl rfl (g_d rfl ?_)
        refine Qaa (v:=int .i64 r50.1) rfl rfl rfl (g_d rfl ?_)
        refine Qaa (v:=int .i64 r23.1) rfl rfl rfl (g_d rfl ?_)
        refine Qas (B:=decide (r50.1>r23.1)) rfl rfl rfl ?_ ?_
        ·
         intro hb
         rw [if_pos (b_dec_t hb)] at H
         refine g_d rfl ?_
         refine Qaa (v:=bool true) rfl rfl rfl (g_d rfl ?_)
         try dsimp only [Qae,Qaf]
         refine Qac (Qai rfl (Qad (Qag [0] rfl ?_)))
         refine Qaa (v:=bool false) rfl rfl rfl (g_d rfl (Qac ?_))
         refine Qaq Tryz.func3 (v:=bool false) (res1 rfl rfl) ?_
         have hs:St _ [] _:=St.take (Γ':=[_,_]) hs
         exact ⟨_,rfl,_,H,rfl,hs⟩
        intro hb
        rw [if_neg (b_dec_f hb)] at H
        refine g_d rfl ?_
        refine Qaa (v:=bool false) rfl rfl rfl (g_d rfl ?_)
        try dsimp only [Qae,Qaf]
        refine Qac (Qal rfl (Qay ?_))
        have hs:=hs.pull 1 rfl
        have hs:St _ [_] _:=St.take (Γ':=[_]) hs
        exact ha _ _ ⟨H,rfl,hs⟩
       intro hb
       rw [if_neg (b_dec_f hb)] at H
       refine g_d rfl ?_
       try dsimp only [Qae,Qaf]
       refine Qac (Qal rfl (Qay ?_))
       have hs:=hs.pull 0 rfl
       have hs:St _ [_] _:=St.take (Γ':=[]) hs
       exact ha _ _ ⟨H,rfl,hs⟩
      intro ha
      refine Qag [0,1] rfl ?_
      refine Qaa (v:=int .i64 r14.2) rfl rfl rfl (g_d rfl ?_)
      refine Qas (B:=r14.2==0) rfl rfl rfl ?_ ?_
      · as_aux_lemma =>
       intro hb
       rw [if_pos (b_beq_t hb)] at H
       refine g_d rfl ?_
       try dsimp only [Qae,Qaf]
       refine Qac (Qai rfl (Qad (Qag [0,1,2,3,4,5,6,7] rfl ?_)))
       refine Qaa (v:=v7) rfl rfl rfl (g_d rfl ?_)
       refine Qaa (v:=v18) rfl rfl rfl (g_d rfl ?_)
       obtain ⟨r38,Hr38,H⟩:=H
       refine Qaw (args:=[v7,v18]) rfl rfl (Qax rfl (callFunc_enter Tryz.func12 rfl rfl) rfl) (Qbn.calls (a1:=r6) (a3:=r17.1) (hs.row 5 rfl) (hs.row 2 rfl) Hr38) ?_
       rintro _ w ⟨rfl,hs2⟩
       have hs:St _ [_,_,_,_,_,_] _:=hs.call hs2
       refine g_d rfl ?_
       refine Qaa (v:=tuple #[int .i64 r38.1,int .i64 r38.2]) rfl rfl rfl (g_d rfl ?_)
       refine Qaa (v:=int .i64 r38.1) rfl rfl rfl (g_d rfl ?_)
       refine Qaa (v:=int .i64 r38.2) rfl rfl rfl (g_d rfl ?_)
       refine Qaa (v:=int .i64 r38.1) rfl rfl rfl (g_d rfl ?_)
       try dsimp only [Qae,Qaf]
       refine Qaa (v:=int .i64 r38.2) rfl rfl rfl (g_d rfl (Qac (Qad (Qag [0,1,2,3,4,5,6,7,8] rfl ?_))))
       refine Qaa (v:=v7) rfl rfl rfl (g_d rfl ?_)
       refine Qaa (v:=v18) rfl rfl rfl (g_d rfl ?_)
       refine Qaa (v:=int .i64 r13) rfl rfl rfl (g_d rfl ?_)
       obtain ⟨r39,Hr39,H⟩:=H
       refine Qaw (args:=[v7,v18,int .i64 r13]) rfl rfl (Qax rfl (callFunc_enter Tryz.func23 rfl rfl) rfl) (Qbv.calls (a1:=r6) (a3:=r17.1) (a5:=r13) (hs.row 5 rfl) (hs.row 2 rfl) Hr39) ?_
       rintro _ w ⟨rfl,hs2⟩
       have hs:St _ [_,_,_,_,_,_] _:=hs.call hs2
       refine g_d rfl ?_
       try dsimp only [Qae,Qaf]
       refine Qaa (v:=tuple #[int .i64 r39.1,int .i64 r39.2]) rfl rfl rfl (g_d rfl ?_)
       refine Qaa (v:=int .i64 r39.1) rfl rfl rfl (g_d rfl ?_)
       refine Qaa (v:=int .i64 r39.2) rfl rfl rfl (g_d rfl ?_)
       refine Qaa (v:=int .i64 r39.1) rfl rfl rfl (g_d rfl ?_)
       refine Qaa (v:=int .i64 r39.2) rfl rfl rfl (g_d rfl ?_)
       try dsimp only [Qae,Qaf]
       refine Qac (Qad (Qag [0,1,2,3,4,5,6,7,8,9] rfl ?_))
       refine Qaa (v:=v7) rfl rfl rfl (g_d rfl ?_)
       refine Qaa (v:=v18) rfl rfl rfl (g_d rfl ?_)
       refine Qaa (v:=int .i64 r13) rfl rfl rfl (g_d rfl ?_)
       refine Qaa (v:=int .i64 (i64w (r13+1))) rfl rfl rfl (g_d rfl ?_)
       obtain ⟨r40,Hr40,H⟩:=H
       refine Qaw (args:=[v7,v18,int .i64 (i64w (r13+1))]) rfl rfl (Qax rfl (callFunc_enter Tryz.func23 rfl rfl) rfl) (Qbv.calls (a1:=r6) (a3:=r17.1) (a5:=i64w (r13+1)) (hs.row 5 rfl) (hs.row 2 rfl) Hr40) ?_
       rintro _ w ⟨rfl,hs2⟩
       have hs:St _ [_,_,_,_,_,_] _:=hs.call hs2
       refine g_d rfl ?_
       try dsimp only [Qae,Qaf]
       refine Qaa (v:=tuple #[int .i64 r40.1,int .i64 r40.2]) rfl rfl rfl (g_d rfl ?_)
       refine Qaa (v:=int .i64 r40.1) rfl rfl rfl (g_d rfl ?_)
       refine Qaa (v:=int .i64 r40.2) rfl rfl rfl (g_d rfl ?_)
       refine Qaa (v:=int .i64 r40.1) rfl rfl rfl (g_d rfl ?_)
       refine Qaa (v:=int .i64 r40.2) rfl rfl rfl (g_d rfl ?_)
       try dsimp only [Qae,Qaf]
       refine Qac (Qad (Qad (Qag [0,1,2,3,4,5,6,7,8,9,10,11,12,13,14,15,16,17,18,19,20,21,22] rfl ?_)))
       refine Qaa (v:=int .i64 r38.2) rfl rfl rfl (g_d rfl ?_)
       refine Qas (B:=r38.2 !=0) rfl rfl rfl ?_ ?_
       ·
        intro hb
        rw [if_neg (b_bne_t hb)] at H
        refine g_d rfl ?_
        try dsimp only [Qae,Qaf]
        refine Qaa (v:=bool true) rfl rfl rfl (g_d rfl (Qab rfl rfl (g_d rfl (Qab rfl rfl (g_d rfl (Qab rfl rfl (g_d rfl ?_)))))))
        refine Qaa (v:=bool true) rfl rfl rfl (g_d rfl ?_)
        try dsimp only [Qae,Qaf]
        refine Qaa (v:=bool true) rfl rfl rfl (g_d rfl (Qab rfl rfl (g_d rfl (Qab rfl rfl (g_d rfl ?_)))))
        refine Qaa (v:=bool true) rfl rfl rfl (g_d rfl ?_)
        try dsimp only [Qae,Qaf]
        refine Qaa (v:=bool true) rfl rfl rfl (g_d rfl (Qab rfl rfl (g_d rfl (Qab rfl rfl (g_d rfl ?_)))))
        refine Qaa (v:=bool true) rfl rfl rfl (g_d rfl ?_)
        try dsimp only [Qae,Qaf]
        refine Qaa (v:=bool true) rfl rfl rfl (g_d rfl (Qab rfl rfl (g_d rfl (Qab rfl rfl (g_d rfl ?_)))))
        refine Qaa (v:=bool true) rfl rfl rfl (g_d rfl ?_)
        try dsimp only [Qae,Qaf]
        refine Qaa (v:=bool true) rfl rfl rfl (g_d rfl (Qab rfl rfl (g_d rfl (Qab rfl rfl (g_d rfl ?_)))))
        refine Qaa (v:=bool true) rfl rfl rfl (g_d rfl ?_)
        try dsimp only [Qae,Qaf]
        refine Qac (Qai rfl (Qad (Qag [0] rfl ?_)))
        refine Qaa (v:=bool false) rfl rfl rfl (g_d rfl (Qac ?_))
        refine Qaq Tryz.func3 (v:=bool false) (res1 rfl rfl) ?_
        have hs:St _ [] _:=St.take (Γ':=[_,_,_,_,_,_]) hs
        exact ⟨_,rfl,_,H,rfl,hs⟩
       intro hb
       rw [if_pos (b_bne_f hb)] at H
       refine g_d rfl ?_
       refine Qaa (v:=bool false) rfl rfl rfl (g_d rfl ?_)
       refine Qaa (v:=int .i64 r38.1) rfl rfl rfl (g_d rfl ?_)
       refine Qaa (v:=int .i64 r13) rfl rfl rfl (g_d rfl ?_)
       refine Qaa (v:=bool (r38.1 !=r13)) rfl rfl rfl (g_d rfl ?_)
       try dsimp only [Qae,Qaf]
       refine Qas (B:=r38.1 !=r13) rfl rfl rfl ?_ ?_
       ·
        intro hb
        rw [if_neg (b_bne_t hb)] at H
        refine g_d rfl ?_
        try dsimp only [Qae,Qaf]
        refine Qaa (v:=bool true) rfl rfl rfl (g_d rfl (Qab rfl rfl (g_d rfl (Qab rfl rfl (g_d rfl ?_)))))
        refine Qaa (v:=bool true) rfl rfl rfl (g_d rfl ?_)
        try dsimp only [Qae,Qaf]
        refine Qaa (v:=bool true) rfl rfl rfl (g_d rfl (Qab rfl rfl (g_d rfl (Qab rfl rfl (g_d rfl ?_)))))
        refine Qaa (v:=bool true) rfl rfl rfl (g_d rfl ?_)
        try dsimp only [Qae,Qaf]
        refine Qaa (v:=bool true) rfl rfl rfl (g_d rfl (Qab rfl rfl (g_d rfl (Qab rfl rfl (g_d rfl ?_)))))
        refine Qaa (v:=bool true) rfl rfl rfl (g_d rfl ?_)
        try dsimp only [Qae,Qaf]
        refine Qaa (v:=bool true) rfl rfl rfl (g_d rfl (Qab rfl rfl (g_d rfl (Qab rfl rfl (g_d rfl ?_)))))
        refine Qaa (v:=bool true) rfl rfl rfl (g_d rfl ?_)
        try dsimp only [Qae,Qaf]
        refine Qac (Qai rfl (Qad (Qag [0] rfl ?_)))
        refine Qaa (v:=bool false) rfl rfl rfl (g_d rfl (Qac ?_))
        refine Qaq Tryz.func3 (v:=bool false) (res1 rfl rfl) ?_
        have hs:St _ [] _:=St.take (Γ':=[_,_,_,_,_,_]) hs
        exact ⟨_,rfl,_,H,rfl,hs⟩
       intro hb
       rw [if_pos (b_bne_f hb)] at H
       refine g_d rfl ?_
       refine Qaa (v:=bool false) rfl rfl rfl (g_d rfl ?_)
       refine Qaa (v:=int .i64 r39.2) rfl rfl rfl (g_d rfl ?_)
       refine Qaa (v:=bool (r39.2 !=0)) rfl rfl rfl (g_d rfl ?_)
       try dsimp only [Qae,Qaf]
       refine Qas (B:=r39.2 !=0) rfl rfl rfl ?_ ?_
       ·
        intro hb
        rw [if_neg (b_bne_t hb)] at H
        refine g_d rfl ?_
        try dsimp only [Qae,Qaf]
        refine Qaa (v:=bool true) rfl rfl rfl (g_d rfl (Qab rfl rfl (g_d rfl (Qab rfl rfl (g_d rfl ?_)))))
        refine Qaa (v:=bool true) rfl rfl rfl (g_d rfl ?_)
        try dsimp only [Qae,Qaf]
        refine Qaa (v:=bool true) rfl rfl rfl (g_d rfl (Qab rfl rfl (g_d rfl (Qab rfl rfl (g_d rfl ?_)))))
        refine Qaa (v:=bool true) rfl rfl rfl (g_d rfl ?_)
        try dsimp only [Qae,Qaf]
        refine Qaa (v:=bool true) rfl rfl rfl (g_d rfl (Qab rfl rfl (g_d rfl (Qab rfl rfl (g_d rfl ?_)))))
        refine Qaa (v:=bool true) rfl rfl rfl (g_d rfl ?_)
        try dsimp only [Qae,Qaf]
        refine Qac (Qai rfl (Qad (Qag [0] rfl ?_)))
        refine Qaa (v:=bool false) rfl rfl rfl (g_d rfl (Qac ?_))
        refine Qaq Tryz.func3 (v:=bool false) (res1 rfl rfl) ?_
        have hs:St _ [] _:=St.take (Γ':=[_,_,_,_,_,_]) hs
        exact ⟨_,rfl,_,H,rfl,hs⟩
       intro hb
       rw [if_pos (b_bne_f hb)] at H
       refine g_d rfl ?_
       refine Qaa (v:=bool false) rfl rfl rfl (g_d rfl ?_)
       refine Qaa (v:=int .i64 r39.1) rfl rfl rfl (g_d rfl ?_)
       refine Qaa (v:=bool (r39.1 !=0)) rfl rfl rfl (g_d rfl ?_)
       try dsimp only [Qae,Qaf]
       refine Qas (B:=r39.1 !=0) rfl rfl rfl ?_ ?_
       ·
        intro hb
        rw [if_neg (b_bne_t hb)] at H
        refine g_d rfl ?_
        try dsimp only [Qae,Qaf]
        refine Qaa (v:=bool true) rfl rfl rfl (g_d rfl (Qab rfl rfl (g_d rfl (Qab rfl rfl (g_d rfl ?_)))))
        refine Qaa (v:=bool true) rfl rfl rfl (g_d rfl ?_)
        try dsimp only [Qae,Qaf]
        refine Qaa (v:=bool true) rfl rfl rfl (g_d rfl (Qab rfl rfl (g_d rfl (Qab rfl rfl (g_d rfl ?_)))))
        refine Qaa (v:=bool true) rfl rfl rfl (g_d rfl ?_)
        try dsimp only [Qae,Qaf]
        refine Qac (Qai rfl (Qad (Qag [0] rfl ?_)))
        refine Qaa (v:=bool false) rfl rfl rfl (g_d rfl (Qac ?_))
        refine Qaq Tryz.func3 (v:=bool false) (res1 rfl rfl) ?_
        have hs:St _ [] _:=St.take (Γ':=[_,_,_,_,_,_]) hs
        exact ⟨_,rfl,_,H,rfl,hs⟩
       intro hb
       rw [if_pos (b_bne_f hb)] at H
       refine g_d rfl ?_
       refine Qaa (v:=bool false) rfl rfl rfl (g_d rfl ?_)
       refine Qaa (v:=int .i64 r40.2) rfl rfl rfl (g_d rfl ?_)
       refine Qaa (v:=bool (r40.2 !=0)) rfl rfl rfl (g_d rfl ?_)
       try dsimp only [Qae,Qaf]
       refine Qas (B:=r40.2 !=0) rfl rfl rfl ?_ ?_
       ·
        intro hb
        rw [if_neg (b_bne_t hb)] at H
        refine g_d rfl ?_
        try dsimp only [Qae,Qaf]
        refine Qaa (v:=bool true) rfl rfl rfl (g_d rfl (Qab rfl rfl (g_d rfl (Qab rfl rfl (g_d rfl ?_)))))
        refine Qaa (v:=bool true) rfl rfl rfl (g_d rfl ?_)
        try dsimp only [Qae,Qaf]
        refine Qac (Qai rfl (Qad (Qag [0] rfl ?_)))
        refine Qaa (v:=bool false) rfl rfl rfl (g_d rfl (Qac ?_))
        refine Qaq Tryz.func3 (v:=bool false) (res1 rfl rfl) ?_
        have hs:St _ [] _:=St.take (Γ':=[_,_,_,_,_,_]) hs
        exact ⟨_,rfl,_,H,rfl,hs⟩
       intro hb
       rw [if_pos (b_bne_f hb)] at H
       refine g_d rfl ?_
       refine Qaa (v:=bool false) rfl rfl rfl (g_d rfl ?_)
       refine Qaa (v:=int .i64 r40.1) rfl rfl rfl (g_d rfl ?_)
       refine Qas (B:=r40.1 !=(-1)) rfl rfl rfl ?_ ?_
       ·
        intro hb
        rw [if_neg (b_bne_t hb)] at H
        refine g_d rfl ?_
        refine Qaa (v:=bool true) rfl rfl rfl (g_d rfl ?_)
        try dsimp only [Qae,Qaf]
        refine Qac (Qai rfl (Qad (Qag [0] rfl ?_)))
        refine Qaa (v:=bool false) rfl rfl rfl (g_d rfl (Qac ?_))
        refine Qaq Tryz.func3 (v:=bool false) (res1 rfl rfl) ?_
        have hs:St _ [] _:=St.take (Γ':=[_,_,_,_,_,_]) hs
        exact ⟨_,rfl,_,H,rfl,hs⟩
       intro hb
       rw [if_pos (b_bne_f hb)] at H
       refine g_d rfl ?_
       try dsimp only [Qae,Qaf]
       refine Qaa (v:=bool false) rfl rfl rfl (g_d rfl (Qac (Qal rfl (Qay (Qad (Qag [0] rfl ?_))))))
       refine Qaa (v:=int .i64 0) rfl rfl rfl (g_d rfl ?_)
       try dsimp only [Qae,Qaf]
       refine Qac ?_
       have Ho:=H
       refine QaC (J:=fun t w=>Qar.a3 N r22 r6 r23 r12 r32 r13 r20 Q∧Fr t (fun O=>(O 0::O 1::O 2::O 3::O 4::v7::O 6::bool (r12==1)::int .i64 r13::O 9::O 10::O 11::O 12::bool r20.1::O 14::O 15::O 16::int .i64 r22.1::O 18::int .i64 r23.1::O 20::O 21::O 22::O 23::O 24::int .i64 r32.1::O 26::O 27::O 28::O 29::oT O 3 (oT O 4 (oT O 5 (oT O 6 (oT O 7 (oT O 8 (oT O 9 (oT O 10 (oT O 11 (oT O 12 (oT O 13 (oT O 14 (oT O 15 (oT O 16 (oT O 17 (oT O 18 (oT O 19 (oT O 20 (oT O 21 (oT O 22 (oT O 23 (oT O 24 (oT O 25 (oT O 26 (oT O 27 (oT O 28 (oT O 29 (oT O 30 (oT O 31 (oT O 32 (oT O 33 (oT O 34 (O 350::O 351::O 352::O 353::O 354::O 355::O 356::O 357::[])))))))))))))))))))))))))))))))):List Value))∧St w0 [Row 67 (K.int .i16) v7 r6] w) ?_ ?_
       ·
        rintro t w ⟨H,hf,hs⟩
        obtain ⟨O,rfl⟩:=hf.open
        try dsimp only [oT]
        unfold Qar.a3 at H
        have hs:=hs.pull 0 rfl
        have hs:St _ [_] _:=St.take (Γ':=[]) hs
        exact ha _ _ ⟨H,rfl,hs⟩
       intro ha1_
       have hs:=hs.pull 2 rfl
       have hs:=hs.pull 5 rfl
       have hs:St _ [_,_] _:=St.take (Γ':=[_,_,_,_]) hs
       refine QaP (I:=fun n_ t w=>∃ x41:Int,roundsD (fun s=>Qar.b3 N r17 r12 s) n_ x41 (Ex.finD (fun s=>Qar.a3 N r22 r6 r23 r12 r32 r13 r20 Q) Q)∧Fr t (fun O=>(O 0::O 1::O 2::O 3::O 4::v7::O 6::bool (r12==1)::int .i64 r13::O 9::O 10::v18::O 12::bool r20.1::O 14::O 15::O 16::int .i64 r22.1::O 18::int .i64 r23.1::O 20::O 21::O 22::O 23::O 24::int .i64 r32.1::O 26::O 27::O 28::O 29::O 30::O 31::O 32::int .i64 x41::O 34::O 35::O 36::O 37::O 38::O 39::oT O 4 (oT O 5 (oT O 6 (oT O 7 (oT O 8 (oT O 9 (oT O 10 (oT O 11 (oT O 12 (oT O 13 (oT O 14 (oT O 15 (oT O 16 (oT O 17 (oT O 18 (oT O 19 (oT O 20 (oT O 21 (oT O 22 (oT O 23 (oT O 24 (oT O 25 (oT O 26 (oT O 27 (oT O 28 (oT O 29 (oT O 30 (oT O 31 (oT O 32 (oT O 33 (oT O 34 (O 350::O 351::O 352::O 353::O 354::O 355::O 356::O 357::[]))))))))))))))))))))))))))))))):List Value))∧St w0 [Row 67 (K.int .i16) v7 r6,Row 49 (K.int .i8) v18 r17.1] w) N ⟨0,Ho,rfl,hs⟩ ?_ ?_
       ·
        rintro _ _ ⟨x41,h,_⟩
        exact (h:False).elim
       intro n_ ih1_
       rintro t w ⟨x41,Ho,hf,hs⟩
       obtain ⟨O,rfl⟩:=hf.open
       try dsimp only [oT]
       obtain ⟨x2_,hQ1_,H⟩:=roundsD_succ Ho
       have H:Qar.b3 N r17 r12 x41 x2_:=H
       unfold Qar.b3 at H
       refine Qad (Qad (Qag [0,1,2,3] rfl ?_))
       refine Qaa (v:=int .i64 x41) rfl rfl rfl (g_d rfl ?_)
       refine Qaa (v:=v18) rfl rfl rfl (g_d rfl ?_)
       refine Qba (hs.row 1 rfl) rfl rfl rfl rfl rfl (g_d rfl ?_)
       refine Qas (B:=decide (x41< (r17.1.length:Int))) rfl rfl rfl ?_ ?_
       ·
        intro hb
        rw [if_pos (b_dec_t hb)] at H
        refine g_d rfl (Qac (Qai rfl (Qay (Qad ?_))))
        refine QaC (J:=(fun t w=>Qar.j5 N x41 x2_∧Fr t (fun O=>(O 0::O 1::O 2::O 3::O 4::v7::O 6::bool (r12==1)::int .i64 r13::O 9::O 10::v18::O 12::bool r20.1::O 14::O 15::O 16::int .i64 r22.1::O 18::int .i64 r23.1::O 20::O 21::O 22::O 23::O 24::int .i64 r32.1::O 26::O 27::O 28::O 29::O 30::O 31::O 32::int .i64 x41::O 34::O 35::O 36::O 37::O 38::O 39::oT O 4 (oT O 5 (oT O 6 (oT O 7 (oT O 8 (oT O 9 (oT O 10 (oT O 11 (oT O 12 (oT O 13 (oT O 14 (oT O 15 (oT O 16 (oT O 17 (oT O 18 (oT O 19 (oT O 20 (oT O 21 (oT O 22 (oT O 23 (oT O 24 (oT O 25 (oT O 26 (oT O 27 (oT O 28 (oT O 29 (oT O 30 (oT O 31 (oT O 32 (oT O 33 (oT O 34 (O 350::O 351::O 352::O 353::O 354::O 355::O 356::O 357::[]))))))))))))))))))))))))))))))):List Value))∧St w0 [Row 67 (K.int .i16) v7 r6,Row 49 (K.int .i8) v18 r17.1] w)) ?_ ?_
        ·
         rintro t w ⟨H,hf,hs⟩
         obtain ⟨O,rfl⟩:=hf.open
         try dsimp only [oT]
         unfold Qar.j5 at H
         refine Qag [0,1,2] rfl ?_
         refine Qaa (v:=int .i64 x41) rfl rfl rfl (g_d rfl ?_)
         refine Qaa (v:=int .i64 (i64w (x41+1))) rfl rfl rfl (g_d rfl ?_)
         try dsimp only [Qae,Qaf]
         refine Qaa (v:=int .i64 (i64w (x41+1))) rfl rfl rfl (g_d rfl (Qac ?_))
         have hs:=hs.pull 1 rfl
         have hs:=hs.pull 1 rfl
         have hs:St _ [_,_] _:=St.take (Γ':=[]) hs
         exact ih1_ _ _ ⟨i64w (x41+1),cast (congrFun hQ1_ _) H,rfl,hs⟩
        intro ha
        refine Qad (Qag [0,1,2,3,4,5,6,7,8] rfl ?_)
        refine Qaa (v:=v18) rfl rfl rfl (g_d rfl ?_)
        refine Qaa (v:=int .i64 x41) rfl rfl rfl (g_d rfl ?_)
        obtain ⟨g1,H⟩:=ite_getD H
        refine Qa6 (fkI .i8) 0 (hs.row 1 rfl) rfl (fun _=>rfl) g1.1 g1.2 rfl rfl rfl rfl rfl ?_
        intro p42 hp42 lp42 op42
        refine g_d rfl ?_
        try dsimp only [Qae,Qaf]
        refine QaA rfl rfl (v:=int .i8 (rdL r17.1 x41 0)) rfl rfl (fun _=>rfl) hp42 (g_d rfl ?_)
        refine Qas (B:=decide ((rdL r17.1 x41 0)< 0)) rfl rfl rfl ?_ ?_
        ·
         intro hb
         rw [if_pos (b_dec_t hb)] at H
         refine g_d rfl ?_
         refine Qaa (v:=bool true) rfl rfl rfl (g_d rfl ?_)
         refine Qas (B:=r12==1) rfl rfl rfl ?_ ?_
         ·
          intro hb
          rw [if_pos (b_beq_t hb)] at H
          refine g_d rfl ?_
          refine Qaa (v:=bool false) rfl rfl rfl (g_d rfl ?_)
          refine Qaa (v:=bool false) rfl rfl rfl (g_d rfl ?_)
          try dsimp only [Qae,Qaf]
          refine Qac (Qal rfl (Qay ?_))
          refine QaH ?_
          have hs:=hs.pull 1 rfl
          have hs:=hs.pull 1 rfl
          have hs:St _ [_,_] _:=St.take (Γ':=[]) hs
          exact ha _ _ ⟨H,rfl,hs⟩
         intro hb
         rw [if_neg (b_beq_f hb)] at H
         refine g_d rfl ?_
         refine Qaa (v:=bool true) rfl rfl rfl (g_d rfl ?_)
         try dsimp only [Qae,Qaf]
         refine Qaa (v:=bool true) rfl rfl rfl (g_d rfl (Qac (Qai rfl (Qad (Qag [0] rfl ?_)))))
         refine Qaa (v:=bool false) rfl rfl rfl (g_d rfl ?_)
         try dsimp only [Qae,Qaf]
         refine Qac ?_
         have H:=cast (congrFun hQ1_ _) H
         have H:Q false:=H
         refine Qaq Tryz.func3 (v:=bool false) (res1 rfl rfl) ?_
         have hs:St _ [] _:=St.take (Γ':=[_,_]) hs
         exact ⟨_,rfl,_,H,rfl,hs⟩
        intro hb
        rw [if_neg (b_dec_f hb)] at H
        refine g_d rfl ?_
        try dsimp only [Qae,Qaf]
        refine Qaa (v:=bool false) rfl rfl rfl (g_d rfl (Qab rfl rfl (g_d rfl (Qab rfl rfl (g_d rfl ?_)))))
        refine Qaa (v:=bool false) rfl rfl rfl (g_d rfl ?_)
        try dsimp only [Qae,Qaf]
        refine Qac (Qal rfl (Qay ?_))
        refine QaH ?_
        have hs:=hs.pull 1 rfl
        have hs:=hs.pull 1 rfl
        have hs:St _ [_,_] _:=St.take (Γ':=[]) hs
        exact ha _ _ ⟨H,rfl,hs⟩
       intro hb
       rw [if_neg (b_dec_f hb)] at H
       refine g_d rfl ?_
       try dsimp only [Qae,Qaf]
       refine Qac (Qal rfl ?_)
       have hs:=hs.pull 0 rfl
       have hs:St _ [_] _:=St.take (Γ':=[_]) hs
       refine Qbc rfl ?_
       exact ha1_ _ _ ⟨cast (congrFun hQ1_ _) H,rfl,hs⟩
      intro hb
      rw [if_neg (b_beq_f hb)] at H
      refine g_d rfl ?_
      try dsimp only [Qae,Qaf]
      refine Qac (Qal rfl (Qad (Qag [0,1] rfl ?_)))
      refine Qaa (v:=int .i64 r14.2) rfl rfl rfl (g_d rfl ?_)
      refine Qas (B:=r14.2 !=6) rfl rfl rfl ?_ ?_
      ·
       intro hb
       rw [if_neg (b_bne_t hb)] at H
       refine g_d rfl ?_
       try dsimp only [Qae,Qaf]
       refine Qac (Qai rfl (Qad (Qag [0] rfl ?_)))
       refine Qaa (v:=bool false) rfl rfl rfl (g_d rfl (Qac ?_))
       refine Qaq Tryz.func3 (v:=bool false) (res1 rfl rfl) ?_
       have hs:St _ [] _:=St.take (Γ':=[_,_,_,_,_,_]) hs
       exact ⟨_,rfl,_,H,rfl,hs⟩
      intro hb
      rw [if_pos (b_bne_f hb)] at H
      refine g_d rfl (Qac (Qal rfl (Qay ?_)))
      have hs:=hs.pull 5 rfl
      have hs:St _ [_] _:=St.take (Γ':=[_,_,_,_,_]) hs
      exact ha _ _ ⟨H,rfl,hs⟩
     |false=>
      rw [if_neg Bool.false_ne_true] at H
      refine g_d rfl ?_
      try dsimp only [Qae,Qaf]
      refine Qaa (v:=bool true) rfl rfl rfl (g_d rfl ?_)
      refine Qaa (v:=bool true) rfl rfl rfl (g_d rfl ?_)
      try dsimp only [Qae,Qaf]
      refine Qac (Qai rfl (Qad (Qag [0] rfl ?_)))
      refine Qaa (v:=bool false) rfl rfl rfl (g_d rfl (Qac ?_))
      refine Qaq Tryz.func3 (v:=bool false) (res1 rfl rfl) ?_
      have hs:St _ [] _:=St.take (Γ':=[_,_,_,_,_,_]) hs
      exact ⟨_,rfl,_,H,rfl,hs⟩
end Go.Proofs.YtmineidejeacnaaGreatDoorX
