import Derived.Test.YtmineidejeacnaaGreatDoorP8
namespace Go.Proofs.YtmineidejeacnaaGreatDoorX
open Go Go.RowKit Go.Proofs
open Go.Value (int pointer bool agg slice string tuple)
set_option maxHeartbeats 8000000
set_option maxRecDepth 100000
set_option linter.unusedVariables false
set_option linter.unusedSimpArgs false
def Qa8.post (w0:World) (r:(List (Int×Qah))) (v:Value) (w:World):Prop:=∃ b1:Nat,∃ b2:Nat,v=Value.func (Fn.func 62) #[] #[pointer (some ⟨b1,0,none⟩)]∧St w0 [Cells b1 ([Value.map (some b2)]) 66,MapAs b2 (int .i64) QaJ r] w
theorem Qa8.calls {N:Nat} {a1:(List Int)} {a3:Bool} {v2:Value} {w0:World} {Q:(List (Int×Qah))→Prop} (hr0:RdRow (K.int .i16) w0 v2 a1) (H:Qa8.f N a1 a3 Q):
 Calls Tryz.prog 39 #[v2,bool a3] w0 fun e w=>∃ v,e= .returned v∧∃ r,Q r∧Qa8.post w0 r v w:=by
 unfold Qa8.f at H
 have hs:St w0 [] w0:=St.refl w0
 refine calls_of_g (n:=10) Tryz.func39 rfl rfl ?_
 show G _ _ _ _ [_,_,_,_,_,_,_,_,_,_,_,_] _
 refine Qad (Qag [0] rfl ?_)
 refine Qaa (v:=Value.nilFunc) rfl rfl rfl ?_
 show G _ _ _ _ [_,_,_,_,_,_,_,_,_,_,_,_] _
 refine Qac (Qad (Qag [0,1,2,3,4,5,6] rfl ?_))
 refine Qaa (v:=v2) rfl rfl rfl ?_
 refine Qaa (v:=bool a3) rfl rfl rfl ?_
 refine Qaw (args:=[v2,bool a3]) rfl rfl (Qax rfl (callFunc_enter Tryz.func33 rfl rfl) rfl) (Qak.calls (a1:=a1) (a3:=a3) (hs.rd hr0) H) ?_
 rintro v5 w ⟨r4,H,_,mm6,rfl,hs2⟩
 try dsimp only at H
 have hs:St _ [_] _:=hs.call hs2
 show G _ _ _ _ [_,_,_,_,_,_,_,_,_,_,_,_] _
 obtain ⟨g1,H⟩:=ite_getD H
 refine Qa6 fkHM none (hs.r2row 0 rfl) rfl (fun _=>rfl) g1.1 (hs.r2lt 0 rfl g1.2) rfl rfl rfl rfl rfl ?_
 intro p8 hp8 lp8 op8
 refine QaA rfl rfl (v:=Value.map (rdL mm6 0 none)) rfl rfl (fun _=>rfl) hp8 ?_
 refine QbN hs rfl rfl (z:=(Value.map none)) (cs:=[Value.map none]) rfl (fun _=>rfl) rfl ?_
 intro b9 w hs
 show G _ _ _ _ [_,_,_,_,_,_,_,_,_,_,_,_] _
 obtain ⟨g2,H⟩:=ite_getD H
 obtain ⟨b11,eb11⟩:=hs.r2some 1 rfl g1.1 g1.2 g2
 have hs:St _ [_,_] _:=hs.pull 1 rfl
 have hs:=hs.r2pickM g1.1 g1.2 eb11 (some_getD g2)
 have hs:St _ [_,_] _:=hs
 have hs:St _ [_,_] _:=hs.pull 1 rfl
 refine QbK (n:=1) hs rfl rfl rfl (vs:=[Value.map (some b11)]) rfl rfl (congrArg Value.cells (congrArg Value.map eb11)) (fun _=>rfl) rfl (by simp [Value.oneCell']) ?_
 intro w hs
 refine Qac (Qad (Qag [0,1] rfl ?_))
 refine Qaa (v:=Value.func (Fn.func 62) #[] #[pointer (some ⟨b9,0,none⟩)]) rfl rfl (Qcq rfl rfl) ?_
 refine Qaa (v:=Value.func (Fn.func 62) #[] #[pointer (some ⟨b9,0,none⟩)]) rfl rfl rfl (Qac ?_)
 refine Qaq Tryz.func39 (v:=Value.func (Fn.func 62) #[] #[pointer (some ⟨b9,0,none⟩)]) (res1 rfl rfl) ?_
 have hs:=hs.pull 1 rfl
 have hs:=hs.pull 1 rfl
 have hs:St _ [_,_] _:=St.take (Γ':=[]) hs
 exact ⟨_,rfl,_,H,b9,b11,rfl,hs⟩
def Qa4.post (wb:World) (Z:As) (b4:Nat) (b3:Nat) (b4:Nat) (r:(Bool×(List (Int×Qah))×(List (Int×Qah)))) (v:Value) (w:World):Prop:=v=bool r.1∧St wb [MapAs b4 (int .i64) QaJ r.2.1,Cells b3 ([Value.map (some b4)]) 66,Z] w
theorem Qa4.calls {N:Nat} {a1:Int} {a2:(List (Int×Qah))} {b3:Nat} {b4:Nat} {wb:World} {Z:As} {w0:World} {r:(Bool×(List (Int×Qah))×(List (Int×Qah)))} (hs:St wb [MapAs b4 (int .i64) QaJ a2,Cells b3 ([Value.map (some b4)]) 66,Z] w0) (H:Qa4.f N a1 a2=some r):
 Calls Tryz.prog 62 #[int .i64 a1,pointer (some ⟨b3,0,none⟩)] w0 fun e w=>∃ v,e= .returned v∧Qa4.post wb Z b4 b3 b4 r v w:=by
 unfold Qa4.f at H
 refine calls_of_g (n:=11) Tryz.func62 rfl rfl ?_
 show G _ _ _ _ [_,_,_,_,_,_,_,_,_,_,_,_,_] _
 refine Qad (Qag [0] rfl ?_)
 refine Qaa (v:=bool false) rfl rfl rfl (Qac (Qad (Qag [0,1,2,3,4,5,6,7,8] rfl ?_)))
 refine QaA rfl rfl (v:=Value.map (some b4)) rfl rfl (fun _=>rfl) (cells_load (hs.cells 1 rfl) 0 1 rfl) ?_
 show G _ _ _ _ [_,_,_,_,_,_,_,_,_,_,_,_,_] _
 refine Qaa (v:=int .i64 a1) rfl rfl rfl ?_
 refine Qaa (v:=tuple #[agg (Qap (mGet a2 a1 Qan)).toArray,bool (mIdx a2 a1).isSome]) rfl rfl (Qb2 (keyInt Tryz.underlying2) (a:=a1) (z:=Qan) (hs.mp 0 rfl) rfl Tryz.underlying66 rfl rfl (fun _=>rfl)) ?_
 refine Qaa (v:=tuple #[agg (Qap (mGet a2 a1 Qan)).toArray,bool (mIdx a2 a1).isSome]) rfl rfl rfl ?_
 show G _ _ _ _ [_,_,_,_,_,_,_,_,_,_,_,_,_] _
 refine Qaa (v:=agg (Qap (mGet a2 a1 Qan)).toArray) rfl rfl rfl ?_
 refine Qaa (v:=bool (mIdx a2 a1).isSome) rfl rfl rfl ?_
 refine QbN hs rfl rfl (z:=(agg #[int .i64 0,int .i64 0])) (cs:=(Qap Qan)) rfl (fun _=>rfl) rfl ?_
 intro b7 w hs
 show G _ _ _ _ [_,_,_,_,_,_,_,_,_,_,_,_,_] _
 refine QbK (n:=2) hs (Qa2.len _) rfl rfl (vs:=(Qap (mGet a2 a1 Qan))) rfl rfl rfl (fun _=>rfl) (Qa2.len _) (Qa2.one _) ?_
 intro w hs
 refine Qaa (v:=bool (mIdx a2 a1).isSome) rfl rfl rfl (Qac (Qad (Qag [0,1] rfl ?_)))
 refine Qaa (v:=bool (mIdx a2 a1).isSome) rfl rfl rfl ?_
 refine Qaa (v:=bool (mIdx a2 a1).isSome) rfl rfl rfl ?_
 show G _ _ _ _ [_,_,_,_,_,_,_,_,_,_,_,_,_] _
 refine Qac ?_
 obtain rfl:=QsJ H
 refine Qaq Tryz.func62 (v:=bool (mIdx a2 a1).isSome) (res1 rfl rfl) ?_
 have hs:=hs.pull 3 rfl
 have hs:=hs.pull 3 rfl
 have hs:=hs.pull 3 rfl
 have hs:St _ [_,_,_] _:=St.take (Γ':=[_]) hs
 exact ⟨_,rfl,rfl,hs⟩
def Qbu.post (w0:World) (r:(Bool×Int)) (v:Value) (w:World):Prop:=v=tuple #[bool r.1,int .i64 r.2]∧St w0 [] w
theorem Qbu.calls {N:Nat} {a1:(List Int)} {a3:Int} {a4:Bool} {v2:Value} {w0:World} {Q:(Bool×Int)→Prop} (hr0:RdRow (K.int .i16) w0 v2 a1) (H:Qbu.f N a1 a3 a4 Q):
 Calls Tryz.prog 10 #[v2,int .i64 a3,bool a4] w0 fun e w=>∃ v,e= .returned v∧∃ r,Q r∧Qbu.post w0 r v w:=by
 unfold Qbu.f at H
 have hs:St w0 [] w0:=St.refl w0
 refine calls_of_g (n:=17) Tryz.func10 rfl rfl ?_
 show G _ _ _ _ [_,_,_,_,_,_,_,_,_,_,_,_,_,_,_,_,_,_,_,_] _
 refine Qad (Qag [0,1] rfl ?_)
 refine Qaa (v:=bool false) rfl rfl rfl ?_
 refine Qaa (v:=int .i64 0) rfl rfl rfl (Qac (Qad (Qad (Qag [0,1,2,3] rfl ?_))))
 refine Qaa (v:=v2) rfl rfl rfl ?_
 show G _ _ _ _ [_,_,_,_,_,_,_,_,_,_,_,_,_,_,_,_,_,_,_,_] _
 refine Qaa (v:=int .i64 a3) rfl rfl rfl ?_
 obtain ⟨r5,Hr5,H⟩:=H
 refine Qaw (args:=[v2,int .i64 a3]) rfl rfl (Qax rfl (callFunc_enter Tryz.func32 rfl rfl) rfl) (Qbd.calls (a1:=a1) (a3:=a3) (hs.rd hr0) Hr5) ?_
 rintro _ w ⟨rfl,hs2⟩
 have hs:St _ [] _:=hs.call hs2
 refine Qaa (v:=int .i64 r5) rfl rfl rfl ?_
 show G _ _ _ _ [_,_,_,_,_,_,_,_,_,_,_,_,_,_,_,_,_,_,_,_] _
 refine Qac (Qad (Qag [0,1] rfl ?_))
 refine Qaa (v:=int .i64 r5) rfl rfl rfl ?_
 refine Qas (B:=r5 !=0) rfl rfl rfl ?_ ?_
 ·
  intro hb
  rw [if_neg (b_bne_t hb)] at H
  refine Qac (Qai rfl (Qad (Qag [0,1,2] rfl ?_)))
  refine Qaa (v:=int .i64 r5) rfl rfl rfl ?_
  show G _ _ _ _ [_,_,_,_,_,_,_,_,_,_,_,_,_,_,_,_,_,_,_,_] _
  refine Qaa (v:=bool false) rfl rfl rfl ?_
  refine Qaa (v:=int .i64 r5) rfl rfl rfl (Qac ?_)
  refine Qaq Tryz.func10 (v:=tuple #[bool false,int .i64 r5]) (resN (l:=Tryz.f10.results.toList) (vs:=[bool false,int .i64 r5]) rfl ⟨rfl,rfl,trivial⟩ (by simp)) ?_
  have hs:St _ [] _:=St.take (Γ':=[]) hs
  exact ⟨_,rfl,_,H,rfl,hs⟩
 intro hb
 rw [if_pos (b_bne_f hb)] at H
 refine Qac (Qal rfl (Qay (Qad (Qag [0,1,2,3,4,5,6] rfl ?_))))
 refine Qaa (v:=v2) rfl rfl rfl ?_
 show G _ _ _ _ [_,_,_,_,_,_,_,_,_,_,_,_,_,_,_,_,_,_,_,_] _
 refine Qaa (v:=bool a4) rfl rfl rfl ?_
 refine Qaw (args:=[v2,bool a4]) rfl rfl (Qax rfl (callFunc_enter Tryz.func39 rfl rfl) rfl) (Qa8.calls (a1:=a1) (a3:=a4) (hs.rd hr0) H) ?_
 rintro _ w ⟨r6,H,b7,b8,rfl,hs2⟩
 try dsimp only at H
 have hs:St _ [_,_] _:=hs.call hs2
 refine Qaa (v:=int .i64 a3) rfl rfl rfl ?_
 show G _ _ _ _ [_,_,_,_,_,_,_,_,_,_,_,_,_,_,_,_,_,_,_,_] _
 obtain ⟨r11,Hr11,H⟩:=H
 have hs:=hs.pull 0 rfl
 have hs:St _ [_,_] _:=hs.pull 1 rfl
 have hs:=hs.pack 2
 refine Qaw (args:=[int .i64 a3,pointer (some ⟨b7,0,none⟩)]) rfl rfl (Qb4 rfl (callFunc_enter Tryz.func62 rfl rfl) rfl rfl) (Qa4.calls (a1:=a3) (a2:=r6) hs Hr11) ?_
 rintro _ w ⟨rfl,hs⟩
 have hs:=St.unpack (Γ:=[_,_]) hs
 have hs:St _ [_,_] _:=hs
 refine Qaa (v:=bool r11.1) rfl rfl rfl ?_
 refine Qaa (v:=int .i64 0) rfl rfl rfl ?_
 show G _ _ _ _ [_,_,_,_,_,_,_,_,_,_,_,_,_,_,_,_,_,_,_,_] _
 refine Qac ?_
 refine Qaq Tryz.func10 (v:=tuple #[bool r11.1,int .i64 0]) (resN (l:=Tryz.f10.results.toList) (vs:=[bool r11.1,int .i64 0]) rfl ⟨rfl,rfl,trivial⟩ (by simp)) ?_
 have hs:St _ [] _:=St.take (Γ':=[_,_]) hs
 exact ⟨_,rfl,_,H,rfl,hs⟩
def Qbm.post (w0:World) (r:(Int×Int)) (v:Value) (w:World):Prop:=v=tuple #[int .i64 r.1,int .i64 r.2]∧St w0 [] w
theorem Qbm.calls {N:Nat} {a1:(List Int)} {a3:Int} {a4:Bool} {v2:Value} {w0:World} {Q:(Int×Int)→Prop} (hr0:RdRow (K.int .i16) w0 v2 a1) (H:Qbm.f N a1 a3 a4 Q):
 Calls Tryz.prog 11 #[v2,int .i64 a3,bool a4] w0 fun e w=>∃ v,e= .returned v∧∃ r,Q r∧Qbm.post w0 r v w:=by
 unfold Qbm.f at H
 have hs:St w0 [] w0:=St.refl w0
 refine calls_of_g (n:=20) Tryz.func11 rfl rfl ?_
 show G _ _ _ _ [_,_,_,_,_,_,_,_,_,_,_,_,_,_,_,_,_,_,_,_,_,_,_] _
 refine Qad (Qag [0,1] rfl ?_)
 refine Qaa (v:=int .i64 0) rfl rfl rfl ?_
 refine Qaa (v:=int .i64 0) rfl rfl rfl (Qac (Qad (Qad (Qag [0,1,2,3] rfl ?_))))
 refine Qaa (v:=v2) rfl rfl rfl ?_
 show G _ _ _ _ [_,_,_,_,_,_,_,_,_,_,_,_,_,_,_,_,_,_,_,_,_,_,_] _
 refine Qaa (v:=int .i64 a3) rfl rfl rfl ?_
 obtain ⟨r5,Hr5,H⟩:=H
 refine Qaw (args:=[v2,int .i64 a3]) rfl rfl (Qax rfl (callFunc_enter Tryz.func32 rfl rfl) rfl) (Qbd.calls (a1:=a1) (a3:=a3) (hs.rd hr0) Hr5) ?_
 rintro _ w ⟨rfl,hs2⟩
 have hs:St _ [] _:=hs.call hs2
 refine Qaa (v:=int .i64 r5) rfl rfl rfl ?_
 show G _ _ _ _ [_,_,_,_,_,_,_,_,_,_,_,_,_,_,_,_,_,_,_,_,_,_,_] _
 refine Qac (Qad (Qag [0,1] rfl ?_))
 refine Qaa (v:=int .i64 r5) rfl rfl rfl ?_
 refine Qas (B:=r5 !=0) rfl rfl rfl ?_ ?_
 ·
  intro hb
  rw [if_neg (b_bne_t hb)] at H
  refine Qac (Qai rfl (Qad (Qag [0,1,2] rfl ?_)))
  refine Qaa (v:=int .i64 r5) rfl rfl rfl ?_
  show G _ _ _ _ [_,_,_,_,_,_,_,_,_,_,_,_,_,_,_,_,_,_,_,_,_,_,_] _
  refine Qaa (v:=int .i64 0) rfl rfl rfl ?_
  refine Qaa (v:=int .i64 r5) rfl rfl rfl (Qac ?_)
  refine Qaq Tryz.func11 (v:=tuple #[int .i64 0,int .i64 r5]) (resN (l:=Tryz.f11.results.toList) (vs:=[int .i64 0,int .i64 r5]) rfl ⟨rfl,rfl,trivial⟩ (by simp)) ?_
  have hs:St _ [] _:=St.take (Γ':=[]) hs
  exact ⟨_,rfl,_,H,rfl,hs⟩
 intro hb
 rw [if_pos (b_bne_f hb)] at H
 refine Qac (Qal rfl (Qay (Qad (Qag [0,1,2,3,4,5,6,7,8,9] rfl ?_))))
 refine Qaa (v:=v2) rfl rfl rfl ?_
 show G _ _ _ _ [_,_,_,_,_,_,_,_,_,_,_,_,_,_,_,_,_,_,_,_,_,_,_] _
 refine Qaa (v:=bool a4) rfl rfl rfl ?_
 refine Qaw (args:=[v2,bool a4]) rfl rfl (Qax rfl (callFunc_enter Tryz.func33 rfl rfl) rfl) (Qak.calls (a1:=a1) (a3:=a4) (hs.rd hr0) H) ?_
 rintro v7 w ⟨r6,H,_,mm8,rfl,hs2⟩
 try dsimp only at H
 have hs:St _ [_] _:=hs.call hs2
 obtain ⟨g1,H⟩:=ite_getD H
 refine Qa6 fkHM none (hs.r2row 0 rfl) rfl (fun _=>rfl) g1.1 (hs.r2lt 0 rfl g1.2) rfl rfl rfl rfl rfl ?_
 intro p10 hp10 lp10 op10
 show G _ _ _ _ [_,_,_,_,_,_,_,_,_,_,_,_,_,_,_,_,_,_,_,_,_,_,_] _
 refine QaA rfl rfl (v:=Value.map (rdL mm8 0 none)) rfl rfl (fun _=>rfl) hp10 ?_
 refine Qaa (v:=int .i64 a3) rfl rfl rfl ?_
 refine Qaa (v:=agg (Qap (mGet ((rdL r6 0 none).getD []) a3 Qan)).toArray) rfl rfl (Qck (keyInt Tryz.underlying2) (a:=a3) (z:=Qan) (hs.r2mp 0 rfl g1.1 g1.2) rfl Tryz.underlying66 rfl rfl (fun _=>rfl)) ?_
 show G _ _ _ _ [_,_,_,_,_,_,_,_,_,_,_,_,_,_,_,_,_,_,_,_,_,_,_] _
 refine Qaa (v:=int .i64 ((mGet ((rdL r6 0 none).getD []) a3 Qan).QaO)) rfl rfl rfl ?_
 refine Qaa (v:=int .i64 ((mGet ((rdL r6 0 none).getD []) a3 Qan).QaO)) rfl rfl rfl ?_
 refine Qaa (v:=int .i64 0) rfl rfl rfl ?_
 show G _ _ _ _ [_,_,_,_,_,_,_,_,_,_,_,_,_,_,_,_,_,_,_,_,_,_,_] _
 refine Qac ?_
 refine Qaq Tryz.func11 (v:=tuple #[int .i64 ((mGet ((rdL r6 0 none).getD []) a3 Qan).QaO),int .i64 0]) (resN (l:=Tryz.f11.results.toList) (vs:=[int .i64 ((mGet ((rdL r6 0 none).getD []) a3 Qan).QaO),int .i64 0]) rfl ⟨rfl,rfl,trivial⟩ (by simp)) ?_
 have hs:St _ [] _:=St.take (Γ':=[_]) hs
 exact ⟨_,rfl,_,H,rfl,hs⟩
def Qbf.post (w0:World) (r:Bool) (v:Value) (w:World):Prop:=v=bool r∧St w0 [] w
theorem Qbf.calls {N:Nat} {a1:Int} {w0:World} {r:Bool} (H:Qbf.f N a1=some r):
 Calls Tryz.prog 53 #[int .i8 a1] w0 fun e w=>∃ v,e= .returned v∧Qbf.post w0 r v w:=by
 unfold Qbf.f at H
 have hs:St w0 [] w0:=St.refl w0
 refine calls_of_g (n:=8) Tryz.func53 rfl rfl ?_
 show G _ _ _ _ [_,_,_,_,_,_,_,_,_] _
 refine Qad (Qag [0] rfl ?_)
 refine Qaa (v:=bool false) rfl rfl rfl (Qac (Qad (Qag [0,1,2,3,4,5,6] rfl ?_)))
 refine Qaa (v:=int .i8 a1) rfl rfl rfl ?_
 show G _ _ _ _ [_,_,_,_,_,_,_,_,_] _
 refine Qas (B:=decide (a1< (-1))) rfl rfl rfl ?_ ?_
 ·
  intro hb
  rw [if_pos (b_dec_t hb)] at H
  refine Qaa (v:=bool true) rfl rfl rfl (Qab rfl rfl ?_)
  show G _ _ _ _ [_,_,_,_,_,_,_,_,_] _
  refine Qab rfl rfl ?_
  refine Qaa (v:=bool true) rfl rfl rfl ?_
  refine Qaa (v:=bool true) rfl rfl rfl ?_
  show G _ _ _ _ [_,_,_,_,_,_,_,_,_] _
  refine Qac ?_
  obtain rfl:=QsJ H
  refine Qaq Tryz.func53 (v:=bool true) (res1 rfl rfl) ?_
  have hs:St _ [] _:=St.take (Γ':=[]) hs
  exact ⟨_,rfl,rfl,hs⟩
 intro hb
 rw [if_neg (b_dec_f hb)] at H
 refine Qaa (v:=bool false) rfl rfl rfl ?_
 refine Qaa (v:=int .i8 a1) rfl rfl rfl ?_
 show G _ _ _ _ [_,_,_,_,_,_,_,_,_] _
 refine Qaa (v:=bool (decide (a1>1))) rfl rfl rfl ?_
 refine Qaa (v:=bool (decide (a1>1))) rfl rfl rfl ?_
 refine Qaa (v:=bool (decide (a1>1))) rfl rfl rfl ?_
 show G _ _ _ _ [_,_,_,_,_,_,_,_,_] _
 refine Qac ?_
 obtain rfl:=QsJ H
 refine Qaq Tryz.func53 (v:=bool (decide (a1>1))) (res1 rfl rfl) ?_
 have hs:St _ [] _:=St.take (Γ':=[]) hs
 exact ⟨_,rfl,rfl,hs⟩
def Qam.post (w0:World) (r:Int) (v:Value) (w:World):Prop:=v=int .i64 r∧St w0 [] w
theorem Qam.calls {N:Nat} {a1:(List Int)} {v2:Value} {w0:World} {r:Int} (hr0:RdRow (K.int .i8) w0 v2 a1) (H:Qam.f N a1=some r):
 Calls Tryz.prog 71 #[v2,Value.func (Fn.func 53) #[] #[]] w0 fun e w=>∃ v,e= .returned v∧Qam.post w0 r v w:=by
 unfold Qam.f at H
 have hs:St w0 [] w0:=St.refl w0
 refine calls_of_g (n:=17) Tryz.func71 rfl rfl ?_
 show G _ _ _ _ [_,_,_,_,_,_,_,_,_,_,_,_,_,_,_,_,_,_,_] _
 refine Qad (Qag [0] rfl ?_)
 refine Qaa (v:=int .i64 0) rfl rfl rfl (Qac (Qad (Qad (Qag [0,1,2] rfl ?_))))
 refine Qaa (v:=v2) rfl rfl rfl ?_
 show G _ _ _ _ [_,_,_,_,_,_,_,_,_,_,_,_,_,_,_,_,_,_,_] _
 refine Qba (hs.rd hr0) rfl rfl rfl rfl rfl ?_
 refine Qaa (v:=int .i64 0) rfl rfl rfl (Qac ?_)
 obtain ⟨o1_,Ho,Hr1_⟩:=bind_get H
 refine QaC (J:=fun t w=>Qam.a0 N=some r∧Fr t (fun O=>([O 0,O 1,O 2,O 3,O 4,O 5,O 6,O 7,O 8,O 9,O 10,O 11,O 12,O 13,O 14,O 15,O 16,O 17,O 18]:List Value))∧St w0 [] w) ?_ ?_
 ·
  rintro t w ⟨H,hf,hs⟩
  obtain ⟨O,rfl⟩:=hf.open
  show G _ _ _ _ [_,_,_,_,_,_,_,_,_,_,_,_,_,_,_,_,_,_,_] _
  unfold Qam.a0 at H
  refine Qad (Qag [0] rfl ?_)
  refine Qaa (v:=int .i64 (-1)) rfl rfl rfl ?_
  show G _ _ _ _ [_,_,_,_,_,_,_,_,_,_,_,_,_,_,_,_,_,_,_] _
  refine Qac ?_
  obtain rfl:=QsJ H
  refine Qaq Tryz.func71 (v:=int .i64 (-1)) (res1 rfl rfl) ?_
  have hs:St _ [] _:=St.take (Γ':=[]) hs
  exact ⟨_,rfl,rfl,hs⟩
 intro ha1_
 have hs:St _ [] _:=St.take (Γ':=[]) hs
 refine QaP (I:=fun n_ t w=>∃ x3:Int,rounds (fun s=>Qam.b0 N a1 s) n_ x3=some o1_∧Fr t (fun O=>([v2,Value.func (Fn.func 53) #[] #[],O 2,O 3,O 4,O 5,O 6,int .i64 (a1.length:Int),int .i64 x3,O 9,O 10,O 11,O 12,O 13,O 14,O 15,O 16,O 17,O 18]:List Value))∧St w0 [] w) N ⟨0,Ho,rfl,hs⟩ ?_ ?_
 ·
  rintro _ _ ⟨x3,h,_⟩
  exact rounds_zero h
 intro n_ ih1_
 rintro t w ⟨x3,Ho,hf,hs⟩
 obtain ⟨O,rfl⟩:=hf.open
 show G _ _ _ _ [_,_,_,_,_,_,_,_,_,_,_,_,_,_,_,_,_,_,_] _
 obtain ⟨x2_,H,Hx1_⟩:=rounds_succ Ho
 have H:Qam.b0 N a1 x3=some x2_:=H
 unfold Qam.b0 at H
 refine Qad (Qag [0] rfl ?_)
 refine Qas (B:=decide (x3< (a1.length:Int))) rfl rfl rfl ?_ ?_
 ·
  intro hb
  rw [if_pos (b_dec_t hb)] at H
  refine Qac (Qad (Qai rfl (Qay (Qad ?_))))
  refine Qbe (Qad (Qag [0,1] rfl ?_))
  refine Qaa (v:=int .i64 x3) rfl rfl rfl ?_
  refine Qaa (v:=int .i64 x3) rfl rfl rfl ?_
  show G _ _ _ _ [_,_,_,_,_,_,_,_,_,_,_,_,_,_,_,_,_,_,_] _
  refine Qac (Qad (Qag [0,1,2,3,4,5] rfl ?_))
  refine Qaa (v:=Value.func (Fn.func 53) #[] #[]) rfl rfl rfl ?_
  refine Qaa (v:=v2) rfl rfl rfl ?_
  refine Qaa (v:=int .i64 x3) rfl rfl rfl ?_
  show G _ _ _ _ [_,_,_,_,_,_,_,_,_,_,_,_,_,_,_,_,_,_,_] _
  obtain ⟨g1,H⟩:=ite_get H
  refine Qa6 (fkI .i8) 0 (hs.rd hr0) rfl (fun _=>rfl) g1.1 g1.2 rfl rfl rfl rfl rfl ?_
  intro p4 hp4 lp4 op4
  refine QaA rfl rfl (v:=int .i8 (rdL a1 x3 0)) rfl rfl (fun _=>rfl) hp4 ?_
  obtain ⟨r5,Hr5,H⟩:=bind_get H
  refine Qaw (args:=[int .i8 (rdL a1 x3 0)]) rfl rfl (Qcy rfl (callFunc_enter Tryz.func53 rfl rfl) rfl rfl) (Qbf.calls (a1:=rdL a1 x3 0) Hr5) ?_
  rintro _ w ⟨rfl,hs2⟩
  have hs:St _ [] _:=hs.call hs2
  cases r5 with
  |true=>
   rw [if_pos rfl] at H
   show G _ _ _ _ [_,_,_,_,_,_,_,_,_,_,_,_,_,_,_,_,_,_,_] _
   refine Qac (Qai rfl (Qad (Qag [0,1] rfl ?_)))
   refine Qaa (v:=int .i64 x3) rfl rfl rfl ?_
   refine Qaa (v:=int .i64 x3) rfl rfl rfl (Qac ?_)
   obtain rfl:=QsJ H
   subst Hx1_
   have H:=QsJ Hr1_
   subst H
   refine Qaq Tryz.func71 (v:=int .i64 x3) (res1 rfl rfl) ?_
   have hs:St _ [] _:=St.take (Γ':=[]) hs
   exact ⟨_,rfl,rfl,hs⟩
  |false=>
   rw [if_neg Bool.false_ne_true] at H
   show G _ _ _ _ [_,_,_,_,_,_,_,_,_,_,_,_,_,_,_,_,_,_,_] _
   refine Qac (Qal rfl (Qay ?_))
   refine QaH (Qag [0,1] rfl ?_)
   refine Qaa (v:=int .i64 (i64w (x3+1))) rfl rfl rfl ?_
   refine Qaa (v:=int .i64 (i64w (x3+1))) rfl rfl rfl (Qac ?_)
   obtain rfl:=QsJ H
   have hs:St _ [] _:=St.take (Γ':=[]) hs
   exact ih1_ _ _ ⟨i64w (x3+1),Hx1_,rfl,hs⟩
 intro hb
 rw [if_neg (b_dec_f hb)] at H
 show G _ _ _ _ [_,_,_,_,_,_,_,_,_,_,_,_,_,_,_,_,_,_,_] _
 refine Qac (Qad (Qal rfl ?_))
 obtain rfl:=QsJ H
 subst Hx1_
 have hs:St _ [] _:=St.take (Γ':=[]) hs
 refine Qbc rfl ?_
 exact ha1_ _ _ ⟨Hr1_,rfl,hs⟩
def QaB.post (w0:World) (r:Bool) (v:Value) (w:World):Prop:=v=bool r∧St w0 [] w
theorem QaB.calls {N:Nat} {a1:(List Int)} {v2:Value} {w0:World} {r:Bool} (hr0:RdRow (K.int .i8) w0 v2 a1) (H:QaB.f N a1=some r):
 Calls Tryz.prog 52 #[v2,Value.func (Fn.func 53) #[] #[]] w0 fun e w=>∃ v,e= .returned v∧QaB.post w0 r v w:=by
 unfold QaB.f at H
 have hs:St w0 [] w0:=St.refl w0
 refine calls_of_g (n:=7) Tryz.func52 rfl rfl ?_
 show G _ _ _ _ [_,_,_,_,_,_,_,_,_] _
 refine Qad (Qag [0] rfl ?_)
 refine Qaa (v:=bool false) rfl rfl rfl ?_
 show G _ _ _ _ [_,_,_,_,_,_,_,_,_] _
 refine Qac (Qad (Qag [0,1,2,3,4] rfl ?_))
 refine Qaa (v:=v2) rfl rfl rfl ?_
 refine Qaa (v:=Value.func (Fn.func 53) #[] #[]) rfl rfl rfl ?_
 obtain ⟨r3,Hr3,H⟩:=bind_get H
 refine Qaw (args:=[v2,Value.func (Fn.func 53) #[] #[]]) rfl rfl (Qax rfl (callFunc_enter Tryz.func71 rfl rfl) rfl) (Qam.calls (a1:=a1) (hs.rd hr0) Hr3) ?_
 rintro _ w ⟨rfl,hs2⟩
 have hs:St _ [] _:=hs.call hs2
 show G _ _ _ _ [_,_,_,_,_,_,_,_,_] _
 refine Qaa (v:=bool (decide (r3≥0))) rfl rfl rfl ?_
 refine Qaa (v:=bool (decide (r3≥0))) rfl rfl rfl (Qac ?_)
 obtain rfl:=QsJ H
 refine Qaq Tryz.func52 (v:=bool (decide (r3≥0))) (res1 rfl rfl) ?_
 have hs:St _ [] _:=St.take (Γ':=[]) hs
 exact ⟨_,rfl,rfl,hs⟩
def Qa3.post (w0:World) (r:Bool) (v:Value) (w:World):Prop:=v=bool r∧St w0 [] w
theorem Qa3.calls {N:Nat} {a1:(List Int)} {a3:(List Int)} {v2:Value} {v4:Value} {w0:World} {r:Bool} (hr0:RdRow (K.int .i16) w0 v2 a1) (hr1:RdRow (K.int .i8) w0 v4 a3) (H:Qa3.f N a1 a3=some r):
 Calls Tryz.prog 22 #[v2,v4] w0 fun e w=>∃ v,e= .returned v∧Qa3.post w0 r v w:=by
 unfold Qa3.f at H
 have hs:St w0 [] w0:=St.refl w0
 refine calls_of_g (n:=17) Tryz.func22 rfl rfl ?_
 show G _ _ _ _ [_,_,_,_,_,_,_,_,_,_,_,_,_,_,_,_,_,_,_] _
 refine Qad (Qag [0] rfl ?_)
 refine Qaa (v:=bool false) rfl rfl rfl (Qac (Qad (Qag [0,1,2,3,4,5,6,7,8,9,10,11,12,13,14] rfl ?_)))
 refine Qaa (v:=v2) rfl rfl rfl ?_
 obtain ⟨r5,Hr5,H⟩:=bind_get H
 refine Qaw (args:=[v2]) rfl rfl (Qax rfl (callFunc_enter Tryz.func21 rfl rfl) rfl) (QaE.calls (a1:=a1) (hs.rd hr0) Hr5) ?_
 rintro _ w ⟨rfl,hs2⟩
 have hs:St _ [] _:=hs.call hs2
 cases r5 with
 |true=>
  rw [if_pos rfl] at H
  refine Qaa (v:=bool true) rfl rfl rfl ?_
  show G _ _ _ _ [_,_,_,_,_,_,_,_,_,_,_,_,_,_,_,_,_,_,_] _
  refine Qaa (v:=v4) rfl rfl rfl ?_
  refine Qba (hs.rd hr1) rfl rfl rfl rfl rfl ?_
  refine Qaa (v:=v2) rfl rfl rfl ?_
  show G _ _ _ _ [_,_,_,_,_,_,_,_,_,_,_,_,_,_,_,_,_,_,_] _
  refine Qba (hs.rd hr0) rfl rfl rfl rfl rfl ?_
  refine Qaa (v:=bool ((a3.length:Int)==(a1.length:Int))) rfl rfl rfl ?_
  refine Qas (B:=(a3.length:Int)==(a1.length:Int)) rfl rfl rfl ?_ ?_
  ·
   intro hb
   rw [if_pos (b_beq_t hb)] at H
   refine Qaa (v:=bool true) rfl rfl rfl ?_
   refine Qaa (v:=v4) rfl rfl rfl ?_
   show G _ _ _ _ [_,_,_,_,_,_,_,_,_,_,_,_,_,_,_,_,_,_,_] _
   obtain ⟨r6,Hr6,H⟩:=bind_get H
   refine Qaw (args:=[v4,Value.func (Fn.func 53) #[] #[]]) rfl rfl (Qax rfl (callFunc_enter Tryz.func52 rfl rfl) rfl) (QaB.calls (a1:=a3) (hs.rd hr1) Hr6) ?_
   rintro _ w ⟨rfl,hs2⟩
   have hs:St _ [] _:=hs.call hs2
   refine Qaa (v:=bool (!r6)) rfl rfl rfl ?_
   refine Qaa (v:=bool (!r6)) rfl rfl rfl ?_
   show G _ _ _ _ [_,_,_,_,_,_,_,_,_,_,_,_,_,_,_,_,_,_,_] _
   refine Qaa (v:=bool (!r6)) rfl rfl rfl (Qac ?_)
   obtain rfl:=QsJ H
   refine Qaq Tryz.func22 (v:=bool (!r6)) (res1 rfl rfl) ?_
   have hs:St _ [] _:=St.take (Γ':=[]) hs
   exact ⟨_,rfl,rfl,hs⟩
  intro hb
  rw [if_neg (b_beq_f hb)] at H
  show G _ _ _ _ [_,_,_,_,_,_,_,_,_,_,_,_,_,_,_,_,_,_,_] _
  refine Qaa (v:=bool false) rfl rfl rfl (Qab rfl rfl (Qab rfl rfl ?_))
  show G _ _ _ _ [_,_,_,_,_,_,_,_,_,_,_,_,_,_,_,_,_,_,_] _
  refine Qab rfl rfl ?_
  refine Qaa (v:=bool false) rfl rfl rfl ?_
  refine Qaa (v:=bool false) rfl rfl rfl ?_
  show G _ _ _ _ [_,_,_,_,_,_,_,_,_,_,_,_,_,_,_,_,_,_,_] _
  refine Qac ?_
  obtain rfl:=QsJ H
  refine Qaq Tryz.func22 (v:=bool false) (res1 rfl rfl) ?_
  have hs:St _ [] _:=St.take (Γ':=[]) hs
  exact ⟨_,rfl,rfl,hs⟩
 |false=>
  rw [if_neg Bool.false_ne_true] at H
  show G _ _ _ _ [_,_,_,_,_,_,_,_,_,_,_,_,_,_,_,_,_,_,_] _
  refine Qaa (v:=bool false) rfl rfl rfl (Qab rfl rfl (Qab rfl rfl ?_))
  show G _ _ _ _ [_,_,_,_,_,_,_,_,_,_,_,_,_,_,_,_,_,_,_] _
  refine Qab rfl rfl (Qab rfl rfl (Qab rfl rfl ?_))
  show G _ _ _ _ [_,_,_,_,_,_,_,_,_,_,_,_,_,_,_,_,_,_,_] _
  refine Qaa (v:=bool false) rfl rfl rfl ?_
  refine Qaa (v:=bool false) rfl rfl rfl (Qab rfl rfl ?_)
  show G _ _ _ _ [_,_,_,_,_,_,_,_,_,_,_,_,_,_,_,_,_,_,_] _
  refine Qab rfl rfl (Qab rfl rfl ?_)
  refine Qaa (v:=bool false) rfl rfl rfl ?_
  show G _ _ _ _ [_,_,_,_,_,_,_,_,_,_,_,_,_,_,_,_,_,_,_] _
  refine Qaa (v:=bool false) rfl rfl rfl (Qac ?_)
  obtain rfl:=QsJ H
  refine Qaq Tryz.func22 (v:=bool false) (res1 rfl rfl) ?_
  have hs:St _ [] _:=St.take (Γ':=[]) hs
  exact ⟨_,rfl,rfl,hs⟩
def Qaz.post (w0:World) (r:(Int×Int)) (v:Value) (w:World):Prop:=v=tuple #[int .i64 r.1,int .i64 r.2]∧St w0 [] w
theorem Qaz.calls {N:Nat} {a1:(List Int)} {a3:(List Int)} {v2:Value} {v4:Value} {w0:World} {r:(Int×Int)} (hr0:RdRow (K.int .i16) w0 v2 a1) (hr1:RdRow (K.int .i8) w0 v4 a3) (H:Qaz.f N a1 a3=some r):
 Calls Tryz.prog 40 #[v2,v4] w0 fun e w=>∃ v,e= .returned v∧Qaz.post w0 r v w:=by
 unfold Qaz.f at H
 have hs:St w0 [] w0:=St.refl w0
 refine calls_of_g (n:=37) Tryz.func40 rfl rfl ?_
 show G _ _ _ _ [_,_,_,_,_,_,_,_,_,_,_,_,_,_,_,_,_,_,_,_,_,_,_,_,_,_,_,_,_,_,_,_,_,_,_,_,_,_,_] _
 refine Qad (Qag [0,1] rfl ?_)
 refine Qaa (v:=int .i64 0) rfl rfl rfl ?_
 refine Qaa (v:=int .i64 0) rfl rfl rfl (Qac (Qad (Qag [0,1] rfl ?_)))
 refine Qaa (v:=int .i64 0) rfl rfl rfl ?_
 show G _ _ _ _ [_,_,_,_,_,_,_,_,_,_,_,_,_,_,_,_,_,_,_,_,_,_,_,_,_,_,_,_,_,_,_,_,_,_,_,_,_,_,_] _
 refine Qaa (v:=int .i64 0) rfl rfl rfl (Qac (Qad (Qad (Qag [0,1,2] rfl ?_))))
 refine Qaa (v:=v4) rfl rfl rfl ?_
 refine Qba (hs.rd hr1) rfl rfl rfl rfl rfl ?_
 refine Qaa (v:=int .i64 0) rfl rfl rfl (Qac ?_)
 obtain ⟨o1_,Ho,Hr1_⟩:=bind_get H
 refine QaC (J:=fun t w=>∃ x13:Int,∃ x14:Int,Qaz.a0 N x13 x14=some r∧Fr t (fun O=>([O 0,O 1,O 2,O 3,O 4,O 5,int .i64 x13,int .i64 x14,O 8,O 9,O 10,O 11,O 12,O 13,O 14,O 15,O 16,O 17,O 18,O 19,O 20,O 21,O 22,O 23,O 24,O 25,O 26,O 27,O 28,O 29,O 30,O 31,O 32,O 33,O 34,O 35,O 36,O 37,O 38]:List Value))∧St w0 [] w) ?_ ?_
 ·
  rintro t w ⟨x13,x14,H,hf,hs⟩
  obtain ⟨O,rfl⟩:=hf.open
  show G _ _ _ _ [_,_,_,_,_,_,_,_,_,_,_,_,_,_,_,_,_,_,_,_,_,_,_,_,_,_,_,_,_,_,_,_,_,_,_,_,_,_,_] _
  unfold Qaz.a0 at H
  refine Qad (Qag [0,1,2,3] rfl ?_)
  refine Qaa (v:=int .i64 x13) rfl rfl rfl ?_
  refine Qaa (v:=int .i64 x14) rfl rfl rfl ?_
  refine Qaa (v:=int .i64 x13) rfl rfl rfl ?_
  refine Qaa (v:=int .i64 x14) rfl rfl rfl (Qac ?_)
  obtain rfl:=QsJ H
  refine Qaq Tryz.func40 (v:=tuple #[int .i64 x13,int .i64 x14]) (resN (l:=Tryz.f40.results.toList) (vs:=[int .i64 x13,int .i64 x14]) rfl ⟨rfl,rfl,trivial⟩ (by simp)) ?_
  have hs:St _ [] _:=St.take (Γ':=[]) hs
  exact ⟨_,rfl,rfl,hs⟩
 intro ha1_
 have hs:St _ [] _:=St.take (Γ':=[]) hs
 refine QaP (I:=fun n_ t w=>∃ x5:Int,∃ x6:Int,∃ x7:Int,rounds (fun s=>Qaz.b0 N a3 a1 s.1 s.2.1 s.2.2) n_ (x5,x6,x7)=some o1_∧Fr t (fun O=>([v2,O 1,O 2,O 3,O 4,O 5,int .i64 x5,int .i64 x6,O 8,O 9,v4,int .i64 (a3.length:Int),int .i64 x7,O 13,O 14,O 15,O 16,O 17,O 18,O 19,O 20,O 21,O 22,O 23,O 24,O 25,O 26,O 27,O 28,O 29,O 30,O 31,O 32,O 33,O 34,O 35,O 36,O 37,O 38]:List Value))∧St w0 [] w) N ⟨0,0,0,Ho,rfl,hs⟩ ?_ ?_
 ·
  rintro _ _ ⟨x5,x6,x7,h,_⟩
  exact rounds_zero h
 intro n_ ih1_
 rintro t w ⟨x5,x6,x7,Ho,hf,hs⟩
 obtain ⟨O,rfl⟩:=hf.open
 show G _ _ _ _ [_,_,_,_,_,_,_,_,_,_,_,_,_,_,_,_,_,_,_,_,_,_,_,_,_,_,_,_,_,_,_,_,_,_,_,_,_,_,_] _
 obtain ⟨x4_,H,Hx1_⟩:=rounds_succ Ho
 have H:Qaz.b0 N a3 a1 x5 x6 x7=some x4_:=H
 unfold Qaz.b0 at H
 refine Qad (Qag [0] rfl ?_)
 refine Qas (B:=decide (x7< (a3.length:Int))) rfl rfl rfl ?_ ?_
 ·
  intro hb
  rw [if_pos (b_dec_t hb)] at H
  refine Qac (Qad (Qai rfl (Qay (Qad ?_))))
  refine Qbe (Qad (Qag [0,1,2,3,4] rfl ?_))
  refine Qaa (v:=int .i64 x7) rfl rfl rfl ?_
  obtain ⟨g1,H⟩:=ite_get H
  refine Qa6 (fkI .i8) 0 (hs.rd hr1) rfl (fun _=>rfl) g1.1 g1.2 rfl rfl rfl rfl rfl ?_
  intro p8 hp8 lp8 op8
  refine QaA rfl rfl (v:=int .i8 (rdL a3 x7 0)) rfl rfl (fun _=>rfl) hp8 ?_
  show G _ _ _ _ [_,_,_,_,_,_,_,_,_,_,_,_,_,_,_,_,_,_,_,_,_,_,_,_,_,_,_,_,_,_,_,_,_,_,_,_,_,_,_] _
  refine Qaa (v:=int .i64 x7) rfl rfl rfl ?_
  refine Qaa (v:=int .i8 (rdL a3 x7 0)) rfl rfl rfl (Qac (Qad (Qag [0] rfl ?_)))
  refine Qaa (v:=int .i8 (rdL a3 x7 0)) rfl rfl rfl (Qac ?_)
  refine QaC (J:=(fun t w=>∃ x11:Int,∃ x12:Int,Qaz.j2 N x7 x11 x12=some x4_∧Fr t (fun O=>([v2,O 1,O 2,O 3,O 4,O 5,int .i64 x11,int .i64 x12,O 8,O 9,v4,int .i64 (a3.length:Int),int .i64 x7,O 13,O 14,O 15,O 16,O 17,O 18,O 19,O 20,O 21,O 22,O 23,O 24,O 25,O 26,O 27,O 28,O 29,O 30,O 31,O 32,O 33,O 34,O 35,O 36,O 37,O 38]:List Value))∧St w0 [] w)) ?_ ?_
  ·
   rintro t w ⟨x11,x12,H,hf,hs⟩
   obtain ⟨O,rfl⟩:=hf.open
   show G _ _ _ _ [_,_,_,_,_,_,_,_,_,_,_,_,_,_,_,_,_,_,_,_,_,_,_,_,_,_,_,_,_,_,_,_,_,_,_,_,_,_,_] _
   unfold Qaz.j2 at H
   refine QaH (Qag [0,1] rfl ?_)
   refine Qaa (v:=int .i64 (i64w (x7+1))) rfl rfl rfl ?_
   show G _ _ _ _ [_,_,_,_,_,_,_,_,_,_,_,_,_,_,_,_,_,_,_,_,_,_,_,_,_,_,_,_,_,_,_,_,_,_,_,_,_,_,_] _
   refine Qaa (v:=int .i64 (i64w (x7+1))) rfl rfl rfl (Qac ?_)
   obtain rfl:=QsJ H
   have hs:St _ [] _:=St.take (Γ':=[]) hs
   exact ih1_ _ _ ⟨x11,x12,i64w (x7+1),Hx1_,rfl,hs⟩
  intro ha
  refine Qad (Qag [0,1] rfl ?_)
  refine Qas (B:=(rdL a3 x7 0)==(-1)) rfl rfl rfl ?_ ?_
  ·
   intro hb
   rw [if_pos (b_beq_t hb)] at H
   show G _ _ _ _ [_,_,_,_,_,_,_,_,_,_,_,_,_,_,_,_,_,_,_,_,_,_,_,_,_,_,_,_,_,_,_,_,_,_,_,_,_,_,_] _
   refine Qaa (v:=bool true) rfl rfl rfl (Qac (Qai rfl (Qag [0,1,2,3,4,5,6,7] rfl ?_)))
   refine Qaa (v:=int .i64 x5) rfl rfl rfl ?_
   refine Qaa (v:=v2) rfl rfl rfl ?_
   refine Qaa (v:=int .i64 x7) rfl rfl rfl ?_
   obtain ⟨g2,H⟩:=ite_get H
   refine Qa6 (fkI .i16) 0 (hs.rd hr0) rfl (fun _=>rfl) g2.1 g2.2 rfl rfl rfl rfl rfl ?_
   intro p9 hp9 lp9 op9
   refine QaA rfl rfl (v:=int .i16 (rdL a1 x7 0)) rfl rfl (fun _=>rfl) hp9 ?_
   show G _ _ _ _ [_,_,_,_,_,_,_,_,_,_,_,_,_,_,_,_,_,_,_,_,_,_,_,_,_,_,_,_,_,_,_,_,_,_,_,_,_,_,_] _
   refine Qaa (v:=int .i64 (i64w (rdL a1 x7 0))) rfl rfl rfl ?_
   refine Qaa (v:=int .i64 (i64w (x5+(i64w (rdL a1 x7 0))))) rfl rfl rfl ?_
   refine Qaa (v:=int .i64 (i64w (x5+(i64w (rdL a1 x7 0))))) rfl rfl rfl (Qac ?_)
   refine QaH ?_
   have hs:St _ [] _:=St.take (Γ':=[]) hs
   exact ha _ _ ⟨i64w (x5+(i64w (rdL a1 x7 0))),x6,H,rfl,hs⟩
  intro hb
  rw [if_neg (b_beq_f hb)] at H
  show G _ _ _ _ [_,_,_,_,_,_,_,_,_,_,_,_,_,_,_,_,_,_,_,_,_,_,_,_,_,_,_,_,_,_,_,_,_,_,_,_,_,_,_] _
  refine Qaa (v:=bool false) rfl rfl rfl (Qac (Qal rfl (Qad (Qag [0,1] rfl ?_))))
  refine Qas (B:=(rdL a3 x7 0)==1) rfl rfl rfl ?_ ?_
  ·
   intro hb
   rw [if_pos (b_beq_t hb)] at H
   refine Qaa (v:=bool true) rfl rfl rfl (Qac (Qai rfl (Qag [0,1,2,3,4,5,6,7] rfl ?_)))
   refine Qaa (v:=int .i64 x6) rfl rfl rfl ?_
   refine Qaa (v:=v2) rfl rfl rfl ?_
   refine Qaa (v:=int .i64 x7) rfl rfl rfl ?_
   obtain ⟨g3,H⟩:=ite_get H
   refine Qa6 (fkI .i16) 0 (hs.rd hr0) rfl (fun _=>rfl) g3.1 g3.2 rfl rfl rfl rfl rfl ?_
   intro p10 hp10 lp10 op10
   show G _ _ _ _ [_,_,_,_,_,_,_,_,_,_,_,_,_,_,_,_,_,_,_,_,_,_,_,_,_,_,_,_,_,_,_,_,_,_,_,_,_,_,_] _
   refine QaA rfl rfl (v:=int .i16 (rdL a1 x7 0)) rfl rfl (fun _=>rfl) hp10 ?_
   refine Qaa (v:=int .i64 (i64w (rdL a1 x7 0))) rfl rfl rfl ?_
   refine Qaa (v:=int .i64 (i64w (x6+(i64w (rdL a1 x7 0))))) rfl rfl rfl ?_
   refine Qaa (v:=int .i64 (i64w (x6+(i64w (rdL a1 x7 0))))) rfl rfl rfl ?_
   show G _ _ _ _ [_,_,_,_,_,_,_,_,_,_,_,_,_,_,_,_,_,_,_,_,_,_,_,_,_,_,_,_,_,_,_,_,_,_,_,_,_,_,_] _
   refine Qac ?_
   refine QaH ?_
   have hs:St _ [] _:=St.take (Γ':=[]) hs
   exact ha _ _ ⟨x5,i64w (x6+(i64w (rdL a1 x7 0))),H,rfl,hs⟩
  intro hb
  rw [if_neg (b_beq_f hb)] at H
  refine Qaa (v:=bool false) rfl rfl rfl ?_
  show G _ _ _ _ [_,_,_,_,_,_,_,_,_,_,_,_,_,_,_,_,_,_,_,_,_,_,_,_,_,_,_,_,_,_,_,_,_,_,_,_,_,_,_] _
  refine Qac (Qal rfl (Qay ?_))
  refine QaH ?_
  have hs:St _ [] _:=St.take (Γ':=[]) hs
  exact ha _ _ ⟨x5,x6,H,rfl,hs⟩
 intro hb
 rw [if_neg (b_dec_f hb)] at H
 show G _ _ _ _ [_,_,_,_,_,_,_,_,_,_,_,_,_,_,_,_,_,_,_,_,_,_,_,_,_,_,_,_,_,_,_,_,_,_,_,_,_,_,_] _
 refine Qac (Qad (Qal rfl ?_))
 obtain rfl:=QsJ H
 subst Hx1_
 have hs:St _ [] _:=St.take (Γ':=[]) hs
 refine Qbc rfl ?_
 exact ha1_ _ _ ⟨x5,x6,Hr1_,rfl,hs⟩
def Qbn.post (w0:World) (r:(Int×Int)) (v:Value) (w:World):Prop:=v=tuple #[int .i64 r.1,int .i64 r.2]∧St w0 [] w
theorem Qbn.calls {N:Nat} {a1:(List Int)} {a3:(List Int)} {v2:Value} {v4:Value} {w0:World} {r:(Int×Int)} (hr0:RdRow (K.int .i16) w0 v2 a1) (hr1:RdRow (K.int .i8) w0 v4 a3) (H:Qbn.f N a1 a3=some r):
 Calls Tryz.prog 12 #[v2,v4] w0 fun e w=>∃ v,e= .returned v∧Qbn.post w0 r v w:=by
 unfold Qbn.f at H
 have hs:St w0 [] w0:=St.refl w0
 refine calls_of_g (n:=19) Tryz.func12 rfl rfl ?_
 show G _ _ _ _ [_,_,_,_,_,_,_,_,_,_,_,_,_,_,_,_,_,_,_,_,_] _
 refine Qad (Qag [0,1] rfl ?_)
 refine Qaa (v:=int .i64 0) rfl rfl rfl ?_
 refine Qaa (v:=int .i64 0) rfl rfl rfl (Qac (Qad (Qad (Qag [0,1,2,3] rfl ?_))))
 refine Qaa (v:=v2) rfl rfl rfl ?_
 show G _ _ _ _ [_,_,_,_,_,_,_,_,_,_,_,_,_,_,_,_,_,_,_,_,_] _
 refine Qaa (v:=v4) rfl rfl rfl ?_
 obtain ⟨r5,Hr5,H⟩:=bind_get H
 refine Qaw (args:=[v2,v4]) rfl rfl (Qax rfl (callFunc_enter Tryz.func22 rfl rfl) rfl) (Qa3.calls (a1:=a1) (a3:=a3) (hs.rd hr0) (hs.rd hr1) Hr5) ?_
 rintro _ w ⟨rfl,hs2⟩
 have hs:St _ [] _:=hs.call hs2
 cases r5 with
 |true=>
  rw [if_pos rfl] at H
  refine Qaa (v:=bool false) rfl rfl rfl ?_
  show G _ _ _ _ [_,_,_,_,_,_,_,_,_,_,_,_,_,_,_,_,_,_,_,_,_] _
  refine Qac (Qal rfl (Qay (Qad (Qag [0,1,2,3,4,5,6,7] rfl ?_))))
  refine Qaa (v:=v2) rfl rfl rfl ?_
  refine Qaa (v:=v4) rfl rfl rfl ?_
  obtain ⟨r6,Hr6,H⟩:=bind_get H
  refine Qaw (args:=[v2,v4]) rfl rfl (Qax rfl (callFunc_enter Tryz.func40 rfl rfl) rfl) (Qaz.calls (a1:=a1) (a3:=a3) (hs.rd hr0) (hs.rd hr1) Hr6) ?_
  rintro _ w ⟨rfl,hs2⟩
  have hs:St _ [] _:=hs.call hs2
  show G _ _ _ _ [_,_,_,_,_,_,_,_,_,_,_,_,_,_,_,_,_,_,_,_,_] _
  refine Qaa (v:=tuple #[int .i64 r6.1,int .i64 r6.2]) rfl rfl rfl ?_
  refine Qaa (v:=int .i64 r6.1) rfl rfl rfl ?_
  refine Qaa (v:=int .i64 r6.2) rfl rfl rfl ?_
  show G _ _ _ _ [_,_,_,_,_,_,_,_,_,_,_,_,_,_,_,_,_,_,_,_,_] _
  refine Qaa (v:=int .i64 r6.1) rfl rfl rfl ?_
  refine Qaa (v:=int .i64 r6.2) rfl rfl rfl (Qac (Qad (Qag [0,1,2,3,4] rfl ?_)))
  refine Qaa (v:=int .i64 r6.2) rfl rfl rfl ?_
  show G _ _ _ _ [_,_,_,_,_,_,_,_,_,_,_,_,_,_,_,_,_,_,_,_,_] _
  refine Qaa (v:=int .i64 r6.1) rfl rfl rfl ?_
  refine Qaa (v:=int .i64 (i64w (r6.2 - r6.1))) rfl rfl rfl ?_
  refine Qaa (v:=int .i64 (i64w (r6.2 - r6.1))) rfl rfl rfl ?_
  show G _ _ _ _ [_,_,_,_,_,_,_,_,_,_,_,_,_,_,_,_,_,_,_,_,_] _
  refine Qaa (v:=int .i64 0) rfl rfl rfl (Qac ?_)
  obtain rfl:=QsJ H
  refine Qaq Tryz.func12 (v:=tuple #[int .i64 (i64w (r6.2 - r6.1)),int .i64 0]) (resN (l:=Tryz.f12.results.toList) (vs:=[int .i64 (i64w (r6.2 - r6.1)),int .i64 0]) rfl ⟨rfl,rfl,trivial⟩ (by simp)) ?_
  have hs:St _ [] _:=St.take (Γ':=[]) hs
  exact ⟨_,rfl,rfl,hs⟩
 |false=>
  rw [if_neg Bool.false_ne_true] at H
  refine Qaa (v:=bool true) rfl rfl rfl ?_
  show G _ _ _ _ [_,_,_,_,_,_,_,_,_,_,_,_,_,_,_,_,_,_,_,_,_] _
  refine Qac (Qai rfl (Qad (Qag [0,1] rfl ?_)))
  refine Qaa (v:=int .i64 0) rfl rfl rfl ?_
  refine Qaa (v:=int .i64 1) rfl rfl rfl (Qac ?_)
  obtain rfl:=QsJ H
  refine Qaq Tryz.func12 (v:=tuple #[int .i64 0,int .i64 1]) (resN (l:=Tryz.f12.results.toList) (vs:=[int .i64 0,int .i64 1]) rfl ⟨rfl,rfl,trivial⟩ (by simp)) ?_
  have hs:St _ [] _:=St.take (Γ':=[]) hs
  exact ⟨_,rfl,rfl,hs⟩
def QaR.post (w0:World) (r:(Int×Int)) (v:Value) (w:World):Prop:=v=tuple #[int .i64 r.1,int .i64 r.2]∧St w0 [] w
theorem QaR.calls {N:Nat} {a1:(List Int)} {a3:(List Int)} {v2:Value} {v4:Value} {w0:World} {r:(Int×Int)} (hr0:RdRow (K.int .i16) w0 v2 a1) (hr1:RdRow (K.int .i8) w0 v4 a3) (H:QaR.f N a1 a3=some r):
 Calls Tryz.prog 13 #[v2,v4] w0 fun e w=>∃ v,e= .returned v∧QaR.post w0 r v w:=by
 unfold QaR.f at H
 have hs:St w0 [] w0:=St.refl w0
 refine calls_of_g (n:=23) Tryz.func13 rfl rfl ?_
 show G _ _ _ _ [_,_,_,_,_,_,_,_,_,_,_,_,_,_,_,_,_,_,_,_,_,_,_,_,_] _
 refine Qad (Qag [0,1] rfl ?_)
 refine Qaa (v:=int .i64 0) rfl rfl rfl ?_
 show G _ _ _ _ [_,_,_,_,_,_,_,_,_,_,_,_,_,_,_,_,_,_,_,_,_,_,_,_,_] _
 refine Qaa (v:=int .i64 0) rfl rfl rfl (Qac (Qad (Qad (Qag [0,1,2,3] rfl ?_))))
 refine Qaa (v:=v2) rfl rfl rfl ?_
 refine Qaa (v:=v4) rfl rfl rfl ?_
 show G _ _ _ _ [_,_,_,_,_,_,_,_,_,_,_,_,_,_,_,_,_,_,_,_,_,_,_,_,_] _
 obtain ⟨r5,Hr5,H⟩:=bind_get H
 refine Qaw (args:=[v2,v4]) rfl rfl (Qax rfl (callFunc_enter Tryz.func22 rfl rfl) rfl) (Qa3.calls (a1:=a1) (a3:=a3) (hs.rd hr0) (hs.rd hr1) Hr5) ?_
 rintro _ w ⟨rfl,hs2⟩
 have hs:St _ [] _:=hs.call hs2
 cases r5 with
 |true=>
  rw [if_pos rfl] at H
  refine Qaa (v:=bool false) rfl rfl rfl (Qac (Qal rfl (Qay (Qad (Qag [0] rfl ?_)))))
  refine Qaa (v:=int .i64 0) rfl rfl rfl ?_
  show G _ _ _ _ [_,_,_,_,_,_,_,_,_,_,_,_,_,_,_,_,_,_,_,_,_,_,_,_,_] _
  refine Qac (Qad (Qad (Qag [0,1,2] rfl ?_)))
  refine Qaa (v:=v4) rfl rfl rfl ?_
  refine Qba (hs.rd hr1) rfl rfl rfl rfl rfl ?_
  refine Qaa (v:=int .i64 0) rfl rfl rfl ?_
  show G _ _ _ _ [_,_,_,_,_,_,_,_,_,_,_,_,_,_,_,_,_,_,_,_,_,_,_,_,_] _
  refine Qac ?_
  obtain ⟨o1_,Ho,Hr1_⟩:=bind_get H
  refine QaC (J:=fun t w=>∃ x10:Int,QaR.a0 N x10=some r∧Fr t (fun O=>([O 0,O 1,O 2,O 3,O 4,O 5,int .i64 x10,O 7,O 8,O 9,O 10,O 11,O 12,O 13,O 14,O 15,O 16,O 17,O 18,O 19,O 20,O 21,O 22,O 23,O 24]:List Value))∧St w0 [] w) ?_ ?_
  ·
   rintro t w ⟨x10,H,hf,hs⟩
   obtain ⟨O,rfl⟩:=hf.open
   show G _ _ _ _ [_,_,_,_,_,_,_,_,_,_,_,_,_,_,_,_,_,_,_,_,_,_,_,_,_] _
   unfold QaR.a0 at H
   refine Qad (Qag [0,1,2] rfl ?_)
   refine Qaa (v:=int .i64 x10) rfl rfl rfl ?_
   refine Qaa (v:=int .i64 x10) rfl rfl rfl ?_
   show G _ _ _ _ [_,_,_,_,_,_,_,_,_,_,_,_,_,_,_,_,_,_,_,_,_,_,_,_,_] _
   refine Qaa (v:=int .i64 0) rfl rfl rfl (Qac ?_)
   obtain rfl:=QsJ H
   refine Qaq Tryz.func13 (v:=tuple #[int .i64 x10,int .i64 0]) (resN (l:=Tryz.f13.results.toList) (vs:=[int .i64 x10,int .i64 0]) rfl ⟨rfl,rfl,trivial⟩ (by simp)) ?_
   have hs:St _ [] _:=St.take (Γ':=[]) hs
   exact ⟨_,rfl,rfl,hs⟩
  intro ha1_
  have hs:St _ [] _:=St.take (Γ':=[]) hs
  refine QaP (I:=fun n_ t w=>∃ x6:Int,∃ x7:Int,rounds (fun s=>QaR.b0 N a3 s.1 s.2) n_ (x6,x7)=some o1_∧Fr t (fun O=>([O 0,O 1,O 2,O 3,O 4,O 5,int .i64 x6,O 7,O 8,O 9,O 10,O 11,O 12,v4,int .i64 (a3.length:Int),int .i64 x7,O 16,O 17,O 18,O 19,O 20,O 21,O 22,O 23,O 24]:List Value))∧St w0 [] w) N ⟨0,0,Ho,rfl,hs⟩ ?_ ?_
  ·
   rintro _ _ ⟨x6,x7,h,_⟩
   exact rounds_zero h
  intro n_ ih1_
  rintro t w ⟨x6,x7,Ho,hf,hs⟩
  obtain ⟨O,rfl⟩:=hf.open
  show G _ _ _ _ [_,_,_,_,_,_,_,_,_,_,_,_,_,_,_,_,_,_,_,_,_,_,_,_,_] _
  obtain ⟨x2_,H,Hx1_⟩:=rounds_succ Ho
  have H:QaR.b0 N a3 x6 x7=some x2_:=H
  unfold QaR.b0 at H
  refine Qad (Qag [0] rfl ?_)
  refine Qas (B:=decide (x7< (a3.length:Int))) rfl rfl rfl ?_ ?_
  ·
   intro hb
   rw [if_pos (b_dec_t hb)] at H
   refine Qac (Qad (Qai rfl (Qay (Qad ?_))))
   refine QaC (J:=(fun t w=>∃ x9:Int,QaR.j2 N x7 x9=some x2_∧Fr t (fun O=>([O 0,O 1,O 2,O 3,O 4,O 5,int .i64 x9,O 7,O 8,O 9,O 10,O 11,O 12,v4,int .i64 (a3.length:Int),int .i64 x7,O 16,O 17,O 18,O 19,O 20,O 21,O 22,O 23,O 24]:List Value))∧St w0 [] w)) ?_ ?_
   ·
    rintro t w ⟨x9,H,hf,hs⟩
    obtain ⟨O,rfl⟩:=hf.open
    show G _ _ _ _ [_,_,_,_,_,_,_,_,_,_,_,_,_,_,_,_,_,_,_,_,_,_,_,_,_] _
    unfold QaR.j2 at H
    refine Qag [0,1] rfl ?_
    refine Qaa (v:=int .i64 (i64w (x7+1))) rfl rfl rfl ?_
    show G _ _ _ _ [_,_,_,_,_,_,_,_,_,_,_,_,_,_,_,_,_,_,_,_,_,_,_,_,_] _
    refine Qaa (v:=int .i64 (i64w (x7+1))) rfl rfl rfl (Qac ?_)
    obtain rfl:=QsJ H
    have hs:St _ [] _:=St.take (Γ':=[]) hs
    exact ih1_ _ _ ⟨x9,i64w (x7+1),Hx1_,rfl,hs⟩
   intro ha
   refine Qad (Qag [0,1,2] rfl ?_)
   obtain ⟨g1,H⟩:=ite_get H
   refine Qa6 (fkI .i8) 0 (hs.rd hr1) rfl (fun _=>rfl) g1.1 g1.2 rfl rfl rfl rfl rfl ?_
   intro p8 hp8 lp8 op8
   show G _ _ _ _ [_,_,_,_,_,_,_,_,_,_,_,_,_,_,_,_,_,_,_,_,_,_,_,_,_] _
   refine QaA rfl rfl (v:=int .i8 (rdL a3 x7 0)) rfl rfl (fun _=>rfl) hp8 ?_
   refine Qaa (v:=int .i8 (rdL a3 x7 0)) rfl rfl rfl (Qac (Qad (Qag [0,1] rfl ?_)))
   refine Qaa (v:=int .i8 (rdL a3 x7 0)) rfl rfl rfl ?_
   show G _ _ _ _ [_,_,_,_,_,_,_,_,_,_,_,_,_,_,_,_,_,_,_,_,_,_,_,_,_] _
   refine Qas (B:=(rdL a3 x7 0) !=0) rfl rfl rfl ?_ ?_
   ·
    intro hb
    rw [if_neg (b_bne_t hb)] at H
    refine Qac (Qai rfl (Qag [0,1,2] rfl ?_))
    refine Qaa (v:=int .i64 x6) rfl rfl rfl ?_
    show G _ _ _ _ [_,_,_,_,_,_,_,_,_,_,_,_,_,_,_,_,_,_,_,_,_,_,_,_,_] _
    refine Qaa (v:=int .i64 (i64w (x6+1))) rfl rfl rfl ?_
    refine Qaa (v:=int .i64 (i64w (x6+1))) rfl rfl rfl (Qac ?_)
    refine QaH ?_
    have hs:St _ [] _:=St.take (Γ':=[]) hs
    exact ha _ _ ⟨i64w (x6+1),H,rfl,hs⟩
   intro hb
   rw [if_pos (b_bne_f hb)] at H
   refine Qac (Qal rfl (Qay ?_))
   refine QaH ?_
   have hs:St _ [] _:=St.take (Γ':=[]) hs
   exact ha _ _ ⟨x6,H,rfl,hs⟩
  intro hb
  rw [if_neg (b_dec_f hb)] at H
  refine Qac (Qad (Qal rfl ?_))
  obtain rfl:=QsJ H
  subst Hx1_
  have hs:St _ [] _:=St.take (Γ':=[]) hs
  refine Qbc rfl ?_
  exact ha1_ _ _ ⟨x6,Hr1_,rfl,hs⟩
 |false=>
  rw [if_neg Bool.false_ne_true] at H
  refine Qaa (v:=bool true) rfl rfl rfl (Qac (Qai rfl (Qad (Qag [0,1] rfl ?_))))
  refine Qaa (v:=int .i64 0) rfl rfl rfl ?_
  show G _ _ _ _ [_,_,_,_,_,_,_,_,_,_,_,_,_,_,_,_,_,_,_,_,_,_,_,_,_] _
  refine Qaa (v:=int .i64 1) rfl rfl rfl (Qac ?_)
  obtain rfl:=QsJ H
  refine Qaq Tryz.func13 (v:=tuple #[int .i64 0,int .i64 1]) (resN (l:=Tryz.f13.results.toList) (vs:=[int .i64 0,int .i64 1]) rfl ⟨rfl,rfl,trivial⟩ (by simp)) ?_
  have hs:St _ [] _:=St.take (Γ':=[]) hs
  exact ⟨_,rfl,rfl,hs⟩
def strconv_FormatInt.post (w0:World) (r:ByteArray) (v:Value) (w:World):Prop:=v=string r∧St w0 [] w
theorem strconv_FormatInt.calls {N : Nat} {a1 a2 : Int} {w0 : World} {r : ByteArray} (htab : Lib.TabIs Tryz.prog w0 "internal/strconv.uint64pow10" .u64 Lib.pow10Tab) (H : strconv_FormatInt.f N a1 a2 = some r) :
 Calls Tryz.prog 65 #[.int .i64 a1, .int .i64 a2] w0 fun e w=>∃ v,e= .returned v∧strconv_FormatInt.post w0 r v w:=by
 obtain ⟨⟨hg,e10⟩,H2⟩:=ite_get H
 subst e10
 obtain rfl:=QsJ H2
 exact (Tryz.strconv_FormatInt_10 a1 hg.1 hg.2 w0 htab).mono fun e w ⟨he,k,os,hw⟩=>⟨_,he,rfl,St.of_grow hw⟩
def Qbi.post (w0:World) (r:ByteArray) (v:Value) (w:World):Prop:=v=string r∧St w0 [] w
theorem Qbi.calls {N : Nat} {a1 : Int} {w0 : World} {r : ByteArray} (htab : Lib.TabIs Tryz.prog w0 "internal/strconv.uint64pow10" .u64 Lib.pow10Tab) (H : Qbi.f N a1 = some r) :
 Calls Tryz.prog 43 #[int .i64 a1] w0 fun e w=>∃ v,e= .returned v∧Qbi.post w0 r v w:=by
 unfold Qbi.f at H
 have hs:St w0 [] w0:=St.refl w0
 refine calls_of_g (n:=4) Tryz.func43 rfl rfl ?_
 show G _ _ _ _ [_,_,_,_,_] _
 refine Qad (Qag [0] rfl ?_)
 refine Qaa (v:=string (⟨#[]⟩:ByteArray)) rfl rfl rfl (Qac (Qad (Qag [0,1,2] rfl ?_)))
 refine Qaa (v:=int .i64 a1) rfl rfl rfl ?_
 obtain ⟨r2,Hr2,H⟩:=bind_get H
 refine Qaw (args:=[int .i64 a1,int .i64 10]) rfl rfl (Qax rfl (callFunc_enter Tryz.func65 rfl rfl) rfl) (strconv_FormatInt.calls (a1:=a1) (a2:=10) (hs.tab htab) Hr2) ?_
 rintro _ w ⟨rfl,hs2⟩
 have hs:St _ [] _:=hs.call hs2
 show G _ _ _ _ [_,_,_,_,_] _
 refine Qaa (v:=string r2) rfl rfl rfl (Qac ?_)
 obtain rfl:=QsJ H
 refine Qaq Tryz.func43 (v:=string r2) (res1 rfl rfl) ?_
 have hs:St _ [] _:=St.take (Γ':=[]) hs
 exact ⟨_,rfl,rfl,hs⟩
def strings_Join.post (w0:World) (r:ByteArray) (v:Value) (w:World):Prop:=v=string r∧St w0 [] w
theorem strings_Join.calls {N:Nat} {a1:List ByteArray} {a2:ByteArray} {v:Value} {w0:World} {r:ByteArray} (h:Rd0 w0 v a1) (H:strings_Join.f N a1 a2=some r):
 Calls Tryz.prog 44 #[v, .string a2] w0 fun e w=>∃ v,e= .returned v∧strings_Join.post w0 r v w:=by
 obtain ⟨hg,H⟩:=ite_get H
 obtain rfl:=QsJ H
 rcases h with ⟨rfl,rfl⟩|⟨b,cap,rfl,hlt,hcap,hcells⟩
 ·exact (Tryz.strings_Join_none none 0 a2 w0).mono fun e w ⟨he,hw⟩=>⟨_,he,rfl,by rw [hw];exact St.refl _⟩
 ·exact (Tryz.strings_Join b 0 cap a1 a2 w0 hcells hlt hg.1 hcap hg.2).mono fun e w ⟨he,hw⟩=>⟨_,he,rfl,St.of_below hw⟩
def QaI.post (w0:World) (r:ByteArray) (v:Value) (w:World):Prop:=v=string r∧St w0 [] w
theorem QaI.calls {N : Nat} {a1 : (List Int)} {v2 : Value} {w0 : World} {r : ByteArray} (htab : Lib.TabIs Tryz.prog w0 "internal/strconv.uint64pow10" .u64 Lib.pow10Tab) (hr0 : RdRow (K.int .i16) w0 v2 a1) (H : QaI.f N a1 = some r) :
 Calls Tryz.prog 15 #[v2] w0 fun e w=>∃ v,e= .returned v∧QaI.post w0 r v w:=by
 unfold QaI.f at H
 have hs:St w0 [] w0:=St.refl w0
 refine calls_of_g (n:=24) Tryz.func15 rfl rfl ?_
 show G _ _ _ _ [_,_,_,_,_,_,_,_,_,_,_,_,_,_,_,_,_,_,_,_,_,_,_,_,_] _
 refine Qad (Qag [0] rfl ?_)
 refine Qaa (v:=string (⟨#[]⟩:ByteArray)) rfl rfl rfl ?_
 show G _ _ _ _ [_,_,_,_,_,_,_,_,_,_,_,_,_,_,_,_,_,_,_,_,_,_,_,_,_] _
 refine Qac (Qad (Qad (Qag [0,1,2] rfl ?_)))
 refine Qaa (v:=v2) rfl rfl rfl ?_
 obtain ⟨r3,Hr3,H⟩:=bind_get H
 refine Qaw (args:=[v2]) rfl rfl (Qax rfl (callFunc_enter Tryz.func21 rfl rfl) rfl) (QaE.calls (a1:=a1) (hs.rd hr0) Hr3) ?_
 rintro _ w ⟨rfl,hs2⟩
 have hs:St _ [] _:=hs.call hs2
 cases r3 with
 |true=>
  rw [if_pos rfl] at H
  show G _ _ _ _ [_,_,_,_,_,_,_,_,_,_,_,_,_,_,_,_,_,_,_,_,_,_,_,_,_] _
  refine Qaa (v:=bool false) rfl rfl rfl (Qac (Qal rfl (Qay (Qad (Qag [0,1] rfl ?_)))))
  refine QbJ (κ:=K.str) hs rfl rfl rfl rfl (fun _=>rfl) ?_
  intro v4 w hs
  refine Qaa (v:=v4) rfl rfl rfl ?_
  show G _ _ _ _ [_,_,_,_,_,_,_,_,_,_,_,_,_,_,_,_,_,_,_,_,_,_,_,_,_] _
  refine Qac (Qad (Qad (Qag [0,1,2] rfl ?_)))
  refine Qaa (v:=v2) rfl rfl rfl ?_
  refine Qba (hs.rd hr0) rfl rfl rfl rfl rfl ?_
  refine Qaa (v:=int .i64 0) rfl rfl rfl ?_
  show G _ _ _ _ [_,_,_,_,_,_,_,_,_,_,_,_,_,_,_,_,_,_,_,_,_,_,_,_,_] _
  refine Qac ?_
  obtain ⟨o1_,Ho,Hr1_⟩:=bind_get H
  refine QaC (J:=fun t w=>∃ v16:Value,∃ x17:(List ByteArray),QaI.a0 N x17=some r∧Fr t (fun O=>([O 0,O 1,O 2,v16,O 4,O 5,O 6,O 7,O 8,O 9,O 10,O 11,O 12,O 13,O 14,O 15,O 16,O 17,O 18,O 19,O 20,O 21,O 22,O 23,O 24]:List Value))∧St w0 [Row 9 K.str v16 x17] w) ?_ ?_
  ·
   rintro t w ⟨v16,x17,H,hf,hs⟩
   obtain ⟨O,rfl⟩:=hf.open
   show G _ _ _ _ [_,_,_,_,_,_,_,_,_,_,_,_,_,_,_,_,_,_,_,_,_,_,_,_,_] _
   unfold QaI.a0 at H
   refine Qad (Qag [0,1,2] rfl ?_)
   refine Qaa (v:=v16) rfl rfl rfl ?_
   show G _ _ _ _ [_,_,_,_,_,_,_,_,_,_,_,_,_,_,_,_,_,_,_,_,_,_,_,_,_] _
   obtain ⟨r19,Hr19,H⟩:=bind_get H
   refine Qaw (args:=[v16,string (⟨#[32]⟩:ByteArray)]) rfl rfl (Qax rfl (callFunc_enter Tryz.func44 rfl rfl) rfl) (strings_Join.calls (a1:=x17) (a2:=(⟨#[32]⟩:ByteArray)) (hs.row0 0 rfl) Hr19) ?_
   rintro _ w ⟨rfl,hs2⟩
   have hs:St _ [_] _:=hs.call hs2
   refine Qaa (v:=string r19) rfl rfl rfl (Qac ?_)
   obtain rfl:=QsJ H
   refine Qaq Tryz.func15 (v:=string r19) (res1 rfl rfl) ?_
   have hs:St _ [] _:=St.take (Γ':=[_]) hs
   exact ⟨_,rfl,rfl,hs⟩
  intro ha1_
  have hs:=hs.pull 0 rfl
  have hs:St _ [_] _:=St.take (Γ':=[]) hs
  refine QaP (I:=fun n_ t w=>∃ v7:Value,∃ x8:(List ByteArray),∃ x9:Int,rounds (fun s=>QaI.b0 N a1 s.1 s.2) n_ (x8,x9)=some o1_∧Fr t (fun O=>([O 0,O 1,O 2,v7,O 4,O 5,O 6,O 7,O 8,O 9,v2,int .i64 (a1.length:Int),int .i64 x9,O 13,O 14,O 15,O 16,O 17,O 18,O 19,O 20,O 21,O 22,O 23,O 24]:List Value))∧St w0 [Row 9 K.str v7 x8] w) N ⟨v4,([]:List ByteArray),0,Ho,rfl,hs⟩ ?_ ?_
  ·
   rintro _ _ ⟨v7,x8,x9,h,_⟩
   exact rounds_zero h
  intro n_ ih1_
  rintro t w ⟨v7,x8,x9,Ho,hf,hs⟩
  obtain ⟨O,rfl⟩:=hf.open
  show G _ _ _ _ [_,_,_,_,_,_,_,_,_,_,_,_,_,_,_,_,_,_,_,_,_,_,_,_,_] _
  obtain ⟨x2_,H,Hx1_⟩:=rounds_succ Ho
  have H:QaI.b0 N a1 x8 x9=some x2_:=H
  unfold QaI.b0 at H
  refine Qad (Qag [0] rfl ?_)
  refine Qas (B:=decide (x9< (a1.length:Int))) rfl rfl rfl ?_ ?_
  ·
   intro hb
   rw [if_pos (b_dec_t hb)] at H
   refine Qac (Qad (Qai rfl (Qay (Qad ?_))))
   refine Qbe (Qad (Qag [0,1,2] rfl ?_))
   obtain ⟨g1,H⟩:=ite_get H
   refine Qa6 (fkI .i16) 0 (hs.rd hr0) rfl (fun _=>rfl) g1.1 g1.2 rfl rfl rfl rfl rfl ?_
   intro p10 hp10 lp10 op10
   show G _ _ _ _ [_,_,_,_,_,_,_,_,_,_,_,_,_,_,_,_,_,_,_,_,_,_,_,_,_] _
   refine QaA rfl rfl (v:=int .i16 (rdL a1 x9 0)) rfl rfl (fun _=>rfl) hp10 ?_
   refine Qaa (v:=int .i16 (rdL a1 x9 0)) rfl rfl rfl (Qac (Qag [0,1,2,3,4,5,6] rfl ?_))
   refine Qaa (v:=v7) rfl rfl rfl ?_
   show G _ _ _ _ [_,_,_,_,_,_,_,_,_,_,_,_,_,_,_,_,_,_,_,_,_,_,_,_,_] _
   refine Qaa (v:=int .i16 (rdL a1 x9 0)) rfl rfl rfl ?_
   refine Qaa (v:=int .i64 (i64w (rdL a1 x9 0))) rfl rfl rfl ?_
   obtain ⟨r11,Hr11,H⟩:=bind_get H
   refine Qaw (args:=[int .i64 (i64w (rdL a1 x9 0))]) rfl rfl (Qax rfl (callFunc_enter Tryz.func43 rfl rfl) rfl) (Qbi.calls (a1:=i64w (rdL a1 x9 0)) (hs.tab htab) Hr11) ?_
   rintro _ w ⟨rfl,hs2⟩
   have hs:St _ [_] _:=hs.call hs2
   show G _ _ _ _ [_,_,_,_,_,_,_,_,_,_,_,_,_,_,_,_,_,_,_,_,_,_,_,_,_] _
   refine QbL fkS (y:=r11) hs rfl rfl rfl rfl (fun _=>rfl) (zv:=(string ⟨#[]⟩)) (fun _=>rfl) rfl (by decide) (by decide) rfl ?_
   intro v12 w hs
   have hs:St _ [_,_] _:=hs.pull 1 rfl
   obtain ⟨g,H⟩:=ite_get H
   refine QbI fkS (zv:=(string ⟨#[]⟩)) (B:=16) hs (hs.row 1 rfl) rfl rfl rfl rfl rfl rfl rfl rfl rfl (by decide) rfl rfl (by decide) (by omega) ?_
   intro v14 w hs
   refine Qaa (v:=v14) rfl rfl rfl ?_
   show G _ _ _ _ [_,_,_,_,_,_,_,_,_,_,_,_,_,_,_,_,_,_,_,_,_,_,_,_,_] _
   refine Qac ?_
   refine QaH (Qag [0,1] rfl ?_)
   refine Qaa (v:=int .i64 (i64w (x9+1))) rfl rfl rfl ?_
   refine Qaa (v:=int .i64 (i64w (x9+1))) rfl rfl rfl (Qac ?_)
   obtain rfl:=QsJ H
   have hs:=hs.pull 0 rfl
   have hs:St _ [_] _:=St.take (Γ':=[_]) hs
   exact ih1_ _ _ ⟨v14,x8++([r11]),i64w (x9+1),Hx1_,rfl,hs⟩
  intro hb
  rw [if_neg (b_dec_f hb)] at H
  refine Qac (Qad (Qal rfl ?_))
  obtain rfl:=QsJ H
  subst Hx1_
  have hs:=hs.pull 0 rfl
  have hs:St _ [_] _:=St.take (Γ':=[]) hs
  refine Qbc rfl ?_
  exact ha1_ _ _ ⟨v7,x8,Hr1_,rfl,hs⟩
 |false=>
  rw [if_neg Bool.false_ne_true] at H
  refine Qaa (v:=bool true) rfl rfl rfl ?_
  show G _ _ _ _ [_,_,_,_,_,_,_,_,_,_,_,_,_,_,_,_,_,_,_,_,_,_,_,_,_] _
  refine Qac (Qai rfl (Qad (Qag [0] rfl ?_)))
  refine Qaa (v:=string (⟨#[]⟩:ByteArray)) rfl rfl rfl (Qac ?_)
  obtain rfl:=QsJ H
  refine Qaq Tryz.func15 (v:=string (⟨#[]⟩:ByteArray)) (res1 rfl rfl) ?_
  have hs:St _ [] _:=St.take (Γ':=[]) hs
  exact ⟨_,rfl,rfl,hs⟩
def strings_Split.post (w0:World) (r:(List ByteArray)) (v:Value) (w:World):Prop:=St w0 [Row 9 K.str v r] w
theorem strings_Split.calls {N:Nat} {a1 a2:ByteArray} {w0:World} {r:(List ByteArray)} (hmax:CellI w0 0) (H:strings_Split.f N a1 a2=some r):
 Calls Tryz.prog 41 #[.string a1, .string a2] w0 fun e w=>∃ v,e= .returned v∧strings_Split.post w0 r v w:=by
 obtain ⟨hg,H⟩:=ite_get H
 obtain rfl:=QsJ H
 obtain ⟨m,hm⟩:=hmax
 exact (Tryz.strings_Split a1 a2 m w0 hg.1 hm hg.2).mono fun e w ⟨he,hw⟩=>⟨_,he,split_row (Lib.splitB_all a2 hg.2 0 _ a1 rfl) (by have:=Lib.countB_le a2 hg.2 a1.size a1 (Nat.le_refl _);omega) hw⟩
def strconv_ParseInt.post (w0:World) (r:(Int×Bool)) (v:Value) (w:World):Prop:=∃ u1:Value,v=tuple #[int .i64 r.1,u1]∧ErrIs u1 r.2∧St w0 [] w
theorem strconv_ParseInt.calls {N:Nat} {a1:ByteArray} {a2 a3:Int} {w0:World} {r:(Int×Bool)} (hsyn:CellE w0 1) (hrng:CellE w0 2) (H:strconv_ParseInt.f N a1 a2 a3=some r):
 Calls Tryz.prog 64 #[.string a1, .int .i64 a2, .int .i64 a3] w0 fun e w=>∃ v,e= .returned v∧strconv_ParseInt.post w0 r v w:=by
 obtain ⟨⟨hg,e2,e3⟩,H2⟩:=ite_get H
 subst e2 e3
 obtain rfl:=QsJ H2
 unfold strconv_ParseInt.post parsed
 have h9:a1.size≤9223372036854775806:=by omega
 cases hp:Lib.parseIntB 64 a1.data.toList with
 |ok v=>exact (Tryz.strconv_ParseInt_10_at64_ok a1 h9 _ hp w0).mono fun e w ⟨he,hw⟩=>⟨_,he,_,rfl, .inl ⟨rfl,rfl⟩,St.of_bytes hw⟩
 |range=>
  obtain ⟨ev,h1,h2⟩:=hrng
  exact (Tryz.strconv_ParseInt_10_at64_range a1 hg hp ev w0 h1 h2).mono fun e w ⟨n,he,_,_,hb⟩=>⟨_,he,_,rfl, .inr ⟨rfl,_,_,rfl⟩,St.of_below hb⟩
 |_=>
  obtain ⟨ev,h1,h2⟩:=hsyn
  exact (Tryz.QbM a1 hg (by rw [hp];intro v g;cases g) (by rw [hp];intro g;cases g) ev w0 h1 h2).mono fun e w ⟨n,he,_,_,hb⟩=>⟨_,he,_,rfl, .inr ⟨rfl,_,_,rfl⟩,St.of_below hb⟩
def QbB.post (w0:World) (r:(Int×Bool)) (v:Value) (w:World):Prop:=v=tuple #[int .i64 r.1,bool r.2]∧St w0 [] w
theorem QbB.calls {N : Nat} {a1 : ByteArray} {a2 : Int} {w0 : World} {r : (Int × Bool)} (htab : Lib.TabIs Tryz.prog w0 "internal/strconv.uint64pow10" .u64 Lib.pow10Tab) (hsyn : CellE w0 1) (hrng : CellE w0 2) (H : QbB.f N a1 a2 = some r) :
 Calls Tryz.prog 42 #[string a1,int .i64 a2] w0 fun e w=>∃ v,e= .returned v∧QbB.post w0 r v w:=by
 unfold QbB.f at H
 have hs:St w0 [] w0:=St.refl w0
 refine calls_of_g (n:=26) Tryz.func42 rfl rfl ?_
 show G _ _ _ _ [_,_,_,_,_,_,_,_,_,_,_,_,_,_,_,_,_,_,_,_,_,_,_,_,_,_,_,_] _
 refine Qad (Qag [0,1] rfl ?_)
 refine Qaa (v:=int .i64 0) rfl rfl rfl ?_
 refine Qaa (v:=bool false) rfl rfl rfl (Qac (Qad (Qag [0,1,2,3,4,5,6] rfl ?_)))
 refine Qaa (v:=string a1) rfl rfl rfl ?_
 obtain ⟨r3,Hr3,H⟩:=bind_get H
 refine Qaw (args:=[string a1,int .i64 10,int .i64 64]) rfl rfl (Qax rfl (callFunc_enter Tryz.func64 rfl rfl) rfl) (strconv_ParseInt.calls (a1:=a1) (a2:=10) (a3:=64) (hs.cellE hsyn) (hs.cellE hrng) Hr3) ?_
 rintro _ w ⟨v4,rfl,hEv4,hs2⟩
 have hs:St _ [] _:=hs.call hs2
 show G _ _ _ _ [_,_,_,_,_,_,_,_,_,_,_,_,_,_,_,_,_,_,_,_,_,_,_,_,_,_,_,_] _
 refine Qaa (v:=tuple #[int .i64 r3.1,v4]) rfl rfl rfl ?_
 refine Qaa (v:=int .i64 r3.1) rfl rfl rfl ?_
 refine Qaa (v:=v4) rfl rfl rfl ?_
 refine Qaa (v:=int .i64 r3.1) rfl rfl rfl ?_
 refine Qaa (v:=v4) rfl rfl rfl (Qac (Qad (Qad (Qag [0,1,2,3,4,5,6,7,8,9,10,11,12,13] rfl ?_))))
 refine Qaa (v:=v4) rfl rfl rfl ?_
 refine Qas (B:=r3.2) rfl rfl (Qcz rfl (by kernel_rfl) rfl hEv4) ?_ ?_
 ·
  intro hb
  rw [if_pos (b_var_t hb)] at H
  refine Qaa (v:=bool true) rfl rfl rfl (Qab rfl rfl (Qab rfl rfl (Qab rfl rfl (Qab rfl rfl ?_))))
  show G _ _ _ _ [_,_,_,_,_,_,_,_,_,_,_,_,_,_,_,_,_,_,_,_,_,_,_,_,_,_,_,_] _
  refine Qaa (v:=bool true) rfl rfl rfl ?_
  refine Qaa (v:=bool true) rfl rfl rfl (Qab rfl rfl (Qab rfl rfl (Qab rfl rfl (Qab rfl rfl ?_))))
  show G _ _ _ _ [_,_,_,_,_,_,_,_,_,_,_,_,_,_,_,_,_,_,_,_,_,_,_,_,_,_,_,_] _
  refine Qaa (v:=bool true) rfl rfl rfl (Qac (Qai rfl (Qad (Qag [0,1] rfl ?_))))
  refine Qaa (v:=int .i64 0) rfl rfl rfl ?_
  refine Qaa (v:=bool false) rfl rfl rfl ?_
  show G _ _ _ _ [_,_,_,_,_,_,_,_,_,_,_,_,_,_,_,_,_,_,_,_,_,_,_,_,_,_,_,_] _
  refine Qac ?_
  obtain rfl:=QsJ H
  refine Qaq Tryz.func42 (v:=tuple #[int .i64 0,bool false]) (resN (l:=Tryz.f42.results.toList) (vs:=[int .i64 0,bool false]) rfl ⟨rfl,rfl,trivial⟩ (by simp)) ?_
  have hs:St _ [] _:=St.take (Γ':=[]) hs
  exact ⟨_,rfl,rfl,hs⟩
 intro hb
 rw [if_neg (b_var_f hb)] at H
 show G _ _ _ _ [_,_,_,_,_,_,_,_,_,_,_,_,_,_,_,_,_,_,_,_,_,_,_,_,_,_,_,_] _
 refine Qaa (v:=bool false) rfl rfl rfl ?_
 refine Qaa (v:=int .i64 r3.1) rfl rfl rfl ?_
 obtain ⟨r5,Hr5,H⟩:=bind_get H
 refine Qaw (args:=[int .i64 r3.1]) rfl rfl (Qax rfl (callFunc_enter Tryz.func43 rfl rfl) rfl) (Qbi.calls (a1:=r3.1) (hs.tab htab) Hr5) ?_
 rintro _ w ⟨rfl,hs2⟩
 have hs:St _ [] _:=hs.call hs2
 refine Qaa (v:=string a1) rfl rfl rfl ?_
 refine Qaa (v:=bool (!(r5.toList==a1.toList))) rfl rfl rfl ?_
 refine Qas (B:=!(r5.toList==a1.toList)) rfl rfl rfl ?_ ?_
 ·
  intro hb
  rw [if_neg (b_nbeq_t hb)] at H
  refine Qaa (v:=bool true) rfl rfl rfl (Qab rfl rfl (Qab rfl rfl (Qab rfl rfl (Qab rfl rfl ?_))))
  show G _ _ _ _ [_,_,_,_,_,_,_,_,_,_,_,_,_,_,_,_,_,_,_,_,_,_,_,_,_,_,_,_] _
  refine Qaa (v:=bool true) rfl rfl rfl (Qac (Qai rfl (Qad (Qag [0,1] rfl ?_))))
  refine Qaa (v:=int .i64 0) rfl rfl rfl ?_
  refine Qaa (v:=bool false) rfl rfl rfl ?_
  show G _ _ _ _ [_,_,_,_,_,_,_,_,_,_,_,_,_,_,_,_,_,_,_,_,_,_,_,_,_,_,_,_] _
  refine Qac ?_
  obtain rfl:=QsJ H
  refine Qaq Tryz.func42 (v:=tuple #[int .i64 0,bool false]) (resN (l:=Tryz.f42.results.toList) (vs:=[int .i64 0,bool false]) rfl ⟨rfl,rfl,trivial⟩ (by simp)) ?_
  have hs:St _ [] _:=St.take (Γ':=[]) hs
  exact ⟨_,rfl,rfl,hs⟩
 intro hb
 rw [if_pos (b_nbeq_f hb)] at H
 show G _ _ _ _ [_,_,_,_,_,_,_,_,_,_,_,_,_,_,_,_,_,_,_,_,_,_,_,_,_,_,_,_] _
 refine Qaa (v:=bool false) rfl rfl rfl ?_
 refine Qaa (v:=int .i64 r3.1) rfl rfl rfl ?_
 refine Qaa (v:=int .i64 a2) rfl rfl rfl ?_
 obtain ⟨r6,Hr6,H⟩:=bind_get H
 refine Qaw (args:=[int .i64 r3.1,int .i64 0,int .i64 a2]) rfl rfl (Qax rfl (callFunc_enter Tryz.func46 rfl rfl) rfl) (Qa5.calls (a1:=r3.1) (a2:=0) (a3:=a2) Hr6) ?_
 rintro _ w ⟨rfl,hs2⟩
 have hs:St _ [] _:=hs.call hs2
 cases r6 with
 |true=>
  rw [if_pos rfl] at H
  show G _ _ _ _ [_,_,_,_,_,_,_,_,_,_,_,_,_,_,_,_,_,_,_,_,_,_,_,_,_,_,_,_] _
  refine Qaa (v:=bool false) rfl rfl rfl ?_
  refine Qaa (v:=bool false) rfl rfl rfl (Qac (Qal rfl (Qay (Qad (Qag [0,1,2] rfl ?_)))))
  refine Qaa (v:=int .i64 r3.1) rfl rfl rfl ?_
  refine Qaa (v:=int .i64 r3.1) rfl rfl rfl ?_
  show G _ _ _ _ [_,_,_,_,_,_,_,_,_,_,_,_,_,_,_,_,_,_,_,_,_,_,_,_,_,_,_,_] _
  refine Qaa (v:=bool true) rfl rfl rfl (Qac ?_)
  obtain rfl:=QsJ H
  refine Qaq Tryz.func42 (v:=tuple #[int .i64 r3.1,bool true]) (resN (l:=Tryz.f42.results.toList) (vs:=[int .i64 r3.1,bool true]) rfl ⟨rfl,rfl,trivial⟩ (by simp)) ?_
  have hs:St _ [] _:=St.take (Γ':=[]) hs
  exact ⟨_,rfl,rfl,hs⟩
 |false=>
  rw [if_neg Bool.false_ne_true] at H
  refine Qaa (v:=bool true) rfl rfl rfl ?_
  refine Qaa (v:=bool true) rfl rfl rfl ?_
  show G _ _ _ _ [_,_,_,_,_,_,_,_,_,_,_,_,_,_,_,_,_,_,_,_,_,_,_,_,_,_,_,_] _
  refine Qac (Qai rfl (Qad (Qag [0,1] rfl ?_)))
  refine Qaa (v:=int .i64 0) rfl rfl rfl ?_
  refine Qaa (v:=bool false) rfl rfl rfl (Qac ?_)
  obtain rfl:=QsJ H
  refine Qaq Tryz.func42 (v:=tuple #[int .i64 0,bool false]) (resN (l:=Tryz.f42.results.toList) (vs:=[int .i64 0,bool false]) rfl ⟨rfl,rfl,trivial⟩ (by simp)) ?_
  have hs:St _ [] _:=St.take (Γ':=[]) hs
  exact ⟨_,rfl,rfl,hs⟩
def QaG.post (w0:World) (r:((List Int)×Int)) (v:Value) (w:World):Prop:=∃ u1:Value,v=tuple #[u1,int .i64 r.2]∧St w0 [Row 67 (K.int .i16) u1 r.1] w
theorem QaG.calls {N : Nat} {a1 : ByteArray} {w0 : World} {r : ((List Int) × Int)} (htab : Lib.TabIs Tryz.prog w0 "internal/strconv.uint64pow10" .u64 Lib.pow10Tab) (hmax : CellI w0 0) (hsyn : CellE w0 1) (hrng : CellE w0 2) (H : QaG.f N a1 = some r) :
 Calls Tryz.prog 14 #[string a1] w0 fun e w=>∃ v,e= .returned v∧QaG.post w0 r v w:=by
 unfold QaG.f at H
 have hs:St w0 [] w0:=St.refl w0
 refine calls_of_g (n:=33) Tryz.func14 rfl rfl ?_
 show G _ _ _ _ [_,_,_,_,_,_,_,_,_,_,_,_,_,_,_,_,_,_,_,_,_,_,_,_,_,_,_,_,_,_,_,_,_,_] _
 refine Qad (Qag [0,1] rfl ?_)
 refine Qaa (v:=slice none 0 0) rfl rfl rfl ?_
 refine Qaa (v:=int .i64 0) rfl rfl rfl ?_
 show G _ _ _ _ [_,_,_,_,_,_,_,_,_,_,_,_,_,_,_,_,_,_,_,_,_,_,_,_,_,_,_,_,_,_,_,_,_,_] _
 refine Qac (Qad (Qag [0,1] rfl ?_))
 refine QbJ (κ:=(K.int .i16)) hs rfl rfl rfl rfl (fun _=>rfl) ?_
 intro v2 w hs
 refine Qaa (v:=v2) rfl rfl rfl (Qac (Qad (Qad (Qag [0,1,2,3] rfl ?_))))
 refine Qaa (v:=string a1) rfl rfl rfl ?_
 obtain ⟨r4,Hr4,H⟩:=bind_get H
 refine Qaw (args:=[string a1,string (⟨#[32]⟩:ByteArray)]) rfl rfl (Qax rfl (callFunc_enter Tryz.func41 rfl rfl) rfl) (strings_Split.calls (a1:=a1) (a2:=(⟨#[32]⟩:ByteArray)) (hs.cellI hmax) Hr4) ?_
 intro v5 w hs2
 have hs:St _ [_,_] _:=hs.call hs2
 show G _ _ _ _ [_,_,_,_,_,_,_,_,_,_,_,_,_,_,_,_,_,_,_,_,_,_,_,_,_,_,_,_,_,_,_,_,_,_] _
 refine Qba (hs.row 0 rfl) rfl rfl rfl rfl rfl ?_
 refine Qaa (v:=int .i64 0) rfl rfl rfl (Qac ?_)
 obtain ⟨o1_,Ho,Hr1_⟩:=bind_get H
 refine QaC (J:=fun t w=>∃ v17:Value,∃ x18:(List Int),QaG.a0 N x18=some r∧Fr t (fun O=>([O 0,O 1,O 2,O 3,v17,O 5,O 6,O 7,O 8,O 9,O 10,O 11,O 12,O 13,O 14,O 15,O 16,O 17,O 18,O 19,O 20,O 21,O 22,O 23,O 24,O 25,O 26,O 27,O 28,O 29,O 30,O 31,O 32,O 33]:List Value))∧St w0 [Row 67 (K.int .i16) v17 x18] w) ?_ ?_
 ·
  rintro t w ⟨v17,x18,H,hf,hs⟩
  obtain ⟨O,rfl⟩:=hf.open
  show G _ _ _ _ [_,_,_,_,_,_,_,_,_,_,_,_,_,_,_,_,_,_,_,_,_,_,_,_,_,_,_,_,_,_,_,_,_,_] _
  unfold QaG.a0 at H
  refine Qad (Qad (Qag [0,1,2] rfl ?_))
  refine Qaa (v:=v17) rfl rfl rfl ?_
  obtain ⟨r20,Hr20,H⟩:=bind_get H
  refine Qaw (args:=[v17]) rfl rfl (Qax rfl (callFunc_enter Tryz.func21 rfl rfl) rfl) (QaE.calls (a1:=x18) (hs.row 0 rfl) Hr20) ?_
  rintro _ w ⟨rfl,hs2⟩
  have hs:St _ [_] _:=hs.call hs2
  cases r20 with
  |true=>
   rw [if_pos rfl] at H
   refine Qaa (v:=bool false) rfl rfl rfl ?_
   show G _ _ _ _ [_,_,_,_,_,_,_,_,_,_,_,_,_,_,_,_,_,_,_,_,_,_,_,_,_,_,_,_,_,_,_,_,_,_] _
   refine Qac (Qal rfl (Qay (Qad (Qag [0,1,2] rfl ?_))))
   refine Qaa (v:=v17) rfl rfl rfl ?_
   refine Qaa (v:=v17) rfl rfl rfl ?_
   refine Qaa (v:=int .i64 0) rfl rfl rfl (Qac ?_)
   obtain rfl:=QsJ H
   refine Qaq Tryz.func14 (v:=tuple #[v17,int .i64 0]) (resN (l:=Tryz.f14.results.toList) (vs:=[v17,int .i64 0]) rfl ⟨rfl,rfl,trivial⟩ (by simp)) ?_
   have hs:=hs.pull 0 rfl
   have hs:St _ [_] _:=St.take (Γ':=[]) hs
   exact ⟨_,rfl,v17,rfl,hs⟩
  |false=>
   rw [if_neg Bool.false_ne_true] at H
   refine Qaa (v:=bool true) rfl rfl rfl (Qac (Qai rfl (Qad (Qag [0,1] rfl ?_))))
   refine Qaa (v:=slice none 0 0) rfl rfl rfl ?_
   show G _ _ _ _ [_,_,_,_,_,_,_,_,_,_,_,_,_,_,_,_,_,_,_,_,_,_,_,_,_,_,_,_,_,_,_,_,_,_] _
   refine Qaa (v:=int .i64 5) rfl rfl rfl (Qac ?_)
   obtain rfl:=QsJ H
   refine Qaq Tryz.func14 (v:=tuple #[slice none 0 0,int .i64 5]) (resN (l:=Tryz.f14.results.toList) (vs:=[slice none 0 0,int .i64 5]) rfl ⟨rfl,rfl,trivial⟩ (by simp)) ?_
   have hs:=hs.nil 67 (K.int .i16)
   have hs:=hs.pull 0 rfl
   have hs:St _ [_] _:=St.take (Γ':=[_]) hs
   exact ⟨_,rfl,(slice none 0 0),rfl,hs⟩
 intro ha1_
 have hs:=hs.pull 0 rfl
 have hs:=hs.pull 1 rfl
 have hs:St _ [_,_] _:=St.take (Γ':=[]) hs
 refine QaP (I:=fun n_ t w=>∃ v8:Value,∃ x9:(List Int),∃ x10:Int,rounds (fun s=>QaG.b0 N r4 s.1 s.2) n_ (x9,x10)=some o1_∧Fr t (fun O=>([O 0,O 1,O 2,O 3,v8,O 5,O 6,O 7,O 8,O 9,O 10,v5,int .i64 (r4.length:Int),int .i64 x10,O 14,O 15,O 16,O 17,O 18,O 19,O 20,O 21,O 22,O 23,O 24,O 25,O 26,O 27,O 28,O 29,O 30,O 31,O 32,O 33]:List Value))∧St w0 [Row 67 (K.int .i16) v8 x9,Row 9 K.str v5 r4] w) N ⟨v2,([]:List Int),0,Ho,rfl,hs⟩ ?_ ?_
 ·
  rintro _ _ ⟨v8,x9,x10,h,_⟩
  exact rounds_zero h
 intro n_ ih1_
 rintro t w ⟨v8,x9,x10,Ho,hf,hs⟩
 obtain ⟨O,rfl⟩:=hf.open
 show G _ _ _ _ [_,_,_,_,_,_,_,_,_,_,_,_,_,_,_,_,_,_,_,_,_,_,_,_,_,_,_,_,_,_,_,_,_,_] _
 obtain ⟨x2_,H,Hx1_⟩:=rounds_succ Ho
 have H:QaG.b0 N r4 x9 x10=some x2_:=H
 unfold QaG.b0 at H
 refine Qad (Qag [0] rfl ?_)
 refine Qas (B:=decide (x10< (r4.length:Int))) rfl rfl rfl ?_ ?_
 ·
  intro hb
  rw [if_pos (b_dec_t hb)] at H
  show G _ _ _ _ [_,_,_,_,_,_,_,_,_,_,_,_,_,_,_,_,_,_,_,_,_,_,_,_,_,_,_,_,_,_,_,_,_,_] _
  refine Qac (Qad (Qai rfl (Qay (Qad ?_))))
  refine Qbe (Qad (Qag [0,1,2] rfl ?_))
  obtain ⟨g1,H⟩:=ite_get H
  refine Qa6 fkS (⟨#[]⟩:ByteArray) (hs.row 1 rfl) rfl (fun _=>rfl) g1.1 g1.2 rfl rfl rfl rfl rfl ?_
  intro p11 hp11 lp11 op11
  refine QaA rfl rfl (v:=string (rdL r4 x10 (⟨#[]⟩:ByteArray))) rfl rfl (fun _=>rfl) hp11 ?_
  refine Qaa (v:=string (rdL r4 x10 (⟨#[]⟩:ByteArray))) rfl rfl rfl ?_
  show G _ _ _ _ [_,_,_,_,_,_,_,_,_,_,_,_,_,_,_,_,_,_,_,_,_,_,_,_,_,_,_,_,_,_,_,_,_,_] _
  refine Qac (Qad (Qag [0,1,2,3,4,5,6] rfl ?_))
  refine Qaa (v:=string (rdL r4 x10 (⟨#[]⟩:ByteArray))) rfl rfl rfl ?_
  obtain ⟨r12,Hr12,H⟩:=bind_get H
  refine Qaw (args:=[string (rdL r4 x10 (⟨#[]⟩:ByteArray)),int .i64 2000]) rfl rfl (Qax rfl (callFunc_enter Tryz.func42 rfl rfl) rfl) (QbB.calls (a1:=rdL r4 x10 (⟨#[]⟩:ByteArray)) (a2:=2000) (hs.tab htab) (hs.cellE hsyn) (hs.cellE hrng) Hr12) ?_
  rintro _ w ⟨rfl,hs2⟩
  have hs:St _ [_,_] _:=hs.call hs2
  refine Qaa (v:=tuple #[int .i64 r12.1,bool r12.2]) rfl rfl rfl ?_
  refine Qaa (v:=int .i64 r12.1) rfl rfl rfl ?_
  refine Qaa (v:=bool r12.2) rfl rfl rfl ?_
  refine Qaa (v:=int .i64 r12.1) rfl rfl rfl ?_
  refine Qaa (v:=bool r12.2) rfl rfl rfl ?_
  show G _ _ _ _ [_,_,_,_,_,_,_,_,_,_,_,_,_,_,_,_,_,_,_,_,_,_,_,_,_,_,_,_,_,_,_,_,_,_] _
  refine Qac (Qad (Qad (Qag [0,1] rfl ?_)))
  refine Qas (B:=r12.2) rfl rfl rfl ?_ ?_
  ·
   intro hb
   rw [if_pos (b_var_t hb)] at H
   refine Qaa (v:=bool false) rfl rfl rfl (Qac (Qal rfl (Qay (Qag [0,1,2,3,4,5] rfl ?_))))
   refine Qaa (v:=v8) rfl rfl rfl ?_
   refine Qaa (v:=int .i64 r12.1) rfl rfl rfl ?_
   refine Qaa (v:=int .i16 (i16w r12.1)) rfl rfl rfl ?_
   show G _ _ _ _ [_,_,_,_,_,_,_,_,_,_,_,_,_,_,_,_,_,_,_,_,_,_,_,_,_,_,_,_,_,_,_,_,_,_] _
   refine QbL (fkI .i16) (y:=i16w r12.1) hs rfl rfl rfl rfl (fun _=>rfl) (zv:=(int .i16 0)) (fun _=>rfl) rfl (by decide) (by decide) rfl ?_
   intro v13 w hs
   show G _ _ _ _ [_,_,_,_,_,_,_,_,_,_,_,_,_,_,_,_,_,_,_,_,_,_,_,_,_,_,_,_,_,_,_,_,_,_] _
   have hs:St _ [_,_,_] _:=hs.pull 1 rfl
   obtain ⟨g,H⟩:=ite_get H
   refine QbI (fkI .i16) (zv:=(int .i16 0)) (B:=2) hs (hs.row 1 rfl) rfl rfl rfl rfl rfl rfl rfl rfl rfl (by decide) rfl rfl (by decide) (by omega) ?_
   intro v15 w hs
   refine Qaa (v:=v15) rfl rfl rfl (Qac ?_)
   refine QaH (Qag [0,1] rfl ?_)
   refine Qaa (v:=int .i64 (i64w (x10+1))) rfl rfl rfl ?_
   show G _ _ _ _ [_,_,_,_,_,_,_,_,_,_,_,_,_,_,_,_,_,_,_,_,_,_,_,_,_,_,_,_,_,_,_,_,_,_] _
   refine Qaa (v:=int .i64 (i64w (x10+1))) rfl rfl rfl (Qac ?_)
   obtain rfl:=QsJ H
   have hs:=hs.pull 2 rfl
   have hs:=hs.pull 1 rfl
   have hs:St _ [_,_] _:=St.take (Γ':=[_]) hs
   exact ih1_ _ _ ⟨v15,x9++([i16w r12.1]),i64w (x10+1),Hx1_,rfl,hs⟩
  intro hb
  rw [if_neg (b_var_f hb)] at H
  refine Qaa (v:=bool true) rfl rfl rfl (Qac (Qai rfl (Qad (Qag [0,1] rfl ?_))))
  refine Qaa (v:=slice none 0 0) rfl rfl rfl ?_
  refine Qaa (v:=int .i64 5) rfl rfl rfl ?_
  show G _ _ _ _ [_,_,_,_,_,_,_,_,_,_,_,_,_,_,_,_,_,_,_,_,_,_,_,_,_,_,_,_,_,_,_,_,_,_] _
  refine Qac ?_
  obtain rfl:=QsJ H
  subst Hx1_
  have H:=QsJ Hr1_
  subst H
  refine Qaq Tryz.func14 (v:=tuple #[slice none 0 0,int .i64 5]) (resN (l:=Tryz.f14.results.toList) (vs:=[slice none 0 0,int .i64 5]) rfl ⟨rfl,rfl,trivial⟩ (by simp)) ?_
  have hs:=hs.nil 67 (K.int .i16)
  have hs:=hs.pull 0 rfl
  have hs:St _ [_] _:=St.take (Γ':=[_,_]) hs
  exact ⟨_,rfl,(slice none 0 0),rfl,hs⟩
 intro hb
 rw [if_neg (b_dec_f hb)] at H
 refine Qac (Qad (Qal rfl ?_))
 obtain rfl:=QsJ H
 subst Hx1_
 have hs:=hs.pull 0 rfl
 have hs:St _ [_] _:=St.take (Γ':=[_]) hs
 refine Qbc rfl ?_
 exact ha1_ _ _ ⟨v8,x9,Hr1_,rfl,hs⟩
def Qa9.post (w0:World) (r:(ByteArray×Bool)) (v:Value) (w:World):Prop:=v=tuple #[string r.1,bool r.2]∧St w0 [] w
theorem Qa9.calls {N:Nat} {a1:(List Int)} {v2:Value} {w0:World} {r:(ByteArray×Bool)} (hr0:RdRow (K.int .i8) w0 v2 a1) (H:Qa9.f N a1=some r):
 Calls Tryz.prog 48 #[v2] w0 fun e w=>∃ v,e= .returned v∧Qa9.post w0 r v w:=by
 unfold Qa9.f at H
 have hs:St w0 [] w0:=St.refl w0
 refine calls_of_g (n:=28) Tryz.func48 rfl rfl ?_
 show G _ _ _ _ [_,_,_,_,_,_,_,_,_,_,_,_,_,_,_,_,_,_,_,_,_,_,_,_,_,_,_,_,_] _
 refine Qad (Qag [0,1] rfl ?_)
 refine Qaa (v:=string (⟨#[]⟩:ByteArray)) rfl rfl rfl ?_
 show G _ _ _ _ [_,_,_,_,_,_,_,_,_,_,_,_,_,_,_,_,_,_,_,_,_,_,_,_,_,_,_,_,_] _
 refine Qaa (v:=bool false) rfl rfl rfl (Qac (Qad (Qag [0,1] rfl ?_)))
 refine QbJ (κ:=(K.int .u8)) hs rfl rfl rfl rfl (fun _=>rfl) ?_
 intro v3 w hs
 refine Qaa (v:=v3) rfl rfl rfl ?_
 show G _ _ _ _ [_,_,_,_,_,_,_,_,_,_,_,_,_,_,_,_,_,_,_,_,_,_,_,_,_,_,_,_,_] _
 refine Qac (Qad (Qad (Qag [0,1,2] rfl ?_)))
 refine Qaa (v:=v2) rfl rfl rfl ?_
 refine Qba (hs.rd hr0) rfl rfl rfl rfl rfl ?_
 refine Qaa (v:=int .i64 0) rfl rfl rfl (Qac ?_)
 obtain ⟨o1_,Ho,Hr1_⟩:=bind_get H
 refine QaC (J:=fun t w=>∃ v14:Value,∃ x15:(List Int),Qa9.a0 N x15=some r∧Fr t (fun O=>([O 0,O 1,O 2,O 3,v14,O 5,O 6,O 7,O 8,O 9,O 10,O 11,O 12,O 13,O 14,O 15,O 16,O 17,O 18,O 19,O 20,O 21,O 22,O 23,O 24,O 25,O 26,O 27,O 28]:List Value))∧St w0 [Row 5 (K.int .u8) v14 x15] w) ?_ ?_
 ·
  rintro t w ⟨v14,x15,H,hf,hs⟩
  obtain ⟨O,rfl⟩:=hf.open
  show G _ _ _ _ [_,_,_,_,_,_,_,_,_,_,_,_,_,_,_,_,_,_,_,_,_,_,_,_,_,_,_,_,_] _
  unfold Qa9.a0 at H
  refine Qad (Qag [0,1,2,3] rfl ?_)
  refine Qaa (v:=v14) rfl rfl rfl ?_
  refine Qaa (v:=string (bsOf x15)) rfl rfl (Qcr rfl rfl rfl rfl rfl (hs.row 0 rfl)) ?_
  refine Qaa (v:=string (bsOf x15)) rfl rfl rfl ?_
  refine Qaa (v:=bool true) rfl rfl rfl (Qac ?_)
  obtain rfl:=QsJ H
  refine Qaq Tryz.func48 (v:=tuple #[string (bsOf x15),bool true]) (resN (l:=Tryz.f48.results.toList) (vs:=[string (bsOf x15),bool true]) rfl ⟨rfl,rfl,trivial⟩ (by simp)) ?_
  have hs:St _ [] _:=St.take (Γ':=[_]) hs
  exact ⟨_,rfl,rfl,hs⟩
 intro ha1_
 have hs:=hs.pull 0 rfl
 have hs:St _ [_] _:=St.take (Γ':=[]) hs
 refine QaP (I:=fun n_ t w=>∃ v6:Value,∃ x7:(List Int),∃ x8:Int,rounds (fun s=>Qa9.b0 N a1 s.1 s.2) n_ (x7,x8)=some o1_∧Fr t (fun O=>([O 0,O 1,O 2,O 3,v6,O 5,O 6,O 7,v2,int .i64 (a1.length:Int),int .i64 x8,O 11,O 12,O 13,O 14,O 15,O 16,O 17,O 18,O 19,O 20,O 21,O 22,O 23,O 24,O 25,O 26,O 27,O 28]:List Value))∧St w0 [Row 5 (K.int .u8) v6 x7] w) N ⟨v3,([]:List Int),0,Ho,rfl,hs⟩ ?_ ?_
 ·
  rintro _ _ ⟨v6,x7,x8,h,_⟩
  exact rounds_zero h
 intro n_ ih1_
 rintro t w ⟨v6,x7,x8,Ho,hf,hs⟩
 obtain ⟨O,rfl⟩:=hf.open
 show G _ _ _ _ [_,_,_,_,_,_,_,_,_,_,_,_,_,_,_,_,_,_,_,_,_,_,_,_,_,_,_,_,_] _
 obtain ⟨x3_,H,Hx1_⟩:=rounds_succ Ho
 have H:Qa9.b0 N a1 x7 x8=some x3_:=H
 unfold Qa9.b0 at H
 refine Qad (Qag [0] rfl ?_)
 refine Qas (B:=decide (x8< (a1.length:Int))) rfl rfl rfl ?_ ?_
 ·
  intro hb
  rw [if_pos (b_dec_t hb)] at H
  show G _ _ _ _ [_,_,_,_,_,_,_,_,_,_,_,_,_,_,_,_,_,_,_,_,_,_,_,_,_,_,_,_,_] _
  refine Qac (Qad (Qai rfl (Qay (Qad ?_))))
  refine Qbe (Qad (Qag [0,1,2] rfl ?_))
  obtain ⟨g1,H⟩:=ite_get H
  refine Qa6 (fkI .i8) 0 (hs.rd hr0) rfl (fun _=>rfl) g1.1 g1.2 rfl rfl rfl rfl rfl ?_
  intro p9 hp9 lp9 op9
  refine QaA rfl rfl (v:=int .i8 (rdL a1 x8 0)) rfl rfl (fun _=>rfl) hp9 ?_
  refine Qaa (v:=int .i8 (rdL a1 x8 0)) rfl rfl rfl ?_
  show G _ _ _ _ [_,_,_,_,_,_,_,_,_,_,_,_,_,_,_,_,_,_,_,_,_,_,_,_,_,_,_,_,_] _
  refine Qac (Qad (Qad (Qag [0,1,2,3,4,5] rfl ?_)))
  refine Qaa (v:=int .i8 (rdL a1 x8 0)) rfl rfl rfl ?_
  refine Qas (B:=decide ((rdL a1 x8 0)< (-1))) rfl rfl rfl ?_ ?_
  ·
   intro hb
   rw [if_pos (b_dec_t hb)] at H
   refine Qaa (v:=bool true) rfl rfl rfl (Qab rfl rfl (Qab rfl rfl ?_))
   show G _ _ _ _ [_,_,_,_,_,_,_,_,_,_,_,_,_,_,_,_,_,_,_,_,_,_,_,_,_,_,_,_,_] _
   refine Qaa (v:=bool true) rfl rfl rfl (Qac (Qai rfl (Qad (Qag [0,1] rfl ?_))))
   refine Qaa (v:=string (⟨#[]⟩:ByteArray)) rfl rfl rfl ?_
   refine Qaa (v:=bool false) rfl rfl rfl ?_
   show G _ _ _ _ [_,_,_,_,_,_,_,_,_,_,_,_,_,_,_,_,_,_,_,_,_,_,_,_,_,_,_,_,_] _
   refine Qac ?_
   obtain rfl:=QsJ H
   subst Hx1_
   have H:=QsJ Hr1_
   subst H
   refine Qaq Tryz.func48 (v:=tuple #[string (⟨#[]⟩:ByteArray),bool false]) (resN (l:=Tryz.f48.results.toList) (vs:=[string (⟨#[]⟩:ByteArray),bool false]) rfl ⟨rfl,rfl,trivial⟩ (by simp)) ?_
   have hs:St _ [] _:=St.take (Γ':=[_]) hs
   exact ⟨_,rfl,rfl,hs⟩
  intro hb
  rw [if_neg (b_dec_f hb)] at H
  refine Qaa (v:=bool false) rfl rfl rfl ?_
  refine Qaa (v:=int .i8 (rdL a1 x8 0)) rfl rfl rfl ?_
  refine Qas (B:=decide ((rdL a1 x8 0)>1)) rfl rfl rfl ?_ ?_
  ·
   intro hb
   rw [if_pos (b_dec_t hb)] at H
   refine Qaa (v:=bool true) rfl rfl rfl (Qac (Qai rfl (Qad (Qag [0,1] rfl ?_))))
   refine Qaa (v:=string (⟨#[]⟩:ByteArray)) rfl rfl rfl ?_
   show G _ _ _ _ [_,_,_,_,_,_,_,_,_,_,_,_,_,_,_,_,_,_,_,_,_,_,_,_,_,_,_,_,_] _
   refine Qaa (v:=bool false) rfl rfl rfl (Qac ?_)
   obtain rfl:=QsJ H
   subst Hx1_
   have H:=QsJ Hr1_
   subst H
   refine Qaq Tryz.func48 (v:=tuple #[string (⟨#[]⟩:ByteArray),bool false]) (resN (l:=Tryz.f48.results.toList) (vs:=[string (⟨#[]⟩:ByteArray),bool false]) rfl ⟨rfl,rfl,trivial⟩ (by simp)) ?_
   have hs:St _ [] _:=St.take (Γ':=[_]) hs
   exact ⟨_,rfl,rfl,hs⟩
  intro hb
  rw [if_neg (b_dec_f hb)] at H
  refine Qaa (v:=bool false) rfl rfl rfl ?_
  show G _ _ _ _ [_,_,_,_,_,_,_,_,_,_,_,_,_,_,_,_,_,_,_,_,_,_,_,_,_,_,_,_,_] _
  refine Qac (Qal rfl (Qay (Qag [0,1,2,3,4,5,6] rfl ?_)))
  refine Qaa (v:=v6) rfl rfl rfl ?_
  refine Qaa (v:=int .i8 (rdL a1 x8 0)) rfl rfl rfl ?_
  refine Qaa (v:=int .i8 (i8w ((rdL a1 x8 0)+1))) rfl rfl rfl ?_
  obtain ⟨g2,H⟩:=ite_get H
  refine Qaa (v:=int .u8 (btS (⟨#[45,48,43]⟩:ByteArray) (i8w ((rdL a1 x8 0)+1)))) rfl rfl (Qcb rfl rfl rfl rfl g2.1 g2.2) ?_
  show G _ _ _ _ [_,_,_,_,_,_,_,_,_,_,_,_,_,_,_,_,_,_,_,_,_,_,_,_,_,_,_,_,_] _
  refine QbL (fkI .u8) (y:=btS (⟨#[45,48,43]⟩:ByteArray) (i8w ((rdL a1 x8 0)+1))) hs rfl rfl rfl rfl (fun _=>rfl) (zv:=(int .u8 0)) (fun _=>rfl) rfl (by decide) (by decide) rfl ?_
  intro v10 w hs
  show G _ _ _ _ [_,_,_,_,_,_,_,_,_,_,_,_,_,_,_,_,_,_,_,_,_,_,_,_,_,_,_,_,_] _
  have hs:St _ [_,_] _:=hs.pull 1 rfl
  obtain ⟨g,H⟩:=ite_get H
  refine QbI (fkI .u8) (zv:=(int .u8 0)) (B:=1) hs (hs.row 1 rfl) rfl rfl rfl rfl rfl rfl rfl rfl rfl (by decide) rfl rfl (by decide) (by omega) ?_
  intro v12 w hs
  refine Qaa (v:=v12) rfl rfl rfl (Qac ?_)
  refine QaH (Qag [0,1] rfl ?_)
  refine Qaa (v:=int .i64 (i64w (x8+1))) rfl rfl rfl ?_
  show G _ _ _ _ [_,_,_,_,_,_,_,_,_,_,_,_,_,_,_,_,_,_,_,_,_,_,_,_,_,_,_,_,_] _
  refine Qaa (v:=int .i64 (i64w (x8+1))) rfl rfl rfl (Qac ?_)
  obtain rfl:=QsJ H
  have hs:=hs.pull 0 rfl
  have hs:St _ [_] _:=St.take (Γ':=[_]) hs
  exact ih1_ _ _ ⟨v12,x7++([btS (⟨#[45,48,43]⟩:ByteArray) (i8w ((rdL a1 x8 0)+1))]),i64w (x8+1),Hx1_,rfl,hs⟩
 intro hb
 rw [if_neg (b_dec_f hb)] at H
 refine Qac (Qad (Qal rfl ?_))
 obtain rfl:=QsJ H
 subst Hx1_
 have hs:=hs.pull 0 rfl
 have hs:St _ [_] _:=St.take (Γ':=[]) hs
 refine Qbc rfl ?_
 exact ha1_ _ _ ⟨v6,x7,Hr1_,rfl,hs⟩
end Go.Proofs.YtmineidejeacnaaGreatDoorX
