import Derived.Test.YtljkpeeabpdalaaDoorP10
namespace Go.Proofs.YtljkpeeabpdalaaDoorX
open Go Go.RowKit Go.Proofs
open Go.Value (int pointer bool agg slice string tuple)
set_option maxHeartbeats 8000000
set_option maxRecDepth 100000
set_option linter.unusedVariables false
set_option linter.unusedSimpArgs false
def QaK.post (wb:World) (Z:As) (v2:Value) (r:(Int×(List Qar))) (v:Value) (w:World):Prop:=v=int .i64 r.1∧St wb [Row 55 Qav v2 r.2,Z] w
theorem QaK.calls {N:Nat} {a1:(List Qar)} {a4:Int} {v2:Value} {wb:World} {Z:As} {w0:World} {r:(Int×(List Qar))} (hs:St wb [Row 55 Qav v2 a1,Z] w0) (H:QaK.f N a1 a4=some r):
 Calls Tryd.prog 33 #[v2,int .i64 a4] w0 fun e w=>∃ v,e= .returned v∧QaK.post wb Z v2 r v w:=by
 unfold QaK.f at H
 refine calls_of_g (n:=28) Tryd.func33 rfl rfl ?_
 show G _ _ _ _ [_,_,_,_,_,_,_,_,_,_,_,_,_,_,_,_,_,_,_,_,_,_,_,_,_,_,_,_,_,_] _
 refine Qac (Qaj [0] rfl ?_)
 refine Qaa (v:=int .i64 0) rfl rfl rfl ?_
 show G _ _ _ _ [_,_,_,_,_,_,_,_,_,_,_,_,_,_,_,_,_,_,_,_,_,_,_,_,_,_,_,_,_,_] _
 refine Qab (Qac (Qac (Qaj [0] rfl ?_)))
 refine Qaa (v:=int .i64 0) rfl rfl rfl (Qab ?_)
 obtain ⟨o1_,Ho,Hr1_⟩:=bind_get H
 refine QaR (J:=fun t w=>∃ x14:Int,∃ x15:(List Qar),QaK.a0 N x14 x15=some r∧Fr t (fun O=>([O 0,int .i64 x14,O 2,O 3,O 4,O 5,O 6,O 7,O 8,O 9,O 10,O 11,O 12,O 13,O 14,O 15,O 16,O 17,O 18,O 19,O 20,O 21,O 22,O 23,O 24,O 25,O 26,O 27,O 28,O 29]:List Value))∧St wb [Row 55 Qav v2 x15,Z] w) ?_ ?_
 ·
  rintro t w ⟨x14,x15,H,hf,hs⟩
  obtain ⟨O,rfl⟩:=hf.open
  show G _ _ _ _ [_,_,_,_,_,_,_,_,_,_,_,_,_,_,_,_,_,_,_,_,_,_,_,_,_,_,_,_,_,_] _
  unfold QaK.a0 at H
  refine Qac (Qaj [0,1] rfl ?_)
  refine Qaa (v:=int .i64 x14) rfl rfl rfl ?_
  refine Qaa (v:=int .i64 x14) rfl rfl rfl ?_
  show G _ _ _ _ [_,_,_,_,_,_,_,_,_,_,_,_,_,_,_,_,_,_,_,_,_,_,_,_,_,_,_,_,_,_] _
  refine Qab ?_
  obtain rfl:=QsJ H
  refine Qau Tryd.func33 (v:=int .i64 x14) (res1 rfl rfl) ?_
  have hs:=hs.pull 1 rfl
  have hs:=hs.pull 1 rfl
  have hs:St _ [_,_] _:=St.take (Γ':=[]) hs
  exact ⟨_,rfl,rfl,hs⟩
 intro ha1_
 have hs:=hs.pull 1 rfl
 have hs:=hs.pull 1 rfl
 have hs:St _ [_,_] _:=St.take (Γ':=[]) hs
 refine QaY (I:=fun n_ t w=>∃ x9:(List Qar),∃ x10:Int,∃ x11:Int,rounds (fun s=>QaK.b0 N s.1 s.2.1 s.2.2) n_ (x9,x10,x11)=some o1_∧Fr t (fun O=>([v2,int .i64 x10,O 2,O 3,O 4,int .i64 x11,O 6,O 7,O 8,O 9,O 10,O 11,O 12,O 13,O 14,O 15,O 16,O 17,O 18,O 19,O 20,O 21,O 22,O 23,O 24,O 25,O 26,O 27,O 28,O 29]:List Value))∧St wb [Row 55 Qav v2 x9,Z] w) N ⟨a1,a4,0,Ho,rfl,hs⟩ ?_ ?_
 ·
  rintro _ _ ⟨x9,x10,x11,h,_⟩
  exact rounds_zero h
 intro n_ ih1_
 rintro t w ⟨x9,x10,x11,Ho,hf,hs⟩
 obtain ⟨O,rfl⟩:=hf.open
 show G _ _ _ _ [_,_,_,_,_,_,_,_,_,_,_,_,_,_,_,_,_,_,_,_,_,_,_,_,_,_,_,_,_,_] _
 obtain ⟨x5_,H,Hx1_⟩:=rounds_succ Ho
 have H:QaK.b0 N x9 x10 x11=some x5_:=H
 unfold QaK.b0 at H
 refine Qac (Qac (Qaj [0,1,2,3] rfl ?_))
 refine Qaa (v:=int .i64 x11) rfl rfl rfl ?_
 refine Qaa (v:=v2) rfl rfl rfl ?_
 refine Qbn (hs.row 0 rfl) rfl rfl rfl rfl rfl ?_
 refine Qas (B:=decide (x11< (x9.length:Int))) rfl rfl rfl ?_ ?_
 ·
  intro hb
  rw [if_pos (b_dec_t hb)] at H
  refine Qab (Qak rfl (Qaw (Qac ?_)))
  refine Qbd (Qac (Qaj [0,1,2,3,4,5,6] rfl ?_))
  refine Qaa (v:=v2) rfl rfl rfl ?_
  refine Qaa (v:=int .i64 x11) rfl rfl rfl ?_
  refine Qaa (v:=int .i64 x10) rfl rfl rfl ?_
  refine Qaa (v:=int .u64 (u64w x10)) rfl rfl rfl ?_
  obtain ⟨g3,H⟩:=ite_get H
  refine Qbl QaL Qat (hs.row 0 rfl) rfl (fun _=>rfl) g3.1 g3.2 rfl rfl rfl rfl rfl ?_
  intro p12 hp12 lp12 op12
  refine Qaa (v:=pointer (some (p12.add 0))) rfl rfl (Qbq rfl rfl rfl rfl rfl (m:=1) (fun _=>rfl) (by decide)) ?_
  refine QbM (y:=(⟨u64w x10,(rdL x9 x11 Qat).Qa1⟩:Qar)) (off:=0) (fs:=((encI .u64) (u64w x10))) QaL Qat g3.1 g3.2 op12 hs rfl rfl rfl rfl rfl (fun _=>rfl) ((fkI .u64).len _) ((fkI .u64).one _) (by decide) (by first|rfl|simp [Qay,encAI_len,encAB_len,encA_len]) ?_
  intro w hs
  refine Qab (Qac (Qaj [0,1,2] rfl ?_))
  refine Qaa (v:=int .i64 x10) rfl rfl rfl ?_
  refine Qaa (v:=int .i64 (i64w (x10+1))) rfl rfl rfl ?_
  show G _ _ _ _ [_,_,_,_,_,_,_,_,_,_,_,_,_,_,_,_,_,_,_,_,_,_,_,_,_,_,_,_,_,_] _
  refine Qaa (v:=int .i64 (i64w (x10+1))) rfl rfl rfl (Qab (Qac (Qaj [0,1,2,3,4,5,6,7] rfl ?_)))
  refine Qaa (v:=v2) rfl rfl rfl ?_
  refine Qaa (v:=int .i64 x11) rfl rfl rfl ?_
  refine Qaa (v:=int .i64 (i64w (x10+1))) rfl rfl rfl ?_
  refine Qaa (v:=int .i64 ((i64w (x10+1)).tmod 3)) rfl rfl rfl ?_
  refine Qaa (v:=bool (((i64w (x10+1)).tmod 3)==0)) rfl rfl rfl ?_
  show G _ _ _ _ [_,_,_,_,_,_,_,_,_,_,_,_,_,_,_,_,_,_,_,_,_,_,_,_,_,_,_,_,_,_] _
  obtain ⟨g4,H⟩:=ite_get H
  refine Qbl QaL Qat (hs.row 0 rfl) rfl (fun _=>rfl) g4.1 g4.2 rfl rfl rfl rfl rfl ?_
  intro p13 hp13 lp13 op13
  refine Qaa (v:=pointer (some (p13.add 1))) rfl rfl (Qbq rfl rfl rfl rfl rfl (m:=1) (fun _=>rfl) (by decide)) ?_
  refine QbM (y:=(⟨(rdL (stL x9 x11 (⟨u64w x10,(rdL x9 x11 Qat).Qa1⟩:Qar)) x11 Qat).QaO,((i64w (x10+1)).tmod 3)==0⟩:Qar)) (off:=1) (fs:=(encB (((i64w (x10+1)).tmod 3)==0))) QaL Qat g4.1 g4.2 op13 hs rfl rfl rfl rfl rfl (fun _=>rfl) (fkB.len _) (fkB.one _) (by decide) (by first|rfl|simp [Qay,encAI_len,encAB_len,encA_len]) ?_
  intro w hs
  refine Qab (Qaj [0,1,2] rfl ?_)
  refine Qaa (v:=int .i64 (i64w (x10+1))) rfl rfl rfl ?_
  refine Qaa (v:=int .i64 (i64w ((i64w (x10+1))+1))) rfl rfl rfl ?_
  refine Qaa (v:=int .i64 (i64w ((i64w (x10+1))+1))) rfl rfl rfl ?_
  show G _ _ _ _ [_,_,_,_,_,_,_,_,_,_,_,_,_,_,_,_,_,_,_,_,_,_,_,_,_,_,_,_,_,_] _
  refine Qab ?_
  refine QaD (Qaj [0,1,2] rfl ?_)
  refine Qaa (v:=int .i64 x11) rfl rfl rfl ?_
  refine Qaa (v:=int .i64 (i64w (x11+1))) rfl rfl rfl ?_
  refine Qaa (v:=int .i64 (i64w (x11+1))) rfl rfl rfl (Qab ?_)
  obtain rfl:=QsJ H
  have hs:=hs.pull 1 rfl
  have hs:=hs.pull 1 rfl
  have hs:St _ [_,_] _:=St.take (Γ':=[]) hs
  exact ih1_ _ _ ⟨stL (stL x9 x11 (⟨u64w x10,(rdL x9 x11 Qat).Qa1⟩:Qar)) x11 (⟨(rdL (stL x9 x11 (⟨u64w x10,(rdL x9 x11 Qat).Qa1⟩:Qar)) x11 Qat).QaO,((i64w (x10+1)).tmod 3)==0⟩:Qar),i64w ((i64w (x10+1))+1),i64w (x11+1),Hx1_,rfl,hs⟩
 intro hb
 rw [if_neg (b_dec_f hb)] at H
 show G _ _ _ _ [_,_,_,_,_,_,_,_,_,_,_,_,_,_,_,_,_,_,_,_,_,_,_,_,_,_,_,_,_,_] _
 refine Qab (Qad rfl ?_)
 obtain rfl:=QsJ H
 subst Hx1_
 have hs:=hs.pull 1 rfl
 have hs:=hs.pull 1 rfl
 have hs:St _ [_,_] _:=St.take (Γ':=[]) hs
 refine Qbi rfl ?_
 exact ha1_ _ _ ⟨x10,x9,Hr1_,rfl,hs⟩
def Qa9.post (wb:World) (Z:As) (v2:Value) (r:(Int×(List Qar))) (v:Value) (w:World):Prop:=v=int .i64 r.1∧St wb [Row 55 Qav v2 r.2,Z] w
theorem Qa9.calls {N:Nat} {a1:Qao} {a4:Int} {v2:Value} {wb:World} {Z:As} {w0:World} {r:(Int×(List Qar))} (hs:St wb [Row 55 Qav v2 a1.Qap,Z] w0) (H:Qa9.f N a1 a4=some r):
 Calls Tryd.prog 12 #[agg (([int .i8 a1.Qai,int .i8 a1.Qaq,v2]:List Value)).toArray,int .i64 a4] w0 fun e w=>∃ v,e= .returned v∧Qa9.post wb Z v2 r v w:=by
 unfold Qa9.f at H
 refine calls_of_g (n:=8) Tryd.func12 rfl rfl ?_
 show G _ _ _ _ [_,_,_,_,_,_,_,_,_,_] _
 refine Qac (Qaj [0,1] rfl ?_)
 refine Qbp hs rfl rfl (cs:=(([int .i8 a1.Qai,int .i8 a1.Qaq,v2]:List Value))) rfl rfl ?_
 intro b5 w hs
 show G _ _ _ _ [_,_,_,_,_,_,_,_,_,_] _
 refine Qaa (v:=int .i64 0) rfl rfl rfl (Qab (Qac (Qaj [0,1,2,3,4] rfl ?_)))
 refine Qaa (v:=pointer (some ⟨b5,2,none⟩)) rfl rfl rfl ?_
 refine QaI rfl rfl (v:=v2) rfl rfl (fun _=>rfl) (cells_load (hs.cells 0 rfl) 2 1 rfl) ?_
 show G _ _ _ _ [_,_,_,_,_,_,_,_,_,_] _
 refine Qaa (v:=int .i64 a4) rfl rfl rfl ?_
 obtain ⟨r7,Hr7,H⟩:=bind_get H
 have hs:St _ [_,_,_] _:=hs.pull 1 rfl
 have hs:=hs.pack 1
 refine QaA (args:=[v2,int .i64 a4]) rfl rfl (Qax rfl (callFunc_enter Tryd.func33 rfl rfl) rfl) (QaK.calls (a1:=a1.Qap) (a4:=a4) hs Hr7) ?_
 rintro _ w ⟨rfl,hs⟩
 have hs:=St.unpack (Γ:=[_]) hs
 have hs:St _ [_,_,_] _:=hs
 refine Qaa (v:=int .i64 r7.1) rfl rfl rfl ?_
 show G _ _ _ _ [_,_,_,_,_,_,_,_,_,_] _
 refine Qab (Qac (Qaj [0,1] rfl ?_))
 refine Qaa (v:=int .i64 r7.1) rfl rfl rfl ?_
 refine Qaa (v:=int .i64 r7.1) rfl rfl rfl (Qab ?_)
 obtain rfl:=QsJ H
 refine Qau Tryd.func12 (v:=int .i64 r7.1) (res1 rfl rfl) ?_
 have hs:=hs.pull 2 rfl
 have hs:=hs.pull 1 rfl
 have hs:St _ [_,_] _:=St.take (Γ':=[_]) hs
 exact ⟨_,rfl,rfl,hs⟩
def QaJ.post (w0:World) (r:Int) (v:Value) (w:World):Prop:=v=int .i64 r∧St w0 [] w
theorem QaJ.calls {N:Nat} {a1:(List Qar)} {a3:Int} {v2:Value} {w0:World} {r:Int} (hr0:RdRow Qav w0 v2 a1) (H:QaJ.f N a1 a3=some r):
 Calls Tryd.prog 34 #[v2,int .i64 a3] w0 fun e w=>∃ v,e= .returned v∧QaJ.post w0 r v w:=by
 unfold QaJ.f at H
 have hs:St w0 [] w0:=St.refl w0
 refine calls_of_g (n:=32) Tryd.func34 rfl rfl ?_
 show G _ _ _ _ [_,_,_,_,_,_,_,_,_,_,_,_,_,_,_,_,_,_,_,_,_,_,_,_,_,_,_,_,_,_,_,_,_,_] _
 refine Qac (Qaj [0] rfl ?_)
 refine Qaa (v:=int .i64 0) rfl rfl rfl (Qab (Qac (Qac (Qaj [0] rfl ?_))))
 refine Qaa (v:=int .i64 0) rfl rfl rfl ?_
 show G _ _ _ _ [_,_,_,_,_,_,_,_,_,_,_,_,_,_,_,_,_,_,_,_,_,_,_,_,_,_,_,_,_,_,_,_,_,_] _
 refine Qab ?_
 obtain ⟨o1_,Ho,Hr1_⟩:=bind_get H
 refine QaR (J:=fun t w=>∃ x8:Int,QaJ.a0 N x8=some r∧Fr t (fun O=>([O 0,int .i64 x8,O 2,O 3,O 4,O 5,O 6,O 7,O 8,O 9,O 10,O 11,O 12,O 13,O 14,O 15,O 16,O 17,O 18,O 19,O 20,O 21,O 22,O 23,O 24,O 25,O 26,O 27,O 28,O 29,O 30,O 31,O 32,O 33]:List Value))∧St w0 [] w) ?_ ?_
 ·
  rintro t w ⟨x8,H,hf,hs⟩
  obtain ⟨O,rfl⟩:=hf.open
  show G _ _ _ _ [_,_,_,_,_,_,_,_,_,_,_,_,_,_,_,_,_,_,_,_,_,_,_,_,_,_,_,_,_,_,_,_,_,_] _
  unfold QaJ.a0 at H
  refine Qac (Qaj [0,1] rfl ?_)
  refine Qaa (v:=int .i64 x8) rfl rfl rfl ?_
  refine Qaa (v:=int .i64 x8) rfl rfl rfl (Qab ?_)
  obtain rfl:=QsJ H
  refine Qau Tryd.func34 (v:=int .i64 x8) (res1 rfl rfl) ?_
  have hs:St _ [] _:=St.take (Γ':=[]) hs
  exact ⟨_,rfl,rfl,hs⟩
 intro ha1_
 have hs:St _ [] _:=St.take (Γ':=[]) hs
 refine QaY (I:=fun n_ t w=>∃ x4:Int,∃ x5:Int,rounds (fun s=>QaJ.b0 N a1 s.1 s.2) n_ (x4,x5)=some o1_∧Fr t (fun O=>([v2,int .i64 x4,O 2,O 3,O 4,int .i64 x5,O 6,O 7,O 8,O 9,O 10,O 11,O 12,O 13,O 14,O 15,O 16,O 17,O 18,O 19,O 20,O 21,O 22,O 23,O 24,O 25,O 26,O 27,O 28,O 29,O 30,O 31,O 32,O 33]:List Value))∧St w0 [] w) N ⟨a3,0,Ho,rfl,hs⟩ ?_ ?_
 ·
  rintro _ _ ⟨x4,x5,h,_⟩
  exact rounds_zero h
 intro n_ ih1_
 rintro t w ⟨x4,x5,Ho,hf,hs⟩
 obtain ⟨O,rfl⟩:=hf.open
 show G _ _ _ _ [_,_,_,_,_,_,_,_,_,_,_,_,_,_,_,_,_,_,_,_,_,_,_,_,_,_,_,_,_,_,_,_,_,_] _
 obtain ⟨x3_,H,Hx1_⟩:=rounds_succ Ho
 have H:QaJ.b0 N a1 x4 x5=some x3_:=H
 unfold QaJ.b0 at H
 refine Qac (Qac (Qaj [0,1,2,3] rfl ?_))
 refine Qaa (v:=int .i64 x5) rfl rfl rfl ?_
 refine Qaa (v:=v2) rfl rfl rfl ?_
 refine Qbn (hs.rd hr0) rfl rfl rfl rfl rfl ?_
 refine Qas (B:=decide (x5< (a1.length:Int))) rfl rfl rfl ?_ ?_
 ·
  intro hb
  rw [if_pos (b_dec_t hb)] at H
  show G _ _ _ _ [_,_,_,_,_,_,_,_,_,_,_,_,_,_,_,_,_,_,_,_,_,_,_,_,_,_,_,_,_,_,_,_,_,_] _
  refine Qab (Qak rfl (Qaw (Qac ?_)))
  refine Qbd (Qac (Qac (Qaj [0,1,2,3,4,5,6,7] rfl ?_)))
  refine Qaa (v:=v2) rfl rfl rfl ?_
  refine Qaa (v:=int .i64 x5) rfl rfl rfl ?_
  obtain ⟨g1,H⟩:=ite_get H
  refine Qbl QaL Qat (hs.rd hr0) rfl (fun _=>rfl) g1.1 g1.2 rfl rfl rfl rfl rfl ?_
  intro p6 hp6 lp6 op6
  refine Qaa (v:=pointer (some (p6.add 0))) rfl rfl (Qbq rfl rfl rfl rfl rfl (m:=1) (fun _=>rfl) (by decide)) ?_
  refine QaI rfl rfl (v:=int .u64 ((rdL a1 x5 Qat).QaO)) rfl rfl (fun _=>rfl) (CellsAt.sub hp6 0 1 (by first|rfl|(simp [Qay,List.drop_append,List.take_append,encAI_len,encAB_len,encA_len,List.take_of_length_le,List.drop_eq_nil_of_le]))) ?_
  refine Qaa (v:=int .i64 x4) rfl rfl rfl ?_
  refine Qaa (v:=int .u64 (u64w x4)) rfl rfl rfl ?_
  refine Qas (B:=((rdL a1 x5 Qat).QaO) !=(u64w x4)) rfl rfl rfl ?_ ?_
  ·
   intro hb
   rw [if_neg (b_bne_t hb)] at H
   refine Qab (Qak rfl (Qac (Qaj [0] rfl ?_)))
   refine Qaa (v:=int .i64 (-1)) rfl rfl rfl ?_
   show G _ _ _ _ [_,_,_,_,_,_,_,_,_,_,_,_,_,_,_,_,_,_,_,_,_,_,_,_,_,_,_,_,_,_,_,_,_,_] _
   refine Qab ?_
   obtain rfl:=QsJ H
   subst Hx1_
   have H:=QsJ Hr1_
   subst H
   refine Qau Tryd.func34 (v:=int .i64 (-1)) (res1 rfl rfl) ?_
   have hs:St _ [] _:=St.take (Γ':=[]) hs
   exact ⟨_,rfl,rfl,hs⟩
  intro hb
  rw [if_pos (b_bne_f hb)] at H
  show G _ _ _ _ [_,_,_,_,_,_,_,_,_,_,_,_,_,_,_,_,_,_,_,_,_,_,_,_,_,_,_,_,_,_,_,_,_,_] _
  refine Qab (Qad rfl (Qaw (Qac (Qaj [0,1,2] rfl ?_))))
  refine Qaa (v:=int .i64 x4) rfl rfl rfl ?_
  refine Qaa (v:=int .i64 (i64w (x4+1))) rfl rfl rfl ?_
  refine Qaa (v:=int .i64 (i64w (x4+1))) rfl rfl rfl (Qab (Qac (Qac (Qaj [0,1,2,3,4,5,6,7,8] rfl ?_))))
  refine Qaa (v:=v2) rfl rfl rfl ?_
  refine Qaa (v:=int .i64 x5) rfl rfl rfl ?_
  obtain ⟨g2,H⟩:=ite_get H
  refine Qbl QaL Qat (hs.rd hr0) rfl (fun _=>rfl) g2.1 g2.2 rfl rfl rfl rfl rfl ?_
  intro p7 hp7 lp7 op7
  show G _ _ _ _ [_,_,_,_,_,_,_,_,_,_,_,_,_,_,_,_,_,_,_,_,_,_,_,_,_,_,_,_,_,_,_,_,_,_] _
  refine Qaa (v:=pointer (some (p7.add 1))) rfl rfl (Qbq rfl rfl rfl rfl rfl (m:=1) (fun _=>rfl) (by decide)) ?_
  refine QaI rfl rfl (v:=bool ((rdL a1 x5 Qat).Qa1)) rfl rfl (fun _=>rfl) (CellsAt.sub hp7 1 1 (by first|rfl|(simp [Qay,List.drop_append,List.take_append,encAI_len,encAB_len,encA_len,List.take_of_length_le,List.drop_eq_nil_of_le]))) ?_
  refine Qaa (v:=int .i64 (i64w (x4+1))) rfl rfl rfl ?_
  refine Qaa (v:=int .i64 ((i64w (x4+1)).tmod 3)) rfl rfl rfl ?_
  refine Qaa (v:=bool (((i64w (x4+1)).tmod 3)==0)) rfl rfl rfl ?_
  show G _ _ _ _ [_,_,_,_,_,_,_,_,_,_,_,_,_,_,_,_,_,_,_,_,_,_,_,_,_,_,_,_,_,_,_,_,_,_] _
  refine Qas (B:=((rdL a1 x5 Qat).Qa1) !=(((i64w (x4+1)).tmod 3)==0)) rfl rfl rfl ?_ ?_
  ·
   intro hb
   rw [if_neg (b_bne_t hb)] at H
   show G _ _ _ _ [_,_,_,_,_,_,_,_,_,_,_,_,_,_,_,_,_,_,_,_,_,_,_,_,_,_,_,_,_,_,_,_,_,_] _
   refine Qab (Qak rfl (Qac (Qaj [0] rfl ?_)))
   refine Qaa (v:=int .i64 (-1)) rfl rfl rfl (Qab ?_)
   obtain rfl:=QsJ H
   subst Hx1_
   have H:=QsJ Hr1_
   subst H
   refine Qau Tryd.func34 (v:=int .i64 (-1)) (res1 rfl rfl) ?_
   have hs:St _ [] _:=St.take (Γ':=[]) hs
   exact ⟨_,rfl,rfl,hs⟩
  intro hb
  rw [if_pos (b_bne_f hb)] at H
  refine Qab (Qad rfl (Qaw (Qaj [0,1,2] rfl ?_)))
  refine Qaa (v:=int .i64 (i64w (x4+1))) rfl rfl rfl ?_
  refine Qaa (v:=int .i64 (i64w ((i64w (x4+1))+1))) rfl rfl rfl ?_
  refine Qaa (v:=int .i64 (i64w ((i64w (x4+1))+1))) rfl rfl rfl ?_
  show G _ _ _ _ [_,_,_,_,_,_,_,_,_,_,_,_,_,_,_,_,_,_,_,_,_,_,_,_,_,_,_,_,_,_,_,_,_,_] _
  refine Qab ?_
  refine QaD (Qaj [0,1,2] rfl ?_)
  refine Qaa (v:=int .i64 x5) rfl rfl rfl ?_
  refine Qaa (v:=int .i64 (i64w (x5+1))) rfl rfl rfl ?_
  refine Qaa (v:=int .i64 (i64w (x5+1))) rfl rfl rfl (Qab ?_)
  obtain rfl:=QsJ H
  have hs:St _ [] _:=St.take (Γ':=[]) hs
  exact ih1_ _ _ ⟨i64w ((i64w (x4+1))+1),i64w (x5+1),Hx1_,rfl,hs⟩
 intro hb
 rw [if_neg (b_dec_f hb)] at H
 refine Qab (Qad rfl ?_)
 obtain rfl:=QsJ H
 subst Hx1_
 have hs:St _ [] _:=St.take (Γ':=[]) hs
 refine Qbi rfl ?_
 exact ha1_ _ _ ⟨x4,Hr1_,rfl,hs⟩
def Qa2.post (w0:World) (r:Int) (v:Value) (w:World):Prop:=v=int .i64 r∧St w0 [] w
theorem Qa2.calls {N:Nat} {a1:Qao} {a4:Int} {v2:Value} {w0:World} {r:Int} (hr3:RdRow Qav w0 v2 a1.Qap) (H:Qa2.f N a1 a4=some r):
 Calls Tryd.prog 13 #[agg (([int .i8 a1.Qai,int .i8 a1.Qaq,v2]:List Value)).toArray,int .i64 a4] w0 fun e w=>∃ v,e= .returned v∧Qa2.post w0 r v w:=by
 unfold Qa2.f at H
 have hs:St w0 [] w0:=St.refl w0
 refine calls_of_g (n:=10) Tryd.func13 rfl rfl ?_
 show G _ _ _ _ [_,_,_,_,_,_,_,_,_,_,_,_] _
 refine Qac (Qaj [0,1] rfl ?_)
 refine Qbp hs rfl rfl (cs:=(([int .i8 a1.Qai,int .i8 a1.Qaq,v2]:List Value))) rfl rfl ?_
 intro b5 w hs
 show G _ _ _ _ [_,_,_,_,_,_,_,_,_,_,_,_] _
 refine Qaa (v:=int .i64 0) rfl rfl rfl (Qab (Qac (Qaj [0,1,2,3,4] rfl ?_)))
 refine Qaa (v:=pointer (some ⟨b5,2,none⟩)) rfl rfl rfl ?_
 refine QaI rfl rfl (v:=v2) rfl rfl (fun _=>rfl) (cells_load (hs.cells 0 rfl) 2 1 rfl) ?_
 show G _ _ _ _ [_,_,_,_,_,_,_,_,_,_,_,_] _
 refine Qaa (v:=int .i64 a4) rfl rfl rfl ?_
 obtain ⟨r7,Hr7,H⟩:=bind_get H
 refine QaA (args:=[v2,int .i64 a4]) rfl rfl (Qax rfl (callFunc_enter Tryd.func34 rfl rfl) rfl) (QaJ.calls (a1:=a1.Qap) (a3:=a4) (hs.rd hr3) Hr7) ?_
 rintro _ w ⟨rfl,hs2⟩
 have hs:St _ [_] _:=hs.call hs2
 refine Qaa (v:=int .i64 r7) rfl rfl rfl ?_
 show G _ _ _ _ [_,_,_,_,_,_,_,_,_,_,_,_] _
 refine Qab (Qac (Qac (Qaj [0,1] rfl ?_)))
 refine Qaa (v:=int .i64 r7) rfl rfl rfl ?_
 refine Qas (B:=decide (r7< 0)) rfl rfl rfl ?_ ?_
 ·
  intro hb
  rw [if_pos (b_dec_t hb)] at H
  refine Qab (Qak rfl (Qac (Qaj [0] rfl ?_)))
  refine Qaa (v:=int .i64 (-1)) rfl rfl rfl (Qab ?_)
  obtain rfl:=QsJ H
  refine Qau Tryd.func13 (v:=int .i64 (-1)) (res1 rfl rfl) ?_
  have hs:St _ [] _:=St.take (Γ':=[_]) hs
  exact ⟨_,rfl,rfl,hs⟩
 intro hb
 rw [if_neg (b_dec_f hb)] at H
 refine Qab (Qad rfl (Qaw (Qac (Qaj [0,1] rfl ?_))))
 refine Qaa (v:=int .i64 r7) rfl rfl rfl ?_
 show G _ _ _ _ [_,_,_,_,_,_,_,_,_,_,_,_] _
 refine Qaa (v:=int .i64 r7) rfl rfl rfl (Qab ?_)
 obtain rfl:=QsJ H
 refine Qau Tryd.func13 (v:=int .i64 r7) (res1 rfl rfl) ?_
 have hs:St _ [] _:=St.take (Γ':=[_]) hs
 exact ⟨_,rfl,rfl,hs⟩
def QaS.post (w0:World) (r:Bool) (v:Value) (w:World):Prop:=v=bool r∧St w0 [] w
theorem QaS.calls {N : Nat} {a1 : ByteArray} {w0 : World} {r : Bool} (htab : Lib.TabIs Tryd.prog w0 "internal/strconv.uint64pow10" .u64 Lib.pow10Tab) (hmax : CellI w0 1) (hsyn : CellE w0 2) (hrng : CellE w0 3) (hdbr : CellU w0 5 15 4) (H : QaS.f N a1 = some r) :
 Calls Tryd.prog 4 #[string a1] w0 fun e w=>∃ v,e= .returned v∧QaS.post w0 r v w:=by
 unfold QaS.f at H
 have hs:St w0 [] w0:=St.refl w0
 refine calls_of_g (n:=65) Tryd.func4 rfl rfl ?_
 show G _ _ _ _ (_::_::_::_::_::_::_::_::_::_::_::_::_::_::_::_::_::_::_::_::_::_::_::_::_::_::_::_::_::_::_::_::_::_::_::_::_::_::_::_::_::_::_::_::_::_::_::_::_::_::_::_::_::_::_::_::_::_::_::_::_::_::_::_::_::_::[]) _
 refine Qac (Qaj [0] rfl ?_)
 refine Qaa (v:=bool false) rfl rfl rfl (g_d rfl (Qab (Qac (Qac (Qaj [0,1,2] rfl ?_)))))
 refine Qaa (v:=string a1) rfl rfl rfl (g_d rfl ?_)
 refine Qaa (v:=int .i64 (a1.size:Int)) rfl rfl (Qbf rfl rfl rfl) (g_d rfl ?_)
 try dsimp only [Qae,Qaf]
 refine Qas (B:=decide ((a1.size:Int)>1048576)) rfl rfl rfl ?_ ?_
 ·
  intro hb
  rw [if_pos (b_dec_t hb)] at H
  refine g_d rfl ?_
  try dsimp only [Qae,Qaf]
  refine Qab (Qak rfl (Qac (Qaj [0] rfl ?_)))
  refine Qaa (v:=bool true) rfl rfl rfl (g_d rfl (Qab ?_))
  obtain rfl:=QsJ H
  refine Qau Tryd.func4 (v:=bool true) (res1 rfl rfl) ?_
  have hs:St _ [] _:=St.take (Γ':=[]) hs
  exact ⟨_,rfl,rfl,hs⟩
 intro hb
 rw [if_neg (b_dec_f hb)] at H
 refine g_d rfl (Qab (Qad rfl (Qaw (Qac (Qaj [0,1,2,3,4,5,6,7] rfl ?_)))))
 refine Qaa (v:=string a1) rfl rfl rfl (g_d rfl ?_)
 obtain ⟨r2,Hr2,H⟩:=bind_get H
 refine QaA (args:=[string a1]) rfl rfl (Qax rfl (callFunc_enter Tryd.func10 rfl rfl) rfl) (QaE.calls (a1:=a1) Hr2) ?_
 rintro _ w ⟨v3,rfl,hs2⟩
 have hs:St _ [_] _:=hs.call hs2
 refine g_d rfl ?_
 try dsimp only [Qae,Qaf]
 refine Qaa (v:=tuple #[agg (([int .i8 r2.1.Qai,int .i8 r2.1.Qaq,v3]:List Value)).toArray,int .i64 r2.2]) rfl rfl rfl (g_d rfl ?_)
 refine Qaa (v:=agg (([int .i8 r2.1.Qai,int .i8 r2.1.Qaq,v3]:List Value)).toArray) rfl rfl rfl (g_d rfl ?_)
 refine Qaa (v:=int .i64 r2.2) rfl rfl rfl (g_d rfl ?_)
 refine Qbm hs rfl rfl (z:=(agg #[int .i8 0,int .i8 0,slice none 0 0])) (cs:=(([int .i8 0,int .i8 0,slice none 0 0]:List Value))) rfl (fun _=>rfl) rfl ?_
 intro b5 w hs
 refine g_d rfl ?_
 refine QaT (n:=3) hs rfl rfl rfl (vs:=(([int .i8 r2.1.Qai,int .i8 r2.1.Qaq,v3]:List Value))) rfl rfl rfl (fun _=>rfl) rfl (by intro v hv;simp only [List.mem_append,List.mem_cons,List.not_mem_nil,or_false] at hv;repeat (first|(subst hv;first|rfl|exact slOne (hs.row 1 rfl))|(rcases hv with hv|hv))) ?_
 intro w hs
 refine g_n rfl ?_
 refine Qaa (v:=int .i64 r2.2) rfl rfl rfl (g_d rfl ?_)
 try dsimp only [Qae,Qaf]
 refine Qab (Qac (Qaj [0,1,2,3,4,5,6,7] rfl ?_))
 refine Qaa (v:=string a1) rfl rfl rfl (g_d rfl ?_)
 obtain ⟨r7,Hr7,H⟩:=bind_get H
 refine QaA (args:=[string a1]) rfl rfl (Qax rfl (callFunc_enter Tryd.func11 rfl rfl) rfl) (QaH.calls (a1:=a1) (hs.tab htab) (hs.cellI hmax) (hs.cellE hsyn) (hs.cellE hrng) (hs.cellU hdbr) Hr7) ?_
 rintro _ w ⟨v8,rfl,hs2⟩
 have hs:St _ [_,_,_] _:=hs.call hs2
 refine g_d rfl ?_
 refine Qaa (v:=tuple #[agg (([int .i8 r7.1.Qai,int .i8 r7.1.Qaq,v8]:List Value)).toArray,int .i64 r7.2]) rfl rfl rfl (g_d rfl ?_)
 refine Qaa (v:=agg (([int .i8 r7.1.Qai,int .i8 r7.1.Qaq,v8]:List Value)).toArray) rfl rfl rfl (g_d rfl ?_)
 refine Qaa (v:=int .i64 r7.2) rfl rfl rfl (g_d rfl ?_)
 refine Qbm hs rfl rfl (z:=(agg #[int .i8 0,int .i8 0,slice none 0 0])) (cs:=(([int .i8 0,int .i8 0,slice none 0 0]:List Value))) rfl (fun _=>rfl) rfl ?_
 intro b10 w hs
 refine g_d rfl ?_
 try dsimp only [Qae,Qaf]
 refine QaT (n:=3) hs rfl rfl rfl (vs:=(([int .i8 r7.1.Qai,int .i8 r7.1.Qaq,v8]:List Value))) rfl rfl rfl (fun _=>rfl) rfl (by intro v hv;simp only [List.mem_append,List.mem_cons,List.not_mem_nil,or_false] at hv;repeat (first|(subst hv;first|rfl|exact slOne (hs.row 1 rfl))|(rcases hv with hv|hv))) ?_
 intro w hs
 refine g_n rfl ?_
 refine Qaa (v:=int .i64 r7.2) rfl rfl rfl (g_d rfl (Qab (Qac (Qac (Qaj [0,1,2,3,4,5,6,7,8] rfl ?_)))))
 refine Qbe rfl rfl (es:=(([int .i8 r7.1.Qai,int .i8 r7.1.Qaq,v8]:List Value))) rfl rfl (fun _=>rfl) (n:=3) (fun _=>rfl) rfl (cells_all (hs.cells 0 rfl)) (g_d rfl ?_)
 try dsimp only [Qae,Qaf]
 refine Qbe rfl rfl (es:=(([int .i8 r2.1.Qai,int .i8 r2.1.Qaq,v3]:List Value))) rfl rfl (fun _=>rfl) (n:=3) (fun _=>rfl) rfl (cells_all (hs.cells 2 rfl)) (g_d rfl ?_)
 obtain ⟨r12,Hr12,H⟩:=bind_get H
 refine QaA (args:=[agg (([int .i8 r7.1.Qai,int .i8 r7.1.Qaq,v8]:List Value)).toArray,agg (([int .i8 r2.1.Qai,int .i8 r2.1.Qaq,v3]:List Value)).toArray]) rfl rfl (Qax rfl (callFunc_enter Tryd.func9 rfl rfl) rfl) (Qa6.calls (a1:=(⟨r7.1.Qai,r7.1.Qaq,r7.1.Qap⟩:Qao)) (a4:=(⟨r2.1.Qai,r2.1.Qaq,r2.1.Qap⟩:Qao)) (hs.row 1 rfl) (hs.row 3 rfl) Hr12) ?_
 rintro _ w ⟨rfl,hs2⟩
 have hs:St _ [_,_,_,_] _:=hs.call hs2
 cases r12 with
 |true=>
  rw [if_pos rfl] at H
  refine g_d rfl ?_
  try dsimp only [Qae,Qaf]
  refine Qaa (v:=bool false) rfl rfl rfl (g_d rfl ?_)
  refine Qaa (v:=bool false) rfl rfl rfl (g_d rfl ?_)
  refine Qaa (v:=int .i64 r7.2) rfl rfl rfl (g_d rfl ?_)
  refine Qaa (v:=int .i64 r2.2) rfl rfl rfl (g_d rfl ?_)
  refine Qas (B:=r7.2 !=r2.2) rfl rfl rfl ?_ ?_
  ·
   intro hb
   rw [if_neg (b_bne_t hb)] at H
   refine g_d rfl ?_
   refine Qaa (v:=bool true) rfl rfl rfl (g_d rfl ?_)
   try dsimp only [Qae,Qaf]
   refine Qab (Qak rfl (Qac (Qaj [0] rfl ?_)))
   refine Qaa (v:=bool false) rfl rfl rfl (g_d rfl (Qab ?_))
   obtain rfl:=QsJ H
   refine Qau Tryd.func4 (v:=bool false) (res1 rfl rfl) ?_
   have hs:St _ [] _:=St.take (Γ':=[_,_,_,_]) hs
   exact ⟨_,rfl,rfl,hs⟩
  intro hb
  rw [if_pos (b_bne_f hb)] at H
  refine g_d rfl ?_
  try dsimp only [Qae,Qaf]
  refine Qaa (v:=bool false) rfl rfl rfl (g_d rfl (Qab (Qad rfl (Qaw (Qac (Qaj [0] rfl ?_))))))
  refine Qaa (v:=int .i64 1) rfl rfl rfl (g_d rfl ?_)
  try dsimp only [Qae,Qaf]
  refine Qab (Qac (Qaj [0,1,2,3] rfl ?_))
  refine Qbe rfl rfl (es:=(([int .i8 r7.1.Qai,int .i8 r7.1.Qaq,v8]:List Value))) rfl rfl (fun _=>rfl) (n:=3) (fun _=>rfl) rfl (cells_all (hs.cells 0 rfl)) (g_d rfl ?_)
  refine Qaa (v:=int .i64 1) rfl rfl rfl (g_d rfl ?_)
  obtain ⟨r13,Hr13,H⟩:=bind_get H
  have hs:St _ [_,_,_,_] _:=hs.pull 1 rfl
  have hs:=hs.pack 1
  refine QaA (args:=[agg (([int .i8 r7.1.Qai,int .i8 r7.1.Qaq,v8]:List Value)).toArray,int .i64 1]) rfl rfl (Qax rfl (callFunc_enter Tryd.func12 rfl rfl) rfl) (Qa9.calls (a1:=(⟨r7.1.Qai,r7.1.Qaq,r7.1.Qap⟩:Qao)) (a4:=1) hs Hr13) ?_
  rintro _ w ⟨rfl,hs⟩
  have hs:=St.unpack (Γ:=[_]) hs
  have hs:St _ [_,_,_,_] _:=hs
  refine g_d rfl ?_
  try dsimp only [Qae,Qaf]
  refine Qaa (v:=int .i64 r13.1) rfl rfl rfl (g_d rfl (Qab (Qac (Qaj [0] rfl ?_))))
  refine Qaa (v:=int .i64 1) rfl rfl rfl (g_d rfl ?_)
  try dsimp only [Qae,Qaf]
  refine Qab (Qac (Qaj [0,1,2,3] rfl ?_))
  refine Qbe rfl rfl (es:=(([int .i8 r7.1.Qai,int .i8 r7.1.Qaq,v8]:List Value))) rfl rfl (fun _=>rfl) (n:=3) (fun _=>rfl) rfl (cells_all (hs.cells 1 rfl)) (g_d rfl ?_)
  refine Qaa (v:=int .i64 1) rfl rfl rfl (g_d rfl ?_)
  obtain ⟨r14,Hr14,H⟩:=bind_get H
  refine QaA (args:=[agg (([int .i8 r7.1.Qai,int .i8 r7.1.Qaq,v8]:List Value)).toArray,int .i64 1]) rfl rfl (Qax rfl (callFunc_enter Tryd.func13 rfl rfl) rfl) (Qa2.calls (a1:=(⟨r7.1.Qai,r7.1.Qaq,r13.2⟩:Qao)) (a4:=1) (hs.row 0 rfl) Hr14) ?_
  rintro _ w ⟨rfl,hs2⟩
  have hs:St _ [_,_,_,_] _:=hs.call hs2
  refine g_d rfl ?_
  try dsimp only [Qae,Qaf]
  refine Qaa (v:=int .i64 r14) rfl rfl rfl (g_d rfl (Qab (Qac (Qac (Qaj [0,1] rfl ?_)))))
  refine Qaa (v:=int .i64 r14) rfl rfl rfl (g_d rfl ?_)
  refine Qas (B:=decide (r14< 0)) rfl rfl rfl ?_ ?_
  ·
   intro hb
   rw [if_pos (b_dec_t hb)] at H
   refine g_d rfl (Qab (Qak rfl (Qac (Qaj [0] rfl ?_))))
   refine Qaa (v:=bool false) rfl rfl rfl (g_d rfl ?_)
   try dsimp only [Qae,Qaf]
   refine Qab ?_
   obtain rfl:=QsJ H
   refine Qau Tryd.func4 (v:=bool false) (res1 rfl rfl) ?_
   have hs:St _ [] _:=St.take (Γ':=[_,_,_,_]) hs
   exact ⟨_,rfl,rfl,hs⟩
  intro hb
  rw [if_neg (b_dec_f hb)] at H
  refine g_d rfl ?_
  try dsimp only [Qae,Qaf]
  refine Qab (Qad rfl (Qaw (Qac (Qac (Qaj [0,1,2] rfl ?_)))))
  refine Qaa (v:=int .i64 r14) rfl rfl rfl (g_d rfl ?_)
  refine Qaa (v:=int .i64 r13.1) rfl rfl rfl (g_d rfl ?_)
  refine Qas (B:=r14 !=r13.1) rfl rfl rfl ?_ ?_
  ·
   intro hb
   rw [if_neg (b_bne_t hb)] at H
   refine g_d rfl (Qab (Qak rfl (Qac (Qaj [0] rfl ?_))))
   refine Qaa (v:=bool false) rfl rfl rfl (g_d rfl ?_)
   try dsimp only [Qae,Qaf]
   refine Qab ?_
   obtain rfl:=QsJ H
   refine Qau Tryd.func4 (v:=bool false) (res1 rfl rfl) ?_
   have hs:St _ [] _:=St.take (Γ':=[_,_,_,_]) hs
   exact ⟨_,rfl,rfl,hs⟩
  intro hb
  rw [if_pos (b_bne_f hb)] at H
  refine g_d rfl (Qab (Qad rfl (Qaw (Qac (Qaj [0,1,2,3,4,5,6,7] rfl ?_)))))
  refine Qaa (v:=string a1) rfl rfl rfl (g_d rfl ?_)
  obtain ⟨r15,Hr15,H⟩:=bind_get H
  refine QaA (args:=[string a1]) rfl rfl (Qax rfl (callFunc_enter Tryd.func11 rfl rfl) rfl) (QaH.calls (a1:=a1) (hs.tab htab) (hs.cellI hmax) (hs.cellE hsyn) (hs.cellE hrng) (hs.cellU hdbr) Hr15) ?_
  rintro _ w ⟨v16,rfl,hs2⟩
  have hs:St _ [_,_,_,_,_] _:=hs.call hs2
  refine g_d rfl ?_
  try dsimp only [Qae,Qaf]
  refine Qaa (v:=tuple #[agg (([int .i8 r15.1.Qai,int .i8 r15.1.Qaq,v16]:List Value)).toArray,int .i64 r15.2]) rfl rfl rfl (g_d rfl ?_)
  refine Qaa (v:=agg (([int .i8 r15.1.Qai,int .i8 r15.1.Qaq,v16]:List Value)).toArray) rfl rfl rfl (g_d rfl ?_)
  refine Qaa (v:=int .i64 r15.2) rfl rfl rfl (g_d rfl ?_)
  refine Qbm hs rfl rfl (z:=(agg #[int .i8 0,int .i8 0,slice none 0 0])) (cs:=(([int .i8 0,int .i8 0,slice none 0 0]:List Value))) rfl (fun _=>rfl) rfl ?_
  intro b18 w hs
  refine g_d rfl ?_
  refine QaT (n:=3) hs rfl rfl rfl (vs:=(([int .i8 r15.1.Qai,int .i8 r15.1.Qaq,v16]:List Value))) rfl rfl rfl (fun _=>rfl) rfl (by intro v hv;simp only [List.mem_append,List.mem_cons,List.not_mem_nil,or_false] at hv;repeat (first|(subst hv;first|rfl|exact slOne (hs.row 1 rfl))|(rcases hv with hv|hv))) ?_
  intro w hs
  refine g_n rfl ?_
  refine Qaa (v:=int .i64 r15.2) rfl rfl rfl (g_d rfl ?_)
  try dsimp only [Qae,Qaf]
  refine Qab (Qac (Qac (Qaj [0,1,2,3,4,5,6,7,8] rfl ?_)))
  refine Qbe rfl rfl (es:=(([int .i8 r15.1.Qai,int .i8 r15.1.Qaq,v16]:List Value))) rfl rfl (fun _=>rfl) (n:=3) (fun _=>rfl) rfl (cells_all (hs.cells 0 rfl)) (g_d rfl ?_)
  refine Qbe rfl rfl (es:=(([int .i8 r2.1.Qai,int .i8 r2.1.Qaq,v3]:List Value))) rfl rfl (fun _=>rfl) (n:=3) (fun _=>rfl) rfl (cells_all (hs.cells 4 rfl)) (g_d rfl ?_)
  try dsimp only [Qae,Qaf]
  obtain ⟨r20,Hr20,H⟩:=bind_get H
  refine QaA (args:=[agg (([int .i8 r15.1.Qai,int .i8 r15.1.Qaq,v16]:List Value)).toArray,agg (([int .i8 r2.1.Qai,int .i8 r2.1.Qaq,v3]:List Value)).toArray]) rfl rfl (Qax rfl (callFunc_enter Tryd.func9 rfl rfl) rfl) (Qa6.calls (a1:=(⟨r15.1.Qai,r15.1.Qaq,r15.1.Qap⟩:Qao)) (a4:=(⟨r2.1.Qai,r2.1.Qaq,r2.1.Qap⟩:Qao)) (hs.row 1 rfl) (hs.row 5 rfl) Hr20) ?_
  rintro _ w ⟨rfl,hs2⟩
  have hs:St _ [_,_,_,_,_,_] _:=hs.call hs2
  cases r20 with
  |true=>
   rw [if_pos rfl] at H
   refine g_d rfl ?_
   refine Qaa (v:=bool false) rfl rfl rfl (g_d rfl ?_)
   try dsimp only [Qae,Qaf]
   refine Qaa (v:=bool false) rfl rfl rfl (g_d rfl ?_)
   refine Qaa (v:=int .i64 r15.2) rfl rfl rfl (g_d rfl ?_)
   refine Qaa (v:=int .i64 r2.2) rfl rfl rfl (g_d rfl ?_)
   refine Qas (B:=r15.2 !=r2.2) rfl rfl rfl ?_ ?_
   ·
    intro hb
    rw [if_neg (b_bne_t hb)] at H
    refine g_d rfl ?_
    refine Qaa (v:=bool true) rfl rfl rfl (g_d rfl ?_)
    try dsimp only [Qae,Qaf]
    refine Qab (Qak rfl (Qac (Qaj [0] rfl ?_)))
    refine Qaa (v:=bool false) rfl rfl rfl (g_d rfl (Qab ?_))
    obtain rfl:=QsJ H
    refine Qau Tryd.func4 (v:=bool false) (res1 rfl rfl) ?_
    have hs:St _ [] _:=St.take (Γ':=[_,_,_,_,_,_]) hs
    exact ⟨_,rfl,rfl,hs⟩
   intro hb
   rw [if_pos (b_bne_f hb)] at H
   refine g_d rfl ?_
   refine Qaa (v:=bool false) rfl rfl rfl (g_d rfl ?_)
   try dsimp only [Qae,Qaf]
   refine Qab (Qad rfl (Qaw (Qac (Qaj [0] rfl ?_))))
   refine Qaa (v:=int .i64 1) rfl rfl rfl (g_d rfl (Qab (Qac (Qaj [0,1,2,3] rfl ?_))))
   refine Qbe rfl rfl (es:=(([int .i8 r7.1.Qai,int .i8 r7.1.Qaq,v8]:List Value))) rfl rfl (fun _=>rfl) (n:=3) (fun _=>rfl) rfl (cells_all (hs.cells 3 rfl)) (g_d rfl ?_)
   try dsimp only [Qae,Qaf]
   refine Qaa (v:=int .i64 1) rfl rfl rfl (g_d rfl ?_)
   obtain ⟨r21,Hr21,H⟩:=bind_get H
   refine QaA (args:=[agg (([int .i8 r7.1.Qai,int .i8 r7.1.Qaq,v8]:List Value)).toArray,int .i64 1]) rfl rfl (Qax rfl (callFunc_enter Tryd.func13 rfl rfl) rfl) (Qa2.calls (a1:=(⟨r7.1.Qai,r7.1.Qaq,r13.2⟩:Qao)) (a4:=1) (hs.row 2 rfl) Hr21) ?_
   rintro _ w ⟨rfl,hs2⟩
   have hs:St _ [_,_,_,_,_,_] _:=hs.call hs2
   refine g_d rfl ?_
   refine Qaa (v:=int .i64 r21) rfl rfl rfl (g_d rfl ?_)
   try dsimp only [Qae,Qaf]
   refine Qab (Qac (Qac (Qaj [0,1] rfl ?_)))
   refine Qaa (v:=int .i64 r21) rfl rfl rfl (g_d rfl ?_)
   refine Qas (B:=decide (r21< 0)) rfl rfl rfl ?_ ?_
   ·
    intro hb
    rw [if_pos (b_dec_t hb)] at H
    refine g_d rfl (Qab (Qak rfl (Qac (Qaj [0] rfl ?_))))
    refine Qaa (v:=bool false) rfl rfl rfl (g_d rfl ?_)
    try dsimp only [Qae,Qaf]
    refine Qab ?_
    obtain rfl:=QsJ H
    refine Qau Tryd.func4 (v:=bool false) (res1 rfl rfl) ?_
    have hs:St _ [] _:=St.take (Γ':=[_,_,_,_,_,_]) hs
    exact ⟨_,rfl,rfl,hs⟩
   intro hb
   rw [if_neg (b_dec_f hb)] at H
   refine g_d rfl (Qab (Qad rfl (Qaw (Qac (Qac (Qaj [0,1,2] rfl ?_))))))
   refine Qaa (v:=int .i64 r21) rfl rfl rfl (g_d rfl ?_)
   refine Qaa (v:=int .i64 r13.1) rfl rfl rfl (g_d rfl ?_)
   refine Qas (B:=r21 !=r13.1) rfl rfl rfl ?_ ?_
   ·
    intro hb
    rw [if_neg (b_bne_t hb)] at H
    refine g_d rfl (Qab (Qak rfl (Qac (Qaj [0] rfl ?_))))
    refine Qaa (v:=bool false) rfl rfl rfl (g_d rfl ?_)
    try dsimp only [Qae,Qaf]
    refine Qab ?_
    obtain rfl:=QsJ H
    refine Qau Tryd.func4 (v:=bool false) (res1 rfl rfl) ?_
    have hs:St _ [] _:=St.take (Γ':=[_,_,_,_,_,_]) hs
    exact ⟨_,rfl,rfl,hs⟩
   intro hb
   rw [if_pos (b_bne_f hb)] at H
   refine g_d rfl ?_
   try dsimp only [Qae,Qaf]
   refine Qab (Qad rfl (Qaw (Qac (Qaj [0] rfl ?_))))
   refine Qaa (v:=bool true) rfl rfl rfl (g_d rfl (Qab ?_))
   obtain rfl:=QsJ H
   refine Qau Tryd.func4 (v:=bool true) (res1 rfl rfl) ?_
   have hs:St _ [] _:=St.take (Γ':=[_,_,_,_,_,_]) hs
   exact ⟨_,rfl,rfl,hs⟩
  |false=>
   rw [if_neg Bool.false_ne_true] at H
   refine g_d rfl ?_
   refine Qaa (v:=bool true) rfl rfl rfl (g_d rfl ?_)
   try dsimp only [Qae,Qaf]
   refine Qaa (v:=bool true) rfl rfl rfl (g_d rfl (Qag rfl rfl (g_d rfl (Qag rfl rfl (g_d rfl (Qag rfl rfl (g_d rfl ?_)))))))
   refine Qaa (v:=bool true) rfl rfl rfl (g_d rfl ?_)
   try dsimp only [Qae,Qaf]
   refine Qab (Qak rfl (Qac (Qaj [0] rfl ?_)))
   refine Qaa (v:=bool false) rfl rfl rfl (g_d rfl (Qab ?_))
   obtain rfl:=QsJ H
   refine Qau Tryd.func4 (v:=bool false) (res1 rfl rfl) ?_
   have hs:St _ [] _:=St.take (Γ':=[_,_,_,_,_,_]) hs
   exact ⟨_,rfl,rfl,hs⟩
 |false=>
  rw [if_neg Bool.false_ne_true] at H
  refine g_d rfl ?_
  try dsimp only [Qae,Qaf]
  refine Qaa (v:=bool true) rfl rfl rfl (g_d rfl ?_)
  refine Qaa (v:=bool true) rfl rfl rfl (g_d rfl (Qag rfl rfl (g_d rfl (Qag rfl rfl (g_d rfl (Qag rfl rfl (g_d rfl ?_)))))))
  try dsimp only [Qae,Qaf]
  refine Qaa (v:=bool true) rfl rfl rfl (g_d rfl (Qab (Qak rfl (Qac (Qaj [0] rfl ?_)))))
  refine Qaa (v:=bool false) rfl rfl rfl (g_d rfl ?_)
  try dsimp only [Qae,Qaf]
  refine Qab ?_
  obtain rfl:=QsJ H
  refine Qau Tryd.func4 (v:=bool false) (res1 rfl rfl) ?_
  have hs:St _ [] _:=St.take (Γ':=[_,_,_,_]) hs
  exact ⟨_,rfl,rfl,hs⟩
end Go.Proofs.YtljkpeeabpdalaaDoorX
